/- Functions of the program as pure functions, and that it computes them. Printed by a program of mine (gen.py). -/
import Derived.Test.YtfakfcaegabgaaaGVAF4
set_option linter.unusedVariables false
set_option linter.unusedSimpArgs false
set_option maxRecDepth 100000
namespace Go.Am
open Go Go.Proofs
def impl_ValueAt (p : GSystem × (List Int) × Int) : Option (GTerm × Bool) :=
  match p with
  | (s0, ty1, k2) =>
    (impl_CountValues (s0, ty1)) >>= fun r_1_3 =>
    (impl_within (k2, 0, (wr (r_1_3 - 1)))) >>= fun r_1_5 =>
    if r_1_5 = true then
      (impl_valueAt (ty1, k2)) >>= fun r_3_2 =>
      some (r_3_2, true)
    else
      some ((GTerm.mk 0 0 [] []), false)
def M_impl_ValueAt (p : GSystem × (List Int) × Int) (r : GTerm × Bool) : Prop :=
  match p with
  | (s0, ty1, k2) => FnSound Try.prog 32 [.agg [.int .i64 s0.fSize, .sl (List.map I s0.fPlus), .sl (List.map I s0.fTimes), .sl (List.map AV.bool s0.fBelow)], .sl (List.map I ty1), .int .i64 k2] (.tup [.agg [.int .i64 r.1.fOp, .int .i64 r.1.fN, .osl (List.map I r.1.fType), .osl (List.map GTerm_O r.1.fKids)], .bool r.2]) []
theorem impl_ValueAt_s : ∀ p r, impl_ValueAt p = some r → M_impl_ValueAt p r := by
  rintro ⟨s0, ty1, k2⟩ r h
  unfold impl_ValueAt at h
  show FnSound Try.prog 32 [.agg [.int .i64 s0.fSize, .sl (List.map I s0.fPlus), .sl (List.map I s0.fTimes), .sl (List.map AV.bool s0.fBelow)], .sl (List.map I ty1), .int .i64 k2] (.tup [.agg [.int .i64 r.1.fOp, .int .i64 r.1.fN, .osl (List.map I r.1.fType), .osl (List.map GTerm_O r.1.fKids)], .bool r.2]) []
  refine FnSound.body0 tiok (fn := Try.f32) (code := B32) (by kernel_rfl) (by kernel_rfl) (by kernel_rfl) (by kernel_rfl) (nt := 19) (by kernel_rfl) (by kernel_rfl) (T := [(0, .agg [.int .i64 s0.fSize, .sl (List.map I s0.fPlus), .sl (List.map I s0.fTimes), .sl (List.map AV.bool s0.fBelow)]), (1, .sl (List.map I ty1)), (2, .int .i64 k2)]) (O := []) (by kernel_rfl) (by kernel_rfl) (fun c hc => ?_)
  refine Wp.seqN (by kernel_rfl) ?_
  refine Wp.reg tiok mix hc (by kernel_rfl) (ah := none) (rs := [some (.new 1), some (.new 2), some (.no)]) (kt := [1, 2, 3, 6]) (ko := [1, 2]) (T' := [(1, .sl (List.map I ty1)), (2, .int .i64 k2), (3, .ra 1 0), (6, .ra 2 0)]) (O' := [(1, .box [.int .i64 s0.fSize, .sl (List.map I s0.fPlus), .sl (List.map I s0.fTimes), .sl (List.map AV.bool s0.fBelow)]), (2, .box [.int .i64 0, .int .i64 0, .nils, .nils])]) (by kernel_rfl) trivial (by kernel_rfl) (by kernel_rfl) ?_
  refine seqQ_norm ?_
  refine Wp.seqN (by kernel_rfl) ?_
  refine Wp.seqN (by kernel_rfl) ?_
  obtain ⟨r_1_3, hr_1_3, h⟩ := bsome h
  obtain ⟨r_1_5, hr_1_5, h⟩ := bsome h
  refine Wp.reg tiok mix hc (by kernel_rfl) (ah := none) (rs := [some (.no), some (.no), some (.no), some (.call (.int .i64 r_1_3) [] 1), some (.no), some (.call (.bool r_1_5) [] 1), some (.no)]) (kt := [1, 2, 6, 14]) (ko := [2]) (T' := [(1, .sl (List.map I ty1)), (2, .int .i64 k2), (6, .ra 2 0), (14, .bool (!r_1_5))]) (O' := [(2, .box [.int .i64 0, .int .i64 0, .nils, .nils])]) (by kernel_rfl) (And.intro (impl_CountValues_s _ _ hr_1_3) (And.intro bod_70 (And.intro (Or.inl rfl : ([] : List Nat) = [] ∨ noSh (.int .i64 r_1_3) = true) (And.intro (impl_within_s _ _ hr_1_5) (And.intro bod_64 (And.intro (Or.inl rfl : ([] : List Nat) = [] ∨ noSh (.bool r_1_5) = true) trivial)))))) (by kernel_rfl) (by kernel_rfl) ?_
  refine seqQ_norm ?_
  rcases itesome h with ⟨hb_1, h⟩ | ⟨hb_1, h⟩
  · refine Wp.condF (b := (!r_1_5)) (by kernel_rfl) (by kernel_rfl) (nF hb_1) ?_
    refine Wp.skipN (by kernel_rfl) ?_
    refine seqQ_norm ?_
    refine Wp.seqN (by kernel_rfl) ?_
    obtain ⟨r_3_2, hr_3_2, h⟩ := bsome h
    refine Wp.reg tiok mix hc (by kernel_rfl) (ah := none) (rs := [some (.no), some (.no), some (.call (.agg [.int .i64 r_3_2.fOp, .int .i64 r_3_2.fN, .osl (List.map I r_3_2.fType), .osl (List.map GTerm_O r_3_2.fKids)]) [] 3), some (.no), some (.no)]) (kt := [6, 7]) (ko := [2, 3, 4]) (T' := [(6, .ra 2 0), (7, .bool true)]) (O' := [(2, .box [.int .i64 r_3_2.fOp, .int .i64 r_3_2.fN, .rs 3, .rs 4]), (3, .arr (List.map I r_3_2.fType)), (4, .arr (List.map GTerm_O r_3_2.fKids))]) (by kernel_rfl) (And.intro (impl_valueAt_s _ _ hr_3_2) (And.intro bod_78 (And.intro (Or.inl rfl : ([] : List Nat) = [] ∨ noSh (.agg [.int .i64 r_3_2.fOp, .int .i64 r_3_2.fN, .osl (List.map I r_3_2.fType), .osl (List.map GTerm_O r_3_2.fKids)]) = true) trivial))) (by kernel_rfl) (by kernel_rfl) ?_
    refine seqQ_norm ?_
    refine Wp.retN (by kernel_rfl) ?_
    obtain rfl := Option.some.inj h
    exact RetQ.ret (fl := [true, true]) (by kernel_rfl)
  · refine Wp.condT (b := (!r_1_5)) (by kernel_rfl) (by kernel_rfl) (nT hb_1) ?_
    refine Wp.seqN (by kernel_rfl) ?_
    refine Wp.reg tiok mix hc (by kernel_rfl) (ah := none) (rs := [some (.no), some (.no), some (.no)]) (kt := [6, 7]) (ko := [2]) (T' := [(6, .ra 2 0), (7, .bool false)]) (O' := [(2, .box [.int .i64 0, .int .i64 0, .nils, .nils])]) (by kernel_rfl) trivial (by kernel_rfl) (by kernel_rfl) ?_
    refine seqQ_norm ?_
    refine Wp.retN (by kernel_rfl) ?_
    refine seqQ_ret ?_
    obtain rfl := Option.some.inj h
    exact RetQ.ret (fl := [true, true]) (by kernel_rfl)
def laws_eqIntS_F1 (c : Ctx) : (Unit) ⊕ (Bool) → Exit → AState → Prop
  | .inl _ => Into c (.exit 0) (mkS [] [])
  | .inr r => RetE TIx Try.f18 [] (.bool r)
def laws_eqIntS_l0 (p : (List Int) × (List Int) × Int) : Option ((Unit) ⊕ (Bool)) :=
  match p with
  | (a0, b1, i_4) =>
    if (decide (i_4 < (a0.length : Int))) = true then
      (idx a0 i_4) >>= fun e_6_2 =>
      (idx b1 i_4) >>= fun e_6_6 =>
      if (e_6_2 != e_6_6) = true then
        some (.inr false)
      else
        laws_eqIntS_l0 (a0, b1, (wr (i_4 + 1)))
    else
      some (.inl ())
  partial_fixpoint
def M_laws_eqIntS_l0 (p : (List Int) × (List Int) × Int) (fl : (Unit) ⊕ (Bool)) : Prop :=
  match p with
  | (a0, b1, i_4) => ∀ c : Ctx, c.nt = 26 → WpL Try.prog c (cl (cl (cr (cl (cr (cr B18)))))) (laws_eqIntS_F1 c fl) (mkS [(0, .sl (List.map I a0)), (1, .sl (List.map I b1)), (5, .int .i64 i_4)] [])
theorem laws_eqIntS_l0_s : ∀ p r, laws_eqIntS_l0 p = some r → M_laws_eqIntS_l0 p r := by
  refine laws_eqIntS_l0.partial_correctness M_laws_eqIntS_l0 ?_
  rintro laws_eqIntS_l0_f laws_eqIntS_l0_ih ⟨a0, b1, i_4⟩ r h
  intro c hc
  show WpL Try.prog c (cl (cl (cr (cl (cr (cr B18)))))) (laws_eqIntS_F1 c r) (mkS [(0, .sl (List.map I a0)), (1, .sl (List.map I b1)), (5, .int .i64 i_4)] [])
  refine WpL.step ?_
  refine Wp.seqN (by kernel_rfl) ?_
  refine Wp.seqN (by kernel_rfl) ?_
  refine Wp.reg tiok mix hc (by kernel_rfl) (ah := none) (rs := [some (.no), some (.no), some (.eqv (.no) ⟨[(13, .int .i64 (a0.length : Int))], [], []⟩), some (.no)]) (kt := [0, 1, 5, 14]) (ko := []) (T' := [(0, .sl (List.map I a0)), (1, .sl (List.map I b1)), (5, .int .i64 i_4), (14, .bool (decide (i_4 < (a0.length : Int))))]) (O' := []) (by kernel_rfl) (And.intro (lenT (d := 13) I a0) trivial) (by kernel_rfl) (by kernel_rfl) ?_
  refine seqQ_norm ?_
  rcases itesome h with ⟨hb_5, h⟩ | ⟨hb_5, h⟩
  · refine Wp.condT (b := (decide (i_4 < (a0.length : Int)))) (by kernel_rfl) (by kernel_rfl) hb_5 ?_
    refine Wp.skipN (by kernel_rfl) ?_
    refine seqQ_norm ?_
    refine Wp.seqN (by kernel_rfl) ?_
    refine Wp.blockN (i := 1) (by kernel_rfl) ?_
    refine Wp.seqN (by kernel_rfl) ?_
    obtain ⟨e_6_2, hi_6_2, h⟩ := bsome h
    obtain ⟨e_6_6, hi_6_6, h⟩ := bsome h
    refine Wp.reg tiok mix hc (by kernel_rfl) (ah := (some [[], [], [0, 1], [0, 1, 2], [], [], [4, 5], [4, 5, 6], [0, 1, 2, 3, 4, 5, 6, 7]])) (rs := [some (.no), some (.no), some (.el (.int .i64 e_6_2)), some (.no), some (.no), some (.no), some (.el (.int .i64 e_6_6)), some (.no), some (.no)]) (kt := [0, 1, 5, 25]) (ko := []) (T' := [(0, .sl (List.map I a0)), (1, .sl (List.map I b1)), (5, .int .i64 i_4), (25, .bool (e_6_2 != e_6_6))]) (O' := []) (by kernel_rfl) (And.intro (idx_sl (enc := I) (x := .int .i64 e_6_2) hi_6_2 (eq_I e_6_2)) (And.intro (idx_sl (enc := I) (x := .int .i64 e_6_6) hi_6_6 (eq_I e_6_6)) trivial)) (by kernel_rfl) (by kernel_rfl) ?_
    refine seqQ_norm ?_
    rcases itesome h with ⟨hb_6, h⟩ | ⟨hb_6, h⟩
    · refine Wp.condT (b := (e_6_2 != e_6_6)) (by kernel_rfl) (by kernel_rfl) hb_6 ?_
      refine Wp.seqN (by kernel_rfl) ?_
      refine Wp.reg tiok mix hc (by kernel_rfl) (ah := none) (rs := [some (.no)]) (kt := [4]) (ko := []) (T' := [(4, .bool false)]) (O' := []) (by kernel_rfl) trivial (by kernel_rfl) (by kernel_rfl) ?_
      refine seqQ_norm ?_
      refine Wp.retN (by kernel_rfl) ?_
      refine blockQ_ret ?_
      refine seqQ_ret ?_
      refine loopQ_ret ?_
      obtain rfl := Option.some.inj h
      exact RetE.ret (fl := [true]) (by kernel_rfl)
    · refine Wp.condF (b := (e_6_2 != e_6_6)) (by kernel_rfl) (by kernel_rfl) hb_6 ?_
      refine Wp.skipN (by kernel_rfl) ?_
      refine blockQ_norm ?_
      refine seqQ_norm ?_
      refine Wp.reg tiok mix hc (by kernel_rfl) (ah := none) (rs := [some (.no), some (.no), some (.no)]) (kt := [0, 1, 5]) (ko := []) (T' := [(0, .sl (List.map I a0)), (1, .sl (List.map I b1)), (5, .int .i64 (wr (i_4 + 1)))]) (O' := []) (by kernel_rfl) trivial (by kernel_rfl) (by kernel_rfl) ?_
      refine loopQ_norm ?_
      exact (laws_eqIntS_l0_ih _ _ h c hc)
  · refine Wp.condF (b := (decide (i_4 < (a0.length : Int)))) (by kernel_rfl) (by kernel_rfl) hb_5 ?_
    refine Wp.exitN (i := 0) (by kernel_rfl) ?_
    refine seqQ_exit ?_
    refine loopQ_exit ?_
    obtain rfl := Option.some.inj h
    exact Into.view (fun a w hv => SRx.renL [] hv (by kernel_rfl) (by kernel_rfl) (by kernel_rfl))
def laws_eqIntS (p : (List Int) × (List Int)) : Option (Bool) :=
  match p with
  | (a0, b1) =>
    if ((a0.length : Int) != (b1.length : Int)) = true then
      some false
    else
      (laws_eqIntS_l0 (a0, b1, 0)) >>= fun fl => match fl with
      | .inl () =>
        some true
      | .inr r =>
        some r
def M_laws_eqIntS (p : (List Int) × (List Int)) (r : Bool) : Prop :=
  match p with
  | (a0, b1) => FnSound Try.prog 18 [.sl (List.map I a0), .sl (List.map I b1)] (.bool r) []
theorem laws_eqIntS_s : ∀ p r, laws_eqIntS p = some r → M_laws_eqIntS p r := by
  rintro ⟨a0, b1⟩ r h
  unfold laws_eqIntS at h
  show FnSound Try.prog 18 [.sl (List.map I a0), .sl (List.map I b1)] (.bool r) []
  refine FnSound.body0 tiok (fn := Try.f18) (code := B18) (by kernel_rfl) (by kernel_rfl) (by kernel_rfl) (by kernel_rfl) (nt := 26) (by kernel_rfl) (by kernel_rfl) (T := [(0, .sl (List.map I a0)), (1, .sl (List.map I b1))]) (O := []) (by kernel_rfl) (by kernel_rfl) (fun c hc => ?_)
  refine Wp.seqN (by kernel_rfl) ?_
  refine Wp.reg tiok mix hc (by kernel_rfl) (ah := none) (rs := [some (.no)]) (kt := [0, 1]) (ko := []) (T' := [(0, .sl (List.map I a0)), (1, .sl (List.map I b1))]) (O' := []) (by kernel_rfl) trivial (by kernel_rfl) (by kernel_rfl) ?_
  refine seqQ_norm ?_
  refine Wp.seqN (by kernel_rfl) ?_
  refine Wp.seqN (by kernel_rfl) ?_
  refine Wp.reg tiok mix hc (by kernel_rfl) (ah := none) (rs := [some (.no), some (.eqv (.no) ⟨[(7, .int .i64 (a0.length : Int))], [], []⟩), some (.no), some (.eqv (.no) ⟨[(9, .int .i64 (b1.length : Int))], [], []⟩), some (.no)]) (kt := [0, 1, 10]) (ko := []) (T' := [(0, .sl (List.map I a0)), (1, .sl (List.map I b1)), (10, .bool ((a0.length : Int) != (b1.length : Int)))]) (O' := []) (by kernel_rfl) (And.intro (lenT (d := 7) I a0) (And.intro (lenT (d := 9) I b1) trivial)) (by kernel_rfl) (by kernel_rfl) ?_
  refine seqQ_norm ?_
  rcases itesome h with ⟨hb_1, h⟩ | ⟨hb_1, h⟩
  · refine Wp.condT (b := ((a0.length : Int) != (b1.length : Int))) (by kernel_rfl) (by kernel_rfl) hb_1 ?_
    refine Wp.seqN (by kernel_rfl) ?_
    refine Wp.reg tiok mix hc (by kernel_rfl) (ah := none) (rs := [some (.no)]) (kt := [4]) (ko := []) (T' := [(4, .bool false)]) (O' := []) (by kernel_rfl) trivial (by kernel_rfl) (by kernel_rfl) ?_
    refine seqQ_norm ?_
    refine Wp.retN (by kernel_rfl) ?_
    refine seqQ_ret ?_
    obtain rfl := Option.some.inj h
    exact RetQ.ret (fl := [true]) (by kernel_rfl)
  · refine Wp.condF (b := ((a0.length : Int) != (b1.length : Int))) (by kernel_rfl) (by kernel_rfl) hb_1 ?_
    refine Wp.skipN (by kernel_rfl) ?_
    refine seqQ_norm ?_
    refine Wp.seqN (by kernel_rfl) ?_
    refine Wp.seqN (by kernel_rfl) ?_
    refine Wp.reg tiok mix hc (by kernel_rfl) (ah := none) (rs := [some (.no)]) (kt := [0, 1, 5]) (ko := []) (T' := [(0, .sl (List.map I a0)), (1, .sl (List.map I b1)), (5, .int .i64 0)]) (O' := []) (by kernel_rfl) trivial (by kernel_rfl) (by kernel_rfl) ?_
    refine seqQ_norm ?_
    refine Wp.blockN (i := 0) (by kernel_rfl) ?_
    obtain ⟨fl, hl_7, h⟩ := bsome h
    have hL := laws_eqIntS_l0_s _ _ hl_7 c hc
    refine Wp.loopN (by kernel_rfl) ?_
    rcases fl with ⟨⟩ | r
    · refine WpL.into (e := (.exit 0)) (mkS [] []) hL ?_
      refine blockQ_hit ?_
      refine seqQ_norm ?_
      refine Wp.seqN (by kernel_rfl) ?_
      refine Wp.reg tiok mix hc (by kernel_rfl) (ah := none) (rs := [some (.no)]) (kt := [4]) (ko := []) (T' := [(4, .bool true)]) (O' := []) (by kernel_rfl) trivial (by kernel_rfl) (by kernel_rfl) ?_
      refine seqQ_norm ?_
      refine Wp.retN (by kernel_rfl) ?_
      obtain rfl := Option.some.inj h
      exact RetQ.ret (fl := [true]) (by kernel_rfl)
    · refine WpL.mono hL ?_
      rintro _ _ ⟨rfl, hfin⟩
      refine blockQ_ret ?_
      refine seqQ_ret ?_
      obtain rfl := Option.some.inj h
      exact ⟨.inl rfl, hfin⟩
def laws_eqTermS_F1 (c : Ctx) : (Unit) ⊕ (Bool) → Exit → AState → Prop
  | .inl _ => Into c (.exit 0) (mkS [] [])
  | .inr r => RetE TIx Try.f49 [] (.bool r)
mutual
def laws_eqTerm (p : GTerm × GTerm) : Option (Bool) :=
  match p with
  | (a0, b1) =>
    if (a0.fOp != b1.fOp) = true then
      some false
    else
      if (a0.fN != b1.fN) = true then
        some false
      else
        (laws_eqIntS (a0.fType, b1.fType)) >>= fun r_5_4 =>
        if r_5_4 = true then
          (laws_eqTermS (a0.fKids, b1.fKids)) >>= fun r_7_4 =>
          if r_7_4 = true then
            some true
          else
            some false
        else
          some false
  partial_fixpoint
def laws_eqTermS (p : (List GTerm) × (List GTerm)) : Option (Bool) :=
  match p with
  | (a0, b1) =>
    if ((a0.length : Int) != (b1.length : Int)) = true then
      some false
    else
      (laws_eqTermS_l0 (a0, b1, 0)) >>= fun fl => match fl with
      | .inl () =>
        some true
      | .inr r =>
        some r
  partial_fixpoint
def laws_eqTermS_l0 (p : (List GTerm) × (List GTerm) × Int) : Option ((Unit) ⊕ (Bool)) :=
  match p with
  | (a0, b1, i_4) =>
    if (decide (i_4 < (a0.length : Int))) = true then
      (idx a0 i_4) >>= fun e_6_2 =>
      (idx b1 i_4) >>= fun e_6_6 =>
      (laws_eqTerm (e_6_2, e_6_6)) >>= fun r_6_8 =>
      if r_6_8 = true then
        laws_eqTermS_l0 (a0, b1, (wr (i_4 + 1)))
      else
        some (.inr false)
    else
      some (.inl ())
  partial_fixpoint
end
def M_laws_eqTerm (p : GTerm × GTerm) (r : Bool) : Prop :=
  match p with
  | (a0, b1) => FnSound Try.prog 16 [.agg [.int .i64 a0.fOp, .int .i64 a0.fN, .sl (List.map I a0.fType), .sl (List.map GTerm_S a0.fKids)], .agg [.int .i64 b1.fOp, .int .i64 b1.fN, .sl (List.map I b1.fType), .sl (List.map GTerm_S b1.fKids)]] (.bool r) []
def M_laws_eqTermS (p : (List GTerm) × (List GTerm)) (r : Bool) : Prop :=
  match p with
  | (a0, b1) => FnSound Try.prog 49 [.sl (List.map GTerm_S a0), .sl (List.map GTerm_S b1)] (.bool r) []
def M_laws_eqTermS_l0 (p : (List GTerm) × (List GTerm) × Int) (fl : (Unit) ⊕ (Bool)) : Prop :=
  match p with
  | (a0, b1, i_4) => ∀ c : Ctx, c.nt = 27 → WpL Try.prog c (cl (cl (cr (cl (cr (cr B49)))))) (laws_eqTermS_F1 c fl) (mkS [(0, .sl (List.map GTerm_S a0)), (1, .sl (List.map GTerm_S b1)), (5, .int .i64 i_4)] [])
theorem laws_eqTerm_all : (∀ p r, laws_eqTerm p = some r → M_laws_eqTerm p r) ∧ (∀ p r, laws_eqTermS p = some r → M_laws_eqTermS p r) ∧ (∀ p r, laws_eqTermS_l0 p = some r → M_laws_eqTermS_l0 p r) := by
  refine laws_eqTerm.mutual_partial_correctness M_laws_eqTerm M_laws_eqTermS M_laws_eqTermS_l0 ?_ ?_ ?_
  · rintro laws_eqTermS_f laws_eqTermS_ih ⟨a0, b1⟩ r h
    show FnSound Try.prog 16 [.agg [.int .i64 a0.fOp, .int .i64 a0.fN, .sl (List.map I a0.fType), .sl (List.map GTerm_S a0.fKids)], .agg [.int .i64 b1.fOp, .int .i64 b1.fN, .sl (List.map I b1.fType), .sl (List.map GTerm_S b1.fKids)]] (.bool r) []
    refine FnSound.body0 tiok (fn := Try.f16) (code := B16) (by kernel_rfl) (by kernel_rfl) (by kernel_rfl) (by kernel_rfl) (nt := 27) (by kernel_rfl) (by kernel_rfl) (T := [(0, .agg [.int .i64 a0.fOp, .int .i64 a0.fN, .sl (List.map I a0.fType), .sl (List.map GTerm_S a0.fKids)]), (1, .agg [.int .i64 b1.fOp, .int .i64 b1.fN, .sl (List.map I b1.fType), .sl (List.map GTerm_S b1.fKids)])]) (O := []) (by kernel_rfl) (by kernel_rfl) (fun c hc => ?_)
    refine Wp.seqN (by kernel_rfl) ?_
    refine Wp.reg tiok mix hc (by kernel_rfl) (ah := none) (rs := [some (.new 1), some (.new 2), some (.no)]) (kt := [2, 3]) (ko := [1, 2]) (T' := [(2, .ra 1 0), (3, .ra 2 0)]) (O' := [(1, .box [.int .i64 a0.fOp, .int .i64 a0.fN, .sl (List.map I a0.fType), .sl (List.map GTerm_S a0.fKids)]), (2, .box [.int .i64 b1.fOp, .int .i64 b1.fN, .sl (List.map I b1.fType), .sl (List.map GTerm_S b1.fKids)])]) (by kernel_rfl) trivial (by kernel_rfl) (by kernel_rfl) ?_
    refine seqQ_norm ?_
    refine Wp.seqN (by kernel_rfl) ?_
    refine Wp.seqN (by kernel_rfl) ?_
    refine Wp.reg tiok mix hc (by kernel_rfl) (ah := none) (rs := [some (.no), some (.no), some (.no), some (.no), some (.no)]) (kt := [2, 3, 9]) (ko := [1, 2]) (T' := [(2, .ra 1 0), (3, .ra 2 0), (9, .bool (a0.fOp != b1.fOp))]) (O' := [(1, .box [.int .i64 a0.fOp, .int .i64 a0.fN, .sl (List.map I a0.fType), .sl (List.map GTerm_S a0.fKids)]), (2, .box [.int .i64 b1.fOp, .int .i64 b1.fN, .sl (List.map I b1.fType), .sl (List.map GTerm_S b1.fKids)])]) (by kernel_rfl) trivial (by kernel_rfl) (by kernel_rfl) ?_
    refine seqQ_norm ?_
    rcases itesome h with ⟨hb_1, h⟩ | ⟨hb_1, h⟩
    · refine Wp.condT (b := (a0.fOp != b1.fOp)) (by kernel_rfl) (by kernel_rfl) hb_1 ?_
      refine Wp.seqN (by kernel_rfl) ?_
      refine Wp.reg tiok mix hc (by kernel_rfl) (ah := none) (rs := [some (.no)]) (kt := [4]) (ko := []) (T' := [(4, .bool false)]) (O' := []) (by kernel_rfl) trivial (by kernel_rfl) (by kernel_rfl) ?_
      refine seqQ_norm ?_
      refine Wp.retN (by kernel_rfl) ?_
      refine seqQ_ret ?_
      obtain rfl := Option.some.inj h
      exact RetQ.ret (fl := [true]) (by kernel_rfl)
    · refine Wp.condF (b := (a0.fOp != b1.fOp)) (by kernel_rfl) (by kernel_rfl) hb_1 ?_
      refine Wp.skipN (by kernel_rfl) ?_
      refine seqQ_norm ?_
      refine Wp.seqN (by kernel_rfl) ?_
      refine Wp.seqN (by kernel_rfl) ?_
      refine Wp.reg tiok mix hc (by kernel_rfl) (ah := none) (rs := [some (.no), some (.no), some (.no), some (.no), some (.no)]) (kt := [2, 3, 14]) (ko := [1, 2]) (T' := [(2, .ra 1 0), (3, .ra 2 0), (14, .bool (a0.fN != b1.fN))]) (O' := [(1, .box [.int .i64 a0.fOp, .int .i64 a0.fN, .sl (List.map I a0.fType), .sl (List.map GTerm_S a0.fKids)]), (2, .box [.int .i64 b1.fOp, .int .i64 b1.fN, .sl (List.map I b1.fType), .sl (List.map GTerm_S b1.fKids)])]) (by kernel_rfl) trivial (by kernel_rfl) (by kernel_rfl) ?_
      refine seqQ_norm ?_
      rcases itesome h with ⟨hb_2, h⟩ | ⟨hb_2, h⟩
      · refine Wp.condT (b := (a0.fN != b1.fN)) (by kernel_rfl) (by kernel_rfl) hb_2 ?_
        refine Wp.seqN (by kernel_rfl) ?_
        refine Wp.reg tiok mix hc (by kernel_rfl) (ah := none) (rs := [some (.no)]) (kt := [4]) (ko := []) (T' := [(4, .bool false)]) (O' := []) (by kernel_rfl) trivial (by kernel_rfl) (by kernel_rfl) ?_
        refine seqQ_norm ?_
        refine Wp.retN (by kernel_rfl) ?_
        refine seqQ_ret ?_
        obtain rfl := Option.some.inj h
        exact RetQ.ret (fl := [true]) (by kernel_rfl)
      · refine Wp.condF (b := (a0.fN != b1.fN)) (by kernel_rfl) (by kernel_rfl) hb_2 ?_
        refine Wp.skipN (by kernel_rfl) ?_
        refine seqQ_norm ?_
        refine Wp.seqN (by kernel_rfl) ?_
        refine Wp.seqN (by kernel_rfl) ?_
        obtain ⟨r_5_4, hr_5_4, h⟩ := bsome h
        refine Wp.reg tiok mix hc (by kernel_rfl) (ah := none) (rs := [some (.no), some (.no), some (.no), some (.no), some (.call (.bool r_5_4) [] 1), some (.no)]) (kt := [2, 3, 20]) (ko := [1, 2]) (T' := [(2, .ra 1 0), (3, .ra 2 0), (20, .bool (!r_5_4))]) (O' := [(1, .box [.int .i64 a0.fOp, .int .i64 a0.fN, .sl (List.map I a0.fType), .sl (List.map GTerm_S a0.fKids)]), (2, .box [.int .i64 b1.fOp, .int .i64 b1.fN, .sl (List.map I b1.fType), .sl (List.map GTerm_S b1.fKids)])]) (by kernel_rfl) (And.intro (laws_eqIntS_s _ _ hr_5_4) (And.intro bod_18 (And.intro (Or.inl rfl : ([] : List Nat) = [] ∨ noSh (.bool r_5_4) = true) trivial))) (by kernel_rfl) (by kernel_rfl) ?_
        refine seqQ_norm ?_
        rcases itesome h with ⟨hb_3, h⟩ | ⟨hb_3, h⟩
        · refine Wp.condF (b := (!r_5_4)) (by kernel_rfl) (by kernel_rfl) (nF hb_3) ?_
          refine Wp.skipN (by kernel_rfl) ?_
          refine seqQ_norm ?_
          refine Wp.seqN (by kernel_rfl) ?_
          refine Wp.seqN (by kernel_rfl) ?_
          obtain ⟨r_7_4, hr_7_4, h⟩ := bsome h
          refine Wp.reg tiok mix hc (by kernel_rfl) (ah := none) (rs := [some (.no), some (.no), some (.no), some (.no), some (.call (.bool r_7_4) [] 1), some (.no)]) (kt := [26]) (ko := []) (T' := [(26, .bool (!r_7_4))]) (O' := []) (by kernel_rfl) (And.intro (laws_eqTermS_ih _ _ hr_7_4) (And.intro bod_49 (And.intro (Or.inl rfl : ([] : List Nat) = [] ∨ noSh (.bool r_7_4) = true) trivial))) (by kernel_rfl) (by kernel_rfl) ?_
          refine seqQ_norm ?_
          rcases itesome h with ⟨hb_4, h⟩ | ⟨hb_4, h⟩
          · refine Wp.condF (b := (!r_7_4)) (by kernel_rfl) (by kernel_rfl) (nF hb_4) ?_
            refine Wp.skipN (by kernel_rfl) ?_
            refine seqQ_norm ?_
            refine Wp.seqN (by kernel_rfl) ?_
            refine Wp.reg tiok mix hc (by kernel_rfl) (ah := none) (rs := [some (.no)]) (kt := [4]) (ko := []) (T' := [(4, .bool true)]) (O' := []) (by kernel_rfl) trivial (by kernel_rfl) (by kernel_rfl) ?_
            refine seqQ_norm ?_
            refine Wp.retN (by kernel_rfl) ?_
            obtain rfl := Option.some.inj h
            exact RetQ.ret (fl := [true]) (by kernel_rfl)
          · refine Wp.condT (b := (!r_7_4)) (by kernel_rfl) (by kernel_rfl) (nT hb_4) ?_
            refine Wp.seqN (by kernel_rfl) ?_
            refine Wp.reg tiok mix hc (by kernel_rfl) (ah := none) (rs := [some (.no)]) (kt := [4]) (ko := []) (T' := [(4, .bool false)]) (O' := []) (by kernel_rfl) trivial (by kernel_rfl) (by kernel_rfl) ?_
            refine seqQ_norm ?_
            refine Wp.retN (by kernel_rfl) ?_
            refine seqQ_ret ?_
            obtain rfl := Option.some.inj h
            exact RetQ.ret (fl := [true]) (by kernel_rfl)
        · refine Wp.condT (b := (!r_5_4)) (by kernel_rfl) (by kernel_rfl) (nT hb_3) ?_
          refine Wp.seqN (by kernel_rfl) ?_
          refine Wp.reg tiok mix hc (by kernel_rfl) (ah := none) (rs := [some (.no)]) (kt := [4]) (ko := []) (T' := [(4, .bool false)]) (O' := []) (by kernel_rfl) trivial (by kernel_rfl) (by kernel_rfl) ?_
          refine seqQ_norm ?_
          refine Wp.retN (by kernel_rfl) ?_
          refine seqQ_ret ?_
          obtain rfl := Option.some.inj h
          exact RetQ.ret (fl := [true]) (by kernel_rfl)
  · rintro laws_eqTermS_l0_f laws_eqTermS_l0_ih ⟨a0, b1⟩ r h
    show FnSound Try.prog 49 [.sl (List.map GTerm_S a0), .sl (List.map GTerm_S b1)] (.bool r) []
    refine FnSound.body0 tiok (fn := Try.f49) (code := B49) (by kernel_rfl) (by kernel_rfl) (by kernel_rfl) (by kernel_rfl) (nt := 27) (by kernel_rfl) (by kernel_rfl) (T := [(0, .sl (List.map GTerm_S a0)), (1, .sl (List.map GTerm_S b1))]) (O := []) (by kernel_rfl) (by kernel_rfl) (fun c hc => ?_)
    refine Wp.seqN (by kernel_rfl) ?_
    refine Wp.reg tiok mix hc (by kernel_rfl) (ah := none) (rs := [some (.no)]) (kt := [0, 1]) (ko := []) (T' := [(0, .sl (List.map GTerm_S a0)), (1, .sl (List.map GTerm_S b1))]) (O' := []) (by kernel_rfl) trivial (by kernel_rfl) (by kernel_rfl) ?_
    refine seqQ_norm ?_
    refine Wp.seqN (by kernel_rfl) ?_
    refine Wp.seqN (by kernel_rfl) ?_
    refine Wp.reg tiok mix hc (by kernel_rfl) (ah := none) (rs := [some (.no), some (.eqv (.no) ⟨[(7, .int .i64 (a0.length : Int))], [], []⟩), some (.no), some (.eqv (.no) ⟨[(9, .int .i64 (b1.length : Int))], [], []⟩), some (.no)]) (kt := [0, 1, 10]) (ko := []) (T' := [(0, .sl (List.map GTerm_S a0)), (1, .sl (List.map GTerm_S b1)), (10, .bool ((a0.length : Int) != (b1.length : Int)))]) (O' := []) (by kernel_rfl) (And.intro (lenT (d := 7) GTerm_S a0) (And.intro (lenT (d := 9) GTerm_S b1) trivial)) (by kernel_rfl) (by kernel_rfl) ?_
    refine seqQ_norm ?_
    rcases itesome h with ⟨hb_1, h⟩ | ⟨hb_1, h⟩
    · refine Wp.condT (b := ((a0.length : Int) != (b1.length : Int))) (by kernel_rfl) (by kernel_rfl) hb_1 ?_
      refine Wp.seqN (by kernel_rfl) ?_
      refine Wp.reg tiok mix hc (by kernel_rfl) (ah := none) (rs := [some (.no)]) (kt := [4]) (ko := []) (T' := [(4, .bool false)]) (O' := []) (by kernel_rfl) trivial (by kernel_rfl) (by kernel_rfl) ?_
      refine seqQ_norm ?_
      refine Wp.retN (by kernel_rfl) ?_
      refine seqQ_ret ?_
      obtain rfl := Option.some.inj h
      exact RetQ.ret (fl := [true]) (by kernel_rfl)
    · refine Wp.condF (b := ((a0.length : Int) != (b1.length : Int))) (by kernel_rfl) (by kernel_rfl) hb_1 ?_
      refine Wp.skipN (by kernel_rfl) ?_
      refine seqQ_norm ?_
      refine Wp.seqN (by kernel_rfl) ?_
      refine Wp.seqN (by kernel_rfl) ?_
      refine Wp.reg tiok mix hc (by kernel_rfl) (ah := none) (rs := [some (.no)]) (kt := [0, 1, 5]) (ko := []) (T' := [(0, .sl (List.map GTerm_S a0)), (1, .sl (List.map GTerm_S b1)), (5, .int .i64 0)]) (O' := []) (by kernel_rfl) trivial (by kernel_rfl) (by kernel_rfl) ?_
      refine seqQ_norm ?_
      refine Wp.blockN (i := 0) (by kernel_rfl) ?_
      obtain ⟨fl, hl_7, h⟩ := bsome h
      have hL := laws_eqTermS_l0_ih _ _ hl_7 c hc
      refine Wp.loopN (by kernel_rfl) ?_
      rcases fl with ⟨⟩ | r
      · refine WpL.into (e := (.exit 0)) (mkS [] []) hL ?_
        refine blockQ_hit ?_
        refine seqQ_norm ?_
        refine Wp.seqN (by kernel_rfl) ?_
        refine Wp.reg tiok mix hc (by kernel_rfl) (ah := none) (rs := [some (.no)]) (kt := [4]) (ko := []) (T' := [(4, .bool true)]) (O' := []) (by kernel_rfl) trivial (by kernel_rfl) (by kernel_rfl) ?_
        refine seqQ_norm ?_
        refine Wp.retN (by kernel_rfl) ?_
        obtain rfl := Option.some.inj h
        exact RetQ.ret (fl := [true]) (by kernel_rfl)
      · refine WpL.mono hL ?_
        rintro _ _ ⟨rfl, hfin⟩
        refine blockQ_ret ?_
        refine seqQ_ret ?_
        obtain rfl := Option.some.inj h
        exact ⟨.inl rfl, hfin⟩
  · rintro laws_eqTerm_f laws_eqTermS_l0_f laws_eqTerm_ih laws_eqTermS_l0_ih ⟨a0, b1, i_4⟩ r h
    intro c hc
    show WpL Try.prog c (cl (cl (cr (cl (cr (cr B49)))))) (laws_eqTermS_F1 c r) (mkS [(0, .sl (List.map GTerm_S a0)), (1, .sl (List.map GTerm_S b1)), (5, .int .i64 i_4)] [])
    refine WpL.step ?_
    refine Wp.seqN (by kernel_rfl) ?_
    refine Wp.seqN (by kernel_rfl) ?_
    refine Wp.reg tiok mix hc (by kernel_rfl) (ah := none) (rs := [some (.no), some (.no), some (.eqv (.no) ⟨[(13, .int .i64 (a0.length : Int))], [], []⟩), some (.no)]) (kt := [0, 1, 5, 14]) (ko := []) (T' := [(0, .sl (List.map GTerm_S a0)), (1, .sl (List.map GTerm_S b1)), (5, .int .i64 i_4), (14, .bool (decide (i_4 < (a0.length : Int))))]) (O' := []) (by kernel_rfl) (And.intro (lenT (d := 13) GTerm_S a0) trivial) (by kernel_rfl) (by kernel_rfl) ?_
    refine seqQ_norm ?_
    rcases itesome h with ⟨hb_5, h⟩ | ⟨hb_5, h⟩
    · refine Wp.condT (b := (decide (i_4 < (a0.length : Int)))) (by kernel_rfl) (by kernel_rfl) hb_5 ?_
      refine Wp.skipN (by kernel_rfl) ?_
      refine seqQ_norm ?_
      refine Wp.seqN (by kernel_rfl) ?_
      refine Wp.blockN (i := 1) (by kernel_rfl) ?_
      refine Wp.seqN (by kernel_rfl) ?_
      obtain ⟨e_6_2, hi_6_2, h⟩ := bsome h
      obtain ⟨e_6_6, hi_6_6, h⟩ := bsome h
      obtain ⟨r_6_8, hr_6_8, h⟩ := bsome h
      refine Wp.reg tiok mix hc (by kernel_rfl) (ah := (some [[], [], [0, 1], [0, 1, 2], [], [], [4, 5], [4, 5, 6], [0, 1, 2, 3, 4, 5, 6, 7], [0, 1, 2, 3, 4, 5, 6, 7, 8]])) (rs := [some (.no), some (.no), some (.el (.agg [.int .i64 e_6_2.fOp, .int .i64 e_6_2.fN, .sl (List.map I e_6_2.fType), .sl (List.map GTerm_S e_6_2.fKids)])), some (.no), some (.no), some (.no), some (.el (.agg [.int .i64 e_6_6.fOp, .int .i64 e_6_6.fN, .sl (List.map I e_6_6.fType), .sl (List.map GTerm_S e_6_6.fKids)])), some (.no), some (.call (.bool r_6_8) [] 1), some (.no)]) (kt := [0, 1, 5, 26]) (ko := []) (T' := [(0, .sl (List.map GTerm_S a0)), (1, .sl (List.map GTerm_S b1)), (5, .int .i64 i_4), (26, .bool (!r_6_8))]) (O' := []) (by kernel_rfl) (And.intro (idx_sl (enc := GTerm_S) (x := .agg [.int .i64 e_6_2.fOp, .int .i64 e_6_2.fN, .sl (List.map I e_6_2.fType), .sl (List.map GTerm_S e_6_2.fKids)]) hi_6_2 (eq_GTerm_S e_6_2)) (And.intro (idx_sl (enc := GTerm_S) (x := .agg [.int .i64 e_6_6.fOp, .int .i64 e_6_6.fN, .sl (List.map I e_6_6.fType), .sl (List.map GTerm_S e_6_6.fKids)]) hi_6_6 (eq_GTerm_S e_6_6)) (And.intro (laws_eqTerm_ih _ _ hr_6_8) (And.intro bod_16 (And.intro (Or.inl rfl : ([] : List Nat) = [] ∨ noSh (.bool r_6_8) = true) trivial))))) (by kernel_rfl) (by kernel_rfl) ?_
      refine seqQ_norm ?_
      rcases itesome h with ⟨hb_6, h⟩ | ⟨hb_6, h⟩
      · refine Wp.condF (b := (!r_6_8)) (by kernel_rfl) (by kernel_rfl) (nF hb_6) ?_
        refine Wp.skipN (by kernel_rfl) ?_
        refine blockQ_norm ?_
        refine seqQ_norm ?_
        refine Wp.reg tiok mix hc (by kernel_rfl) (ah := none) (rs := [some (.no), some (.no), some (.no)]) (kt := [0, 1, 5]) (ko := []) (T' := [(0, .sl (List.map GTerm_S a0)), (1, .sl (List.map GTerm_S b1)), (5, .int .i64 (wr (i_4 + 1)))]) (O' := []) (by kernel_rfl) trivial (by kernel_rfl) (by kernel_rfl) ?_
        refine loopQ_norm ?_
        exact (laws_eqTermS_l0_ih _ _ h c hc)
      · refine Wp.condT (b := (!r_6_8)) (by kernel_rfl) (by kernel_rfl) (nT hb_6) ?_
        refine Wp.seqN (by kernel_rfl) ?_
        refine Wp.reg tiok mix hc (by kernel_rfl) (ah := none) (rs := [some (.no)]) (kt := [4]) (ko := []) (T' := [(4, .bool false)]) (O' := []) (by kernel_rfl) trivial (by kernel_rfl) (by kernel_rfl) ?_
        refine seqQ_norm ?_
        refine Wp.retN (by kernel_rfl) ?_
        refine blockQ_ret ?_
        refine seqQ_ret ?_
        refine loopQ_ret ?_
        obtain rfl := Option.some.inj h
        exact RetE.ret (fl := [true]) (by kernel_rfl)
    · refine Wp.condF (b := (decide (i_4 < (a0.length : Int)))) (by kernel_rfl) (by kernel_rfl) hb_5 ?_
      refine Wp.exitN (i := 0) (by kernel_rfl) ?_
      refine seqQ_exit ?_
      refine loopQ_exit ?_
      obtain rfl := Option.some.inj h
      exact Into.view (fun a w hv => SRx.renL [] hv (by kernel_rfl) (by kernel_rfl) (by kernel_rfl))
theorem laws_eqTerm_s : ∀ p r, laws_eqTerm p = some r → M_laws_eqTerm p r := laws_eqTerm_all.1
theorem laws_eqTermS_s : ∀ p r, laws_eqTermS p = some r → M_laws_eqTermS p r := laws_eqTerm_all.2.1
theorem laws_eqTermS_l0_s : ∀ p r, laws_eqTermS_l0 p = some r → M_laws_eqTermS_l0 p r := laws_eqTerm_all.2.2
def laws_eqBoolS_F1 (c : Ctx) : (Unit) ⊕ (Bool) → Exit → AState → Prop
  | .inl _ => Into c (.exit 0) (mkS [] [])
  | .inr r => RetE TIx Try.f50 [] (.bool r)
def laws_eqBoolS_l0 (p : (List Bool) × (List Bool) × Int) : Option ((Unit) ⊕ (Bool)) :=
  match p with
  | (a0, b1, i_4) =>
    if (decide (i_4 < (a0.length : Int))) = true then
      (idx a0 i_4) >>= fun e_6_2 =>
      (idx b1 i_4) >>= fun e_6_6 =>
      if (e_6_2 == e_6_6) = true then
        laws_eqBoolS_l0 (a0, b1, (wr (i_4 + 1)))
      else
        some (.inr false)
    else
      some (.inl ())
  partial_fixpoint
def M_laws_eqBoolS_l0 (p : (List Bool) × (List Bool) × Int) (fl : (Unit) ⊕ (Bool)) : Prop :=
  match p with
  | (a0, b1, i_4) => ∀ c : Ctx, c.nt = 26 → WpL Try.prog c (cl (cl (cr (cl (cr (cr B50)))))) (laws_eqBoolS_F1 c fl) (mkS [(0, .sl (List.map AV.bool a0)), (1, .sl (List.map AV.bool b1)), (5, .int .i64 i_4)] [])
theorem laws_eqBoolS_l0_s : ∀ p r, laws_eqBoolS_l0 p = some r → M_laws_eqBoolS_l0 p r := by
  refine laws_eqBoolS_l0.partial_correctness M_laws_eqBoolS_l0 ?_
  rintro laws_eqBoolS_l0_f laws_eqBoolS_l0_ih ⟨a0, b1, i_4⟩ r h
  intro c hc
  show WpL Try.prog c (cl (cl (cr (cl (cr (cr B50)))))) (laws_eqBoolS_F1 c r) (mkS [(0, .sl (List.map AV.bool a0)), (1, .sl (List.map AV.bool b1)), (5, .int .i64 i_4)] [])
  refine WpL.step ?_
  refine Wp.seqN (by kernel_rfl) ?_
  refine Wp.seqN (by kernel_rfl) ?_
  refine Wp.reg tiok mix hc (by kernel_rfl) (ah := none) (rs := [some (.no), some (.no), some (.eqv (.no) ⟨[(13, .int .i64 (a0.length : Int))], [], []⟩), some (.no)]) (kt := [0, 1, 5, 14]) (ko := []) (T' := [(0, .sl (List.map AV.bool a0)), (1, .sl (List.map AV.bool b1)), (5, .int .i64 i_4), (14, .bool (decide (i_4 < (a0.length : Int))))]) (O' := []) (by kernel_rfl) (And.intro (lenT (d := 13) AV.bool a0) trivial) (by kernel_rfl) (by kernel_rfl) ?_
  refine seqQ_norm ?_
  rcases itesome h with ⟨hb_5, h⟩ | ⟨hb_5, h⟩
  · refine Wp.condT (b := (decide (i_4 < (a0.length : Int)))) (by kernel_rfl) (by kernel_rfl) hb_5 ?_
    refine Wp.skipN (by kernel_rfl) ?_
    refine seqQ_norm ?_
    refine Wp.seqN (by kernel_rfl) ?_
    refine Wp.blockN (i := 1) (by kernel_rfl) ?_
    refine Wp.seqN (by kernel_rfl) ?_
    obtain ⟨e_6_2, hi_6_2, h⟩ := bsome h
    obtain ⟨e_6_6, hi_6_6, h⟩ := bsome h
    refine Wp.reg tiok mix hc (by kernel_rfl) (ah := (some [[], [], [0, 1], [0, 1, 2], [], [], [4, 5], [4, 5, 6], [0, 1, 2, 3, 4, 5, 6, 7]])) (rs := [some (.no), some (.no), some (.el (.bool e_6_2)), some (.no), some (.no), some (.no), some (.el (.bool e_6_6)), some (.no), some (.no)]) (kt := [0, 1, 5, 25]) (ko := []) (T' := [(0, .sl (List.map AV.bool a0)), (1, .sl (List.map AV.bool b1)), (5, .int .i64 i_4), (25, .bool (!(e_6_2 == e_6_6)))]) (O' := []) (by kernel_rfl) (And.intro (idx_sl (enc := AV.bool) (x := .bool e_6_2) hi_6_2 (eq_B e_6_2)) (And.intro (idx_sl (enc := AV.bool) (x := .bool e_6_6) hi_6_6 (eq_B e_6_6)) trivial)) (by kernel_rfl) (by kernel_rfl) ?_
    refine seqQ_norm ?_
    rcases itesome h with ⟨hb_6, h⟩ | ⟨hb_6, h⟩
    · refine Wp.condF (b := (!(e_6_2 == e_6_6))) (by kernel_rfl) (by kernel_rfl) (nF hb_6) ?_
      refine Wp.skipN (by kernel_rfl) ?_
      refine blockQ_norm ?_
      refine seqQ_norm ?_
      refine Wp.reg tiok mix hc (by kernel_rfl) (ah := none) (rs := [some (.no), some (.no), some (.no)]) (kt := [0, 1, 5]) (ko := []) (T' := [(0, .sl (List.map AV.bool a0)), (1, .sl (List.map AV.bool b1)), (5, .int .i64 (wr (i_4 + 1)))]) (O' := []) (by kernel_rfl) trivial (by kernel_rfl) (by kernel_rfl) ?_
      refine loopQ_norm ?_
      exact (laws_eqBoolS_l0_ih _ _ h c hc)
    · refine Wp.condT (b := (!(e_6_2 == e_6_6))) (by kernel_rfl) (by kernel_rfl) (nT hb_6) ?_
      refine Wp.seqN (by kernel_rfl) ?_
      refine Wp.reg tiok mix hc (by kernel_rfl) (ah := none) (rs := [some (.no)]) (kt := [4]) (ko := []) (T' := [(4, .bool false)]) (O' := []) (by kernel_rfl) trivial (by kernel_rfl) (by kernel_rfl) ?_
      refine seqQ_norm ?_
      refine Wp.retN (by kernel_rfl) ?_
      refine blockQ_ret ?_
      refine seqQ_ret ?_
      refine loopQ_ret ?_
      obtain rfl := Option.some.inj h
      exact RetE.ret (fl := [true]) (by kernel_rfl)
  · refine Wp.condF (b := (decide (i_4 < (a0.length : Int)))) (by kernel_rfl) (by kernel_rfl) hb_5 ?_
    refine Wp.exitN (i := 0) (by kernel_rfl) ?_
    refine seqQ_exit ?_
    refine loopQ_exit ?_
    obtain rfl := Option.some.inj h
    exact Into.view (fun a w hv => SRx.renL [] hv (by kernel_rfl) (by kernel_rfl) (by kernel_rfl))
def laws_eqBoolS (p : (List Bool) × (List Bool)) : Option (Bool) :=
  match p with
  | (a0, b1) =>
    if ((a0.length : Int) != (b1.length : Int)) = true then
      some false
    else
      (laws_eqBoolS_l0 (a0, b1, 0)) >>= fun fl => match fl with
      | .inl () =>
        some true
      | .inr r =>
        some r
def M_laws_eqBoolS (p : (List Bool) × (List Bool)) (r : Bool) : Prop :=
  match p with
  | (a0, b1) => FnSound Try.prog 50 [.sl (List.map AV.bool a0), .sl (List.map AV.bool b1)] (.bool r) []
theorem laws_eqBoolS_s : ∀ p r, laws_eqBoolS p = some r → M_laws_eqBoolS p r := by
  rintro ⟨a0, b1⟩ r h
  unfold laws_eqBoolS at h
  show FnSound Try.prog 50 [.sl (List.map AV.bool a0), .sl (List.map AV.bool b1)] (.bool r) []
  refine FnSound.body0 tiok (fn := Try.f50) (code := B50) (by kernel_rfl) (by kernel_rfl) (by kernel_rfl) (by kernel_rfl) (nt := 26) (by kernel_rfl) (by kernel_rfl) (T := [(0, .sl (List.map AV.bool a0)), (1, .sl (List.map AV.bool b1))]) (O := []) (by kernel_rfl) (by kernel_rfl) (fun c hc => ?_)
  refine Wp.seqN (by kernel_rfl) ?_
  refine Wp.reg tiok mix hc (by kernel_rfl) (ah := none) (rs := [some (.no)]) (kt := [0, 1]) (ko := []) (T' := [(0, .sl (List.map AV.bool a0)), (1, .sl (List.map AV.bool b1))]) (O' := []) (by kernel_rfl) trivial (by kernel_rfl) (by kernel_rfl) ?_
  refine seqQ_norm ?_
  refine Wp.seqN (by kernel_rfl) ?_
  refine Wp.seqN (by kernel_rfl) ?_
  refine Wp.reg tiok mix hc (by kernel_rfl) (ah := none) (rs := [some (.no), some (.eqv (.no) ⟨[(7, .int .i64 (a0.length : Int))], [], []⟩), some (.no), some (.eqv (.no) ⟨[(9, .int .i64 (b1.length : Int))], [], []⟩), some (.no)]) (kt := [0, 1, 10]) (ko := []) (T' := [(0, .sl (List.map AV.bool a0)), (1, .sl (List.map AV.bool b1)), (10, .bool ((a0.length : Int) != (b1.length : Int)))]) (O' := []) (by kernel_rfl) (And.intro (lenT (d := 7) AV.bool a0) (And.intro (lenT (d := 9) AV.bool b1) trivial)) (by kernel_rfl) (by kernel_rfl) ?_
  refine seqQ_norm ?_
  rcases itesome h with ⟨hb_1, h⟩ | ⟨hb_1, h⟩
  · refine Wp.condT (b := ((a0.length : Int) != (b1.length : Int))) (by kernel_rfl) (by kernel_rfl) hb_1 ?_
    refine Wp.seqN (by kernel_rfl) ?_
    refine Wp.reg tiok mix hc (by kernel_rfl) (ah := none) (rs := [some (.no)]) (kt := [4]) (ko := []) (T' := [(4, .bool false)]) (O' := []) (by kernel_rfl) trivial (by kernel_rfl) (by kernel_rfl) ?_
    refine seqQ_norm ?_
    refine Wp.retN (by kernel_rfl) ?_
    refine seqQ_ret ?_
    obtain rfl := Option.some.inj h
    exact RetQ.ret (fl := [true]) (by kernel_rfl)
  · refine Wp.condF (b := ((a0.length : Int) != (b1.length : Int))) (by kernel_rfl) (by kernel_rfl) hb_1 ?_
    refine Wp.skipN (by kernel_rfl) ?_
    refine seqQ_norm ?_
    refine Wp.seqN (by kernel_rfl) ?_
    refine Wp.seqN (by kernel_rfl) ?_
    refine Wp.reg tiok mix hc (by kernel_rfl) (ah := none) (rs := [some (.no)]) (kt := [0, 1, 5]) (ko := []) (T' := [(0, .sl (List.map AV.bool a0)), (1, .sl (List.map AV.bool b1)), (5, .int .i64 0)]) (O' := []) (by kernel_rfl) trivial (by kernel_rfl) (by kernel_rfl) ?_
    refine seqQ_norm ?_
    refine Wp.blockN (i := 0) (by kernel_rfl) ?_
    obtain ⟨fl, hl_7, h⟩ := bsome h
    have hL := laws_eqBoolS_l0_s _ _ hl_7 c hc
    refine Wp.loopN (by kernel_rfl) ?_
    rcases fl with ⟨⟩ | r
    · refine WpL.into (e := (.exit 0)) (mkS [] []) hL ?_
      refine blockQ_hit ?_
      refine seqQ_norm ?_
      refine Wp.seqN (by kernel_rfl) ?_
      refine Wp.reg tiok mix hc (by kernel_rfl) (ah := none) (rs := [some (.no)]) (kt := [4]) (ko := []) (T' := [(4, .bool true)]) (O' := []) (by kernel_rfl) trivial (by kernel_rfl) (by kernel_rfl) ?_
      refine seqQ_norm ?_
      refine Wp.retN (by kernel_rfl) ?_
      obtain rfl := Option.some.inj h
      exact RetQ.ret (fl := [true]) (by kernel_rfl)
    · refine WpL.mono hL ?_
      rintro _ _ ⟨rfl, hfin⟩
      refine blockQ_ret ?_
      refine seqQ_ret ?_
      obtain rfl := Option.some.inj h
      exact ⟨.inl rfl, hfin⟩
def laws_eqSystem (p : GSystem × GSystem) : Option (Bool) :=
  match p with
  | (a0, b1) =>
    if (a0.fSize != b1.fSize) = true then
      some false
    else
      (laws_eqIntS (a0.fPlus, b1.fPlus)) >>= fun r_3_4 =>
      if r_3_4 = true then
        (laws_eqIntS (a0.fTimes, b1.fTimes)) >>= fun r_5_4 =>
        if r_5_4 = true then
          (laws_eqBoolS (a0.fBelow, b1.fBelow)) >>= fun r_7_4 =>
          if r_7_4 = true then
            some true
          else
            some false
        else
          some false
      else
        some false
def M_laws_eqSystem (p : GSystem × GSystem) (r : Bool) : Prop :=
  match p with
  | (a0, b1) => FnSound Try.prog 17 [.agg [.int .i64 a0.fSize, .sl (List.map I a0.fPlus), .sl (List.map I a0.fTimes), .sl (List.map AV.bool a0.fBelow)], .agg [.int .i64 b1.fSize, .sl (List.map I b1.fPlus), .sl (List.map I b1.fTimes), .sl (List.map AV.bool b1.fBelow)]] (.bool r) []
theorem laws_eqSystem_s : ∀ p r, laws_eqSystem p = some r → M_laws_eqSystem p r := by
  rintro ⟨a0, b1⟩ r h
  unfold laws_eqSystem at h
  show FnSound Try.prog 17 [.agg [.int .i64 a0.fSize, .sl (List.map I a0.fPlus), .sl (List.map I a0.fTimes), .sl (List.map AV.bool a0.fBelow)], .agg [.int .i64 b1.fSize, .sl (List.map I b1.fPlus), .sl (List.map I b1.fTimes), .sl (List.map AV.bool b1.fBelow)]] (.bool r) []
  refine FnSound.body0 tiok (fn := Try.f17) (code := B17) (by kernel_rfl) (by kernel_rfl) (by kernel_rfl) (by kernel_rfl) (nt := 28) (by kernel_rfl) (by kernel_rfl) (T := [(0, .agg [.int .i64 a0.fSize, .sl (List.map I a0.fPlus), .sl (List.map I a0.fTimes), .sl (List.map AV.bool a0.fBelow)]), (1, .agg [.int .i64 b1.fSize, .sl (List.map I b1.fPlus), .sl (List.map I b1.fTimes), .sl (List.map AV.bool b1.fBelow)])]) (O := []) (by kernel_rfl) (by kernel_rfl) (fun c hc => ?_)
  refine Wp.seqN (by kernel_rfl) ?_
  refine Wp.reg tiok mix hc (by kernel_rfl) (ah := none) (rs := [some (.new 1), some (.new 2), some (.no)]) (kt := [2, 3]) (ko := [1, 2]) (T' := [(2, .ra 1 0), (3, .ra 2 0)]) (O' := [(1, .box [.int .i64 a0.fSize, .sl (List.map I a0.fPlus), .sl (List.map I a0.fTimes), .sl (List.map AV.bool a0.fBelow)]), (2, .box [.int .i64 b1.fSize, .sl (List.map I b1.fPlus), .sl (List.map I b1.fTimes), .sl (List.map AV.bool b1.fBelow)])]) (by kernel_rfl) trivial (by kernel_rfl) (by kernel_rfl) ?_
  refine seqQ_norm ?_
  refine Wp.seqN (by kernel_rfl) ?_
  refine Wp.seqN (by kernel_rfl) ?_
  refine Wp.reg tiok mix hc (by kernel_rfl) (ah := none) (rs := [some (.no), some (.no), some (.no), some (.no), some (.no)]) (kt := [2, 3, 9]) (ko := [1, 2]) (T' := [(2, .ra 1 0), (3, .ra 2 0), (9, .bool (a0.fSize != b1.fSize))]) (O' := [(1, .box [.int .i64 a0.fSize, .sl (List.map I a0.fPlus), .sl (List.map I a0.fTimes), .sl (List.map AV.bool a0.fBelow)]), (2, .box [.int .i64 b1.fSize, .sl (List.map I b1.fPlus), .sl (List.map I b1.fTimes), .sl (List.map AV.bool b1.fBelow)])]) (by kernel_rfl) trivial (by kernel_rfl) (by kernel_rfl) ?_
  refine seqQ_norm ?_
  rcases itesome h with ⟨hb_1, h⟩ | ⟨hb_1, h⟩
  · refine Wp.condT (b := (a0.fSize != b1.fSize)) (by kernel_rfl) (by kernel_rfl) hb_1 ?_
    refine Wp.seqN (by kernel_rfl) ?_
    refine Wp.reg tiok mix hc (by kernel_rfl) (ah := none) (rs := [some (.no)]) (kt := [4]) (ko := []) (T' := [(4, .bool false)]) (O' := []) (by kernel_rfl) trivial (by kernel_rfl) (by kernel_rfl) ?_
    refine seqQ_norm ?_
    refine Wp.retN (by kernel_rfl) ?_
    refine seqQ_ret ?_
    obtain rfl := Option.some.inj h
    exact RetQ.ret (fl := [true]) (by kernel_rfl)
  · refine Wp.condF (b := (a0.fSize != b1.fSize)) (by kernel_rfl) (by kernel_rfl) hb_1 ?_
    refine Wp.skipN (by kernel_rfl) ?_
    refine seqQ_norm ?_
    refine Wp.seqN (by kernel_rfl) ?_
    refine Wp.seqN (by kernel_rfl) ?_
    obtain ⟨r_3_4, hr_3_4, h⟩ := bsome h
    refine Wp.reg tiok mix hc (by kernel_rfl) (ah := none) (rs := [some (.no), some (.no), some (.no), some (.no), some (.call (.bool r_3_4) [] 1), some (.no)]) (kt := [2, 3, 15]) (ko := [1, 2]) (T' := [(2, .ra 1 0), (3, .ra 2 0), (15, .bool (!r_3_4))]) (O' := [(1, .box [.int .i64 a0.fSize, .sl (List.map I a0.fPlus), .sl (List.map I a0.fTimes), .sl (List.map AV.bool a0.fBelow)]), (2, .box [.int .i64 b1.fSize, .sl (List.map I b1.fPlus), .sl (List.map I b1.fTimes), .sl (List.map AV.bool b1.fBelow)])]) (by kernel_rfl) (And.intro (laws_eqIntS_s _ _ hr_3_4) (And.intro bod_18 (And.intro (Or.inl rfl : ([] : List Nat) = [] ∨ noSh (.bool r_3_4) = true) trivial))) (by kernel_rfl) (by kernel_rfl) ?_
    refine seqQ_norm ?_
    rcases itesome h with ⟨hb_2, h⟩ | ⟨hb_2, h⟩
    · refine Wp.condF (b := (!r_3_4)) (by kernel_rfl) (by kernel_rfl) (nF hb_2) ?_
      refine Wp.skipN (by kernel_rfl) ?_
      refine seqQ_norm ?_
      refine Wp.seqN (by kernel_rfl) ?_
      refine Wp.seqN (by kernel_rfl) ?_
      obtain ⟨r_5_4, hr_5_4, h⟩ := bsome h
      refine Wp.reg tiok mix hc (by kernel_rfl) (ah := none) (rs := [some (.no), some (.no), some (.no), some (.no), some (.call (.bool r_5_4) [] 1), some (.no)]) (kt := [2, 3, 21]) (ko := [1, 2]) (T' := [(2, .ra 1 0), (3, .ra 2 0), (21, .bool (!r_5_4))]) (O' := [(1, .box [.int .i64 a0.fSize, .sl (List.map I a0.fPlus), .sl (List.map I a0.fTimes), .sl (List.map AV.bool a0.fBelow)]), (2, .box [.int .i64 b1.fSize, .sl (List.map I b1.fPlus), .sl (List.map I b1.fTimes), .sl (List.map AV.bool b1.fBelow)])]) (by kernel_rfl) (And.intro (laws_eqIntS_s _ _ hr_5_4) (And.intro bod_18 (And.intro (Or.inl rfl : ([] : List Nat) = [] ∨ noSh (.bool r_5_4) = true) trivial))) (by kernel_rfl) (by kernel_rfl) ?_
      refine seqQ_norm ?_
      rcases itesome h with ⟨hb_3, h⟩ | ⟨hb_3, h⟩
      · refine Wp.condF (b := (!r_5_4)) (by kernel_rfl) (by kernel_rfl) (nF hb_3) ?_
        refine Wp.skipN (by kernel_rfl) ?_
        refine seqQ_norm ?_
        refine Wp.seqN (by kernel_rfl) ?_
        refine Wp.seqN (by kernel_rfl) ?_
        obtain ⟨r_7_4, hr_7_4, h⟩ := bsome h
        refine Wp.reg tiok mix hc (by kernel_rfl) (ah := none) (rs := [some (.no), some (.no), some (.no), some (.no), some (.call (.bool r_7_4) [] 1), some (.no)]) (kt := [27]) (ko := []) (T' := [(27, .bool (!r_7_4))]) (O' := []) (by kernel_rfl) (And.intro (laws_eqBoolS_s _ _ hr_7_4) (And.intro bod_50 (And.intro (Or.inl rfl : ([] : List Nat) = [] ∨ noSh (.bool r_7_4) = true) trivial))) (by kernel_rfl) (by kernel_rfl) ?_
        refine seqQ_norm ?_
        rcases itesome h with ⟨hb_4, h⟩ | ⟨hb_4, h⟩
        · refine Wp.condF (b := (!r_7_4)) (by kernel_rfl) (by kernel_rfl) (nF hb_4) ?_
          refine Wp.skipN (by kernel_rfl) ?_
          refine seqQ_norm ?_
          refine Wp.seqN (by kernel_rfl) ?_
          refine Wp.reg tiok mix hc (by kernel_rfl) (ah := none) (rs := [some (.no)]) (kt := [4]) (ko := []) (T' := [(4, .bool true)]) (O' := []) (by kernel_rfl) trivial (by kernel_rfl) (by kernel_rfl) ?_
          refine seqQ_norm ?_
          refine Wp.retN (by kernel_rfl) ?_
          obtain rfl := Option.some.inj h
          exact RetQ.ret (fl := [true]) (by kernel_rfl)
        · refine Wp.condT (b := (!r_7_4)) (by kernel_rfl) (by kernel_rfl) (nT hb_4) ?_
          refine Wp.seqN (by kernel_rfl) ?_
          refine Wp.reg tiok mix hc (by kernel_rfl) (ah := none) (rs := [some (.no)]) (kt := [4]) (ko := []) (T' := [(4, .bool false)]) (O' := []) (by kernel_rfl) trivial (by kernel_rfl) (by kernel_rfl) ?_
          refine seqQ_norm ?_
          refine Wp.retN (by kernel_rfl) ?_
          refine seqQ_ret ?_
          obtain rfl := Option.some.inj h
          exact RetQ.ret (fl := [true]) (by kernel_rfl)
      · refine Wp.condT (b := (!r_5_4)) (by kernel_rfl) (by kernel_rfl) (nT hb_3) ?_
        refine Wp.seqN (by kernel_rfl) ?_
        refine Wp.reg tiok mix hc (by kernel_rfl) (ah := none) (rs := [some (.no)]) (kt := [4]) (ko := []) (T' := [(4, .bool false)]) (O' := []) (by kernel_rfl) trivial (by kernel_rfl) (by kernel_rfl) ?_
        refine seqQ_norm ?_
        refine Wp.retN (by kernel_rfl) ?_
        refine seqQ_ret ?_
        obtain rfl := Option.some.inj h
        exact RetQ.ret (fl := [true]) (by kernel_rfl)
    · refine Wp.condT (b := (!r_3_4)) (by kernel_rfl) (by kernel_rfl) (nT hb_2) ?_
      refine Wp.seqN (by kernel_rfl) ?_
      refine Wp.reg tiok mix hc (by kernel_rfl) (ah := none) (rs := [some (.no)]) (kt := [4]) (ko := []) (T' := [(4, .bool false)]) (O' := []) (by kernel_rfl) trivial (by kernel_rfl) (by kernel_rfl) ?_
      refine seqQ_norm ?_
      refine Wp.retN (by kernel_rfl) ?_
      refine seqQ_ret ?_
      obtain rfl := Option.some.inj h
      exact RetQ.ret (fl := [true]) (by kernel_rfl)
def laws_markIntS_F1 (c : Ctx) : Int × (List Int) → Exit → AState → Prop
  | (k_6, x_7) => Into c (.exit 0) (mkS [(1, .int .i64 k_6)] [(1000, .arr (List.map I x_7))])
def laws_markIntS_l0 (p : (List Int) × Int × Int) : Option (Int × (List Int)) :=
  match p with
  | (a_2, k_3, i_4) =>
    if (decide (i_4 < (a_2.length : Int))) = true then
      (idx a_2 i_4) >>= fun e_4_3 =>
      laws_markIntS_l0 ((List.set a_2 (Int.toNat i_4) k_3), (wr (k_3 + 1)), (wr (i_4 + 1)))
    else
      some ((k_3, a_2))
  partial_fixpoint
def M_laws_markIntS_l0 (p : (List Int) × Int × Int) (fl : Int × (List Int)) : Prop :=
  match p with
  | (a_2, k_3, i_4) => ∀ c : Ctx, c.nt = 19 → WpL Try.prog c (cl (cl (cr (cl (cr B20))))) (laws_markIntS_F1 c fl) (mkS [(0, .rs 1000), (1, .int .i64 k_3), (5, .int .i64 i_4)] [(1000, .arr (List.map I a_2))])
theorem laws_markIntS_l0_s : ∀ p r, laws_markIntS_l0 p = some r → M_laws_markIntS_l0 p r := by
  refine laws_markIntS_l0.partial_correctness M_laws_markIntS_l0 ?_
  rintro laws_markIntS_l0_f laws_markIntS_l0_ih ⟨a_2, k_3, i_4⟩ r h
  intro c hc
  show WpL Try.prog c (cl (cl (cr (cl (cr B20))))) (laws_markIntS_F1 c r) (mkS [(0, .rs 1000), (1, .int .i64 k_3), (5, .int .i64 i_4)] [(1000, .arr (List.map I a_2))])
  refine WpL.step ?_
  refine Wp.seqN (by kernel_rfl) ?_
  refine Wp.seqN (by kernel_rfl) ?_
  refine Wp.reg tiok mix hc (by kernel_rfl) (ah := none) (rs := [some (.no), some (.no), some (.eqv (.no) ⟨[(8, .int .i64 (a_2.length : Int))], [], []⟩), some (.no)]) (kt := [0, 1, 5, 9]) (ko := [1000]) (T' := [(0, .rs 1000), (1, .int .i64 k_3), (5, .int .i64 i_4), (9, .bool (decide (i_4 < (a_2.length : Int))))]) (O' := [(1000, .arr (List.map I a_2))]) (by kernel_rfl) (And.intro (lenT (d := 8) I a_2) trivial) (by kernel_rfl) (by kernel_rfl) ?_
  refine seqQ_norm ?_
  rcases itesome h with ⟨hb_5, h⟩ | ⟨hb_5, h⟩
  · refine Wp.condT (b := (decide (i_4 < (a_2.length : Int)))) (by kernel_rfl) (by kernel_rfl) hb_5 ?_
    refine Wp.skipN (by kernel_rfl) ?_
    refine seqQ_norm ?_
    refine Wp.seqN (by kernel_rfl) ?_
    refine Wp.blockN (i := 1) (by kernel_rfl) ?_
    refine Wp.seqN (by kernel_rfl) ?_
    obtain ⟨e_4_3, hi_4_3, h⟩ := bsome h
    refine Wp.reg tiok mix hc (by kernel_rfl) (ah := none) (rs := [some (.no), some (.no), some (.no), some (.no), some (.eqv (.mk 0 true) ⟨[], [(1000, some (.arr (List.map I (List.set a_2 (Int.toNat i_4) k_3))))], []⟩)]) (kt := [0, 1, 5]) (ko := [1000]) (T' := [(0, .rs 1000), (1, .int .i64 k_3), (5, .int .i64 i_4)]) (O' := [(1000, .arr (List.map I (List.set a_2 (Int.toNat i_4) k_3)))]) (by kernel_rfl) (And.intro (idx_own (enc := I) hi_4_3) (And.intro (congrArg (fun z => (⟨[], [(1000, some (.arr z))], []⟩ : Wr)) (set_row (enc := I) (i := Int.toNat i_4) (l := a_2) (v := k_3) (x := AV.int .i64 k_3) (eq_I k_3))) (And.intro (own_set (enc := I) (sz := 1) sz_I hi_4_3) trivial))) (by kernel_rfl) (by kernel_rfl) ?_
    refine seqQ_norm ?_
    refine Wp.reg tiok mix hc (by kernel_rfl) (ah := none) (rs := [some (.no), some (.no), some (.no)]) (kt := [0, 1, 5]) (ko := [1000]) (T' := [(0, .rs 1000), (1, .int .i64 (wr (k_3 + 1))), (5, .int .i64 i_4)]) (O' := [(1000, .arr (List.map I (List.set a_2 (Int.toNat i_4) k_3)))]) (by kernel_rfl) trivial (by kernel_rfl) (by kernel_rfl) ?_
    refine blockQ_norm ?_
    refine seqQ_norm ?_
    refine Wp.reg tiok mix hc (by kernel_rfl) (ah := none) (rs := [some (.no), some (.no), some (.no)]) (kt := [0, 1, 5]) (ko := [1000]) (T' := [(0, .rs 1000), (1, .int .i64 (wr (k_3 + 1))), (5, .int .i64 (wr (i_4 + 1)))]) (O' := [(1000, .arr (List.map I (List.set a_2 (Int.toNat i_4) k_3)))]) (by kernel_rfl) trivial (by kernel_rfl) (by kernel_rfl) ?_
    refine loopQ_norm ?_
    exact (laws_markIntS_l0_ih _ _ h c hc)
  · refine Wp.condF (b := (decide (i_4 < (a_2.length : Int)))) (by kernel_rfl) (by kernel_rfl) hb_5 ?_
    refine Wp.exitN (i := 0) (by kernel_rfl) ?_
    refine seqQ_exit ?_
    refine loopQ_exit ?_
    obtain ⟨rfl, rfl⟩ := Prod.mk.inj (Option.some.inj h)
    exact Into.view (fun a w hv => SRx.renL [] hv (by kernel_rfl) (by kernel_rfl) (by kernel_rfl))
def laws_markIntS (p : (List Int) × Int) : Option (Int × (List Int)) :=
  match p with
  | (a0, k1) =>
    (laws_markIntS_l0 (a0, k1, 0)) >>= fun (k_6, x_7) =>
    some (k_6, x_7)
def M_laws_markIntS (p : (List Int) × Int) (r : Int × (List Int)) : Prop :=
  match p with
  | (a0, k1) => FnSound Try.prog 20 [.osl (List.map I a0), .int .i64 k1] (.int .i64 r.1) [.osl (List.map I r.2), .undef]
theorem laws_markIntS_s : ∀ p r, laws_markIntS p = some r → M_laws_markIntS p r := by
  rintro ⟨a0, k1⟩ r h
  unfold laws_markIntS at h
  show FnSound Try.prog 20 [.osl (List.map I a0), .int .i64 k1] (.int .i64 r.1) [.osl (List.map I r.2), .undef]
  refine FnSound.bodyO tiok (fn := Try.f20) (code := B20) (by kernel_rfl) (by kernel_rfl) (by kernel_rfl) (nt := 19) (by kernel_rfl) (by kernel_rfl) (T := [(0, .rs 1000), (1, .int .i64 k1)]) (O := [(1000, .arr (List.map I a0))]) (by kernel_rfl) (by kernel_rfl) (fun c hc => ?_)
  refine Wp.seqN (by kernel_rfl) ?_
  refine Wp.reg tiok mix hc (by kernel_rfl) (ah := none) (rs := [some (.no)]) (kt := [0, 1]) (ko := [1000]) (T' := [(0, .rs 1000), (1, .int .i64 k1)]) (O' := [(1000, .arr (List.map I a0))]) (by kernel_rfl) trivial (by kernel_rfl) (by kernel_rfl) ?_
  refine seqQ_norm ?_
  refine Wp.seqN (by kernel_rfl) ?_
  refine Wp.seqN (by kernel_rfl) ?_
  refine Wp.reg tiok mix hc (by kernel_rfl) (ah := none) (rs := [some (.no)]) (kt := [0, 1, 5]) (ko := [1000]) (T' := [(0, .rs 1000), (1, .int .i64 k1), (5, .int .i64 0)]) (O' := [(1000, .arr (List.map I a0))]) (by kernel_rfl) trivial (by kernel_rfl) (by kernel_rfl) ?_
  refine seqQ_norm ?_
  refine Wp.blockN (i := 0) (by kernel_rfl) ?_
  obtain ⟨⟨k_6, x_7⟩, hl_8, h⟩ := bsome h
  have hL := laws_markIntS_l0_s _ _ hl_8 c hc
  refine Wp.loopN (by kernel_rfl) ?_
  · refine WpL.into (e := (.exit 0)) (mkS [(1, .int .i64 k_6)] [(1000, .arr (List.map I x_7))]) hL ?_
    refine blockQ_hit ?_
    refine seqQ_norm ?_
    refine Wp.seqN (by kernel_rfl) ?_
    refine Wp.reg tiok mix hc (by kernel_rfl) (ah := none) (rs := [some (.no), some (.no)]) (kt := [4]) (ko := [1000]) (T' := [(4, .int .i64 k_6)]) (O' := [(1000, .arr (List.map I x_7))]) (by kernel_rfl) trivial (by kernel_rfl) (by kernel_rfl) ?_
    refine seqQ_norm ?_
    refine Wp.retN (by kernel_rfl) ?_
    obtain rfl := Option.some.inj h
    exact RetOQ.ret (fl := [true]) (by kernel_rfl)
def laws_markBoolS_F1 (c : Ctx) : Int × (List Bool) → Exit → AState → Prop
  | (k_6, x_7) => Into c (.exit 0) (mkS [(1, .int .i64 k_6)] [(1000, .arr (List.map AV.bool x_7))])
def laws_markBoolS_l0 (p : (List Bool) × Int × Int) : Option (Int × (List Bool)) :=
  match p with
  | (a_2, k_3, i_4) =>
    if (decide (i_4 < (a_2.length : Int))) = true then
      (idx a_2 i_4) >>= fun e_4_5 =>
      laws_markBoolS_l0 ((List.set a_2 (Int.toNat i_4) ((Int.tmod k_3 3) == 0)), (wr (k_3 + 1)), (wr (i_4 + 1)))
    else
      some ((k_3, a_2))
  partial_fixpoint
def M_laws_markBoolS_l0 (p : (List Bool) × Int × Int) (fl : Int × (List Bool)) : Prop :=
  match p with
  | (a_2, k_3, i_4) => ∀ c : Ctx, c.nt = 21 → WpL Try.prog c (cl (cl (cr (cl (cr B51))))) (laws_markBoolS_F1 c fl) (mkS [(0, .rs 1000), (1, .int .i64 k_3), (5, .int .i64 i_4)] [(1000, .arr (List.map AV.bool a_2))])
theorem laws_markBoolS_l0_s : ∀ p r, laws_markBoolS_l0 p = some r → M_laws_markBoolS_l0 p r := by
  refine laws_markBoolS_l0.partial_correctness M_laws_markBoolS_l0 ?_
  rintro laws_markBoolS_l0_f laws_markBoolS_l0_ih ⟨a_2, k_3, i_4⟩ r h
  intro c hc
  show WpL Try.prog c (cl (cl (cr (cl (cr B51))))) (laws_markBoolS_F1 c r) (mkS [(0, .rs 1000), (1, .int .i64 k_3), (5, .int .i64 i_4)] [(1000, .arr (List.map AV.bool a_2))])
  refine WpL.step ?_
  refine Wp.seqN (by kernel_rfl) ?_
  refine Wp.seqN (by kernel_rfl) ?_
  refine Wp.reg tiok mix hc (by kernel_rfl) (ah := none) (rs := [some (.no), some (.no), some (.eqv (.no) ⟨[(8, .int .i64 (a_2.length : Int))], [], []⟩), some (.no)]) (kt := [0, 1, 5, 9]) (ko := [1000]) (T' := [(0, .rs 1000), (1, .int .i64 k_3), (5, .int .i64 i_4), (9, .bool (decide (i_4 < (a_2.length : Int))))]) (O' := [(1000, .arr (List.map AV.bool a_2))]) (by kernel_rfl) (And.intro (lenT (d := 8) AV.bool a_2) trivial) (by kernel_rfl) (by kernel_rfl) ?_
  refine seqQ_norm ?_
  rcases itesome h with ⟨hb_5, h⟩ | ⟨hb_5, h⟩
  · refine Wp.condT (b := (decide (i_4 < (a_2.length : Int)))) (by kernel_rfl) (by kernel_rfl) hb_5 ?_
    refine Wp.skipN (by kernel_rfl) ?_
    refine seqQ_norm ?_
    refine Wp.seqN (by kernel_rfl) ?_
    refine Wp.blockN (i := 1) (by kernel_rfl) ?_
    refine Wp.seqN (by kernel_rfl) ?_
    obtain ⟨e_4_5, hi_4_5, h⟩ := bsome h
    refine Wp.reg tiok mix hc (by kernel_rfl) (ah := none) (rs := [some (.no), some (.no), some (.no), some (.no), some (.no), some (.no), some (.eqv (.mk 0 true) ⟨[], [(1000, some (.arr (List.map AV.bool (List.set a_2 (Int.toNat i_4) ((Int.tmod k_3 3) == 0)))))], []⟩)]) (kt := [0, 1, 5]) (ko := [1000]) (T' := [(0, .rs 1000), (1, .int .i64 k_3), (5, .int .i64 i_4)]) (O' := [(1000, .arr (List.map AV.bool (List.set a_2 (Int.toNat i_4) ((Int.tmod k_3 3) == 0))))]) (by kernel_rfl) (And.intro ((by decide) : (3 : Int) ≠ 0) (And.intro (idx_own (enc := AV.bool) hi_4_5) (And.intro (congrArg (fun z => (⟨[], [(1000, some (.arr z))], []⟩ : Wr)) (set_row (enc := AV.bool) (i := Int.toNat i_4) (l := a_2) (v := ((Int.tmod k_3 3) == 0)) (x := AV.bool ((Int.tmod k_3 3) == 0)) (eq_B ((Int.tmod k_3 3) == 0)))) (And.intro (own_set (enc := AV.bool) (sz := 1) sz_B hi_4_5) trivial)))) (by kernel_rfl) (by kernel_rfl) ?_
    refine seqQ_norm ?_
    refine Wp.reg tiok mix hc (by kernel_rfl) (ah := none) (rs := [some (.no), some (.no), some (.no)]) (kt := [0, 1, 5]) (ko := [1000]) (T' := [(0, .rs 1000), (1, .int .i64 (wr (k_3 + 1))), (5, .int .i64 i_4)]) (O' := [(1000, .arr (List.map AV.bool (List.set a_2 (Int.toNat i_4) ((Int.tmod k_3 3) == 0))))]) (by kernel_rfl) trivial (by kernel_rfl) (by kernel_rfl) ?_
    refine blockQ_norm ?_
    refine seqQ_norm ?_
    refine Wp.reg tiok mix hc (by kernel_rfl) (ah := none) (rs := [some (.no), some (.no), some (.no)]) (kt := [0, 1, 5]) (ko := [1000]) (T' := [(0, .rs 1000), (1, .int .i64 (wr (k_3 + 1))), (5, .int .i64 (wr (i_4 + 1)))]) (O' := [(1000, .arr (List.map AV.bool (List.set a_2 (Int.toNat i_4) ((Int.tmod k_3 3) == 0))))]) (by kernel_rfl) trivial (by kernel_rfl) (by kernel_rfl) ?_
    refine loopQ_norm ?_
    exact (laws_markBoolS_l0_ih _ _ h c hc)
  · refine Wp.condF (b := (decide (i_4 < (a_2.length : Int)))) (by kernel_rfl) (by kernel_rfl) hb_5 ?_
    refine Wp.exitN (i := 0) (by kernel_rfl) ?_
    refine seqQ_exit ?_
    refine loopQ_exit ?_
    obtain ⟨rfl, rfl⟩ := Prod.mk.inj (Option.some.inj h)
    exact Into.view (fun a w hv => SRx.renL [] hv (by kernel_rfl) (by kernel_rfl) (by kernel_rfl))
def laws_markBoolS (p : (List Bool) × Int) : Option (Int × (List Bool)) :=
  match p with
  | (a0, k1) =>
    (laws_markBoolS_l0 (a0, k1, 0)) >>= fun (k_6, x_7) =>
    some (k_6, x_7)
def M_laws_markBoolS (p : (List Bool) × Int) (r : Int × (List Bool)) : Prop :=
  match p with
  | (a0, k1) => FnSound Try.prog 51 [.osl (List.map AV.bool a0), .int .i64 k1] (.int .i64 r.1) [.osl (List.map AV.bool r.2), .undef]
theorem laws_markBoolS_s : ∀ p r, laws_markBoolS p = some r → M_laws_markBoolS p r := by
  rintro ⟨a0, k1⟩ r h
  unfold laws_markBoolS at h
  show FnSound Try.prog 51 [.osl (List.map AV.bool a0), .int .i64 k1] (.int .i64 r.1) [.osl (List.map AV.bool r.2), .undef]
  refine FnSound.bodyO tiok (fn := Try.f51) (code := B51) (by kernel_rfl) (by kernel_rfl) (by kernel_rfl) (nt := 21) (by kernel_rfl) (by kernel_rfl) (T := [(0, .rs 1000), (1, .int .i64 k1)]) (O := [(1000, .arr (List.map AV.bool a0))]) (by kernel_rfl) (by kernel_rfl) (fun c hc => ?_)
  refine Wp.seqN (by kernel_rfl) ?_
  refine Wp.reg tiok mix hc (by kernel_rfl) (ah := none) (rs := [some (.no)]) (kt := [0, 1]) (ko := [1000]) (T' := [(0, .rs 1000), (1, .int .i64 k1)]) (O' := [(1000, .arr (List.map AV.bool a0))]) (by kernel_rfl) trivial (by kernel_rfl) (by kernel_rfl) ?_
  refine seqQ_norm ?_
  refine Wp.seqN (by kernel_rfl) ?_
  refine Wp.seqN (by kernel_rfl) ?_
  refine Wp.reg tiok mix hc (by kernel_rfl) (ah := none) (rs := [some (.no)]) (kt := [0, 1, 5]) (ko := [1000]) (T' := [(0, .rs 1000), (1, .int .i64 k1), (5, .int .i64 0)]) (O' := [(1000, .arr (List.map AV.bool a0))]) (by kernel_rfl) trivial (by kernel_rfl) (by kernel_rfl) ?_
  refine seqQ_norm ?_
  refine Wp.blockN (i := 0) (by kernel_rfl) ?_
  obtain ⟨⟨k_6, x_7⟩, hl_8, h⟩ := bsome h
  have hL := laws_markBoolS_l0_s _ _ hl_8 c hc
  refine Wp.loopN (by kernel_rfl) ?_
  · refine WpL.into (e := (.exit 0)) (mkS [(1, .int .i64 k_6)] [(1000, .arr (List.map AV.bool x_7))]) hL ?_
    refine blockQ_hit ?_
    refine seqQ_norm ?_
    refine Wp.seqN (by kernel_rfl) ?_
    refine Wp.reg tiok mix hc (by kernel_rfl) (ah := none) (rs := [some (.no), some (.no)]) (kt := [4]) (ko := [1000]) (T' := [(4, .int .i64 k_6)]) (O' := [(1000, .arr (List.map AV.bool x_7))]) (by kernel_rfl) trivial (by kernel_rfl) (by kernel_rfl) ?_
    refine seqQ_norm ?_
    refine Wp.retN (by kernel_rfl) ?_
    obtain rfl := Option.some.inj h
    exact RetOQ.ret (fl := [true]) (by kernel_rfl)
def laws_markSystem (p : GSystem × Int) : Option (Int × GSystem) :=
  match p with
  | (a0, k1) =>
    (laws_markIntS (a0.fPlus, k1)) >>= fun (r_1_3, o_1_3_0) =>
    (laws_markIntS (a0.fTimes, r_1_3)) >>= fun (r_2_3, o_2_3_0) =>
    (laws_markBoolS (a0.fBelow, r_2_3)) >>= fun (r_3_3, o_3_3_0) =>
    some (r_3_3, (GSystem.mk a0.fSize o_1_3_0 o_2_3_0 o_3_3_0))
def M_laws_markSystem (p : GSystem × Int) (r : Int × GSystem) : Prop :=
  match p with
  | (a0, k1) => FnSound Try.prog 19 [.agg [.int .i64 a0.fSize, .osl (List.map I a0.fPlus), .osl (List.map I a0.fTimes), .osl (List.map AV.bool a0.fBelow)], .int .i64 k1] (.int .i64 r.1) [.agg [.undef, .osl (List.map I r.2.fPlus), .osl (List.map I r.2.fTimes), .osl (List.map AV.bool r.2.fBelow)], .undef]
theorem laws_markSystem_s : ∀ p r, laws_markSystem p = some r → M_laws_markSystem p r := by
  rintro ⟨a0, k1⟩ r h
  unfold laws_markSystem at h
  show FnSound Try.prog 19 [.agg [.int .i64 a0.fSize, .osl (List.map I a0.fPlus), .osl (List.map I a0.fTimes), .osl (List.map AV.bool a0.fBelow)], .int .i64 k1] (.int .i64 r.1) [.agg [.undef, .osl (List.map I r.2.fPlus), .osl (List.map I r.2.fTimes), .osl (List.map AV.bool r.2.fBelow)], .undef]
  refine FnSound.bodyO tiok (fn := Try.f19) (code := B19) (by kernel_rfl) (by kernel_rfl) (by kernel_rfl) (nt := 18) (by kernel_rfl) (by kernel_rfl) (T := [(0, .agg [.int .i64 a0.fSize, .rs 1000, .rs 1001, .rs 1002]), (1, .int .i64 k1)]) (O := [(1000, .arr (List.map I a0.fPlus)), (1001, .arr (List.map I a0.fTimes)), (1002, .arr (List.map AV.bool a0.fBelow))]) (by kernel_rfl) (by kernel_rfl) (fun c hc => ?_)
  refine Wp.seqN (by kernel_rfl) ?_
  refine Wp.reg tiok mix hc (by kernel_rfl) (ah := none) (rs := [some (.new 1), some (.no)]) (kt := [1, 2]) (ko := [1, 1000, 1001, 1002]) (T' := [(1, .int .i64 k1), (2, .ra 1 0)]) (O' := [(1, .box [.int .i64 a0.fSize, .rs 1000, .rs 1001, .rs 1002]), (1000, .arr (List.map I a0.fPlus)), (1001, .arr (List.map I a0.fTimes)), (1002, .arr (List.map AV.bool a0.fBelow))]) (by kernel_rfl) trivial (by kernel_rfl) (by kernel_rfl) ?_
  refine seqQ_norm ?_
  refine Wp.seqN (by kernel_rfl) ?_
  obtain ⟨⟨r_1_3, o_1_3_0⟩, hr_1_3, h⟩ := bsome h
  refine Wp.reg tiok mix hc (by kernel_rfl) (ah := none) (rs := [some (.no), some (.no), some (.no), some (.call (.int .i64 r_1_3) [.osl (List.map I o_1_3_0), .undef] 1), some (.no)]) (kt := [1, 2]) (ko := [1, 1000, 1001, 1002]) (T' := [(1, .int .i64 r_1_3), (2, .ra 1 0)]) (O' := [(1, .box [.int .i64 a0.fSize, .rs 1000, .rs 1001, .rs 1002]), (1000, .arr (List.map I o_1_3_0)), (1001, .arr (List.map I a0.fTimes)), (1002, .arr (List.map AV.bool a0.fBelow))]) (by kernel_rfl) (And.intro (laws_markIntS_s _ _ hr_1_3) (And.intro bod_20 trivial)) (by kernel_rfl) (by kernel_rfl) ?_
  refine seqQ_norm ?_
  refine Wp.seqN (by kernel_rfl) ?_
  obtain ⟨⟨r_2_3, o_2_3_0⟩, hr_2_3, h⟩ := bsome h
  refine Wp.reg tiok mix hc (by kernel_rfl) (ah := none) (rs := [some (.no), some (.no), some (.no), some (.call (.int .i64 r_2_3) [.osl (List.map I o_2_3_0), .undef] 1), some (.no)]) (kt := [1, 2]) (ko := [1, 1000, 1001, 1002]) (T' := [(1, .int .i64 r_2_3), (2, .ra 1 0)]) (O' := [(1, .box [.int .i64 a0.fSize, .rs 1000, .rs 1001, .rs 1002]), (1000, .arr (List.map I o_1_3_0)), (1001, .arr (List.map I o_2_3_0)), (1002, .arr (List.map AV.bool a0.fBelow))]) (by kernel_rfl) (And.intro (laws_markIntS_s _ _ hr_2_3) (And.intro bod_20 trivial)) (by kernel_rfl) (by kernel_rfl) ?_
  refine seqQ_norm ?_
  refine Wp.seqN (by kernel_rfl) ?_
  obtain ⟨⟨r_3_3, o_3_3_0⟩, hr_3_3, h⟩ := bsome h
  refine Wp.reg tiok mix hc (by kernel_rfl) (ah := none) (rs := [some (.no), some (.no), some (.no), some (.call (.int .i64 r_3_3) [.osl (List.map AV.bool o_3_3_0), .undef] 1), some (.no)]) (kt := [1]) (ko := [1000, 1001, 1002]) (T' := [(1, .int .i64 r_3_3)]) (O' := [(1000, .arr (List.map I o_1_3_0)), (1001, .arr (List.map I o_2_3_0)), (1002, .arr (List.map AV.bool o_3_3_0))]) (by kernel_rfl) (And.intro (laws_markBoolS_s _ _ hr_3_3) (And.intro bod_51 trivial)) (by kernel_rfl) (by kernel_rfl) ?_
  refine seqQ_norm ?_
  refine Wp.seqN (by kernel_rfl) ?_
  refine Wp.reg tiok mix hc (by kernel_rfl) (ah := none) (rs := [some (.no), some (.no)]) (kt := [4]) (ko := [1000, 1001, 1002]) (T' := [(4, .int .i64 r_3_3)]) (O' := [(1000, .arr (List.map I o_1_3_0)), (1001, .arr (List.map I o_2_3_0)), (1002, .arr (List.map AV.bool o_3_3_0))]) (by kernel_rfl) trivial (by kernel_rfl) (by kernel_rfl) ?_
  refine seqQ_norm ?_
  refine Wp.retN (by kernel_rfl) ?_
  obtain rfl := Option.some.inj h
  exact RetOQ.ret (fl := [true]) (by kernel_rfl)
def laws_markTermS_F1 (c : Ctx) : Int × (List GTerm) → Exit → AState → Prop
  | (k_6, x_7) => Into c (.exit 0) (mkS [(1, .int .i64 k_6)] [(1000, .arr (List.map GTerm_O x_7))])
mutual
def laws_markTermS (p : (List GTerm) × Int) : Option (Int × (List GTerm)) :=
  match p with
  | (a0, k1) =>
    (laws_markTermS_l0 (a0, k1, 0)) >>= fun (k_6, x_7) =>
    some (k_6, x_7)
  partial_fixpoint
def laws_markTermS_l0 (p : (List GTerm) × Int × Int) : Option (Int × (List GTerm)) :=
  match p with
  | (a_2, k_3, i_4) =>
    if (decide (i_4 < (a_2.length : Int))) = true then
      (idx a_2 i_4) >>= fun e_4_3 =>
      (idx (List.set a_2 (Int.toNat i_4) (GTerm.mk k_3 e_4_3.fN e_4_3.fType e_4_3.fKids)) i_4) >>= fun e_6_3 =>
      (idx (List.set (List.set a_2 (Int.toNat i_4) (GTerm.mk k_3 e_4_3.fN e_4_3.fType e_4_3.fKids)) (Int.toNat i_4) (GTerm.mk e_6_3.fOp (wr (k_3 + 1)) e_6_3.fType e_6_3.fKids)) i_4) >>= fun e_8_x =>
      (laws_markIntS (e_8_x.fType, (wr ((wr (k_3 + 1)) + 1)))) >>= fun (r_8_6, o_8_6_0) =>
      (idx (List.set (List.set (List.set a_2 (Int.toNat i_4) (GTerm.mk k_3 e_4_3.fN e_4_3.fType e_4_3.fKids)) (Int.toNat i_4) (GTerm.mk e_6_3.fOp (wr (k_3 + 1)) e_6_3.fType e_6_3.fKids)) (Int.toNat i_4) (GTerm.mk e_8_x.fOp e_8_x.fN o_8_6_0 e_8_x.fKids)) i_4) >>= fun e_9_x =>
      (laws_markTermS (e_9_x.fKids, r_8_6)) >>= fun (r_9_6, o_9_6_0) =>
      laws_markTermS_l0 ((List.set (List.set (List.set (List.set a_2 (Int.toNat i_4) (GTerm.mk k_3 e_4_3.fN e_4_3.fType e_4_3.fKids)) (Int.toNat i_4) (GTerm.mk e_6_3.fOp (wr (k_3 + 1)) e_6_3.fType e_6_3.fKids)) (Int.toNat i_4) (GTerm.mk e_8_x.fOp e_8_x.fN o_8_6_0 e_8_x.fKids)) (Int.toNat i_4) (GTerm.mk e_9_x.fOp e_9_x.fN e_9_x.fType o_9_6_0)), r_9_6, (wr (i_4 + 1)))
    else
      some ((k_3, a_2))
  partial_fixpoint
end
def M_laws_markTermS (p : (List GTerm) × Int) (r : Int × (List GTerm)) : Prop :=
  match p with
  | (a0, k1) => FnSound Try.prog 52 [.osl (List.map GTerm_O a0), .int .i64 k1] (.int .i64 r.1) [.osl (List.map GTerm_O r.2), .undef]
def M_laws_markTermS_l0 (p : (List GTerm) × Int × Int) (fl : Int × (List GTerm)) : Prop :=
  match p with
  | (a_2, k_3, i_4) => ∀ c : Ctx, c.nt = 41 → WpL Try.prog c (cl (cl (cr (cl (cr B52))))) (laws_markTermS_F1 c fl) (mkS [(0, .rs 1000), (1, .int .i64 k_3), (5, .int .i64 i_4)] [(1000, .arr (List.map GTerm_O a_2))])
theorem laws_markTermS_all : (∀ p r, laws_markTermS p = some r → M_laws_markTermS p r) ∧ (∀ p r, laws_markTermS_l0 p = some r → M_laws_markTermS_l0 p r) := by
  refine laws_markTermS.mutual_partial_correctness M_laws_markTermS M_laws_markTermS_l0 ?_ ?_
  · rintro laws_markTermS_l0_f laws_markTermS_l0_ih ⟨a0, k1⟩ r h
    show FnSound Try.prog 52 [.osl (List.map GTerm_O a0), .int .i64 k1] (.int .i64 r.1) [.osl (List.map GTerm_O r.2), .undef]
    refine FnSound.bodyO tiok (fn := Try.f52) (code := B52) (by kernel_rfl) (by kernel_rfl) (by kernel_rfl) (nt := 41) (by kernel_rfl) (by kernel_rfl) (T := [(0, .rs 1000), (1, .int .i64 k1)]) (O := [(1000, .arr (List.map GTerm_O a0))]) (by kernel_rfl) (by kernel_rfl) (fun c hc => ?_)
    refine Wp.seqN (by kernel_rfl) ?_
    refine Wp.reg tiok mix hc (by kernel_rfl) (ah := none) (rs := [some (.no)]) (kt := [0, 1]) (ko := [1000]) (T' := [(0, .rs 1000), (1, .int .i64 k1)]) (O' := [(1000, .arr (List.map GTerm_O a0))]) (by kernel_rfl) trivial (by kernel_rfl) (by kernel_rfl) ?_
    refine seqQ_norm ?_
    refine Wp.seqN (by kernel_rfl) ?_
    refine Wp.seqN (by kernel_rfl) ?_
    refine Wp.reg tiok mix hc (by kernel_rfl) (ah := none) (rs := [some (.no)]) (kt := [0, 1, 5]) (ko := [1000]) (T' := [(0, .rs 1000), (1, .int .i64 k1), (5, .int .i64 0)]) (O' := [(1000, .arr (List.map GTerm_O a0))]) (by kernel_rfl) trivial (by kernel_rfl) (by kernel_rfl) ?_
    refine seqQ_norm ?_
    refine Wp.blockN (i := 0) (by kernel_rfl) ?_
    obtain ⟨⟨k_6, x_7⟩, hl_8, h⟩ := bsome h
    have hL := laws_markTermS_l0_ih _ _ hl_8 c hc
    refine Wp.loopN (by kernel_rfl) ?_
    · refine WpL.into (e := (.exit 0)) (mkS [(1, .int .i64 k_6)] [(1000, .arr (List.map GTerm_O x_7))]) hL ?_
      refine blockQ_hit ?_
      refine seqQ_norm ?_
      refine Wp.seqN (by kernel_rfl) ?_
      refine Wp.reg tiok mix hc (by kernel_rfl) (ah := none) (rs := [some (.no), some (.no)]) (kt := [4]) (ko := [1000]) (T' := [(4, .int .i64 k_6)]) (O' := [(1000, .arr (List.map GTerm_O x_7))]) (by kernel_rfl) trivial (by kernel_rfl) (by kernel_rfl) ?_
      refine seqQ_norm ?_
      refine Wp.retN (by kernel_rfl) ?_
      obtain rfl := Option.some.inj h
      exact RetOQ.ret (fl := [true]) (by kernel_rfl)
  · rintro laws_markTermS_f laws_markTermS_l0_f laws_markTermS_ih laws_markTermS_l0_ih ⟨a_2, k_3, i_4⟩ r h
    intro c hc
    show WpL Try.prog c (cl (cl (cr (cl (cr B52))))) (laws_markTermS_F1 c r) (mkS [(0, .rs 1000), (1, .int .i64 k_3), (5, .int .i64 i_4)] [(1000, .arr (List.map GTerm_O a_2))])
    refine WpL.step ?_
    refine Wp.seqN (by kernel_rfl) ?_
    refine Wp.seqN (by kernel_rfl) ?_
    refine Wp.reg tiok mix hc (by kernel_rfl) (ah := none) (rs := [some (.no), some (.no), some (.eqv (.no) ⟨[(8, .int .i64 (a_2.length : Int))], [], []⟩), some (.no)]) (kt := [0, 1, 5, 9]) (ko := [1000]) (T' := [(0, .rs 1000), (1, .int .i64 k_3), (5, .int .i64 i_4), (9, .bool (decide (i_4 < (a_2.length : Int))))]) (O' := [(1000, .arr (List.map GTerm_O a_2))]) (by kernel_rfl) (And.intro (lenT (d := 8) GTerm_O a_2) trivial) (by kernel_rfl) (by kernel_rfl) ?_
    refine seqQ_norm ?_
    rcases itesome h with ⟨hb_5, h⟩ | ⟨hb_5, h⟩
    · refine Wp.condT (b := (decide (i_4 < (a_2.length : Int)))) (by kernel_rfl) (by kernel_rfl) hb_5 ?_
      refine Wp.skipN (by kernel_rfl) ?_
      refine seqQ_norm ?_
      refine Wp.seqN (by kernel_rfl) ?_
      refine Wp.blockN (i := 1) (by kernel_rfl) ?_
      refine Wp.seqN (by kernel_rfl) ?_
      obtain ⟨e_4_3, hi_4_3, h⟩ := bsome h
      refine Wp.reg tiok mix hc (by kernel_rfl) (ah := none) (rs := [some (.no), some (.no), some (.no), some (.no), some (.no), some (.eqv (.el (.agg [.int .i64 e_4_3.fOp, .int .i64 e_4_3.fN, .osl (List.map I e_4_3.fType), .osl (List.map GTerm_O e_4_3.fKids)])) ⟨[], [(1000, some (.arr (List.map GTerm_O (List.set a_2 (Int.toNat i_4) (GTerm.mk k_3 e_4_3.fN e_4_3.fType e_4_3.fKids)))))], []⟩)]) (kt := [0, 1, 5]) (ko := [1000]) (T' := [(0, .rs 1000), (1, .int .i64 k_3), (5, .int .i64 i_4)]) (O' := [(1000, .arr (List.map GTerm_O (List.set a_2 (Int.toNat i_4) (GTerm.mk k_3 e_4_3.fN e_4_3.fType e_4_3.fKids))))]) (by kernel_rfl) (And.intro (idx_own (enc := GTerm_O) hi_4_3) (And.intro (congrArg (fun z => (⟨[], [(1000, some (.arr z))], []⟩ : Wr)) (set_row (enc := GTerm_O) (i := Int.toNat i_4) (l := a_2) (v := (GTerm.mk k_3 e_4_3.fN e_4_3.fType e_4_3.fKids)) (x := AV.agg [.int .i64 k_3, .int .i64 e_4_3.fN, .osl (List.map I e_4_3.fType), .osl (List.map GTerm_O e_4_3.fKids)]) (eq_GTerm_O (GTerm.mk k_3 e_4_3.fN e_4_3.fType e_4_3.fKids)))) (And.intro (idx_sl (enc := GTerm_O) (x := .agg [.int .i64 e_4_3.fOp, .int .i64 e_4_3.fN, .osl (List.map I e_4_3.fType), .osl (List.map GTerm_O e_4_3.fKids)]) hi_4_3 (eq_GTerm_O e_4_3)).2 trivial))) (by kernel_rfl) (by kernel_rfl) ?_
      refine seqQ_norm ?_
      refine Wp.seqN (by kernel_rfl) ?_
      refine Wp.reg tiok mix hc (by kernel_rfl) (ah := none) (rs := [some (.no), some (.no), some (.no)]) (kt := [0, 1, 5]) (ko := [1000]) (T' := [(0, .rs 1000), (1, .int .i64 (wr (k_3 + 1))), (5, .int .i64 i_4)]) (O' := [(1000, .arr (List.map GTerm_O (List.set a_2 (Int.toNat i_4) (GTerm.mk k_3 e_4_3.fN e_4_3.fType e_4_3.fKids))))]) (by kernel_rfl) trivial (by kernel_rfl) (by kernel_rfl) ?_
      refine seqQ_norm ?_
      refine Wp.seqN (by kernel_rfl) ?_
      obtain ⟨e_6_3, hi_6_3, h⟩ := bsome h
      refine Wp.reg tiok mix hc (by kernel_rfl) (ah := none) (rs := [some (.no), some (.no), some (.no), some (.no), some (.no), some (.eqv (.el (.agg [.int .i64 e_6_3.fOp, .int .i64 e_6_3.fN, .osl (List.map I e_6_3.fType), .osl (List.map GTerm_O e_6_3.fKids)])) ⟨[], [(1000, some (.arr (List.map GTerm_O (List.set (List.set a_2 (Int.toNat i_4) (GTerm.mk k_3 e_4_3.fN e_4_3.fType e_4_3.fKids)) (Int.toNat i_4) (GTerm.mk e_6_3.fOp (wr (k_3 + 1)) e_6_3.fType e_6_3.fKids)))))], []⟩)]) (kt := [0, 1, 5]) (ko := [1000]) (T' := [(0, .rs 1000), (1, .int .i64 (wr (k_3 + 1))), (5, .int .i64 i_4)]) (O' := [(1000, .arr (List.map GTerm_O (List.set (List.set a_2 (Int.toNat i_4) (GTerm.mk k_3 e_4_3.fN e_4_3.fType e_4_3.fKids)) (Int.toNat i_4) (GTerm.mk e_6_3.fOp (wr (k_3 + 1)) e_6_3.fType e_6_3.fKids))))]) (by kernel_rfl) (And.intro (idx_own (enc := GTerm_O) hi_6_3) (And.intro (congrArg (fun z => (⟨[], [(1000, some (.arr z))], []⟩ : Wr)) (set_row (enc := GTerm_O) (i := Int.toNat i_4) (l := (List.set a_2 (Int.toNat i_4) (GTerm.mk k_3 e_4_3.fN e_4_3.fType e_4_3.fKids))) (v := (GTerm.mk e_6_3.fOp (wr (k_3 + 1)) e_6_3.fType e_6_3.fKids)) (x := AV.agg [.int .i64 e_6_3.fOp, .int .i64 (wr (k_3 + 1)), .osl (List.map I e_6_3.fType), .osl (List.map GTerm_O e_6_3.fKids)]) (eq_GTerm_O (GTerm.mk e_6_3.fOp (wr (k_3 + 1)) e_6_3.fType e_6_3.fKids)))) (And.intro (idx_sl (enc := GTerm_O) (x := .agg [.int .i64 e_6_3.fOp, .int .i64 e_6_3.fN, .osl (List.map I e_6_3.fType), .osl (List.map GTerm_O e_6_3.fKids)]) hi_6_3 (eq_GTerm_O e_6_3)).2 trivial))) (by kernel_rfl) (by kernel_rfl) ?_
      refine seqQ_norm ?_
      refine Wp.seqN (by kernel_rfl) ?_
      refine Wp.reg tiok mix hc (by kernel_rfl) (ah := none) (rs := [some (.no), some (.no), some (.no)]) (kt := [0, 1, 5]) (ko := [1000]) (T' := [(0, .rs 1000), (1, .int .i64 (wr ((wr (k_3 + 1)) + 1))), (5, .int .i64 i_4)]) (O' := [(1000, .arr (List.map GTerm_O (List.set (List.set a_2 (Int.toNat i_4) (GTerm.mk k_3 e_4_3.fN e_4_3.fType e_4_3.fKids)) (Int.toNat i_4) (GTerm.mk e_6_3.fOp (wr (k_3 + 1)) e_6_3.fType e_6_3.fKids))))]) (by kernel_rfl) trivial (by kernel_rfl) (by kernel_rfl) ?_
      refine seqQ_norm ?_
      refine Wp.seqN (by kernel_rfl) ?_
      obtain ⟨e_8_x, hx_8_x, h⟩ := bsome h
      refine Wp.view (fun a w hv => SRx.openL 1000 (Int.toNat i_4) 2 3 [3, 1000] (xs := List.map GTerm_O (List.set (List.set a_2 (Int.toNat i_4) (GTerm.mk k_3 e_4_3.fN e_4_3.fType e_4_3.fKids)) (Int.toNat i_4) (GTerm.mk e_6_3.fOp (wr (k_3 + 1)) e_6_3.fType e_6_3.fKids))) (ys := List.map I e_8_x.fType) (x0 := .agg [.int .i64 e_8_x.fOp, .int .i64 e_8_x.fN, .osl (List.map I e_8_x.fType), .osl (List.map GTerm_O e_8_x.fKids)]) hv (by kernel_rfl) (idx_sl (enc := GTerm_O) (x := .agg [.int .i64 e_8_x.fOp, .int .i64 e_8_x.fN, .osl (List.map I e_8_x.fType), .osl (List.map GTerm_O e_8_x.fKids)]) hx_8_x (eq_GTerm_O e_8_x)).2 (by kernel_rfl) (by kernel_rfl) (by kernel_rfl)) (?_ : Wp Try.prog c _ _ (mkS [(0, .rs 1000), (1, .int .i64 (wr ((wr (k_3 + 1)) + 1))), (5, .int .i64 i_4)] [(3, .arr (List.map I e_8_x.fType)), (1000, .arx (List.map GTerm_O (List.set (List.set a_2 (Int.toNat i_4) (GTerm.mk k_3 e_4_3.fN e_4_3.fType e_4_3.fKids)) (Int.toNat i_4) (GTerm.mk e_6_3.fOp (wr (k_3 + 1)) e_6_3.fType e_6_3.fKids))) (Int.toNat i_4) 2 3)]))
      obtain ⟨⟨r_8_6, o_8_6_0⟩, hr_8_6, h⟩ := bsome h
      refine Wp.reg tiok mix hc (by kernel_rfl) (ah := none) (rs := [some (.no), some (.no), some (.no), some (.no), some (.el (.agg [.int .i64 e_8_x.fOp, .int .i64 e_8_x.fN, .osl (List.map I e_8_x.fType), .osl (List.map GTerm_O e_8_x.fKids)])), some (.no), some (.call (.int .i64 r_8_6) [.osl (List.map I o_8_6_0), .undef] 1), some (.no)]) (kt := [0, 1, 5]) (ko := [3, 1000]) (T' := [(0, .rs 1000), (1, .int .i64 r_8_6), (5, .int .i64 i_4)]) (O' := [(3, .arr (List.map I o_8_6_0)), (1000, .arx (List.map GTerm_O (List.set (List.set a_2 (Int.toNat i_4) (GTerm.mk k_3 e_4_3.fN e_4_3.fType e_4_3.fKids)) (Int.toNat i_4) (GTerm.mk e_6_3.fOp (wr (k_3 + 1)) e_6_3.fType e_6_3.fKids))) (Int.toNat i_4) 2 3)]) (by kernel_rfl) (And.intro (idx_own (enc := GTerm_O) hx_8_x) (And.intro (And.intro (idx_sl (enc := GTerm_O) (x := .agg [.int .i64 e_8_x.fOp, .int .i64 e_8_x.fN, .osl (List.map I e_8_x.fType), .osl (List.map GTerm_O e_8_x.fKids)]) hx_8_x (eq_GTerm_O e_8_x)).2 (rfl : Int.toNat i_4 = Int.toNat i_4)) (And.intro (laws_markIntS_s _ _ hr_8_6) (And.intro bod_20 trivial)))) (by kernel_rfl) (by kernel_rfl) ?_
      refine seqQ_norm ?_
      refine Wp.view (fun a w hv => SRx.closeL 1000 (Int.toNat i_4) 2 3 [1000] (xs := List.map GTerm_O (List.set (List.set a_2 (Int.toNat i_4) (GTerm.mk k_3 e_4_3.fN e_4_3.fType e_4_3.fKids)) (Int.toNat i_4) (GTerm.mk e_6_3.fOp (wr (k_3 + 1)) e_6_3.fType e_6_3.fKids))) (ys := List.map I o_8_6_0) (x0 := .agg [.int .i64 e_8_x.fOp, .int .i64 e_8_x.fN, .osl (List.map I e_8_x.fType), .osl (List.map GTerm_O e_8_x.fKids)]) (x1 := AV.agg [.int .i64 e_8_x.fOp, .int .i64 e_8_x.fN, .osl (List.map I o_8_6_0), .osl (List.map GTerm_O e_8_x.fKids)]) hv (by kernel_rfl) (by kernel_rfl) (by kernel_rfl) (idx_sl (enc := GTerm_O) (x := .agg [.int .i64 e_8_x.fOp, .int .i64 e_8_x.fN, .osl (List.map I e_8_x.fType), .osl (List.map GTerm_O e_8_x.fKids)]) hx_8_x (eq_GTerm_O e_8_x)).2 (by kernel_rfl) (by kernel_rfl : _ = AV.agg [.int .i64 e_8_x.fOp, .int .i64 e_8_x.fN, .osl (List.map I o_8_6_0), .osl (List.map GTerm_O e_8_x.fKids)]) (set_row (enc := GTerm_O) (i := Int.toNat i_4) (l := (List.set (List.set a_2 (Int.toNat i_4) (GTerm.mk k_3 e_4_3.fN e_4_3.fType e_4_3.fKids)) (Int.toNat i_4) (GTerm.mk e_6_3.fOp (wr (k_3 + 1)) e_6_3.fType e_6_3.fKids))) (v := (GTerm.mk e_8_x.fOp e_8_x.fN o_8_6_0 e_8_x.fKids)) (x := AV.agg [.int .i64 e_8_x.fOp, .int .i64 e_8_x.fN, .osl (List.map I o_8_6_0), .osl (List.map GTerm_O e_8_x.fKids)]) (eq_GTerm_O (GTerm.mk e_8_x.fOp e_8_x.fN o_8_6_0 e_8_x.fKids))) (by kernel_rfl)) (?_ : Wp Try.prog c _ _ (mkS [(0, .rs 1000), (1, .int .i64 r_8_6), (5, .int .i64 i_4)] [(1000, .arr (List.map GTerm_O (List.set (List.set (List.set a_2 (Int.toNat i_4) (GTerm.mk k_3 e_4_3.fN e_4_3.fType e_4_3.fKids)) (Int.toNat i_4) (GTerm.mk e_6_3.fOp (wr (k_3 + 1)) e_6_3.fType e_6_3.fKids)) (Int.toNat i_4) (GTerm.mk e_8_x.fOp e_8_x.fN o_8_6_0 e_8_x.fKids))))]))
      obtain ⟨e_9_x, hx_9_x, h⟩ := bsome h
      refine Wp.view (fun a w hv => SRx.openL 1000 (Int.toNat i_4) 3 4 [4, 1000] (xs := List.map GTerm_O (List.set (List.set (List.set a_2 (Int.toNat i_4) (GTerm.mk k_3 e_4_3.fN e_4_3.fType e_4_3.fKids)) (Int.toNat i_4) (GTerm.mk e_6_3.fOp (wr (k_3 + 1)) e_6_3.fType e_6_3.fKids)) (Int.toNat i_4) (GTerm.mk e_8_x.fOp e_8_x.fN o_8_6_0 e_8_x.fKids))) (ys := List.map GTerm_O e_9_x.fKids) (x0 := .agg [.int .i64 e_9_x.fOp, .int .i64 e_9_x.fN, .osl (List.map I e_9_x.fType), .osl (List.map GTerm_O e_9_x.fKids)]) hv (by kernel_rfl) (idx_sl (enc := GTerm_O) (x := .agg [.int .i64 e_9_x.fOp, .int .i64 e_9_x.fN, .osl (List.map I e_9_x.fType), .osl (List.map GTerm_O e_9_x.fKids)]) hx_9_x (eq_GTerm_O e_9_x)).2 (by kernel_rfl) (by kernel_rfl) (by kernel_rfl)) (?_ : Wp Try.prog c _ _ (mkS [(0, .rs 1000), (1, .int .i64 r_8_6), (5, .int .i64 i_4)] [(4, .arr (List.map GTerm_O e_9_x.fKids)), (1000, .arx (List.map GTerm_O (List.set (List.set (List.set a_2 (Int.toNat i_4) (GTerm.mk k_3 e_4_3.fN e_4_3.fType e_4_3.fKids)) (Int.toNat i_4) (GTerm.mk e_6_3.fOp (wr (k_3 + 1)) e_6_3.fType e_6_3.fKids)) (Int.toNat i_4) (GTerm.mk e_8_x.fOp e_8_x.fN o_8_6_0 e_8_x.fKids))) (Int.toNat i_4) 3 4)]))
      obtain ⟨⟨r_9_6, o_9_6_0⟩, hr_9_6, h⟩ := bsome h
      refine Wp.reg tiok mix hc (by kernel_rfl) (ah := none) (rs := [some (.no), some (.no), some (.no), some (.no), some (.el (.agg [.int .i64 e_9_x.fOp, .int .i64 e_9_x.fN, .osl (List.map I e_9_x.fType), .osl (List.map GTerm_O e_9_x.fKids)])), some (.no), some (.call (.int .i64 r_9_6) [.osl (List.map GTerm_O o_9_6_0), .undef] 1), some (.no)]) (kt := [0, 1, 5]) (ko := [4, 1000]) (T' := [(0, .rs 1000), (1, .int .i64 r_9_6), (5, .int .i64 i_4)]) (O' := [(4, .arr (List.map GTerm_O o_9_6_0)), (1000, .arx (List.map GTerm_O (List.set (List.set (List.set a_2 (Int.toNat i_4) (GTerm.mk k_3 e_4_3.fN e_4_3.fType e_4_3.fKids)) (Int.toNat i_4) (GTerm.mk e_6_3.fOp (wr (k_3 + 1)) e_6_3.fType e_6_3.fKids)) (Int.toNat i_4) (GTerm.mk e_8_x.fOp e_8_x.fN o_8_6_0 e_8_x.fKids))) (Int.toNat i_4) 3 4)]) (by kernel_rfl) (And.intro (idx_own (enc := GTerm_O) hx_9_x) (And.intro (And.intro (idx_sl (enc := GTerm_O) (x := .agg [.int .i64 e_9_x.fOp, .int .i64 e_9_x.fN, .osl (List.map I e_9_x.fType), .osl (List.map GTerm_O e_9_x.fKids)]) hx_9_x (eq_GTerm_O e_9_x)).2 (rfl : Int.toNat i_4 = Int.toNat i_4)) (And.intro (laws_markTermS_ih _ _ hr_9_6) (And.intro bod_52 trivial)))) (by kernel_rfl) (by kernel_rfl) ?_
      refine blockQ_norm ?_
      refine seqQ_norm ?_
      refine Wp.view (fun a w hv => SRx.closeL 1000 (Int.toNat i_4) 3 4 [1000] (xs := List.map GTerm_O (List.set (List.set (List.set a_2 (Int.toNat i_4) (GTerm.mk k_3 e_4_3.fN e_4_3.fType e_4_3.fKids)) (Int.toNat i_4) (GTerm.mk e_6_3.fOp (wr (k_3 + 1)) e_6_3.fType e_6_3.fKids)) (Int.toNat i_4) (GTerm.mk e_8_x.fOp e_8_x.fN o_8_6_0 e_8_x.fKids))) (ys := List.map GTerm_O o_9_6_0) (x0 := .agg [.int .i64 e_9_x.fOp, .int .i64 e_9_x.fN, .osl (List.map I e_9_x.fType), .osl (List.map GTerm_O e_9_x.fKids)]) (x1 := AV.agg [.int .i64 e_9_x.fOp, .int .i64 e_9_x.fN, .osl (List.map I e_9_x.fType), .osl (List.map GTerm_O o_9_6_0)]) hv (by kernel_rfl) (by kernel_rfl) (by kernel_rfl) (idx_sl (enc := GTerm_O) (x := .agg [.int .i64 e_9_x.fOp, .int .i64 e_9_x.fN, .osl (List.map I e_9_x.fType), .osl (List.map GTerm_O e_9_x.fKids)]) hx_9_x (eq_GTerm_O e_9_x)).2 (by kernel_rfl) (by kernel_rfl : _ = AV.agg [.int .i64 e_9_x.fOp, .int .i64 e_9_x.fN, .osl (List.map I e_9_x.fType), .osl (List.map GTerm_O o_9_6_0)]) (set_row (enc := GTerm_O) (i := Int.toNat i_4) (l := (List.set (List.set (List.set a_2 (Int.toNat i_4) (GTerm.mk k_3 e_4_3.fN e_4_3.fType e_4_3.fKids)) (Int.toNat i_4) (GTerm.mk e_6_3.fOp (wr (k_3 + 1)) e_6_3.fType e_6_3.fKids)) (Int.toNat i_4) (GTerm.mk e_8_x.fOp e_8_x.fN o_8_6_0 e_8_x.fKids))) (v := (GTerm.mk e_9_x.fOp e_9_x.fN e_9_x.fType o_9_6_0)) (x := AV.agg [.int .i64 e_9_x.fOp, .int .i64 e_9_x.fN, .osl (List.map I e_9_x.fType), .osl (List.map GTerm_O o_9_6_0)]) (eq_GTerm_O (GTerm.mk e_9_x.fOp e_9_x.fN e_9_x.fType o_9_6_0))) (by kernel_rfl)) (?_ : Wp Try.prog c _ _ (mkS [(0, .rs 1000), (1, .int .i64 r_9_6), (5, .int .i64 i_4)] [(1000, .arr (List.map GTerm_O (List.set (List.set (List.set (List.set a_2 (Int.toNat i_4) (GTerm.mk k_3 e_4_3.fN e_4_3.fType e_4_3.fKids)) (Int.toNat i_4) (GTerm.mk e_6_3.fOp (wr (k_3 + 1)) e_6_3.fType e_6_3.fKids)) (Int.toNat i_4) (GTerm.mk e_8_x.fOp e_8_x.fN o_8_6_0 e_8_x.fKids)) (Int.toNat i_4) (GTerm.mk e_9_x.fOp e_9_x.fN e_9_x.fType o_9_6_0))))]))
      refine Wp.reg tiok mix hc (by kernel_rfl) (ah := none) (rs := [some (.no), some (.no), some (.no)]) (kt := [0, 1, 5]) (ko := [1000]) (T' := [(0, .rs 1000), (1, .int .i64 r_9_6), (5, .int .i64 (wr (i_4 + 1)))]) (O' := [(1000, .arr (List.map GTerm_O (List.set (List.set (List.set (List.set a_2 (Int.toNat i_4) (GTerm.mk k_3 e_4_3.fN e_4_3.fType e_4_3.fKids)) (Int.toNat i_4) (GTerm.mk e_6_3.fOp (wr (k_3 + 1)) e_6_3.fType e_6_3.fKids)) (Int.toNat i_4) (GTerm.mk e_8_x.fOp e_8_x.fN o_8_6_0 e_8_x.fKids)) (Int.toNat i_4) (GTerm.mk e_9_x.fOp e_9_x.fN e_9_x.fType o_9_6_0))))]) (by kernel_rfl) trivial (by kernel_rfl) (by kernel_rfl) ?_
      refine loopQ_norm ?_
      exact (laws_markTermS_l0_ih _ _ h c hc)
    · refine Wp.condF (b := (decide (i_4 < (a_2.length : Int)))) (by kernel_rfl) (by kernel_rfl) hb_5 ?_
      refine Wp.exitN (i := 0) (by kernel_rfl) ?_
      refine seqQ_exit ?_
      refine loopQ_exit ?_
      obtain ⟨rfl, rfl⟩ := Prod.mk.inj (Option.some.inj h)
      exact Into.view (fun a w hv => SRx.renL [] hv (by kernel_rfl) (by kernel_rfl) (by kernel_rfl))
theorem laws_markTermS_s : ∀ p r, laws_markTermS p = some r → M_laws_markTermS p r := laws_markTermS_all.1
theorem laws_markTermS_l0_s : ∀ p r, laws_markTermS_l0 p = some r → M_laws_markTermS_l0 p r := laws_markTermS_all.2
def laws_markTerm (p : GTerm × Int) : Option (Int × GTerm) :=
  match p with
  | (a0, k1) =>
    (laws_markIntS (a0.fType, k1)) >>= fun (r_1_3, o_1_3_0) =>
    (laws_markTermS (a0.fKids, r_1_3)) >>= fun (r_2_3, o_2_3_0) =>
    some (r_2_3, (GTerm.mk a0.fOp a0.fN o_1_3_0 o_2_3_0))
def M_laws_markTerm (p : GTerm × Int) (r : Int × GTerm) : Prop :=
  match p with
  | (a0, k1) => FnSound Try.prog 21 [.agg [.int .i64 a0.fOp, .int .i64 a0.fN, .osl (List.map I a0.fType), .osl (List.map GTerm_O a0.fKids)], .int .i64 k1] (.int .i64 r.1) [.agg [.undef, .undef, .osl (List.map I r.2.fType), .osl (List.map GTerm_O r.2.fKids)], .undef]
theorem laws_markTerm_s : ∀ p r, laws_markTerm p = some r → M_laws_markTerm p r := by
  rintro ⟨a0, k1⟩ r h
  unfold laws_markTerm at h
  show FnSound Try.prog 21 [.agg [.int .i64 a0.fOp, .int .i64 a0.fN, .osl (List.map I a0.fType), .osl (List.map GTerm_O a0.fKids)], .int .i64 k1] (.int .i64 r.1) [.agg [.undef, .undef, .osl (List.map I r.2.fType), .osl (List.map GTerm_O r.2.fKids)], .undef]
  refine FnSound.bodyO tiok (fn := Try.f21) (code := B21) (by kernel_rfl) (by kernel_rfl) (by kernel_rfl) (nt := 14) (by kernel_rfl) (by kernel_rfl) (T := [(0, .agg [.int .i64 a0.fOp, .int .i64 a0.fN, .rs 1000, .rs 1001]), (1, .int .i64 k1)]) (O := [(1000, .arr (List.map I a0.fType)), (1001, .arr (List.map GTerm_O a0.fKids))]) (by kernel_rfl) (by kernel_rfl) (fun c hc => ?_)
  refine Wp.seqN (by kernel_rfl) ?_
  refine Wp.reg tiok mix hc (by kernel_rfl) (ah := none) (rs := [some (.new 1), some (.no)]) (kt := [1, 2]) (ko := [1, 1000, 1001]) (T' := [(1, .int .i64 k1), (2, .ra 1 0)]) (O' := [(1, .box [.int .i64 a0.fOp, .int .i64 a0.fN, .rs 1000, .rs 1001]), (1000, .arr (List.map I a0.fType)), (1001, .arr (List.map GTerm_O a0.fKids))]) (by kernel_rfl) trivial (by kernel_rfl) (by kernel_rfl) ?_
  refine seqQ_norm ?_
  refine Wp.seqN (by kernel_rfl) ?_
  obtain ⟨⟨r_1_3, o_1_3_0⟩, hr_1_3, h⟩ := bsome h
  refine Wp.reg tiok mix hc (by kernel_rfl) (ah := none) (rs := [some (.no), some (.no), some (.no), some (.call (.int .i64 r_1_3) [.osl (List.map I o_1_3_0), .undef] 1), some (.no)]) (kt := [1, 2]) (ko := [1, 1000, 1001]) (T' := [(1, .int .i64 r_1_3), (2, .ra 1 0)]) (O' := [(1, .box [.int .i64 a0.fOp, .int .i64 a0.fN, .rs 1000, .rs 1001]), (1000, .arr (List.map I o_1_3_0)), (1001, .arr (List.map GTerm_O a0.fKids))]) (by kernel_rfl) (And.intro (laws_markIntS_s _ _ hr_1_3) (And.intro bod_20 trivial)) (by kernel_rfl) (by kernel_rfl) ?_
  refine seqQ_norm ?_
  refine Wp.seqN (by kernel_rfl) ?_
  obtain ⟨⟨r_2_3, o_2_3_0⟩, hr_2_3, h⟩ := bsome h
  refine Wp.reg tiok mix hc (by kernel_rfl) (ah := none) (rs := [some (.no), some (.no), some (.no), some (.call (.int .i64 r_2_3) [.osl (List.map GTerm_O o_2_3_0), .undef] 1), some (.no)]) (kt := [1]) (ko := [1000, 1001]) (T' := [(1, .int .i64 r_2_3)]) (O' := [(1000, .arr (List.map I o_1_3_0)), (1001, .arr (List.map GTerm_O o_2_3_0))]) (by kernel_rfl) (And.intro (laws_markTermS_s _ _ hr_2_3) (And.intro bod_52 trivial)) (by kernel_rfl) (by kernel_rfl) ?_
  refine seqQ_norm ?_
  refine Wp.seqN (by kernel_rfl) ?_
  refine Wp.reg tiok mix hc (by kernel_rfl) (ah := none) (rs := [some (.no), some (.no)]) (kt := [4]) (ko := [1000, 1001]) (T' := [(4, .int .i64 r_2_3)]) (O' := [(1000, .arr (List.map I o_1_3_0)), (1001, .arr (List.map GTerm_O o_2_3_0))]) (by kernel_rfl) trivial (by kernel_rfl) (by kernel_rfl) ?_
  refine seqQ_norm ?_
  refine Wp.retN (by kernel_rfl) ?_
  obtain rfl := Option.some.inj h
  exact RetOQ.ret (fl := [true]) (by kernel_rfl)
def laws_heldIntS_F1 (c : Ctx) : (Int) ⊕ (Int) → Exit → AState → Prop
  | .inl k_7 => Into c (.exit 0) (mkS [(1, .int .i64 k_7)] [])
  | .inr r => RetE TIx Try.f53 [] (.int .i64 r)
def laws_heldIntS_l0 (p : (List Int) × Int × Int) : Option ((Int) ⊕ (Int)) :=
  match p with
  | (a0, k_3, i_4) =>
    if (decide (i_4 < (a0.length : Int))) = true then
      (idx a0 i_4) >>= fun e_4_2 =>
      if (e_4_2 != k_3) = true then
        some (.inr (-1))
      else
        laws_heldIntS_l0 (a0, (wr (k_3 + 1)), (wr (i_4 + 1)))
    else
      some (.inl k_3)
  partial_fixpoint
def M_laws_heldIntS_l0 (p : (List Int) × Int × Int) (fl : (Int) ⊕ (Int)) : Prop :=
  match p with
  | (a0, k_3, i_4) => ∀ c : Ctx, c.nt = 21 → WpL Try.prog c (cl (cl (cr (cl (cr B53))))) (laws_heldIntS_F1 c fl) (mkS [(0, .sl (List.map I a0)), (1, .int .i64 k_3), (5, .int .i64 i_4)] [])
theorem laws_heldIntS_l0_s : ∀ p r, laws_heldIntS_l0 p = some r → M_laws_heldIntS_l0 p r := by
  refine laws_heldIntS_l0.partial_correctness M_laws_heldIntS_l0 ?_
  rintro laws_heldIntS_l0_f laws_heldIntS_l0_ih ⟨a0, k_3, i_4⟩ r h
  intro c hc
  show WpL Try.prog c (cl (cl (cr (cl (cr B53))))) (laws_heldIntS_F1 c r) (mkS [(0, .sl (List.map I a0)), (1, .int .i64 k_3), (5, .int .i64 i_4)] [])
  refine WpL.step ?_
  refine Wp.seqN (by kernel_rfl) ?_
  refine Wp.seqN (by kernel_rfl) ?_
  refine Wp.reg tiok mix hc (by kernel_rfl) (ah := none) (rs := [some (.no), some (.no), some (.eqv (.no) ⟨[(8, .int .i64 (a0.length : Int))], [], []⟩), some (.no)]) (kt := [0, 1, 5, 9]) (ko := []) (T' := [(0, .sl (List.map I a0)), (1, .int .i64 k_3), (5, .int .i64 i_4), (9, .bool (decide (i_4 < (a0.length : Int))))]) (O' := []) (by kernel_rfl) (And.intro (lenT (d := 8) I a0) trivial) (by kernel_rfl) (by kernel_rfl) ?_
  refine seqQ_norm ?_
  rcases itesome h with ⟨hb_5, h⟩ | ⟨hb_5, h⟩
  · refine Wp.condT (b := (decide (i_4 < (a0.length : Int)))) (by kernel_rfl) (by kernel_rfl) hb_5 ?_
    refine Wp.skipN (by kernel_rfl) ?_
    refine seqQ_norm ?_
    refine Wp.seqN (by kernel_rfl) ?_
    refine Wp.blockN (i := 1) (by kernel_rfl) ?_
    refine Wp.seqN (by kernel_rfl) ?_
    refine Wp.seqN (by kernel_rfl) ?_
    obtain ⟨e_4_2, hi_4_2, h⟩ := bsome h
    refine Wp.reg tiok mix hc (by kernel_rfl) (ah := none) (rs := [some (.no), some (.no), some (.el (.int .i64 e_4_2)), some (.no), some (.no), some (.no)]) (kt := [0, 1, 5, 17]) (ko := []) (T' := [(0, .sl (List.map I a0)), (1, .int .i64 k_3), (5, .int .i64 i_4), (17, .bool (e_4_2 != k_3))]) (O' := []) (by kernel_rfl) (And.intro (idx_sl (enc := I) (x := .int .i64 e_4_2) hi_4_2 (eq_I e_4_2)) trivial) (by kernel_rfl) (by kernel_rfl) ?_
    refine seqQ_norm ?_
    rcases itesome h with ⟨hb_6, h⟩ | ⟨hb_6, h⟩
    · refine Wp.condT (b := (e_4_2 != k_3)) (by kernel_rfl) (by kernel_rfl) hb_6 ?_
      refine Wp.seqN (by kernel_rfl) ?_
      refine Wp.reg tiok mix hc (by kernel_rfl) (ah := none) (rs := [some (.no)]) (kt := [4]) (ko := []) (T' := [(4, .int .i64 (-1))]) (O' := []) (by kernel_rfl) trivial (by kernel_rfl) (by kernel_rfl) ?_
      refine seqQ_norm ?_
      refine Wp.retN (by kernel_rfl) ?_
      refine seqQ_ret ?_
      refine blockQ_ret ?_
      refine seqQ_ret ?_
      refine loopQ_ret ?_
      obtain rfl := Option.some.inj h
      exact RetE.ret (fl := [true]) (by kernel_rfl)
    · refine Wp.condF (b := (e_4_2 != k_3)) (by kernel_rfl) (by kernel_rfl) hb_6 ?_
      refine Wp.skipN (by kernel_rfl) ?_
      refine seqQ_norm ?_
      refine Wp.reg tiok mix hc (by kernel_rfl) (ah := none) (rs := [some (.no), some (.no), some (.no)]) (kt := [0, 1, 5]) (ko := []) (T' := [(0, .sl (List.map I a0)), (1, .int .i64 (wr (k_3 + 1))), (5, .int .i64 i_4)]) (O' := []) (by kernel_rfl) trivial (by kernel_rfl) (by kernel_rfl) ?_
      refine blockQ_norm ?_
      refine seqQ_norm ?_
      refine Wp.reg tiok mix hc (by kernel_rfl) (ah := none) (rs := [some (.no), some (.no), some (.no)]) (kt := [0, 1, 5]) (ko := []) (T' := [(0, .sl (List.map I a0)), (1, .int .i64 (wr (k_3 + 1))), (5, .int .i64 (wr (i_4 + 1)))]) (O' := []) (by kernel_rfl) trivial (by kernel_rfl) (by kernel_rfl) ?_
      refine loopQ_norm ?_
      exact (laws_heldIntS_l0_ih _ _ h c hc)
  · refine Wp.condF (b := (decide (i_4 < (a0.length : Int)))) (by kernel_rfl) (by kernel_rfl) hb_5 ?_
    refine Wp.exitN (i := 0) (by kernel_rfl) ?_
    refine seqQ_exit ?_
    refine loopQ_exit ?_
    obtain rfl := Option.some.inj h
    exact Into.view (fun a w hv => SRx.renL [] hv (by kernel_rfl) (by kernel_rfl) (by kernel_rfl))
def laws_heldIntS (p : (List Int) × Int) : Option (Int) :=
  match p with
  | (a0, k1) =>
    (laws_heldIntS_l0 (a0, k1, 0)) >>= fun fl => match fl with
    | .inl k_7 =>
      some k_7
    | .inr r =>
      some r
def M_laws_heldIntS (p : (List Int) × Int) (r : Int) : Prop :=
  match p with
  | (a0, k1) => FnSound Try.prog 53 [.sl (List.map I a0), .int .i64 k1] (.int .i64 r) []
theorem laws_heldIntS_s : ∀ p r, laws_heldIntS p = some r → M_laws_heldIntS p r := by
  rintro ⟨a0, k1⟩ r h
  unfold laws_heldIntS at h
  show FnSound Try.prog 53 [.sl (List.map I a0), .int .i64 k1] (.int .i64 r) []
  refine FnSound.body0 tiok (fn := Try.f53) (code := B53) (by kernel_rfl) (by kernel_rfl) (by kernel_rfl) (by kernel_rfl) (nt := 21) (by kernel_rfl) (by kernel_rfl) (T := [(0, .sl (List.map I a0)), (1, .int .i64 k1)]) (O := []) (by kernel_rfl) (by kernel_rfl) (fun c hc => ?_)
  refine Wp.seqN (by kernel_rfl) ?_
  refine Wp.reg tiok mix hc (by kernel_rfl) (ah := none) (rs := [some (.no)]) (kt := [0, 1]) (ko := []) (T' := [(0, .sl (List.map I a0)), (1, .int .i64 k1)]) (O' := []) (by kernel_rfl) trivial (by kernel_rfl) (by kernel_rfl) ?_
  refine seqQ_norm ?_
  refine Wp.seqN (by kernel_rfl) ?_
  refine Wp.seqN (by kernel_rfl) ?_
  refine Wp.reg tiok mix hc (by kernel_rfl) (ah := none) (rs := [some (.no)]) (kt := [0, 1, 5]) (ko := []) (T' := [(0, .sl (List.map I a0)), (1, .int .i64 k1), (5, .int .i64 0)]) (O' := []) (by kernel_rfl) trivial (by kernel_rfl) (by kernel_rfl) ?_
  refine seqQ_norm ?_
  refine Wp.blockN (i := 0) (by kernel_rfl) ?_
  obtain ⟨fl, hl_8, h⟩ := bsome h
  have hL := laws_heldIntS_l0_s _ _ hl_8 c hc
  refine Wp.loopN (by kernel_rfl) ?_
  rcases fl with k_7 | r
  · refine WpL.into (e := (.exit 0)) (mkS [(1, .int .i64 k_7)] []) hL ?_
    refine blockQ_hit ?_
    refine seqQ_norm ?_
    refine Wp.seqN (by kernel_rfl) ?_
    refine Wp.reg tiok mix hc (by kernel_rfl) (ah := none) (rs := [some (.no), some (.no)]) (kt := [4]) (ko := []) (T' := [(4, .int .i64 k_7)]) (O' := []) (by kernel_rfl) trivial (by kernel_rfl) (by kernel_rfl) ?_
    refine seqQ_norm ?_
    refine Wp.retN (by kernel_rfl) ?_
    obtain rfl := Option.some.inj h
    exact RetQ.ret (fl := [true]) (by kernel_rfl)
  · refine WpL.mono hL ?_
    rintro _ _ ⟨rfl, hfin⟩
    refine blockQ_ret ?_
    refine seqQ_ret ?_
    obtain rfl := Option.some.inj h
    exact ⟨.inl rfl, hfin⟩
def laws_heldTermS_F1 (c : Ctx) : (Int) ⊕ (Int) → Exit → AState → Prop
  | .inl k_13 => Into c (.exit 0) (mkS [(1, .int .i64 k_13)] [])
  | .inr r => RetE TIx Try.f54 [] (.int .i64 r)
mutual
def laws_heldTermS (p : (List GTerm) × Int) : Option (Int) :=
  match p with
  | (a0, k1) =>
    (laws_heldTermS_l0 (a0, k1, 0)) >>= fun fl => match fl with
    | .inl k_13 =>
      some k_13
    | .inr r =>
      some r
  partial_fixpoint
def laws_heldTermS_l0 (p : (List GTerm) × Int × Int) : Option ((Int) ⊕ (Int)) :=
  match p with
  | (a0, k_6, i_7) =>
    if (decide (i_7 < (a0.length : Int))) = true then
      (idx a0 i_7) >>= fun e_4_2 =>
      if (e_4_2.fOp != k_6) = true then
        some (.inr (-1))
      else
        (idx a0 i_7) >>= fun e_7_2 =>
        if (e_7_2.fN != (wr (k_6 + 1))) = true then
          some (.inr (-1))
        else
          (idx a0 i_7) >>= fun e_10_2 =>
          (laws_heldIntS (e_10_2.fType, (wr ((wr (k_6 + 1)) + 1)))) >>= fun r_10_6 =>
          if (decide (r_10_6 < 0)) = true then
            some (.inr (-1))
          else
            (idx a0 i_7) >>= fun e_13_2 =>
            (laws_heldTermS (e_13_2.fKids, r_10_6)) >>= fun r_13_6 =>
            if (decide (r_13_6 < 0)) = true then
              some (.inr (-1))
            else
              laws_heldTermS_l0 (a0, r_13_6, (wr (i_7 + 1)))
    else
      some (.inl k_6)
  partial_fixpoint
end
def M_laws_heldTermS (p : (List GTerm) × Int) (r : Int) : Prop :=
  match p with
  | (a0, k1) => FnSound Try.prog 54 [.sl (List.map GTerm_S a0), .int .i64 k1] (.int .i64 r) []
def M_laws_heldTermS_l0 (p : (List GTerm) × Int × Int) (fl : (Int) ⊕ (Int)) : Prop :=
  match p with
  | (a0, k_6, i_7) => ∀ c : Ctx, c.nt = 49 → WpL Try.prog c (cl (cl (cr (cl (cr B54))))) (laws_heldTermS_F1 c fl) (mkS [(0, .sl (List.map GTerm_S a0)), (1, .int .i64 k_6), (5, .int .i64 i_7)] [])
theorem laws_heldTermS_all : (∀ p r, laws_heldTermS p = some r → M_laws_heldTermS p r) ∧ (∀ p r, laws_heldTermS_l0 p = some r → M_laws_heldTermS_l0 p r) := by
  refine laws_heldTermS.mutual_partial_correctness M_laws_heldTermS M_laws_heldTermS_l0 ?_ ?_
  · rintro laws_heldTermS_l0_f laws_heldTermS_l0_ih ⟨a0, k1⟩ r h
    show FnSound Try.prog 54 [.sl (List.map GTerm_S a0), .int .i64 k1] (.int .i64 r) []
    refine FnSound.body0 tiok (fn := Try.f54) (code := B54) (by kernel_rfl) (by kernel_rfl) (by kernel_rfl) (by kernel_rfl) (nt := 49) (by kernel_rfl) (by kernel_rfl) (T := [(0, .sl (List.map GTerm_S a0)), (1, .int .i64 k1)]) (O := []) (by kernel_rfl) (by kernel_rfl) (fun c hc => ?_)
    refine Wp.seqN (by kernel_rfl) ?_
    refine Wp.reg tiok mix hc (by kernel_rfl) (ah := none) (rs := [some (.no)]) (kt := [0, 1]) (ko := []) (T' := [(0, .sl (List.map GTerm_S a0)), (1, .int .i64 k1)]) (O' := []) (by kernel_rfl) trivial (by kernel_rfl) (by kernel_rfl) ?_
    refine seqQ_norm ?_
    refine Wp.seqN (by kernel_rfl) ?_
    refine Wp.seqN (by kernel_rfl) ?_
    refine Wp.reg tiok mix hc (by kernel_rfl) (ah := none) (rs := [some (.no)]) (kt := [0, 1, 5]) (ko := []) (T' := [(0, .sl (List.map GTerm_S a0)), (1, .int .i64 k1), (5, .int .i64 0)]) (O' := []) (by kernel_rfl) trivial (by kernel_rfl) (by kernel_rfl) ?_
    refine seqQ_norm ?_
    refine Wp.blockN (i := 0) (by kernel_rfl) ?_
    obtain ⟨fl, hl_14, h⟩ := bsome h
    have hL := laws_heldTermS_l0_ih _ _ hl_14 c hc
    refine Wp.loopN (by kernel_rfl) ?_
    rcases fl with k_13 | r
    · refine WpL.into (e := (.exit 0)) (mkS [(1, .int .i64 k_13)] []) hL ?_
      refine blockQ_hit ?_
      refine seqQ_norm ?_
      refine Wp.seqN (by kernel_rfl) ?_
      refine Wp.reg tiok mix hc (by kernel_rfl) (ah := none) (rs := [some (.no), some (.no)]) (kt := [4]) (ko := []) (T' := [(4, .int .i64 k_13)]) (O' := []) (by kernel_rfl) trivial (by kernel_rfl) (by kernel_rfl) ?_
      refine seqQ_norm ?_
      refine Wp.retN (by kernel_rfl) ?_
      obtain rfl := Option.some.inj h
      exact RetQ.ret (fl := [true]) (by kernel_rfl)
    · refine WpL.mono hL ?_
      rintro _ _ ⟨rfl, hfin⟩
      refine blockQ_ret ?_
      refine seqQ_ret ?_
      obtain rfl := Option.some.inj h
      exact ⟨.inl rfl, hfin⟩
  · rintro laws_heldTermS_f laws_heldTermS_l0_f laws_heldTermS_ih laws_heldTermS_l0_ih ⟨a0, k_6, i_7⟩ r h
    intro c hc
    show WpL Try.prog c (cl (cl (cr (cl (cr B54))))) (laws_heldTermS_F1 c r) (mkS [(0, .sl (List.map GTerm_S a0)), (1, .int .i64 k_6), (5, .int .i64 i_7)] [])
    refine WpL.step ?_
    refine Wp.seqN (by kernel_rfl) ?_
    refine Wp.seqN (by kernel_rfl) ?_
    refine Wp.reg tiok mix hc (by kernel_rfl) (ah := none) (rs := [some (.no), some (.no), some (.eqv (.no) ⟨[(8, .int .i64 (a0.length : Int))], [], []⟩), some (.no)]) (kt := [0, 1, 5, 9]) (ko := []) (T' := [(0, .sl (List.map GTerm_S a0)), (1, .int .i64 k_6), (5, .int .i64 i_7), (9, .bool (decide (i_7 < (a0.length : Int))))]) (O' := []) (by kernel_rfl) (And.intro (lenT (d := 8) GTerm_S a0) trivial) (by kernel_rfl) (by kernel_rfl) ?_
    refine seqQ_norm ?_
    rcases itesome h with ⟨hb_8, h⟩ | ⟨hb_8, h⟩
    · refine Wp.condT (b := (decide (i_7 < (a0.length : Int)))) (by kernel_rfl) (by kernel_rfl) hb_8 ?_
      refine Wp.skipN (by kernel_rfl) ?_
      refine seqQ_norm ?_
      refine Wp.seqN (by kernel_rfl) ?_
      refine Wp.blockN (i := 1) (by kernel_rfl) ?_
      refine Wp.seqN (by kernel_rfl) ?_
      refine Wp.seqN (by kernel_rfl) ?_
      obtain ⟨e_4_2, hi_4_2, h⟩ := bsome h
      refine Wp.reg tiok mix hc (by kernel_rfl) (ah := none) (rs := [some (.no), some (.no), some (.el (.agg [.int .i64 e_4_2.fOp, .int .i64 e_4_2.fN, .sl (List.map I e_4_2.fType), .sl (List.map GTerm_S e_4_2.fKids)])), some (.no), some (.no), some (.no), some (.no)]) (kt := [0, 1, 5, 18]) (ko := []) (T' := [(0, .sl (List.map GTerm_S a0)), (1, .int .i64 k_6), (5, .int .i64 i_7), (18, .bool (e_4_2.fOp != k_6))]) (O' := []) (by kernel_rfl) (And.intro (idx_sl (enc := GTerm_S) (x := .agg [.int .i64 e_4_2.fOp, .int .i64 e_4_2.fN, .sl (List.map I e_4_2.fType), .sl (List.map GTerm_S e_4_2.fKids)]) hi_4_2 (eq_GTerm_S e_4_2)) trivial) (by kernel_rfl) (by kernel_rfl) ?_
      refine seqQ_norm ?_
      rcases itesome h with ⟨hb_9, h⟩ | ⟨hb_9, h⟩
      · refine Wp.condT (b := (e_4_2.fOp != k_6)) (by kernel_rfl) (by kernel_rfl) hb_9 ?_
        refine Wp.seqN (by kernel_rfl) ?_
        refine Wp.reg tiok mix hc (by kernel_rfl) (ah := none) (rs := [some (.no)]) (kt := [4]) (ko := []) (T' := [(4, .int .i64 (-1))]) (O' := []) (by kernel_rfl) trivial (by kernel_rfl) (by kernel_rfl) ?_
        refine seqQ_norm ?_
        refine Wp.retN (by kernel_rfl) ?_
        refine seqQ_ret ?_
        refine blockQ_ret ?_
        refine seqQ_ret ?_
        refine loopQ_ret ?_
        obtain rfl := Option.some.inj h
        exact RetE.ret (fl := [true]) (by kernel_rfl)
      · refine Wp.condF (b := (e_4_2.fOp != k_6)) (by kernel_rfl) (by kernel_rfl) hb_9 ?_
        refine Wp.skipN (by kernel_rfl) ?_
        refine seqQ_norm ?_
        refine Wp.seqN (by kernel_rfl) ?_
        refine Wp.reg tiok mix hc (by kernel_rfl) (ah := none) (rs := [some (.no), some (.no), some (.no)]) (kt := [0, 1, 5]) (ko := []) (T' := [(0, .sl (List.map GTerm_S a0)), (1, .int .i64 (wr (k_6 + 1))), (5, .int .i64 i_7)]) (O' := []) (by kernel_rfl) trivial (by kernel_rfl) (by kernel_rfl) ?_
        refine seqQ_norm ?_
        refine Wp.seqN (by kernel_rfl) ?_
        refine Wp.seqN (by kernel_rfl) ?_
        obtain ⟨e_7_2, hi_7_2, h⟩ := bsome h
        refine Wp.reg tiok mix hc (by kernel_rfl) (ah := none) (rs := [some (.no), some (.no), some (.el (.agg [.int .i64 e_7_2.fOp, .int .i64 e_7_2.fN, .sl (List.map I e_7_2.fType), .sl (List.map GTerm_S e_7_2.fKids)])), some (.no), some (.no), some (.no), some (.no)]) (kt := [0, 1, 5, 27]) (ko := []) (T' := [(0, .sl (List.map GTerm_S a0)), (1, .int .i64 (wr (k_6 + 1))), (5, .int .i64 i_7), (27, .bool (e_7_2.fN != (wr (k_6 + 1))))]) (O' := []) (by kernel_rfl) (And.intro (idx_sl (enc := GTerm_S) (x := .agg [.int .i64 e_7_2.fOp, .int .i64 e_7_2.fN, .sl (List.map I e_7_2.fType), .sl (List.map GTerm_S e_7_2.fKids)]) hi_7_2 (eq_GTerm_S e_7_2)) trivial) (by kernel_rfl) (by kernel_rfl) ?_
        refine seqQ_norm ?_
        rcases itesome h with ⟨hb_10, h⟩ | ⟨hb_10, h⟩
        · refine Wp.condT (b := (e_7_2.fN != (wr (k_6 + 1)))) (by kernel_rfl) (by kernel_rfl) hb_10 ?_
          refine Wp.seqN (by kernel_rfl) ?_
          refine Wp.reg tiok mix hc (by kernel_rfl) (ah := none) (rs := [some (.no)]) (kt := [4]) (ko := []) (T' := [(4, .int .i64 (-1))]) (O' := []) (by kernel_rfl) trivial (by kernel_rfl) (by kernel_rfl) ?_
          refine seqQ_norm ?_
          refine Wp.retN (by kernel_rfl) ?_
          refine seqQ_ret ?_
          refine blockQ_ret ?_
          refine seqQ_ret ?_
          refine loopQ_ret ?_
          obtain rfl := Option.some.inj h
          exact RetE.ret (fl := [true]) (by kernel_rfl)
        · refine Wp.condF (b := (e_7_2.fN != (wr (k_6 + 1)))) (by kernel_rfl) (by kernel_rfl) hb_10 ?_
          refine Wp.skipN (by kernel_rfl) ?_
          refine seqQ_norm ?_
          refine Wp.seqN (by kernel_rfl) ?_
          refine Wp.reg tiok mix hc (by kernel_rfl) (ah := none) (rs := [some (.no), some (.no), some (.no)]) (kt := [0, 1, 5]) (ko := []) (T' := [(0, .sl (List.map GTerm_S a0)), (1, .int .i64 (wr ((wr (k_6 + 1)) + 1))), (5, .int .i64 i_7)]) (O' := []) (by kernel_rfl) trivial (by kernel_rfl) (by kernel_rfl) ?_
          refine seqQ_norm ?_
          refine Wp.seqN (by kernel_rfl) ?_
          obtain ⟨e_10_2, hi_10_2, h⟩ := bsome h
          obtain ⟨r_10_6, hr_10_6, h⟩ := bsome h
          refine Wp.reg tiok mix hc (by kernel_rfl) (ah := none) (rs := [some (.no), some (.no), some (.el (.agg [.int .i64 e_10_2.fOp, .int .i64 e_10_2.fN, .sl (List.map I e_10_2.fType), .sl (List.map GTerm_S e_10_2.fKids)])), some (.no), some (.no), some (.no), some (.call (.int .i64 r_10_6) [] 1), some (.no)]) (kt := [0, 1, 5]) (ko := []) (T' := [(0, .sl (List.map GTerm_S a0)), (1, .int .i64 r_10_6), (5, .int .i64 i_7)]) (O' := []) (by kernel_rfl) (And.intro (idx_sl (enc := GTerm_S) (x := .agg [.int .i64 e_10_2.fOp, .int .i64 e_10_2.fN, .sl (List.map I e_10_2.fType), .sl (List.map GTerm_S e_10_2.fKids)]) hi_10_2 (eq_GTerm_S e_10_2)) (And.intro (laws_heldIntS_s _ _ hr_10_6) (And.intro bod_53 (And.intro (Or.inl rfl : ([] : List Nat) = [] ∨ noSh (.int .i64 r_10_6) = true) trivial)))) (by kernel_rfl) (by kernel_rfl) ?_
          refine seqQ_norm ?_
          refine Wp.seqN (by kernel_rfl) ?_
          refine Wp.seqN (by kernel_rfl) ?_
          refine Wp.reg tiok mix hc (by kernel_rfl) (ah := none) (rs := [some (.no), some (.no)]) (kt := [0, 1, 5, 38]) (ko := []) (T' := [(0, .sl (List.map GTerm_S a0)), (1, .int .i64 r_10_6), (5, .int .i64 i_7), (38, .bool (decide (r_10_6 < 0)))]) (O' := []) (by kernel_rfl) trivial (by kernel_rfl) (by kernel_rfl) ?_
          refine seqQ_norm ?_
          rcases itesome h with ⟨hb_11, h⟩ | ⟨hb_11, h⟩
          · refine Wp.condT (b := (decide (r_10_6 < 0))) (by kernel_rfl) (by kernel_rfl) hb_11 ?_
            refine Wp.seqN (by kernel_rfl) ?_
            refine Wp.reg tiok mix hc (by kernel_rfl) (ah := none) (rs := [some (.no)]) (kt := [4]) (ko := []) (T' := [(4, .int .i64 (-1))]) (O' := []) (by kernel_rfl) trivial (by kernel_rfl) (by kernel_rfl) ?_
            refine seqQ_norm ?_
            refine Wp.retN (by kernel_rfl) ?_
            refine seqQ_ret ?_
            refine blockQ_ret ?_
            refine seqQ_ret ?_
            refine loopQ_ret ?_
            obtain rfl := Option.some.inj h
            exact RetE.ret (fl := [true]) (by kernel_rfl)
          · refine Wp.condF (b := (decide (r_10_6 < 0))) (by kernel_rfl) (by kernel_rfl) hb_11 ?_
            refine Wp.skipN (by kernel_rfl) ?_
            refine seqQ_norm ?_
            refine Wp.seqN (by kernel_rfl) ?_
            obtain ⟨e_13_2, hi_13_2, h⟩ := bsome h
            obtain ⟨r_13_6, hr_13_6, h⟩ := bsome h
            refine Wp.reg tiok mix hc (by kernel_rfl) (ah := none) (rs := [some (.no), some (.no), some (.el (.agg [.int .i64 e_13_2.fOp, .int .i64 e_13_2.fN, .sl (List.map I e_13_2.fType), .sl (List.map GTerm_S e_13_2.fKids)])), some (.no), some (.no), some (.no), some (.call (.int .i64 r_13_6) [] 1), some (.no)]) (kt := [0, 1, 5]) (ko := []) (T' := [(0, .sl (List.map GTerm_S a0)), (1, .int .i64 r_13_6), (5, .int .i64 i_7)]) (O' := []) (by kernel_rfl) (And.intro (idx_sl (enc := GTerm_S) (x := .agg [.int .i64 e_13_2.fOp, .int .i64 e_13_2.fN, .sl (List.map I e_13_2.fType), .sl (List.map GTerm_S e_13_2.fKids)]) hi_13_2 (eq_GTerm_S e_13_2)) (And.intro (laws_heldTermS_ih _ _ hr_13_6) (And.intro bod_54 (And.intro (Or.inl rfl : ([] : List Nat) = [] ∨ noSh (.int .i64 r_13_6) = true) trivial)))) (by kernel_rfl) (by kernel_rfl) ?_
            refine seqQ_norm ?_
            refine Wp.seqN (by kernel_rfl) ?_
            refine Wp.reg tiok mix hc (by kernel_rfl) (ah := none) (rs := [some (.no), some (.no)]) (kt := [0, 1, 5, 47]) (ko := []) (T' := [(0, .sl (List.map GTerm_S a0)), (1, .int .i64 r_13_6), (5, .int .i64 i_7), (47, .bool (decide (r_13_6 < 0)))]) (O' := []) (by kernel_rfl) trivial (by kernel_rfl) (by kernel_rfl) ?_
            refine seqQ_norm ?_
            rcases itesome h with ⟨hb_12, h⟩ | ⟨hb_12, h⟩
            · refine Wp.condT (b := (decide (r_13_6 < 0))) (by kernel_rfl) (by kernel_rfl) hb_12 ?_
              refine Wp.seqN (by kernel_rfl) ?_
              refine Wp.reg tiok mix hc (by kernel_rfl) (ah := none) (rs := [some (.no)]) (kt := [4]) (ko := []) (T' := [(4, .int .i64 (-1))]) (O' := []) (by kernel_rfl) trivial (by kernel_rfl) (by kernel_rfl) ?_
              refine seqQ_norm ?_
              refine Wp.retN (by kernel_rfl) ?_
              refine blockQ_ret ?_
              refine seqQ_ret ?_
              refine loopQ_ret ?_
              obtain rfl := Option.some.inj h
              exact RetE.ret (fl := [true]) (by kernel_rfl)
            · refine Wp.condF (b := (decide (r_13_6 < 0))) (by kernel_rfl) (by kernel_rfl) hb_12 ?_
              refine Wp.skipN (by kernel_rfl) ?_
              refine blockQ_norm ?_
              refine seqQ_norm ?_
              refine Wp.reg tiok mix hc (by kernel_rfl) (ah := none) (rs := [some (.no), some (.no), some (.no)]) (kt := [0, 1, 5]) (ko := []) (T' := [(0, .sl (List.map GTerm_S a0)), (1, .int .i64 r_13_6), (5, .int .i64 (wr (i_7 + 1)))]) (O' := []) (by kernel_rfl) trivial (by kernel_rfl) (by kernel_rfl) ?_
              refine loopQ_norm ?_
              exact (laws_heldTermS_l0_ih _ _ h c hc)
    · refine Wp.condF (b := (decide (i_7 < (a0.length : Int)))) (by kernel_rfl) (by kernel_rfl) hb_8 ?_
      refine Wp.exitN (i := 0) (by kernel_rfl) ?_
      refine seqQ_exit ?_
      refine loopQ_exit ?_
      obtain rfl := Option.some.inj h
      exact Into.view (fun a w hv => SRx.renL [] hv (by kernel_rfl) (by kernel_rfl) (by kernel_rfl))
theorem laws_heldTermS_s : ∀ p r, laws_heldTermS p = some r → M_laws_heldTermS p r := laws_heldTermS_all.1
theorem laws_heldTermS_l0_s : ∀ p r, laws_heldTermS_l0 p = some r → M_laws_heldTermS_l0 p r := laws_heldTermS_all.2
def laws_heldTerm (p : GTerm × Int) : Option (Int) :=
  match p with
  | (a0, k1) =>
    (laws_heldIntS (a0.fType, k1)) >>= fun r_1_3 =>
    if (decide (r_1_3 < 0)) = true then
      some (-1)
    else
      (laws_heldTermS (a0.fKids, r_1_3)) >>= fun r_4_3 =>
      if (decide (r_4_3 < 0)) = true then
        some (-1)
      else
        some r_4_3
def M_laws_heldTerm (p : GTerm × Int) (r : Int) : Prop :=
  match p with
  | (a0, k1) => FnSound Try.prog 22 [.agg [.int .i64 a0.fOp, .int .i64 a0.fN, .sl (List.map I a0.fType), .sl (List.map GTerm_S a0.fKids)], .int .i64 k1] (.int .i64 r) []
theorem laws_heldTerm_s : ∀ p r, laws_heldTerm p = some r → M_laws_heldTerm p r := by
  rintro ⟨a0, k1⟩ r h
  unfold laws_heldTerm at h
  show FnSound Try.prog 22 [.agg [.int .i64 a0.fOp, .int .i64 a0.fN, .sl (List.map I a0.fType), .sl (List.map GTerm_S a0.fKids)], .int .i64 k1] (.int .i64 r) []
  refine FnSound.body0 tiok (fn := Try.f22) (code := B22) (by kernel_rfl) (by kernel_rfl) (by kernel_rfl) (by kernel_rfl) (nt := 18) (by kernel_rfl) (by kernel_rfl) (T := [(0, .agg [.int .i64 a0.fOp, .int .i64 a0.fN, .sl (List.map I a0.fType), .sl (List.map GTerm_S a0.fKids)]), (1, .int .i64 k1)]) (O := []) (by kernel_rfl) (by kernel_rfl) (fun c hc => ?_)
  refine Wp.seqN (by kernel_rfl) ?_
  refine Wp.reg tiok mix hc (by kernel_rfl) (ah := none) (rs := [some (.new 1), some (.no)]) (kt := [1, 2]) (ko := [1]) (T' := [(1, .int .i64 k1), (2, .ra 1 0)]) (O' := [(1, .box [.int .i64 a0.fOp, .int .i64 a0.fN, .sl (List.map I a0.fType), .sl (List.map GTerm_S a0.fKids)])]) (by kernel_rfl) trivial (by kernel_rfl) (by kernel_rfl) ?_
  refine seqQ_norm ?_
  refine Wp.seqN (by kernel_rfl) ?_
  obtain ⟨r_1_3, hr_1_3, h⟩ := bsome h
  refine Wp.reg tiok mix hc (by kernel_rfl) (ah := none) (rs := [some (.no), some (.no), some (.no), some (.call (.int .i64 r_1_3) [] 1), some (.no)]) (kt := [1, 2]) (ko := [1]) (T' := [(1, .int .i64 r_1_3), (2, .ra 1 0)]) (O' := [(1, .box [.int .i64 a0.fOp, .int .i64 a0.fN, .sl (List.map I a0.fType), .sl (List.map GTerm_S a0.fKids)])]) (by kernel_rfl) (And.intro (laws_heldIntS_s _ _ hr_1_3) (And.intro bod_53 (And.intro (Or.inl rfl : ([] : List Nat) = [] ∨ noSh (.int .i64 r_1_3) = true) trivial))) (by kernel_rfl) (by kernel_rfl) ?_
  refine seqQ_norm ?_
  refine Wp.seqN (by kernel_rfl) ?_
  refine Wp.seqN (by kernel_rfl) ?_
  refine Wp.reg tiok mix hc (by kernel_rfl) (ah := none) (rs := [some (.no), some (.no)]) (kt := [1, 2, 10]) (ko := [1]) (T' := [(1, .int .i64 r_1_3), (2, .ra 1 0), (10, .bool (decide (r_1_3 < 0)))]) (O' := [(1, .box [.int .i64 a0.fOp, .int .i64 a0.fN, .sl (List.map I a0.fType), .sl (List.map GTerm_S a0.fKids)])]) (by kernel_rfl) trivial (by kernel_rfl) (by kernel_rfl) ?_
  refine seqQ_norm ?_
  rcases itesome h with ⟨hb_1, h⟩ | ⟨hb_1, h⟩
  · refine Wp.condT (b := (decide (r_1_3 < 0))) (by kernel_rfl) (by kernel_rfl) hb_1 ?_
    refine Wp.seqN (by kernel_rfl) ?_
    refine Wp.reg tiok mix hc (by kernel_rfl) (ah := none) (rs := [some (.no)]) (kt := [4]) (ko := []) (T' := [(4, .int .i64 (-1))]) (O' := []) (by kernel_rfl) trivial (by kernel_rfl) (by kernel_rfl) ?_
    refine seqQ_norm ?_
    refine Wp.retN (by kernel_rfl) ?_
    refine seqQ_ret ?_
    obtain rfl := Option.some.inj h
    exact RetQ.ret (fl := [true]) (by kernel_rfl)
  · refine Wp.condF (b := (decide (r_1_3 < 0))) (by kernel_rfl) (by kernel_rfl) hb_1 ?_
    refine Wp.skipN (by kernel_rfl) ?_
    refine seqQ_norm ?_
    refine Wp.seqN (by kernel_rfl) ?_
    obtain ⟨r_4_3, hr_4_3, h⟩ := bsome h
    refine Wp.reg tiok mix hc (by kernel_rfl) (ah := none) (rs := [some (.no), some (.no), some (.no), some (.call (.int .i64 r_4_3) [] 1), some (.no)]) (kt := [1]) (ko := []) (T' := [(1, .int .i64 r_4_3)]) (O' := []) (by kernel_rfl) (And.intro (laws_heldTermS_s _ _ hr_4_3) (And.intro bod_54 (And.intro (Or.inl rfl : ([] : List Nat) = [] ∨ noSh (.int .i64 r_4_3) = true) trivial))) (by kernel_rfl) (by kernel_rfl) ?_
    refine seqQ_norm ?_
    refine Wp.seqN (by kernel_rfl) ?_
    refine Wp.seqN (by kernel_rfl) ?_
    refine Wp.reg tiok mix hc (by kernel_rfl) (ah := none) (rs := [some (.no), some (.no)]) (kt := [1, 16]) (ko := []) (T' := [(1, .int .i64 r_4_3), (16, .bool (decide (r_4_3 < 0)))]) (O' := []) (by kernel_rfl) trivial (by kernel_rfl) (by kernel_rfl) ?_
    refine seqQ_norm ?_
    rcases itesome h with ⟨hb_2, h⟩ | ⟨hb_2, h⟩
    · refine Wp.condT (b := (decide (r_4_3 < 0))) (by kernel_rfl) (by kernel_rfl) hb_2 ?_
      refine Wp.seqN (by kernel_rfl) ?_
      refine Wp.reg tiok mix hc (by kernel_rfl) (ah := none) (rs := [some (.no)]) (kt := [4]) (ko := []) (T' := [(4, .int .i64 (-1))]) (O' := []) (by kernel_rfl) trivial (by kernel_rfl) (by kernel_rfl) ?_
      refine seqQ_norm ?_
      refine Wp.retN (by kernel_rfl) ?_
      refine seqQ_ret ?_
      obtain rfl := Option.some.inj h
      exact RetQ.ret (fl := [true]) (by kernel_rfl)
    · refine Wp.condF (b := (decide (r_4_3 < 0))) (by kernel_rfl) (by kernel_rfl) hb_2 ?_
      refine Wp.skipN (by kernel_rfl) ?_
      refine seqQ_norm ?_
      refine Wp.seqN (by kernel_rfl) ?_
      refine Wp.reg tiok mix hc (by kernel_rfl) (ah := none) (rs := [some (.no), some (.no)]) (kt := [4]) (ko := []) (T' := [(4, .int .i64 r_4_3)]) (O' := []) (by kernel_rfl) trivial (by kernel_rfl) (by kernel_rfl) ?_
      refine seqQ_norm ?_
      refine Wp.retN (by kernel_rfl) ?_
      obtain rfl := Option.some.inj h
      exact RetQ.ret (fl := [true]) (by kernel_rfl)
end Go.Am
