/- Functions of the program as pure functions, and that it computes them. Printed by a program of mine (gen.py). -/
import Derived.Test.YtfakfcaegabgaaaGIVTi
set_option linter.unusedVariables false
set_option linter.unusedSimpArgs false
set_option maxRecDepth 100000
namespace Go.Am
open Go Go.Proofs
def laws_szIntS (p : (List Int) × Int) : Option (Int) :=
  match p with
  | (a0, left1) =>
    if (decide ((wr (left1 - (a0.length : Int))) < 0)) = true then
      some (-1)
    else
      some (wr (left1 - (a0.length : Int)))
def M_laws_szIntS (p : (List Int) × Int) (r : Int) : Prop :=
  match p with
  | (a0, left1) => FnSound Try.prog 42 [.sl (List.map I a0), .int .i64 left1] (.int .i64 r) []
theorem laws_szIntS_s : ∀ p r, laws_szIntS p = some r → M_laws_szIntS p r := by
  rintro ⟨a0, left1⟩ r h
  unfold laws_szIntS at h
  show FnSound Try.prog 42 [.sl (List.map I a0), .int .i64 left1] (.int .i64 r) []
  refine FnSound.body0 tiok (fn := Try.f42) (code := B42) (by kernel_rfl) (by kernel_rfl) (by kernel_rfl) (by kernel_rfl) (nt := 12) (by kernel_rfl) (by kernel_rfl) (T := [(0, .sl (List.map I a0)), (1, .int .i64 left1)]) (O := []) (by kernel_rfl) (by kernel_rfl) (fun c hc => ?_)
  refine Wp.seqN (by kernel_rfl) ?_
  refine Wp.reg tiok mix hc (by kernel_rfl) (ah := none) (rs := [some (.no)]) (kt := [0, 1]) (ko := []) (T' := [(0, .sl (List.map I a0)), (1, .int .i64 left1)]) (O' := []) (by kernel_rfl) trivial (by kernel_rfl) (by kernel_rfl) ?_
  refine seqQ_norm ?_
  refine Wp.seqN (by kernel_rfl) ?_
  refine Wp.reg tiok mix hc (by kernel_rfl) (ah := none) (rs := [some (.no), some (.no), some (.eqv (.no) ⟨[(7, .int .i64 (a0.length : Int))], [], []⟩), some (.no), some (.no)]) (kt := [1]) (ko := []) (T' := [(1, .int .i64 (wr (left1 - (a0.length : Int))))]) (O' := []) (by kernel_rfl) (And.intro (lenT (d := 7) I a0) trivial) (by kernel_rfl) (by kernel_rfl) ?_
  refine seqQ_norm ?_
  refine Wp.seqN (by kernel_rfl) ?_
  refine Wp.seqN (by kernel_rfl) ?_
  refine Wp.reg tiok mix hc (by kernel_rfl) (ah := none) (rs := [some (.no), some (.no)]) (kt := [1, 10]) (ko := []) (T' := [(1, .int .i64 (wr (left1 - (a0.length : Int)))), (10, .bool (decide ((wr (left1 - (a0.length : Int))) < 0)))]) (O' := []) (by kernel_rfl) trivial (by kernel_rfl) (by kernel_rfl) ?_
  refine seqQ_norm ?_
  rcases itesome h with ⟨hb_1, h⟩ | ⟨hb_1, h⟩
  · refine Wp.condT (b := (decide ((wr (left1 - (a0.length : Int))) < 0))) (by kernel_rfl) (by kernel_rfl) hb_1 ?_
    refine Wp.seqN (by kernel_rfl) ?_
    refine Wp.reg tiok mix hc (by kernel_rfl) (ah := none) (rs := [some (.no)]) (kt := [4]) (ko := []) (T' := [(4, .int .i64 (-1))]) (O' := []) (by kernel_rfl) trivial (by kernel_rfl) (by kernel_rfl) ?_
    refine seqQ_norm ?_
    refine Wp.retN (by kernel_rfl) ?_
    refine seqQ_ret ?_
    obtain rfl := Option.some.inj h
    exact RetQ.ret (fl := [true]) (by kernel_rfl)
  · refine Wp.condF (b := (decide ((wr (left1 - (a0.length : Int))) < 0))) (by kernel_rfl) (by kernel_rfl) hb_1 ?_
    refine Wp.skipN (by kernel_rfl) ?_
    refine seqQ_norm ?_
    refine Wp.seqN (by kernel_rfl) ?_
    refine Wp.reg tiok mix hc (by kernel_rfl) (ah := none) (rs := [some (.no), some (.no)]) (kt := [4]) (ko := []) (T' := [(4, .int .i64 (wr (left1 - (a0.length : Int))))]) (O' := []) (by kernel_rfl) trivial (by kernel_rfl) (by kernel_rfl) ?_
    refine seqQ_norm ?_
    refine Wp.retN (by kernel_rfl) ?_
    obtain rfl := Option.some.inj h
    exact RetQ.ret (fl := [true]) (by kernel_rfl)
def laws_szBoolS (p : (List Bool) × Int) : Option (Int) :=
  match p with
  | (a0, left1) =>
    if (decide ((wr (left1 - (a0.length : Int))) < 0)) = true then
      some (-1)
    else
      some (wr (left1 - (a0.length : Int)))
def M_laws_szBoolS (p : (List Bool) × Int) (r : Int) : Prop :=
  match p with
  | (a0, left1) => FnSound Try.prog 43 [.sl (List.map AV.bool a0), .int .i64 left1] (.int .i64 r) []
theorem laws_szBoolS_s : ∀ p r, laws_szBoolS p = some r → M_laws_szBoolS p r := by
  rintro ⟨a0, left1⟩ r h
  unfold laws_szBoolS at h
  show FnSound Try.prog 43 [.sl (List.map AV.bool a0), .int .i64 left1] (.int .i64 r) []
  refine FnSound.body0 tiok (fn := Try.f43) (code := B43) (by kernel_rfl) (by kernel_rfl) (by kernel_rfl) (by kernel_rfl) (nt := 12) (by kernel_rfl) (by kernel_rfl) (T := [(0, .sl (List.map AV.bool a0)), (1, .int .i64 left1)]) (O := []) (by kernel_rfl) (by kernel_rfl) (fun c hc => ?_)
  refine Wp.seqN (by kernel_rfl) ?_
  refine Wp.reg tiok mix hc (by kernel_rfl) (ah := none) (rs := [some (.no)]) (kt := [0, 1]) (ko := []) (T' := [(0, .sl (List.map AV.bool a0)), (1, .int .i64 left1)]) (O' := []) (by kernel_rfl) trivial (by kernel_rfl) (by kernel_rfl) ?_
  refine seqQ_norm ?_
  refine Wp.seqN (by kernel_rfl) ?_
  refine Wp.reg tiok mix hc (by kernel_rfl) (ah := none) (rs := [some (.no), some (.no), some (.eqv (.no) ⟨[(7, .int .i64 (a0.length : Int))], [], []⟩), some (.no), some (.no)]) (kt := [1]) (ko := []) (T' := [(1, .int .i64 (wr (left1 - (a0.length : Int))))]) (O' := []) (by kernel_rfl) (And.intro (lenT (d := 7) AV.bool a0) trivial) (by kernel_rfl) (by kernel_rfl) ?_
  refine seqQ_norm ?_
  refine Wp.seqN (by kernel_rfl) ?_
  refine Wp.seqN (by kernel_rfl) ?_
  refine Wp.reg tiok mix hc (by kernel_rfl) (ah := none) (rs := [some (.no), some (.no)]) (kt := [1, 10]) (ko := []) (T' := [(1, .int .i64 (wr (left1 - (a0.length : Int)))), (10, .bool (decide ((wr (left1 - (a0.length : Int))) < 0)))]) (O' := []) (by kernel_rfl) trivial (by kernel_rfl) (by kernel_rfl) ?_
  refine seqQ_norm ?_
  rcases itesome h with ⟨hb_1, h⟩ | ⟨hb_1, h⟩
  · refine Wp.condT (b := (decide ((wr (left1 - (a0.length : Int))) < 0))) (by kernel_rfl) (by kernel_rfl) hb_1 ?_
    refine Wp.seqN (by kernel_rfl) ?_
    refine Wp.reg tiok mix hc (by kernel_rfl) (ah := none) (rs := [some (.no)]) (kt := [4]) (ko := []) (T' := [(4, .int .i64 (-1))]) (O' := []) (by kernel_rfl) trivial (by kernel_rfl) (by kernel_rfl) ?_
    refine seqQ_norm ?_
    refine Wp.retN (by kernel_rfl) ?_
    refine seqQ_ret ?_
    obtain rfl := Option.some.inj h
    exact RetQ.ret (fl := [true]) (by kernel_rfl)
  · refine Wp.condF (b := (decide ((wr (left1 - (a0.length : Int))) < 0))) (by kernel_rfl) (by kernel_rfl) hb_1 ?_
    refine Wp.skipN (by kernel_rfl) ?_
    refine seqQ_norm ?_
    refine Wp.seqN (by kernel_rfl) ?_
    refine Wp.reg tiok mix hc (by kernel_rfl) (ah := none) (rs := [some (.no), some (.no)]) (kt := [4]) (ko := []) (T' := [(4, .int .i64 (wr (left1 - (a0.length : Int))))]) (O' := []) (by kernel_rfl) trivial (by kernel_rfl) (by kernel_rfl) ?_
    refine seqQ_norm ?_
    refine Wp.retN (by kernel_rfl) ?_
    obtain rfl := Option.some.inj h
    exact RetQ.ret (fl := [true]) (by kernel_rfl)
def laws_szSystem (p : GSystem × Int) : Option (Int) :=
  match p with
  | (a0, left1) =>
    (laws_szIntS (a0.fPlus, left1)) >>= fun r_1_3 =>
    if (decide (r_1_3 < 0)) = true then
      some (-1)
    else
      (laws_szIntS (a0.fTimes, r_1_3)) >>= fun r_4_3 =>
      if (decide (r_4_3 < 0)) = true then
        some (-1)
      else
        (laws_szBoolS (a0.fBelow, r_4_3)) >>= fun r_7_3 =>
        if (decide (r_7_3 < 0)) = true then
          some (-1)
        else
          some r_7_3
def M_laws_szSystem (p : GSystem × Int) (r : Int) : Prop :=
  match p with
  | (a0, left1) => FnSound Try.prog 11 [.agg [.int .i64 a0.fSize, .sl (List.map I a0.fPlus), .sl (List.map I a0.fTimes), .sl (List.map AV.bool a0.fBelow)], .int .i64 left1] (.int .i64 r) []
theorem laws_szSystem_s : ∀ p r, laws_szSystem p = some r → M_laws_szSystem p r := by
  rintro ⟨a0, left1⟩ r h
  unfold laws_szSystem at h
  show FnSound Try.prog 11 [.agg [.int .i64 a0.fSize, .sl (List.map I a0.fPlus), .sl (List.map I a0.fTimes), .sl (List.map AV.bool a0.fBelow)], .int .i64 left1] (.int .i64 r) []
  refine FnSound.body0 tiok (fn := Try.f11) (code := B11) (by kernel_rfl) (by kernel_rfl) (by kernel_rfl) (by kernel_rfl) (nt := 24) (by kernel_rfl) (by kernel_rfl) (T := [(0, .agg [.int .i64 a0.fSize, .sl (List.map I a0.fPlus), .sl (List.map I a0.fTimes), .sl (List.map AV.bool a0.fBelow)]), (1, .int .i64 left1)]) (O := []) (by kernel_rfl) (by kernel_rfl) (fun c hc => ?_)
  refine Wp.seqN (by kernel_rfl) ?_
  refine Wp.reg tiok mix hc (by kernel_rfl) (ah := none) (rs := [some (.new 1), some (.no)]) (kt := [1, 2]) (ko := [1]) (T' := [(1, .int .i64 left1), (2, .ra 1 0)]) (O' := [(1, .box [.int .i64 a0.fSize, .sl (List.map I a0.fPlus), .sl (List.map I a0.fTimes), .sl (List.map AV.bool a0.fBelow)])]) (by kernel_rfl) trivial (by kernel_rfl) (by kernel_rfl) ?_
  refine seqQ_norm ?_
  refine Wp.seqN (by kernel_rfl) ?_
  obtain ⟨r_1_3, hr_1_3, h⟩ := bsome h
  refine Wp.reg tiok mix hc (by kernel_rfl) (ah := none) (rs := [some (.no), some (.no), some (.no), some (.call (.int .i64 r_1_3) [] 1), some (.no)]) (kt := [1, 2]) (ko := [1]) (T' := [(1, .int .i64 r_1_3), (2, .ra 1 0)]) (O' := [(1, .box [.int .i64 a0.fSize, .sl (List.map I a0.fPlus), .sl (List.map I a0.fTimes), .sl (List.map AV.bool a0.fBelow)])]) (by kernel_rfl) (And.intro (laws_szIntS_s _ _ hr_1_3) (And.intro bod_42 (And.intro (Or.inl rfl : ([] : List Nat) = [] ∨ noSh (.int .i64 r_1_3) = true) trivial))) (by kernel_rfl) (by kernel_rfl) ?_
  refine seqQ_norm ?_
  refine Wp.seqN (by kernel_rfl) ?_
  refine Wp.seqN (by kernel_rfl) ?_
  refine Wp.reg tiok mix hc (by kernel_rfl) (ah := none) (rs := [some (.no), some (.no)]) (kt := [1, 2, 10]) (ko := [1]) (T' := [(1, .int .i64 r_1_3), (2, .ra 1 0), (10, .bool (decide (r_1_3 < 0)))]) (O' := [(1, .box [.int .i64 a0.fSize, .sl (List.map I a0.fPlus), .sl (List.map I a0.fTimes), .sl (List.map AV.bool a0.fBelow)])]) (by kernel_rfl) trivial (by kernel_rfl) (by kernel_rfl) ?_
  refine seqQ_norm ?_
  rcases itesome h with ⟨hb_1, h⟩ | ⟨hb_1, h⟩
  · refine Wp.condT (b := (decide (r_1_3 < 0))) (by kernel_rfl) (by kernel_rfl) hb_1 ?_
    refine Wp.seqN (by kernel_rfl) ?_
    refine Wp.reg tiok mix hc (by kernel_rfl) (ah := none) (rs := [some (.no)]) (kt := [4]) (ko := []) (T' := [(4, .int .i64 (-1))]) (O' := []) (by kernel_rfl) trivial (by kernel_rfl) (by kernel_rfl) ?_
    refine seqQ_norm ?_
    refine Wp.retN (by kernel_rfl) ?_
    refine seqQ_ret ?_
    obtain rfl := Option.some.inj h
    exact RetQ.ret (fl := [true]) (by kernel_rfl)
  · refine Wp.condF (b := (decide (r_1_3 < 0))) (by kernel_rfl) (by kernel_rfl) hb_1 ?_
    refine Wp.skipN (by kernel_rfl) ?_
    refine seqQ_norm ?_
    refine Wp.seqN (by kernel_rfl) ?_
    obtain ⟨r_4_3, hr_4_3, h⟩ := bsome h
    refine Wp.reg tiok mix hc (by kernel_rfl) (ah := none) (rs := [some (.no), some (.no), some (.no), some (.call (.int .i64 r_4_3) [] 1), some (.no)]) (kt := [1, 2]) (ko := [1]) (T' := [(1, .int .i64 r_4_3), (2, .ra 1 0)]) (O' := [(1, .box [.int .i64 a0.fSize, .sl (List.map I a0.fPlus), .sl (List.map I a0.fTimes), .sl (List.map AV.bool a0.fBelow)])]) (by kernel_rfl) (And.intro (laws_szIntS_s _ _ hr_4_3) (And.intro bod_42 (And.intro (Or.inl rfl : ([] : List Nat) = [] ∨ noSh (.int .i64 r_4_3) = true) trivial))) (by kernel_rfl) (by kernel_rfl) ?_
    refine seqQ_norm ?_
    refine Wp.seqN (by kernel_rfl) ?_
    refine Wp.seqN (by kernel_rfl) ?_
    refine Wp.reg tiok mix hc (by kernel_rfl) (ah := none) (rs := [some (.no), some (.no)]) (kt := [1, 2, 16]) (ko := [1]) (T' := [(1, .int .i64 r_4_3), (2, .ra 1 0), (16, .bool (decide (r_4_3 < 0)))]) (O' := [(1, .box [.int .i64 a0.fSize, .sl (List.map I a0.fPlus), .sl (List.map I a0.fTimes), .sl (List.map AV.bool a0.fBelow)])]) (by kernel_rfl) trivial (by kernel_rfl) (by kernel_rfl) ?_
    refine seqQ_norm ?_
    rcases itesome h with ⟨hb_2, h⟩ | ⟨hb_2, h⟩
    · refine Wp.condT (b := (decide (r_4_3 < 0))) (by kernel_rfl) (by kernel_rfl) hb_2 ?_
      refine Wp.seqN (by kernel_rfl) ?_
      refine Wp.reg tiok mix hc (by kernel_rfl) (ah := none) (rs := [some (.no)]) (kt := [4]) (ko := []) (T' := [(4, .int .i64 (-1))]) (O' := []) (by kernel_rfl) trivial (by kernel_rfl) (by kernel_rfl) ?_
      refine seqQ_norm ?_
      refine Wp.retN (by kernel_rfl) ?_
      refine seqQ_ret ?_
      obtain rfl := Option.some.inj h
      exact RetQ.ret (fl := [true]) (by kernel_rfl)
    · refine Wp.condF (b := (decide (r_4_3 < 0))) (by kernel_rfl) (by kernel_rfl) hb_2 ?_
      refine Wp.skipN (by kernel_rfl) ?_
      refine seqQ_norm ?_
      refine Wp.seqN (by kernel_rfl) ?_
      obtain ⟨r_7_3, hr_7_3, h⟩ := bsome h
      refine Wp.reg tiok mix hc (by kernel_rfl) (ah := none) (rs := [some (.no), some (.no), some (.no), some (.call (.int .i64 r_7_3) [] 1), some (.no)]) (kt := [1]) (ko := []) (T' := [(1, .int .i64 r_7_3)]) (O' := []) (by kernel_rfl) (And.intro (laws_szBoolS_s _ _ hr_7_3) (And.intro bod_43 (And.intro (Or.inl rfl : ([] : List Nat) = [] ∨ noSh (.int .i64 r_7_3) = true) trivial))) (by kernel_rfl) (by kernel_rfl) ?_
      refine seqQ_norm ?_
      refine Wp.seqN (by kernel_rfl) ?_
      refine Wp.seqN (by kernel_rfl) ?_
      refine Wp.reg tiok mix hc (by kernel_rfl) (ah := none) (rs := [some (.no), some (.no)]) (kt := [1, 22]) (ko := []) (T' := [(1, .int .i64 r_7_3), (22, .bool (decide (r_7_3 < 0)))]) (O' := []) (by kernel_rfl) trivial (by kernel_rfl) (by kernel_rfl) ?_
      refine seqQ_norm ?_
      rcases itesome h with ⟨hb_3, h⟩ | ⟨hb_3, h⟩
      · refine Wp.condT (b := (decide (r_7_3 < 0))) (by kernel_rfl) (by kernel_rfl) hb_3 ?_
        refine Wp.seqN (by kernel_rfl) ?_
        refine Wp.reg tiok mix hc (by kernel_rfl) (ah := none) (rs := [some (.no)]) (kt := [4]) (ko := []) (T' := [(4, .int .i64 (-1))]) (O' := []) (by kernel_rfl) trivial (by kernel_rfl) (by kernel_rfl) ?_
        refine seqQ_norm ?_
        refine Wp.retN (by kernel_rfl) ?_
        refine seqQ_ret ?_
        obtain rfl := Option.some.inj h
        exact RetQ.ret (fl := [true]) (by kernel_rfl)
      · refine Wp.condF (b := (decide (r_7_3 < 0))) (by kernel_rfl) (by kernel_rfl) hb_3 ?_
        refine Wp.skipN (by kernel_rfl) ?_
        refine seqQ_norm ?_
        refine Wp.seqN (by kernel_rfl) ?_
        refine Wp.reg tiok mix hc (by kernel_rfl) (ah := none) (rs := [some (.no), some (.no)]) (kt := [4]) (ko := []) (T' := [(4, .int .i64 r_7_3)]) (O' := []) (by kernel_rfl) trivial (by kernel_rfl) (by kernel_rfl) ?_
        refine seqQ_norm ?_
        refine Wp.retN (by kernel_rfl) ?_
        obtain rfl := Option.some.inj h
        exact RetQ.ret (fl := [true]) (by kernel_rfl)
def laws_szTermS_F1 (c : Ctx) : (Int) ⊕ (Int) → Exit → AState → Prop
  | .inl left_8 => Into c (.exit 0) (mkS [(1, .int .i64 left_8)] [])
  | .inr r => RetE TIx Try.f55 [] (.int .i64 r)
mutual
def laws_szTerm (p : GTerm × Int) : Option (Int) :=
  match p with
  | (a0, left1) =>
    (laws_szIntS (a0.fType, left1)) >>= fun r_1_3 =>
    if (decide (r_1_3 < 0)) = true then
      some (-1)
    else
      (laws_szTermS (a0.fKids, r_1_3)) >>= fun r_4_3 =>
      if (decide (r_4_3 < 0)) = true then
        some (-1)
      else
        some r_4_3
  partial_fixpoint
def laws_szTermS (p : (List GTerm) × Int) : Option (Int) :=
  match p with
  | (a0, left1) =>
    if (decide ((wr (left1 - (a0.length : Int))) < 0)) = true then
      some (-1)
    else
      (laws_szTermS_l0 (a0, (wr (left1 - (a0.length : Int))), 0)) >>= fun fl => match fl with
      | .inl left_8 =>
        some left_8
      | .inr r =>
        some r
  partial_fixpoint
def laws_szTermS_l0 (p : (List GTerm) × Int × Int) : Option ((Int) ⊕ (Int)) :=
  match p with
  | (a0, left_4, i_5) =>
    if (decide (i_5 < (a0.length : Int))) = true then
      (idx a0 i_5) >>= fun e_7_2 =>
      (laws_szTerm (e_7_2, left_4)) >>= fun r_7_5 =>
      if (decide (r_7_5 < 0)) = true then
        some (.inr (-1))
      else
        laws_szTermS_l0 (a0, r_7_5, (wr (i_5 + 1)))
    else
      some (.inl left_4)
  partial_fixpoint
end
def M_laws_szTerm (p : GTerm × Int) (r : Int) : Prop :=
  match p with
  | (a0, left1) => FnSound Try.prog 23 [.agg [.int .i64 a0.fOp, .int .i64 a0.fN, .sl (List.map I a0.fType), .sl (List.map GTerm_S a0.fKids)], .int .i64 left1] (.int .i64 r) []
def M_laws_szTermS (p : (List GTerm) × Int) (r : Int) : Prop :=
  match p with
  | (a0, left1) => FnSound Try.prog 55 [.sl (List.map GTerm_S a0), .int .i64 left1] (.int .i64 r) []
def M_laws_szTermS_l0 (p : (List GTerm) × Int × Int) (fl : (Int) ⊕ (Int)) : Prop :=
  match p with
  | (a0, left_4, i_5) => ∀ c : Ctx, c.nt = 27 → WpL Try.prog c (cl (cl (cr (cl (cr (cr (cr B55))))))) (laws_szTermS_F1 c fl) (mkS [(0, .sl (List.map GTerm_S a0)), (1, .int .i64 left_4), (5, .int .i64 i_5)] [])
theorem laws_szTerm_all : (∀ p r, laws_szTerm p = some r → M_laws_szTerm p r) ∧ (∀ p r, laws_szTermS p = some r → M_laws_szTermS p r) ∧ (∀ p r, laws_szTermS_l0 p = some r → M_laws_szTermS_l0 p r) := by
  refine laws_szTerm.mutual_partial_correctness M_laws_szTerm M_laws_szTermS M_laws_szTermS_l0 ?_ ?_ ?_
  · rintro laws_szTermS_f laws_szTermS_ih ⟨a0, left1⟩ r h
    show FnSound Try.prog 23 [.agg [.int .i64 a0.fOp, .int .i64 a0.fN, .sl (List.map I a0.fType), .sl (List.map GTerm_S a0.fKids)], .int .i64 left1] (.int .i64 r) []
    refine FnSound.body0 tiok (fn := Try.f23) (code := B23) (by kernel_rfl) (by kernel_rfl) (by kernel_rfl) (by kernel_rfl) (nt := 18) (by kernel_rfl) (by kernel_rfl) (T := [(0, .agg [.int .i64 a0.fOp, .int .i64 a0.fN, .sl (List.map I a0.fType), .sl (List.map GTerm_S a0.fKids)]), (1, .int .i64 left1)]) (O := []) (by kernel_rfl) (by kernel_rfl) (fun c hc => ?_)
    refine Wp.seqN (by kernel_rfl) ?_
    refine Wp.reg tiok mix hc (by kernel_rfl) (ah := none) (rs := [some (.new 1), some (.no)]) (kt := [1, 2]) (ko := [1]) (T' := [(1, .int .i64 left1), (2, .ra 1 0)]) (O' := [(1, .box [.int .i64 a0.fOp, .int .i64 a0.fN, .sl (List.map I a0.fType), .sl (List.map GTerm_S a0.fKids)])]) (by kernel_rfl) trivial (by kernel_rfl) (by kernel_rfl) ?_
    refine seqQ_norm ?_
    refine Wp.seqN (by kernel_rfl) ?_
    obtain ⟨r_1_3, hr_1_3, h⟩ := bsome h
    refine Wp.reg tiok mix hc (by kernel_rfl) (ah := none) (rs := [some (.no), some (.no), some (.no), some (.call (.int .i64 r_1_3) [] 1), some (.no)]) (kt := [1, 2]) (ko := [1]) (T' := [(1, .int .i64 r_1_3), (2, .ra 1 0)]) (O' := [(1, .box [.int .i64 a0.fOp, .int .i64 a0.fN, .sl (List.map I a0.fType), .sl (List.map GTerm_S a0.fKids)])]) (by kernel_rfl) (And.intro (laws_szIntS_s _ _ hr_1_3) (And.intro bod_42 (And.intro (Or.inl rfl : ([] : List Nat) = [] ∨ noSh (.int .i64 r_1_3) = true) trivial))) (by kernel_rfl) (by kernel_rfl) ?_
    refine seqQ_norm ?_
    refine Wp.seqN (by kernel_rfl) ?_
    refine Wp.seqN (by kernel_rfl) ?_
    refine Wp.reg tiok mix hc (by kernel_rfl) (ah := none) (rs := [some (.no), some (.no)]) (kt := [1, 2, 10]) (ko := [1]) (T' := [(1, .int .i64 r_1_3), (2, .ra 1 0), (10, .bool (decide (r_1_3 < 0)))]) (O' := [(1, .box [.int .i64 a0.fOp, .int .i64 a0.fN, .sl (List.map I a0.fType), .sl (List.map GTerm_S a0.fKids)])]) (by kernel_rfl) trivial (by kernel_rfl) (by kernel_rfl) ?_
    refine seqQ_norm ?_
    rcases itesome h with ⟨hb_1, h⟩ | ⟨hb_1, h⟩
    · refine Wp.condT (b := (decide (r_1_3 < 0))) (by kernel_rfl) (by kernel_rfl) hb_1 ?_
      refine Wp.seqN (by kernel_rfl) ?_
      refine Wp.reg tiok mix hc (by kernel_rfl) (ah := none) (rs := [some (.no)]) (kt := [4]) (ko := []) (T' := [(4, .int .i64 (-1))]) (O' := []) (by kernel_rfl) trivial (by kernel_rfl) (by kernel_rfl) ?_
      refine seqQ_norm ?_
      refine Wp.retN (by kernel_rfl) ?_
      refine seqQ_ret ?_
      obtain rfl := Option.some.inj h
      exact RetQ.ret (fl := [true]) (by kernel_rfl)
    · refine Wp.condF (b := (decide (r_1_3 < 0))) (by kernel_rfl) (by kernel_rfl) hb_1 ?_
      refine Wp.skipN (by kernel_rfl) ?_
      refine seqQ_norm ?_
      refine Wp.seqN (by kernel_rfl) ?_
      obtain ⟨r_4_3, hr_4_3, h⟩ := bsome h
      refine Wp.reg tiok mix hc (by kernel_rfl) (ah := none) (rs := [some (.no), some (.no), some (.no), some (.call (.int .i64 r_4_3) [] 1), some (.no)]) (kt := [1]) (ko := []) (T' := [(1, .int .i64 r_4_3)]) (O' := []) (by kernel_rfl) (And.intro (laws_szTermS_ih _ _ hr_4_3) (And.intro bod_55 (And.intro (Or.inl rfl : ([] : List Nat) = [] ∨ noSh (.int .i64 r_4_3) = true) trivial))) (by kernel_rfl) (by kernel_rfl) ?_
      refine seqQ_norm ?_
      refine Wp.seqN (by kernel_rfl) ?_
      refine Wp.seqN (by kernel_rfl) ?_
      refine Wp.reg tiok mix hc (by kernel_rfl) (ah := none) (rs := [some (.no), some (.no)]) (kt := [1, 16]) (ko := []) (T' := [(1, .int .i64 r_4_3), (16, .bool (decide (r_4_3 < 0)))]) (O' := []) (by kernel_rfl) trivial (by kernel_rfl) (by kernel_rfl) ?_
      refine seqQ_norm ?_
      rcases itesome h with ⟨hb_2, h⟩ | ⟨hb_2, h⟩
      · refine Wp.condT (b := (decide (r_4_3 < 0))) (by kernel_rfl) (by kernel_rfl) hb_2 ?_
        refine Wp.seqN (by kernel_rfl) ?_
        refine Wp.reg tiok mix hc (by kernel_rfl) (ah := none) (rs := [some (.no)]) (kt := [4]) (ko := []) (T' := [(4, .int .i64 (-1))]) (O' := []) (by kernel_rfl) trivial (by kernel_rfl) (by kernel_rfl) ?_
        refine seqQ_norm ?_
        refine Wp.retN (by kernel_rfl) ?_
        refine seqQ_ret ?_
        obtain rfl := Option.some.inj h
        exact RetQ.ret (fl := [true]) (by kernel_rfl)
      · refine Wp.condF (b := (decide (r_4_3 < 0))) (by kernel_rfl) (by kernel_rfl) hb_2 ?_
        refine Wp.skipN (by kernel_rfl) ?_
        refine seqQ_norm ?_
        refine Wp.seqN (by kernel_rfl) ?_
        refine Wp.reg tiok mix hc (by kernel_rfl) (ah := none) (rs := [some (.no), some (.no)]) (kt := [4]) (ko := []) (T' := [(4, .int .i64 r_4_3)]) (O' := []) (by kernel_rfl) trivial (by kernel_rfl) (by kernel_rfl) ?_
        refine seqQ_norm ?_
        refine Wp.retN (by kernel_rfl) ?_
        obtain rfl := Option.some.inj h
        exact RetQ.ret (fl := [true]) (by kernel_rfl)
  · rintro laws_szTermS_l0_f laws_szTermS_l0_ih ⟨a0, left1⟩ r h
    show FnSound Try.prog 55 [.sl (List.map GTerm_S a0), .int .i64 left1] (.int .i64 r) []
    refine FnSound.body0 tiok (fn := Try.f55) (code := B55) (by kernel_rfl) (by kernel_rfl) (by kernel_rfl) (by kernel_rfl) (nt := 27) (by kernel_rfl) (by kernel_rfl) (T := [(0, .sl (List.map GTerm_S a0)), (1, .int .i64 left1)]) (O := []) (by kernel_rfl) (by kernel_rfl) (fun c hc => ?_)
    refine Wp.seqN (by kernel_rfl) ?_
    refine Wp.reg tiok mix hc (by kernel_rfl) (ah := none) (rs := [some (.no)]) (kt := [0, 1]) (ko := []) (T' := [(0, .sl (List.map GTerm_S a0)), (1, .int .i64 left1)]) (O' := []) (by kernel_rfl) trivial (by kernel_rfl) (by kernel_rfl) ?_
    refine seqQ_norm ?_
    refine Wp.seqN (by kernel_rfl) ?_
    refine Wp.reg tiok mix hc (by kernel_rfl) (ah := none) (rs := [some (.no), some (.no), some (.eqv (.no) ⟨[(8, .int .i64 (a0.length : Int))], [], []⟩), some (.no), some (.no)]) (kt := [0, 1]) (ko := []) (T' := [(0, .sl (List.map GTerm_S a0)), (1, .int .i64 (wr (left1 - (a0.length : Int))))]) (O' := []) (by kernel_rfl) (And.intro (lenT (d := 8) GTerm_S a0) trivial) (by kernel_rfl) (by kernel_rfl) ?_
    refine seqQ_norm ?_
    refine Wp.seqN (by kernel_rfl) ?_
    refine Wp.seqN (by kernel_rfl) ?_
    refine Wp.reg tiok mix hc (by kernel_rfl) (ah := none) (rs := [some (.no), some (.no)]) (kt := [0, 1, 11]) (ko := []) (T' := [(0, .sl (List.map GTerm_S a0)), (1, .int .i64 (wr (left1 - (a0.length : Int)))), (11, .bool (decide ((wr (left1 - (a0.length : Int))) < 0)))]) (O' := []) (by kernel_rfl) trivial (by kernel_rfl) (by kernel_rfl) ?_
    refine seqQ_norm ?_
    rcases itesome h with ⟨hb_1, h⟩ | ⟨hb_1, h⟩
    · refine Wp.condT (b := (decide ((wr (left1 - (a0.length : Int))) < 0))) (by kernel_rfl) (by kernel_rfl) hb_1 ?_
      refine Wp.seqN (by kernel_rfl) ?_
      refine Wp.reg tiok mix hc (by kernel_rfl) (ah := none) (rs := [some (.no)]) (kt := [4]) (ko := []) (T' := [(4, .int .i64 (-1))]) (O' := []) (by kernel_rfl) trivial (by kernel_rfl) (by kernel_rfl) ?_
      refine seqQ_norm ?_
      refine Wp.retN (by kernel_rfl) ?_
      refine seqQ_ret ?_
      obtain rfl := Option.some.inj h
      exact RetQ.ret (fl := [true]) (by kernel_rfl)
    · refine Wp.condF (b := (decide ((wr (left1 - (a0.length : Int))) < 0))) (by kernel_rfl) (by kernel_rfl) hb_1 ?_
      refine Wp.skipN (by kernel_rfl) ?_
      refine seqQ_norm ?_
      refine Wp.seqN (by kernel_rfl) ?_
      refine Wp.seqN (by kernel_rfl) ?_
      refine Wp.reg tiok mix hc (by kernel_rfl) (ah := none) (rs := [some (.no)]) (kt := [0, 1, 5]) (ko := []) (T' := [(0, .sl (List.map GTerm_S a0)), (1, .int .i64 (wr (left1 - (a0.length : Int)))), (5, .int .i64 0)]) (O' := []) (by kernel_rfl) trivial (by kernel_rfl) (by kernel_rfl) ?_
      refine seqQ_norm ?_
      refine Wp.blockN (i := 0) (by kernel_rfl) ?_
      obtain ⟨fl, hl_9, h⟩ := bsome h
      have hL := laws_szTermS_l0_ih _ _ hl_9 c hc
      refine Wp.loopN (by kernel_rfl) ?_
      rcases fl with left_8 | r
      · refine WpL.into (e := (.exit 0)) (mkS [(1, .int .i64 left_8)] []) hL ?_
        refine blockQ_hit ?_
        refine seqQ_norm ?_
        refine Wp.seqN (by kernel_rfl) ?_
        refine Wp.reg tiok mix hc (by kernel_rfl) (ah := none) (rs := [some (.no), some (.no)]) (kt := [4]) (ko := []) (T' := [(4, .int .i64 left_8)]) (O' := []) (by kernel_rfl) trivial (by kernel_rfl) (by kernel_rfl) ?_
        refine seqQ_norm ?_
        refine Wp.retN (by kernel_rfl) ?_
        obtain rfl := Option.some.inj h
        exact RetQ.ret (fl := [true]) (by kernel_rfl)
      · refine WpL.mono hL ?_
        rintro _ _ ⟨rfl, hfin⟩
        refine blockQ_ret ?_
        refine seqQ_ret ?_
        obtain rfl := Option.some.inj h
        exact ⟨.inl rfl, hfin⟩
  · rintro laws_szTerm_f laws_szTermS_l0_f laws_szTerm_ih laws_szTermS_l0_ih ⟨a0, left_4, i_5⟩ r h
    intro c hc
    show WpL Try.prog c (cl (cl (cr (cl (cr (cr (cr B55))))))) (laws_szTermS_F1 c r) (mkS [(0, .sl (List.map GTerm_S a0)), (1, .int .i64 left_4), (5, .int .i64 i_5)] [])
    refine WpL.step ?_
    refine Wp.seqN (by kernel_rfl) ?_
    refine Wp.seqN (by kernel_rfl) ?_
    refine Wp.reg tiok mix hc (by kernel_rfl) (ah := none) (rs := [some (.no), some (.no), some (.eqv (.no) ⟨[(14, .int .i64 (a0.length : Int))], [], []⟩), some (.no)]) (kt := [0, 1, 5, 15]) (ko := []) (T' := [(0, .sl (List.map GTerm_S a0)), (1, .int .i64 left_4), (5, .int .i64 i_5), (15, .bool (decide (i_5 < (a0.length : Int))))]) (O' := []) (by kernel_rfl) (And.intro (lenT (d := 14) GTerm_S a0) trivial) (by kernel_rfl) (by kernel_rfl) ?_
    refine seqQ_norm ?_
    rcases itesome h with ⟨hb_6, h⟩ | ⟨hb_6, h⟩
    · refine Wp.condT (b := (decide (i_5 < (a0.length : Int)))) (by kernel_rfl) (by kernel_rfl) hb_6 ?_
      refine Wp.skipN (by kernel_rfl) ?_
      refine seqQ_norm ?_
      refine Wp.seqN (by kernel_rfl) ?_
      refine Wp.blockN (i := 1) (by kernel_rfl) ?_
      refine Wp.seqN (by kernel_rfl) ?_
      obtain ⟨e_7_2, hi_7_2, h⟩ := bsome h
      obtain ⟨r_7_5, hr_7_5, h⟩ := bsome h
      refine Wp.reg tiok mix hc (by kernel_rfl) (ah := none) (rs := [some (.no), some (.no), some (.el (.agg [.int .i64 e_7_2.fOp, .int .i64 e_7_2.fN, .sl (List.map I e_7_2.fType), .sl (List.map GTerm_S e_7_2.fKids)])), some (.no), some (.no), some (.call (.int .i64 r_7_5) [] 1), some (.no)]) (kt := [0, 1, 5]) (ko := []) (T' := [(0, .sl (List.map GTerm_S a0)), (1, .int .i64 r_7_5), (5, .int .i64 i_5)]) (O' := []) (by kernel_rfl) (And.intro (idx_sl (enc := GTerm_S) (x := .agg [.int .i64 e_7_2.fOp, .int .i64 e_7_2.fN, .sl (List.map I e_7_2.fType), .sl (List.map GTerm_S e_7_2.fKids)]) hi_7_2 (eq_GTerm_S e_7_2)) (And.intro (laws_szTerm_ih _ _ hr_7_5) (And.intro bod_23 (And.intro (Or.inl rfl : ([] : List Nat) = [] ∨ noSh (.int .i64 r_7_5) = true) trivial)))) (by kernel_rfl) (by kernel_rfl) ?_
      refine seqQ_norm ?_
      refine Wp.seqN (by kernel_rfl) ?_
      refine Wp.reg tiok mix hc (by kernel_rfl) (ah := none) (rs := [some (.no), some (.no)]) (kt := [0, 1, 5, 25]) (ko := []) (T' := [(0, .sl (List.map GTerm_S a0)), (1, .int .i64 r_7_5), (5, .int .i64 i_5), (25, .bool (decide (r_7_5 < 0)))]) (O' := []) (by kernel_rfl) trivial (by kernel_rfl) (by kernel_rfl) ?_
      refine seqQ_norm ?_
      rcases itesome h with ⟨hb_7, h⟩ | ⟨hb_7, h⟩
      · refine Wp.condT (b := (decide (r_7_5 < 0))) (by kernel_rfl) (by kernel_rfl) hb_7 ?_
        refine Wp.seqN (by kernel_rfl) ?_
        refine Wp.reg tiok mix hc (by kernel_rfl) (ah := none) (rs := [some (.no)]) (kt := [4]) (ko := []) (T' := [(4, .int .i64 (-1))]) (O' := []) (by kernel_rfl) trivial (by kernel_rfl) (by kernel_rfl) ?_
        refine seqQ_norm ?_
        refine Wp.retN (by kernel_rfl) ?_
        refine blockQ_ret ?_
        refine seqQ_ret ?_
        refine loopQ_ret ?_
        obtain rfl := Option.some.inj h
        exact RetE.ret (fl := [true]) (by kernel_rfl)
      · refine Wp.condF (b := (decide (r_7_5 < 0))) (by kernel_rfl) (by kernel_rfl) hb_7 ?_
        refine Wp.skipN (by kernel_rfl) ?_
        refine blockQ_norm ?_
        refine seqQ_norm ?_
        refine Wp.reg tiok mix hc (by kernel_rfl) (ah := none) (rs := [some (.no), some (.no), some (.no)]) (kt := [0, 1, 5]) (ko := []) (T' := [(0, .sl (List.map GTerm_S a0)), (1, .int .i64 r_7_5), (5, .int .i64 (wr (i_5 + 1)))]) (O' := []) (by kernel_rfl) trivial (by kernel_rfl) (by kernel_rfl) ?_
        refine loopQ_norm ?_
        exact (laws_szTermS_l0_ih _ _ h c hc)
    · refine Wp.condF (b := (decide (i_5 < (a0.length : Int)))) (by kernel_rfl) (by kernel_rfl) hb_6 ?_
      refine Wp.exitN (i := 0) (by kernel_rfl) ?_
      refine seqQ_exit ?_
      refine loopQ_exit ?_
      obtain rfl := Option.some.inj h
      exact Into.view (fun a w hv => SRx.renL [] hv (by kernel_rfl) (by kernel_rfl) (by kernel_rfl))
theorem laws_szTerm_s : ∀ p r, laws_szTerm p = some r → M_laws_szTerm p r := laws_szTerm_all.1
theorem laws_szTermS_s : ∀ p r, laws_szTermS p = some r → M_laws_szTermS p r := laws_szTerm_all.2.1
theorem laws_szTermS_l0_s : ∀ p r, laws_szTermS_l0 p = some r → M_laws_szTermS_l0 p r := laws_szTerm_all.2.2
def laws_toIntS_F1 (c : Ctx) : (List Int) → Exit → AState → Prop
  | out_5 => Into c (.exit 0) (mkS [(3, .rs 1)] [(1, .arr (List.map I out_5))])
def laws_toIntS_l0 (p : (List Int) × (List Int) × Int) : Option ((List Int)) :=
  match p with
  | (a0, out_2, i_3) =>
    if (decide (i_3 < (a0.length : Int))) = true then
      (idx a0 i_3) >>= fun e_5_4 =>
      (idx out_2 i_3) >>= fun e_5_6 =>
      laws_toIntS_l0 (a0, (List.set out_2 (Int.toNat i_3) e_5_4), (wr (i_3 + 1)))
    else
      some (out_2)
  partial_fixpoint
def M_laws_toIntS_l0 (p : (List Int) × (List Int) × Int) (fl : (List Int)) : Prop :=
  match p with
  | (a0, out_2, i_3) => ∀ c : Ctx, c.nt = 22 → WpL Try.prog c (cl (cl (cr (cl (cr (cr B14)))))) (laws_toIntS_F1 c fl) (mkS [(0, .sl (List.map I a0)), (3, .rs 1), (4, .int .i64 i_3)] [(1, .arr (List.map I out_2))])
theorem laws_toIntS_l0_s : ∀ p r, laws_toIntS_l0 p = some r → M_laws_toIntS_l0 p r := by
  refine laws_toIntS_l0.partial_correctness M_laws_toIntS_l0 ?_
  rintro laws_toIntS_l0_f laws_toIntS_l0_ih ⟨a0, out_2, i_3⟩ r h
  intro c hc
  show WpL Try.prog c (cl (cl (cr (cl (cr (cr B14)))))) (laws_toIntS_F1 c r) (mkS [(0, .sl (List.map I a0)), (3, .rs 1), (4, .int .i64 i_3)] [(1, .arr (List.map I out_2))])
  refine WpL.step ?_
  refine Wp.seqN (by kernel_rfl) ?_
  refine Wp.seqN (by kernel_rfl) ?_
  refine Wp.reg tiok mix hc (by kernel_rfl) (ah := none) (rs := [some (.no), some (.no), some (.eqv (.no) ⟨[(10, .int .i64 (a0.length : Int))], [], []⟩), some (.no)]) (kt := [0, 3, 4, 11]) (ko := [1]) (T' := [(0, .sl (List.map I a0)), (3, .rs 1), (4, .int .i64 i_3), (11, .bool (decide (i_3 < (a0.length : Int))))]) (O' := [(1, .arr (List.map I out_2))]) (by kernel_rfl) (And.intro (lenT (d := 10) I a0) trivial) (by kernel_rfl) (by kernel_rfl) ?_
  refine seqQ_norm ?_
  rcases itesome h with ⟨hb_4, h⟩ | ⟨hb_4, h⟩
  · refine Wp.condT (b := (decide (i_3 < (a0.length : Int)))) (by kernel_rfl) (by kernel_rfl) hb_4 ?_
    refine Wp.skipN (by kernel_rfl) ?_
    refine seqQ_norm ?_
    refine Wp.seqN (by kernel_rfl) ?_
    refine Wp.blockN (i := 1) (by kernel_rfl) ?_
    obtain ⟨e_5_4, hi_5_4, h⟩ := bsome h
    obtain ⟨e_5_6, hi_5_6, h⟩ := bsome h
    refine Wp.reg tiok mix hc (by kernel_rfl) (ah := none) (rs := [some (.no), some (.no), some (.no), some (.no), some (.el (.int .i64 e_5_4)), some (.no), some (.no), some (.eqv (.mk 0 true) ⟨[], [(1, some (.arr (List.map I (List.set out_2 (Int.toNat i_3) e_5_4))))], []⟩)]) (kt := [0, 3, 4]) (ko := [1]) (T' := [(0, .sl (List.map I a0)), (3, .rs 1), (4, .int .i64 i_3)]) (O' := [(1, .arr (List.map I (List.set out_2 (Int.toNat i_3) e_5_4)))]) (by kernel_rfl) (And.intro (idx_sl (enc := I) (x := .int .i64 e_5_4) hi_5_4 (eq_I e_5_4)) (And.intro (idx_own (enc := I) hi_5_6) (And.intro (congrArg (fun z => (⟨[], [(1, some (.arr z))], []⟩ : Wr)) (set_row (enc := I) (i := Int.toNat i_3) (l := out_2) (v := e_5_4) (x := AV.int .i64 e_5_4) (eq_I e_5_4))) (And.intro (own_set (enc := I) (sz := 1) sz_I hi_5_6) trivial)))) (by kernel_rfl) (by kernel_rfl) ?_
    refine blockQ_norm ?_
    refine seqQ_norm ?_
    refine Wp.reg tiok mix hc (by kernel_rfl) (ah := none) (rs := [some (.no), some (.no), some (.no)]) (kt := [0, 3, 4]) (ko := [1]) (T' := [(0, .sl (List.map I a0)), (3, .rs 1), (4, .int .i64 (wr (i_3 + 1)))]) (O' := [(1, .arr (List.map I (List.set out_2 (Int.toNat i_3) e_5_4)))]) (by kernel_rfl) trivial (by kernel_rfl) (by kernel_rfl) ?_
    refine loopQ_norm ?_
    exact (laws_toIntS_l0_ih _ _ h c hc)
  · refine Wp.condF (b := (decide (i_3 < (a0.length : Int)))) (by kernel_rfl) (by kernel_rfl) hb_4 ?_
    refine Wp.exitN (i := 0) (by kernel_rfl) ?_
    refine seqQ_exit ?_
    refine loopQ_exit ?_
    obtain rfl := Option.some.inj h
    exact Into.view (fun a w hv => SRx.renL [] hv (by kernel_rfl) (by kernel_rfl) (by kernel_rfl))
def laws_toIntS (a0 : (List Int)) : Option ((List Int)) :=
    (chk (0 ≤ (a0.length : Int) ∧ (Int.toNat (a0.length : Int)) * 8 ≤ 140737488355328)) >>= fun _ =>
    (laws_toIntS_l0 (a0, (List.replicate (Int.toNat (a0.length : Int)) 0), 0)) >>= fun out_5 =>
    some out_5
def M_laws_toIntS (a0 : (List Int)) (r : (List Int)) : Prop :=
  FnSound Try.prog 14 [.sl (List.map I a0)] (.osl (List.map I r)) []
theorem laws_toIntS_s : ∀ p r, laws_toIntS p = some r → M_laws_toIntS p r := by
  rintro a0 r h
  unfold laws_toIntS at h
  show FnSound Try.prog 14 [.sl (List.map I a0)] (.osl (List.map I r)) []
  refine FnSound.body0 tiok (fn := Try.f14) (code := B14) (by kernel_rfl) (by kernel_rfl) (by kernel_rfl) (by kernel_rfl) (nt := 22) (by kernel_rfl) (by kernel_rfl) (T := [(0, .sl (List.map I a0))]) (O := []) (by kernel_rfl) (by kernel_rfl) (fun c hc => ?_)
  refine Wp.seqN (by kernel_rfl) ?_
  refine Wp.reg tiok mix hc (by kernel_rfl) (ah := none) (rs := [some (.no)]) (kt := [0]) (ko := []) (T' := [(0, .sl (List.map I a0))]) (O' := []) (by kernel_rfl) trivial (by kernel_rfl) (by kernel_rfl) ?_
  refine seqQ_norm ?_
  refine Wp.seqN (by kernel_rfl) ?_
  obtain ⟨_, hk_1_2, h⟩ := bsome h
  refine Wp.reg tiok mix hc (by kernel_rfl) (ah := none) (rs := [some (.no), some (.eqv (.no) ⟨[(6, .int .i64 (a0.length : Int))], [], []⟩), some (.eqv (.mk 1 true) ⟨[(7, .rs 1)], [(1, some (.arr (List.map I (List.replicate (Int.toNat (a0.length : Int)) 0))))], [1]⟩), some (.no)]) (kt := [0, 3]) (ko := [1]) (T' := [(0, .sl (List.map I a0)), (3, .rs 1)]) (O' := [(1, .arr (List.map I (List.replicate (Int.toNat (a0.length : Int)) 0)))]) (by kernel_rfl) (And.intro (lenT (d := 6) I a0) (And.intro (congrArg (fun z => (⟨[(7, .rs 1)], [(1, some (.arr z))], [1]⟩ : Wr)) (rep_row (enc := I) (n := Int.toNat (a0.length : Int)) (x := AV.int .i64 0) (eq_I 0))) (And.intro (And.intro (Eq.refl (a0.length : Int)) (chk_of hk_1_2)) trivial))) (by kernel_rfl) (by kernel_rfl) ?_
  refine seqQ_norm ?_
  refine Wp.seqN (by kernel_rfl) ?_
  refine Wp.seqN (by kernel_rfl) ?_
  refine Wp.reg tiok mix hc (by kernel_rfl) (ah := none) (rs := [some (.no)]) (kt := [0, 3, 4]) (ko := [1]) (T' := [(0, .sl (List.map I a0)), (3, .rs 1), (4, .int .i64 0)]) (O' := [(1, .arr (List.map I (List.replicate (Int.toNat (a0.length : Int)) 0)))]) (by kernel_rfl) trivial (by kernel_rfl) (by kernel_rfl) ?_
  refine seqQ_norm ?_
  refine Wp.blockN (i := 0) (by kernel_rfl) ?_
  obtain ⟨out_5, hl_6, h⟩ := bsome h
  have hL := laws_toIntS_l0_s _ _ hl_6 c hc
  refine Wp.loopN (by kernel_rfl) ?_
  · refine WpL.into (e := (.exit 0)) (mkS [(3, .rs 1)] [(1, .arr (List.map I out_5))]) hL ?_
    refine blockQ_hit ?_
    refine seqQ_norm ?_
    refine Wp.seqN (by kernel_rfl) ?_
    refine Wp.reg tiok mix hc (by kernel_rfl) (ah := none) (rs := [some (.no), some (.no)]) (kt := [2]) (ko := [1]) (T' := [(2, .rs 1)]) (O' := [(1, .arr (List.map I out_5))]) (by kernel_rfl) trivial (by kernel_rfl) (by kernel_rfl) ?_
    refine seqQ_norm ?_
    refine Wp.retN (by kernel_rfl) ?_
    obtain rfl := Option.some.inj h
    exact RetQ.ret (fl := [true]) (by kernel_rfl)
def laws_toBoolS_F1 (c : Ctx) : (List Bool) → Exit → AState → Prop
  | out_5 => Into c (.exit 0) (mkS [(3, .rs 1)] [(1, .arr (List.map AV.bool out_5))])
def laws_toBoolS_l0 (p : (List Bool) × (List Bool) × Int) : Option ((List Bool)) :=
  match p with
  | (a0, out_2, i_3) =>
    if (decide (i_3 < (a0.length : Int))) = true then
      (idx a0 i_3) >>= fun e_5_4 =>
      (idx out_2 i_3) >>= fun e_5_6 =>
      laws_toBoolS_l0 (a0, (List.set out_2 (Int.toNat i_3) e_5_4), (wr (i_3 + 1)))
    else
      some (out_2)
  partial_fixpoint
def M_laws_toBoolS_l0 (p : (List Bool) × (List Bool) × Int) (fl : (List Bool)) : Prop :=
  match p with
  | (a0, out_2, i_3) => ∀ c : Ctx, c.nt = 22 → WpL Try.prog c (cl (cl (cr (cl (cr (cr B46)))))) (laws_toBoolS_F1 c fl) (mkS [(0, .sl (List.map AV.bool a0)), (3, .rs 1), (4, .int .i64 i_3)] [(1, .arr (List.map AV.bool out_2))])
theorem laws_toBoolS_l0_s : ∀ p r, laws_toBoolS_l0 p = some r → M_laws_toBoolS_l0 p r := by
  refine laws_toBoolS_l0.partial_correctness M_laws_toBoolS_l0 ?_
  rintro laws_toBoolS_l0_f laws_toBoolS_l0_ih ⟨a0, out_2, i_3⟩ r h
  intro c hc
  show WpL Try.prog c (cl (cl (cr (cl (cr (cr B46)))))) (laws_toBoolS_F1 c r) (mkS [(0, .sl (List.map AV.bool a0)), (3, .rs 1), (4, .int .i64 i_3)] [(1, .arr (List.map AV.bool out_2))])
  refine WpL.step ?_
  refine Wp.seqN (by kernel_rfl) ?_
  refine Wp.seqN (by kernel_rfl) ?_
  refine Wp.reg tiok mix hc (by kernel_rfl) (ah := none) (rs := [some (.no), some (.no), some (.eqv (.no) ⟨[(10, .int .i64 (a0.length : Int))], [], []⟩), some (.no)]) (kt := [0, 3, 4, 11]) (ko := [1]) (T' := [(0, .sl (List.map AV.bool a0)), (3, .rs 1), (4, .int .i64 i_3), (11, .bool (decide (i_3 < (a0.length : Int))))]) (O' := [(1, .arr (List.map AV.bool out_2))]) (by kernel_rfl) (And.intro (lenT (d := 10) AV.bool a0) trivial) (by kernel_rfl) (by kernel_rfl) ?_
  refine seqQ_norm ?_
  rcases itesome h with ⟨hb_4, h⟩ | ⟨hb_4, h⟩
  · refine Wp.condT (b := (decide (i_3 < (a0.length : Int)))) (by kernel_rfl) (by kernel_rfl) hb_4 ?_
    refine Wp.skipN (by kernel_rfl) ?_
    refine seqQ_norm ?_
    refine Wp.seqN (by kernel_rfl) ?_
    refine Wp.blockN (i := 1) (by kernel_rfl) ?_
    obtain ⟨e_5_4, hi_5_4, h⟩ := bsome h
    obtain ⟨e_5_6, hi_5_6, h⟩ := bsome h
    refine Wp.reg tiok mix hc (by kernel_rfl) (ah := none) (rs := [some (.no), some (.no), some (.no), some (.no), some (.el (.bool e_5_4)), some (.no), some (.no), some (.eqv (.mk 0 true) ⟨[], [(1, some (.arr (List.map AV.bool (List.set out_2 (Int.toNat i_3) e_5_4))))], []⟩)]) (kt := [0, 3, 4]) (ko := [1]) (T' := [(0, .sl (List.map AV.bool a0)), (3, .rs 1), (4, .int .i64 i_3)]) (O' := [(1, .arr (List.map AV.bool (List.set out_2 (Int.toNat i_3) e_5_4)))]) (by kernel_rfl) (And.intro (idx_sl (enc := AV.bool) (x := .bool e_5_4) hi_5_4 (eq_B e_5_4)) (And.intro (idx_own (enc := AV.bool) hi_5_6) (And.intro (congrArg (fun z => (⟨[], [(1, some (.arr z))], []⟩ : Wr)) (set_row (enc := AV.bool) (i := Int.toNat i_3) (l := out_2) (v := e_5_4) (x := AV.bool e_5_4) (eq_B e_5_4))) (And.intro (own_set (enc := AV.bool) (sz := 1) sz_B hi_5_6) trivial)))) (by kernel_rfl) (by kernel_rfl) ?_
    refine blockQ_norm ?_
    refine seqQ_norm ?_
    refine Wp.reg tiok mix hc (by kernel_rfl) (ah := none) (rs := [some (.no), some (.no), some (.no)]) (kt := [0, 3, 4]) (ko := [1]) (T' := [(0, .sl (List.map AV.bool a0)), (3, .rs 1), (4, .int .i64 (wr (i_3 + 1)))]) (O' := [(1, .arr (List.map AV.bool (List.set out_2 (Int.toNat i_3) e_5_4)))]) (by kernel_rfl) trivial (by kernel_rfl) (by kernel_rfl) ?_
    refine loopQ_norm ?_
    exact (laws_toBoolS_l0_ih _ _ h c hc)
  · refine Wp.condF (b := (decide (i_3 < (a0.length : Int)))) (by kernel_rfl) (by kernel_rfl) hb_4 ?_
    refine Wp.exitN (i := 0) (by kernel_rfl) ?_
    refine seqQ_exit ?_
    refine loopQ_exit ?_
    obtain rfl := Option.some.inj h
    exact Into.view (fun a w hv => SRx.renL [] hv (by kernel_rfl) (by kernel_rfl) (by kernel_rfl))
def laws_toBoolS (a0 : (List Bool)) : Option ((List Bool)) :=
    (chk (0 ≤ (a0.length : Int) ∧ (Int.toNat (a0.length : Int)) * 1 ≤ 140737488355328)) >>= fun _ =>
    (laws_toBoolS_l0 (a0, (List.replicate (Int.toNat (a0.length : Int)) false), 0)) >>= fun out_5 =>
    some out_5
def M_laws_toBoolS (a0 : (List Bool)) (r : (List Bool)) : Prop :=
  FnSound Try.prog 46 [.sl (List.map AV.bool a0)] (.osl (List.map AV.bool r)) []
theorem laws_toBoolS_s : ∀ p r, laws_toBoolS p = some r → M_laws_toBoolS p r := by
  rintro a0 r h
  unfold laws_toBoolS at h
  show FnSound Try.prog 46 [.sl (List.map AV.bool a0)] (.osl (List.map AV.bool r)) []
  refine FnSound.body0 tiok (fn := Try.f46) (code := B46) (by kernel_rfl) (by kernel_rfl) (by kernel_rfl) (by kernel_rfl) (nt := 22) (by kernel_rfl) (by kernel_rfl) (T := [(0, .sl (List.map AV.bool a0))]) (O := []) (by kernel_rfl) (by kernel_rfl) (fun c hc => ?_)
  refine Wp.seqN (by kernel_rfl) ?_
  refine Wp.reg tiok mix hc (by kernel_rfl) (ah := none) (rs := [some (.no)]) (kt := [0]) (ko := []) (T' := [(0, .sl (List.map AV.bool a0))]) (O' := []) (by kernel_rfl) trivial (by kernel_rfl) (by kernel_rfl) ?_
  refine seqQ_norm ?_
  refine Wp.seqN (by kernel_rfl) ?_
  obtain ⟨_, hk_1_2, h⟩ := bsome h
  refine Wp.reg tiok mix hc (by kernel_rfl) (ah := none) (rs := [some (.no), some (.eqv (.no) ⟨[(6, .int .i64 (a0.length : Int))], [], []⟩), some (.eqv (.mk 1 true) ⟨[(7, .rs 1)], [(1, some (.arr (List.map AV.bool (List.replicate (Int.toNat (a0.length : Int)) false))))], [1]⟩), some (.no)]) (kt := [0, 3]) (ko := [1]) (T' := [(0, .sl (List.map AV.bool a0)), (3, .rs 1)]) (O' := [(1, .arr (List.map AV.bool (List.replicate (Int.toNat (a0.length : Int)) false)))]) (by kernel_rfl) (And.intro (lenT (d := 6) AV.bool a0) (And.intro (congrArg (fun z => (⟨[(7, .rs 1)], [(1, some (.arr z))], [1]⟩ : Wr)) (rep_row (enc := AV.bool) (n := Int.toNat (a0.length : Int)) (x := AV.bool false) (eq_B false))) (And.intro (And.intro (Eq.refl (a0.length : Int)) (chk_of hk_1_2)) trivial))) (by kernel_rfl) (by kernel_rfl) ?_
  refine seqQ_norm ?_
  refine Wp.seqN (by kernel_rfl) ?_
  refine Wp.seqN (by kernel_rfl) ?_
  refine Wp.reg tiok mix hc (by kernel_rfl) (ah := none) (rs := [some (.no)]) (kt := [0, 3, 4]) (ko := [1]) (T' := [(0, .sl (List.map AV.bool a0)), (3, .rs 1), (4, .int .i64 0)]) (O' := [(1, .arr (List.map AV.bool (List.replicate (Int.toNat (a0.length : Int)) false)))]) (by kernel_rfl) trivial (by kernel_rfl) (by kernel_rfl) ?_
  refine seqQ_norm ?_
  refine Wp.blockN (i := 0) (by kernel_rfl) ?_
  obtain ⟨out_5, hl_6, h⟩ := bsome h
  have hL := laws_toBoolS_l0_s _ _ hl_6 c hc
  refine Wp.loopN (by kernel_rfl) ?_
  · refine WpL.into (e := (.exit 0)) (mkS [(3, .rs 1)] [(1, .arr (List.map AV.bool out_5))]) hL ?_
    refine blockQ_hit ?_
    refine seqQ_norm ?_
    refine Wp.seqN (by kernel_rfl) ?_
    refine Wp.reg tiok mix hc (by kernel_rfl) (ah := none) (rs := [some (.no), some (.no)]) (kt := [2]) (ko := [1]) (T' := [(2, .rs 1)]) (O' := [(1, .arr (List.map AV.bool out_5))]) (by kernel_rfl) trivial (by kernel_rfl) (by kernel_rfl) ?_
    refine seqQ_norm ?_
    refine Wp.retN (by kernel_rfl) ?_
    obtain rfl := Option.some.inj h
    exact RetQ.ret (fl := [true]) (by kernel_rfl)
def laws_toSystem (a0 : GSystem) : Option (GSystem) :=
    (laws_toIntS a0.fPlus) >>= fun r_3_2 =>
    (laws_toIntS a0.fTimes) >>= fun r_4_2 =>
    (laws_toBoolS a0.fBelow) >>= fun r_5_2 =>
    some (GSystem.mk a0.fSize r_3_2 r_4_2 r_5_2)
def M_laws_toSystem (a0 : GSystem) (r : GSystem) : Prop :=
  FnSound Try.prog 13 [.agg [.int .i64 a0.fSize, .sl (List.map I a0.fPlus), .sl (List.map I a0.fTimes), .sl (List.map AV.bool a0.fBelow)]] (.agg [.int .i64 r.fSize, .osl (List.map I r.fPlus), .osl (List.map I r.fTimes), .osl (List.map AV.bool r.fBelow)]) []
theorem laws_toSystem_s : ∀ p r, laws_toSystem p = some r → M_laws_toSystem p r := by
  rintro a0 r h
  unfold laws_toSystem at h
  show FnSound Try.prog 13 [.agg [.int .i64 a0.fSize, .sl (List.map I a0.fPlus), .sl (List.map I a0.fTimes), .sl (List.map AV.bool a0.fBelow)]] (.agg [.int .i64 r.fSize, .osl (List.map I r.fPlus), .osl (List.map I r.fTimes), .osl (List.map AV.bool r.fBelow)]) []
  refine FnSound.body0 tiok (fn := Try.f13) (code := B13) (by kernel_rfl) (by kernel_rfl) (by kernel_rfl) (by kernel_rfl) (nt := 20) (by kernel_rfl) (by kernel_rfl) (T := [(0, .agg [.int .i64 a0.fSize, .sl (List.map I a0.fPlus), .sl (List.map I a0.fTimes), .sl (List.map AV.bool a0.fBelow)])]) (O := []) (by kernel_rfl) (by kernel_rfl) (fun c hc => ?_)
  refine Wp.seqN (by kernel_rfl) ?_
  refine Wp.reg tiok mix hc (by kernel_rfl) (ah := none) (rs := [some (.new 1), some (.new 2)]) (kt := [1, 2]) (ko := [1, 2]) (T' := [(1, .ra 1 0), (2, .ra 2 0)]) (O' := [(1, .box [.int .i64 a0.fSize, .sl (List.map I a0.fPlus), .sl (List.map I a0.fTimes), .sl (List.map AV.bool a0.fBelow)]), (2, .box [.int .i64 0, .nils, .nils, .nils])]) (by kernel_rfl) trivial (by kernel_rfl) (by kernel_rfl) ?_
  refine seqQ_norm ?_
  refine Wp.seqN (by kernel_rfl) ?_
  refine Wp.reg tiok mix hc (by kernel_rfl) (ah := none) (rs := [some (.new 3)]) (kt := [1, 2, 3]) (ko := [1, 2, 3]) (T' := [(1, .ra 1 0), (2, .ra 2 0), (3, .ra 3 0)]) (O' := [(1, .box [.int .i64 a0.fSize, .sl (List.map I a0.fPlus), .sl (List.map I a0.fTimes), .sl (List.map AV.bool a0.fBelow)]), (2, .box [.int .i64 0, .nils, .nils, .nils]), (3, .box [.int .i64 0, .nils, .nils, .nils])]) (by kernel_rfl) trivial (by kernel_rfl) (by kernel_rfl) ?_
  refine seqQ_norm ?_
  refine Wp.seqN (by kernel_rfl) ?_
  refine Wp.reg tiok mix hc (by kernel_rfl) (ah := none) (rs := [some (.no), some (.no), some (.no), some (.no)]) (kt := [1, 2, 3]) (ko := [1, 2, 3]) (T' := [(1, .ra 1 0), (2, .ra 2 0), (3, .ra 3 0)]) (O' := [(1, .box [.int .i64 a0.fSize, .sl (List.map I a0.fPlus), .sl (List.map I a0.fTimes), .sl (List.map AV.bool a0.fBelow)]), (2, .box [.int .i64 0, .nils, .nils, .nils]), (3, .box [.int .i64 a0.fSize, .nils, .nils, .nils])]) (by kernel_rfl) trivial (by kernel_rfl) (by kernel_rfl) ?_
  refine seqQ_norm ?_
  refine Wp.seqN (by kernel_rfl) ?_
  obtain ⟨r_3_2, hr_3_2, h⟩ := bsome h
  refine Wp.reg tiok mix hc (by kernel_rfl) (ah := none) (rs := [some (.no), some (.no), some (.call (.osl (List.map I r_3_2)) [] 4), some (.no), some (.no)]) (kt := [1, 2, 3]) (ko := [1, 2, 3, 4]) (T' := [(1, .ra 1 0), (2, .ra 2 0), (3, .ra 3 0)]) (O' := [(1, .box [.int .i64 a0.fSize, .sl (List.map I a0.fPlus), .sl (List.map I a0.fTimes), .sl (List.map AV.bool a0.fBelow)]), (2, .box [.int .i64 0, .nils, .nils, .nils]), (3, .box [.int .i64 a0.fSize, .rs 4, .nils, .nils]), (4, .arr (List.map I r_3_2))]) (by kernel_rfl) (And.intro (laws_toIntS_s _ _ hr_3_2) (And.intro bod_14 (And.intro (Or.inl rfl : ([] : List Nat) = [] ∨ noSh (.osl (List.map I r_3_2)) = true) trivial))) (by kernel_rfl) (by kernel_rfl) ?_
  refine seqQ_norm ?_
  refine Wp.seqN (by kernel_rfl) ?_
  obtain ⟨r_4_2, hr_4_2, h⟩ := bsome h
  refine Wp.reg tiok mix hc (by kernel_rfl) (ah := none) (rs := [some (.no), some (.no), some (.call (.osl (List.map I r_4_2)) [] 5), some (.no), some (.no)]) (kt := [1, 2, 3]) (ko := [1, 2, 3, 4, 5]) (T' := [(1, .ra 1 0), (2, .ra 2 0), (3, .ra 3 0)]) (O' := [(1, .box [.int .i64 a0.fSize, .sl (List.map I a0.fPlus), .sl (List.map I a0.fTimes), .sl (List.map AV.bool a0.fBelow)]), (2, .box [.int .i64 0, .nils, .nils, .nils]), (3, .box [.int .i64 a0.fSize, .rs 4, .rs 5, .nils]), (4, .arr (List.map I r_3_2)), (5, .arr (List.map I r_4_2))]) (by kernel_rfl) (And.intro (laws_toIntS_s _ _ hr_4_2) (And.intro bod_14 (And.intro (Or.inl rfl : ([] : List Nat) = [] ∨ noSh (.osl (List.map I r_4_2)) = true) trivial))) (by kernel_rfl) (by kernel_rfl) ?_
  refine seqQ_norm ?_
  refine Wp.seqN (by kernel_rfl) ?_
  obtain ⟨r_5_2, hr_5_2, h⟩ := bsome h
  refine Wp.reg tiok mix hc (by kernel_rfl) (ah := none) (rs := [some (.no), some (.no), some (.call (.osl (List.map AV.bool r_5_2)) [] 6), some (.no), some (.no)]) (kt := [2, 3]) (ko := [2, 3, 4, 5, 6]) (T' := [(2, .ra 2 0), (3, .ra 3 0)]) (O' := [(2, .box [.int .i64 0, .nils, .nils, .nils]), (3, .box [.int .i64 a0.fSize, .rs 4, .rs 5, .rs 6]), (4, .arr (List.map I r_3_2)), (5, .arr (List.map I r_4_2)), (6, .arr (List.map AV.bool r_5_2))]) (by kernel_rfl) (And.intro (laws_toBoolS_s _ _ hr_5_2) (And.intro bod_46 (And.intro (Or.inl rfl : ([] : List Nat) = [] ∨ noSh (.osl (List.map AV.bool r_5_2)) = true) trivial))) (by kernel_rfl) (by kernel_rfl) ?_
  refine seqQ_norm ?_
  refine Wp.seqN (by kernel_rfl) ?_
  refine Wp.reg tiok mix hc (by kernel_rfl) (ah := none) (rs := [some (.no), some (.no)]) (kt := [2]) (ko := [2, 4, 5, 6]) (T' := [(2, .ra 2 0)]) (O' := [(2, .box [.int .i64 a0.fSize, .rs 4, .rs 5, .rs 6]), (4, .arr (List.map I r_3_2)), (5, .arr (List.map I r_4_2)), (6, .arr (List.map AV.bool r_5_2))]) (by kernel_rfl) trivial (by kernel_rfl) (by kernel_rfl) ?_
  refine seqQ_norm ?_
  refine Wp.retN (by kernel_rfl) ?_
  obtain rfl := Option.some.inj h
  exact RetQ.ret (fl := [true]) (by kernel_rfl)
def laws_toTermS_F1 (c : Ctx) : (List GTerm) → Exit → AState → Prop
  | out_5 => Into c (.exit 0) (mkS [(3, .rs 1)] [(1, .arr (List.map GTerm_O out_5))])
mutual
def laws_toTerm (a0 : GTerm) : Option (GTerm) :=
    (laws_toIntS a0.fType) >>= fun r_4_2 =>
    (laws_toTermS a0.fKids) >>= fun r_5_2 =>
    some (GTerm.mk a0.fOp a0.fN r_4_2 r_5_2)
  partial_fixpoint
def laws_toTermS (a0 : (List GTerm)) : Option ((List GTerm)) :=
    (chk (0 ≤ (a0.length : Int) ∧ (Int.toNat (a0.length : Int)) * 64 ≤ 140737488355328)) >>= fun _ =>
    (laws_toTermS_l0 (a0, (List.replicate (Int.toNat (a0.length : Int)) (GTerm.mk 0 0 [] [])), 0)) >>= fun out_5 =>
    some out_5
  partial_fixpoint
def laws_toTermS_l0 (p : (List GTerm) × (List GTerm) × Int) : Option ((List GTerm)) :=
  match p with
  | (a0, out_2, i_3) =>
    if (decide (i_3 < (a0.length : Int))) = true then
      (idx a0 i_3) >>= fun e_5_4 =>
      (laws_toTerm e_5_4) >>= fun r_5_6 =>
      (idx out_2 i_3) >>= fun e_5_7 =>
      laws_toTermS_l0 (a0, (List.set out_2 (Int.toNat i_3) r_5_6), (wr (i_3 + 1)))
    else
      some (out_2)
  partial_fixpoint
end
def M_laws_toTerm (a0 : GTerm) (r : GTerm) : Prop :=
  FnSound Try.prog 25 [.agg [.int .i64 a0.fOp, .int .i64 a0.fN, .sl (List.map I a0.fType), .sl (List.map GTerm_S a0.fKids)]] (.agg [.int .i64 r.fOp, .int .i64 r.fN, .osl (List.map I r.fType), .osl (List.map GTerm_O r.fKids)]) []
def M_laws_toTermS (a0 : (List GTerm)) (r : (List GTerm)) : Prop :=
  FnSound Try.prog 59 [.sl (List.map GTerm_S a0)] (.osl (List.map GTerm_O r)) []
def M_laws_toTermS_l0 (p : (List GTerm) × (List GTerm) × Int) (fl : (List GTerm)) : Prop :=
  match p with
  | (a0, out_2, i_3) => ∀ c : Ctx, c.nt = 23 → WpL Try.prog c (cl (cl (cr (cl (cr (cr B59)))))) (laws_toTermS_F1 c fl) (mkS [(0, .sl (List.map GTerm_S a0)), (3, .rs 1), (4, .int .i64 i_3)] [(1, .arr (List.map GTerm_O out_2))])
theorem laws_toTerm_all : (∀ p r, laws_toTerm p = some r → M_laws_toTerm p r) ∧ (∀ p r, laws_toTermS p = some r → M_laws_toTermS p r) ∧ (∀ p r, laws_toTermS_l0 p = some r → M_laws_toTermS_l0 p r) := by
  refine laws_toTerm.mutual_partial_correctness M_laws_toTerm M_laws_toTermS M_laws_toTermS_l0 ?_ ?_ ?_
  · rintro laws_toTermS_f laws_toTermS_ih a0 r h
    show FnSound Try.prog 25 [.agg [.int .i64 a0.fOp, .int .i64 a0.fN, .sl (List.map I a0.fType), .sl (List.map GTerm_S a0.fKids)]] (.agg [.int .i64 r.fOp, .int .i64 r.fN, .osl (List.map I r.fType), .osl (List.map GTerm_O r.fKids)]) []
    refine FnSound.body0 tiok (fn := Try.f25) (code := B25) (by kernel_rfl) (by kernel_rfl) (by kernel_rfl) (by kernel_rfl) (nt := 19) (by kernel_rfl) (by kernel_rfl) (T := [(0, .agg [.int .i64 a0.fOp, .int .i64 a0.fN, .sl (List.map I a0.fType), .sl (List.map GTerm_S a0.fKids)])]) (O := []) (by kernel_rfl) (by kernel_rfl) (fun c hc => ?_)
    refine Wp.seqN (by kernel_rfl) ?_
    refine Wp.reg tiok mix hc (by kernel_rfl) (ah := none) (rs := [some (.new 1), some (.new 2)]) (kt := [1, 2]) (ko := [1, 2]) (T' := [(1, .ra 1 0), (2, .ra 2 0)]) (O' := [(1, .box [.int .i64 a0.fOp, .int .i64 a0.fN, .sl (List.map I a0.fType), .sl (List.map GTerm_S a0.fKids)]), (2, .box [.int .i64 0, .int .i64 0, .nils, .nils])]) (by kernel_rfl) trivial (by kernel_rfl) (by kernel_rfl) ?_
    refine seqQ_norm ?_
    refine Wp.seqN (by kernel_rfl) ?_
    refine Wp.reg tiok mix hc (by kernel_rfl) (ah := none) (rs := [some (.new 3)]) (kt := [1, 2, 3]) (ko := [1, 2, 3]) (T' := [(1, .ra 1 0), (2, .ra 2 0), (3, .ra 3 0)]) (O' := [(1, .box [.int .i64 a0.fOp, .int .i64 a0.fN, .sl (List.map I a0.fType), .sl (List.map GTerm_S a0.fKids)]), (2, .box [.int .i64 0, .int .i64 0, .nils, .nils]), (3, .box [.int .i64 0, .int .i64 0, .nils, .nils])]) (by kernel_rfl) trivial (by kernel_rfl) (by kernel_rfl) ?_
    refine seqQ_norm ?_
    refine Wp.seqN (by kernel_rfl) ?_
    refine Wp.reg tiok mix hc (by kernel_rfl) (ah := none) (rs := [some (.no), some (.no), some (.no), some (.no)]) (kt := [1, 2, 3]) (ko := [1, 2, 3]) (T' := [(1, .ra 1 0), (2, .ra 2 0), (3, .ra 3 0)]) (O' := [(1, .box [.int .i64 a0.fOp, .int .i64 a0.fN, .sl (List.map I a0.fType), .sl (List.map GTerm_S a0.fKids)]), (2, .box [.int .i64 0, .int .i64 0, .nils, .nils]), (3, .box [.int .i64 a0.fOp, .int .i64 0, .nils, .nils])]) (by kernel_rfl) trivial (by kernel_rfl) (by kernel_rfl) ?_
    refine seqQ_norm ?_
    refine Wp.seqN (by kernel_rfl) ?_
    refine Wp.reg tiok mix hc (by kernel_rfl) (ah := none) (rs := [some (.no), some (.no), some (.no), some (.no)]) (kt := [1, 2, 3]) (ko := [1, 2, 3]) (T' := [(1, .ra 1 0), (2, .ra 2 0), (3, .ra 3 0)]) (O' := [(1, .box [.int .i64 a0.fOp, .int .i64 a0.fN, .sl (List.map I a0.fType), .sl (List.map GTerm_S a0.fKids)]), (2, .box [.int .i64 0, .int .i64 0, .nils, .nils]), (3, .box [.int .i64 a0.fOp, .int .i64 a0.fN, .nils, .nils])]) (by kernel_rfl) trivial (by kernel_rfl) (by kernel_rfl) ?_
    refine seqQ_norm ?_
    refine Wp.seqN (by kernel_rfl) ?_
    obtain ⟨r_4_2, hr_4_2, h⟩ := bsome h
    refine Wp.reg tiok mix hc (by kernel_rfl) (ah := none) (rs := [some (.no), some (.no), some (.call (.osl (List.map I r_4_2)) [] 4), some (.no), some (.no)]) (kt := [1, 2, 3]) (ko := [1, 2, 3, 4]) (T' := [(1, .ra 1 0), (2, .ra 2 0), (3, .ra 3 0)]) (O' := [(1, .box [.int .i64 a0.fOp, .int .i64 a0.fN, .sl (List.map I a0.fType), .sl (List.map GTerm_S a0.fKids)]), (2, .box [.int .i64 0, .int .i64 0, .nils, .nils]), (3, .box [.int .i64 a0.fOp, .int .i64 a0.fN, .rs 4, .nils]), (4, .arr (List.map I r_4_2))]) (by kernel_rfl) (And.intro (laws_toIntS_s _ _ hr_4_2) (And.intro bod_14 (And.intro (Or.inl rfl : ([] : List Nat) = [] ∨ noSh (.osl (List.map I r_4_2)) = true) trivial))) (by kernel_rfl) (by kernel_rfl) ?_
    refine seqQ_norm ?_
    refine Wp.seqN (by kernel_rfl) ?_
    obtain ⟨r_5_2, hr_5_2, h⟩ := bsome h
    refine Wp.reg tiok mix hc (by kernel_rfl) (ah := none) (rs := [some (.no), some (.no), some (.call (.osl (List.map GTerm_O r_5_2)) [] 5), some (.no), some (.no)]) (kt := [2, 3]) (ko := [2, 3, 4, 5]) (T' := [(2, .ra 2 0), (3, .ra 3 0)]) (O' := [(2, .box [.int .i64 0, .int .i64 0, .nils, .nils]), (3, .box [.int .i64 a0.fOp, .int .i64 a0.fN, .rs 4, .rs 5]), (4, .arr (List.map I r_4_2)), (5, .arr (List.map GTerm_O r_5_2))]) (by kernel_rfl) (And.intro (laws_toTermS_ih _ _ hr_5_2) (And.intro bod_59 (And.intro (Or.inl rfl : ([] : List Nat) = [] ∨ noSh (.osl (List.map GTerm_O r_5_2)) = true) trivial))) (by kernel_rfl) (by kernel_rfl) ?_
    refine seqQ_norm ?_
    refine Wp.seqN (by kernel_rfl) ?_
    refine Wp.reg tiok mix hc (by kernel_rfl) (ah := none) (rs := [some (.no), some (.no)]) (kt := [2]) (ko := [2, 4, 5]) (T' := [(2, .ra 2 0)]) (O' := [(2, .box [.int .i64 a0.fOp, .int .i64 a0.fN, .rs 4, .rs 5]), (4, .arr (List.map I r_4_2)), (5, .arr (List.map GTerm_O r_5_2))]) (by kernel_rfl) trivial (by kernel_rfl) (by kernel_rfl) ?_
    refine seqQ_norm ?_
    refine Wp.retN (by kernel_rfl) ?_
    obtain rfl := Option.some.inj h
    exact RetQ.ret (fl := [true]) (by kernel_rfl)
  · rintro laws_toTermS_l0_f laws_toTermS_l0_ih a0 r h
    show FnSound Try.prog 59 [.sl (List.map GTerm_S a0)] (.osl (List.map GTerm_O r)) []
    refine FnSound.body0 tiok (fn := Try.f59) (code := B59) (by kernel_rfl) (by kernel_rfl) (by kernel_rfl) (by kernel_rfl) (nt := 23) (by kernel_rfl) (by kernel_rfl) (T := [(0, .sl (List.map GTerm_S a0))]) (O := []) (by kernel_rfl) (by kernel_rfl) (fun c hc => ?_)
    refine Wp.seqN (by kernel_rfl) ?_
    refine Wp.reg tiok mix hc (by kernel_rfl) (ah := none) (rs := [some (.no)]) (kt := [0]) (ko := []) (T' := [(0, .sl (List.map GTerm_S a0))]) (O' := []) (by kernel_rfl) trivial (by kernel_rfl) (by kernel_rfl) ?_
    refine seqQ_norm ?_
    refine Wp.seqN (by kernel_rfl) ?_
    obtain ⟨_, hk_1_2, h⟩ := bsome h
    refine Wp.reg tiok mix hc (by kernel_rfl) (ah := none) (rs := [some (.no), some (.eqv (.no) ⟨[(6, .int .i64 (a0.length : Int))], [], []⟩), some (.eqv (.mk 1 true) ⟨[(7, .rs 1)], [(1, some (.arr (List.map GTerm_O (List.replicate (Int.toNat (a0.length : Int)) (GTerm.mk 0 0 [] [])))))], [1]⟩), some (.no)]) (kt := [0, 3]) (ko := [1]) (T' := [(0, .sl (List.map GTerm_S a0)), (3, .rs 1)]) (O' := [(1, .arr (List.map GTerm_O (List.replicate (Int.toNat (a0.length : Int)) (GTerm.mk 0 0 [] []))))]) (by kernel_rfl) (And.intro (lenT (d := 6) GTerm_S a0) (And.intro (congrArg (fun z => (⟨[(7, .rs 1)], [(1, some (.arr z))], [1]⟩ : Wr)) (rep_row (enc := GTerm_O) (n := Int.toNat (a0.length : Int)) (x := AV.agg [.int .i64 ((GTerm.mk 0 0 [] []).fOp), .int .i64 ((GTerm.mk 0 0 [] []).fN), .osl (List.map I ((GTerm.mk 0 0 [] []).fType)), .osl (List.map GTerm_O ((GTerm.mk 0 0 [] []).fKids))]) (eq_GTerm_O (GTerm.mk 0 0 [] [])))) (And.intro (And.intro (Eq.refl (a0.length : Int)) (chk_of hk_1_2)) trivial))) (by kernel_rfl) (by kernel_rfl) ?_
    refine seqQ_norm ?_
    refine Wp.seqN (by kernel_rfl) ?_
    refine Wp.seqN (by kernel_rfl) ?_
    refine Wp.reg tiok mix hc (by kernel_rfl) (ah := none) (rs := [some (.no)]) (kt := [0, 3, 4]) (ko := [1]) (T' := [(0, .sl (List.map GTerm_S a0)), (3, .rs 1), (4, .int .i64 0)]) (O' := [(1, .arr (List.map GTerm_O (List.replicate (Int.toNat (a0.length : Int)) (GTerm.mk 0 0 [] []))))]) (by kernel_rfl) trivial (by kernel_rfl) (by kernel_rfl) ?_
    refine seqQ_norm ?_
    refine Wp.blockN (i := 0) (by kernel_rfl) ?_
    obtain ⟨out_5, hl_6, h⟩ := bsome h
    have hL := laws_toTermS_l0_ih _ _ hl_6 c hc
    refine Wp.loopN (by kernel_rfl) ?_
    · refine WpL.into (e := (.exit 0)) (mkS [(3, .rs 1)] [(1, .arr (List.map GTerm_O out_5))]) hL ?_
      refine blockQ_hit ?_
      refine seqQ_norm ?_
      refine Wp.seqN (by kernel_rfl) ?_
      refine Wp.reg tiok mix hc (by kernel_rfl) (ah := none) (rs := [some (.no), some (.no)]) (kt := [2]) (ko := [1]) (T' := [(2, .rs 1)]) (O' := [(1, .arr (List.map GTerm_O out_5))]) (by kernel_rfl) trivial (by kernel_rfl) (by kernel_rfl) ?_
      refine seqQ_norm ?_
      refine Wp.retN (by kernel_rfl) ?_
      obtain rfl := Option.some.inj h
      exact RetQ.ret (fl := [true]) (by kernel_rfl)
  · rintro laws_toTerm_f laws_toTermS_l0_f laws_toTerm_ih laws_toTermS_l0_ih ⟨a0, out_2, i_3⟩ r h
    intro c hc
    show WpL Try.prog c (cl (cl (cr (cl (cr (cr B59)))))) (laws_toTermS_F1 c r) (mkS [(0, .sl (List.map GTerm_S a0)), (3, .rs 1), (4, .int .i64 i_3)] [(1, .arr (List.map GTerm_O out_2))])
    refine WpL.step ?_
    refine Wp.seqN (by kernel_rfl) ?_
    refine Wp.seqN (by kernel_rfl) ?_
    refine Wp.reg tiok mix hc (by kernel_rfl) (ah := none) (rs := [some (.no), some (.no), some (.eqv (.no) ⟨[(10, .int .i64 (a0.length : Int))], [], []⟩), some (.no)]) (kt := [0, 3, 4, 11]) (ko := [1]) (T' := [(0, .sl (List.map GTerm_S a0)), (3, .rs 1), (4, .int .i64 i_3), (11, .bool (decide (i_3 < (a0.length : Int))))]) (O' := [(1, .arr (List.map GTerm_O out_2))]) (by kernel_rfl) (And.intro (lenT (d := 10) GTerm_S a0) trivial) (by kernel_rfl) (by kernel_rfl) ?_
    refine seqQ_norm ?_
    rcases itesome h with ⟨hb_4, h⟩ | ⟨hb_4, h⟩
    · refine Wp.condT (b := (decide (i_3 < (a0.length : Int)))) (by kernel_rfl) (by kernel_rfl) hb_4 ?_
      refine Wp.skipN (by kernel_rfl) ?_
      refine seqQ_norm ?_
      refine Wp.seqN (by kernel_rfl) ?_
      refine Wp.blockN (i := 1) (by kernel_rfl) ?_
      obtain ⟨e_5_4, hi_5_4, h⟩ := bsome h
      obtain ⟨r_5_6, hr_5_6, h⟩ := bsome h
      obtain ⟨e_5_7, hi_5_7, h⟩ := bsome h
      refine Wp.reg tiok mix hc (by kernel_rfl) (ah := none) (rs := [some (.no), some (.no), some (.no), some (.no), some (.el (.agg [.int .i64 e_5_4.fOp, .int .i64 e_5_4.fN, .sl (List.map I e_5_4.fType), .sl (List.map GTerm_S e_5_4.fKids)])), some (.no), some (.call (.agg [.int .i64 r_5_6.fOp, .int .i64 r_5_6.fN, .osl (List.map I r_5_6.fType), .osl (List.map GTerm_O r_5_6.fKids)]) [] 4), some (.no), some (.eqv (.mk 0 true) ⟨[], [(1, some (.arr (List.map GTerm_O (List.set out_2 (Int.toNat i_3) r_5_6)))), (4, none), (5, none)], []⟩)]) (kt := [0, 3, 4]) (ko := [1]) (T' := [(0, .sl (List.map GTerm_S a0)), (3, .rs 1), (4, .int .i64 i_3)]) (O' := [(1, .arr (List.map GTerm_O (List.set out_2 (Int.toNat i_3) r_5_6)))]) (by kernel_rfl) (And.intro (idx_sl (enc := GTerm_S) (x := .agg [.int .i64 e_5_4.fOp, .int .i64 e_5_4.fN, .sl (List.map I e_5_4.fType), .sl (List.map GTerm_S e_5_4.fKids)]) hi_5_4 (eq_GTerm_S e_5_4)) (And.intro (laws_toTerm_ih _ _ hr_5_6) (And.intro bod_25 (And.intro (Or.inl rfl : ([] : List Nat) = [] ∨ noSh (.agg [.int .i64 r_5_6.fOp, .int .i64 r_5_6.fN, .osl (List.map I r_5_6.fType), .osl (List.map GTerm_O r_5_6.fKids)]) = true) (And.intro (idx_own (enc := GTerm_O) hi_5_7) (And.intro (congrArg (fun z => (⟨[], [(1, some (.arr z)), (4, none), (5, none)], []⟩ : Wr)) (set_row (enc := GTerm_O) (i := Int.toNat i_3) (l := out_2) (v := r_5_6) (x := AV.agg [.int .i64 r_5_6.fOp, .int .i64 r_5_6.fN, AV.osl (List.map I r_5_6.fType), AV.osl (List.map GTerm_O r_5_6.fKids)]) (eq_GTerm_O r_5_6))) (And.intro (own_set (enc := GTerm_O) (sz := 4) sz_GTerm_O hi_5_7) trivial))))))) (by kernel_rfl) (by kernel_rfl) ?_
      refine blockQ_norm ?_
      refine seqQ_norm ?_
      refine Wp.reg tiok mix hc (by kernel_rfl) (ah := none) (rs := [some (.no), some (.no), some (.no)]) (kt := [0, 3, 4]) (ko := [1]) (T' := [(0, .sl (List.map GTerm_S a0)), (3, .rs 1), (4, .int .i64 (wr (i_3 + 1)))]) (O' := [(1, .arr (List.map GTerm_O (List.set out_2 (Int.toNat i_3) r_5_6)))]) (by kernel_rfl) trivial (by kernel_rfl) (by kernel_rfl) ?_
      refine loopQ_norm ?_
      exact (laws_toTermS_l0_ih _ _ h c hc)
    · refine Wp.condF (b := (decide (i_3 < (a0.length : Int)))) (by kernel_rfl) (by kernel_rfl) hb_4 ?_
      refine Wp.exitN (i := 0) (by kernel_rfl) ?_
      refine seqQ_exit ?_
      refine loopQ_exit ?_
      obtain rfl := Option.some.inj h
      exact Into.view (fun a w hv => SRx.renL [] hv (by kernel_rfl) (by kernel_rfl) (by kernel_rfl))
theorem laws_toTerm_s : ∀ p r, laws_toTerm p = some r → M_laws_toTerm p r := laws_toTerm_all.1
theorem laws_toTermS_s : ∀ p r, laws_toTermS p = some r → M_laws_toTermS p r := laws_toTerm_all.2.1
theorem laws_toTermS_l0_s : ∀ p r, laws_toTermS_l0 p = some r → M_laws_toTermS_l0 p r := laws_toTerm_all.2.2
def spec_l1In (p : Int × Int × Int) : Option (Bool) :=
  match p with
  | (n0, low1, high2) =>
    (
      if (decide (n0 ≥ low1)) = true then
        some ((decide (n0 ≤ high2)))
      else
        some (false)
    ) >>= fun v_1 =>
    some v_1
def M_spec_l1In (p : Int × Int × Int) (r : Bool) : Prop :=
  match p with
  | (n0, low1, high2) => FnSound Try.prog 57 [.int .i64 n0, .int .i64 low1, .int .i64 high2] (.bool r) []
theorem spec_l1In_s : ∀ p r, spec_l1In p = some r → M_spec_l1In p r := by
  rintro ⟨n0, low1, high2⟩ r h
  unfold spec_l1In at h
  show FnSound Try.prog 57 [.int .i64 n0, .int .i64 low1, .int .i64 high2] (.bool r) []
  refine FnSound.body0 tiok (fn := Try.f57) (code := B57) (by kernel_rfl) (by kernel_rfl) (by kernel_rfl) (by kernel_rfl) (nt := 15) (by kernel_rfl) (by kernel_rfl) (T := [(0, .int .i64 n0), (1, .int .i64 low1), (2, .int .i64 high2)]) (O := []) (by kernel_rfl) (by kernel_rfl) (fun c hc => ?_)
  refine Wp.seqN (by kernel_rfl) ?_
  refine Wp.reg tiok mix hc (by kernel_rfl) (ah := none) (rs := [some (.no)]) (kt := [0, 1, 2]) (ko := []) (T' := [(0, .int .i64 n0), (1, .int .i64 low1), (2, .int .i64 high2)]) (O' := []) (by kernel_rfl) trivial (by kernel_rfl) (by kernel_rfl) ?_
  refine seqQ_norm ?_
  refine Wp.seqN (by kernel_rfl) ?_
  obtain ⟨v_1, hj_2, h⟩ := bsome h
  refine Wp.into (x := .normal) (mkS [(6, .bool v_1)] []) ?_ ?_
  · replace h := hj_2
    rcases itesome h with ⟨hb_1_0, h⟩ | ⟨hb_1_0, h⟩
    · refine Wp.reg tiok mix hc (by kernel_rfl) (ah := none) (rs := [some (.no), some (.no), some (.no), some (.no), some (.no), some (.no), some (.no), some (.cond true), some (.no)]) (kt := [6]) (ko := []) (T' := [(6, .bool (decide (n0 ≤ high2)))]) (O' := []) (by kernel_rfl) (And.intro hb_1_0 (And.intro hb_1_0 (And.intro hb_1_0 (And.intro hb_1_0 trivial)))) (by kernel_rfl) (by kernel_rfl) ?_
      obtain rfl := Option.some.inj h
      exact Into.mk
    · refine Wp.reg tiok mix hc (by kernel_rfl) (ah := none) (rs := [some (.no), some (.no), some (.no), some (.no), none, none, none, some (.cond false), some (.no)]) (kt := [6]) (ko := []) (T' := [(6, .bool false)]) (O' := []) (by kernel_rfl) (And.intro (neT hb_1_0 : (decide (n0 ≥ low1)) ≠ true) (And.intro (neT hb_1_0 : (decide (n0 ≥ low1)) ≠ true) (And.intro (neT hb_1_0 : (decide (n0 ≥ low1)) ≠ true) (And.intro hb_1_0 trivial)))) (by kernel_rfl) (by kernel_rfl) ?_
      obtain rfl := Option.some.inj h
      exact Into.mk
  · clear hj_2
    refine seqQ_norm ?_
    refine Wp.retN (by kernel_rfl) ?_
    obtain rfl := Option.some.inj h
    exact RetQ.ret (fl := [true]) (by kernel_rfl)
def spec_l1Tables_F1 (c : Ctx) : (Unit) ⊕ (Bool) → Exit → AState → Prop
  | .inl _ => Into c (.exit 0) (mkS [] [])
  | .inr r => RetE TIx Try.f145 [] (.bool r)
def spec_l1Tables_l0 (p : GSystem × Int) : Option ((Unit) ⊕ (Bool)) :=
  match p with
  | (s0, i_8) =>
    if (decide (i_8 < (s0.fPlus.length : Int))) = true then
      (
        (idx s0.fPlus i_8) >>= fun e_6_3 =>
        (spec_l1In (e_6_3, 0, (wr (s0.fSize - 1)))) >>= fun r_6_8 =>
        if r_6_8 = true then
          (idx s0.fTimes i_8) >>= fun e_6_14 =>
          (spec_l1In (e_6_14, 0, (wr (s0.fSize - 1)))) >>= fun r_6_19 =>
          some ((!r_6_19))
        else
          some (true)
      ) >>= fun v_10 =>
      if v_10 = true then
        some (.inr false)
      else
        spec_l1Tables_l0 (s0, (wr (i_8 + 1)))
    else
      some (.inl ())
  partial_fixpoint
def M_spec_l1Tables_l0 (p : GSystem × Int) (fl : (Unit) ⊕ (Bool)) : Prop :=
  match p with
  | (s0, i_8) => ∀ c : Ctx, c.nt = 70 → WpL Try.prog c (cl (cl (cr (cl (cr (cr B145)))))) (spec_l1Tables_F1 c fl) (mkS [(1, .ra 1 0), (3, .int .i64 i_8)] [(1, .box [.int .i64 s0.fSize, .sl (List.map I s0.fPlus), .sl (List.map I s0.fTimes), .sl (List.map AV.bool s0.fBelow)])])
theorem spec_l1Tables_l0_s : ∀ p r, spec_l1Tables_l0 p = some r → M_spec_l1Tables_l0 p r := by
  refine spec_l1Tables_l0.partial_correctness M_spec_l1Tables_l0 ?_
  rintro spec_l1Tables_l0_f spec_l1Tables_l0_ih ⟨s0, i_8⟩ r h
  intro c hc
  show WpL Try.prog c (cl (cl (cr (cl (cr (cr B145)))))) (spec_l1Tables_F1 c r) (mkS [(1, .ra 1 0), (3, .int .i64 i_8)] [(1, .box [.int .i64 s0.fSize, .sl (List.map I s0.fPlus), .sl (List.map I s0.fTimes), .sl (List.map AV.bool s0.fBelow)])])
  refine WpL.step ?_
  refine Wp.seqN (by kernel_rfl) ?_
  refine Wp.seqN (by kernel_rfl) ?_
  refine Wp.reg tiok mix hc (by kernel_rfl) (ah := none) (rs := [some (.no), some (.no), some (.no), some (.eqv (.no) ⟨[(44, .int .i64 (s0.fPlus.length : Int))], [], []⟩), some (.no)]) (kt := [1, 3, 45]) (ko := [1]) (T' := [(1, .ra 1 0), (3, .int .i64 i_8), (45, .bool (decide (i_8 < (s0.fPlus.length : Int))))]) (O' := [(1, .box [.int .i64 s0.fSize, .sl (List.map I s0.fPlus), .sl (List.map I s0.fTimes), .sl (List.map AV.bool s0.fBelow)])]) (by kernel_rfl) (And.intro (lenT (d := 44) I s0.fPlus) trivial) (by kernel_rfl) (by kernel_rfl) ?_
  refine seqQ_norm ?_
  rcases itesome h with ⟨hb_9, h⟩ | ⟨hb_9, h⟩
  · refine Wp.condT (b := (decide (i_8 < (s0.fPlus.length : Int)))) (by kernel_rfl) (by kernel_rfl) hb_9 ?_
    refine Wp.skipN (by kernel_rfl) ?_
    refine seqQ_norm ?_
    refine Wp.seqN (by kernel_rfl) ?_
    refine Wp.blockN (i := 1) (by kernel_rfl) ?_
    refine Wp.seqN (by kernel_rfl) ?_
    obtain ⟨v_10, hj_11, h⟩ := bsome h
    refine Wp.into (x := .normal) (mkS [(1, .ra 1 0), (3, .int .i64 i_8), (69, .bool v_10)] [(1, .box [.int .i64 s0.fSize, .sl (List.map I s0.fPlus), .sl (List.map I s0.fTimes), .sl (List.map AV.bool s0.fBelow)])]) ?_ ?_
    · replace h := hj_11
      obtain ⟨e_6_3, hi_6_3, h⟩ := bsome h
      obtain ⟨r_6_8, hr_6_8, h⟩ := bsome h
      rcases itesome h with ⟨hb_6_0, h⟩ | ⟨hb_6_0, h⟩
      · obtain ⟨e_6_14, hi_6_14, h⟩ := bsome h
        obtain ⟨r_6_19, hr_6_19, h⟩ := bsome h
        refine Wp.reg tiok mix hc (by kernel_rfl) (ah := (some [[], [0], [], [0, 1, 2], [0, 1, 2, 3], [], [5], [5, 6], [0, 1, 2, 3, 4, 5, 6, 7], [0, 1, 2, 3, 4, 5, 6, 7, 8], [0, 1, 2, 3, 4, 5, 6, 7, 8, 9], [0, 1, 2, 3, 4, 5, 6, 7, 8, 9, 10], [0, 1, 2, 3, 4, 5, 6, 7, 8, 9, 10, 11], [0, 1, 2, 3, 4, 5, 6, 7, 8, 9, 10], [0, 1, 2, 3, 4, 5, 6, 7, 8, 9, 10, 11, 12, 13], [0, 1, 2, 3, 4, 5, 6, 7, 8, 9, 10, 11, 12, 13, 14], [0, 1, 2, 3, 4, 5, 6, 7, 8, 9, 10], [0, 1, 2, 3, 4, 5, 6, 7, 8, 9, 10, 16], [0, 1, 2, 3, 4, 5, 6, 7, 8, 9, 10, 16, 17], [0, 1, 2, 3, 4, 5, 6, 7, 8, 9, 10, 11, 12, 13, 14, 15, 16, 17, 18], [0, 1, 2, 3, 4, 5, 6, 7, 8, 9, 10, 11, 12, 13, 14, 15, 16, 17, 18, 19], [0, 1, 2, 3, 4, 5, 6, 7, 8, 9, 10, 11, 12, 13, 14, 15, 16, 17, 18, 19, 20]])) (rs := [some (.no), some (.no), some (.no), some (.el (.int .i64 e_6_3)), some (.no), some (.no), some (.no), some (.no), some (.call (.bool r_6_8) [] 1), some (.no), some (.no), some (.no), some (.no), some (.no), some (.el (.int .i64 e_6_14)), some (.no), some (.no), some (.no), some (.no), some (.call (.bool r_6_19) [] 1), some (.no), some (.cond false)]) (kt := [1, 3, 69]) (ko := [1]) (T' := [(1, .ra 1 0), (3, .int .i64 i_8), (69, .bool (!r_6_19))]) (O' := [(1, .box [.int .i64 s0.fSize, .sl (List.map I s0.fPlus), .sl (List.map I s0.fTimes), .sl (List.map AV.bool s0.fBelow)])]) (by kernel_rfl) (And.intro (idx_sl (enc := I) (x := .int .i64 e_6_3) hi_6_3 (eq_I e_6_3)) (And.intro (spec_l1In_s _ _ hr_6_8) (And.intro bod_57 (And.intro (Or.inl rfl : ([] : List Nat) = [] ∨ noSh (.bool r_6_8) = true) (And.intro (nF hb_6_0) (And.intro (nF hb_6_0) (And.intro (nF hb_6_0) (And.intro (nF hb_6_0) (And.intro (idx_sl (enc := I) (x := .int .i64 e_6_14) hi_6_14 (eq_I e_6_14)) (And.intro (nF hb_6_0) (And.intro (nF hb_6_0) (And.intro (nF hb_6_0) (And.intro (nF hb_6_0) (And.intro (nF hb_6_0) (And.intro (spec_l1In_s _ _ hr_6_19) (And.intro bod_57 (And.intro (Or.inl rfl : ([] : List Nat) = [] ∨ noSh (.bool r_6_19) = true) (And.intro (nF hb_6_0) (And.intro (nF hb_6_0) trivial))))))))))))))))))) (by kernel_rfl) (by kernel_rfl) ?_
        obtain rfl := Option.some.inj h
        exact Into.mk
      · refine Wp.reg tiok mix hc (by kernel_rfl) (ah := (some [[], [0], [], [0, 1, 2], [0, 1, 2, 3], [], [5], [5, 6], [0, 1, 2, 3, 4, 5, 6, 7], [0, 1, 2, 3, 4, 5, 6, 7, 8], [0, 1, 2, 3, 4, 5, 6, 7, 8, 9], [0, 1, 2, 3, 4, 5, 6, 7, 8, 9, 10], [0, 1, 2, 3, 4, 5, 6, 7, 8, 9, 10, 11], [0, 1, 2, 3, 4, 5, 6, 7, 8, 9, 10], [0, 1, 2, 3, 4, 5, 6, 7, 8, 9, 10, 11, 12, 13], [0, 1, 2, 3, 4, 5, 6, 7, 8, 9, 10, 11, 12, 13, 14], [0, 1, 2, 3, 4, 5, 6, 7, 8, 9, 10], [0, 1, 2, 3, 4, 5, 6, 7, 8, 9, 10, 16], [0, 1, 2, 3, 4, 5, 6, 7, 8, 9, 10, 16, 17], [0, 1, 2, 3, 4, 5, 6, 7, 8, 9, 10, 11, 12, 13, 14, 15, 16, 17, 18], [0, 1, 2, 3, 4, 5, 6, 7, 8, 9, 10, 11, 12, 13, 14, 15, 16, 17, 18, 19], [0, 1, 2, 3, 4, 5, 6, 7, 8, 9, 10, 11, 12, 13, 14, 15, 16, 17, 18, 19, 20]])) (rs := [some (.no), some (.no), some (.no), some (.el (.int .i64 e_6_3)), some (.no), some (.no), some (.no), some (.no), some (.call (.bool r_6_8) [] 1), some (.no), some (.no), none, none, none, none, none, none, none, none, none, none, some (.cond true)]) (kt := [1, 3, 69]) (ko := [1]) (T' := [(1, .ra 1 0), (3, .int .i64 i_8), (69, .bool true)]) (O' := [(1, .box [.int .i64 s0.fSize, .sl (List.map I s0.fPlus), .sl (List.map I s0.fTimes), .sl (List.map AV.bool s0.fBelow)])]) (by kernel_rfl) (And.intro (idx_sl (enc := I) (x := .int .i64 e_6_3) hi_6_3 (eq_I e_6_3)) (And.intro (spec_l1In_s _ _ hr_6_8) (And.intro bod_57 (And.intro (Or.inl rfl : ([] : List Nat) = [] ∨ noSh (.bool r_6_8) = true) (And.intro (neF (nT hb_6_0) : (!r_6_8) ≠ false) (And.intro (neF (nT hb_6_0) : (!r_6_8) ≠ false) (And.intro (neF (nT hb_6_0) : (!r_6_8) ≠ false) (And.intro (neF (nT hb_6_0) : (!r_6_8) ≠ false) (And.intro (neF (nT hb_6_0) : (!r_6_8) ≠ false) (And.intro (neF (nT hb_6_0) : (!r_6_8) ≠ false) (And.intro (neF (nT hb_6_0) : (!r_6_8) ≠ false) (And.intro (neF (nT hb_6_0) : (!r_6_8) ≠ false) (And.intro (neF (nT hb_6_0) : (!r_6_8) ≠ false) (And.intro (neF (nT hb_6_0) : (!r_6_8) ≠ false) (And.intro (nT hb_6_0) trivial))))))))))))))) (by kernel_rfl) (by kernel_rfl) ?_
        obtain rfl := Option.some.inj h
        exact Into.mk
    · clear hj_11
      refine seqQ_norm ?_
      rcases itesome h with ⟨hb_12, h⟩ | ⟨hb_12, h⟩
      · refine Wp.condT (b := v_10) (by kernel_rfl) (by kernel_rfl) hb_12 ?_
        refine Wp.seqN (by kernel_rfl) ?_
        refine Wp.reg tiok mix hc (by kernel_rfl) (ah := none) (rs := [some (.no)]) (kt := [2]) (ko := []) (T' := [(2, .bool false)]) (O' := []) (by kernel_rfl) trivial (by kernel_rfl) (by kernel_rfl) ?_
        refine seqQ_norm ?_
        refine Wp.retN (by kernel_rfl) ?_
        refine blockQ_ret ?_
        refine seqQ_ret ?_
        refine loopQ_ret ?_
        obtain rfl := Option.some.inj h
        exact RetE.ret (fl := [true]) (by kernel_rfl)
      · refine Wp.condF (b := v_10) (by kernel_rfl) (by kernel_rfl) hb_12 ?_
        refine Wp.skipN (by kernel_rfl) ?_
        refine blockQ_norm ?_
        refine seqQ_norm ?_
        refine Wp.reg tiok mix hc (by kernel_rfl) (ah := none) (rs := [some (.no), some (.no), some (.no)]) (kt := [1, 3]) (ko := [1]) (T' := [(1, .ra 1 0), (3, .int .i64 (wr (i_8 + 1)))]) (O' := [(1, .box [.int .i64 s0.fSize, .sl (List.map I s0.fPlus), .sl (List.map I s0.fTimes), .sl (List.map AV.bool s0.fBelow)])]) (by kernel_rfl) trivial (by kernel_rfl) (by kernel_rfl) ?_
        refine loopQ_norm ?_
        exact (spec_l1Tables_l0_ih _ _ h c hc)
  · refine Wp.condF (b := (decide (i_8 < (s0.fPlus.length : Int)))) (by kernel_rfl) (by kernel_rfl) hb_9 ?_
    refine Wp.exitN (i := 0) (by kernel_rfl) ?_
    refine seqQ_exit ?_
    refine loopQ_exit ?_
    obtain rfl := Option.some.inj h
    exact Into.view (fun a w hv => SRx.renL [] hv (by kernel_rfl) (by kernel_rfl) (by kernel_rfl))
def spec_l1Tables (s0 : GSystem) : Option (Bool) :=
    (
      (spec_l1In (s0.fSize, 2, 16)) >>= fun r_1_2 =>
      if r_1_2 = true then
        if ((s0.fPlus.length : Int) != (wr (s0.fSize * s0.fSize))) = true then
          some (true)
        else
          if ((s0.fTimes.length : Int) != (wr (s0.fSize * s0.fSize))) = true then
            some (true)
          else
            some (((s0.fBelow.length : Int) != (wr (s0.fSize * s0.fSize))))
      else
        some (true)
    ) >>= fun v_1 =>
    if v_1 = true then
      some false
    else
      (spec_l1Tables_l0 (s0, 0)) >>= fun fl => match fl with
      | .inl () =>
        some true
      | .inr r =>
        some r
def M_spec_l1Tables (s0 : GSystem) (r : Bool) : Prop :=
  FnSound Try.prog 145 [.agg [.int .i64 s0.fSize, .sl (List.map I s0.fPlus), .sl (List.map I s0.fTimes), .sl (List.map AV.bool s0.fBelow)]] (.bool r) []
theorem spec_l1Tables_s : ∀ p r, spec_l1Tables p = some r → M_spec_l1Tables p r := by
  rintro s0 r h
  unfold spec_l1Tables at h
  show FnSound Try.prog 145 [.agg [.int .i64 s0.fSize, .sl (List.map I s0.fPlus), .sl (List.map I s0.fTimes), .sl (List.map AV.bool s0.fBelow)]] (.bool r) []
  refine FnSound.body0 tiok (fn := Try.f145) (code := B145) (by kernel_rfl) (by kernel_rfl) (by kernel_rfl) (by kernel_rfl) (nt := 70) (by kernel_rfl) (by kernel_rfl) (T := [(0, .agg [.int .i64 s0.fSize, .sl (List.map I s0.fPlus), .sl (List.map I s0.fTimes), .sl (List.map AV.bool s0.fBelow)])]) (O := []) (by kernel_rfl) (by kernel_rfl) (fun c hc => ?_)
  refine Wp.seqN (by kernel_rfl) ?_
  refine Wp.reg tiok mix hc (by kernel_rfl) (ah := none) (rs := [some (.new 1), some (.no)]) (kt := [1]) (ko := [1]) (T' := [(1, .ra 1 0)]) (O' := [(1, .box [.int .i64 s0.fSize, .sl (List.map I s0.fPlus), .sl (List.map I s0.fTimes), .sl (List.map AV.bool s0.fBelow)])]) (by kernel_rfl) trivial (by kernel_rfl) (by kernel_rfl) ?_
  refine seqQ_norm ?_
  refine Wp.seqN (by kernel_rfl) ?_
  refine Wp.seqN (by kernel_rfl) ?_
  obtain ⟨v_1, hj_2, h⟩ := bsome h
  refine Wp.into (x := .normal) (mkS [(1, .ra 1 0), (40, .bool v_1)] [(1, .box [.int .i64 s0.fSize, .sl (List.map I s0.fPlus), .sl (List.map I s0.fTimes), .sl (List.map AV.bool s0.fBelow)])]) ?_ ?_
  · replace h := hj_2
    obtain ⟨r_1_2, hr_1_2, h⟩ := bsome h
    rcases itesome h with ⟨hb_1_0, h⟩ | ⟨hb_1_0, h⟩
    · rcases itesome h with ⟨hb_1_1, h⟩ | ⟨hb_1_1, h⟩
      · refine Wp.reg tiok mix hc (by kernel_rfl) (ah := none) (rs := [some (.no), some (.no), some (.call (.bool r_1_2) [] 1), some (.no), some (.no), some (.no), some (.no), some (.eqv (.no) ⟨[(11, .int .i64 (s0.fPlus.length : Int))], [], []⟩), some (.no), some (.no), some (.no), some (.no), some (.no), some (.no), some (.cond false), some (.no), none, none, none, none, none, none, none, none, none, some (.cond true), some (.no), none, none, none, none, none, none, none, none, none, some (.cond true)]) (kt := [1, 40]) (ko := [1]) (T' := [(1, .ra 1 0), (40, .bool true)]) (O' := [(1, .box [.int .i64 s0.fSize, .sl (List.map I s0.fPlus), .sl (List.map I s0.fTimes), .sl (List.map AV.bool s0.fBelow)])]) (by kernel_rfl) (And.intro (spec_l1In_s _ _ hr_1_2) (And.intro bod_57 (And.intro (Or.inl rfl : ([] : List Nat) = [] ∨ noSh (.bool r_1_2) = true) (And.intro (nF hb_1_0) (And.intro (nF hb_1_0) (And.intro (nF hb_1_0) (And.intro (lenT (d := 11) I s0.fPlus) (And.intro (nF hb_1_0) (And.intro (nF hb_1_0) (And.intro (nF hb_1_0) (And.intro (nF hb_1_0) (And.intro (nF hb_1_0) (And.intro (nF hb_1_0) (And.intro (nF hb_1_0) (And.intro (neF hb_1_1 : ((s0.fPlus.length : Int) != (wr (s0.fSize * s0.fSize))) ≠ false) (And.intro (neF hb_1_1 : ((s0.fPlus.length : Int) != (wr (s0.fSize * s0.fSize))) ≠ false) (And.intro (neF hb_1_1 : ((s0.fPlus.length : Int) != (wr (s0.fSize * s0.fSize))) ≠ false) (And.intro (neF hb_1_1 : ((s0.fPlus.length : Int) != (wr (s0.fSize * s0.fSize))) ≠ false) (And.intro (neF hb_1_1 : ((s0.fPlus.length : Int) != (wr (s0.fSize * s0.fSize))) ≠ false) (And.intro (neF hb_1_1 : ((s0.fPlus.length : Int) != (wr (s0.fSize * s0.fSize))) ≠ false) (And.intro (neF hb_1_1 : ((s0.fPlus.length : Int) != (wr (s0.fSize * s0.fSize))) ≠ false) (And.intro (neF hb_1_1 : ((s0.fPlus.length : Int) != (wr (s0.fSize * s0.fSize))) ≠ false) (And.intro (neF hb_1_1 : ((s0.fPlus.length : Int) != (wr (s0.fSize * s0.fSize))) ≠ false) (And.intro hb_1_1 (And.intro (neF (rfl : true = true) : true ≠ false) (And.intro (neF (rfl : true = true) : true ≠ false) (And.intro (neF (rfl : true = true) : true ≠ false) (And.intro (neF (rfl : true = true) : true ≠ false) (And.intro (neF (rfl : true = true) : true ≠ false) (And.intro (neF (rfl : true = true) : true ≠ false) (And.intro (neF (rfl : true = true) : true ≠ false) (And.intro (neF (rfl : true = true) : true ≠ false) (And.intro (neF (rfl : true = true) : true ≠ false) (And.intro (rfl : true = true) trivial)))))))))))))))))))))))))))))))))) (by kernel_rfl) (by kernel_rfl) ?_
        obtain rfl := Option.some.inj h
        exact Into.mk
      · rcases itesome h with ⟨hb_1_2, h⟩ | ⟨hb_1_2, h⟩
        · refine Wp.reg tiok mix hc (by kernel_rfl) (ah := none) (rs := [some (.no), some (.no), some (.call (.bool r_1_2) [] 1), some (.no), some (.no), some (.no), some (.no), some (.eqv (.no) ⟨[(11, .int .i64 (s0.fPlus.length : Int))], [], []⟩), some (.no), some (.no), some (.no), some (.no), some (.no), some (.no), some (.cond false), some (.no), some (.no), some (.no), some (.eqv (.no) ⟨[(22, .int .i64 (s0.fTimes.length : Int))], [], []⟩), some (.no), some (.no), some (.no), some (.no), some (.no), some (.no), some (.cond false), some (.no), none, none, none, none, none, none, none, none, none, some (.cond true)]) (kt := [1, 40]) (ko := [1]) (T' := [(1, .ra 1 0), (40, .bool true)]) (O' := [(1, .box [.int .i64 s0.fSize, .sl (List.map I s0.fPlus), .sl (List.map I s0.fTimes), .sl (List.map AV.bool s0.fBelow)])]) (by kernel_rfl) (And.intro (spec_l1In_s _ _ hr_1_2) (And.intro bod_57 (And.intro (Or.inl rfl : ([] : List Nat) = [] ∨ noSh (.bool r_1_2) = true) (And.intro (nF hb_1_0) (And.intro (nF hb_1_0) (And.intro (nF hb_1_0) (And.intro (lenT (d := 11) I s0.fPlus) (And.intro (nF hb_1_0) (And.intro (nF hb_1_0) (And.intro (nF hb_1_0) (And.intro (nF hb_1_0) (And.intro (nF hb_1_0) (And.intro (nF hb_1_0) (And.intro (nF hb_1_0) (And.intro hb_1_1 (And.intro hb_1_1 (And.intro hb_1_1 (And.intro (lenT (d := 22) I s0.fTimes) (And.intro hb_1_1 (And.intro hb_1_1 (And.intro hb_1_1 (And.intro hb_1_1 (And.intro hb_1_1 (And.intro hb_1_1 (And.intro hb_1_1 (And.intro (neF hb_1_2 : ((s0.fTimes.length : Int) != (wr (s0.fSize * s0.fSize))) ≠ false) (And.intro (neF hb_1_2 : ((s0.fTimes.length : Int) != (wr (s0.fSize * s0.fSize))) ≠ false) (And.intro (neF hb_1_2 : ((s0.fTimes.length : Int) != (wr (s0.fSize * s0.fSize))) ≠ false) (And.intro (neF hb_1_2 : ((s0.fTimes.length : Int) != (wr (s0.fSize * s0.fSize))) ≠ false) (And.intro (neF hb_1_2 : ((s0.fTimes.length : Int) != (wr (s0.fSize * s0.fSize))) ≠ false) (And.intro (neF hb_1_2 : ((s0.fTimes.length : Int) != (wr (s0.fSize * s0.fSize))) ≠ false) (And.intro (neF hb_1_2 : ((s0.fTimes.length : Int) != (wr (s0.fSize * s0.fSize))) ≠ false) (And.intro (neF hb_1_2 : ((s0.fTimes.length : Int) != (wr (s0.fSize * s0.fSize))) ≠ false) (And.intro (neF hb_1_2 : ((s0.fTimes.length : Int) != (wr (s0.fSize * s0.fSize))) ≠ false) (And.intro hb_1_2 trivial))))))))))))))))))))))))))))))))))) (by kernel_rfl) (by kernel_rfl) ?_
          obtain rfl := Option.some.inj h
          exact Into.mk
        · refine Wp.reg tiok mix hc (by kernel_rfl) (ah := none) (rs := [some (.no), some (.no), some (.call (.bool r_1_2) [] 1), some (.no), some (.no), some (.no), some (.no), some (.eqv (.no) ⟨[(11, .int .i64 (s0.fPlus.length : Int))], [], []⟩), some (.no), some (.no), some (.no), some (.no), some (.no), some (.no), some (.cond false), some (.no), some (.no), some (.no), some (.eqv (.no) ⟨[(22, .int .i64 (s0.fTimes.length : Int))], [], []⟩), some (.no), some (.no), some (.no), some (.no), some (.no), some (.no), some (.cond false), some (.no), some (.no), some (.no), some (.eqv (.no) ⟨[(33, .int .i64 (s0.fBelow.length : Int))], [], []⟩), some (.no), some (.no), some (.no), some (.no), some (.no), some (.no), some (.cond false)]) (kt := [1, 40]) (ko := [1]) (T' := [(1, .ra 1 0), (40, .bool ((s0.fBelow.length : Int) != (wr (s0.fSize * s0.fSize))))]) (O' := [(1, .box [.int .i64 s0.fSize, .sl (List.map I s0.fPlus), .sl (List.map I s0.fTimes), .sl (List.map AV.bool s0.fBelow)])]) (by kernel_rfl) (And.intro (spec_l1In_s _ _ hr_1_2) (And.intro bod_57 (And.intro (Or.inl rfl : ([] : List Nat) = [] ∨ noSh (.bool r_1_2) = true) (And.intro (nF hb_1_0) (And.intro (nF hb_1_0) (And.intro (nF hb_1_0) (And.intro (lenT (d := 11) I s0.fPlus) (And.intro (nF hb_1_0) (And.intro (nF hb_1_0) (And.intro (nF hb_1_0) (And.intro (nF hb_1_0) (And.intro (nF hb_1_0) (And.intro (nF hb_1_0) (And.intro (nF hb_1_0) (And.intro hb_1_1 (And.intro hb_1_1 (And.intro hb_1_1 (And.intro (lenT (d := 22) I s0.fTimes) (And.intro hb_1_1 (And.intro hb_1_1 (And.intro hb_1_1 (And.intro hb_1_1 (And.intro hb_1_1 (And.intro hb_1_1 (And.intro hb_1_1 (And.intro hb_1_2 (And.intro hb_1_2 (And.intro hb_1_2 (And.intro (lenT (d := 33) AV.bool s0.fBelow) (And.intro hb_1_2 (And.intro hb_1_2 (And.intro hb_1_2 (And.intro hb_1_2 (And.intro hb_1_2 (And.intro hb_1_2 (And.intro hb_1_2 trivial)))))))))))))))))))))))))))))))))))) (by kernel_rfl) (by kernel_rfl) ?_
          obtain rfl := Option.some.inj h
          exact Into.mk
    · refine Wp.reg tiok mix hc (by kernel_rfl) (ah := none) (rs := [some (.no), some (.no), some (.call (.bool r_1_2) [] 1), some (.no), some (.no), none, none, none, none, none, none, none, none, none, some (.cond true), some (.no), none, none, none, none, none, none, none, none, none, some (.cond true), some (.no), none, none, none, none, none, none, none, none, none, some (.cond true)]) (kt := [1, 40]) (ko := [1]) (T' := [(1, .ra 1 0), (40, .bool true)]) (O' := [(1, .box [.int .i64 s0.fSize, .sl (List.map I s0.fPlus), .sl (List.map I s0.fTimes), .sl (List.map AV.bool s0.fBelow)])]) (by kernel_rfl) (And.intro (spec_l1In_s _ _ hr_1_2) (And.intro bod_57 (And.intro (Or.inl rfl : ([] : List Nat) = [] ∨ noSh (.bool r_1_2) = true) (And.intro (neF (nT hb_1_0) : (!r_1_2) ≠ false) (And.intro (neF (nT hb_1_0) : (!r_1_2) ≠ false) (And.intro (neF (nT hb_1_0) : (!r_1_2) ≠ false) (And.intro (neF (nT hb_1_0) : (!r_1_2) ≠ false) (And.intro (neF (nT hb_1_0) : (!r_1_2) ≠ false) (And.intro (neF (nT hb_1_0) : (!r_1_2) ≠ false) (And.intro (neF (nT hb_1_0) : (!r_1_2) ≠ false) (And.intro (neF (nT hb_1_0) : (!r_1_2) ≠ false) (And.intro (neF (nT hb_1_0) : (!r_1_2) ≠ false) (And.intro (nT hb_1_0) (And.intro (neF (rfl : true = true) : true ≠ false) (And.intro (neF (rfl : true = true) : true ≠ false) (And.intro (neF (rfl : true = true) : true ≠ false) (And.intro (neF (rfl : true = true) : true ≠ false) (And.intro (neF (rfl : true = true) : true ≠ false) (And.intro (neF (rfl : true = true) : true ≠ false) (And.intro (neF (rfl : true = true) : true ≠ false) (And.intro (neF (rfl : true = true) : true ≠ false) (And.intro (neF (rfl : true = true) : true ≠ false) (And.intro (rfl : true = true) (And.intro (neF (rfl : true = true) : true ≠ false) (And.intro (neF (rfl : true = true) : true ≠ false) (And.intro (neF (rfl : true = true) : true ≠ false) (And.intro (neF (rfl : true = true) : true ≠ false) (And.intro (neF (rfl : true = true) : true ≠ false) (And.intro (neF (rfl : true = true) : true ≠ false) (And.intro (neF (rfl : true = true) : true ≠ false) (And.intro (neF (rfl : true = true) : true ≠ false) (And.intro (neF (rfl : true = true) : true ≠ false) (And.intro (rfl : true = true) trivial))))))))))))))))))))))))))))))))) (by kernel_rfl) (by kernel_rfl) ?_
      obtain rfl := Option.some.inj h
      exact Into.mk
  · clear hj_2
    refine seqQ_norm ?_
    rcases itesome h with ⟨hb_3, h⟩ | ⟨hb_3, h⟩
    · refine Wp.condT (b := v_1) (by kernel_rfl) (by kernel_rfl) hb_3 ?_
      refine Wp.seqN (by kernel_rfl) ?_
      refine Wp.reg tiok mix hc (by kernel_rfl) (ah := none) (rs := [some (.no)]) (kt := [2]) (ko := []) (T' := [(2, .bool false)]) (O' := []) (by kernel_rfl) trivial (by kernel_rfl) (by kernel_rfl) ?_
      refine seqQ_norm ?_
      refine Wp.retN (by kernel_rfl) ?_
      refine seqQ_ret ?_
      obtain rfl := Option.some.inj h
      exact RetQ.ret (fl := [true]) (by kernel_rfl)
    · refine Wp.condF (b := v_1) (by kernel_rfl) (by kernel_rfl) hb_3 ?_
      refine Wp.skipN (by kernel_rfl) ?_
      refine seqQ_norm ?_
      refine Wp.seqN (by kernel_rfl) ?_
      refine Wp.seqN (by kernel_rfl) ?_
      refine Wp.reg tiok mix hc (by kernel_rfl) (ah := none) (rs := [some (.no)]) (kt := [1, 3]) (ko := [1]) (T' := [(1, .ra 1 0), (3, .int .i64 0)]) (O' := [(1, .box [.int .i64 s0.fSize, .sl (List.map I s0.fPlus), .sl (List.map I s0.fTimes), .sl (List.map AV.bool s0.fBelow)])]) (by kernel_rfl) trivial (by kernel_rfl) (by kernel_rfl) ?_
      refine seqQ_norm ?_
      refine Wp.blockN (i := 0) (by kernel_rfl) ?_
      obtain ⟨fl, hl_13, h⟩ := bsome h
      have hL := spec_l1Tables_l0_s _ _ hl_13 c hc
      refine Wp.loopN (by kernel_rfl) ?_
      rcases fl with ⟨⟩ | r
      · refine WpL.into (e := (.exit 0)) (mkS [] []) hL ?_
        refine blockQ_hit ?_
        refine seqQ_norm ?_
        refine Wp.seqN (by kernel_rfl) ?_
        refine Wp.reg tiok mix hc (by kernel_rfl) (ah := none) (rs := [some (.no)]) (kt := [2]) (ko := []) (T' := [(2, .bool true)]) (O' := []) (by kernel_rfl) trivial (by kernel_rfl) (by kernel_rfl) ?_
        refine seqQ_norm ?_
        refine Wp.retN (by kernel_rfl) ?_
        obtain rfl := Option.some.inj h
        exact RetQ.ret (fl := [true]) (by kernel_rfl)
      · refine WpL.mono hL ?_
        rintro _ _ ⟨rfl, hfin⟩
        refine blockQ_ret ?_
        refine seqQ_ret ?_
        obtain rfl := Option.some.inj h
        exact ⟨.inl rfl, hfin⟩
def spec_l1Add (p : GSystem × Int × Int) : Option (Int) :=
  match p with
  | (s0, a1, b2) =>
    (idx s0.fPlus (wr ((wr (a1 * s0.fSize)) + b2))) >>= fun e_1_8 =>
    some e_1_8
def M_spec_l1Add (p : GSystem × Int × Int) (r : Int) : Prop :=
  match p with
  | (s0, a1, b2) => FnSound Try.prog 153 [.agg [.int .i64 s0.fSize, .sl (List.map I s0.fPlus), .sl (List.map I s0.fTimes), .sl (List.map AV.bool s0.fBelow)], .int .i64 a1, .int .i64 b2] (.int .i64 r) []
theorem spec_l1Add_s : ∀ p r, spec_l1Add p = some r → M_spec_l1Add p r := by
  rintro ⟨s0, a1, b2⟩ r h
  unfold spec_l1Add at h
  show FnSound Try.prog 153 [.agg [.int .i64 s0.fSize, .sl (List.map I s0.fPlus), .sl (List.map I s0.fTimes), .sl (List.map AV.bool s0.fBelow)], .int .i64 a1, .int .i64 b2] (.int .i64 r) []
  refine FnSound.body0 tiok (fn := Try.f153) (code := B153) (by kernel_rfl) (by kernel_rfl) (by kernel_rfl) (by kernel_rfl) (nt := 17) (by kernel_rfl) (by kernel_rfl) (T := [(0, .agg [.int .i64 s0.fSize, .sl (List.map I s0.fPlus), .sl (List.map I s0.fTimes), .sl (List.map AV.bool s0.fBelow)]), (1, .int .i64 a1), (2, .int .i64 b2)]) (O := []) (by kernel_rfl) (by kernel_rfl) (fun c hc => ?_)
  refine Wp.seqN (by kernel_rfl) ?_
  refine Wp.reg tiok mix hc (by kernel_rfl) (ah := none) (rs := [some (.new 1), some (.no)]) (kt := [1, 2, 3]) (ko := [1]) (T' := [(1, .int .i64 a1), (2, .int .i64 b2), (3, .ra 1 0)]) (O' := [(1, .box [.int .i64 s0.fSize, .sl (List.map I s0.fPlus), .sl (List.map I s0.fTimes), .sl (List.map AV.bool s0.fBelow)])]) (by kernel_rfl) trivial (by kernel_rfl) (by kernel_rfl) ?_
  refine seqQ_norm ?_
  refine Wp.seqN (by kernel_rfl) ?_
  obtain ⟨e_1_8, hi_1_8, h⟩ := bsome h
  refine Wp.reg tiok mix hc (by kernel_rfl) (ah := none) (rs := [some (.no), some (.no), some (.no), some (.no), some (.no), some (.no), some (.no), some (.no), some (.el (.int .i64 e_1_8)), some (.no), some (.no)]) (kt := [6]) (ko := []) (T' := [(6, .int .i64 e_1_8)]) (O' := []) (by kernel_rfl) (And.intro (idx_sl (enc := I) (x := .int .i64 e_1_8) hi_1_8 (eq_I e_1_8)) trivial) (by kernel_rfl) (by kernel_rfl) ?_
  refine seqQ_norm ?_
  refine Wp.retN (by kernel_rfl) ?_
  obtain rfl := Option.some.inj h
  exact RetQ.ret (fl := [true]) (by kernel_rfl)
def spec_l1Mul (p : GSystem × Int × Int) : Option (Int) :=
  match p with
  | (s0, a1, b2) =>
    (idx s0.fTimes (wr ((wr (a1 * s0.fSize)) + b2))) >>= fun e_1_8 =>
    some e_1_8
def M_spec_l1Mul (p : GSystem × Int × Int) (r : Int) : Prop :=
  match p with
  | (s0, a1, b2) => FnSound Try.prog 154 [.agg [.int .i64 s0.fSize, .sl (List.map I s0.fPlus), .sl (List.map I s0.fTimes), .sl (List.map AV.bool s0.fBelow)], .int .i64 a1, .int .i64 b2] (.int .i64 r) []
theorem spec_l1Mul_s : ∀ p r, spec_l1Mul p = some r → M_spec_l1Mul p r := by
  rintro ⟨s0, a1, b2⟩ r h
  unfold spec_l1Mul at h
  show FnSound Try.prog 154 [.agg [.int .i64 s0.fSize, .sl (List.map I s0.fPlus), .sl (List.map I s0.fTimes), .sl (List.map AV.bool s0.fBelow)], .int .i64 a1, .int .i64 b2] (.int .i64 r) []
  refine FnSound.body0 tiok (fn := Try.f154) (code := B154) (by kernel_rfl) (by kernel_rfl) (by kernel_rfl) (by kernel_rfl) (nt := 17) (by kernel_rfl) (by kernel_rfl) (T := [(0, .agg [.int .i64 s0.fSize, .sl (List.map I s0.fPlus), .sl (List.map I s0.fTimes), .sl (List.map AV.bool s0.fBelow)]), (1, .int .i64 a1), (2, .int .i64 b2)]) (O := []) (by kernel_rfl) (by kernel_rfl) (fun c hc => ?_)
  refine Wp.seqN (by kernel_rfl) ?_
  refine Wp.reg tiok mix hc (by kernel_rfl) (ah := none) (rs := [some (.new 1), some (.no)]) (kt := [1, 2, 3]) (ko := [1]) (T' := [(1, .int .i64 a1), (2, .int .i64 b2), (3, .ra 1 0)]) (O' := [(1, .box [.int .i64 s0.fSize, .sl (List.map I s0.fPlus), .sl (List.map I s0.fTimes), .sl (List.map AV.bool s0.fBelow)])]) (by kernel_rfl) trivial (by kernel_rfl) (by kernel_rfl) ?_
  refine seqQ_norm ?_
  refine Wp.seqN (by kernel_rfl) ?_
  obtain ⟨e_1_8, hi_1_8, h⟩ := bsome h
  refine Wp.reg tiok mix hc (by kernel_rfl) (ah := none) (rs := [some (.no), some (.no), some (.no), some (.no), some (.no), some (.no), some (.no), some (.no), some (.el (.int .i64 e_1_8)), some (.no), some (.no)]) (kt := [6]) (ko := []) (T' := [(6, .int .i64 e_1_8)]) (O' := []) (by kernel_rfl) (And.intro (idx_sl (enc := I) (x := .int .i64 e_1_8) hi_1_8 (eq_I e_1_8)) trivial) (by kernel_rfl) (by kernel_rfl) ?_
  refine seqQ_norm ?_
  refine Wp.retN (by kernel_rfl) ?_
  obtain rfl := Option.some.inj h
  exact RetQ.ret (fl := [true]) (by kernel_rfl)
def spec_l1Le (p : GSystem × Int × Int) : Option (Bool) :=
  match p with
  | (s0, a1, b2) =>
    (idx s0.fBelow (wr ((wr (a1 * s0.fSize)) + b2))) >>= fun e_1_8 =>
    some e_1_8
def M_spec_l1Le (p : GSystem × Int × Int) (r : Bool) : Prop :=
  match p with
  | (s0, a1, b2) => FnSound Try.prog 155 [.agg [.int .i64 s0.fSize, .sl (List.map I s0.fPlus), .sl (List.map I s0.fTimes), .sl (List.map AV.bool s0.fBelow)], .int .i64 a1, .int .i64 b2] (.bool r) []
theorem spec_l1Le_s : ∀ p r, spec_l1Le p = some r → M_spec_l1Le p r := by
  rintro ⟨s0, a1, b2⟩ r h
  unfold spec_l1Le at h
  show FnSound Try.prog 155 [.agg [.int .i64 s0.fSize, .sl (List.map I s0.fPlus), .sl (List.map I s0.fTimes), .sl (List.map AV.bool s0.fBelow)], .int .i64 a1, .int .i64 b2] (.bool r) []
  refine FnSound.body0 tiok (fn := Try.f155) (code := B155) (by kernel_rfl) (by kernel_rfl) (by kernel_rfl) (by kernel_rfl) (nt := 17) (by kernel_rfl) (by kernel_rfl) (T := [(0, .agg [.int .i64 s0.fSize, .sl (List.map I s0.fPlus), .sl (List.map I s0.fTimes), .sl (List.map AV.bool s0.fBelow)]), (1, .int .i64 a1), (2, .int .i64 b2)]) (O := []) (by kernel_rfl) (by kernel_rfl) (fun c hc => ?_)
  refine Wp.seqN (by kernel_rfl) ?_
  refine Wp.reg tiok mix hc (by kernel_rfl) (ah := none) (rs := [some (.new 1), some (.no)]) (kt := [1, 2, 3]) (ko := [1]) (T' := [(1, .int .i64 a1), (2, .int .i64 b2), (3, .ra 1 0)]) (O' := [(1, .box [.int .i64 s0.fSize, .sl (List.map I s0.fPlus), .sl (List.map I s0.fTimes), .sl (List.map AV.bool s0.fBelow)])]) (by kernel_rfl) trivial (by kernel_rfl) (by kernel_rfl) ?_
  refine seqQ_norm ?_
  refine Wp.seqN (by kernel_rfl) ?_
  obtain ⟨e_1_8, hi_1_8, h⟩ := bsome h
  refine Wp.reg tiok mix hc (by kernel_rfl) (ah := none) (rs := [some (.no), some (.no), some (.no), some (.no), some (.no), some (.no), some (.no), some (.no), some (.el (.bool e_1_8)), some (.no), some (.no)]) (kt := [6]) (ko := []) (T' := [(6, .bool e_1_8)]) (O' := []) (by kernel_rfl) (And.intro (idx_sl (enc := AV.bool) (x := .bool e_1_8) hi_1_8 (eq_B e_1_8)) trivial) (by kernel_rfl) (by kernel_rfl) ?_
  refine seqQ_norm ?_
  refine Wp.retN (by kernel_rfl) ?_
  obtain rfl := Option.some.inj h
  exact RetQ.ret (fl := [true]) (by kernel_rfl)
def spec_l1One (p : GSystem × Int) : Option (Bool) :=
  match p with
  | (s0, a1) =>
    (
      (spec_l1Add (s0, 0, a1)) >>= fun r_1_2 =>
      if (r_1_2 == a1) = true then
        (spec_l1Mul (s0, 1, a1)) >>= fun r_1_8 =>
        if (r_1_8 == a1) = true then
          (spec_l1Mul (s0, a1, 1)) >>= fun r_1_15 =>
          if (r_1_15 == a1) = true then
            (spec_l1Mul (s0, 0, a1)) >>= fun r_1_22 =>
            if (r_1_22 == 0) = true then
              (spec_l1Mul (s0, a1, 0)) >>= fun r_1_28 =>
              if (r_1_28 == 0) = true then
                (spec_l1Le (s0, a1, a1)) >>= fun r_1_35 =>
                some (r_1_35)
              else
                some (false)
            else
              some (false)
          else
            some (false)
        else
          some (false)
      else
        some (false)
    ) >>= fun v_1 =>
    some v_1
def M_spec_l1One (p : GSystem × Int) (r : Bool) : Prop :=
  match p with
  | (s0, a1) => FnSound Try.prog 146 [.agg [.int .i64 s0.fSize, .sl (List.map I s0.fPlus), .sl (List.map I s0.fTimes), .sl (List.map AV.bool s0.fBelow)], .int .i64 a1] (.bool r) []
theorem spec_l1One_s : ∀ p r, spec_l1One p = some r → M_spec_l1One p r := by
  rintro ⟨s0, a1⟩ r h
  unfold spec_l1One at h
  show FnSound Try.prog 146 [.agg [.int .i64 s0.fSize, .sl (List.map I s0.fPlus), .sl (List.map I s0.fTimes), .sl (List.map AV.bool s0.fBelow)], .int .i64 a1] (.bool r) []
  refine FnSound.body0 tiok (fn := Try.f146) (code := B146) (by kernel_rfl) (by kernel_rfl) (by kernel_rfl) (by kernel_rfl) (nt := 42) (by kernel_rfl) (by kernel_rfl) (T := [(0, .agg [.int .i64 s0.fSize, .sl (List.map I s0.fPlus), .sl (List.map I s0.fTimes), .sl (List.map AV.bool s0.fBelow)]), (1, .int .i64 a1)]) (O := []) (by kernel_rfl) (by kernel_rfl) (fun c hc => ?_)
  refine Wp.seqN (by kernel_rfl) ?_
  refine Wp.reg tiok mix hc (by kernel_rfl) (ah := none) (rs := [some (.new 1), some (.no)]) (kt := [1, 2]) (ko := [1]) (T' := [(1, .int .i64 a1), (2, .ra 1 0)]) (O' := [(1, .box [.int .i64 s0.fSize, .sl (List.map I s0.fPlus), .sl (List.map I s0.fTimes), .sl (List.map AV.bool s0.fBelow)])]) (by kernel_rfl) trivial (by kernel_rfl) (by kernel_rfl) ?_
  refine seqQ_norm ?_
  refine Wp.seqN (by kernel_rfl) ?_
  obtain ⟨v_1, hj_2, h⟩ := bsome h
  refine Wp.into (x := .normal) (mkS [(4, .bool v_1)] []) ?_ ?_
  · replace h := hj_2
    obtain ⟨r_1_2, hr_1_2, h⟩ := bsome h
    rcases itesome h with ⟨hb_1_0, h⟩ | ⟨hb_1_0, h⟩
    · obtain ⟨r_1_8, hr_1_8, h⟩ := bsome h
      rcases itesome h with ⟨hb_1_1, h⟩ | ⟨hb_1_1, h⟩
      · obtain ⟨r_1_15, hr_1_15, h⟩ := bsome h
        rcases itesome h with ⟨hb_1_2, h⟩ | ⟨hb_1_2, h⟩
        · obtain ⟨r_1_22, hr_1_22, h⟩ := bsome h
          rcases itesome h with ⟨hb_1_3, h⟩ | ⟨hb_1_3, h⟩
          · obtain ⟨r_1_28, hr_1_28, h⟩ := bsome h
            rcases itesome h with ⟨hb_1_4, h⟩ | ⟨hb_1_4, h⟩
            · obtain ⟨r_1_35, hr_1_35, h⟩ := bsome h
              refine Wp.reg tiok mix hc (by kernel_rfl) (ah := none) (rs := [some (.no), some (.no), some (.call (.int .i64 r_1_2) [] 1), some (.no), some (.no), some (.no), some (.no), some (.no), some (.call (.int .i64 r_1_8) [] 1), some (.no), some (.no), some (.cond true), some (.no), some (.no), some (.no), some (.call (.int .i64 r_1_15) [] 1), some (.no), some (.no), some (.cond true), some (.no), some (.no), some (.no), some (.call (.int .i64 r_1_22) [] 1), some (.no), some (.cond true), some (.no), some (.no), some (.no), some (.call (.int .i64 r_1_28) [] 1), some (.no), some (.cond true), some (.no), some (.no), some (.no), some (.no), some (.call (.bool r_1_35) [] 1), some (.cond true), some (.no)]) (kt := [4]) (ko := []) (T' := [(4, .bool r_1_35)]) (O' := []) (by kernel_rfl) (And.intro (spec_l1Add_s _ _ hr_1_2) (And.intro bod_153 (And.intro (Or.inl rfl : ([] : List Nat) = [] ∨ noSh (.int .i64 r_1_2) = true) (And.intro hb_1_0 (And.intro hb_1_0 (And.intro hb_1_0 (And.intro (spec_l1Mul_s _ _ hr_1_8) (And.intro bod_154 (And.intro (Or.inl rfl : ([] : List Nat) = [] ∨ noSh (.int .i64 r_1_8) = true) (And.intro hb_1_0 (And.intro hb_1_0 (And.intro hb_1_0 (And.intro hb_1_1 (And.intro hb_1_1 (And.intro hb_1_1 (And.intro (spec_l1Mul_s _ _ hr_1_15) (And.intro bod_154 (And.intro (Or.inl rfl : ([] : List Nat) = [] ∨ noSh (.int .i64 r_1_15) = true) (And.intro hb_1_1 (And.intro hb_1_1 (And.intro hb_1_1 (And.intro hb_1_2 (And.intro hb_1_2 (And.intro hb_1_2 (And.intro (spec_l1Mul_s _ _ hr_1_22) (And.intro bod_154 (And.intro (Or.inl rfl : ([] : List Nat) = [] ∨ noSh (.int .i64 r_1_22) = true) (And.intro hb_1_2 (And.intro hb_1_2 (And.intro hb_1_3 (And.intro hb_1_3 (And.intro hb_1_3 (And.intro (spec_l1Mul_s _ _ hr_1_28) (And.intro bod_154 (And.intro (Or.inl rfl : ([] : List Nat) = [] ∨ noSh (.int .i64 r_1_28) = true) (And.intro hb_1_3 (And.intro hb_1_3 (And.intro hb_1_4 (And.intro hb_1_4 (And.intro hb_1_4 (And.intro hb_1_4 (And.intro (spec_l1Le_s _ _ hr_1_35) (And.intro bod_155 (And.intro (Or.inl rfl : ([] : List Nat) = [] ∨ noSh (.bool r_1_35) = true) (And.intro hb_1_4 trivial))))))))))))))))))))))))))))))))))))))))))))) (by kernel_rfl) (by kernel_rfl) ?_
              obtain rfl := Option.some.inj h
              exact Into.mk
            · refine Wp.reg tiok mix hc (by kernel_rfl) (ah := none) (rs := [some (.no), some (.no), some (.call (.int .i64 r_1_2) [] 1), some (.no), some (.no), some (.no), some (.no), some (.no), some (.call (.int .i64 r_1_8) [] 1), some (.no), some (.no), some (.cond true), some (.no), some (.no), some (.no), some (.call (.int .i64 r_1_15) [] 1), some (.no), some (.no), some (.cond true), some (.no), some (.no), some (.no), some (.call (.int .i64 r_1_22) [] 1), some (.no), some (.cond true), some (.no), some (.no), some (.no), some (.call (.int .i64 r_1_28) [] 1), some (.no), some (.cond true), some (.no), none, none, none, none, some (.cond false), some (.no)]) (kt := [4]) (ko := []) (T' := [(4, .bool false)]) (O' := []) (by kernel_rfl) (And.intro (spec_l1Add_s _ _ hr_1_2) (And.intro bod_153 (And.intro (Or.inl rfl : ([] : List Nat) = [] ∨ noSh (.int .i64 r_1_2) = true) (And.intro hb_1_0 (And.intro hb_1_0 (And.intro hb_1_0 (And.intro (spec_l1Mul_s _ _ hr_1_8) (And.intro bod_154 (And.intro (Or.inl rfl : ([] : List Nat) = [] ∨ noSh (.int .i64 r_1_8) = true) (And.intro hb_1_0 (And.intro hb_1_0 (And.intro hb_1_0 (And.intro hb_1_1 (And.intro hb_1_1 (And.intro hb_1_1 (And.intro (spec_l1Mul_s _ _ hr_1_15) (And.intro bod_154 (And.intro (Or.inl rfl : ([] : List Nat) = [] ∨ noSh (.int .i64 r_1_15) = true) (And.intro hb_1_1 (And.intro hb_1_1 (And.intro hb_1_1 (And.intro hb_1_2 (And.intro hb_1_2 (And.intro hb_1_2 (And.intro (spec_l1Mul_s _ _ hr_1_22) (And.intro bod_154 (And.intro (Or.inl rfl : ([] : List Nat) = [] ∨ noSh (.int .i64 r_1_22) = true) (And.intro hb_1_2 (And.intro hb_1_2 (And.intro hb_1_3 (And.intro hb_1_3 (And.intro hb_1_3 (And.intro (spec_l1Mul_s _ _ hr_1_28) (And.intro bod_154 (And.intro (Or.inl rfl : ([] : List Nat) = [] ∨ noSh (.int .i64 r_1_28) = true) (And.intro hb_1_3 (And.intro hb_1_3 (And.intro (neT hb_1_4 : (r_1_28 == 0) ≠ true) (And.intro (neT hb_1_4 : (r_1_28 == 0) ≠ true) (And.intro (neT hb_1_4 : (r_1_28 == 0) ≠ true) (And.intro (neT hb_1_4 : (r_1_28 == 0) ≠ true) (And.intro hb_1_4 trivial)))))))))))))))))))))))))))))))))))))))))) (by kernel_rfl) (by kernel_rfl) ?_
              obtain rfl := Option.some.inj h
              exact Into.mk
          · refine Wp.reg tiok mix hc (by kernel_rfl) (ah := none) (rs := [some (.no), some (.no), some (.call (.int .i64 r_1_2) [] 1), some (.no), some (.no), some (.no), some (.no), some (.no), some (.call (.int .i64 r_1_8) [] 1), some (.no), some (.no), some (.cond true), some (.no), some (.no), some (.no), some (.call (.int .i64 r_1_15) [] 1), some (.no), some (.no), some (.cond true), some (.no), some (.no), some (.no), some (.call (.int .i64 r_1_22) [] 1), some (.no), some (.cond true), some (.no), none, none, none, none, some (.cond false), some (.no), none, none, none, none, some (.cond false), some (.no)]) (kt := [4]) (ko := []) (T' := [(4, .bool false)]) (O' := []) (by kernel_rfl) (And.intro (spec_l1Add_s _ _ hr_1_2) (And.intro bod_153 (And.intro (Or.inl rfl : ([] : List Nat) = [] ∨ noSh (.int .i64 r_1_2) = true) (And.intro hb_1_0 (And.intro hb_1_0 (And.intro hb_1_0 (And.intro (spec_l1Mul_s _ _ hr_1_8) (And.intro bod_154 (And.intro (Or.inl rfl : ([] : List Nat) = [] ∨ noSh (.int .i64 r_1_8) = true) (And.intro hb_1_0 (And.intro hb_1_0 (And.intro hb_1_0 (And.intro hb_1_1 (And.intro hb_1_1 (And.intro hb_1_1 (And.intro (spec_l1Mul_s _ _ hr_1_15) (And.intro bod_154 (And.intro (Or.inl rfl : ([] : List Nat) = [] ∨ noSh (.int .i64 r_1_15) = true) (And.intro hb_1_1 (And.intro hb_1_1 (And.intro hb_1_1 (And.intro hb_1_2 (And.intro hb_1_2 (And.intro hb_1_2 (And.intro (spec_l1Mul_s _ _ hr_1_22) (And.intro bod_154 (And.intro (Or.inl rfl : ([] : List Nat) = [] ∨ noSh (.int .i64 r_1_22) = true) (And.intro hb_1_2 (And.intro hb_1_2 (And.intro (neT hb_1_3 : (r_1_22 == 0) ≠ true) (And.intro (neT hb_1_3 : (r_1_22 == 0) ≠ true) (And.intro (neT hb_1_3 : (r_1_22 == 0) ≠ true) (And.intro (neT hb_1_3 : (r_1_22 == 0) ≠ true) (And.intro hb_1_3 (And.intro (neT (rfl : false = false) : false ≠ true) (And.intro (neT (rfl : false = false) : false ≠ true) (And.intro (neT (rfl : false = false) : false ≠ true) (And.intro (neT (rfl : false = false) : false ≠ true) (And.intro (rfl : false = false) trivial))))))))))))))))))))))))))))))))))))))) (by kernel_rfl) (by kernel_rfl) ?_
            obtain rfl := Option.some.inj h
            exact Into.mk
        · refine Wp.reg tiok mix hc (by kernel_rfl) (ah := none) (rs := [some (.no), some (.no), some (.call (.int .i64 r_1_2) [] 1), some (.no), some (.no), some (.no), some (.no), some (.no), some (.call (.int .i64 r_1_8) [] 1), some (.no), some (.no), some (.cond true), some (.no), some (.no), some (.no), some (.call (.int .i64 r_1_15) [] 1), some (.no), some (.no), some (.cond true), some (.no), none, none, none, none, some (.cond false), some (.no), none, none, none, none, some (.cond false), some (.no), none, none, none, none, some (.cond false), some (.no)]) (kt := [4]) (ko := []) (T' := [(4, .bool false)]) (O' := []) (by kernel_rfl) (And.intro (spec_l1Add_s _ _ hr_1_2) (And.intro bod_153 (And.intro (Or.inl rfl : ([] : List Nat) = [] ∨ noSh (.int .i64 r_1_2) = true) (And.intro hb_1_0 (And.intro hb_1_0 (And.intro hb_1_0 (And.intro (spec_l1Mul_s _ _ hr_1_8) (And.intro bod_154 (And.intro (Or.inl rfl : ([] : List Nat) = [] ∨ noSh (.int .i64 r_1_8) = true) (And.intro hb_1_0 (And.intro hb_1_0 (And.intro hb_1_0 (And.intro hb_1_1 (And.intro hb_1_1 (And.intro hb_1_1 (And.intro (spec_l1Mul_s _ _ hr_1_15) (And.intro bod_154 (And.intro (Or.inl rfl : ([] : List Nat) = [] ∨ noSh (.int .i64 r_1_15) = true) (And.intro hb_1_1 (And.intro hb_1_1 (And.intro hb_1_1 (And.intro (neT hb_1_2 : (r_1_15 == a1) ≠ true) (And.intro (neT hb_1_2 : (r_1_15 == a1) ≠ true) (And.intro (neT hb_1_2 : (r_1_15 == a1) ≠ true) (And.intro (neT hb_1_2 : (r_1_15 == a1) ≠ true) (And.intro hb_1_2 (And.intro (neT (rfl : false = false) : false ≠ true) (And.intro (neT (rfl : false = false) : false ≠ true) (And.intro (neT (rfl : false = false) : false ≠ true) (And.intro (neT (rfl : false = false) : false ≠ true) (And.intro (rfl : false = false) (And.intro (neT (rfl : false = false) : false ≠ true) (And.intro (neT (rfl : false = false) : false ≠ true) (And.intro (neT (rfl : false = false) : false ≠ true) (And.intro (neT (rfl : false = false) : false ≠ true) (And.intro (rfl : false = false) trivial)))))))))))))))))))))))))))))))))))) (by kernel_rfl) (by kernel_rfl) ?_
          obtain rfl := Option.some.inj h
          exact Into.mk
      · refine Wp.reg tiok mix hc (by kernel_rfl) (ah := none) (rs := [some (.no), some (.no), some (.call (.int .i64 r_1_2) [] 1), some (.no), some (.no), some (.no), some (.no), some (.no), some (.call (.int .i64 r_1_8) [] 1), some (.no), some (.no), some (.cond true), some (.no), none, none, none, none, none, some (.cond false), some (.no), none, none, none, none, some (.cond false), some (.no), none, none, none, none, some (.cond false), some (.no), none, none, none, none, some (.cond false), some (.no)]) (kt := [4]) (ko := []) (T' := [(4, .bool false)]) (O' := []) (by kernel_rfl) (And.intro (spec_l1Add_s _ _ hr_1_2) (And.intro bod_153 (And.intro (Or.inl rfl : ([] : List Nat) = [] ∨ noSh (.int .i64 r_1_2) = true) (And.intro hb_1_0 (And.intro hb_1_0 (And.intro hb_1_0 (And.intro (spec_l1Mul_s _ _ hr_1_8) (And.intro bod_154 (And.intro (Or.inl rfl : ([] : List Nat) = [] ∨ noSh (.int .i64 r_1_8) = true) (And.intro hb_1_0 (And.intro hb_1_0 (And.intro hb_1_0 (And.intro (neT hb_1_1 : (r_1_8 == a1) ≠ true) (And.intro (neT hb_1_1 : (r_1_8 == a1) ≠ true) (And.intro (neT hb_1_1 : (r_1_8 == a1) ≠ true) (And.intro (neT hb_1_1 : (r_1_8 == a1) ≠ true) (And.intro (neT hb_1_1 : (r_1_8 == a1) ≠ true) (And.intro hb_1_1 (And.intro (neT (rfl : false = false) : false ≠ true) (And.intro (neT (rfl : false = false) : false ≠ true) (And.intro (neT (rfl : false = false) : false ≠ true) (And.intro (neT (rfl : false = false) : false ≠ true) (And.intro (rfl : false = false) (And.intro (neT (rfl : false = false) : false ≠ true) (And.intro (neT (rfl : false = false) : false ≠ true) (And.intro (neT (rfl : false = false) : false ≠ true) (And.intro (neT (rfl : false = false) : false ≠ true) (And.intro (rfl : false = false) (And.intro (neT (rfl : false = false) : false ≠ true) (And.intro (neT (rfl : false = false) : false ≠ true) (And.intro (neT (rfl : false = false) : false ≠ true) (And.intro (neT (rfl : false = false) : false ≠ true) (And.intro (rfl : false = false) trivial))))))))))))))))))))))))))))))))) (by kernel_rfl) (by kernel_rfl) ?_
        obtain rfl := Option.some.inj h
        exact Into.mk
    · refine Wp.reg tiok mix hc (by kernel_rfl) (ah := none) (rs := [some (.no), some (.no), some (.call (.int .i64 r_1_2) [] 1), some (.no), some (.no), some (.no), none, none, none, none, none, some (.cond false), some (.no), none, none, none, none, none, some (.cond false), some (.no), none, none, none, none, some (.cond false), some (.no), none, none, none, none, some (.cond false), some (.no), none, none, none, none, some (.cond false), some (.no)]) (kt := [4]) (ko := []) (T' := [(4, .bool false)]) (O' := []) (by kernel_rfl) (And.intro (spec_l1Add_s _ _ hr_1_2) (And.intro bod_153 (And.intro (Or.inl rfl : ([] : List Nat) = [] ∨ noSh (.int .i64 r_1_2) = true) (And.intro (neT hb_1_0 : (r_1_2 == a1) ≠ true) (And.intro (neT hb_1_0 : (r_1_2 == a1) ≠ true) (And.intro (neT hb_1_0 : (r_1_2 == a1) ≠ true) (And.intro (neT hb_1_0 : (r_1_2 == a1) ≠ true) (And.intro (neT hb_1_0 : (r_1_2 == a1) ≠ true) (And.intro hb_1_0 (And.intro (neT (rfl : false = false) : false ≠ true) (And.intro (neT (rfl : false = false) : false ≠ true) (And.intro (neT (rfl : false = false) : false ≠ true) (And.intro (neT (rfl : false = false) : false ≠ true) (And.intro (neT (rfl : false = false) : false ≠ true) (And.intro (rfl : false = false) (And.intro (neT (rfl : false = false) : false ≠ true) (And.intro (neT (rfl : false = false) : false ≠ true) (And.intro (neT (rfl : false = false) : false ≠ true) (And.intro (neT (rfl : false = false) : false ≠ true) (And.intro (rfl : false = false) (And.intro (neT (rfl : false = false) : false ≠ true) (And.intro (neT (rfl : false = false) : false ≠ true) (And.intro (neT (rfl : false = false) : false ≠ true) (And.intro (neT (rfl : false = false) : false ≠ true) (And.intro (rfl : false = false) (And.intro (neT (rfl : false = false) : false ≠ true) (And.intro (neT (rfl : false = false) : false ≠ true) (And.intro (neT (rfl : false = false) : false ≠ true) (And.intro (neT (rfl : false = false) : false ≠ true) (And.intro (rfl : false = false) trivial)))))))))))))))))))))))))))))) (by kernel_rfl) (by kernel_rfl) ?_
      obtain rfl := Option.some.inj h
      exact Into.mk
  · clear hj_2
    refine seqQ_norm ?_
    refine Wp.retN (by kernel_rfl) ?_
    obtain rfl := Option.some.inj h
    exact RetQ.ret (fl := [true]) (by kernel_rfl)
def spec_l1Join_F1 (c : Ctx) (s0 : GSystem) (a1 : Int) (b2 : Int) (g_19 : Int) : Bool → Exit → AState → Prop
  | ok_35 => Into c (.exit 2) (mkS [(1, .int .i64 a1), (2, .int .i64 b2), (3, .ra 1 0), (7, .int .i64 g_19), (8, .bool ok_35)] [(1, .box [.int .i64 s0.fSize, .sl (List.map I s0.fPlus), .sl (List.map I s0.fTimes), .sl (List.map AV.bool s0.fBelow)])])
end Go.Am
