/- Functions of the program as pure functions, and that it computes them. Printed by a program of mine (gen.py). -/
import Derived.Test.YtfakfcaegabgaaaGDTF4
set_option linter.unusedVariables false
set_option linter.unusedSimpArgs false
set_option maxRecDepth 100000
namespace Go.Am
open Go Go.Proofs
def laws_markIntS (p : (List Int) × Int) : Option (Int × (List Int)) :=
  match p with
  | (a0, k1) =>
    (laws_markIntS_l0 (a0, k1, 0)) >>= fun (k_6, x_7) =>
    some (k_6, x_7)
def M_laws_markIntS (p : (List Int) × Int) (r : Int × (List Int)) : Prop :=
  match p with
  | (a0, k1) => FnSound Try.prog 20 [.osl (List.map I a0), .int .i64 k1] (.int .i64 r.1) [.osl (List.map I r.2), .undef]
theorem laws_markIntS_s : ∀ p r, laws_markIntS p = some r → M_laws_markIntS p r := by
  rintro ⟨a0, k1⟩ r h
  unfold laws_markIntS at h
  show FnSound Try.prog 20 [.osl (List.map I a0), .int .i64 k1] (.int .i64 r.1) [.osl (List.map I r.2), .undef]
  refine FnSound.bodyO tiok (fn := Try.f20) (code := B20) (by kernel_rfl) (by kernel_rfl) (by kernel_rfl) (nt := 19) (by kernel_rfl) (by kernel_rfl) (T := [(0, .rs 1000), (1, .int .i64 k1)]) (O := [(1000, .arr (List.map I a0))]) (by kernel_rfl) (by kernel_rfl) (fun c hc => ?_)
  refine Wp.seqN (by kernel_rfl) ?_
  refine Wp.reg tiok mix hc (by kernel_rfl) (ah := none) (rs := [some (.no)]) (kt := [0, 1]) (ko := [1000]) (T' := [(0, .rs 1000), (1, .int .i64 k1)]) (O' := [(1000, .arr (List.map I a0))]) (by kernel_rfl) trivial (by kernel_rfl) (by kernel_rfl) ?_
  refine seqQ_norm ?_
  refine Wp.seqN (by kernel_rfl) ?_
  refine Wp.seqN (by kernel_rfl) ?_
  refine Wp.reg tiok mix hc (by kernel_rfl) (ah := none) (rs := [some (.no)]) (kt := [0, 1, 5]) (ko := [1000]) (T' := [(0, .rs 1000), (1, .int .i64 k1), (5, .int .i64 0)]) (O' := [(1000, .arr (List.map I a0))]) (by kernel_rfl) trivial (by kernel_rfl) (by kernel_rfl) ?_
  refine seqQ_norm ?_
  refine Wp.blockN (i := 0) (by kernel_rfl) ?_
  obtain ⟨⟨k_6, x_7⟩, hl_8, h⟩ := bsome h
  have hL := laws_markIntS_l0_s _ _ hl_8 c hc
  refine Wp.loopN (by kernel_rfl) ?_
  · refine WpL.into (e := (.exit 0)) (mkS [(1, .int .i64 k_6)] [(1000, .arr (List.map I x_7))]) hL ?_
    refine blockQ_hit ?_
    refine seqQ_norm ?_
    refine Wp.seqN (by kernel_rfl) ?_
    refine Wp.reg tiok mix hc (by kernel_rfl) (ah := none) (rs := [some (.no), some (.no)]) (kt := [4]) (ko := [1000]) (T' := [(4, .int .i64 k_6)]) (O' := [(1000, .arr (List.map I x_7))]) (by kernel_rfl) trivial (by kernel_rfl) (by kernel_rfl) ?_
    refine seqQ_norm ?_
    refine Wp.retN (by kernel_rfl) ?_
    obtain rfl := Option.some.inj h
    exact RetOQ.ret (fl := [true]) (by kernel_rfl)
def laws_markBoolS_F1 (c : Ctx) : Int × (List Bool) → Exit → AState → Prop
  | (k_6, x_7) => Into c (.exit 0) (mkS [(1, .int .i64 k_6)] [(1000, .arr (List.map AV.bool x_7))])
def laws_markBoolS_l0 (p : (List Bool) × Int × Int) : Option (Int × (List Bool)) :=
  match p with
  | (a_2, k_3, i_4) =>
    if (decide (i_4 < (a_2.length : Int))) = true then
      (idx a_2 i_4) >>= fun e_4_5 =>
      laws_markBoolS_l0 ((List.set a_2 (Int.toNat i_4) ((Int.tmod k_3 3) == 0)), (wr (k_3 + 1)), (wr (i_4 + 1)))
    else
      some ((k_3, a_2))
  partial_fixpoint
def M_laws_markBoolS_l0 (p : (List Bool) × Int × Int) (fl : Int × (List Bool)) : Prop :=
  match p with
  | (a_2, k_3, i_4) => ∀ c : Ctx, c.nt = 21 → WpL Try.prog c (cl (cl (cr (cl (cr B51))))) (laws_markBoolS_F1 c fl) (mkS [(0, .rs 1000), (1, .int .i64 k_3), (5, .int .i64 i_4)] [(1000, .arr (List.map AV.bool a_2))])
theorem laws_markBoolS_l0_s : ∀ p r, laws_markBoolS_l0 p = some r → M_laws_markBoolS_l0 p r := by
  refine laws_markBoolS_l0.partial_correctness M_laws_markBoolS_l0 ?_
  rintro laws_markBoolS_l0_f laws_markBoolS_l0_ih ⟨a_2, k_3, i_4⟩ r h
  intro c hc
  show WpL Try.prog c (cl (cl (cr (cl (cr B51))))) (laws_markBoolS_F1 c r) (mkS [(0, .rs 1000), (1, .int .i64 k_3), (5, .int .i64 i_4)] [(1000, .arr (List.map AV.bool a_2))])
  refine WpL.step ?_
  refine Wp.seqN (by kernel_rfl) ?_
  refine Wp.seqN (by kernel_rfl) ?_
  refine Wp.reg tiok mix hc (by kernel_rfl) (ah := none) (rs := [some (.no), some (.no), some (.eqv (.no) ⟨[(8, .int .i64 (a_2.length : Int))], [], []⟩), some (.no)]) (kt := [0, 1, 5, 9]) (ko := [1000]) (T' := [(0, .rs 1000), (1, .int .i64 k_3), (5, .int .i64 i_4), (9, .bool (decide (i_4 < (a_2.length : Int))))]) (O' := [(1000, .arr (List.map AV.bool a_2))]) (by kernel_rfl) (And.intro (lenT (d := 8) AV.bool a_2) trivial) (by kernel_rfl) (by kernel_rfl) ?_
  refine seqQ_norm ?_
  rcases itesome h with ⟨hb_5, h⟩ | ⟨hb_5, h⟩
  · refine Wp.condT (b := (decide (i_4 < (a_2.length : Int)))) (by kernel_rfl) (by kernel_rfl) hb_5 ?_
    refine Wp.skipN (by kernel_rfl) ?_
    refine seqQ_norm ?_
    refine Wp.seqN (by kernel_rfl) ?_
    refine Wp.blockN (i := 1) (by kernel_rfl) ?_
    refine Wp.seqN (by kernel_rfl) ?_
    obtain ⟨e_4_5, hi_4_5, h⟩ := bsome h
    refine Wp.reg tiok mix hc (by kernel_rfl) (ah := none) (rs := [some (.no), some (.no), some (.no), some (.no), some (.no), some (.no), some (.eqv (.mk 0 true) ⟨[], [(1000, some (.arr (List.map AV.bool (List.set a_2 (Int.toNat i_4) ((Int.tmod k_3 3) == 0)))))], []⟩)]) (kt := [0, 1, 5]) (ko := [1000]) (T' := [(0, .rs 1000), (1, .int .i64 k_3), (5, .int .i64 i_4)]) (O' := [(1000, .arr (List.map AV.bool (List.set a_2 (Int.toNat i_4) ((Int.tmod k_3 3) == 0))))]) (by kernel_rfl) (And.intro ((by decide) : (3 : Int) ≠ 0) (And.intro (idx_own (enc := AV.bool) hi_4_5) (And.intro (congrArg (fun z => (⟨[], [(1000, some (.arr z))], []⟩ : Wr)) (set_row (enc := AV.bool) (i := Int.toNat i_4) (l := a_2) (v := ((Int.tmod k_3 3) == 0)) (x := AV.bool ((Int.tmod k_3 3) == 0)) (eq_B ((Int.tmod k_3 3) == 0)))) (And.intro (own_set (enc := AV.bool) (sz := 1) sz_B hi_4_5) trivial)))) (by kernel_rfl) (by kernel_rfl) ?_
    refine seqQ_norm ?_
    refine Wp.reg tiok mix hc (by kernel_rfl) (ah := none) (rs := [some (.no), some (.no), some (.no)]) (kt := [0, 1, 5]) (ko := [1000]) (T' := [(0, .rs 1000), (1, .int .i64 (wr (k_3 + 1))), (5, .int .i64 i_4)]) (O' := [(1000, .arr (List.map AV.bool (List.set a_2 (Int.toNat i_4) ((Int.tmod k_3 3) == 0))))]) (by kernel_rfl) trivial (by kernel_rfl) (by kernel_rfl) ?_
    refine blockQ_norm ?_
    refine seqQ_norm ?_
    refine Wp.reg tiok mix hc (by kernel_rfl) (ah := none) (rs := [some (.no), some (.no), some (.no)]) (kt := [0, 1, 5]) (ko := [1000]) (T' := [(0, .rs 1000), (1, .int .i64 (wr (k_3 + 1))), (5, .int .i64 (wr (i_4 + 1)))]) (O' := [(1000, .arr (List.map AV.bool (List.set a_2 (Int.toNat i_4) ((Int.tmod k_3 3) == 0))))]) (by kernel_rfl) trivial (by kernel_rfl) (by kernel_rfl) ?_
    refine loopQ_norm ?_
    exact (laws_markBoolS_l0_ih _ _ h c hc)
  · refine Wp.condF (b := (decide (i_4 < (a_2.length : Int)))) (by kernel_rfl) (by kernel_rfl) hb_5 ?_
    refine Wp.exitN (i := 0) (by kernel_rfl) ?_
    refine seqQ_exit ?_
    refine loopQ_exit ?_
    obtain ⟨rfl, rfl⟩ := Prod.mk.inj (Option.some.inj h)
    exact Into.view (fun a w hv => SRx.renL [] hv (by kernel_rfl) (by kernel_rfl) (by kernel_rfl))
def laws_markBoolS (p : (List Bool) × Int) : Option (Int × (List Bool)) :=
  match p with
  | (a0, k1) =>
    (laws_markBoolS_l0 (a0, k1, 0)) >>= fun (k_6, x_7) =>
    some (k_6, x_7)
def M_laws_markBoolS (p : (List Bool) × Int) (r : Int × (List Bool)) : Prop :=
  match p with
  | (a0, k1) => FnSound Try.prog 51 [.osl (List.map AV.bool a0), .int .i64 k1] (.int .i64 r.1) [.osl (List.map AV.bool r.2), .undef]
theorem laws_markBoolS_s : ∀ p r, laws_markBoolS p = some r → M_laws_markBoolS p r := by
  rintro ⟨a0, k1⟩ r h
  unfold laws_markBoolS at h
  show FnSound Try.prog 51 [.osl (List.map AV.bool a0), .int .i64 k1] (.int .i64 r.1) [.osl (List.map AV.bool r.2), .undef]
  refine FnSound.bodyO tiok (fn := Try.f51) (code := B51) (by kernel_rfl) (by kernel_rfl) (by kernel_rfl) (nt := 21) (by kernel_rfl) (by kernel_rfl) (T := [(0, .rs 1000), (1, .int .i64 k1)]) (O := [(1000, .arr (List.map AV.bool a0))]) (by kernel_rfl) (by kernel_rfl) (fun c hc => ?_)
  refine Wp.seqN (by kernel_rfl) ?_
  refine Wp.reg tiok mix hc (by kernel_rfl) (ah := none) (rs := [some (.no)]) (kt := [0, 1]) (ko := [1000]) (T' := [(0, .rs 1000), (1, .int .i64 k1)]) (O' := [(1000, .arr (List.map AV.bool a0))]) (by kernel_rfl) trivial (by kernel_rfl) (by kernel_rfl) ?_
  refine seqQ_norm ?_
  refine Wp.seqN (by kernel_rfl) ?_
  refine Wp.seqN (by kernel_rfl) ?_
  refine Wp.reg tiok mix hc (by kernel_rfl) (ah := none) (rs := [some (.no)]) (kt := [0, 1, 5]) (ko := [1000]) (T' := [(0, .rs 1000), (1, .int .i64 k1), (5, .int .i64 0)]) (O' := [(1000, .arr (List.map AV.bool a0))]) (by kernel_rfl) trivial (by kernel_rfl) (by kernel_rfl) ?_
  refine seqQ_norm ?_
  refine Wp.blockN (i := 0) (by kernel_rfl) ?_
  obtain ⟨⟨k_6, x_7⟩, hl_8, h⟩ := bsome h
  have hL := laws_markBoolS_l0_s _ _ hl_8 c hc
  refine Wp.loopN (by kernel_rfl) ?_
  · refine WpL.into (e := (.exit 0)) (mkS [(1, .int .i64 k_6)] [(1000, .arr (List.map AV.bool x_7))]) hL ?_
    refine blockQ_hit ?_
    refine seqQ_norm ?_
    refine Wp.seqN (by kernel_rfl) ?_
    refine Wp.reg tiok mix hc (by kernel_rfl) (ah := none) (rs := [some (.no), some (.no)]) (kt := [4]) (ko := [1000]) (T' := [(4, .int .i64 k_6)]) (O' := [(1000, .arr (List.map AV.bool x_7))]) (by kernel_rfl) trivial (by kernel_rfl) (by kernel_rfl) ?_
    refine seqQ_norm ?_
    refine Wp.retN (by kernel_rfl) ?_
    obtain rfl := Option.some.inj h
    exact RetOQ.ret (fl := [true]) (by kernel_rfl)
def laws_markSystem (p : GSystem × Int) : Option (Int × GSystem) :=
  match p with
  | (a0, k1) =>
    (laws_markIntS (a0.fPlus, k1)) >>= fun (r_1_3, o_1_3_0) =>
    (laws_markIntS (a0.fTimes, r_1_3)) >>= fun (r_2_3, o_2_3_0) =>
    (laws_markBoolS (a0.fBelow, r_2_3)) >>= fun (r_3_3, o_3_3_0) =>
    some (r_3_3, (GSystem.mk a0.fSize o_1_3_0 o_2_3_0 o_3_3_0))
def M_laws_markSystem (p : GSystem × Int) (r : Int × GSystem) : Prop :=
  match p with
  | (a0, k1) => FnSound Try.prog 19 [.agg [.int .i64 a0.fSize, .osl (List.map I a0.fPlus), .osl (List.map I a0.fTimes), .osl (List.map AV.bool a0.fBelow)], .int .i64 k1] (.int .i64 r.1) [.agg [.undef, .osl (List.map I r.2.fPlus), .osl (List.map I r.2.fTimes), .osl (List.map AV.bool r.2.fBelow)], .undef]
theorem laws_markSystem_s : ∀ p r, laws_markSystem p = some r → M_laws_markSystem p r := by
  rintro ⟨a0, k1⟩ r h
  unfold laws_markSystem at h
  show FnSound Try.prog 19 [.agg [.int .i64 a0.fSize, .osl (List.map I a0.fPlus), .osl (List.map I a0.fTimes), .osl (List.map AV.bool a0.fBelow)], .int .i64 k1] (.int .i64 r.1) [.agg [.undef, .osl (List.map I r.2.fPlus), .osl (List.map I r.2.fTimes), .osl (List.map AV.bool r.2.fBelow)], .undef]
  refine FnSound.bodyO tiok (fn := Try.f19) (code := B19) (by kernel_rfl) (by kernel_rfl) (by kernel_rfl) (nt := 18) (by kernel_rfl) (by kernel_rfl) (T := [(0, .agg [.int .i64 a0.fSize, .rs 1000, .rs 1001, .rs 1002]), (1, .int .i64 k1)]) (O := [(1000, .arr (List.map I a0.fPlus)), (1001, .arr (List.map I a0.fTimes)), (1002, .arr (List.map AV.bool a0.fBelow))]) (by kernel_rfl) (by kernel_rfl) (fun c hc => ?_)
  refine Wp.seqN (by kernel_rfl) ?_
  refine Wp.reg tiok mix hc (by kernel_rfl) (ah := none) (rs := [some (.new 1), some (.no)]) (kt := [1, 2]) (ko := [1, 1000, 1001, 1002]) (T' := [(1, .int .i64 k1), (2, .ra 1 0)]) (O' := [(1, .box [.int .i64 a0.fSize, .rs 1000, .rs 1001, .rs 1002]), (1000, .arr (List.map I a0.fPlus)), (1001, .arr (List.map I a0.fTimes)), (1002, .arr (List.map AV.bool a0.fBelow))]) (by kernel_rfl) trivial (by kernel_rfl) (by kernel_rfl) ?_
  refine seqQ_norm ?_
  refine Wp.seqN (by kernel_rfl) ?_
  obtain ⟨⟨r_1_3, o_1_3_0⟩, hr_1_3, h⟩ := bsome h
  refine Wp.reg tiok mix hc (by kernel_rfl) (ah := none) (rs := [some (.no), some (.no), some (.no), some (.call (.int .i64 r_1_3) [.osl (List.map I o_1_3_0), .undef] 1), some (.no)]) (kt := [1, 2]) (ko := [1, 1000, 1001, 1002]) (T' := [(1, .int .i64 r_1_3), (2, .ra 1 0)]) (O' := [(1, .box [.int .i64 a0.fSize, .rs 1000, .rs 1001, .rs 1002]), (1000, .arr (List.map I o_1_3_0)), (1001, .arr (List.map I a0.fTimes)), (1002, .arr (List.map AV.bool a0.fBelow))]) (by kernel_rfl) (And.intro (laws_markIntS_s _ _ hr_1_3) (And.intro bod_20 trivial)) (by kernel_rfl) (by kernel_rfl) ?_
  refine seqQ_norm ?_
  refine Wp.seqN (by kernel_rfl) ?_
  obtain ⟨⟨r_2_3, o_2_3_0⟩, hr_2_3, h⟩ := bsome h
  refine Wp.reg tiok mix hc (by kernel_rfl) (ah := none) (rs := [some (.no), some (.no), some (.no), some (.call (.int .i64 r_2_3) [.osl (List.map I o_2_3_0), .undef] 1), some (.no)]) (kt := [1, 2]) (ko := [1, 1000, 1001, 1002]) (T' := [(1, .int .i64 r_2_3), (2, .ra 1 0)]) (O' := [(1, .box [.int .i64 a0.fSize, .rs 1000, .rs 1001, .rs 1002]), (1000, .arr (List.map I o_1_3_0)), (1001, .arr (List.map I o_2_3_0)), (1002, .arr (List.map AV.bool a0.fBelow))]) (by kernel_rfl) (And.intro (laws_markIntS_s _ _ hr_2_3) (And.intro bod_20 trivial)) (by kernel_rfl) (by kernel_rfl) ?_
  refine seqQ_norm ?_
  refine Wp.seqN (by kernel_rfl) ?_
  obtain ⟨⟨r_3_3, o_3_3_0⟩, hr_3_3, h⟩ := bsome h
  refine Wp.reg tiok mix hc (by kernel_rfl) (ah := none) (rs := [some (.no), some (.no), some (.no), some (.call (.int .i64 r_3_3) [.osl (List.map AV.bool o_3_3_0), .undef] 1), some (.no)]) (kt := [1]) (ko := [1000, 1001, 1002]) (T' := [(1, .int .i64 r_3_3)]) (O' := [(1000, .arr (List.map I o_1_3_0)), (1001, .arr (List.map I o_2_3_0)), (1002, .arr (List.map AV.bool o_3_3_0))]) (by kernel_rfl) (And.intro (laws_markBoolS_s _ _ hr_3_3) (And.intro bod_51 trivial)) (by kernel_rfl) (by kernel_rfl) ?_
  refine seqQ_norm ?_
  refine Wp.seqN (by kernel_rfl) ?_
  refine Wp.reg tiok mix hc (by kernel_rfl) (ah := none) (rs := [some (.no), some (.no)]) (kt := [4]) (ko := [1000, 1001, 1002]) (T' := [(4, .int .i64 r_3_3)]) (O' := [(1000, .arr (List.map I o_1_3_0)), (1001, .arr (List.map I o_2_3_0)), (1002, .arr (List.map AV.bool o_3_3_0))]) (by kernel_rfl) trivial (by kernel_rfl) (by kernel_rfl) ?_
  refine seqQ_norm ?_
  refine Wp.retN (by kernel_rfl) ?_
  obtain rfl := Option.some.inj h
  exact RetOQ.ret (fl := [true]) (by kernel_rfl)
def laws_markTermS_F1 (c : Ctx) : Int × (List GTerm) → Exit → AState → Prop
  | (k_6, x_7) => Into c (.exit 0) (mkS [(1, .int .i64 k_6)] [(1000, .arr (List.map GTerm_O x_7))])
mutual
def laws_markTermS (p : (List GTerm) × Int) : Option (Int × (List GTerm)) :=
  match p with
  | (a0, k1) =>
    (laws_markTermS_l0 (a0, k1, 0)) >>= fun (k_6, x_7) =>
    some (k_6, x_7)
  partial_fixpoint
def laws_markTermS_l0 (p : (List GTerm) × Int × Int) : Option (Int × (List GTerm)) :=
  match p with
  | (a_2, k_3, i_4) =>
    if (decide (i_4 < (a_2.length : Int))) = true then
      (idx a_2 i_4) >>= fun e_4_3 =>
      (idx (List.set a_2 (Int.toNat i_4) (GTerm.mk k_3 e_4_3.fN e_4_3.fType e_4_3.fKids)) i_4) >>= fun e_6_3 =>
      (idx (List.set (List.set a_2 (Int.toNat i_4) (GTerm.mk k_3 e_4_3.fN e_4_3.fType e_4_3.fKids)) (Int.toNat i_4) (GTerm.mk e_6_3.fOp (wr (k_3 + 1)) e_6_3.fType e_6_3.fKids)) i_4) >>= fun e_8_x =>
      (laws_markIntS (e_8_x.fType, (wr ((wr (k_3 + 1)) + 1)))) >>= fun (r_8_6, o_8_6_0) =>
      (idx (List.set (List.set (List.set a_2 (Int.toNat i_4) (GTerm.mk k_3 e_4_3.fN e_4_3.fType e_4_3.fKids)) (Int.toNat i_4) (GTerm.mk e_6_3.fOp (wr (k_3 + 1)) e_6_3.fType e_6_3.fKids)) (Int.toNat i_4) (GTerm.mk e_8_x.fOp e_8_x.fN o_8_6_0 e_8_x.fKids)) i_4) >>= fun e_9_x =>
      (laws_markTermS (e_9_x.fKids, r_8_6)) >>= fun (r_9_6, o_9_6_0) =>
      laws_markTermS_l0 ((List.set (List.set (List.set (List.set a_2 (Int.toNat i_4) (GTerm.mk k_3 e_4_3.fN e_4_3.fType e_4_3.fKids)) (Int.toNat i_4) (GTerm.mk e_6_3.fOp (wr (k_3 + 1)) e_6_3.fType e_6_3.fKids)) (Int.toNat i_4) (GTerm.mk e_8_x.fOp e_8_x.fN o_8_6_0 e_8_x.fKids)) (Int.toNat i_4) (GTerm.mk e_9_x.fOp e_9_x.fN e_9_x.fType o_9_6_0)), r_9_6, (wr (i_4 + 1)))
    else
      some ((k_3, a_2))
  partial_fixpoint
end
def M_laws_markTermS (p : (List GTerm) × Int) (r : Int × (List GTerm)) : Prop :=
  match p with
  | (a0, k1) => FnSound Try.prog 52 [.osl (List.map GTerm_O a0), .int .i64 k1] (.int .i64 r.1) [.osl (List.map GTerm_O r.2), .undef]
def M_laws_markTermS_l0 (p : (List GTerm) × Int × Int) (fl : Int × (List GTerm)) : Prop :=
  match p with
  | (a_2, k_3, i_4) => ∀ c : Ctx, c.nt = 41 → WpL Try.prog c (cl (cl (cr (cl (cr B52))))) (laws_markTermS_F1 c fl) (mkS [(0, .rs 1000), (1, .int .i64 k_3), (5, .int .i64 i_4)] [(1000, .arr (List.map GTerm_O a_2))])
theorem laws_markTermS_all : (∀ p r, laws_markTermS p = some r → M_laws_markTermS p r) ∧ (∀ p r, laws_markTermS_l0 p = some r → M_laws_markTermS_l0 p r) := by
  refine laws_markTermS.mutual_partial_correctness M_laws_markTermS M_laws_markTermS_l0 ?_ ?_
  · rintro laws_markTermS_l0_f laws_markTermS_l0_ih ⟨a0, k1⟩ r h
    show FnSound Try.prog 52 [.osl (List.map GTerm_O a0), .int .i64 k1] (.int .i64 r.1) [.osl (List.map GTerm_O r.2), .undef]
    refine FnSound.bodyO tiok (fn := Try.f52) (code := B52) (by kernel_rfl) (by kernel_rfl) (by kernel_rfl) (nt := 41) (by kernel_rfl) (by kernel_rfl) (T := [(0, .rs 1000), (1, .int .i64 k1)]) (O := [(1000, .arr (List.map GTerm_O a0))]) (by kernel_rfl) (by kernel_rfl) (fun c hc => ?_)
    refine Wp.seqN (by kernel_rfl) ?_
    refine Wp.reg tiok mix hc (by kernel_rfl) (ah := none) (rs := [some (.no)]) (kt := [0, 1]) (ko := [1000]) (T' := [(0, .rs 1000), (1, .int .i64 k1)]) (O' := [(1000, .arr (List.map GTerm_O a0))]) (by kernel_rfl) trivial (by kernel_rfl) (by kernel_rfl) ?_
    refine seqQ_norm ?_
    refine Wp.seqN (by kernel_rfl) ?_
    refine Wp.seqN (by kernel_rfl) ?_
    refine Wp.reg tiok mix hc (by kernel_rfl) (ah := none) (rs := [some (.no)]) (kt := [0, 1, 5]) (ko := [1000]) (T' := [(0, .rs 1000), (1, .int .i64 k1), (5, .int .i64 0)]) (O' := [(1000, .arr (List.map GTerm_O a0))]) (by kernel_rfl) trivial (by kernel_rfl) (by kernel_rfl) ?_
    refine seqQ_norm ?_
    refine Wp.blockN (i := 0) (by kernel_rfl) ?_
    obtain ⟨⟨k_6, x_7⟩, hl_8, h⟩ := bsome h
    have hL := laws_markTermS_l0_ih _ _ hl_8 c hc
    refine Wp.loopN (by kernel_rfl) ?_
    · refine WpL.into (e := (.exit 0)) (mkS [(1, .int .i64 k_6)] [(1000, .arr (List.map GTerm_O x_7))]) hL ?_
      refine blockQ_hit ?_
      refine seqQ_norm ?_
      refine Wp.seqN (by kernel_rfl) ?_
      refine Wp.reg tiok mix hc (by kernel_rfl) (ah := none) (rs := [some (.no), some (.no)]) (kt := [4]) (ko := [1000]) (T' := [(4, .int .i64 k_6)]) (O' := [(1000, .arr (List.map GTerm_O x_7))]) (by kernel_rfl) trivial (by kernel_rfl) (by kernel_rfl) ?_
      refine seqQ_norm ?_
      refine Wp.retN (by kernel_rfl) ?_
      obtain rfl := Option.some.inj h
      exact RetOQ.ret (fl := [true]) (by kernel_rfl)
  · rintro laws_markTermS_f laws_markTermS_l0_f laws_markTermS_ih laws_markTermS_l0_ih ⟨a_2, k_3, i_4⟩ r h
    intro c hc
    show WpL Try.prog c (cl (cl (cr (cl (cr B52))))) (laws_markTermS_F1 c r) (mkS [(0, .rs 1000), (1, .int .i64 k_3), (5, .int .i64 i_4)] [(1000, .arr (List.map GTerm_O a_2))])
    refine WpL.step ?_
    refine Wp.seqN (by kernel_rfl) ?_
    refine Wp.seqN (by kernel_rfl) ?_
    refine Wp.reg tiok mix hc (by kernel_rfl) (ah := none) (rs := [some (.no), some (.no), some (.eqv (.no) ⟨[(8, .int .i64 (a_2.length : Int))], [], []⟩), some (.no)]) (kt := [0, 1, 5, 9]) (ko := [1000]) (T' := [(0, .rs 1000), (1, .int .i64 k_3), (5, .int .i64 i_4), (9, .bool (decide (i_4 < (a_2.length : Int))))]) (O' := [(1000, .arr (List.map GTerm_O a_2))]) (by kernel_rfl) (And.intro (lenT (d := 8) GTerm_O a_2) trivial) (by kernel_rfl) (by kernel_rfl) ?_
    refine seqQ_norm ?_
    rcases itesome h with ⟨hb_5, h⟩ | ⟨hb_5, h⟩
    · refine Wp.condT (b := (decide (i_4 < (a_2.length : Int)))) (by kernel_rfl) (by kernel_rfl) hb_5 ?_
      refine Wp.skipN (by kernel_rfl) ?_
      refine seqQ_norm ?_
      refine Wp.seqN (by kernel_rfl) ?_
      refine Wp.blockN (i := 1) (by kernel_rfl) ?_
      refine Wp.seqN (by kernel_rfl) ?_
      obtain ⟨e_4_3, hi_4_3, h⟩ := bsome h
      refine Wp.reg tiok mix hc (by kernel_rfl) (ah := none) (rs := [some (.no), some (.no), some (.no), some (.no), some (.no), some (.eqv (.el (.agg [.int .i64 e_4_3.fOp, .int .i64 e_4_3.fN, .osl (List.map I e_4_3.fType), .osl (List.map GTerm_O e_4_3.fKids)])) ⟨[], [(1000, some (.arr (List.map GTerm_O (List.set a_2 (Int.toNat i_4) (GTerm.mk k_3 e_4_3.fN e_4_3.fType e_4_3.fKids)))))], []⟩)]) (kt := [0, 1, 5]) (ko := [1000]) (T' := [(0, .rs 1000), (1, .int .i64 k_3), (5, .int .i64 i_4)]) (O' := [(1000, .arr (List.map GTerm_O (List.set a_2 (Int.toNat i_4) (GTerm.mk k_3 e_4_3.fN e_4_3.fType e_4_3.fKids))))]) (by kernel_rfl) (And.intro (idx_own (enc := GTerm_O) hi_4_3) (And.intro (congrArg (fun z => (⟨[], [(1000, some (.arr z))], []⟩ : Wr)) (set_row (enc := GTerm_O) (i := Int.toNat i_4) (l := a_2) (v := (GTerm.mk k_3 e_4_3.fN e_4_3.fType e_4_3.fKids)) (x := AV.agg [.int .i64 k_3, .int .i64 e_4_3.fN, .osl (List.map I e_4_3.fType), .osl (List.map GTerm_O e_4_3.fKids)]) (eq_GTerm_O (GTerm.mk k_3 e_4_3.fN e_4_3.fType e_4_3.fKids)))) (And.intro (idx_sl (enc := GTerm_O) (x := .agg [.int .i64 e_4_3.fOp, .int .i64 e_4_3.fN, .osl (List.map I e_4_3.fType), .osl (List.map GTerm_O e_4_3.fKids)]) hi_4_3 (eq_GTerm_O e_4_3)).2 trivial))) (by kernel_rfl) (by kernel_rfl) ?_
      refine seqQ_norm ?_
      refine Wp.seqN (by kernel_rfl) ?_
      refine Wp.reg tiok mix hc (by kernel_rfl) (ah := none) (rs := [some (.no), some (.no), some (.no)]) (kt := [0, 1, 5]) (ko := [1000]) (T' := [(0, .rs 1000), (1, .int .i64 (wr (k_3 + 1))), (5, .int .i64 i_4)]) (O' := [(1000, .arr (List.map GTerm_O (List.set a_2 (Int.toNat i_4) (GTerm.mk k_3 e_4_3.fN e_4_3.fType e_4_3.fKids))))]) (by kernel_rfl) trivial (by kernel_rfl) (by kernel_rfl) ?_
      refine seqQ_norm ?_
      refine Wp.seqN (by kernel_rfl) ?_
      obtain ⟨e_6_3, hi_6_3, h⟩ := bsome h
      refine Wp.reg tiok mix hc (by kernel_rfl) (ah := none) (rs := [some (.no), some (.no), some (.no), some (.no), some (.no), some (.eqv (.el (.agg [.int .i64 e_6_3.fOp, .int .i64 e_6_3.fN, .osl (List.map I e_6_3.fType), .osl (List.map GTerm_O e_6_3.fKids)])) ⟨[], [(1000, some (.arr (List.map GTerm_O (List.set (List.set a_2 (Int.toNat i_4) (GTerm.mk k_3 e_4_3.fN e_4_3.fType e_4_3.fKids)) (Int.toNat i_4) (GTerm.mk e_6_3.fOp (wr (k_3 + 1)) e_6_3.fType e_6_3.fKids)))))], []⟩)]) (kt := [0, 1, 5]) (ko := [1000]) (T' := [(0, .rs 1000), (1, .int .i64 (wr (k_3 + 1))), (5, .int .i64 i_4)]) (O' := [(1000, .arr (List.map GTerm_O (List.set (List.set a_2 (Int.toNat i_4) (GTerm.mk k_3 e_4_3.fN e_4_3.fType e_4_3.fKids)) (Int.toNat i_4) (GTerm.mk e_6_3.fOp (wr (k_3 + 1)) e_6_3.fType e_6_3.fKids))))]) (by kernel_rfl) (And.intro (idx_own (enc := GTerm_O) hi_6_3) (And.intro (congrArg (fun z => (⟨[], [(1000, some (.arr z))], []⟩ : Wr)) (set_row (enc := GTerm_O) (i := Int.toNat i_4) (l := (List.set a_2 (Int.toNat i_4) (GTerm.mk k_3 e_4_3.fN e_4_3.fType e_4_3.fKids))) (v := (GTerm.mk e_6_3.fOp (wr (k_3 + 1)) e_6_3.fType e_6_3.fKids)) (x := AV.agg [.int .i64 e_6_3.fOp, .int .i64 (wr (k_3 + 1)), .osl (List.map I e_6_3.fType), .osl (List.map GTerm_O e_6_3.fKids)]) (eq_GTerm_O (GTerm.mk e_6_3.fOp (wr (k_3 + 1)) e_6_3.fType e_6_3.fKids)))) (And.intro (idx_sl (enc := GTerm_O) (x := .agg [.int .i64 e_6_3.fOp, .int .i64 e_6_3.fN, .osl (List.map I e_6_3.fType), .osl (List.map GTerm_O e_6_3.fKids)]) hi_6_3 (eq_GTerm_O e_6_3)).2 trivial))) (by kernel_rfl) (by kernel_rfl) ?_
      refine seqQ_norm ?_
      refine Wp.seqN (by kernel_rfl) ?_
      refine Wp.reg tiok mix hc (by kernel_rfl) (ah := none) (rs := [some (.no), some (.no), some (.no)]) (kt := [0, 1, 5]) (ko := [1000]) (T' := [(0, .rs 1000), (1, .int .i64 (wr ((wr (k_3 + 1)) + 1))), (5, .int .i64 i_4)]) (O' := [(1000, .arr (List.map GTerm_O (List.set (List.set a_2 (Int.toNat i_4) (GTerm.mk k_3 e_4_3.fN e_4_3.fType e_4_3.fKids)) (Int.toNat i_4) (GTerm.mk e_6_3.fOp (wr (k_3 + 1)) e_6_3.fType e_6_3.fKids))))]) (by kernel_rfl) trivial (by kernel_rfl) (by kernel_rfl) ?_
      refine seqQ_norm ?_
      refine Wp.seqN (by kernel_rfl) ?_
      obtain ⟨e_8_x, hx_8_x, h⟩ := bsome h
      refine Wp.view (fun a w hv => SRx.openL 1000 (Int.toNat i_4) 2 3 [3, 1000] (xs := List.map GTerm_O (List.set (List.set a_2 (Int.toNat i_4) (GTerm.mk k_3 e_4_3.fN e_4_3.fType e_4_3.fKids)) (Int.toNat i_4) (GTerm.mk e_6_3.fOp (wr (k_3 + 1)) e_6_3.fType e_6_3.fKids))) (ys := List.map I e_8_x.fType) (x0 := .agg [.int .i64 e_8_x.fOp, .int .i64 e_8_x.fN, .osl (List.map I e_8_x.fType), .osl (List.map GTerm_O e_8_x.fKids)]) hv (by kernel_rfl) (idx_sl (enc := GTerm_O) (x := .agg [.int .i64 e_8_x.fOp, .int .i64 e_8_x.fN, .osl (List.map I e_8_x.fType), .osl (List.map GTerm_O e_8_x.fKids)]) hx_8_x (eq_GTerm_O e_8_x)).2 (by kernel_rfl) (by kernel_rfl) (by kernel_rfl)) (?_ : Wp Try.prog c _ _ (mkS [(0, .rs 1000), (1, .int .i64 (wr ((wr (k_3 + 1)) + 1))), (5, .int .i64 i_4)] [(3, .arr (List.map I e_8_x.fType)), (1000, .arx (List.map GTerm_O (List.set (List.set a_2 (Int.toNat i_4) (GTerm.mk k_3 e_4_3.fN e_4_3.fType e_4_3.fKids)) (Int.toNat i_4) (GTerm.mk e_6_3.fOp (wr (k_3 + 1)) e_6_3.fType e_6_3.fKids))) (Int.toNat i_4) 2 3)]))
      obtain ⟨⟨r_8_6, o_8_6_0⟩, hr_8_6, h⟩ := bsome h
      refine Wp.reg tiok mix hc (by kernel_rfl) (ah := none) (rs := [some (.no), some (.no), some (.no), some (.no), some (.el (.agg [.int .i64 e_8_x.fOp, .int .i64 e_8_x.fN, .osl (List.map I e_8_x.fType), .osl (List.map GTerm_O e_8_x.fKids)])), some (.no), some (.call (.int .i64 r_8_6) [.osl (List.map I o_8_6_0), .undef] 1), some (.no)]) (kt := [0, 1, 5]) (ko := [3, 1000]) (T' := [(0, .rs 1000), (1, .int .i64 r_8_6), (5, .int .i64 i_4)]) (O' := [(3, .arr (List.map I o_8_6_0)), (1000, .arx (List.map GTerm_O (List.set (List.set a_2 (Int.toNat i_4) (GTerm.mk k_3 e_4_3.fN e_4_3.fType e_4_3.fKids)) (Int.toNat i_4) (GTerm.mk e_6_3.fOp (wr (k_3 + 1)) e_6_3.fType e_6_3.fKids))) (Int.toNat i_4) 2 3)]) (by kernel_rfl) (And.intro (idx_own (enc := GTerm_O) hx_8_x) (And.intro (And.intro (idx_sl (enc := GTerm_O) (x := .agg [.int .i64 e_8_x.fOp, .int .i64 e_8_x.fN, .osl (List.map I e_8_x.fType), .osl (List.map GTerm_O e_8_x.fKids)]) hx_8_x (eq_GTerm_O e_8_x)).2 (rfl : Int.toNat i_4 = Int.toNat i_4)) (And.intro (laws_markIntS_s _ _ hr_8_6) (And.intro bod_20 trivial)))) (by kernel_rfl) (by kernel_rfl) ?_
      refine seqQ_norm ?_
      refine Wp.view (fun a w hv => SRx.closeL 1000 (Int.toNat i_4) 2 3 [1000] (xs := List.map GTerm_O (List.set (List.set a_2 (Int.toNat i_4) (GTerm.mk k_3 e_4_3.fN e_4_3.fType e_4_3.fKids)) (Int.toNat i_4) (GTerm.mk e_6_3.fOp (wr (k_3 + 1)) e_6_3.fType e_6_3.fKids))) (ys := List.map I o_8_6_0) (x0 := .agg [.int .i64 e_8_x.fOp, .int .i64 e_8_x.fN, .osl (List.map I e_8_x.fType), .osl (List.map GTerm_O e_8_x.fKids)]) (x1 := AV.agg [.int .i64 e_8_x.fOp, .int .i64 e_8_x.fN, .osl (List.map I o_8_6_0), .osl (List.map GTerm_O e_8_x.fKids)]) hv (by kernel_rfl) (by kernel_rfl) (by kernel_rfl) (idx_sl (enc := GTerm_O) (x := .agg [.int .i64 e_8_x.fOp, .int .i64 e_8_x.fN, .osl (List.map I e_8_x.fType), .osl (List.map GTerm_O e_8_x.fKids)]) hx_8_x (eq_GTerm_O e_8_x)).2 (by kernel_rfl) (by kernel_rfl : _ = AV.agg [.int .i64 e_8_x.fOp, .int .i64 e_8_x.fN, .osl (List.map I o_8_6_0), .osl (List.map GTerm_O e_8_x.fKids)]) (set_row (enc := GTerm_O) (i := Int.toNat i_4) (l := (List.set (List.set a_2 (Int.toNat i_4) (GTerm.mk k_3 e_4_3.fN e_4_3.fType e_4_3.fKids)) (Int.toNat i_4) (GTerm.mk e_6_3.fOp (wr (k_3 + 1)) e_6_3.fType e_6_3.fKids))) (v := (GTerm.mk e_8_x.fOp e_8_x.fN o_8_6_0 e_8_x.fKids)) (x := AV.agg [.int .i64 e_8_x.fOp, .int .i64 e_8_x.fN, .osl (List.map I o_8_6_0), .osl (List.map GTerm_O e_8_x.fKids)]) (eq_GTerm_O (GTerm.mk e_8_x.fOp e_8_x.fN o_8_6_0 e_8_x.fKids))) (by kernel_rfl)) (?_ : Wp Try.prog c _ _ (mkS [(0, .rs 1000), (1, .int .i64 r_8_6), (5, .int .i64 i_4)] [(1000, .arr (List.map GTerm_O (List.set (List.set (List.set a_2 (Int.toNat i_4) (GTerm.mk k_3 e_4_3.fN e_4_3.fType e_4_3.fKids)) (Int.toNat i_4) (GTerm.mk e_6_3.fOp (wr (k_3 + 1)) e_6_3.fType e_6_3.fKids)) (Int.toNat i_4) (GTerm.mk e_8_x.fOp e_8_x.fN o_8_6_0 e_8_x.fKids))))]))
      obtain ⟨e_9_x, hx_9_x, h⟩ := bsome h
      refine Wp.view (fun a w hv => SRx.openL 1000 (Int.toNat i_4) 3 4 [4, 1000] (xs := List.map GTerm_O (List.set (List.set (List.set a_2 (Int.toNat i_4) (GTerm.mk k_3 e_4_3.fN e_4_3.fType e_4_3.fKids)) (Int.toNat i_4) (GTerm.mk e_6_3.fOp (wr (k_3 + 1)) e_6_3.fType e_6_3.fKids)) (Int.toNat i_4) (GTerm.mk e_8_x.fOp e_8_x.fN o_8_6_0 e_8_x.fKids))) (ys := List.map GTerm_O e_9_x.fKids) (x0 := .agg [.int .i64 e_9_x.fOp, .int .i64 e_9_x.fN, .osl (List.map I e_9_x.fType), .osl (List.map GTerm_O e_9_x.fKids)]) hv (by kernel_rfl) (idx_sl (enc := GTerm_O) (x := .agg [.int .i64 e_9_x.fOp, .int .i64 e_9_x.fN, .osl (List.map I e_9_x.fType), .osl (List.map GTerm_O e_9_x.fKids)]) hx_9_x (eq_GTerm_O e_9_x)).2 (by kernel_rfl) (by kernel_rfl) (by kernel_rfl)) (?_ : Wp Try.prog c _ _ (mkS [(0, .rs 1000), (1, .int .i64 r_8_6), (5, .int .i64 i_4)] [(4, .arr (List.map GTerm_O e_9_x.fKids)), (1000, .arx (List.map GTerm_O (List.set (List.set (List.set a_2 (Int.toNat i_4) (GTerm.mk k_3 e_4_3.fN e_4_3.fType e_4_3.fKids)) (Int.toNat i_4) (GTerm.mk e_6_3.fOp (wr (k_3 + 1)) e_6_3.fType e_6_3.fKids)) (Int.toNat i_4) (GTerm.mk e_8_x.fOp e_8_x.fN o_8_6_0 e_8_x.fKids))) (Int.toNat i_4) 3 4)]))
      obtain ⟨⟨r_9_6, o_9_6_0⟩, hr_9_6, h⟩ := bsome h
      refine Wp.reg tiok mix hc (by kernel_rfl) (ah := none) (rs := [some (.no), some (.no), some (.no), some (.no), some (.el (.agg [.int .i64 e_9_x.fOp, .int .i64 e_9_x.fN, .osl (List.map I e_9_x.fType), .osl (List.map GTerm_O e_9_x.fKids)])), some (.no), some (.call (.int .i64 r_9_6) [.osl (List.map GTerm_O o_9_6_0), .undef] 1), some (.no)]) (kt := [0, 1, 5]) (ko := [4, 1000]) (T' := [(0, .rs 1000), (1, .int .i64 r_9_6), (5, .int .i64 i_4)]) (O' := [(4, .arr (List.map GTerm_O o_9_6_0)), (1000, .arx (List.map GTerm_O (List.set (List.set (List.set a_2 (Int.toNat i_4) (GTerm.mk k_3 e_4_3.fN e_4_3.fType e_4_3.fKids)) (Int.toNat i_4) (GTerm.mk e_6_3.fOp (wr (k_3 + 1)) e_6_3.fType e_6_3.fKids)) (Int.toNat i_4) (GTerm.mk e_8_x.fOp e_8_x.fN o_8_6_0 e_8_x.fKids))) (Int.toNat i_4) 3 4)]) (by kernel_rfl) (And.intro (idx_own (enc := GTerm_O) hx_9_x) (And.intro (And.intro (idx_sl (enc := GTerm_O) (x := .agg [.int .i64 e_9_x.fOp, .int .i64 e_9_x.fN, .osl (List.map I e_9_x.fType), .osl (List.map GTerm_O e_9_x.fKids)]) hx_9_x (eq_GTerm_O e_9_x)).2 (rfl : Int.toNat i_4 = Int.toNat i_4)) (And.intro (laws_markTermS_ih _ _ hr_9_6) (And.intro bod_52 trivial)))) (by kernel_rfl) (by kernel_rfl) ?_
      refine blockQ_norm ?_
      refine seqQ_norm ?_
      refine Wp.view (fun a w hv => SRx.closeL 1000 (Int.toNat i_4) 3 4 [1000] (xs := List.map GTerm_O (List.set (List.set (List.set a_2 (Int.toNat i_4) (GTerm.mk k_3 e_4_3.fN e_4_3.fType e_4_3.fKids)) (Int.toNat i_4) (GTerm.mk e_6_3.fOp (wr (k_3 + 1)) e_6_3.fType e_6_3.fKids)) (Int.toNat i_4) (GTerm.mk e_8_x.fOp e_8_x.fN o_8_6_0 e_8_x.fKids))) (ys := List.map GTerm_O o_9_6_0) (x0 := .agg [.int .i64 e_9_x.fOp, .int .i64 e_9_x.fN, .osl (List.map I e_9_x.fType), .osl (List.map GTerm_O e_9_x.fKids)]) (x1 := AV.agg [.int .i64 e_9_x.fOp, .int .i64 e_9_x.fN, .osl (List.map I e_9_x.fType), .osl (List.map GTerm_O o_9_6_0)]) hv (by kernel_rfl) (by kernel_rfl) (by kernel_rfl) (idx_sl (enc := GTerm_O) (x := .agg [.int .i64 e_9_x.fOp, .int .i64 e_9_x.fN, .osl (List.map I e_9_x.fType), .osl (List.map GTerm_O e_9_x.fKids)]) hx_9_x (eq_GTerm_O e_9_x)).2 (by kernel_rfl) (by kernel_rfl : _ = AV.agg [.int .i64 e_9_x.fOp, .int .i64 e_9_x.fN, .osl (List.map I e_9_x.fType), .osl (List.map GTerm_O o_9_6_0)]) (set_row (enc := GTerm_O) (i := Int.toNat i_4) (l := (List.set (List.set (List.set a_2 (Int.toNat i_4) (GTerm.mk k_3 e_4_3.fN e_4_3.fType e_4_3.fKids)) (Int.toNat i_4) (GTerm.mk e_6_3.fOp (wr (k_3 + 1)) e_6_3.fType e_6_3.fKids)) (Int.toNat i_4) (GTerm.mk e_8_x.fOp e_8_x.fN o_8_6_0 e_8_x.fKids))) (v := (GTerm.mk e_9_x.fOp e_9_x.fN e_9_x.fType o_9_6_0)) (x := AV.agg [.int .i64 e_9_x.fOp, .int .i64 e_9_x.fN, .osl (List.map I e_9_x.fType), .osl (List.map GTerm_O o_9_6_0)]) (eq_GTerm_O (GTerm.mk e_9_x.fOp e_9_x.fN e_9_x.fType o_9_6_0))) (by kernel_rfl)) (?_ : Wp Try.prog c _ _ (mkS [(0, .rs 1000), (1, .int .i64 r_9_6), (5, .int .i64 i_4)] [(1000, .arr (List.map GTerm_O (List.set (List.set (List.set (List.set a_2 (Int.toNat i_4) (GTerm.mk k_3 e_4_3.fN e_4_3.fType e_4_3.fKids)) (Int.toNat i_4) (GTerm.mk e_6_3.fOp (wr (k_3 + 1)) e_6_3.fType e_6_3.fKids)) (Int.toNat i_4) (GTerm.mk e_8_x.fOp e_8_x.fN o_8_6_0 e_8_x.fKids)) (Int.toNat i_4) (GTerm.mk e_9_x.fOp e_9_x.fN e_9_x.fType o_9_6_0))))]))
      refine Wp.reg tiok mix hc (by kernel_rfl) (ah := none) (rs := [some (.no), some (.no), some (.no)]) (kt := [0, 1, 5]) (ko := [1000]) (T' := [(0, .rs 1000), (1, .int .i64 r_9_6), (5, .int .i64 (wr (i_4 + 1)))]) (O' := [(1000, .arr (List.map GTerm_O (List.set (List.set (List.set (List.set a_2 (Int.toNat i_4) (GTerm.mk k_3 e_4_3.fN e_4_3.fType e_4_3.fKids)) (Int.toNat i_4) (GTerm.mk e_6_3.fOp (wr (k_3 + 1)) e_6_3.fType e_6_3.fKids)) (Int.toNat i_4) (GTerm.mk e_8_x.fOp e_8_x.fN o_8_6_0 e_8_x.fKids)) (Int.toNat i_4) (GTerm.mk e_9_x.fOp e_9_x.fN e_9_x.fType o_9_6_0))))]) (by kernel_rfl) trivial (by kernel_rfl) (by kernel_rfl) ?_
      refine loopQ_norm ?_
      exact (laws_markTermS_l0_ih _ _ h c hc)
    · refine Wp.condF (b := (decide (i_4 < (a_2.length : Int)))) (by kernel_rfl) (by kernel_rfl) hb_5 ?_
      refine Wp.exitN (i := 0) (by kernel_rfl) ?_
      refine seqQ_exit ?_
      refine loopQ_exit ?_
      obtain ⟨rfl, rfl⟩ := Prod.mk.inj (Option.some.inj h)
      exact Into.view (fun a w hv => SRx.renL [] hv (by kernel_rfl) (by kernel_rfl) (by kernel_rfl))
theorem laws_markTermS_s : ∀ p r, laws_markTermS p = some r → M_laws_markTermS p r := laws_markTermS_all.1
theorem laws_markTermS_l0_s : ∀ p r, laws_markTermS_l0 p = some r → M_laws_markTermS_l0 p r := laws_markTermS_all.2
def laws_markTerm (p : GTerm × Int) : Option (Int × GTerm) :=
  match p with
  | (a0, k1) =>
    (laws_markIntS (a0.fType, k1)) >>= fun (r_1_3, o_1_3_0) =>
    (laws_markTermS (a0.fKids, r_1_3)) >>= fun (r_2_3, o_2_3_0) =>
    some (r_2_3, (GTerm.mk a0.fOp a0.fN o_1_3_0 o_2_3_0))
def M_laws_markTerm (p : GTerm × Int) (r : Int × GTerm) : Prop :=
  match p with
  | (a0, k1) => FnSound Try.prog 21 [.agg [.int .i64 a0.fOp, .int .i64 a0.fN, .osl (List.map I a0.fType), .osl (List.map GTerm_O a0.fKids)], .int .i64 k1] (.int .i64 r.1) [.agg [.undef, .undef, .osl (List.map I r.2.fType), .osl (List.map GTerm_O r.2.fKids)], .undef]
theorem laws_markTerm_s : ∀ p r, laws_markTerm p = some r → M_laws_markTerm p r := by
  rintro ⟨a0, k1⟩ r h
  unfold laws_markTerm at h
  show FnSound Try.prog 21 [.agg [.int .i64 a0.fOp, .int .i64 a0.fN, .osl (List.map I a0.fType), .osl (List.map GTerm_O a0.fKids)], .int .i64 k1] (.int .i64 r.1) [.agg [.undef, .undef, .osl (List.map I r.2.fType), .osl (List.map GTerm_O r.2.fKids)], .undef]
  refine FnSound.bodyO tiok (fn := Try.f21) (code := B21) (by kernel_rfl) (by kernel_rfl) (by kernel_rfl) (nt := 14) (by kernel_rfl) (by kernel_rfl) (T := [(0, .agg [.int .i64 a0.fOp, .int .i64 a0.fN, .rs 1000, .rs 1001]), (1, .int .i64 k1)]) (O := [(1000, .arr (List.map I a0.fType)), (1001, .arr (List.map GTerm_O a0.fKids))]) (by kernel_rfl) (by kernel_rfl) (fun c hc => ?_)
  refine Wp.seqN (by kernel_rfl) ?_
  refine Wp.reg tiok mix hc (by kernel_rfl) (ah := none) (rs := [some (.new 1), some (.no)]) (kt := [1, 2]) (ko := [1, 1000, 1001]) (T' := [(1, .int .i64 k1), (2, .ra 1 0)]) (O' := [(1, .box [.int .i64 a0.fOp, .int .i64 a0.fN, .rs 1000, .rs 1001]), (1000, .arr (List.map I a0.fType)), (1001, .arr (List.map GTerm_O a0.fKids))]) (by kernel_rfl) trivial (by kernel_rfl) (by kernel_rfl) ?_
  refine seqQ_norm ?_
  refine Wp.seqN (by kernel_rfl) ?_
  obtain ⟨⟨r_1_3, o_1_3_0⟩, hr_1_3, h⟩ := bsome h
  refine Wp.reg tiok mix hc (by kernel_rfl) (ah := none) (rs := [some (.no), some (.no), some (.no), some (.call (.int .i64 r_1_3) [.osl (List.map I o_1_3_0), .undef] 1), some (.no)]) (kt := [1, 2]) (ko := [1, 1000, 1001]) (T' := [(1, .int .i64 r_1_3), (2, .ra 1 0)]) (O' := [(1, .box [.int .i64 a0.fOp, .int .i64 a0.fN, .rs 1000, .rs 1001]), (1000, .arr (List.map I o_1_3_0)), (1001, .arr (List.map GTerm_O a0.fKids))]) (by kernel_rfl) (And.intro (laws_markIntS_s _ _ hr_1_3) (And.intro bod_20 trivial)) (by kernel_rfl) (by kernel_rfl) ?_
  refine seqQ_norm ?_
  refine Wp.seqN (by kernel_rfl) ?_
  obtain ⟨⟨r_2_3, o_2_3_0⟩, hr_2_3, h⟩ := bsome h
  refine Wp.reg tiok mix hc (by kernel_rfl) (ah := none) (rs := [some (.no), some (.no), some (.no), some (.call (.int .i64 r_2_3) [.osl (List.map GTerm_O o_2_3_0), .undef] 1), some (.no)]) (kt := [1]) (ko := [1000, 1001]) (T' := [(1, .int .i64 r_2_3)]) (O' := [(1000, .arr (List.map I o_1_3_0)), (1001, .arr (List.map GTerm_O o_2_3_0))]) (by kernel_rfl) (And.intro (laws_markTermS_s _ _ hr_2_3) (And.intro bod_52 trivial)) (by kernel_rfl) (by kernel_rfl) ?_
  refine seqQ_norm ?_
  refine Wp.seqN (by kernel_rfl) ?_
  refine Wp.reg tiok mix hc (by kernel_rfl) (ah := none) (rs := [some (.no), some (.no)]) (kt := [4]) (ko := [1000, 1001]) (T' := [(4, .int .i64 r_2_3)]) (O' := [(1000, .arr (List.map I o_1_3_0)), (1001, .arr (List.map GTerm_O o_2_3_0))]) (by kernel_rfl) trivial (by kernel_rfl) (by kernel_rfl) ?_
  refine seqQ_norm ?_
  refine Wp.retN (by kernel_rfl) ?_
  obtain rfl := Option.some.inj h
  exact RetOQ.ret (fl := [true]) (by kernel_rfl)
def laws_heldIntS_F1 (c : Ctx) : (Int) ⊕ (Int) → Exit → AState → Prop
  | .inl k_7 => Into c (.exit 0) (mkS [(1, .int .i64 k_7)] [])
  | .inr r => RetE TIx Try.f53 [] (.int .i64 r)
def laws_heldIntS_l0 (p : (List Int) × Int × Int) : Option ((Int) ⊕ (Int)) :=
  match p with
  | (a0, k_3, i_4) =>
    if (decide (i_4 < (a0.length : Int))) = true then
      (idx a0 i_4) >>= fun e_4_2 =>
      if (e_4_2 != k_3) = true then
        some (.inr (-1))
      else
        laws_heldIntS_l0 (a0, (wr (k_3 + 1)), (wr (i_4 + 1)))
    else
      some (.inl k_3)
  partial_fixpoint
def M_laws_heldIntS_l0 (p : (List Int) × Int × Int) (fl : (Int) ⊕ (Int)) : Prop :=
  match p with
  | (a0, k_3, i_4) => ∀ c : Ctx, c.nt = 21 → WpL Try.prog c (cl (cl (cr (cl (cr B53))))) (laws_heldIntS_F1 c fl) (mkS [(0, .sl (List.map I a0)), (1, .int .i64 k_3), (5, .int .i64 i_4)] [])
theorem laws_heldIntS_l0_s : ∀ p r, laws_heldIntS_l0 p = some r → M_laws_heldIntS_l0 p r := by
  refine laws_heldIntS_l0.partial_correctness M_laws_heldIntS_l0 ?_
  rintro laws_heldIntS_l0_f laws_heldIntS_l0_ih ⟨a0, k_3, i_4⟩ r h
  intro c hc
  show WpL Try.prog c (cl (cl (cr (cl (cr B53))))) (laws_heldIntS_F1 c r) (mkS [(0, .sl (List.map I a0)), (1, .int .i64 k_3), (5, .int .i64 i_4)] [])
  refine WpL.step ?_
  refine Wp.seqN (by kernel_rfl) ?_
  refine Wp.seqN (by kernel_rfl) ?_
  refine Wp.reg tiok mix hc (by kernel_rfl) (ah := none) (rs := [some (.no), some (.no), some (.eqv (.no) ⟨[(8, .int .i64 (a0.length : Int))], [], []⟩), some (.no)]) (kt := [0, 1, 5, 9]) (ko := []) (T' := [(0, .sl (List.map I a0)), (1, .int .i64 k_3), (5, .int .i64 i_4), (9, .bool (decide (i_4 < (a0.length : Int))))]) (O' := []) (by kernel_rfl) (And.intro (lenT (d := 8) I a0) trivial) (by kernel_rfl) (by kernel_rfl) ?_
  refine seqQ_norm ?_
  rcases itesome h with ⟨hb_5, h⟩ | ⟨hb_5, h⟩
  · refine Wp.condT (b := (decide (i_4 < (a0.length : Int)))) (by kernel_rfl) (by kernel_rfl) hb_5 ?_
    refine Wp.skipN (by kernel_rfl) ?_
    refine seqQ_norm ?_
    refine Wp.seqN (by kernel_rfl) ?_
    refine Wp.blockN (i := 1) (by kernel_rfl) ?_
    refine Wp.seqN (by kernel_rfl) ?_
    refine Wp.seqN (by kernel_rfl) ?_
    obtain ⟨e_4_2, hi_4_2, h⟩ := bsome h
    refine Wp.reg tiok mix hc (by kernel_rfl) (ah := none) (rs := [some (.no), some (.no), some (.el (.int .i64 e_4_2)), some (.no), some (.no), some (.no)]) (kt := [0, 1, 5, 17]) (ko := []) (T' := [(0, .sl (List.map I a0)), (1, .int .i64 k_3), (5, .int .i64 i_4), (17, .bool (e_4_2 != k_3))]) (O' := []) (by kernel_rfl) (And.intro (idx_sl (enc := I) (x := .int .i64 e_4_2) hi_4_2 (eq_I e_4_2)) trivial) (by kernel_rfl) (by kernel_rfl) ?_
    refine seqQ_norm ?_
    rcases itesome h with ⟨hb_6, h⟩ | ⟨hb_6, h⟩
    · refine Wp.condT (b := (e_4_2 != k_3)) (by kernel_rfl) (by kernel_rfl) hb_6 ?_
      refine Wp.seqN (by kernel_rfl) ?_
      refine Wp.reg tiok mix hc (by kernel_rfl) (ah := none) (rs := [some (.no)]) (kt := [4]) (ko := []) (T' := [(4, .int .i64 (-1))]) (O' := []) (by kernel_rfl) trivial (by kernel_rfl) (by kernel_rfl) ?_
      refine seqQ_norm ?_
      refine Wp.retN (by kernel_rfl) ?_
      refine seqQ_ret ?_
      refine blockQ_ret ?_
      refine seqQ_ret ?_
      refine loopQ_ret ?_
      obtain rfl := Option.some.inj h
      exact RetE.ret (fl := [true]) (by kernel_rfl)
    · refine Wp.condF (b := (e_4_2 != k_3)) (by kernel_rfl) (by kernel_rfl) hb_6 ?_
      refine Wp.skipN (by kernel_rfl) ?_
      refine seqQ_norm ?_
      refine Wp.reg tiok mix hc (by kernel_rfl) (ah := none) (rs := [some (.no), some (.no), some (.no)]) (kt := [0, 1, 5]) (ko := []) (T' := [(0, .sl (List.map I a0)), (1, .int .i64 (wr (k_3 + 1))), (5, .int .i64 i_4)]) (O' := []) (by kernel_rfl) trivial (by kernel_rfl) (by kernel_rfl) ?_
      refine blockQ_norm ?_
      refine seqQ_norm ?_
      refine Wp.reg tiok mix hc (by kernel_rfl) (ah := none) (rs := [some (.no), some (.no), some (.no)]) (kt := [0, 1, 5]) (ko := []) (T' := [(0, .sl (List.map I a0)), (1, .int .i64 (wr (k_3 + 1))), (5, .int .i64 (wr (i_4 + 1)))]) (O' := []) (by kernel_rfl) trivial (by kernel_rfl) (by kernel_rfl) ?_
      refine loopQ_norm ?_
      exact (laws_heldIntS_l0_ih _ _ h c hc)
  · refine Wp.condF (b := (decide (i_4 < (a0.length : Int)))) (by kernel_rfl) (by kernel_rfl) hb_5 ?_
    refine Wp.exitN (i := 0) (by kernel_rfl) ?_
    refine seqQ_exit ?_
    refine loopQ_exit ?_
    obtain rfl := Option.some.inj h
    exact Into.view (fun a w hv => SRx.renL [] hv (by kernel_rfl) (by kernel_rfl) (by kernel_rfl))
def laws_heldIntS (p : (List Int) × Int) : Option (Int) :=
  match p with
  | (a0, k1) =>
    (laws_heldIntS_l0 (a0, k1, 0)) >>= fun fl => match fl with
    | .inl k_7 =>
      some k_7
    | .inr r =>
      some r
def M_laws_heldIntS (p : (List Int) × Int) (r : Int) : Prop :=
  match p with
  | (a0, k1) => FnSound Try.prog 53 [.sl (List.map I a0), .int .i64 k1] (.int .i64 r) []
theorem laws_heldIntS_s : ∀ p r, laws_heldIntS p = some r → M_laws_heldIntS p r := by
  rintro ⟨a0, k1⟩ r h
  unfold laws_heldIntS at h
  show FnSound Try.prog 53 [.sl (List.map I a0), .int .i64 k1] (.int .i64 r) []
  refine FnSound.body0 tiok (fn := Try.f53) (code := B53) (by kernel_rfl) (by kernel_rfl) (by kernel_rfl) (by kernel_rfl) (nt := 21) (by kernel_rfl) (by kernel_rfl) (T := [(0, .sl (List.map I a0)), (1, .int .i64 k1)]) (O := []) (by kernel_rfl) (by kernel_rfl) (fun c hc => ?_)
  refine Wp.seqN (by kernel_rfl) ?_
  refine Wp.reg tiok mix hc (by kernel_rfl) (ah := none) (rs := [some (.no)]) (kt := [0, 1]) (ko := []) (T' := [(0, .sl (List.map I a0)), (1, .int .i64 k1)]) (O' := []) (by kernel_rfl) trivial (by kernel_rfl) (by kernel_rfl) ?_
  refine seqQ_norm ?_
  refine Wp.seqN (by kernel_rfl) ?_
  refine Wp.seqN (by kernel_rfl) ?_
  refine Wp.reg tiok mix hc (by kernel_rfl) (ah := none) (rs := [some (.no)]) (kt := [0, 1, 5]) (ko := []) (T' := [(0, .sl (List.map I a0)), (1, .int .i64 k1), (5, .int .i64 0)]) (O' := []) (by kernel_rfl) trivial (by kernel_rfl) (by kernel_rfl) ?_
  refine seqQ_norm ?_
  refine Wp.blockN (i := 0) (by kernel_rfl) ?_
  obtain ⟨fl, hl_8, h⟩ := bsome h
  have hL := laws_heldIntS_l0_s _ _ hl_8 c hc
  refine Wp.loopN (by kernel_rfl) ?_
  rcases fl with k_7 | r
  · refine WpL.into (e := (.exit 0)) (mkS [(1, .int .i64 k_7)] []) hL ?_
    refine blockQ_hit ?_
    refine seqQ_norm ?_
    refine Wp.seqN (by kernel_rfl) ?_
    refine Wp.reg tiok mix hc (by kernel_rfl) (ah := none) (rs := [some (.no), some (.no)]) (kt := [4]) (ko := []) (T' := [(4, .int .i64 k_7)]) (O' := []) (by kernel_rfl) trivial (by kernel_rfl) (by kernel_rfl) ?_
    refine seqQ_norm ?_
    refine Wp.retN (by kernel_rfl) ?_
    obtain rfl := Option.some.inj h
    exact RetQ.ret (fl := [true]) (by kernel_rfl)
  · refine WpL.mono hL ?_
    rintro _ _ ⟨rfl, hfin⟩
    refine blockQ_ret ?_
    refine seqQ_ret ?_
    obtain rfl := Option.some.inj h
    exact ⟨.inl rfl, hfin⟩
def laws_heldTermS_F1 (c : Ctx) : (Int) ⊕ (Int) → Exit → AState → Prop
  | .inl k_13 => Into c (.exit 0) (mkS [(1, .int .i64 k_13)] [])
  | .inr r => RetE TIx Try.f54 [] (.int .i64 r)
mutual
def laws_heldTermS (p : (List GTerm) × Int) : Option (Int) :=
  match p with
  | (a0, k1) =>
    (laws_heldTermS_l0 (a0, k1, 0)) >>= fun fl => match fl with
    | .inl k_13 =>
      some k_13
    | .inr r =>
      some r
  partial_fixpoint
def laws_heldTermS_l0 (p : (List GTerm) × Int × Int) : Option ((Int) ⊕ (Int)) :=
  match p with
  | (a0, k_6, i_7) =>
    if (decide (i_7 < (a0.length : Int))) = true then
      (idx a0 i_7) >>= fun e_4_2 =>
      if (e_4_2.fOp != k_6) = true then
        some (.inr (-1))
      else
        (idx a0 i_7) >>= fun e_7_2 =>
        if (e_7_2.fN != (wr (k_6 + 1))) = true then
          some (.inr (-1))
        else
          (idx a0 i_7) >>= fun e_10_2 =>
          (laws_heldIntS (e_10_2.fType, (wr ((wr (k_6 + 1)) + 1)))) >>= fun r_10_6 =>
          if (decide (r_10_6 < 0)) = true then
            some (.inr (-1))
          else
            (idx a0 i_7) >>= fun e_13_2 =>
            (laws_heldTermS (e_13_2.fKids, r_10_6)) >>= fun r_13_6 =>
            if (decide (r_13_6 < 0)) = true then
              some (.inr (-1))
            else
              laws_heldTermS_l0 (a0, r_13_6, (wr (i_7 + 1)))
    else
      some (.inl k_6)
  partial_fixpoint
end
def M_laws_heldTermS (p : (List GTerm) × Int) (r : Int) : Prop :=
  match p with
  | (a0, k1) => FnSound Try.prog 54 [.sl (List.map GTerm_S a0), .int .i64 k1] (.int .i64 r) []
def M_laws_heldTermS_l0 (p : (List GTerm) × Int × Int) (fl : (Int) ⊕ (Int)) : Prop :=
  match p with
  | (a0, k_6, i_7) => ∀ c : Ctx, c.nt = 49 → WpL Try.prog c (cl (cl (cr (cl (cr B54))))) (laws_heldTermS_F1 c fl) (mkS [(0, .sl (List.map GTerm_S a0)), (1, .int .i64 k_6), (5, .int .i64 i_7)] [])
theorem laws_heldTermS_all : (∀ p r, laws_heldTermS p = some r → M_laws_heldTermS p r) ∧ (∀ p r, laws_heldTermS_l0 p = some r → M_laws_heldTermS_l0 p r) := by
  refine laws_heldTermS.mutual_partial_correctness M_laws_heldTermS M_laws_heldTermS_l0 ?_ ?_
  · rintro laws_heldTermS_l0_f laws_heldTermS_l0_ih ⟨a0, k1⟩ r h
    show FnSound Try.prog 54 [.sl (List.map GTerm_S a0), .int .i64 k1] (.int .i64 r) []
    refine FnSound.body0 tiok (fn := Try.f54) (code := B54) (by kernel_rfl) (by kernel_rfl) (by kernel_rfl) (by kernel_rfl) (nt := 49) (by kernel_rfl) (by kernel_rfl) (T := [(0, .sl (List.map GTerm_S a0)), (1, .int .i64 k1)]) (O := []) (by kernel_rfl) (by kernel_rfl) (fun c hc => ?_)
    refine Wp.seqN (by kernel_rfl) ?_
    refine Wp.reg tiok mix hc (by kernel_rfl) (ah := none) (rs := [some (.no)]) (kt := [0, 1]) (ko := []) (T' := [(0, .sl (List.map GTerm_S a0)), (1, .int .i64 k1)]) (O' := []) (by kernel_rfl) trivial (by kernel_rfl) (by kernel_rfl) ?_
    refine seqQ_norm ?_
    refine Wp.seqN (by kernel_rfl) ?_
    refine Wp.seqN (by kernel_rfl) ?_
    refine Wp.reg tiok mix hc (by kernel_rfl) (ah := none) (rs := [some (.no)]) (kt := [0, 1, 5]) (ko := []) (T' := [(0, .sl (List.map GTerm_S a0)), (1, .int .i64 k1), (5, .int .i64 0)]) (O' := []) (by kernel_rfl) trivial (by kernel_rfl) (by kernel_rfl) ?_
    refine seqQ_norm ?_
    refine Wp.blockN (i := 0) (by kernel_rfl) ?_
    obtain ⟨fl, hl_14, h⟩ := bsome h
    have hL := laws_heldTermS_l0_ih _ _ hl_14 c hc
    refine Wp.loopN (by kernel_rfl) ?_
    rcases fl with k_13 | r
    · refine WpL.into (e := (.exit 0)) (mkS [(1, .int .i64 k_13)] []) hL ?_
      refine blockQ_hit ?_
      refine seqQ_norm ?_
      refine Wp.seqN (by kernel_rfl) ?_
      refine Wp.reg tiok mix hc (by kernel_rfl) (ah := none) (rs := [some (.no), some (.no)]) (kt := [4]) (ko := []) (T' := [(4, .int .i64 k_13)]) (O' := []) (by kernel_rfl) trivial (by kernel_rfl) (by kernel_rfl) ?_
      refine seqQ_norm ?_
      refine Wp.retN (by kernel_rfl) ?_
      obtain rfl := Option.some.inj h
      exact RetQ.ret (fl := [true]) (by kernel_rfl)
    · refine WpL.mono hL ?_
      rintro _ _ ⟨rfl, hfin⟩
      refine blockQ_ret ?_
      refine seqQ_ret ?_
      obtain rfl := Option.some.inj h
      exact ⟨.inl rfl, hfin⟩
  · rintro laws_heldTermS_f laws_heldTermS_l0_f laws_heldTermS_ih laws_heldTermS_l0_ih ⟨a0, k_6, i_7⟩ r h
    intro c hc
    show WpL Try.prog c (cl (cl (cr (cl (cr B54))))) (laws_heldTermS_F1 c r) (mkS [(0, .sl (List.map GTerm_S a0)), (1, .int .i64 k_6), (5, .int .i64 i_7)] [])
    refine WpL.step ?_
    refine Wp.seqN (by kernel_rfl) ?_
    refine Wp.seqN (by kernel_rfl) ?_
    refine Wp.reg tiok mix hc (by kernel_rfl) (ah := none) (rs := [some (.no), some (.no), some (.eqv (.no) ⟨[(8, .int .i64 (a0.length : Int))], [], []⟩), some (.no)]) (kt := [0, 1, 5, 9]) (ko := []) (T' := [(0, .sl (List.map GTerm_S a0)), (1, .int .i64 k_6), (5, .int .i64 i_7), (9, .bool (decide (i_7 < (a0.length : Int))))]) (O' := []) (by kernel_rfl) (And.intro (lenT (d := 8) GTerm_S a0) trivial) (by kernel_rfl) (by kernel_rfl) ?_
    refine seqQ_norm ?_
    rcases itesome h with ⟨hb_8, h⟩ | ⟨hb_8, h⟩
    · refine Wp.condT (b := (decide (i_7 < (a0.length : Int)))) (by kernel_rfl) (by kernel_rfl) hb_8 ?_
      refine Wp.skipN (by kernel_rfl) ?_
      refine seqQ_norm ?_
      refine Wp.seqN (by kernel_rfl) ?_
      refine Wp.blockN (i := 1) (by kernel_rfl) ?_
      refine Wp.seqN (by kernel_rfl) ?_
      refine Wp.seqN (by kernel_rfl) ?_
      obtain ⟨e_4_2, hi_4_2, h⟩ := bsome h
      refine Wp.reg tiok mix hc (by kernel_rfl) (ah := none) (rs := [some (.no), some (.no), some (.el (.agg [.int .i64 e_4_2.fOp, .int .i64 e_4_2.fN, .sl (List.map I e_4_2.fType), .sl (List.map GTerm_S e_4_2.fKids)])), some (.no), some (.no), some (.no), some (.no)]) (kt := [0, 1, 5, 18]) (ko := []) (T' := [(0, .sl (List.map GTerm_S a0)), (1, .int .i64 k_6), (5, .int .i64 i_7), (18, .bool (e_4_2.fOp != k_6))]) (O' := []) (by kernel_rfl) (And.intro (idx_sl (enc := GTerm_S) (x := .agg [.int .i64 e_4_2.fOp, .int .i64 e_4_2.fN, .sl (List.map I e_4_2.fType), .sl (List.map GTerm_S e_4_2.fKids)]) hi_4_2 (eq_GTerm_S e_4_2)) trivial) (by kernel_rfl) (by kernel_rfl) ?_
      refine seqQ_norm ?_
      rcases itesome h with ⟨hb_9, h⟩ | ⟨hb_9, h⟩
      · refine Wp.condT (b := (e_4_2.fOp != k_6)) (by kernel_rfl) (by kernel_rfl) hb_9 ?_
        refine Wp.seqN (by kernel_rfl) ?_
        refine Wp.reg tiok mix hc (by kernel_rfl) (ah := none) (rs := [some (.no)]) (kt := [4]) (ko := []) (T' := [(4, .int .i64 (-1))]) (O' := []) (by kernel_rfl) trivial (by kernel_rfl) (by kernel_rfl) ?_
        refine seqQ_norm ?_
        refine Wp.retN (by kernel_rfl) ?_
        refine seqQ_ret ?_
        refine blockQ_ret ?_
        refine seqQ_ret ?_
        refine loopQ_ret ?_
        obtain rfl := Option.some.inj h
        exact RetE.ret (fl := [true]) (by kernel_rfl)
      · refine Wp.condF (b := (e_4_2.fOp != k_6)) (by kernel_rfl) (by kernel_rfl) hb_9 ?_
        refine Wp.skipN (by kernel_rfl) ?_
        refine seqQ_norm ?_
        refine Wp.seqN (by kernel_rfl) ?_
        refine Wp.reg tiok mix hc (by kernel_rfl) (ah := none) (rs := [some (.no), some (.no), some (.no)]) (kt := [0, 1, 5]) (ko := []) (T' := [(0, .sl (List.map GTerm_S a0)), (1, .int .i64 (wr (k_6 + 1))), (5, .int .i64 i_7)]) (O' := []) (by kernel_rfl) trivial (by kernel_rfl) (by kernel_rfl) ?_
        refine seqQ_norm ?_
        refine Wp.seqN (by kernel_rfl) ?_
        refine Wp.seqN (by kernel_rfl) ?_
        obtain ⟨e_7_2, hi_7_2, h⟩ := bsome h
        refine Wp.reg tiok mix hc (by kernel_rfl) (ah := none) (rs := [some (.no), some (.no), some (.el (.agg [.int .i64 e_7_2.fOp, .int .i64 e_7_2.fN, .sl (List.map I e_7_2.fType), .sl (List.map GTerm_S e_7_2.fKids)])), some (.no), some (.no), some (.no), some (.no)]) (kt := [0, 1, 5, 27]) (ko := []) (T' := [(0, .sl (List.map GTerm_S a0)), (1, .int .i64 (wr (k_6 + 1))), (5, .int .i64 i_7), (27, .bool (e_7_2.fN != (wr (k_6 + 1))))]) (O' := []) (by kernel_rfl) (And.intro (idx_sl (enc := GTerm_S) (x := .agg [.int .i64 e_7_2.fOp, .int .i64 e_7_2.fN, .sl (List.map I e_7_2.fType), .sl (List.map GTerm_S e_7_2.fKids)]) hi_7_2 (eq_GTerm_S e_7_2)) trivial) (by kernel_rfl) (by kernel_rfl) ?_
        refine seqQ_norm ?_
        rcases itesome h with ⟨hb_10, h⟩ | ⟨hb_10, h⟩
        · refine Wp.condT (b := (e_7_2.fN != (wr (k_6 + 1)))) (by kernel_rfl) (by kernel_rfl) hb_10 ?_
          refine Wp.seqN (by kernel_rfl) ?_
          refine Wp.reg tiok mix hc (by kernel_rfl) (ah := none) (rs := [some (.no)]) (kt := [4]) (ko := []) (T' := [(4, .int .i64 (-1))]) (O' := []) (by kernel_rfl) trivial (by kernel_rfl) (by kernel_rfl) ?_
          refine seqQ_norm ?_
          refine Wp.retN (by kernel_rfl) ?_
          refine seqQ_ret ?_
          refine blockQ_ret ?_
          refine seqQ_ret ?_
          refine loopQ_ret ?_
          obtain rfl := Option.some.inj h
          exact RetE.ret (fl := [true]) (by kernel_rfl)
        · refine Wp.condF (b := (e_7_2.fN != (wr (k_6 + 1)))) (by kernel_rfl) (by kernel_rfl) hb_10 ?_
          refine Wp.skipN (by kernel_rfl) ?_
          refine seqQ_norm ?_
          refine Wp.seqN (by kernel_rfl) ?_
          refine Wp.reg tiok mix hc (by kernel_rfl) (ah := none) (rs := [some (.no), some (.no), some (.no)]) (kt := [0, 1, 5]) (ko := []) (T' := [(0, .sl (List.map GTerm_S a0)), (1, .int .i64 (wr ((wr (k_6 + 1)) + 1))), (5, .int .i64 i_7)]) (O' := []) (by kernel_rfl) trivial (by kernel_rfl) (by kernel_rfl) ?_
          refine seqQ_norm ?_
          refine Wp.seqN (by kernel_rfl) ?_
          obtain ⟨e_10_2, hi_10_2, h⟩ := bsome h
          obtain ⟨r_10_6, hr_10_6, h⟩ := bsome h
          refine Wp.reg tiok mix hc (by kernel_rfl) (ah := none) (rs := [some (.no), some (.no), some (.el (.agg [.int .i64 e_10_2.fOp, .int .i64 e_10_2.fN, .sl (List.map I e_10_2.fType), .sl (List.map GTerm_S e_10_2.fKids)])), some (.no), some (.no), some (.no), some (.call (.int .i64 r_10_6) [] 1), some (.no)]) (kt := [0, 1, 5]) (ko := []) (T' := [(0, .sl (List.map GTerm_S a0)), (1, .int .i64 r_10_6), (5, .int .i64 i_7)]) (O' := []) (by kernel_rfl) (And.intro (idx_sl (enc := GTerm_S) (x := .agg [.int .i64 e_10_2.fOp, .int .i64 e_10_2.fN, .sl (List.map I e_10_2.fType), .sl (List.map GTerm_S e_10_2.fKids)]) hi_10_2 (eq_GTerm_S e_10_2)) (And.intro (laws_heldIntS_s _ _ hr_10_6) (And.intro bod_53 (And.intro (Or.inl rfl : ([] : List Nat) = [] ∨ noSh (.int .i64 r_10_6) = true) trivial)))) (by kernel_rfl) (by kernel_rfl) ?_
          refine seqQ_norm ?_
          refine Wp.seqN (by kernel_rfl) ?_
          refine Wp.seqN (by kernel_rfl) ?_
          refine Wp.reg tiok mix hc (by kernel_rfl) (ah := none) (rs := [some (.no), some (.no)]) (kt := [0, 1, 5, 38]) (ko := []) (T' := [(0, .sl (List.map GTerm_S a0)), (1, .int .i64 r_10_6), (5, .int .i64 i_7), (38, .bool (decide (r_10_6 < 0)))]) (O' := []) (by kernel_rfl) trivial (by kernel_rfl) (by kernel_rfl) ?_
          refine seqQ_norm ?_
          rcases itesome h with ⟨hb_11, h⟩ | ⟨hb_11, h⟩
          · refine Wp.condT (b := (decide (r_10_6 < 0))) (by kernel_rfl) (by kernel_rfl) hb_11 ?_
            refine Wp.seqN (by kernel_rfl) ?_
            refine Wp.reg tiok mix hc (by kernel_rfl) (ah := none) (rs := [some (.no)]) (kt := [4]) (ko := []) (T' := [(4, .int .i64 (-1))]) (O' := []) (by kernel_rfl) trivial (by kernel_rfl) (by kernel_rfl) ?_
            refine seqQ_norm ?_
            refine Wp.retN (by kernel_rfl) ?_
            refine seqQ_ret ?_
            refine blockQ_ret ?_
            refine seqQ_ret ?_
            refine loopQ_ret ?_
            obtain rfl := Option.some.inj h
            exact RetE.ret (fl := [true]) (by kernel_rfl)
          · refine Wp.condF (b := (decide (r_10_6 < 0))) (by kernel_rfl) (by kernel_rfl) hb_11 ?_
            refine Wp.skipN (by kernel_rfl) ?_
            refine seqQ_norm ?_
            refine Wp.seqN (by kernel_rfl) ?_
            obtain ⟨e_13_2, hi_13_2, h⟩ := bsome h
            obtain ⟨r_13_6, hr_13_6, h⟩ := bsome h
            refine Wp.reg tiok mix hc (by kernel_rfl) (ah := none) (rs := [some (.no), some (.no), some (.el (.agg [.int .i64 e_13_2.fOp, .int .i64 e_13_2.fN, .sl (List.map I e_13_2.fType), .sl (List.map GTerm_S e_13_2.fKids)])), some (.no), some (.no), some (.no), some (.call (.int .i64 r_13_6) [] 1), some (.no)]) (kt := [0, 1, 5]) (ko := []) (T' := [(0, .sl (List.map GTerm_S a0)), (1, .int .i64 r_13_6), (5, .int .i64 i_7)]) (O' := []) (by kernel_rfl) (And.intro (idx_sl (enc := GTerm_S) (x := .agg [.int .i64 e_13_2.fOp, .int .i64 e_13_2.fN, .sl (List.map I e_13_2.fType), .sl (List.map GTerm_S e_13_2.fKids)]) hi_13_2 (eq_GTerm_S e_13_2)) (And.intro (laws_heldTermS_ih _ _ hr_13_6) (And.intro bod_54 (And.intro (Or.inl rfl : ([] : List Nat) = [] ∨ noSh (.int .i64 r_13_6) = true) trivial)))) (by kernel_rfl) (by kernel_rfl) ?_
            refine seqQ_norm ?_
            refine Wp.seqN (by kernel_rfl) ?_
            refine Wp.reg tiok mix hc (by kernel_rfl) (ah := none) (rs := [some (.no), some (.no)]) (kt := [0, 1, 5, 47]) (ko := []) (T' := [(0, .sl (List.map GTerm_S a0)), (1, .int .i64 r_13_6), (5, .int .i64 i_7), (47, .bool (decide (r_13_6 < 0)))]) (O' := []) (by kernel_rfl) trivial (by kernel_rfl) (by kernel_rfl) ?_
            refine seqQ_norm ?_
            rcases itesome h with ⟨hb_12, h⟩ | ⟨hb_12, h⟩
            · refine Wp.condT (b := (decide (r_13_6 < 0))) (by kernel_rfl) (by kernel_rfl) hb_12 ?_
              refine Wp.seqN (by kernel_rfl) ?_
              refine Wp.reg tiok mix hc (by kernel_rfl) (ah := none) (rs := [some (.no)]) (kt := [4]) (ko := []) (T' := [(4, .int .i64 (-1))]) (O' := []) (by kernel_rfl) trivial (by kernel_rfl) (by kernel_rfl) ?_
              refine seqQ_norm ?_
              refine Wp.retN (by kernel_rfl) ?_
              refine blockQ_ret ?_
              refine seqQ_ret ?_
              refine loopQ_ret ?_
              obtain rfl := Option.some.inj h
              exact RetE.ret (fl := [true]) (by kernel_rfl)
            · refine Wp.condF (b := (decide (r_13_6 < 0))) (by kernel_rfl) (by kernel_rfl) hb_12 ?_
              refine Wp.skipN (by kernel_rfl) ?_
              refine blockQ_norm ?_
              refine seqQ_norm ?_
              refine Wp.reg tiok mix hc (by kernel_rfl) (ah := none) (rs := [some (.no), some (.no), some (.no)]) (kt := [0, 1, 5]) (ko := []) (T' := [(0, .sl (List.map GTerm_S a0)), (1, .int .i64 r_13_6), (5, .int .i64 (wr (i_7 + 1)))]) (O' := []) (by kernel_rfl) trivial (by kernel_rfl) (by kernel_rfl) ?_
              refine loopQ_norm ?_
              exact (laws_heldTermS_l0_ih _ _ h c hc)
    · refine Wp.condF (b := (decide (i_7 < (a0.length : Int)))) (by kernel_rfl) (by kernel_rfl) hb_8 ?_
      refine Wp.exitN (i := 0) (by kernel_rfl) ?_
      refine seqQ_exit ?_
      refine loopQ_exit ?_
      obtain rfl := Option.some.inj h
      exact Into.view (fun a w hv => SRx.renL [] hv (by kernel_rfl) (by kernel_rfl) (by kernel_rfl))
theorem laws_heldTermS_s : ∀ p r, laws_heldTermS p = some r → M_laws_heldTermS p r := laws_heldTermS_all.1
theorem laws_heldTermS_l0_s : ∀ p r, laws_heldTermS_l0 p = some r → M_laws_heldTermS_l0 p r := laws_heldTermS_all.2
def laws_heldTerm (p : GTerm × Int) : Option (Int) :=
  match p with
  | (a0, k1) =>
    (laws_heldIntS (a0.fType, k1)) >>= fun r_1_3 =>
    if (decide (r_1_3 < 0)) = true then
      some (-1)
    else
      (laws_heldTermS (a0.fKids, r_1_3)) >>= fun r_4_3 =>
      if (decide (r_4_3 < 0)) = true then
        some (-1)
      else
        some r_4_3
def M_laws_heldTerm (p : GTerm × Int) (r : Int) : Prop :=
  match p with
  | (a0, k1) => FnSound Try.prog 22 [.agg [.int .i64 a0.fOp, .int .i64 a0.fN, .sl (List.map I a0.fType), .sl (List.map GTerm_S a0.fKids)], .int .i64 k1] (.int .i64 r) []
theorem laws_heldTerm_s : ∀ p r, laws_heldTerm p = some r → M_laws_heldTerm p r := by
  rintro ⟨a0, k1⟩ r h
  unfold laws_heldTerm at h
  show FnSound Try.prog 22 [.agg [.int .i64 a0.fOp, .int .i64 a0.fN, .sl (List.map I a0.fType), .sl (List.map GTerm_S a0.fKids)], .int .i64 k1] (.int .i64 r) []
  refine FnSound.body0 tiok (fn := Try.f22) (code := B22) (by kernel_rfl) (by kernel_rfl) (by kernel_rfl) (by kernel_rfl) (nt := 18) (by kernel_rfl) (by kernel_rfl) (T := [(0, .agg [.int .i64 a0.fOp, .int .i64 a0.fN, .sl (List.map I a0.fType), .sl (List.map GTerm_S a0.fKids)]), (1, .int .i64 k1)]) (O := []) (by kernel_rfl) (by kernel_rfl) (fun c hc => ?_)
  refine Wp.seqN (by kernel_rfl) ?_
  refine Wp.reg tiok mix hc (by kernel_rfl) (ah := none) (rs := [some (.new 1), some (.no)]) (kt := [1, 2]) (ko := [1]) (T' := [(1, .int .i64 k1), (2, .ra 1 0)]) (O' := [(1, .box [.int .i64 a0.fOp, .int .i64 a0.fN, .sl (List.map I a0.fType), .sl (List.map GTerm_S a0.fKids)])]) (by kernel_rfl) trivial (by kernel_rfl) (by kernel_rfl) ?_
  refine seqQ_norm ?_
  refine Wp.seqN (by kernel_rfl) ?_
  obtain ⟨r_1_3, hr_1_3, h⟩ := bsome h
  refine Wp.reg tiok mix hc (by kernel_rfl) (ah := none) (rs := [some (.no), some (.no), some (.no), some (.call (.int .i64 r_1_3) [] 1), some (.no)]) (kt := [1, 2]) (ko := [1]) (T' := [(1, .int .i64 r_1_3), (2, .ra 1 0)]) (O' := [(1, .box [.int .i64 a0.fOp, .int .i64 a0.fN, .sl (List.map I a0.fType), .sl (List.map GTerm_S a0.fKids)])]) (by kernel_rfl) (And.intro (laws_heldIntS_s _ _ hr_1_3) (And.intro bod_53 (And.intro (Or.inl rfl : ([] : List Nat) = [] ∨ noSh (.int .i64 r_1_3) = true) trivial))) (by kernel_rfl) (by kernel_rfl) ?_
  refine seqQ_norm ?_
  refine Wp.seqN (by kernel_rfl) ?_
  refine Wp.seqN (by kernel_rfl) ?_
  refine Wp.reg tiok mix hc (by kernel_rfl) (ah := none) (rs := [some (.no), some (.no)]) (kt := [1, 2, 10]) (ko := [1]) (T' := [(1, .int .i64 r_1_3), (2, .ra 1 0), (10, .bool (decide (r_1_3 < 0)))]) (O' := [(1, .box [.int .i64 a0.fOp, .int .i64 a0.fN, .sl (List.map I a0.fType), .sl (List.map GTerm_S a0.fKids)])]) (by kernel_rfl) trivial (by kernel_rfl) (by kernel_rfl) ?_
  refine seqQ_norm ?_
  rcases itesome h with ⟨hb_1, h⟩ | ⟨hb_1, h⟩
  · refine Wp.condT (b := (decide (r_1_3 < 0))) (by kernel_rfl) (by kernel_rfl) hb_1 ?_
    refine Wp.seqN (by kernel_rfl) ?_
    refine Wp.reg tiok mix hc (by kernel_rfl) (ah := none) (rs := [some (.no)]) (kt := [4]) (ko := []) (T' := [(4, .int .i64 (-1))]) (O' := []) (by kernel_rfl) trivial (by kernel_rfl) (by kernel_rfl) ?_
    refine seqQ_norm ?_
    refine Wp.retN (by kernel_rfl) ?_
    refine seqQ_ret ?_
    obtain rfl := Option.some.inj h
    exact RetQ.ret (fl := [true]) (by kernel_rfl)
  · refine Wp.condF (b := (decide (r_1_3 < 0))) (by kernel_rfl) (by kernel_rfl) hb_1 ?_
    refine Wp.skipN (by kernel_rfl) ?_
    refine seqQ_norm ?_
    refine Wp.seqN (by kernel_rfl) ?_
    obtain ⟨r_4_3, hr_4_3, h⟩ := bsome h
    refine Wp.reg tiok mix hc (by kernel_rfl) (ah := none) (rs := [some (.no), some (.no), some (.no), some (.call (.int .i64 r_4_3) [] 1), some (.no)]) (kt := [1]) (ko := []) (T' := [(1, .int .i64 r_4_3)]) (O' := []) (by kernel_rfl) (And.intro (laws_heldTermS_s _ _ hr_4_3) (And.intro bod_54 (And.intro (Or.inl rfl : ([] : List Nat) = [] ∨ noSh (.int .i64 r_4_3) = true) trivial))) (by kernel_rfl) (by kernel_rfl) ?_
    refine seqQ_norm ?_
    refine Wp.seqN (by kernel_rfl) ?_
    refine Wp.seqN (by kernel_rfl) ?_
    refine Wp.reg tiok mix hc (by kernel_rfl) (ah := none) (rs := [some (.no), some (.no)]) (kt := [1, 16]) (ko := []) (T' := [(1, .int .i64 r_4_3), (16, .bool (decide (r_4_3 < 0)))]) (O' := []) (by kernel_rfl) trivial (by kernel_rfl) (by kernel_rfl) ?_
    refine seqQ_norm ?_
    rcases itesome h with ⟨hb_2, h⟩ | ⟨hb_2, h⟩
    · refine Wp.condT (b := (decide (r_4_3 < 0))) (by kernel_rfl) (by kernel_rfl) hb_2 ?_
      refine Wp.seqN (by kernel_rfl) ?_
      refine Wp.reg tiok mix hc (by kernel_rfl) (ah := none) (rs := [some (.no)]) (kt := [4]) (ko := []) (T' := [(4, .int .i64 (-1))]) (O' := []) (by kernel_rfl) trivial (by kernel_rfl) (by kernel_rfl) ?_
      refine seqQ_norm ?_
      refine Wp.retN (by kernel_rfl) ?_
      refine seqQ_ret ?_
      obtain rfl := Option.some.inj h
      exact RetQ.ret (fl := [true]) (by kernel_rfl)
    · refine Wp.condF (b := (decide (r_4_3 < 0))) (by kernel_rfl) (by kernel_rfl) hb_2 ?_
      refine Wp.skipN (by kernel_rfl) ?_
      refine seqQ_norm ?_
      refine Wp.seqN (by kernel_rfl) ?_
      refine Wp.reg tiok mix hc (by kernel_rfl) (ah := none) (rs := [some (.no), some (.no)]) (kt := [4]) (ko := []) (T' := [(4, .int .i64 r_4_3)]) (O' := []) (by kernel_rfl) trivial (by kernel_rfl) (by kernel_rfl) ?_
      refine seqQ_norm ?_
      refine Wp.retN (by kernel_rfl) ?_
      obtain rfl := Option.some.inj h
      exact RetQ.ret (fl := [true]) (by kernel_rfl)
end Go.Am
