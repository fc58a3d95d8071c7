/- Functions of the program as pure functions, and that it computes them. Printed by a program of mine (gen.py). -/
import Derived.Test.YtmdfopkcoinfeaaGEVF11
set_option linter.unusedVariables false
set_option linter.unusedSimpArgs false
set_option maxRecDepth 100000
namespace Go.Am
open Go Go.Proofs
mutual
def laws_markTermS (p : (List GTerm) × Int) : Option (Int × (List GTerm)) :=
 match p with
 | (a0, k1) =>
  (laws_markTermS_l0 (a0, k1, 0)) >>= fun (k_6, x_7) =>
  some (k_6, x_7)
 partial_fixpoint
def laws_markTermS_l0 (p : (List GTerm) × Int × Int) : Option (Int × (List GTerm)) :=
 match p with
 | (a_2, k_3, i_4) =>
  if (decide (i_4 < (a_2.length : Int))) = true then
   (idx a_2 i_4) >>= fun e_4_3 =>
   (idx (List.set a_2 (Int.toNat i_4) (GTerm.mk k_3 e_4_3.fN e_4_3.fType e_4_3.fKids)) i_4) >>= fun e_6_3 =>
   (idx (List.set (List.set a_2 (Int.toNat i_4) (GTerm.mk k_3 e_4_3.fN e_4_3.fType e_4_3.fKids)) (Int.toNat i_4) (GTerm.mk e_6_3.fOp (wr (k_3 + 1)) e_6_3.fType e_6_3.fKids)) i_4) >>= fun e_8_x =>
   (laws_markIntS (e_8_x.fType, (wr ((wr (k_3 + 1)) + 1)))) >>= fun (r_8_6, o_8_6_0) =>
   (idx (List.set (List.set (List.set a_2 (Int.toNat i_4) (GTerm.mk k_3 e_4_3.fN e_4_3.fType e_4_3.fKids)) (Int.toNat i_4) (GTerm.mk e_6_3.fOp (wr (k_3 + 1)) e_6_3.fType e_6_3.fKids)) (Int.toNat i_4) (GTerm.mk e_8_x.fOp e_8_x.fN o_8_6_0 e_8_x.fKids)) i_4) >>= fun e_9_x =>
   (laws_markTermS (e_9_x.fKids, r_8_6)) >>= fun (r_9_6, o_9_6_0) =>
   laws_markTermS_l0 ((List.set (List.set (List.set (List.set a_2 (Int.toNat i_4) (GTerm.mk k_3 e_4_3.fN e_4_3.fType e_4_3.fKids)) (Int.toNat i_4) (GTerm.mk e_6_3.fOp (wr (k_3 + 1)) e_6_3.fType e_6_3.fKids)) (Int.toNat i_4) (GTerm.mk e_8_x.fOp e_8_x.fN o_8_6_0 e_8_x.fKids)) (Int.toNat i_4) (GTerm.mk e_9_x.fOp e_9_x.fN e_9_x.fType o_9_6_0)), r_9_6, (wr (i_4 + 1)))
  else
   some ((k_3, a_2))
 partial_fixpoint
end
def M_laws_markTermS (p : (List GTerm) × Int) (r : Int × (List GTerm)) : Prop :=
 match p with
 | (a0, k1) => FnSound Try.prog 53 [.osl (List.map GTerm_O a0), I k1] (I r.1) [.osl (List.map GTerm_O r.2), .undef]
def M_laws_markTermS_l0 (p : (List GTerm) × Int × Int) (fl : Int × (List GTerm)) : Prop :=
 match p with
 | (a_2, k_3, i_4) => ∀ c : Ctx, c.nt = 41 → WpL Try.prog c (cl (cl (cr (cl (cr B53))))) (laws_markTermS_F1 c fl) (mkS [(0, .rs 1000), (1, I k_3), (5, I i_4)] [(1000, .arr (List.map GTerm_O a_2))])
theorem laws_markTermS_all : (∀ p r, laws_markTermS p = some r → M_laws_markTermS p r) ∧ (∀ p r, laws_markTermS_l0 p = some r → M_laws_markTermS_l0 p r) := by
 refine laws_markTermS.mutual_partial_correctness M_laws_markTermS M_laws_markTermS_l0 ?_ ?_
 ·rintro laws_markTermS_l0_f laws_markTermS_l0_ih ⟨a0, k1⟩ r h
  show FnSound Try.prog 53 [.osl (List.map GTerm_O a0), I k1] (I r.1) [.osl (List.map GTerm_O r.2), .undef]
  refine FnSound.bodyO tiok (fn := Try.f53) (code := B53) (by kernel_rfl) (by kernel_rfl) (by kernel_rfl) (nt := 41) (by kernel_rfl) (by kernel_rfl) (T := [(0, .rs 1000), (1, I k1)]) (O := [(1000, .arr (List.map GTerm_O a0))]) (by kernel_rfl) (by kernel_rfl) (fun c hc => ?_)
  refine sN ?_
  refine rg0 hc 1 [(0, .rs 1000), (1, I k1)] [(1000, .arr (List.map GTerm_O a0))] ?_
  refine seqQ_norm ?_
  refine sN ?_
  refine sN ?_
  refine rg0 hc 1 [(0, .rs 1000), (1, I k1), (5, I 0)] [(1000, .arr (List.map GTerm_O a0))] ?_
  refine seqQ_norm ?_
  refine Wp.blockN (i := 0) (by kernel_rfl) ?_
  obtain ⟨⟨k_6, x_7⟩, hl_8, h⟩ := bsome h
  have hL := laws_markTermS_l0_ih _ _ hl_8 c hc
  refine Wp.loopN (by kernel_rfl) ?_
  ·refine WpL.into (e := (.exit 0)) (mkS [(1, I k_6)] [(1000, .arr (List.map GTerm_O x_7))]) hL ?_
   refine blockQ_hit ?_
   refine seqQ_norm ?_
   refine sN ?_
   refine rg0 hc 2 [(4, I k_6)] [(1000, .arr (List.map GTerm_O x_7))] ?_
   refine seqQ_norm ?_
   refine Wp.retN (by kernel_rfl) ?_
   obtain rfl := Option.some.inj h
   exact RetOQ.ret (fl := [true]) (by kernel_rfl)
 ·rintro laws_markTermS_f laws_markTermS_l0_f laws_markTermS_ih laws_markTermS_l0_ih ⟨a_2, k_3, i_4⟩ r h
  intro c hc
  show WpL Try.prog c (cl (cl (cr (cl (cr B53))))) (laws_markTermS_F1 c r) (mkS [(0, .rs 1000), (1, I k_3), (5, I i_4)] [(1000, .arr (List.map GTerm_O a_2))])
  refine WpL.step ?_
  refine sN ?_
  refine sN ?_
  refine rg hc none [oN, oN, some (.eqv (.no) ⟨[(8, I (a_2.length : Int))], [], []⟩), oN] [(0, .rs 1000), (1, I k_3), (5, I i_4), (9, .bool (decide (i_4 < (a_2.length : Int))))] [(1000, .arr (List.map GTerm_O a_2))] (ai (lenT (d := 8) GTerm_O a_2) trivial) ?_
  refine seqQ_norm ?_
  rcases itesome h with ⟨hb_5, h⟩ | ⟨hb_5, h⟩
  ·refine cT ((decide (i_4 < (a_2.length : Int)))) hb_5 ?_
   refine Wp.skipN (by kernel_rfl) ?_
   refine seqQ_norm ?_
   refine sN ?_
   refine Wp.blockN (i := 1) (by kernel_rfl) ?_
   refine sN ?_
   obtain ⟨e_4_3, hi_4_3, h⟩ := bsome h
   refine rg hc none [oN, oN, oN, oN, oN, some (.eqv (.el (qTerm e_4_3)) ⟨[], [(1000, some (.arr (List.map GTerm_O (List.set a_2 (Int.toNat i_4) (GTerm.mk k_3 e_4_3.fN e_4_3.fType e_4_3.fKids)))))], []⟩)] [(0, .rs 1000), (1, I k_3), (5, I i_4)] [(1000, .arr (List.map GTerm_O (List.set a_2 (Int.toNat i_4) (GTerm.mk k_3 e_4_3.fN e_4_3.fType e_4_3.fKids))))] (ai (idx_own (enc := GTerm_O) hi_4_3) (ai (congrArg (fun z => (⟨[], [(1000, some (.arr z))], []⟩ : Wr)) (set_row (enc := GTerm_O) (i := Int.toNat i_4) (l := a_2) (v := (GTerm.mk k_3 e_4_3.fN e_4_3.fType e_4_3.fKids)) (x := AV.agg [I k_3, I e_4_3.fN, .osl (List.map I e_4_3.fType), .osl (List.map GTerm_O e_4_3.fKids)]) (eq_GTerm_O (GTerm.mk k_3 e_4_3.fN e_4_3.fType e_4_3.fKids)))) (ai (idx_sl (enc := GTerm_O) (x := qTerm e_4_3) hi_4_3 (eq_GTerm_O e_4_3)).2 trivial))) ?_
   refine seqQ_norm ?_
   refine sN ?_
   refine rg0 hc 3 [(0, .rs 1000), (1, I (wr (k_3 + 1))), (5, I i_4)] [(1000, .arr (List.map GTerm_O (List.set a_2 (Int.toNat i_4) (GTerm.mk k_3 e_4_3.fN e_4_3.fType e_4_3.fKids))))] ?_
   refine seqQ_norm ?_
   refine sN ?_
   obtain ⟨e_6_3, hi_6_3, h⟩ := bsome h
   refine rg hc none [oN, oN, oN, oN, oN, some (.eqv (.el (qTerm e_6_3)) ⟨[], [(1000, some (.arr (List.map GTerm_O (List.set (List.set a_2 (Int.toNat i_4) (GTerm.mk k_3 e_4_3.fN e_4_3.fType e_4_3.fKids)) (Int.toNat i_4) (GTerm.mk e_6_3.fOp (wr (k_3 + 1)) e_6_3.fType e_6_3.fKids)))))], []⟩)] [(0, .rs 1000), (1, I (wr (k_3 + 1))), (5, I i_4)] [(1000, .arr (List.map GTerm_O (List.set (List.set a_2 (Int.toNat i_4) (GTerm.mk k_3 e_4_3.fN e_4_3.fType e_4_3.fKids)) (Int.toNat i_4) (GTerm.mk e_6_3.fOp (wr (k_3 + 1)) e_6_3.fType e_6_3.fKids))))] (ai (idx_own (enc := GTerm_O) hi_6_3) (ai (congrArg (fun z => (⟨[], [(1000, some (.arr z))], []⟩ : Wr)) (set_row (enc := GTerm_O) (i := Int.toNat i_4) (l := (List.set a_2 (Int.toNat i_4) (GTerm.mk k_3 e_4_3.fN e_4_3.fType e_4_3.fKids))) (v := (GTerm.mk e_6_3.fOp (wr (k_3 + 1)) e_6_3.fType e_6_3.fKids)) (x := AV.agg [I e_6_3.fOp, I (wr (k_3 + 1)), .osl (List.map I e_6_3.fType), .osl (List.map GTerm_O e_6_3.fKids)]) (eq_GTerm_O (GTerm.mk e_6_3.fOp (wr (k_3 + 1)) e_6_3.fType e_6_3.fKids)))) (ai (idx_sl (enc := GTerm_O) (x := qTerm e_6_3) hi_6_3 (eq_GTerm_O e_6_3)).2 trivial))) ?_
   refine seqQ_norm ?_
   refine sN ?_
   refine rg0 hc 3 [(0, .rs 1000), (1, I (wr ((wr (k_3 + 1)) + 1))), (5, I i_4)] [(1000, .arr (List.map GTerm_O (List.set (List.set a_2 (Int.toNat i_4) (GTerm.mk k_3 e_4_3.fN e_4_3.fType e_4_3.fKids)) (Int.toNat i_4) (GTerm.mk e_6_3.fOp (wr (k_3 + 1)) e_6_3.fType e_6_3.fKids))))] ?_
   refine seqQ_norm ?_
   refine sN ?_
   obtain ⟨e_8_x, hx_8_x, h⟩ := bsome h
   refine Wp.view (fun a w hv => SRx.openL 1000 (Int.toNat i_4) 2 3 [3, 1000] (xs := List.map GTerm_O (List.set (List.set a_2 (Int.toNat i_4) (GTerm.mk k_3 e_4_3.fN e_4_3.fType e_4_3.fKids)) (Int.toNat i_4) (GTerm.mk e_6_3.fOp (wr (k_3 + 1)) e_6_3.fType e_6_3.fKids))) (ys := List.map I e_8_x.fType) (x0 := qTerm e_8_x) hv (by kernel_rfl) (idx_sl (enc := GTerm_O) (x := qTerm e_8_x) hx_8_x (eq_GTerm_O e_8_x)).2 (by kernel_rfl) (by kernel_rfl) (by kernel_rfl)) (?_ : Wp Try.prog c _ _ (mkS [(0, .rs 1000), (1, I (wr ((wr (k_3 + 1)) + 1))), (5, I i_4)] [(3, .arr (List.map I e_8_x.fType)), (1000, .arx (List.map GTerm_O (List.set (List.set a_2 (Int.toNat i_4) (GTerm.mk k_3 e_4_3.fN e_4_3.fType e_4_3.fKids)) (Int.toNat i_4) (GTerm.mk e_6_3.fOp (wr (k_3 + 1)) e_6_3.fType e_6_3.fKids))) (Int.toNat i_4) 2 3)]))
   obtain ⟨⟨r_8_6, o_8_6_0⟩, hr_8_6, h⟩ := bsome h
   refine rg hc none [oN, oN, oN, oN, some (.el (qTerm e_8_x)), oN, some (.call (I r_8_6) [.osl (List.map I o_8_6_0), .undef] 1), oN] [(0, .rs 1000), (1, I r_8_6), (5, I i_4)] [(3, .arr (List.map I o_8_6_0)), (1000, .arx (List.map GTerm_O (List.set (List.set a_2 (Int.toNat i_4) (GTerm.mk k_3 e_4_3.fN e_4_3.fType e_4_3.fKids)) (Int.toNat i_4) (GTerm.mk e_6_3.fOp (wr (k_3 + 1)) e_6_3.fType e_6_3.fKids))) (Int.toNat i_4) 2 3)] (ai (idx_own (enc := GTerm_O) hx_8_x) (ai (And.intro (idx_sl (enc := GTerm_O) (x := qTerm e_8_x) hx_8_x (eq_GTerm_O e_8_x)).2 (rfl : Int.toNat i_4 = Int.toNat i_4)) (ai (laws_markIntS_s _ _ hr_8_6) (ai bod_29 trivial)))) ?_
   refine seqQ_norm ?_
   refine Wp.view (fun a w hv => SRx.closeL 1000 (Int.toNat i_4) 2 3 [1000] (xs := List.map GTerm_O (List.set (List.set a_2 (Int.toNat i_4) (GTerm.mk k_3 e_4_3.fN e_4_3.fType e_4_3.fKids)) (Int.toNat i_4) (GTerm.mk e_6_3.fOp (wr (k_3 + 1)) e_6_3.fType e_6_3.fKids))) (ys := List.map I o_8_6_0) (x0 := qTerm e_8_x) (x1 := AV.agg [I e_8_x.fOp, I e_8_x.fN, .osl (List.map I o_8_6_0), .osl (List.map GTerm_O e_8_x.fKids)]) hv (by kernel_rfl) (by kernel_rfl) (by kernel_rfl) (idx_sl (enc := GTerm_O) (x := qTerm e_8_x) hx_8_x (eq_GTerm_O e_8_x)).2 (by kernel_rfl) (by kernel_rfl : _ = AV.agg [I e_8_x.fOp, I e_8_x.fN, .osl (List.map I o_8_6_0), .osl (List.map GTerm_O e_8_x.fKids)]) (set_row (enc := GTerm_O) (i := Int.toNat i_4) (l := (List.set (List.set a_2 (Int.toNat i_4) (GTerm.mk k_3 e_4_3.fN e_4_3.fType e_4_3.fKids)) (Int.toNat i_4) (GTerm.mk e_6_3.fOp (wr (k_3 + 1)) e_6_3.fType e_6_3.fKids))) (v := (GTerm.mk e_8_x.fOp e_8_x.fN o_8_6_0 e_8_x.fKids)) (x := AV.agg [I e_8_x.fOp, I e_8_x.fN, .osl (List.map I o_8_6_0), .osl (List.map GTerm_O e_8_x.fKids)]) (eq_GTerm_O (GTerm.mk e_8_x.fOp e_8_x.fN o_8_6_0 e_8_x.fKids))) (by kernel_rfl)) (?_ : Wp Try.prog c _ _ (mkS [(0, .rs 1000), (1, I r_8_6), (5, I i_4)] [(1000, .arr (List.map GTerm_O (List.set (List.set (List.set a_2 (Int.toNat i_4) (GTerm.mk k_3 e_4_3.fN e_4_3.fType e_4_3.fKids)) (Int.toNat i_4) (GTerm.mk e_6_3.fOp (wr (k_3 + 1)) e_6_3.fType e_6_3.fKids)) (Int.toNat i_4) (GTerm.mk e_8_x.fOp e_8_x.fN o_8_6_0 e_8_x.fKids))))]))
   obtain ⟨e_9_x, hx_9_x, h⟩ := bsome h
   refine Wp.view (fun a w hv => SRx.openL 1000 (Int.toNat i_4) 3 4 [4, 1000] (xs := List.map GTerm_O (List.set (List.set (List.set a_2 (Int.toNat i_4) (GTerm.mk k_3 e_4_3.fN e_4_3.fType e_4_3.fKids)) (Int.toNat i_4) (GTerm.mk e_6_3.fOp (wr (k_3 + 1)) e_6_3.fType e_6_3.fKids)) (Int.toNat i_4) (GTerm.mk e_8_x.fOp e_8_x.fN o_8_6_0 e_8_x.fKids))) (ys := List.map GTerm_O e_9_x.fKids) (x0 := qTerm e_9_x) hv (by kernel_rfl) (idx_sl (enc := GTerm_O) (x := qTerm e_9_x) hx_9_x (eq_GTerm_O e_9_x)).2 (by kernel_rfl) (by kernel_rfl) (by kernel_rfl)) (?_ : Wp Try.prog c _ _ (mkS [(0, .rs 1000), (1, I r_8_6), (5, I i_4)] [(4, .arr (List.map GTerm_O e_9_x.fKids)), (1000, .arx (List.map GTerm_O (List.set (List.set (List.set a_2 (Int.toNat i_4) (GTerm.mk k_3 e_4_3.fN e_4_3.fType e_4_3.fKids)) (Int.toNat i_4) (GTerm.mk e_6_3.fOp (wr (k_3 + 1)) e_6_3.fType e_6_3.fKids)) (Int.toNat i_4) (GTerm.mk e_8_x.fOp e_8_x.fN o_8_6_0 e_8_x.fKids))) (Int.toNat i_4) 3 4)]))
   obtain ⟨⟨r_9_6, o_9_6_0⟩, hr_9_6, h⟩ := bsome h
   refine rg hc none [oN, oN, oN, oN, some (.el (qTerm e_9_x)), oN, some (.call (I r_9_6) [.osl (List.map GTerm_O o_9_6_0), .undef] 1), oN] [(0, .rs 1000), (1, I r_9_6), (5, I i_4)] [(4, .arr (List.map GTerm_O o_9_6_0)), (1000, .arx (List.map GTerm_O (List.set (List.set (List.set a_2 (Int.toNat i_4) (GTerm.mk k_3 e_4_3.fN e_4_3.fType e_4_3.fKids)) (Int.toNat i_4) (GTerm.mk e_6_3.fOp (wr (k_3 + 1)) e_6_3.fType e_6_3.fKids)) (Int.toNat i_4) (GTerm.mk e_8_x.fOp e_8_x.fN o_8_6_0 e_8_x.fKids))) (Int.toNat i_4) 3 4)] (ai (idx_own (enc := GTerm_O) hx_9_x) (ai (And.intro (idx_sl (enc := GTerm_O) (x := qTerm e_9_x) hx_9_x (eq_GTerm_O e_9_x)).2 (rfl : Int.toNat i_4 = Int.toNat i_4)) (ai (laws_markTermS_ih _ _ hr_9_6) (ai bod_53 trivial)))) ?_
   refine blockQ_norm ?_
   refine seqQ_norm ?_
   refine Wp.view (fun a w hv => SRx.closeL 1000 (Int.toNat i_4) 3 4 [1000] (xs := List.map GTerm_O (List.set (List.set (List.set a_2 (Int.toNat i_4) (GTerm.mk k_3 e_4_3.fN e_4_3.fType e_4_3.fKids)) (Int.toNat i_4) (GTerm.mk e_6_3.fOp (wr (k_3 + 1)) e_6_3.fType e_6_3.fKids)) (Int.toNat i_4) (GTerm.mk e_8_x.fOp e_8_x.fN o_8_6_0 e_8_x.fKids))) (ys := List.map GTerm_O o_9_6_0) (x0 := qTerm e_9_x) (x1 := AV.agg [I e_9_x.fOp, I e_9_x.fN, .osl (List.map I e_9_x.fType), .osl (List.map GTerm_O o_9_6_0)]) hv (by kernel_rfl) (by kernel_rfl) (by kernel_rfl) (idx_sl (enc := GTerm_O) (x := qTerm e_9_x) hx_9_x (eq_GTerm_O e_9_x)).2 (by kernel_rfl) (by kernel_rfl : _ = AV.agg [I e_9_x.fOp, I e_9_x.fN, .osl (List.map I e_9_x.fType), .osl (List.map GTerm_O o_9_6_0)]) (set_row (enc := GTerm_O) (i := Int.toNat i_4) (l := (List.set (List.set (List.set a_2 (Int.toNat i_4) (GTerm.mk k_3 e_4_3.fN e_4_3.fType e_4_3.fKids)) (Int.toNat i_4) (GTerm.mk e_6_3.fOp (wr (k_3 + 1)) e_6_3.fType e_6_3.fKids)) (Int.toNat i_4) (GTerm.mk e_8_x.fOp e_8_x.fN o_8_6_0 e_8_x.fKids))) (v := (GTerm.mk e_9_x.fOp e_9_x.fN e_9_x.fType o_9_6_0)) (x := AV.agg [I e_9_x.fOp, I e_9_x.fN, .osl (List.map I e_9_x.fType), .osl (List.map GTerm_O o_9_6_0)]) (eq_GTerm_O (GTerm.mk e_9_x.fOp e_9_x.fN e_9_x.fType o_9_6_0))) (by kernel_rfl)) (?_ : Wp Try.prog c _ _ (mkS [(0, .rs 1000), (1, I r_9_6), (5, I i_4)] [(1000, .arr (List.map GTerm_O (List.set (List.set (List.set (List.set a_2 (Int.toNat i_4) (GTerm.mk k_3 e_4_3.fN e_4_3.fType e_4_3.fKids)) (Int.toNat i_4) (GTerm.mk e_6_3.fOp (wr (k_3 + 1)) e_6_3.fType e_6_3.fKids)) (Int.toNat i_4) (GTerm.mk e_8_x.fOp e_8_x.fN o_8_6_0 e_8_x.fKids)) (Int.toNat i_4) (GTerm.mk e_9_x.fOp e_9_x.fN e_9_x.fType o_9_6_0))))]))
   refine rg0 hc 3 [(0, .rs 1000), (1, I r_9_6), (5, I (wr (i_4 + 1)))] [(1000, .arr (List.map GTerm_O (List.set (List.set (List.set (List.set a_2 (Int.toNat i_4) (GTerm.mk k_3 e_4_3.fN e_4_3.fType e_4_3.fKids)) (Int.toNat i_4) (GTerm.mk e_6_3.fOp (wr (k_3 + 1)) e_6_3.fType e_6_3.fKids)) (Int.toNat i_4) (GTerm.mk e_8_x.fOp e_8_x.fN o_8_6_0 e_8_x.fKids)) (Int.toNat i_4) (GTerm.mk e_9_x.fOp e_9_x.fN e_9_x.fType o_9_6_0))))] ?_
   refine loopQ_norm ?_
   exact (laws_markTermS_l0_ih _ _ h c hc)
  ·refine cF ((decide (i_4 < (a_2.length : Int)))) hb_5 ?_
   refine Wp.exitN (i := 0) (by kernel_rfl) ?_
   refine seqQ_exit ?_
   refine loopQ_exit ?_
   obtain ⟨rfl, rfl⟩ := Prod.mk.inj (Option.some.inj h)
   exact Into.view (fun a w hv => SRx.renL [] hv (by kernel_rfl) (by kernel_rfl) (by kernel_rfl))
theorem laws_markTermS_s : ∀ p r, laws_markTermS p = some r → M_laws_markTermS p r := laws_markTermS_all.1
theorem laws_markTermS_l0_s : ∀ p r, laws_markTermS_l0 p = some r → M_laws_markTermS_l0 p r := laws_markTermS_all.2
def laws_markTerm (p : GTerm × Int) : Option (Int × GTerm) :=
 match p with
 | (a0, k1) =>
  (laws_markIntS (a0.fType, k1)) >>= fun (r_1_3, o_1_3_0) =>
  (laws_markTermS (a0.fKids, r_1_3)) >>= fun (r_2_3, o_2_3_0) =>
  some (r_2_3, (GTerm.mk a0.fOp a0.fN o_1_3_0 o_2_3_0))
def M_laws_markTerm (p : GTerm × Int) (r : Int × GTerm) : Prop :=
 match p with
 | (a0, k1) => FnSound Try.prog 22 [qTerm a0, I k1] (I r.1) [.agg [.undef, .undef, .osl (List.map I r.2.fType), .osl (List.map GTerm_O r.2.fKids)], .undef]
theorem laws_markTerm_s : ∀ p r, laws_markTerm p = some r → M_laws_markTerm p r := by
 rintro ⟨a0, k1⟩ r h
 unfold laws_markTerm at h
 show FnSound Try.prog 22 [qTerm a0, I k1] (I r.1) [.agg [.undef, .undef, .osl (List.map I r.2.fType), .osl (List.map GTerm_O r.2.fKids)], .undef]
 refine FnSound.bodyO tiok (fn := Try.f22) (code := B22) (by kernel_rfl) (by kernel_rfl) (by kernel_rfl) (nt := 14) (by kernel_rfl) (by kernel_rfl) (T := [(0, .agg [I a0.fOp, I a0.fN, .rs 1000, .rs 1001]), (1, I k1)]) (O := [(1000, .arr (List.map I a0.fType)), (1001, .arr (List.map GTerm_O a0.fKids))]) (by kernel_rfl) (by kernel_rfl) (fun c hc => ?_)
 refine sN ?_
 refine rg hc none [some (.new 1), oN] [(1, I k1), (2, .ra 1 0)] [(1, .box [I a0.fOp, I a0.fN, .rs 1000, .rs 1001]), (1000, .arr (List.map I a0.fType)), (1001, .arr (List.map GTerm_O a0.fKids))] trivial ?_
 refine seqQ_norm ?_
 refine sN ?_
 obtain ⟨⟨r_1_3, o_1_3_0⟩, hr_1_3, h⟩ := bsome h
 refine rg hc none [oN, oN, oN, some (.call (I r_1_3) [.osl (List.map I o_1_3_0), .undef] 1), oN] [(1, I r_1_3), (2, .ra 1 0)] [(1, .box [I a0.fOp, I a0.fN, .rs 1000, .rs 1001]), (1000, .arr (List.map I o_1_3_0)), (1001, .arr (List.map GTerm_O a0.fKids))] (ai (laws_markIntS_s _ _ hr_1_3) (ai bod_29 trivial)) ?_
 refine seqQ_norm ?_
 refine sN ?_
 obtain ⟨⟨r_2_3, o_2_3_0⟩, hr_2_3, h⟩ := bsome h
 refine rg hc none [oN, oN, oN, some (.call (I r_2_3) [.osl (List.map GTerm_O o_2_3_0), .undef] 1), oN] [(1, I r_2_3)] [(1000, .arr (List.map I o_1_3_0)), (1001, .arr (List.map GTerm_O o_2_3_0))] (ai (laws_markTermS_s _ _ hr_2_3) (ai bod_53 trivial)) ?_
 refine seqQ_norm ?_
 refine sN ?_
 refine rg0 hc 2 [(4, I r_2_3)] [(1000, .arr (List.map I o_1_3_0)), (1001, .arr (List.map GTerm_O o_2_3_0))] ?_
 refine seqQ_norm ?_
 refine Wp.retN (by kernel_rfl) ?_
 obtain rfl := Option.some.inj h
 exact RetOQ.ret (fl := [true]) (by kernel_rfl)
def laws_heldIntS_F1 (c : Ctx) : (Int) ⊕ (Int) → Exit → AState → Prop
 | .inl k_7 => Into c (.exit 0) (mkS [(1, I k_7)] [])
 | .inr r => RetE TIx Try.f54 [] (I r)
def laws_heldIntS_l0 (p : (List Int) × Int × Int) : Option ((Int) ⊕ (Int)) :=
 match p with
 | (a0, k_3, i_4) =>
  if (decide (i_4 < (a0.length : Int))) = true then
   (idx a0 i_4) >>= fun e_4_2 =>
   if (e_4_2 != k_3) = true then
    some (.inr (-1))
   else
    laws_heldIntS_l0 (a0, (wr (k_3 + 1)), (wr (i_4 + 1)))
  else
   some (.inl k_3)
 partial_fixpoint
def M_laws_heldIntS_l0 (p : (List Int) × Int × Int) (fl : (Int) ⊕ (Int)) : Prop :=
 match p with
 | (a0, k_3, i_4) => ∀ c : Ctx, c.nt = 21 → WpL Try.prog c (cl (cl (cr (cl (cr B54))))) (laws_heldIntS_F1 c fl) (mkS [(0, sI a0), (1, I k_3), (5, I i_4)] [])
theorem laws_heldIntS_l0_s : ∀ p r, laws_heldIntS_l0 p = some r → M_laws_heldIntS_l0 p r := by
 refine laws_heldIntS_l0.partial_correctness M_laws_heldIntS_l0 ?_
 rintro laws_heldIntS_l0_f laws_heldIntS_l0_ih ⟨a0, k_3, i_4⟩ r h
 intro c hc
 show WpL Try.prog c (cl (cl (cr (cl (cr B54))))) (laws_heldIntS_F1 c r) (mkS [(0, sI a0), (1, I k_3), (5, I i_4)] [])
 refine WpL.step ?_
 refine sN ?_
 refine sN ?_
 refine rg hc none [oN, oN, some (.eqv (.no) ⟨[(8, I (a0.length : Int))], [], []⟩), oN] [(0, sI a0), (1, I k_3), (5, I i_4), (9, .bool (decide (i_4 < (a0.length : Int))))] [] (ai (lenT (d := 8) I a0) trivial) ?_
 refine seqQ_norm ?_
 rcases itesome h with ⟨hb_5, h⟩ | ⟨hb_5, h⟩
 ·refine cT ((decide (i_4 < (a0.length : Int)))) hb_5 ?_
  refine Wp.skipN (by kernel_rfl) ?_
  refine seqQ_norm ?_
  refine sN ?_
  refine Wp.blockN (i := 1) (by kernel_rfl) ?_
  refine sN ?_
  refine sN ?_
  obtain ⟨e_4_2, hi_4_2, h⟩ := bsome h
  refine rg hc none [oN, oN, some (.el (I e_4_2)), oN, oN, oN] [(0, sI a0), (1, I k_3), (5, I i_4), (17, .bool (e_4_2 != k_3))] [] (ai (ix hi_4_2) trivial) ?_
  refine seqQ_norm ?_
  rcases itesome h with ⟨hb_6, h⟩ | ⟨hb_6, h⟩
  ·refine cT ((e_4_2 != k_3)) hb_6 ?_
   refine sN ?_
   refine rg0 hc 1 [(4, I (-1))] [] ?_
   refine seqQ_norm ?_
   refine Wp.retN (by kernel_rfl) ?_
   refine seqQ_ret ?_
   refine blockQ_ret ?_
   refine seqQ_ret ?_
   refine loopQ_ret ?_
   obtain rfl := Option.some.inj h
   exact RetE.ret (fl := [true]) (by kernel_rfl)
  ·refine cF ((e_4_2 != k_3)) hb_6 ?_
   refine Wp.skipN (by kernel_rfl) ?_
   refine seqQ_norm ?_
   refine rg0 hc 3 [(0, sI a0), (1, I (wr (k_3 + 1))), (5, I i_4)] [] ?_
   refine blockQ_norm ?_
   refine seqQ_norm ?_
   refine rg0 hc 3 [(0, sI a0), (1, I (wr (k_3 + 1))), (5, I (wr (i_4 + 1)))] [] ?_
   refine loopQ_norm ?_
   exact (laws_heldIntS_l0_ih _ _ h c hc)
 ·refine cF ((decide (i_4 < (a0.length : Int)))) hb_5 ?_
  refine Wp.exitN (i := 0) (by kernel_rfl) ?_
  refine seqQ_exit ?_
  refine loopQ_exit ?_
  obtain rfl := Option.some.inj h
  exact Into.view (fun a w hv => SRx.renL [] hv (by kernel_rfl) (by kernel_rfl) (by kernel_rfl))
def laws_heldIntS (p : (List Int) × Int) : Option (Int) :=
 match p with
 | (a0, k1) =>
  (laws_heldIntS_l0 (a0, k1, 0)) >>= fun fl => match fl with
  | .inl k_7 =>
   some k_7
  | .inr r =>
   some r
def M_laws_heldIntS (p : (List Int) × Int) (r : Int) : Prop :=
 match p with
 | (a0, k1) => FnSound Try.prog 54 [sI a0, I k1] (I r) []
theorem laws_heldIntS_s : ∀ p r, laws_heldIntS p = some r → M_laws_heldIntS p r := by
 rintro ⟨a0, k1⟩ r h
 unfold laws_heldIntS at h
 show FnSound Try.prog 54 [sI a0, I k1] (I r) []
 refine FnSound.body0 tiok (fn := Try.f54) (code := B54) (by kernel_rfl) (by kernel_rfl) (by kernel_rfl) (by kernel_rfl) (nt := 21) (by kernel_rfl) (by kernel_rfl) (T := [(0, sI a0), (1, I k1)]) (O := []) (by kernel_rfl) (by kernel_rfl) (fun c hc => ?_)
 refine sN ?_
 refine rg0 hc 1 [(0, sI a0), (1, I k1)] [] ?_
 refine seqQ_norm ?_
 refine sN ?_
 refine sN ?_
 refine rg0 hc 1 [(0, sI a0), (1, I k1), (5, I 0)] [] ?_
 refine seqQ_norm ?_
 refine Wp.blockN (i := 0) (by kernel_rfl) ?_
 obtain ⟨fl, hl_8, h⟩ := bsome h
 have hL := laws_heldIntS_l0_s _ _ hl_8 c hc
 refine Wp.loopN (by kernel_rfl) ?_
 rcases fl with k_7 | r
 ·refine WpL.into (e := (.exit 0)) (mkS [(1, I k_7)] []) hL ?_
  refine blockQ_hit ?_
  refine seqQ_norm ?_
  refine sN ?_
  refine rg0 hc 2 [(4, I k_7)] [] ?_
  refine seqQ_norm ?_
  refine Wp.retN (by kernel_rfl) ?_
  obtain rfl := Option.some.inj h
  exact RetQ.ret (fl := [true]) (by kernel_rfl)
 ·refine WpL.mono hL ?_
  rintro _ _ ⟨rfl, hfin⟩
  refine blockQ_ret ?_
  refine seqQ_ret ?_
  obtain rfl := Option.some.inj h
  exact ⟨.inl rfl, hfin⟩
def laws_heldTermS_F1 (c : Ctx) : (Int) ⊕ (Int) → Exit → AState → Prop
 | .inl k_13 => Into c (.exit 0) (mkS [(1, I k_13)] [])
 | .inr r => RetE TIx Try.f55 [] (I r)
mutual
def laws_heldTermS (p : (List GTerm) × Int) : Option (Int) :=
 match p with
 | (a0, k1) =>
  (laws_heldTermS_l0 (a0, k1, 0)) >>= fun fl => match fl with
  | .inl k_13 =>
   some k_13
  | .inr r =>
   some r
 partial_fixpoint
def laws_heldTermS_l0 (p : (List GTerm) × Int × Int) : Option ((Int) ⊕ (Int)) :=
 match p with
 | (a0, k_6, i_7) =>
  if (decide (i_7 < (a0.length : Int))) = true then
   (idx a0 i_7) >>= fun e_4_2 =>
   if (e_4_2.fOp != k_6) = true then
    some (.inr (-1))
   else
    (idx a0 i_7) >>= fun e_7_2 =>
    if (e_7_2.fN != (wr (k_6 + 1))) = true then
     some (.inr (-1))
    else
     (idx a0 i_7) >>= fun e_10_2 =>
     (laws_heldIntS (e_10_2.fType, (wr ((wr (k_6 + 1)) + 1)))) >>= fun r_10_6 =>
     if (decide (r_10_6 < 0)) = true then
      some (.inr (-1))
     else
      (idx a0 i_7) >>= fun e_13_2 =>
      (laws_heldTermS (e_13_2.fKids, r_10_6)) >>= fun r_13_6 =>
      if (decide (r_13_6 < 0)) = true then
       some (.inr (-1))
      else
       laws_heldTermS_l0 (a0, r_13_6, (wr (i_7 + 1)))
  else
   some (.inl k_6)
 partial_fixpoint
end
def M_laws_heldTermS (p : (List GTerm) × Int) (r : Int) : Prop :=
 match p with
 | (a0, k1) => FnSound Try.prog 55 [.sl (List.map GTerm_S a0), I k1] (I r) []
def M_laws_heldTermS_l0 (p : (List GTerm) × Int × Int) (fl : (Int) ⊕ (Int)) : Prop :=
 match p with
 | (a0, k_6, i_7) => ∀ c : Ctx, c.nt = 49 → WpL Try.prog c (cl (cl (cr (cl (cr B55))))) (laws_heldTermS_F1 c fl) (mkS [(0, .sl (List.map GTerm_S a0)), (1, I k_6), (5, I i_7)] [])
theorem laws_heldTermS_all : (∀ p r, laws_heldTermS p = some r → M_laws_heldTermS p r) ∧ (∀ p r, laws_heldTermS_l0 p = some r → M_laws_heldTermS_l0 p r) := by
 refine laws_heldTermS.mutual_partial_correctness M_laws_heldTermS M_laws_heldTermS_l0 ?_ ?_
 ·rintro laws_heldTermS_l0_f laws_heldTermS_l0_ih ⟨a0, k1⟩ r h
  show FnSound Try.prog 55 [.sl (List.map GTerm_S a0), I k1] (I r) []
  refine FnSound.body0 tiok (fn := Try.f55) (code := B55) (by kernel_rfl) (by kernel_rfl) (by kernel_rfl) (by kernel_rfl) (nt := 49) (by kernel_rfl) (by kernel_rfl) (T := [(0, .sl (List.map GTerm_S a0)), (1, I k1)]) (O := []) (by kernel_rfl) (by kernel_rfl) (fun c hc => ?_)
  refine sN ?_
  refine rg0 hc 1 [(0, .sl (List.map GTerm_S a0)), (1, I k1)] [] ?_
  refine seqQ_norm ?_
  refine sN ?_
  refine sN ?_
  refine rg0 hc 1 [(0, .sl (List.map GTerm_S a0)), (1, I k1), (5, I 0)] [] ?_
  refine seqQ_norm ?_
  refine Wp.blockN (i := 0) (by kernel_rfl) ?_
  obtain ⟨fl, hl_14, h⟩ := bsome h
  have hL := laws_heldTermS_l0_ih _ _ hl_14 c hc
  refine Wp.loopN (by kernel_rfl) ?_
  rcases fl with k_13 | r
  ·refine WpL.into (e := (.exit 0)) (mkS [(1, I k_13)] []) hL ?_
   refine blockQ_hit ?_
   refine seqQ_norm ?_
   refine sN ?_
   refine rg0 hc 2 [(4, I k_13)] [] ?_
   refine seqQ_norm ?_
   refine Wp.retN (by kernel_rfl) ?_
   obtain rfl := Option.some.inj h
   exact RetQ.ret (fl := [true]) (by kernel_rfl)
  ·refine WpL.mono hL ?_
   rintro _ _ ⟨rfl, hfin⟩
   refine blockQ_ret ?_
   refine seqQ_ret ?_
   obtain rfl := Option.some.inj h
   exact ⟨.inl rfl, hfin⟩
 ·rintro laws_heldTermS_f laws_heldTermS_l0_f laws_heldTermS_ih laws_heldTermS_l0_ih ⟨a0, k_6, i_7⟩ r h
  intro c hc
  show WpL Try.prog c (cl (cl (cr (cl (cr B55))))) (laws_heldTermS_F1 c r) (mkS [(0, .sl (List.map GTerm_S a0)), (1, I k_6), (5, I i_7)] [])
  refine WpL.step ?_
  refine sN ?_
  refine sN ?_
  refine rg hc none [oN, oN, some (.eqv (.no) ⟨[(8, I (a0.length : Int))], [], []⟩), oN] [(0, .sl (List.map GTerm_S a0)), (1, I k_6), (5, I i_7), (9, .bool (decide (i_7 < (a0.length : Int))))] [] (ai (lenT (d := 8) GTerm_S a0) trivial) ?_
  refine seqQ_norm ?_
  rcases itesome h with ⟨hb_8, h⟩ | ⟨hb_8, h⟩
  ·refine cT ((decide (i_7 < (a0.length : Int)))) hb_8 ?_
   refine Wp.skipN (by kernel_rfl) ?_
   refine seqQ_norm ?_
   refine sN ?_
   refine Wp.blockN (i := 1) (by kernel_rfl) ?_
   refine sN ?_
   refine sN ?_
   obtain ⟨e_4_2, hi_4_2, h⟩ := bsome h
   refine rg hc none [oN, oN, some (.el (aTerm e_4_2)), oN, oN, oN, oN] [(0, .sl (List.map GTerm_S a0)), (1, I k_6), (5, I i_7), (18, .bool (e_4_2.fOp != k_6))] [] (ai (idx_sl (enc := GTerm_S) (x := aTerm e_4_2) hi_4_2 (eq_GTerm_S e_4_2)) trivial) ?_
   refine seqQ_norm ?_
   rcases itesome h with ⟨hb_9, h⟩ | ⟨hb_9, h⟩
   ·refine cT ((e_4_2.fOp != k_6)) hb_9 ?_
    refine sN ?_
    refine rg0 hc 1 [(4, I (-1))] [] ?_
    refine seqQ_norm ?_
    refine Wp.retN (by kernel_rfl) ?_
    refine seqQ_ret ?_
    refine blockQ_ret ?_
    refine seqQ_ret ?_
    refine loopQ_ret ?_
    obtain rfl := Option.some.inj h
    exact RetE.ret (fl := [true]) (by kernel_rfl)
   ·refine cF ((e_4_2.fOp != k_6)) hb_9 ?_
    refine Wp.skipN (by kernel_rfl) ?_
    refine seqQ_norm ?_
    refine sN ?_
    refine rg0 hc 3 [(0, .sl (List.map GTerm_S a0)), (1, I (wr (k_6 + 1))), (5, I i_7)] [] ?_
    refine seqQ_norm ?_
    refine sN ?_
    refine sN ?_
    obtain ⟨e_7_2, hi_7_2, h⟩ := bsome h
    refine rg hc none [oN, oN, some (.el (aTerm e_7_2)), oN, oN, oN, oN] [(0, .sl (List.map GTerm_S a0)), (1, I (wr (k_6 + 1))), (5, I i_7), (27, .bool (e_7_2.fN != (wr (k_6 + 1))))] [] (ai (idx_sl (enc := GTerm_S) (x := aTerm e_7_2) hi_7_2 (eq_GTerm_S e_7_2)) trivial) ?_
    refine seqQ_norm ?_
    rcases itesome h with ⟨hb_10, h⟩ | ⟨hb_10, h⟩
    ·refine cT ((e_7_2.fN != (wr (k_6 + 1)))) hb_10 ?_
     refine sN ?_
     refine rg0 hc 1 [(4, I (-1))] [] ?_
     refine seqQ_norm ?_
     refine Wp.retN (by kernel_rfl) ?_
     refine seqQ_ret ?_
     refine blockQ_ret ?_
     refine seqQ_ret ?_
     refine loopQ_ret ?_
     obtain rfl := Option.some.inj h
     exact RetE.ret (fl := [true]) (by kernel_rfl)
    ·refine cF ((e_7_2.fN != (wr (k_6 + 1)))) hb_10 ?_
     refine Wp.skipN (by kernel_rfl) ?_
     refine seqQ_norm ?_
     refine sN ?_
     refine rg0 hc 3 [(0, .sl (List.map GTerm_S a0)), (1, I (wr ((wr (k_6 + 1)) + 1))), (5, I i_7)] [] ?_
     refine seqQ_norm ?_
     refine sN ?_
     obtain ⟨e_10_2, hi_10_2, h⟩ := bsome h
     obtain ⟨r_10_6, hr_10_6, h⟩ := bsome h
     refine rg hc none [oN, oN, some (.el (aTerm e_10_2)), oN, oN, oN, oc (I r_10_6), oN] [(0, .sl (List.map GTerm_S a0)), (1, I r_10_6), (5, I i_7)] [] (ai (idx_sl (enc := GTerm_S) (x := aTerm e_10_2) hi_10_2 (eq_GTerm_S e_10_2)) (ai (laws_heldIntS_s _ _ hr_10_6) (ai bod_54 (ai (oi (I r_10_6)) trivial)))) ?_
     refine seqQ_norm ?_
     refine sN ?_
     refine sN ?_
     refine rg0 hc 2 [(0, .sl (List.map GTerm_S a0)), (1, I r_10_6), (5, I i_7), (38, .bool (decide (r_10_6 < 0)))] [] ?_
     refine seqQ_norm ?_
     rcases itesome h with ⟨hb_11, h⟩ | ⟨hb_11, h⟩
     ·refine cT ((decide (r_10_6 < 0))) hb_11 ?_
      refine sN ?_
      refine rg0 hc 1 [(4, I (-1))] [] ?_
      refine seqQ_norm ?_
      refine Wp.retN (by kernel_rfl) ?_
      refine seqQ_ret ?_
      refine blockQ_ret ?_
      refine seqQ_ret ?_
      refine loopQ_ret ?_
      obtain rfl := Option.some.inj h
      exact RetE.ret (fl := [true]) (by kernel_rfl)
     ·refine cF ((decide (r_10_6 < 0))) hb_11 ?_
      refine Wp.skipN (by kernel_rfl) ?_
      refine seqQ_norm ?_
      refine sN ?_
      obtain ⟨e_13_2, hi_13_2, h⟩ := bsome h
      obtain ⟨r_13_6, hr_13_6, h⟩ := bsome h
      refine rg hc none [oN, oN, some (.el (aTerm e_13_2)), oN, oN, oN, oc (I r_13_6), oN] [(0, .sl (List.map GTerm_S a0)), (1, I r_13_6), (5, I i_7)] [] (ai (idx_sl (enc := GTerm_S) (x := aTerm e_13_2) hi_13_2 (eq_GTerm_S e_13_2)) (ai (laws_heldTermS_ih _ _ hr_13_6) (ai bod_55 (ai (oi (I r_13_6)) trivial)))) ?_
      refine seqQ_norm ?_
      refine sN ?_
      refine rg0 hc 2 [(0, .sl (List.map GTerm_S a0)), (1, I r_13_6), (5, I i_7), (47, .bool (decide (r_13_6 < 0)))] [] ?_
      refine seqQ_norm ?_
      rcases itesome h with ⟨hb_12, h⟩ | ⟨hb_12, h⟩
      ·refine cT ((decide (r_13_6 < 0))) hb_12 ?_
       refine sN ?_
       refine rg0 hc 1 [(4, I (-1))] [] ?_
       refine seqQ_norm ?_
       refine Wp.retN (by kernel_rfl) ?_
       refine blockQ_ret ?_
       refine seqQ_ret ?_
       refine loopQ_ret ?_
       obtain rfl := Option.some.inj h
       exact RetE.ret (fl := [true]) (by kernel_rfl)
      ·refine cF ((decide (r_13_6 < 0))) hb_12 ?_
       refine Wp.skipN (by kernel_rfl) ?_
       refine blockQ_norm ?_
       refine seqQ_norm ?_
       refine rg0 hc 3 [(0, .sl (List.map GTerm_S a0)), (1, I r_13_6), (5, I (wr (i_7 + 1)))] [] ?_
       refine loopQ_norm ?_
       exact (laws_heldTermS_l0_ih _ _ h c hc)
  ·refine cF ((decide (i_7 < (a0.length : Int)))) hb_8 ?_
   refine Wp.exitN (i := 0) (by kernel_rfl) ?_
   refine seqQ_exit ?_
   refine loopQ_exit ?_
   obtain rfl := Option.some.inj h
   exact Into.view (fun a w hv => SRx.renL [] hv (by kernel_rfl) (by kernel_rfl) (by kernel_rfl))
theorem laws_heldTermS_s : ∀ p r, laws_heldTermS p = some r → M_laws_heldTermS p r := laws_heldTermS_all.1
theorem laws_heldTermS_l0_s : ∀ p r, laws_heldTermS_l0 p = some r → M_laws_heldTermS_l0 p r := laws_heldTermS_all.2
def laws_heldTerm (p : GTerm × Int) : Option (Int) :=
 match p with
 | (a0, k1) =>
  (laws_heldIntS (a0.fType, k1)) >>= fun r_1_3 =>
  if (decide (r_1_3 < 0)) = true then
   some (-1)
  else
   (laws_heldTermS (a0.fKids, r_1_3)) >>= fun r_4_3 =>
   if (decide (r_4_3 < 0)) = true then
    some (-1)
   else
    some r_4_3
def M_laws_heldTerm (p : GTerm × Int) (r : Int) : Prop :=
 match p with
 | (a0, k1) => FnSound Try.prog 23 [aTerm a0, I k1] (I r) []
theorem laws_heldTerm_s : ∀ p r, laws_heldTerm p = some r → M_laws_heldTerm p r := by
 rintro ⟨a0, k1⟩ r h
 unfold laws_heldTerm at h
 show FnSound Try.prog 23 [aTerm a0, I k1] (I r) []
 refine FnSound.body0 tiok (fn := Try.f23) (code := B23) (by kernel_rfl) (by kernel_rfl) (by kernel_rfl) (by kernel_rfl) (nt := 18) (by kernel_rfl) (by kernel_rfl) (T := [(0, aTerm a0), (1, I k1)]) (O := []) (by kernel_rfl) (by kernel_rfl) (fun c hc => ?_)
 refine sN ?_
 refine rg hc none [some (.new 1), oN] [(1, I k1), (2, .ra 1 0)] [(1, bTerm a0)] trivial ?_
 refine seqQ_norm ?_
 refine sN ?_
 obtain ⟨r_1_3, hr_1_3, h⟩ := bsome h
 refine rg hc none [oN, oN, oN, oc (I r_1_3), oN] [(1, I r_1_3), (2, .ra 1 0)] [(1, bTerm a0)] (ai (laws_heldIntS_s _ _ hr_1_3) (ai bod_54 (ai (oi (I r_1_3)) trivial))) ?_
 refine seqQ_norm ?_
 refine sN ?_
 refine sN ?_
 refine rg0 hc 2 [(1, I r_1_3), (2, .ra 1 0), (10, .bool (decide (r_1_3 < 0)))] [(1, bTerm a0)] ?_
 refine seqQ_norm ?_
 rcases itesome h with ⟨hb_1, h⟩ | ⟨hb_1, h⟩
 ·refine cT ((decide (r_1_3 < 0))) hb_1 ?_
  refine sN ?_
  refine rg0 hc 1 [(4, I (-1))] [] ?_
  refine seqQ_norm ?_
  refine Wp.retN (by kernel_rfl) ?_
  refine seqQ_ret ?_
  obtain rfl := Option.some.inj h
  exact RetQ.ret (fl := [true]) (by kernel_rfl)
 ·refine cF ((decide (r_1_3 < 0))) hb_1 ?_
  refine Wp.skipN (by kernel_rfl) ?_
  refine seqQ_norm ?_
  refine sN ?_
  obtain ⟨r_4_3, hr_4_3, h⟩ := bsome h
  refine rg hc none [oN, oN, oN, oc (I r_4_3), oN] [(1, I r_4_3)] [] (ai (laws_heldTermS_s _ _ hr_4_3) (ai bod_55 (ai (oi (I r_4_3)) trivial))) ?_
  refine seqQ_norm ?_
  refine sN ?_
  refine sN ?_
  refine rg0 hc 2 [(1, I r_4_3), (16, .bool (decide (r_4_3 < 0)))] [] ?_
  refine seqQ_norm ?_
  rcases itesome h with ⟨hb_2, h⟩ | ⟨hb_2, h⟩
  ·refine cT ((decide (r_4_3 < 0))) hb_2 ?_
   refine sN ?_
   refine rg0 hc 1 [(4, I (-1))] [] ?_
   refine seqQ_norm ?_
   refine Wp.retN (by kernel_rfl) ?_
   refine seqQ_ret ?_
   obtain rfl := Option.some.inj h
   exact RetQ.ret (fl := [true]) (by kernel_rfl)
  ·refine cF ((decide (r_4_3 < 0))) hb_2 ?_
   refine Wp.skipN (by kernel_rfl) ?_
   refine seqQ_norm ?_
   refine sN ?_
   refine rg0 hc 2 [(4, I r_4_3)] [] ?_
   refine seqQ_norm ?_
   refine Wp.retN (by kernel_rfl) ?_
   obtain rfl := Option.some.inj h
   exact RetQ.ret (fl := [true]) (by kernel_rfl)
end Go.Am
