/- Proved here: the law FnExactKeeps answers true for all arguments, and every argument reads behind the call as it read before. No condition beyond the given statement's own. -/
import Derived.Test.YtlegifoeekcolaaAmY
import Derived.Test.YtlegifoeekcolaaPKEG
import Derived.Test.YtlegifoeekcolaaRows
namespace Go.Proofs.Ytlegifoeekcolaa
open Go.ChangeShapes Go.WideShapes Go.ChangeAt Go.RowKit Go.Am

theorem Try.own : ownKnob Try.prog.godebug = none := by kernel_rfl
theorem Try.laidOut : laidOutB Try.prog = true := by kernel_rfl
def rts : List Nat := [3, 4, 22, 23, 25, 26, 72]
theorem rd_I {n : Nat} {xs : List AV} (h : Okc TIx n 3 xs) : ∃ m, xs = [.int .i64 m] ∧ (Lit.int .i64 m).wf = true := okc_int (by kernel_rfl) h
theorem rd_LI {n : Nat} {xs : List AV} (h : Okc TIx n 22 xs) : ∃ l : List Int, xs = [.sl (l.map I)] ∧ l.length ≤ maxLen ∧ ∀ v ∈ l, (Lit.int .i64 v).wf = true :=
  okc_row (e := 3) (by kernel_rfl) (fun m _ ys hy => by obtain ⟨v, rfl, hv⟩ := rd_I hy; exact ⟨v, rfl, hv⟩) h
theorem rd_LB {n : Nat} {xs : List AV} (h : Okc TIx n 23 xs) : ∃ l : List Bool, xs = [.sl (l.map AV.bool)] ∧ l.length ≤ maxLen :=
  let ⟨l, h1, h2, _⟩ := okc_row (e := 4) (W := fun _ => True) (by kernel_rfl) (fun m _ ys hy => by obtain ⟨v, rfl⟩ := okc_bool (by kernel_rfl) hy; exact ⟨v, rfl, trivial⟩) h
  ⟨l, h1, h2⟩
theorem rd_System {n : Nat} {xs : List AV} (h : Okc TIx n 25 xs) : ∃ s : GSystem, AV.agg xs = GSystem_s s ∧ s.fPlus.length ≤ maxLen ∧ s.fTimes.length ≤ maxLen ∧ s.fBelow.length ≤ maxLen := by
  obtain ⟨m, rfl, ys, zs, rfl, h1, ys2, zs2, rfl, h2, ys3, zs3, rfl, h3, ys4, zs4, rfl, h4, rfl⟩ := okc_struct (fs := [(0, 3), (1, 22), (2, 22), (3, 23)]) (by kernel_rfl) h
  obtain ⟨a, rfl, _⟩ := rd_I h1
  obtain ⟨b, rfl, hb, _⟩ := rd_LI h2
  obtain ⟨c, rfl, hc, _⟩ := rd_LI h3
  obtain ⟨d, rfl, hd⟩ := rd_LB h4
  exact ⟨⟨a, b, c, d⟩, rfl, hb, hc, hd⟩
theorem rd_Cell {n : Nat} {xs : List AV} (h : Okc TIx n 72 xs) : ∃ s : GCell, AV.agg xs = GCell_v s ∧ True := by
  obtain ⟨m, rfl, ys, zs, rfl, h1, ys2, zs2, rfl, h2, rfl⟩ := okc_struct (fs := [(0, 3), (1, 3)]) (by kernel_rfl) h
  obtain ⟨a, rfl, _⟩ := rd_I h1
  obtain ⟨b, rfl, hb⟩ := rd_I h2
  exact ⟨⟨a, b⟩, rfl, trivial⟩
theorem rd_Cells {n : Nat} {xs : List AV} (h : Okc TIx n 26 xs) : ∃ l : List GCell, xs = [.sl (l.map GCell_v)] ∧ l.length ≤ maxLen ∧ ∀ v ∈ l, True :=
  okc_row (e := 72) (by kernel_rfl) (fun m _ ys hy => by
    have e : aggT TIx 72 = true := by kernel_rfl
    rw [e]
    exact rd_Cell hy) h
theorem keeps_law (xs : List AV) (h : OkAll TIx [25, 26] xs) : FnSound Try.prog 3 xs (.bool true) [] := by
  obtain ⟨n, ys, r, rfl, h1, n2, ys2, r2, rfl, h2, rfl⟩ := h
  obtain ⟨s, e1, l1, l2, l3⟩ := rd_System h1
  obtain ⟨cs, rfl, l4, _⟩ := rd_Cells h2
  have a1 : aggT TIx 25 = true := by kernel_rfl
  have a2 : aggT TIx 26 = false := by kernel_rfl
  rw [a1, a2]
  have := laws_FnExactKeeps_s (s, cs) true (keeps_true s cs l1 l2 l3 l4)
  show FnSound Try.prog 3 [AV.agg ys, .sl (cs.map GCell_v)] (.bool true) []
  rw [e1]
  exact this
set_option maxRecDepth 100000 in
theorem keeps_lifted (os : Os) (started : os.Started) (H : Type) (enc : TypeId × Value → H) :
    ReturnsInHanded {} Try.checked os 3 .any (Rows.fnExactKeepsSpec.pre6 enc Try.prog Try.f3 Rows.fnExactKeepsRow.domain false) (Rows.fnExactKeepsSpec.post enc Try.prog Try.f3 false true false false) := by
  refine returnsInHanded_of_change (C := Try.checked) Try.own started (by kernel_rfl) Try.func3
    (ChangeSpec.witness6 (enc := enc) (C := Try.checked) false ⟨#[], #[.agg #[.int .i64 0, .slice none 0 0, .slice none 0 0, .slice none 0 0], .slice none 0 0], []⟩ 8 (by kernel_rfl) (by kernel_rfl) (by kernel_rfl) (by kernel_rfl)) ?_
  intro W base args ds gs before hval hW hcnd _
  refine law_calls (P := Try.prog) tiok (rts := rts) (by kernel_rfl) (tb := 4) Try.laidOut ?_ (by kernel_rfl) (by kernel_rfl) rfl ?_ ?_ ?_ hval hW
  · intro t ht
    have e : Try.f3.params.toList = [25, 26] := by kernel_rfl
    rw [e] at ht
    simp only [List.mem_cons, List.not_mem_nil, or_false] at ht
    rcases ht with rfl | rfl <;> exact ⟨by kernel_rfl, of_decide_eq_true (by kernel_rfl)⟩
  · intro ds hds
    have e : Try.f3.params.size = 2 := by kernel_rfl
    rw [e] at hds
    match ds, hds with
    | [d1, d2], _ => exact ⟨rfl, rfl, rfl⟩
  · intro t ht
    have e : Try.f3.params.toList = [25, 26] := by kernel_rfl
    rw [e] at ht
    simp only [List.mem_cons, List.not_mem_nil, or_false] at ht
    rcases ht with rfl | rfl <;> decide
  · have e : Try.f3.params.toList = [25, 26] := by kernel_rfl
    rw [e]
    exact keeps_law

theorem keeps_holds : Rows.FnExactKeepsSaid :=
  OpenClaim.holds_of_wide 3 Try.f3 rfl rfl rfl rfl rfl rfl rfl ⟨rfl, rfl, rfl, rfl, rfl⟩ rfl rfl rfl rfl rfl (by kernel_rfl) Try.func3 (by kernel_rfl)
    (of_decide_eq_true (by kernel_rfl)) (by unfold Func.isWrapper; first | (rw [if_pos (by decide +kernel)]; kernel_rfl) | (rw [if_neg (by decide +kernel)]; exact ⟨rfl, rfl⟩))
    (fun os started H enc _ => keeps_lifted os started H enc)
end Go.Proofs.Ytlegifoeekcolaa
