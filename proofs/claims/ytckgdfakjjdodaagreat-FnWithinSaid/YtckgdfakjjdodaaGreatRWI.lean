/- Proved here: the law FnWithin answers true for all arguments, and every argument reads behind the call as it read before. No condition beyond the given statement's own. -/
import Derived.Test.YtckgdfakjjdodaaGreatAmY
import Derived.Test.YtckgdfakjjdodaaGreatPWI2
import Derived.Test.YtckgdfakjjdodaaGreatRows
set_option linter.unusedVariables false
set_option linter.unusedSimpArgs false
namespace Go.Proofs.YtckgdfakjjdodaaGreat
open Go.ChangeShapes Go.WideShapes Go.ChangeAt Go.RowKit Go.Am

theorem Tryz.own:ownKnob Tryz.prog.godebug=none:=by kernel_rfl
theorem Tryz.laidOut:laidOutB Tryz.prog=true:=by kernel_rfl
def rts:List Nat:=[5,22]
theorem wf_u8 {m:Int} (h:(Lit.int .u8 m).wf=true):0 ≤ m∧m ≤ 255:=by
 simp [Lit.wf,IntKind.min,IntKind.max,IntKind.bits,IntKind.signed] at h
 omega
theorem rd_LU8 {n:Nat} {xs:List AV} (h:Okc TIx n 22 xs):∃ l:List Int,xs=[.sl (l.map U8)]∧l.length ≤ maxLen∧∀ v ∈ l,0 ≤ v∧v ≤ 255 :=
 Qgz (e:=5) (by kernel_rfl) (fun m _ ys hy=>by obtain ⟨v,rfl,hv⟩:=Qgv (k:=.u8) (by kernel_rfl) hy; exact ⟨v,rfl,wf_u8 hv⟩) h
theorem law (xs:List AV) (h:Qgs TIx [22] xs):Q77 Tryz.prog 11 xs (.bool true) []:=by
 obtain ⟨n0,ys0,r0,rfl,h0,rfl⟩:=h
 obtain ⟨v0,rfl,w0⟩:=rd_LU8 h0
 have a22:Qga TIx 22=false:=by kernel_rfl
 rw [a22]
 have:=Kqq v0 true (V6u v0 w0)
 show Q77 Tryz.prog 11 [.sl (v0.map U8)] (.bool true) []
 exact this
theorem params_are:Tryz.f11.params.toList=[22]:=by kernel_rfl
theorem nparams:Tryz.f11.params.size=1:=by kernel_rfl
set_option maxRecDepth 100000 in
theorem lifted (os:Os) (started:os.Started) (H:Type) (enc:TypeId × Value→H) :
  ReturnsInHanded {} Tryz.checked os 11 .any (Rows.fnWithinSpec.pre6 enc Tryz.prog Tryz.f11 Rows.fnWithinRow.domain false) (Rows.fnWithinSpec.post enc Tryz.prog Tryz.f11 false true false false):=by
 refine returnsInHanded_of_change (C:=Tryz.checked) Tryz.own started (by kernel_rfl) Tryz.func11
  (ChangeSpec.witness6 (enc:=enc) (C:=Tryz.checked) false ⟨#[],#[.slice none 0 0],[]⟩ 8 (by kernel_rfl) (by kernel_rfl) (by kernel_rfl) (by kernel_rfl)) ?_
 intro W base args ds gs before hval hW hcnd _
 refine Qgu (P:=Tryz.prog) K3d (rts:=rts) (by kernel_rfl) (tb:=4) Tryz.laidOut ?_ (by kernel_rfl) (by kernel_rfl) rfl ?_ ?_ ?_ hval hW
 ·intro t ht
  rw [params_are] at ht
  simp only [List.mem_cons,List.not_mem_nil,or_false] at ht
  rcases ht with rfl <;> exact ⟨by kernel_rfl,of_decide_eq_true (by kernel_rfl)⟩
 ·intro ds hds
  rw [nparams] at hds
  match ds,hds with
  | [d0],_=>exact ⟨rfl,rfl,rfl⟩
 ·intro t ht
  rw [params_are] at ht
  simp only [List.mem_cons,List.not_mem_nil,or_false] at ht
  rcases ht with rfl <;> decide
 ·rw [params_are]
  exact law

theorem j1:Tryz.prog.mayEnter=true:=by kernel_rfl
theorem j2:Tryz.prog.liftsFinal=Rows.fnWithinRow.lifted:=by kernel_rfl
theorem j3:Tryz.prog.make=some Rows.fnWithinRow.make:=by kernel_rfl
theorem j4:Tryz.prog.inPlace 11=Rows.fnWithinRow.inPlace:=by kernel_rfl
theorem j5:Tryz.prog.unfollowed 11=Rows.fnWithinRow.unfollowed:=by kernel_rfl
theorem j6:Tryz.prog.recurses 11=Rows.fnWithinRow.recurses:=by kernel_rfl
theorem j7:Tryz.prog.varsNamed 11=Rows.fnWithinRow.named:=by kernel_rfl
theorem joined:joinedFacts Tryz.prog 11 Tryz.f11 Rows.fnWithinSpec Rows.fnWithinRow=true:=by
 unfold joinedFacts
 rw [j1,j2,j3,j4,j5,j6,j7]
 kernel_rfl
theorem fnWithin_holds:Rows.FnWithinSaid :=
 OpenClaim.holds_of_wide 11 Tryz.f11 rfl rfl rfl rfl rfl rfl rfl ⟨rfl,rfl,rfl,rfl,rfl⟩ rfl rfl rfl rfl rfl (by kernel_rfl) Tryz.func11 joined
  (of_decide_eq_true (by kernel_rfl)) (by unfold Func.isWrapper; first | (rw [if_pos (by decide +kernel)]; kernel_rfl) | (rw [if_neg (by decide +kernel)]; exact ⟨rfl,rfl⟩))
  (fun os started H enc _=>lifted os started H enc)
end Go.Proofs.YtckgdfakjjdodaaGreat
