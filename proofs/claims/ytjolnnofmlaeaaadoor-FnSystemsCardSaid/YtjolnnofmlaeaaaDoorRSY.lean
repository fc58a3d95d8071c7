/- Proved here: the law FnSystems answers true for all arguments, and every argument reads behind the call as it read before. No condition beyond the given statement's own. -/
import Derived.Test.YtjolnnofmlaeaaaDoorAmY
import Derived.Test.YtjolnnofmlaeaaaDoorPSY2
import Derived.Test.YtjolnnofmlaeaaaDoorRows
import Derived.Test.YtjolnnofmlaeaaaDoorCards
import Derived.Test.YtjolnnofmlaeaaaDoorTie
import Derived.Lay
import Derived.LaidLaws
import Derived.LaidHandle
import Derived.MakeChecks
import Derived.SevenTiedAt
set_option linter.unusedVariables false
set_option linter.unusedSimpArgs false
namespace Go.Proofs.YtjolnnofmlaeaaaDoor
open Go.ChangeShapes Go.WideShapes Go.ChangeAt Go.RowKit Go.Am

theorem Tryd.own:ownKnob Tryd.prog.godebug=none:=by kernel_rfl
theorem Tryd.laidOut:laidOutB Tryd.prog=true:=by kernel_rfl
def rts:List Nat:=[5,22]
theorem wf_u8 {m:Int} (h:(Lit.int .u8 m).wf=true):0 ≤ m∧m ≤ 255:=by
 simp [Lit.wf,IntKind.min,IntKind.max,IntKind.bits,IntKind.signed] at h
 omega
theorem rd_LU8 {n:Nat} {xs:List AV} (h:Okc TIx n 22 xs):∃ l:List Int,xs=[.sl (l.map U8)]∧l.length ≤ maxLen∧∀ v ∈ l,0 ≤ v∧v ≤ 255 :=
 Qhf (e:=5) (by kernel_rfl) (fun m _ ys hy=>by obtain ⟨v,rfl,hv⟩:=Qhb (k:=.u8) (by kernel_rfl) hy; exact ⟨v,rfl,wf_u8 hv⟩) h
theorem law (xs:List AV) (h:Qh8 TIx [22] xs):Q7a Tryd.prog 3 xs (.bool true) []:=by
 obtain ⟨n0,ys0,r0,rfl,h0,rfl⟩:=h
 obtain ⟨v0,rfl,w0⟩:=rd_LU8 h0
 have a22:Qgq TIx 22=false:=by kernel_rfl
 rw [a22]
 have:=Kav v0 true (Kqs v0 w0)
 show Q7a Tryd.prog 3 [.sl (v0.map U8)] (.bool true) []
 exact this
theorem params_are:Tryd.f3.params.toList=[22]:=by kernel_rfl
theorem nparams:Tryd.f3.params.size=1:=by kernel_rfl
set_option maxRecDepth 100000 in
theorem lifted (os:Os) (started:os.Started) (H:Type) (enc:TypeId × Value→H) :
  ReturnsInHanded {} Tryd.checked os 3 .any (fun w args=>(Rows.fnSystemsSpec.pre enc Tryd.prog Tryd.f3 [] false w args∧laidMetH Tryd.prog Rows.fnSystemsRow.laid w)∧sizedMet enc Tryd.prog Tryd.f3 (OpenSpec.ofChange Rows.fnSystemsSpec) false w args)
   (Rows.fnSystemsSpec.post enc Tryd.prog Tryd.f3 false true false false):=by
 refine returnsInHanded_of_change_and (C:=Tryd.checked) (X:=fun w _=>laidMetH Tryd.prog Rows.fnSystemsRow.laid w) (fun _ _ _ hh h=>h.of_heap hh) Tryd.own started (by kernel_rfl) Tryd.func3
  (ChangeSpec.witness_shaped (enc:=enc) (C:=Tryd.checked) (os:=os) (X:=fun w _=>laidMetH Tryd.prog Rows.fnSystemsRow.laid w) false (World.laidAll Tryd.prog os Rows.fnSystemsRow.laid) #[.slice none 0 0] 8 (World.laidAll_os _ _ _)
   (World.shaped_of_ZipB (by kernel_rfl) (by kernel_rfl)) (by kernel_rfl) (by kernel_rfl) (by kernel_rfl)
   (by rw [MakeChecks.laidMetH_plain _ _ _ (by kernel_rfl)]; exact laidMet_laidAll _ (by kernel_rfl) (by kernel_rfl))) ?_
 intro W base args ds gs before hval hW _ _ hL _
 have hG:GOK W (fun b=>b < W.heap.size):=fun b hb=>(List.not_mem_nil hb).elim
 refine Qha (P:=Tryd.prog) K1d (rts:=rts) (by kernel_rfl) (tb:=4) Tryd.laidOut ?_ (by kernel_rfl) (by kernel_rfl) rfl ?_ ?_ ?_ hval hW hG
 ·intro t ht
  rw [params_are] at ht
  simp only [List.mem_cons,List.not_mem_nil,or_false] at ht
  rcases ht with rfl <;> exact ⟨by kernel_rfl,of_decide_eq_true (by kernel_rfl)⟩
 ·intro ds hds
  rw [nparams] at hds
  match ds,hds with
  | [d0],_=>exact ⟨rfl,rfl,rfl⟩
 ·intro t ht
  rw [params_are] at ht
  simp only [List.mem_cons,List.not_mem_nil,or_false] at ht
  rcases ht with rfl <;> decide
 ·rw [params_are]
  exact law

theorem j1:Tryd.prog.mayEnter=true:=by kernel_rfl
theorem j2:Tryd.prog.liftsFinal=Rows.fnSystemsRow.lifted:=by kernel_rfl
theorem j3:Tryd.prog.make=some Rows.fnSystemsRow.make:=by kernel_rfl
theorem j4:Tryd.prog.inPlace 3=Rows.fnSystemsRow.inPlace:=by kernel_rfl
theorem j5:Tryd.prog.unfollowed 3=Rows.fnSystemsRow.unfollowed:=by kernel_rfl
theorem j6:Tryd.prog.recurses 3=Rows.fnSystemsRow.recurses:=by kernel_rfl
theorem j7:Tryd.prog.varsNamed 3=Rows.fnSystemsRow.named:=by kernel_rfl
theorem joined:joinedFacts Tryd.prog 3 Tryd.f3 Rows.fnSystemsSpec Rows.fnSystemsRow=true:=by
 unfold joinedFacts
 rw [j1,j2,j3,j4,j5,j6,j7]
 kernel_rfl
theorem row_holds:Rows.FnSystemsSaid :=
 OpenClaim.holds_of_wide 3 Tryd.f3 rfl rfl rfl rfl rfl rfl rfl ⟨rfl,rfl,rfl,rfl,rfl⟩ rfl rfl rfl rfl rfl (by kernel_rfl) Tryd.func3 joined
  (of_decide_eq_true (by kernel_rfl)) (by unfold Func.isWrapper; first | (rw [if_pos (by decide +kernel)]; kernel_rfl) | (rw [if_neg (by decide +kernel)]; exact ⟨rfl,rfl⟩))
  (fun os started H enc _=>lifted os started H enc)
theorem fnSystems_holds:Rows.FnSystemsCardSaid :=
 Claim7.holds_tied_plain_at .later [] [.data,.data,.data] true (true,"bdc214fda9a3383bd1a52665633531249336358a7efe401d3784a2bfb91c7b31") false row_holds (fun _ h=>by cases h) (by kernel_rfl) (fun _ h=>by cases h) fnSystems_row_tie rfl ⟨rfl,rfl⟩ (by kernel_rfl) rfl
  (fun f fn hf hfn=>by
   obtain rfl:f=3:=Option.some.inj ((show Tryd.prog.funcNamed "loop.example/g03111/laws.FnSystems"=some 3 by kernel_rfl).symm.trans hf) |>.symm
   obtain rfl:fn=Tryd.f3:=(Option.some.inj (Tryd.func3.symm.trans hfn)).symm
   exact ⟨by kernel_rfl,fun j t ht=>by
    have hp:t ∈ Tryd.f3.params.toList:=by simpa using Array.mem_of_getElem? ht
    rw [params_are] at hp
    have hall:([22].all fun u=>!Tryd.prog.wantsStandIn u)=true:=by kernel_rfl
    exact (by simpa using List.all_eq_true.1 hall t hp:Tryd.prog.wantsStandIn t=false)⟩)
  (by kernel_rfl)
end Go.Proofs.YtjolnnofmlaeaaaDoor
