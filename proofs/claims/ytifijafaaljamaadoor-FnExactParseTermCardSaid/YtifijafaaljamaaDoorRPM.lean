/- Proved here: the law FnExactParseTerm answers true for all arguments, and every argument reads behind the call as it read before. No condition beyond the given statement's own. -/
import Derived.Test.YtifijafaaljamaaDoorAmY
import Derived.Test.YtifijafaaljamaaDoorPPM1
import Derived.Test.YtifijafaaljamaaDoorRows
import Derived.Stop.LaidErr
import Derived.Lib.LaidTab
import Derived.Lib.ItoaNum
import Derived.Test.YtifijafaaljamaaDoorCards
import Derived.Test.YtifijafaaljamaaDoorTie
import Derived.Lay
import Derived.LaidLaws
import Derived.LaidHandle
import Derived.MakeChecks
import Derived.SevenTiedAt
set_option linter.unusedVariables false
set_option linter.unusedSimpArgs false
namespace Go.Proofs.YtifijafaaljamaaDoor
open Go.ChangeShapes Go.WideShapes Go.ChangeAt Go.RowKit Go.Am

theorem Tryd.own:ownKnob Tryd.prog.godebug=none:=by kernel_rfl
theorem Tryd.laidOut:laidOutB Tryd.prog=true:=by kernel_rfl
def rts:List Nat:=[9]

theorem law (xs:List AV) (h:Qh8 TIx [9] xs):Q7a Tryd.prog 4 xs (.bool true) []:=by
 obtain ⟨n0,ys0,r0,rfl,h0,rfl⟩:=h
 obtain ⟨v0,rfl,w0⟩:=Qhd (by kernel_rfl) h0
 have a9:Qgq TIx 9=false:=by kernel_rfl
 rw [a9]
 have:=Kbk v0 true (Kio v0 w0)
 show Q7a Tryd.prog 4 [.str v0] (.bool true) []
 exact this
theorem params_are:Tryd.f4.params.toList=[9]:=by kernel_rfl
theorem nparams:Tryd.f4.params.size=1:=by kernel_rfl
theorem var_heap {P:Program} {w:World} {n:String} {cs:Array Value} {g:Nat} (hg:P.globalNamed n=some g) (h:w.var? P n=some cs):∃ t fr,w.heap[g]?=some (.cells cs t fr):=by
 unfold World.var? at h
 rw [hg,Option.bind_some] at h
 split at h
 ·rename_i c t fr hc
  obtain rfl:=Option.some.inj h
  exact ⟨t,fr,hc⟩
 ·cases h
theorem star : "*" ++ "errors.errorString" = "*errors.errorString":=by decide
theorem row_err (u:TypeId) (h:Tryd.prog.typeName? 3 u=some "*errors.errorString"):u=103 :=
 typeName_ptr_named (nm := "errors.errorString") (by rw [star]; kernel_rfl) (by kernel_rfl) (by decide) u (by rw [star]; exact h)
theorem gES:Tryd.prog.globalNamed "strconv.ErrSyntax"=some 0:=by kernel_rfl
theorem gPT:Tryd.prog.globalNamed "internal/strconv.uint64pow10"=some 2:=by kernel_rfl
theorem tab_is {H:Type}:(Rows.laid_internal_strconv_uint64pow10:DataW H)=Lib.tabData .u64 Lib.pow10Tab:=by rfl
theorem laid_gok {W:World} (h:laidMet Tryd.prog Rows.fnExactParseTermRow.laid W):GOK W (fun b=>b < W.heap.size):=by
 have h2:=laidMet.tail (laidMet.tail h)
 have h4:=laidMet.tail (laidMet.tail h2)
 obtain ⟨a0,s0,hv,-,-,-⟩:=laid_sentinel h4 gES (by kernel_rfl) Tryd.underlying72 row_err Tryd.underlying103 Tryd.underlying105 rfl rfl Tryd.underlying9 (by kernel_rfl) (by kernel_rfl)
 rw [tab_is] at h2
 have htab:=Lib.tabIs_of_head gPT (by kernel_rfl) Tryd.underlying107 Tryd.underlying88 (by kernel_rfl) (by kernel_rfl) h2
 obtain ⟨t1,f1,e1⟩:=var_heap gES hv
 obtain ⟨t2,f2,e2⟩:=var_heap gPT htab
 intro b hb
 have hb:b=0∨b=2:=by simpa [GL] using hb
 rcases hb with rfl | rfl
 ·exact ⟨(Array.getElem?_eq_some_iff.1 e1).1,_,e1,fun _=>⟨_,_,_,_,rfl,rfl,.inr ⟨_,_,rfl⟩⟩,fun h=>absurd h (by decide)⟩
 ·exact ⟨(Array.getElem?_eq_some_iff.1 e2).1,_,e2,fun h=>absurd h (by decide),fun _=>⟨_,_,rfl⟩⟩

set_option maxRecDepth 100000 in
theorem lifted (os:Os) (started:os.Started) (H:Type) (enc:TypeId × Value→H) :
  ReturnsInHanded {} Tryd.checked os 4 .any (fun w args=>(Rows.fnExactParseTermSpec.pre enc Tryd.prog Tryd.f4 [] false w args∧laidMetH Tryd.prog Rows.fnExactParseTermRow.laid w)∧sizedMet enc Tryd.prog Tryd.f4 (OpenSpec.ofChange Rows.fnExactParseTermSpec) false w args)
   (Rows.fnExactParseTermSpec.post enc Tryd.prog Tryd.f4 false true false false):=by
 refine returnsInHanded_of_change_and (C:=Tryd.checked) (X:=fun w _=>laidMetH Tryd.prog Rows.fnExactParseTermRow.laid w) (fun _ _ _ hh h=>h.of_heap hh) Tryd.own started (by kernel_rfl) Tryd.func4
  (ChangeSpec.witness_shaped (enc:=enc) (C:=Tryd.checked) (os:=os) (X:=fun w _=>laidMetH Tryd.prog Rows.fnExactParseTermRow.laid w) false (World.laidAll Tryd.prog os Rows.fnExactParseTermRow.laid) #[.string ByteArray.empty] 8 (World.laidAll_os _ _ _)
   (World.shaped_of_ZipB (by kernel_rfl) (by kernel_rfl)) (by kernel_rfl) (by kernel_rfl) (by kernel_rfl)
   (by rw [MakeChecks.laidMetH_plain _ _ _ (by kernel_rfl)]; exact laidMet_laidAll _ (by kernel_rfl) (by kernel_rfl))) ?_
 intro W base args ds gs before hval hW _ _ hL _
 have hG:GOK W (fun b=>b < W.heap.size):=laid_gok (by rw [← MakeChecks.laidMetH_plain _ _ _ (by kernel_rfl)]; exact hL)
 refine Qha (P:=Tryd.prog) K1k (rts:=rts) (by kernel_rfl) (tb:=4) Tryd.laidOut ?_ (by kernel_rfl) (by kernel_rfl) rfl ?_ ?_ ?_ hval hW hG
 ·intro t ht
  rw [params_are] at ht
  simp only [List.mem_cons,List.not_mem_nil,or_false] at ht
  rcases ht with rfl <;> exact ⟨by kernel_rfl,of_decide_eq_true (by kernel_rfl)⟩
 ·intro ds hds
  rw [nparams] at hds
  match ds,hds with
  | [d0],_=>exact ⟨rfl,rfl,rfl⟩
 ·intro t ht
  rw [params_are] at ht
  simp only [List.mem_cons,List.not_mem_nil,or_false] at ht
  rcases ht with rfl <;> decide
 ·rw [params_are]
  exact law

theorem j1:Tryd.prog.mayEnter=true:=by kernel_rfl
theorem j2:Tryd.prog.liftsFinal=Rows.fnExactParseTermRow.lifted:=by kernel_rfl
theorem j3:Tryd.prog.make=some Rows.fnExactParseTermRow.make:=by kernel_rfl
theorem j4:Tryd.prog.inPlace 4=Rows.fnExactParseTermRow.inPlace:=by kernel_rfl
theorem j5:Tryd.prog.unfollowed 4=Rows.fnExactParseTermRow.unfollowed:=by kernel_rfl
theorem j6:Tryd.prog.recurses 4=Rows.fnExactParseTermRow.recurses:=by kernel_rfl
theorem j7:Tryd.prog.varsNamed 4=Rows.fnExactParseTermRow.named:=by kernel_rfl
theorem joined:joinedFacts Tryd.prog 4 Tryd.f4 Rows.fnExactParseTermSpec Rows.fnExactParseTermRow=true:=by
 unfold joinedFacts
 rw [j1,j2,j3,j4,j5,j6,j7]
 kernel_rfl
theorem row_holds:Rows.FnExactParseTermSaid :=
 OpenClaim.holds_of_wide 4 Tryd.f4 rfl rfl rfl rfl rfl rfl rfl ⟨rfl,rfl,rfl,rfl,rfl⟩ rfl rfl rfl rfl rfl (by kernel_rfl) Tryd.func4 joined
  (of_decide_eq_true (by kernel_rfl)) (by unfold Func.isWrapper; first | (rw [if_pos (by decide +kernel)]; kernel_rfl) | (rw [if_neg (by decide +kernel)]; exact ⟨rfl,rfl⟩))
  (fun os started H enc _=>lifted os started H enc)
theorem fnExactParseTerm_holds:Rows.FnExactParseTermCardSaid :=
 Claim7.holds_tied_plain_at .later [] [.data,.data,.data,.sentinel,.sentinel] true (true,"7e9ea0025b0879ed4aeb947dc81a054d9b91b4e38e1d503ca61a0db2b7ef0f79") true row_holds (fun _ h=>by cases h) (by kernel_rfl) (fun _ h=>by cases h) fnExactParseTerm_row_tie rfl ⟨rfl,rfl⟩ (by kernel_rfl) rfl
  (fun f fn hf hfn=>by
   obtain rfl:f=4:=Option.some.inj ((show Tryd.prog.funcNamed "loop.example/g03111/laws.FnExactParseTerm"=some 4 by kernel_rfl).symm.trans hf) |>.symm
   obtain rfl:fn=Tryd.f4:=(Option.some.inj (Tryd.func4.symm.trans hfn)).symm
   exact ⟨by kernel_rfl,fun j t ht=>by
    have hp:t ∈ Tryd.f4.params.toList:=by simpa using Array.mem_of_getElem? ht
    rw [params_are] at hp
    have hall:([9].all fun u=>!Tryd.prog.wantsStandIn u)=true:=by kernel_rfl
    exact (by simpa using List.all_eq_true.1 hall t hp:Tryd.prog.wantsStandIn t=false)⟩)
  (by kernel_rfl)
end Go.Proofs.YtifijafaaljamaaDoor
