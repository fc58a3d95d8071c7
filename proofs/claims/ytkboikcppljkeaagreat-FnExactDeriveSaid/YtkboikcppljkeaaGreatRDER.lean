/- Proved here: the law FnExactDerive answers true for all arguments, and every argument reads behind the call as it read before. No condition beyond the given statement's own. -/
import Derived.Test.YtkboikcppljkeaaGreatAmY
import Derived.Test.YtkboikcppljkeaaGreatPDER2
import Derived.Test.YtkboikcppljkeaaGreatRows
set_option linter.unusedVariables false
set_option linter.unusedSimpArgs false
namespace Go.Proofs.YtkboikcppljkeaaGreat
open Go.ChangeShapes Go.WideShapes Go.ChangeAt Go.RowKit Go.Am

theorem Tryz.own:ownKnob Tryz.prog.godebug=none:=by kernel_rfl
theorem Tryz.laidOut:laidOutB Tryz.prog=true:=by kernel_rfl
def rts:List Nat:=[3,4,22,23,25,37,38,40]
theorem wf_i64 {m:Int} (h:(Lit.int .i64 m).wf=true):-9223372036854775808 ≤ m∧m ≤ 9223372036854775807:=by
 simp [Lit.wf,IntKind.min,IntKind.max,IntKind.bits,IntKind.signed] at h
 omega
theorem rd_I {n:Nat} {xs:List AV} (h:Okc TIx n 3 xs):∃ m,xs=[.int .i64 m]∧(-9223372036854775808 ≤ m∧m ≤ 9223372036854775807):=by
 obtain ⟨m,h1,h2⟩:=Qfs (k:=.i64) (by kernel_rfl) h
 exact ⟨m,h1,wf_i64 h2⟩
theorem rd_LI {n:Nat} {xs:List AV} (h:Okc TIx n 22 xs):∃ l:List Int,xs=[.sl (l.map I)]∧l.length ≤ maxLen :=
 let ⟨l,h1,h2,_⟩:=Qfw (e:=3) (W:=fun _=>True) (by kernel_rfl) (fun m _ ys hy=>by obtain ⟨v,rfl,hv⟩:=rd_I hy; exact ⟨v,rfl,trivial⟩) h
 ⟨l,h1,h2⟩
theorem rd_LB {n:Nat} {xs:List AV} (h:Okc TIx n 23 xs):∃ l:List Bool,xs=[.sl (l.map AV.bool)]∧l.length ≤ maxLen :=
 let ⟨l,h1,h2,_⟩:=Qfw (e:=4) (W:=fun _=>True) (by kernel_rfl) (fun m _ ys hy=>by obtain ⟨v,rfl⟩:=Qft (by kernel_rfl) hy; exact ⟨v,rfl,trivial⟩) h
 ⟨l,h1,h2⟩
theorem rd_LLI {n:Nat} {xs:List AV} (h:Okc TIx n 37 xs):∃ l:List (List Int),xs=[.sl (l.map K07)]∧(l.length ≤ maxLen∧∀ v ∈ l,v.length ≤ maxLen) :=
 Qfw (e:=22) (by kernel_rfl) (fun m _ ys hy=>by obtain ⟨v,rfl,hv⟩:=rd_LI hy; exact ⟨v,rfl,hv⟩) h
theorem rd_System {n:Nat} {xs:List AV} (h:Okc TIx n 25 xs):∃ s:K00,AV.agg xs=K0q s∧sln s:=by
 obtain ⟨m,rfl,ys,zs,rfl,h1,ys2,zs2,rfl,h2,ys3,zs3,rfl,h3,ys4,zs4,rfl,h4,rfl⟩:=Qfv (fs:=[(0,3),(1,22),(2,22),(3,23)]) (by kernel_rfl) h
 obtain ⟨a,rfl,_⟩:=rd_I h1
 obtain ⟨b,rfl,hb⟩:=rd_LI h2
 obtain ⟨c,rfl,hc⟩:=rd_LI h3
 obtain ⟨d,rfl,hd⟩:=rd_LB h4
 exact ⟨⟨a,b,c,d⟩,rfl,hb,hc,hd⟩
theorem tlns_of {l:List K01} (h:∀ t ∈ l,tln t):Kue l:=by
 induction l with
 | nil=>exact trivial
 | cons x l ih=>exact ⟨h x List.mem_cons_self,ih (fun t ht=>h t (List.mem_cons_of_mem _ ht))⟩
theorem rd_Term (n:Nat):∀ (xs:List AV),Okc TIx n 40 xs→∃ t:K01,AV.agg xs=K0y t∧tln t:=by
 induction n using Nat.strongRecOn with
 | ind n ih =>
  intro xs h
  obtain ⟨m,rfl,ys,zs,rfl,h1,ys2,zs2,rfl,h2,ys3,zs3,rfl,h3,ys4,zs4,rfl,h4,rfl⟩:=Qfv (fs:=[(0,3),(1,3),(2,22),(3,38)]) (by kernel_rfl) h
  obtain ⟨a,rfl,_⟩:=rd_I h1
  obtain ⟨b,rfl,hbn⟩:=rd_I h2
  obtain ⟨c,rfl,hc⟩:=rd_LI h3
  obtain ⟨d,rfl,hd,hk⟩:=Qfw (e:=40) (enc:=K0s) (W:=tln) (by kernel_rfl) (fun k hk ys hy=>by
   have e:Qf7 TIx 40=true:=by kernel_rfl
   rw [e]
   obtain ⟨t,h1,h2⟩:=ih k (by omega) ys hy
   refine ⟨t,?_,h2⟩
   rw [K0z]
   exact h1) h4
  exact ⟨⟨a,b,c,d⟩,rfl,by rw [tln]; exact ⟨hc,hd,tlns_of hk,hbn⟩⟩
theorem law (xs:List AV) (h:Qfp TIx [25,37,40] xs):Q71 Tryz.prog 4 xs (.bool true) []:=by
 obtain ⟨n0,ys0,r0,rfl,h0,n1,ys1,r1,rfl,h1,n2,ys2,r2,rfl,h2,rfl⟩:=h
 obtain ⟨v0,e0,w0⟩:=rd_System h0
 obtain ⟨v1,rfl,w1⟩:=rd_LLI h1
 obtain ⟨v2,e2,w2⟩:=rd_Term _ _ h2
 have a25:Qf7 TIx 25=true:=by kernel_rfl
 have a37:Qf7 TIx 37=false:=by kernel_rfl
 have a40:Qf7 TIx 40=true:=by kernel_rfl
 rw [a25,a37,a40]
 have:=Kr2 (v0,v1,v2) true (V36 v0 v1 v2 w0 w1 w2)
 show Q71 Tryz.prog 4 [AV.agg ys0,.sl (v1.map K07),AV.agg ys2] (.bool true) []
 rw [e0,e2]
 exact this
theorem params_are:Tryz.f4.params.toList=[25,37,40]:=by kernel_rfl
theorem nparams:Tryz.f4.params.size=3:=by kernel_rfl
set_option maxRecDepth 100000 in
theorem lifted (os:Os) (started:os.Started) (H:Type) (enc:TypeId × Value→H) :
  ReturnsInHanded {} Tryz.checked os 4 .any (Rows.fnExactDeriveSpec.pre6 enc Tryz.prog Tryz.f4 Rows.fnExactDeriveRow.domain false) (Rows.fnExactDeriveSpec.post enc Tryz.prog Tryz.f4 false true false false):=by
 refine returnsInHanded_of_change (C:=Tryz.checked) Tryz.own started (by kernel_rfl) Tryz.func4
  (ChangeSpec.witness6 (enc:=enc) (C:=Tryz.checked) false ⟨#[],#[.agg #[.int .i64 0,.slice none 0 0,.slice none 0 0,.slice none 0 0],.slice none 0 0,.agg #[.int .i64 0,.int .i64 0,.slice none 0 0,.slice none 0 0]],[]⟩ 8 (by kernel_rfl) (by kernel_rfl) (by kernel_rfl) (by kernel_rfl)) ?_
 intro W base args ds gs before hval hW hcnd _
 refine Qfr (P:=Tryz.prog) K3e (rts:=rts) (by kernel_rfl) (tb:=4) Tryz.laidOut ?_ (by kernel_rfl) (by kernel_rfl) rfl ?_ ?_ ?_ hval hW
 ·intro t ht
  rw [params_are] at ht
  simp only [List.mem_cons,List.not_mem_nil,or_false] at ht
  rcases ht with rfl | rfl | rfl <;> exact ⟨by kernel_rfl,of_decide_eq_true (by kernel_rfl)⟩
 ·intro ds hds
  rw [nparams] at hds
  match ds,hds with
  | [d0,d1,d2],_=>exact ⟨rfl,rfl,rfl⟩
 ·intro t ht
  rw [params_are] at ht
  simp only [List.mem_cons,List.not_mem_nil,or_false] at ht
  rcases ht with rfl | rfl | rfl <;> decide
 ·rw [params_are]
  exact law

theorem j1:Tryz.prog.mayEnter=true:=by kernel_rfl
theorem j2:Tryz.prog.liftsFinal=Rows.fnExactDeriveRow.lifted:=by kernel_rfl
theorem j3:Tryz.prog.make=some Rows.fnExactDeriveRow.make:=by kernel_rfl
theorem j4:Tryz.prog.inPlace 4=Rows.fnExactDeriveRow.inPlace:=by kernel_rfl
theorem j5:Tryz.prog.unfollowed 4=Rows.fnExactDeriveRow.unfollowed:=by kernel_rfl
theorem j6:Tryz.prog.recurses 4=Rows.fnExactDeriveRow.recurses:=by kernel_rfl
theorem j7:Tryz.prog.varsNamed 4=Rows.fnExactDeriveRow.named:=by kernel_rfl
theorem joined:joinedFacts Tryz.prog 4 Tryz.f4 Rows.fnExactDeriveSpec Rows.fnExactDeriveRow=true:=by
 unfold joinedFacts
 rw [j1,j2,j3,j4,j5,j6,j7]
 kernel_rfl
theorem fnExactDerive_holds:Rows.FnExactDeriveSaid :=
 OpenClaim.holds_of_wide 4 Tryz.f4 rfl rfl rfl rfl rfl rfl rfl ⟨rfl,rfl,rfl,rfl,rfl⟩ rfl rfl rfl rfl rfl (by kernel_rfl) Tryz.func4 joined
  (of_decide_eq_true (by kernel_rfl)) (by unfold Func.isWrapper; first | (rw [if_pos (by decide +kernel)]; kernel_rfl) | (rw [if_neg (by decide +kernel)]; exact ⟨rfl,rfl⟩))
  (fun os started H enc _=>lifted os started H enc)
end Go.Proofs.YtkboikcppljkeaaGreat
