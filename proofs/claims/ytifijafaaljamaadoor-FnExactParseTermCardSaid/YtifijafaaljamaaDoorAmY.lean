/- What is read, as pure values. -/
import Derived.Test.YtifijafaaljamaaDoorAmX
set_option linter.unusedSimpArgs false
set_option linter.unusedVariables false
namespace Go.Am

section
variable {TI:Nat→Option Q1r}
theorem Qhb {n t:Nat} {k:IntKind} {xs:List AV} (ht:shp TI t=some (.int k)) (h:Okc TI n t xs):∃ m,xs=[.int k m]∧(Lit.int k m).wf=true:=by
 cases n with
 | zero=>exact h.elim
 | succ n=>unfold Okc at h; rw [ht] at h; exact h
theorem Qhc {n t:Nat} {xs:List AV} (ht:shp TI t=some .bool) (h:Okc TI n t xs):∃ b,xs=[.bool b]:=by
 cases n with
 | zero=>exact h.elim
 | succ n=>unfold Okc at h; rw [ht] at h; exact h
theorem Qhd {n t:Nat} {xs:List AV} (ht:shp TI t=some .string) (h:Okc TI n t xs):∃ s,xs=[.str s]∧s.size ≤ maxLen:=by
 cases n with
 | zero=>exact h.elim
 | succ n=>unfold Okc at h; rw [ht] at h; exact h
theorem Qhe {n t:Nat} {fs:List (Nat × Nat)} {xs:List AV} (ht:shp TI t=some (.struct fs)) (h:Okc TI n t xs):∃ m,n=m + 1∧Qgp (Okc TI m) fs xs:=by
 cases n with
 | zero=>exact h.elim
 | succ n=>unfold Okc at h; rw [ht] at h; exact ⟨n,rfl,h⟩
theorem Qhf {α:Type} {enc:α→AV} {W:α→Prop} {n t e:Nat} {xs:List AV} (ht:shp TI t=some (.slice e)) (hel:∀ m,m < n→∀ ys,Okc TI m e ys→∃ v,Qgo (Qgq TI e) ys=enc v∧W v) (h:Okc TI n t xs) :
  ∃ l:List α,xs=[.sl (l.map enc)]∧l.length ≤ maxLen∧∀ v ∈ l,W v:=by
 cases n with
 | zero=>exact h.elim
 | succ n =>
  unfold Okc at h
  rw [ht] at h
  obtain ⟨l,rfl,hl,hx⟩:=h
  have key:∀ l:List (List AV),(∀ ys ∈ l,Okc TI n e ys)→∃ vs:List α,l.map (Qgo (Qgq TI e))=vs.map enc∧vs.length=l.length∧∀ v ∈ vs,W v:=by
   intro l
   induction l with
   | nil=>intro _; exact ⟨[],rfl,rfl,fun v hv=>(by cases hv)⟩
   | cons y l ih =>
    intro hx
    obtain ⟨v,hv,hw⟩:=hel n (Nat.lt_succ_self n) y (hx y List.mem_cons_self)
    obtain ⟨vs,h1,h2,h3⟩:=ih (fun ys hys=>hx ys (List.mem_cons_of_mem _ hys))
    refine ⟨v :: vs,by rw [List.map_cons,List.map_cons,hv,h1],by simp [h2],fun u hu=>?_⟩
    rcases List.mem_cons.1 hu with rfl | hu
    ·exact hw
    ·exact h3 u hu
  obtain ⟨vs,h1,h2,h3⟩:=key l hx
  exact ⟨vs,by rw [h1],by omega,h3⟩
end
end Go.Am
