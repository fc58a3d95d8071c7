/- A region whose operations are planned in the text's order comes to the plan's end in whatever order its edges allow. -/
import Derived.Test.YtifijafaaljamaaDoorAmB
namespace Go.Am
open Go.RowKit

section fold
variable {α : Type} (ws : Nat → List (Nat × α))
def sf (m : Nat → Bool) (f : Nat → α) : Nat → Nat → α
  | 0 => f
  | k + 1 => if m k then Q0n (ws k) (sf m f k) else sf m f k
theorem Q12 {m m' : Nat → Bool} {f : Nat → α} {t : Nat} : ∀ k,(∀ i,i < k → t ∈ (ws i).map (·.1) → m i = m' i) → sf ws m f k t = sf ws m' f k t := by
  intro k
  induction k with
  | zero => intro _; rfl
  | succ k ih =>
    intro h
    have ih' := ih (fun i hi => h i (by omega))
    simp only [sf]
    by_cases ht : t ∈ (ws k).map (·.1)
    · have := h k (by omega) ht
      rw [this]
      cases m' k with
      | true => simp only [if_true]; exact Q0p _ _ _ _ ht
      | false => simpa using ih'
    · cases m k <;> cases m' k <;> simp only [if_true,if_false,Bool.false_eq_true] <;> first | exact ih' | (rw [Q0o _ _ _ ht]; first | exact ih' | (rw [Q0o _ _ _ ht]; exact ih')) | (rw [Q0o _ _ _ ht]; exact ih')
theorem Q13 {m : Nat → Bool} {f : Nat → α} {t j : Nat} (g : Nat → α) (hm : m j = true) (ht : t ∈ (ws j).map (·.1)) :
    ∀ k,j < k → (∀ i,j < i → i < k → m i = true → t ∉ (ws i).map (·.1)) → sf ws m f k t = Q0n (ws j) g t := by
  intro k
  induction k with
  | zero => intro h; omega
  | succ k ih =>
    intro hjk h
    simp only [sf]
    by_cases e : j = k
    · subst e
      rw [hm]; simp only [if_true]
      exact Q0p _ _ _ _ ht
    · have ih' := ih (by omega) (fun i h1 h2 => h i h1 (by omega))
      cases hmk : m k with
      | true => simp only [if_true]; rw [Q0o _ _ _ (h k (by omega) (by omega) hmk)]; exact ih'
      | false => simpa using ih'
theorem Q14 {f : Nat → α} {t j : Nat} : ∀ k,j ≤ k → sf ws (fun i => decide (i < j)) f k t = sf ws (fun _ => true) f j t := by
  intro k
  induction k with
  | zero => intro h; have : j = 0 := by omega
            subst this; rfl
  | succ k ih =>
    intro h
    by_cases e : j = k + 1
    · subst e
      exact Q12 ws (k + 1) (fun i hi _ => by simp [hi])
    · have : ¬ k < j := by omega
      simp only [sf,this,decide_false,Bool.false_eq_true,if_false]
      exact ih (by omega)
theorem Q15 {m : Nat → Bool} {f : Nat → α} {t : Nat} : ∀ k,sf ws m f k t = f t ∨ ∃ i v,i < k ∧ m i = true ∧ (t,v) ∈ ws i ∧ sf ws m f k t = v := by
  intro k
  induction k with
  | zero => exact .inl rfl
  | succ k ih =>
    simp only [sf]
    have old : sf ws m f k t = f t ∨ ∃ i v,i < k + 1 ∧ m i = true ∧ (t,v) ∈ ws i ∧ sf ws m f k t = v := by
      rcases ih with h | ⟨i,v,hi,h⟩
      · exact .inl h
      · exact .inr ⟨i,v,by omega,h⟩
    cases hmk : m k with
    | false => simpa using old
    | true =>
      simp only [if_true]
      by_cases ht : t ∈ (ws k).map (·.1)
      · obtain ⟨v,hv,he⟩ := Q0q (ws k) (sf ws m f k) t ht
        exact .inr ⟨k,v,by omega,hmk,hv,he⟩
      · rw [Q0o _ _ _ ht]; exact old
end fold

theorem Q16 (pl : List PL) (m : Nat → Bool) (σ : Q0d) (k : Nat) : (st pl m σ k).T = sf (fun i => (pl.getD i default).wr.t) m σ.T k := by
  induction k with
  | zero => rfl
  | succ k ih => simp only [st,sf]; cases m k <;> simp [Q0d.app,ih]
theorem Q17 (pl : List PL) (m : Nat → Bool) (σ : Q0d) (k : Nat) : (st pl m σ k).O = sf (fun i => (pl.getD i default).wr.o) m σ.O k := by
  induction k with
  | zero => rfl
  | succ k ih => simp only [st,sf]; cases m k <;> simp [Q0d.app,ih]

theorem Q0d.ext' {a b : Q0d} (h1 : ∀ t,a.T t = b.T t) (h2 : ∀ t,a.O t = b.O t) : a = b := by
  cases a; cases b
  simp only [Q0d.mk.injEq]
  exact ⟨funext h1,funext h2⟩

theorem Q18 {p q : PL} {x : Nat} (h : x ∈ wts p) (h' : x ∈ wts q) : Q0v p q = true := by unfold Q0v; rw [Q0u h h']; simp
theorem Q19 {p q : PL} {x : Nat} (h : x ∈ wts p) (h' : x ∈ q.rd.t) : Q0v p q = true := by unfold Q0v; rw [Q0u h h']; simp
theorem Q1a {p q : PL} {x : Nat} (h : x ∈ p.rd.t) (h' : x ∈ wts q) : Q0v p q = true := by unfold Q0v; rw [Q0u h h']; simp
theorem Q1b {p q : PL} {x : Nat} (h : x ∈ wos p) (h' : x ∈ wos q) : Q0v p q = true := by unfold Q0v; rw [Q0u h h']; simp
theorem Q1c {p q : PL} {x : Nat} (h : x ∈ wos p) (h' : x ∈ q.rd.o) : Q0v p q = true := by unfold Q0v; rw [Q0u h h']; simp
theorem Q1d {p q : PL} {x : Nat} (h : x ∈ p.wr.new) (h' : x + 1000000 ∈ q.rd.o) : Q0v p q = true := by unfold Q0v; rw [Q0u (a := nws p) (List.mem_map.2 ⟨x,h,rfl⟩) h']; simp
theorem Q1e {p q : PL} {x : Nat} (h : x ∈ p.rd.o) (h' : x ∈ wos q) : Q0v p q = true := by unfold Q0v; rw [Q0u h h']; simp

structure Q1f (n : Nat) (pl : List PL) (pre : Nat → Nat → Prop) (σ : Q0d) : Prop where
  pairs : ∀ i j,i < j → j < n → Q0v (pl.getD i default) (pl.getD j default) = true → pre i j
  ments : ∀ i,i < n → ∀ k ∈ ments (pl.getD i default),k ∈ (pl.getD i default).rd.o ∨ k + 1000000 ∈ (pl.getD i default).rd.o ∨ k ∈ (pl.getD i default).wr.new
  new : ∀ j,j < n → ∀ k ∈ (pl.getD j default).wr.new,k ∈ wos (pl.getD j default) ∧ ∀ i,i < j → k ∉ wos (pl.getD i default) ∧ k ∉ Am.ments (pl.getD i default)
  fresh : ∀ j,j < n → ∀ k ∈ (pl.getD j default).wr.new,¬ Q0h σ k ∧ σ.O k = none

section order
variable {n : Nat} {pl : List PL} {pre : Nat → Nat → Prop} {σ : Q0d} (hp : Q1f n pl pre σ) {m : Nat → Bool} (hdown : ∀ i j,pre i j → j < n → m j = true → m i = true)
  {j : Nat} (hj : j < n) (hmj : m j = false) (hpre : ∀ i,pre i j → m i = true)
include hp hdown hj hmj hpre

theorem Q1g {i : Nat} (hi : i < n) : (i < j → Q0v (pl.getD i default) (pl.getD j default) = true → m i = true) ∧ (j < i → Q0v (pl.getD j default) (pl.getD i default) = true → m i = false) := by
  refine ⟨fun hlt hc => hpre i (hp.pairs i j hlt hj hc),fun hlt hc => ?_⟩
  cases hmi : m i with
  | false => rfl
  | true => have := hdown j i (hp.pairs j i hlt hi hc) hi hmi; rw [hmj] at this; cases this

theorem Q1h {i t : Nat} (hi : i < n) (hw : t ∈ ((pl.getD i default).wr.t).map (·.1)) (hr : t ∈ (pl.getD j default).rd.t ∨ t ∈ wts (pl.getD j default)) (hne : i ≠ j) : m i = decide (i < j) := by
  have hcs := Q1g hp hdown hj hmj hpre hi
  have hw' : t ∈ wts (pl.getD i default) := hw
  rcases Nat.lt_or_ge i j with h | h
  · rw [hcs.1 h (hr.elim (Q19 hw') (Q18 hw'))]; simp [h]
  · rw [hcs.2 (by omega) (hr.elim (fun hr => Q1a hr hw') (fun hr => Q18 hr hw'))]; simp; omega
theorem Q1i {i t : Nat} (hi : i < n) (hw : t ∈ ((pl.getD i default).wr.o).map (·.1)) (hr : t ∈ (pl.getD j default).rd.o ∨ t ∈ wos (pl.getD j default)) (hne : i ≠ j) : m i = decide (i < j) := by
  have hcs := Q1g hp hdown hj hmj hpre hi
  have hw' : t ∈ wos (pl.getD i default) := hw
  rcases Nat.lt_or_ge i j with h | h
  · rw [hcs.1 h (hr.elim (Q1c hw') (Q1b hw'))]; simp [h]
  · rw [hcs.2 (by omega) (hr.elim (fun hr => Q1e hr hw') (fun hr => Q1b hr hw'))]; simp; omega

theorem Q1j : Q0r (pl.getD j default).rd (st pl m σ n) (st pl (fun _ => true) σ j) := by
  constructor
  · intro t ht
    rw [Q16,Q16,← Q14 _ n (Nat.le_of_lt hj)]
    refine Q12 _ n (fun i hi hw => ?_)
    by_cases e : i = j
    · subst e; rw [hmj]; simp
    · exact Q1h hp hdown hj hmj hpre hi hw (.inl ht) e
  · intro t ht
    rw [Q17,Q17,← Q14 _ n (Nat.le_of_lt hj)]
    refine Q12 _ n (fun i hi hw => ?_)
    by_cases e : i = j
    · subst e; rw [hmj]; simp
    · exact Q1i hp hdown hj hmj hpre hi hw (.inl ht) e

theorem Q1k : ∀ k ∈ (pl.getD j default).wr.new,¬ Q0h (st pl m σ n) k ∧ (st pl m σ n).O k = none := by
  intro k hk
  obtain ⟨hwk,hbefore⟩ := hp.new j hj k hk
  obtain ⟨hf1,hf2⟩ := hp.fresh j hj k hk
  have noment : ∀ i,i < n → m i = true → k ∉ Am.ments (pl.getD i default) := by
    intro i hi hmi hm
    have hne : i ≠ j := by intro e; subst e; rw [hmj] at hmi; cases hmi
    rcases Nat.lt_or_ge i j with h | h
    · exact (hbefore i h).2 hm
    · have hji : j < i := by omega
      have hcs := Q1g hp hdown hj hmj hpre hi
      rcases hp.ments i hi k hm with h1 | h1 | h1
      · have := hcs.2 hji (Q1c hwk h1)
        rw [hmi] at this; cases this
      · have := hcs.2 hji (Q1d hk h1)
        rw [hmi] at this; cases this
      · exact ((hp.new i hi k h1).2 j hji).1 hwk
  constructor
  · rintro ((hz | ⟨t,ht⟩) | ⟨id,o,ho,hk'⟩)
    · exact hf1 (.inl (.inl hz))
    · rw [Q16] at ht
      rcases Q15 (fun i => (pl.getD i default).wr.t) (m := m) (f := σ.T) (t := t) n with h | ⟨i,v,hi,hmi,hv,h⟩
      · rw [h] at ht; exact hf1 (.inl (.inr ⟨t,ht⟩))
      · rw [h] at ht
        refine noment i hi hmi ?_
        simp only [Am.ments,List.mem_append,List.mem_flatMap]
        exact .inl ⟨(t,v),hv,ht⟩
    · rw [Q17] at ho
      rcases Q15 (fun i => (pl.getD i default).wr.o) (m := m) (f := σ.O) (t := id) n with h | ⟨i,v,hi,hmi,hv,h⟩
      · rw [h] at ho; exact hf1 (.inr ⟨id,o,ho,hk'⟩)
      · rw [h] at ho
        refine noment i hi hmi ?_
        simp only [Am.ments,List.mem_append,List.mem_flatMap]
        exact .inr ⟨(id,v),hv,by subst ho; exact hk'⟩
  · rw [Q17]
    rcases Q15 (fun i => (pl.getD i default).wr.o) (m := m) (f := σ.O) (t := k) n with h | ⟨i,v,hi,hmi,hv,h⟩
    · rw [h]; exact hf2
    · exfalso
      have hne : i ≠ j := by intro e; subst e; rw [hmj] at hmi; cases hmi
      have hki : k ∈ wos (pl.getD i default) := List.mem_map.2 ⟨(k,v),hv,rfl⟩
      rcases Nat.lt_or_ge i j with h' | h'
      · exact (hbefore i h').1 hki
      · have := (Q1g hp hdown hj hmj hpre hi).2 (by omega) (Q1b hwk hki)
        rw [hmi] at this; cases this

theorem Q1l {m' : Nat → Bool} (hm' : ∀ i,m' i = if i = j then true else m i) : (st pl m σ n).app (pl.getD j default).wr = st pl m' σ n := by
  refine Q0d.ext' (fun t => ?_) (fun t => ?_)
  · simp only [Q0d.app,Q16]
    by_cases ht : t ∈ ((pl.getD j default).wr.t).map (·.1)
    · refine (Q13 (fun i => (pl.getD i default).wr.t) (m := m') (f := σ.T) (j := j) (t := t) _ (by rw [hm']; simp) ht n hj (fun i h1 h2 h3 hw => ?_)).symm
      rw [hm',if_neg (by omega)] at h3
      have := Q1h hp hdown hj hmj hpre h2 hw (.inr ht) (by omega)
      rw [h3] at this
      simp at this; omega
    · rw [Q0o _ _ _ ht]
      refine Q12 _ n (fun i hi hw => ?_)
      rw [hm']
      by_cases e : i = j
      · subst e; exact absurd hw ht
      · rw [if_neg e]
  · simp only [Q0d.app,Q17]
    by_cases ht : t ∈ ((pl.getD j default).wr.o).map (·.1)
    · refine (Q13 (fun i => (pl.getD i default).wr.o) (m := m') (f := σ.O) (j := j) (t := t) _ (by rw [hm']; simp) ht n hj (fun i h1 h2 h3 hw => ?_)).symm
      rw [hm',if_neg (by omega)] at h3
      have := Q1i hp hdown hj hmj hpre h2 hw (.inr ht) (by omega)
      rw [h3] at this
      simp at this; omega
    · rw [Q0o _ _ _ ht]
      refine Q12 _ n (fun i hi hw => ?_)
      rw [hm']
      by_cases e : i = j
      · subst e; exact absurd hw ht
      · rw [if_neg e]
end order

def Q1m (n : Nat) (listed : Array Bool) : Nat := ((List.range n).filter fun i => !listed.getD i true).length

theorem Q1n {l : List Nat} {p q : Nat → Bool} (hd : l.Nodup) (j : Nat) (hj : j ∈ l) (hp : p j = true) (hq : q j = false) (h : ∀ i,i ≠ j → q i = p i) : (l.filter q).length + 1 = (l.filter p).length := by
  induction l with
  | nil => cases hj
  | cons x l ih =>
    rw [List.nodup_cons] at hd
    rcases List.mem_cons.1 hj with rfl | hj'
    · have : l.filter q = l.filter p := List.filter_congr (fun i hi => h i (fun e => hd.1 (e ▸ hi)))
      simp [hp,hq,this]
    · have hne : x ≠ j := fun e => hd.1 (e ▸ hj')
      have := ih hd.2 hj'
      rw [List.filter_cons,List.filter_cons,h x hne]
      split <;> simp_all

def Q1o (ops : Array Oper) (i j : Nat) : Prop := ∃ o,ops[j]? = some o ∧ ∃ e ∈ o.after,Region.binds .any e = true ∧ e.on = i

theorem Q1p {P : Program} {c : Ctx} {ops : Array Oper} {Q : Exit → Act → World → Prop} {pl : List PL} {σ : Q0d} {pre : Nat → Nat → Prop} (hp : Q1f ops.size pl pre σ)
    (hback : ∀ i j,Q1o ops i j → i < j) (hcl : ∀ m : Nat → Bool,(∀ i j,Q1o ops i j → j < ops.size → m j = true → m i = true) → ∀ i j,pre i j → j < ops.size → m j = true → m i = true)
    (hcl' : ∀ m : Nat → Bool,(∀ i j,Q1o ops i j → j < ops.size → m j = true → m i = true) → ∀ j,j < ops.size → (∀ i,Q1o ops i j → m i = true) → ∀ i,pre i j → m i = true)
    (hsteps : ∀ i,i < ops.size → Q0s P c ops i (pl.getD i default).rd (pl.getD i default).wr (st pl (fun _ => true) σ i))
    (hQ : ∀ a w,SRx c (st pl (fun _ => true) σ ops.size) a w → Q .normal a w) :
    ∀ (fuel : Nat) (listed : Array Bool) (a : Act) (w : World),listed.size = ops.size → Q1m ops.size listed = fuel → (∀ i j,Q1o ops i j → j < ops.size → listed.getD j false = true → listed.getD i false = true) →
      SRx c (st pl (fun i => listed.getD i false) σ ops.size) a w → wpAny P .any ops Q fuel listed a w := by
  intro fuel
  have ready_iff : ∀ (listed : Array Bool) (i : Nat),listed.size = ops.size → (i ∈ Region.ready .any ops listed ↔ i < ops.size ∧ listed.getD i false = false ∧ ∀ k,Q1o ops k i → listed.getD k false = true) := by
    intro listed i hs
    simp only [Region.ready,List.mem_filter,List.mem_range,Bool.and_eq_true,Bool.not_eq_true']
    constructor
    · rintro ⟨hi,hl,ha⟩
      refine ⟨hi,?_,?_⟩
      · simp only [Array.getD,hs,hi,dif_pos] at hl ⊢; exact hl
      · rintro k ⟨o,ho,e,he,hb,rfl⟩
        simp only [ho,Option.map_some,Option.getD_some,Array.all_eq_true'] at ha
        have := ha e he
        simpa [hb] using this
    · rintro ⟨hi,hl,ha⟩
      refine ⟨hi,?_,?_⟩
      · simp only [Array.getD,hs,hi,dif_pos] at hl ⊢; exact hl
      · have ho : ops[i]? = some ops[i] := Array.getElem?_eq_getElem hi
        simp only [ho,Option.map_some,Option.getD_some,Array.all_eq_true']
        intro e he
        cases hb : Region.binds .any e with
        | false => rfl
        | true => simpa using ha e.on ⟨_,ho,e,he,hb,rfl⟩
  have all_true : ∀ (listed : Array Bool),listed.size = ops.size → (∀ i,i < ops.size → listed.getD i false = true) → st pl (fun i => listed.getD i false) σ ops.size = st pl (fun _ => true) σ ops.size := by
    intro listed hs h
    refine Q0d.ext' (fun t => ?_) (fun t => ?_)
    · rw [Q16,Q16]; exact Q12 _ _ (fun i hi _ => h i hi)
    · rw [Q17,Q17]; exact Q12 _ _ (fun i hi _ => h i hi)
  have none_ready : ∀ (listed : Array Bool),listed.size = ops.size → Region.ready .any ops listed = [] → ∀ i,i < ops.size → listed.getD i false = true := by
    intro listed hs hr i
    induction i using Nat.strongRecOn with
    | _ i ih =>
      intro hi
      cases hl : listed.getD i false with
      | true => rfl
      | false =>
        have : i ∈ Region.ready .any ops listed := (ready_iff listed i hs).2 ⟨hi,hl,fun k hk => ih k (hback k i hk) (Nat.lt_trans (hback k i hk) hi)⟩
        rw [hr] at this; cases this
  induction fuel with
  | zero =>
    intro listed a w hs hu hd hsr
    have hall : ∀ i,i < ops.size → listed.getD i false = true := by
      intro i hi
      cases hl : listed.getD i false with
      | true => rfl
      | false =>
        have : i ∈ (List.range ops.size).filter fun i => !listed.getD i true := by
          simp only [List.mem_filter,List.mem_range,Bool.not_eq_true']
          refine ⟨hi,?_⟩
          simp only [Array.getD,hs,hi,dif_pos] at hl ⊢; exact hl
        have hlen : ((List.range ops.size).filter fun i => !listed.getD i true) = [] := List.eq_nil_of_length_eq_zero hu
        rw [hlen] at this; cases this
    refine ⟨?_,hQ a w (all_true listed hs hall ▸ hsr)⟩
    cases hr : Region.ready .any ops listed with
    | nil => rfl
    | cons x xs =>
      have := (ready_iff listed x hs).1 (by rw [hr]; exact List.mem_cons_self)
      rw [hall x this.1] at this
      cases this.2.1
  | succ fuel ih =>
    intro listed a w hs hu hd hsr
    refine ⟨fun hr => hQ a w (all_true listed hs (none_ready listed hs hr) ▸ hsr),fun j hj => ?_⟩
    obtain ⟨hjn,hlj,hpj⟩ := (ready_iff listed j hs).1 hj
    have hdown := hcl (fun i => listed.getD i false) hd
    have hpre := hcl' (fun i => listed.getD i false) hd j hjn hpj
    refine hsteps j hjn _ (Q1j hp hdown hjn hlj hpre) (Q1k hp hdown hjn hlj hpre) a w hsr _ Q ?_
    intro a' w' hsr'
    have hm' : ∀ i,(listed.setIfInBounds j true).getD i false = if i = j then true else listed.getD i false := by
      intro i
      by_cases e : i = j
      · subst e; simp [Array.getD,hs,hjn]
      · have e' : j ≠ i := fun h => e h.symm
        by_cases hi : i < listed.size
        · simp [Array.getD,hi,e,Array.getElem_setIfInBounds_ne,e']
        · simp [Array.getD,hi,e]
    rw [Q1l hp hdown hjn hlj hpre (m' := fun i => (listed.setIfInBounds j true).getD i false) hm'] at hsr'
    refine ih _ a' w' (by simpa using hs) ?_ ?_ hsr'
    · have := Q1n (l := List.range ops.size) (p := fun i => !listed.getD i true) (q := fun i => !(listed.setIfInBounds j true).getD i true) List.nodup_range j (List.mem_range.2 hjn)
        (by simp only [Array.getD,hs,hjn,dif_pos] at hlj ⊢; simpa using hlj) (by simp [Array.getD,hs,hjn])
        (fun i e => by
          have e' : j ≠ i := fun h => e h.symm
          by_cases hi : i < listed.size
          · simp [Array.getD,hi,Array.getElem_setIfInBounds_ne,e']
          · simp [Array.getD,hi])
      unfold Q1m at *
      omega
    · intro i k hik hk hlk
      rw [hm'] at hlk ⊢
      by_cases e : i = j
      · rw [if_pos e]
      · rw [if_neg e]
        by_cases e2 : k = j
        · subst e2; exact hpj i hik
        · rw [if_neg e2] at hlk; exact hd i k hik hk hlk

end Go.Am
