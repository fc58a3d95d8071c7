/- Stores into a part of an element; rows of which one cell has a number of its own; calls that something is handed over to. -/
import Derived.Test.YtifijafaaljamaaDoorAmO
set_option linter.unusedSimpArgs false
set_option linter.unusedVariables false
namespace Go.Am
open Go.RowKit

section
variable {P : Program} {c : Ctx} {o : Oper} {σ : Q0d}

def Q94 : AV → Bool
  | .int _ _ | .bool _ | .str _ | .sl _ => true
  | _ => false
def Q95 : AV → Bool
  | .agg _ => true
  | _ => false

def Q96 (TI : Nat → Option Q1r) (o : Oper) (σ : Q0d) (t : Nat) (x y : Operand) (r : Orc) : Option Ev :=
  match TI t,opv σ x,o.dst,r with
  | some fi,.ea id sz i off,none,.el x0 =>
    match σ.O id with
    | some (.arr xs) =>
      bif Nat.beq fi.size 1 && Nat.blt off sz && Nat.beq (cellsOf x0).length sz && Q94 (opv σ y) && Q95 x0 then
        some ⟨⟨opr x ++ opr y,[id]⟩,⟨[],Q4o id (.arr (xs.set i (.agg ((cellsOf x0).set off (opv σ y))))) [],[]⟩,[xs[i]? = some x0]⟩
      else none
    | _ => none
  | _,_,_,_ => none

theorem Q97 {i i' j j' sz : Nat} (hj : j < sz) (hj' : j' < sz) (h : ¬ (i' = i ∧ j' = j)) : i' * sz + j' ≠ i * sz + j := by
  intro e
  rcases Nat.lt_trichotomy i' i with hlt | he | hgt
  · have : (i' + 1) * sz ≤ i * sz := Nat.mul_le_mul_right _ (by omega)
    rw [Nat.add_mul,Nat.one_mul] at this; omega
  · subst he; exact h ⟨rfl,by omega⟩
  · have : (i + 1) * sz ≤ i' * sz := Nat.mul_le_mul_right _ (by omega)
    rw [Nat.add_mul,Nat.one_mul] at this; omega

theorem Q98 {w : World} {Sh : Nat → Prop} {β : Nat → Value} {v : Value} {z : AV} (h : Q0i w Sh β v z) (hp : Q94 z = true) : Q03 w Sh v z ∧ v.cells = #[v] ∧ v.oneCell' = true := by
  cases h with
  | base _ _ h =>
    refine ⟨h,?_⟩
    cases h <;> first | exact ⟨rfl,rfl⟩ | simp [Q94] at hp
  | _ => simp [Q94] at hp
theorem Q99 {TI : Nat → Option Q1r} (hTI : Q20 P TI) (t : Nat) (x y : Operand) (r : Orc) (ho : o.op = .store t x y) : Q2o P c o σ (Q96 TI o σ t x y r) := by
  unfold Q96
  split
  · rename_i fi id sz i off x0 hfi hx hd
    split
    · rename_i xs hO
      refine .ite (fun hb => ?_) (fun _ => .none)
      simp only [Bool.and_eq_true] at hb
      obtain ⟨⟨⟨⟨hfsz,hoff⟩,hlen⟩,hpl⟩,hagg⟩ := hb
      have hfsz := Nat.eq_of_beq_eq_true hfsz
      have hoff : off < sz := by simpa [Nat.blt_eq] using hoff
      have hlen := Nat.eq_of_beq_eq_true hlen
      intro ev he
      simp only [Option.some.injEq] at he
      subst he
      intro hobs τ hag hfr a w hsr K Q hK
      obtain ⟨β,fp,Sh,hs⟩ := hsr
      have hx0 : xs[i]? = some x0 := hobs _ (List.mem_singleton.2 rfl)
      have hilt : i < xs.length := (List.getElem?_eq_some_iff.1 hx0).1
      have hav : av xs i = x0 := by simp [av,List.getD_eq_getElem?_getD,hx0]
      have h1 := hs.opd x; rw [Q2k x (fun t h => hag.1 t (List.mem_append_left _ h)),hx] at h1
      have h2 := hs.opd y; rw [Q2k y (fun t h => hag.1 t (List.mem_append_right _ h))] at h2
      obtain ⟨g,n,cp,hg,e1⟩ := h1.ea_inv
      have hO' : τ.O id = some (.arr xs) := (hag.2 id (by simp)).trans hO
      have hown : Q04 w Sh (fp id) (β id) (.osl xs) := hs.ob id _ hO'
      have hsome : (τ.O id).isSome := by rw [hO']; rfl
      have hy := Q98 h2 hpl
      obtain ⟨hyr,hyc,hy1⟩ := hy
      rw [hg] at hown
      cases hown with
      | val S v x h => cases h
      | osl S g c' sz' e cur xs Si hgb hc hc0 hm hsc hz hr hSg hSS hdd =>
        have hszeq : sz' = sz := by rw [← hz i hilt,hav,hlen]
        subst hszeq
        have hidx : i * sz' + off < cur.size := by rw [hsc]; exact Q0b hilt hc hoff
        obtain ⟨w',hrun,hg',hoth,hsize,hos,htp,hout⟩ := Q5c (P := P) hTI hfi (w := w) (g := g) (off := i * sz' + off) (v := a.eval y) hgb (by rw [hyc]; simp; omega) (by omega)
          (by rw [hyc]; intro u hu; simp at hu; rw [hu]; exact hy1)
        have hexec : (execOp a.eval o).run P w = .ok .skip w' := by
          simp only [execOp,ho,e1,Instr.storeAt,Instr.sureAddr,Sem.run_bind,Sem.run_pure,Result.andThen,hrun]
        unfold Oper.wp
        rw [hexec]
        show K (a.put o.dst undef) w'
        rw [hd,Act.put_none]
        have hShne : ∀ b,Sh b → b ≠ g := fun b hb e => (hs.fb id g hsome hSg).1 (e ▸ hb)
        have hlenv : (a.eval y).cells.toList.length = 1 := by rw [hyc]; rfl
        have hcell0 : cellsOf (AV.agg ((cellsOf x0).set off (opv σ y))) = (cellsOf x0).set off (opv σ y) := rfl
        have hres := hs.reset id [] (.arr (xs.set i (.agg ((cellsOf x0).set off (opv σ y))))) (β id) (fp id) (.inr ⟨rfl,hsome⟩) (w' := w')
          ⟨hos,htp,hout,by omega,fun b _ hX => hoth b (fun e => hX ⟨id,.inr rfl,hsome,e ▸ hSg⟩)⟩
          (by
            show Q04 w' Sh _ (β id) (.osl (xs.set i (.agg ((cellsOf x0).set off (opv σ y)))))
            rw [hg]
            have hxl : (xs.set i (.agg ((cellsOf x0).set off (opv σ y)))).length = xs.length := by simp
            have := Q04.osl (w := w') (Sh := Sh) (fp id) g cp sz' e _ (xs.set i (.agg ((cellsOf x0).set off (opv σ y)))) Si hg' (by rw [hxl]; exact hc) (by rw [hxl]; exact hc0) hm
              (by rw [Q5b _ _ _ (by rw [hlenv]; omega)]; exact hsc)
              (fun i' hi' => by
                rw [hxl] at hi'
                rw [Q78 hilt]
                split
                · rw [hcell0,List.length_set]; exact hlen
                · exact hz i' hi')
              (fun i' j' hi' hj' => by
                rw [hxl] at hi'
                have hjs : j' < sz' := by
                  rw [Q78 hilt] at hj'
                  split at hj'
                  · rw [hcell0,List.length_set] at hj'; omega
                  · rw [hz i' hi'] at hj'; exact hj'
                rw [Q78 hilt,Q5a _ _ _ _ (by rw [hlenv]; omega),hlenv]
                by_cases hcase : i' = i ∧ j' = off
                · obtain ⟨rfl,rfl⟩ := hcase
                  rw [if_pos rfl,if_pos (by omega),Nat.sub_self,hcell0,Q78 (by omega),if_pos rfl,hyc]
                  exact .val _ _ _ (hyr.mono (fun b hb => hoth b (hShne b hb)) (fun _ h => h))
                · have hne := Q97 (i := i) (i' := i') hoff hjs hcase
                  rw [if_neg (by omega)]
                  have hold := (hr i' j' hi' (by rw [hz i' hi']; exact hjs)).mono (w' := w') (Sh' := Sh) (S' := Si i' j') (fun b hb => hoth b (hShne b hb)) (fun b hb => hoth b (hSS i' j' b hi' hjs hb).2) (fun _ h => h) (fun _ h => h)
                  by_cases hii : i' = i
                  · subst hii
                    rw [if_pos rfl,hcell0,Q78 (by omega),if_neg (fun e => hcase ⟨rfl,e⟩),← hav]
                    exact hold
                  · rw [if_neg hii]; exact hold)
              hSg (fun i' j' b hi' hj' hb => hSS i' j' b (by rw [hxl] at hi'; exact hi') hj' hb) (fun i1 j1 i2 j2 b h1 h2 h3 h4 h5 h6 => hdd i1 j1 i2 j2 b (by rw [hxl] at h1; exact h1) h2 (by rw [hxl] at h3; exact h3) h4 h5 h6)
            rw [hxl] at this
            exact this)
          (fun b hb => ⟨.inl ⟨id,.inr rfl,hsome,hb⟩,by rw [hsize]; exact (hs.fb id b hsome hb).2.1⟩)
        have e2 : upd β id (β id) = β := by funext j; unfold upd; split <;> simp_all
        exact hK _ _ ⟨_,_,Sh,hres⟩
    · exact .none
  · exact .none

def Q9a (TI : Nat → Option Q1r) (nt : Nat) (o : Oper) (σ : Q0d) (t : Nat) (x y : Operand) : Option Ev :=
  match shp TI t with
  | some (.slice e) =>
    match TI e,opv σ y,opv σ x with
    | some ei,.int _ i,.rs id =>
      match σ.O id with
      | some (.arx xs _ _ _) => qv nt o (.ea id ei.size i.toNat 0) (opr x ++ opr y) [id] [0 ≤ i ∧ i.toNat < xs.length]
      | _ => none
    | _,_,_ => none
  | _ => none
theorem Q9b {TI : Nat → Option Q1r} (hTI : Q20 P TI) (t : Nat) (x y : Operand) (ho : o.op = .indexAddr t x y) : Q2o P c o σ (Q9a TI c.nt o σ t x y) := by
  have ox : ∀ {τ : Q0d},(∀ t ∈ opr x ++ opr y,τ.T t = σ.T t) → opv τ x = opv σ x := fun ht => Q2k x (fun t h => ht t (List.mem_append_left _ h))
  have oy : ∀ {τ : Q0d},(∀ t ∈ opr x ++ opr y,τ.T t = σ.T t) → opv τ y = opv σ y := fun ht => Q2k y (fun t h => ht t (List.mem_append_right _ h))
  unfold Q9a
  split
  · rename_i e hsh
    obtain ⟨ti,hti,hshp⟩ := Q2l hsh
    split
    · rename_i ei k i id hei hy hx
      split
      · rename_i xs i0 j0 k0 hO
        refine Q2p fun hobs τ ht hob β fp Sh a w hs => ?_
        have h1 := hs.opd x; rw [ox ht,hx] at h1
        have h2 := hs.opd y; rw [oy ht,hy] at h2
        obtain ⟨h0,hlt⟩ := hobs _ (List.mem_singleton.2 rfl)
        have hO' : τ.O id = some (.arx xs i0 j0 k0) := (hob id (by simp)).trans hO
        obtain ⟨g,cp,sz,e',cur,Si,q⟩ := hs.ob id _ hO'
        have e1 := h1.rs_inv
        rw [q.hv] at e1
        refine ⟨.pointer (some ⟨g,0 + i.toNat * ei.size,none⟩),?_,?_⟩
        · obtain ⟨d,hd,h3⟩ := Q26 hTI hti w
          rw [hshp] at h3
          have : d = .slice e := by cases d <;> simp [Q1q] at h3 <;> simp [h3]
          subst this
          have hsz := Q24 hTI hei w
          have hin : 0 ≤ i ∧ i < (xs.length : Int) := by omega
          simp only [execOp,ho,e1,h2.int_inv,Instr.indexAt,asIntOf,Sem.run_bind,hd,Result.andThen,Sem.run_pure,if_pos hin,hsz,Q2a]
        · have := Q0i.ea (w := w) (Sh := Sh) (β := β) id ei.size i.toNat 0 g _ cp q.hv
          simpa using this
      · exact .none
    · exact .none
  · exact .none

def Q9c (TI : Nat → Option Q1r) (o : Oper) (σ : Q0d) (t : Nat) (x y : Operand) (r : Orc) : Option Ev :=
  match TI t,opv σ x,opv σ y,o.dst,r with
  | some fi,.ea id sz i off,.rs k',none,.el x0 =>
    match σ.O id with
    | some (.arx xs i0 j0 k) => bif Nat.beq off j0 && Nat.beq fi.size 1 && Nat.beq (cellsOf x0).length sz then some ⟨⟨opr x ++ opr y,[id,k' + 1000000]⟩,⟨[],Q4o id (.arx xs i0 j0 k') [],[]⟩,[xs[i0]? = some x0 ∧ i = i0]⟩ else none
    | _ => none
  | _,_,_,_,_ => none
theorem Q9d {TI : Nat → Option Q1r} (hTI : Q20 P TI) (t : Nat) (x y : Operand) (r : Orc) (ho : o.op = .store t x y) : Q2o P c o σ (Q9c TI o σ t x y r) := by
  unfold Q9c
  split
  · rename_i fi id sz i off k' x0 hfi hx hyv hd
    split
    · rename_i xs i0 j0 k hO
      refine .ite (fun hb => ?_) (fun _ => .none)
      simp only [Bool.and_eq_true] at hb
      obtain ⟨⟨hoff,hfsz⟩,hlen⟩ := hb
      have hfsz := Nat.eq_of_beq_eq_true hfsz
      have hoff := Nat.eq_of_beq_eq_true hoff
      have hlen := Nat.eq_of_beq_eq_true hlen
      subst hoff
      intro ev he
      simp only [Option.some.injEq] at he
      subst he
      intro hobs τ hag hfr a w hsr K Q hK
      obtain ⟨β,fp,Sh,hs⟩ := hsr
      obtain ⟨hx0,hii⟩ := hobs _ (List.mem_singleton.2 rfl)
      subst hii
      have hav : av xs i = x0 := by simp [av,List.getD_eq_getElem?_getD,hx0]
      have h1 := hs.opd x; rw [Q2k x (fun t h => hag.1 t (List.mem_append_left _ h)),hx] at h1
      have h2 := hs.opd y; rw [Q2k y (fun t h => hag.1 t (List.mem_append_right _ h)),hyv] at h2
      obtain ⟨g,n,cp,hg,e1⟩ := h1.ea_inv
      have hO' : τ.O id = some (.arx xs i off k) := (hag.2 id (by simp)).trans hO
      have hsome : (τ.O id).isSome := by rw [hO']; rfl
      have hyv2 : a.eval y = β k' := h2.rs_inv
      have hy1 : (a.eval y).oneCell' = true := by
        rw [hyv2]
        generalize a.eval y = v at h2
        cases h2 with
        | base _ _ h => cases h
        | rs _ h => exact h
      have hyc : (a.eval y).cells = #[a.eval y] := by generalize a.eval y = v at hy1; cases v <;> first | rfl | (simp [Value.oneCell'] at hy1)
      obtain ⟨g',cp',sz',e,cur,Si,q⟩ := hs.ob id _ hO'
      have hg2 := q.hv
      rw [hg] at hg2
      simp only [Value.slice.injEq,Option.some.injEq,Addr.mk.injEq,and_true] at hg2
      obtain ⟨rfl,_,_⟩ := hg2
      have hszz : sz' = sz := by rw [← q.hz i q.hi,hav,hlen]
      subst hszz
      have hidx : i * sz' + off < cur.size := by rw [q.hs]; exact Q0b q.hi q.hc q.hj
      obtain ⟨w',hrun,hg',hoth,hsize,hos,htp,hout⟩ := Q5c (P := P) hTI hfi (w := w) (g := g) (off := i * sz' + off) (v := a.eval y) q.hg (by rw [hyc]; simp; omega) (by omega)
        (by rw [hyc]; intro u hu; simp at hu; rw [hu]; exact hy1)
      have hexec : (execOp a.eval o).run P w = .ok .skip w' := by
        simp only [execOp,ho,e1,Instr.storeAt,Instr.sureAddr,Sem.run_bind,Sem.run_pure,Result.andThen,hrun]
      unfold Oper.wp
      rw [hexec]
      show K (a.put o.dst undef) w'
      rw [hd,Act.put_none]
      have hShne : ∀ b,Sh b → b ≠ g := fun b hb e => (hs.fb id g hsome q.hSg).1 (e ▸ hb)
      have hlenv : (a.eval y).cells.toList.length = 1 := by rw [hyc]; rfl
      have hres := hs.reset id [] (.arx xs i off k') (β id) (fp id) (.inr ⟨rfl,hsome⟩) (w' := w')
        ⟨hos,htp,hout,by omega,fun b _ hX => hoth b (fun e => hX ⟨id,.inr rfl,hsome,e ▸ q.hSg⟩)⟩
        (by
          have e2 : upd β id (β id) = β := by funext j; unfold upd; split <;> simp_all
          rw [e2]
          refine ⟨g,cp',sz',e,_,Si,{ hv := q.hv,hg := hg',hc := q.hc,hm := q.hm,hs := by rw [Q5b _ _ _ (by rw [hlenv]; omega)]; exact q.hs,hz := q.hz,hi := q.hi,hj := q.hj,hu := ?_,ho := by rw [← hyv2]; exact hy1,h := ?_,hSg := q.hSg,hS := q.hS,hd := q.hd }⟩
          · rw [Q5a _ _ _ _ (by rw [hlenv]; omega),hlenv,if_pos (by omega),Nat.sub_self,hyc,← hyv2]; rfl
          · intro i' j' hi' hj' hne
            have hn := Q97 (i := i) (i' := i') q.hj hj' hne
            rw [Q5a _ _ _ _ (by rw [hlenv]; omega),hlenv,if_neg (by omega)]
            exact (q.h i' j' hi' hj' hne).mono (fun b hb => hoth b (hShne b hb)) (fun b hb => hoth b (q.hS i' j' b hi' hj' hne hb).2) (fun _ h => h) (fun _ h => h))
        (fun b hb => ⟨.inl ⟨id,.inr rfl,hsome,hb⟩,by rw [hsize]; exact (hs.fb id b hsome hb).2.1⟩)
      exact hK _ _ ⟨_,_,Sh,hres⟩
    · exact .none
  · exact .none

def Q9e (TI : Nat → Option Q1r) (nt : Nat) (o : Oper) (σ : Q0d) (t : Nat) (x : Operand) (r : Orc) : Option Ev :=
  match TI t,opv σ x,r with
  | some fi,.ea id sz i off,.el x0 =>
    match σ.O id with
    | some (.arx xs i0 j0 k) => bif Nat.beq off j0 && Nat.beq fi.size 1 && !Q27 fi.shp && Nat.beq (cellsOf x0).length sz then qv nt o (.rs k) (opr x) [id] [xs[i0]? = some x0 ∧ i = i0] else none
    | _ => none
  | _,_,_ => none
theorem Q9f {TI : Nat → Option Q1r} (hTI : Q20 P TI) (t : Nat) (x : Operand) (r : Orc) (ho : o.op = .load t x) : Q2o P c o σ (Q9e TI c.nt o σ t x r) := by
  unfold Q9e
  split
  · rename_i fi id sz i off x0 hfi hx
    split
    · rename_i xs i0 j0 k hO
      refine .ite (fun hb => ?_) (fun _ => .none)
      simp only [Bool.and_eq_true,Bool.not_eq_true'] at hb
      obtain ⟨⟨⟨hoff,hsz1⟩,hagg⟩,hlen⟩ := hb
      have hoff := Nat.eq_of_beq_eq_true hoff
      have hlen := Nat.eq_of_beq_eq_true hlen
      subst hoff
      refine Q2p fun hobs τ ht hob β fp Sh a w hs => ?_
      obtain ⟨hx0,hii⟩ := hobs _ (List.mem_singleton.2 rfl)
      subst hii
      have hav : av xs i = x0 := by simp [av,List.getD_eq_getElem?_getD,hx0]
      have h1 := hs.opd x; rw [Q2k x ht,hx] at h1
      obtain ⟨g,n,c',hg,e1⟩ := h1.ea_inv
      have hO' : τ.O id = some (.arx xs i off k) := (hob id (by simp)).trans hO
      obtain ⟨g',cp,sz',e',cur,Si,q⟩ := hs.ob id _ hO'
      have hg2 := q.hv
      rw [hg] at hg2
      simp only [Value.slice.injEq,Option.some.injEq,Addr.mk.injEq,and_true] at hg2
      obtain ⟨rfl,_,_⟩ := hg2
      have hszz : sz' = sz := by rw [← q.hz i q.hi,hav,hlen]
      subst hszz
      have hcell : w.cell? ⟨g,i * sz' + off,none⟩ = some (β k) := by
        rw [Q0a q.hg _ (by rw [q.hs]; exact Q0b q.hi q.hc q.hj),q.hu]
      refine ⟨β k,?_,.rs k q.ho⟩
      have hag := Q29 hTI hfi w
      have hl : (loadVar t ⟨g,i * sz' + off,none⟩).run P w = .ok (β k) w := by
        simp only [loadVar,Sem.run_bind,hag,hagg,Result.andThen,Bool.false_eq_true,if_false]
        simp only [load,Sem.run,hcell]
      simp only [execOp,ho,e1,Instr.loadAt,Instr.sureAddr,Sem.run_bind,Sem.run_pure,Result.andThen,hl]
    · exact .none
  · exact .none
end

section
variable {c : Ctx} {σ : Q0d} {a : Act} {w : World}
def Q9g (x : AV) (j : Nat) (y : AV) : AV := match x with | .agg cs => .agg (cs.set j y) | _ => y
theorem Q9h {x y : AV} {j : Nat} (hj : j < (cellsOf x).length) (hy : cellsOf y = [y]) : cellsOf (Q9g x j y) = (cellsOf x).set j y := by
  cases x with
  | agg cs => rfl
  | _ =>
    simp only [cellsOf,List.length_singleton] at hj
    have : j = 0 := by omega
    subst this
    simp only [Q9g,cellsOf,List.set_cons_zero]
    exact hy
theorem Q9i {w : World} {Sh S : Nat → Prop} {v : Value} {ys : List AV} (h : Q04 w Sh S v (.osl ys)) : v.oneCell' = true := by
  cases h with
  | val _ _ _ h => cases h
  | osl0 => rfl
  | osl => rfl

theorem SRx.openX (h : SRx c σ a w) (id i j k : Nat) (xs ys : List AV) (x0 : AV) (hO : σ.O id = some (.arr xs)) (hx : xs[i]? = some x0) (hj : (cellsOf x0)[j]? = some (.osl ys)) (hm : ¬ Q0h σ k) (hk : σ.O k = none) :
    SRx c ⟨σ.T,Q0n [(id,some (.arx xs i j k)),(k,some (.arr ys))] σ.O⟩ a w := by
  obtain ⟨β,fp,Sh,hs⟩ := h
  have hsome : (σ.O id).isSome := by rw [hO]; rfl
  have hne : k ≠ id := fun e => by subst e; rw [hk] at hO; cases hO
  have hown : Q04 w Sh (fp id) (β id) (.osl xs) := hs.ob id _ hO
  have hilt : i < xs.length := (List.getElem?_eq_some_iff.1 hx).1
  have hav : av xs i = x0 := by simp [av,List.getD_eq_getElem?_getD,hx]
  have hjlt : j < (cellsOf x0).length := (List.getElem?_eq_some_iff.1 hj).1
  have hcj : av (cellsOf x0) j = .osl ys := by simp [av,List.getD_eq_getElem?_getD,hj]
  generalize hv : β id = v at hown
  cases hown with
  | val S v x h => cases h
  | osl0 S => simp at hilt
  | osl S g cp sz e cur xs Si hg hc hc0 hmx hsc hz hr hSg hSS hdd =>
    have hsz : (cellsOf x0).length = sz := by rw [← hav]; exact hz i hilt
    have hin := hr i j hilt (by rw [hav]; exact hjlt)
    rw [hav,hcj] at hin
    let O' := Q0n [(id,some (Q0c.arx xs i j k)),(k,some (Q0c.arr ys))] σ.O
    have hO2 : ∀ q,O' q = if q = id then some (.arx xs i j k) else if q = k then some (.arr ys) else σ.O q := fun q => by
      simp only [O',Q0n]
      by_cases h1 : q = id
      · subst h1; simp
      · rw [if_neg h1,show Nat.beq q id = false from by cases hb : Nat.beq q id with | false => rfl | true => exact absurd (Nat.eq_of_beq_eq_true hb) h1,cond_false]
        by_cases h2 : q = k
        · subst h2; simp
        · rw [if_neg h2,show Nat.beq q k = false from by cases hb : Nat.beq q k with | false => rfl | true => exact absurd (Nat.eq_of_beq_eq_true hb) h2,cond_false]
    have tch : ∀ b,fp id b → Q7w σ fp (fun q => q = id ∨ q = k) b := fun b hb => ⟨id,.inl rfl,hsome,hb⟩
    have hsub : ∀ i' j' b,i' < xs.length → j' < sz → Si i' j' b → fp id b ∧ b ≠ g := fun i' j' b h1 h2 h3 => hSS i' j' b h1 h2 h3
    refine ⟨fun q => if q = k then cur.getD (i * sz + j) undef else β q,fun q => if q = k then Si i j else if q = id then (fun b => b = g ∨ ∃ i' j',i' < xs.length ∧ j' < sz ∧ ¬ (i' = i ∧ j' = j) ∧ Si i' j' b) else fp q,Sh,?_⟩
    refine hs.resetG (fun q => q = id ∨ q = k) O' (fun q hq => by rw [hO2,if_neg (fun e => hq (.inl e)),if_neg (fun e => hq (.inr e))]) (fun q hq => ⟨if_neg (fun e => hq (.inr e)),by rw [if_neg (fun e => hq (.inr e)),if_neg (fun e => hq (.inl e))]⟩)
      (fun q hq => by
        rcases hq with rfl | rfl
        · exact .inr ⟨if_neg (fun e => hne e.symm),fun _ => hsome⟩
        · exact .inl hm)
      (Fr.refl _ w) (fun _ hb => hb) (fun b hb => ⟨(hs.shl b hb).1,.inl hb⟩) (fun q o' hq ho' => ?_) (fun q b hq _ hb => ?_) (fun q q' b hq hq' _ _ h1 h2 => ?_)
    · rw [hO2] at ho'
      rcases hq with rfl | rfl
      · rw [if_pos rfl] at ho'
        cases ho'
        rw [if_neg (fun e => hne e.symm),if_pos rfl,if_neg (fun e => hne e.symm)]
        refine ⟨g,cp,sz,e,cur,Si,?_⟩
        show Q0j w Sh _ _ (if k = k then cur.getD (i * sz + j) undef else β k) xs i j g cp sz e cur Si
        rw [if_pos rfl]
        exact { hv := hv,hg := hg,hc := hc,hm := hmx,hs := hsc,hz := hz,hi := hilt,hj := by omega,hu := rfl,ho := Q9i hin,
                h := fun i' j' h1 h2 _ => hr i' j' h1 (by rw [hz i' h1]; exact h2),hSg := .inl rfl,
                hS := fun i' j' b h1 h2 h3 h4 => ⟨.inr ⟨i',j',h1,h2,h3,h4⟩,(hsub i' j' b h1 h2 h4).2⟩,
                hd := fun i' j' i'' j'' b h1 h2 h3 h4 _ _ h5 h6 => hdd i' j' i'' j'' b h1 h2 h3 h4 h5 h6 }
      · rw [if_neg hne,if_pos rfl] at ho'
        cases ho'
        rw [if_pos rfl,if_pos rfl]
        exact hin
    · have hk2 : fp id b → ¬ Sh b ∧ b < w.heap.size ∧ (Q7w σ fp (fun q => q = id ∨ q = k) b ∨ w.heap.size ≤ b) := fun hb => ⟨(hs.fb id b hsome hb).1,(hs.fb id b hsome hb).2.1,.inl (tch b hb)⟩
      rcases hq with rfl | rfl
      · rw [if_neg (fun e => hne e.symm),if_pos rfl] at hb
        rcases hb with rfl | ⟨i',j',h1,h2,_,h4⟩
        · exact hk2 hSg
        · exact hk2 (hsub i' j' b h1 h2 h4).1
      · rw [if_pos rfl] at hb
        exact hk2 (hsub i j b hilt (by omega) hb).1
    · have cross : ∀ b,Si i j b → (b = g ∨ ∃ i' j',i' < xs.length ∧ j' < sz ∧ ¬ (i' = i ∧ j' = j) ∧ Si i' j' b) → False := fun b' u1 u2 => by
        rcases u2 with u2 | ⟨i',j',q1,q2,q3,q4⟩
        · exact (hsub i j b' hilt (by omega) u1).2 u2
        · exact q3 (hdd i' j' i j b' q1 q2 hilt (by omega) q4 u1)
      rcases hq with rfl | rfl <;> rcases hq' with rfl | rfl
      · rfl
      · rw [if_neg (fun e => hne e.symm),if_pos rfl] at h1
        rw [if_pos rfl] at h2
        exact (cross b h2 h1).elim
      · rw [if_pos rfl] at h1
        rw [if_neg (fun e => hne e.symm),if_pos rfl] at h2
        exact (cross b h1 h2).elim
      · rfl

theorem SRx.closeX (h : SRx c σ a w) (id i j k : Nat) (xs ys : List AV) (x0 : AV) (hO : σ.O id = some (.arx xs i j k)) (hk : σ.O k = some (.arr ys)) (hne : k ≠ id) (hx : xs[i]? = some x0) (hj : j < (cellsOf x0).length) :
    SRx c ⟨σ.T,Q0n [(id,some (.arr (xs.set i (Q9g x0 j (.osl ys))))),(k,none)] σ.O⟩ a w := by
  obtain ⟨β,fp,Sh,hs⟩ := h
  have hsome : (σ.O id).isSome := by rw [hO]; rfl
  have hksome : (σ.O k).isSome := by rw [hk]; rfl
  obtain ⟨g,cp,sz,e,cur,Si,q⟩ := hs.ob id _ hO
  have hin : Q04 w Sh (fp k) (β k) (.osl ys) := hs.ob k _ hk
  have hav : av xs i = x0 := by simp [av,List.getD_eq_getElem?_getD,hx]
  have hsz : (cellsOf x0).length = sz := by rw [← hav]; exact q.hz i q.hi
  have hcs : cellsOf (Q9g x0 j (.osl ys)) = (cellsOf x0).set j (.osl ys) := Q9h hj rfl
  let O' := Q0n [(id,some (Q0c.arr (xs.set i (Q9g x0 j (.osl ys))))),(k,none)] σ.O
  have hO2 : ∀ q,O' q = if q = id then some (.arr (xs.set i (Q9g x0 j (.osl ys)))) else if q = k then none else σ.O q := fun q => by
    simp only [O',Q0n]
    by_cases h1 : q = id
    · subst h1; simp
    · rw [if_neg h1,show Nat.beq q id = false from by cases hb : Nat.beq q id with | false => rfl | true => exact absurd (Nat.eq_of_beq_eq_true hb) h1,cond_false]
      by_cases h2 : q = k
      · subst h2; simp
      · rw [if_neg h2,show Nat.beq q k = false from by cases hb : Nat.beq q k with | false => rfl | true => exact absurd (Nat.eq_of_beq_eq_true hb) h2,cond_false]
  have kid : ∀ b,fp k b → fp id b → False := fun b h1 h2 => hne (hs.dj k id b hksome hsome h1 h2)
  have hxl : (xs.set i (Q9g x0 j (.osl ys))).length = xs.length := by simp
  refine ⟨β,fun p => if p = id then (fun b => fp id b ∨ fp k b) else fp p,Sh,?_⟩
  refine hs.resetG (fun p => p = id ∨ p = k) O' (fun p hp => by rw [hO2,if_neg (fun e => hp (.inl e)),if_neg (fun e => hp (.inr e))]) (fun p hp => ⟨rfl,if_neg (fun e => hp (.inl e))⟩)
    (fun p hp => .inr ⟨rfl,fun _ => by rcases hp with rfl | rfl <;> assumption⟩)
    (Fr.refl _ w) (fun _ hb => hb) (fun b hb => ⟨(hs.shl b hb).1,.inl hb⟩) (fun p o' hp ho' => ?_) (fun p b hp _ hb => ?_) (fun p p' b hp hp' h1 h2 _ _ => ?_)
  · rw [hO2] at ho'
    rcases hp with rfl | rfl
    · rw [if_pos rfl] at ho'
      cases ho'
      rw [if_pos rfl]
      show Q04 w Sh _ (β p) (.osl _)
      rw [q.hv]
      have := Q04.osl (w := w) (Sh := Sh) (fun b => fp p b ∨ fp k b) g cp sz e cur (xs.set i (Q9g x0 j (.osl ys))) (fun i' j' b => if i' = i ∧ j' = j then fp k b else Si i' j' b) q.hg (by rw [hxl]; exact q.hc)
        (by rw [hxl]; intro h0; have := q.hi; omega) q.hm q.hs
        (fun i' hi' => by
          rw [hxl] at hi'
          rw [Q78 q.hi]
          split
          · rw [hcs,List.length_set]; exact hsz
          · exact q.hz i' hi')
        (fun i' j' hi' hj' => by
          rw [hxl] at hi'
          have hjs : j' < sz := by
            rw [Q78 q.hi] at hj'
            split at hj'
            · rw [hcs,List.length_set] at hj'; omega
            · rw [q.hz i' hi'] at hj'; exact hj'
          rw [Q78 q.hi]
          by_cases hcase : i' = i ∧ j' = j
          · obtain ⟨rfl,rfl⟩ := hcase
            rw [if_pos rfl,hcs,Q78 hj,if_pos rfl,q.hu]
            exact hin.weaken (fun b hb => by simp only [and_self,if_true]; exact hb)
          · have := (q.h i' j' hi' hjs hcase).weaken (S' := fun b => if i' = i ∧ j' = j then fp k b else Si i' j' b) (fun b hb => by rw [if_neg hcase]; exact hb)
            by_cases hii : i' = i
            · subst hii
              rw [if_pos rfl,hcs,Q78 hj,if_neg (fun e => hcase ⟨rfl,e⟩),← hav]
              exact this
            · rw [if_neg hii]; exact this)
        (.inl q.hSg)
        (fun i' j' b hi' hj' hb => by
          rw [hxl] at hi'
          by_cases hcase : i' = i ∧ j' = j
          · rw [if_pos hcase] at hb
            exact ⟨.inr hb,fun e => kid b hb (e ▸ q.hSg)⟩
          · rw [if_neg hcase] at hb
            have := q.hS i' j' b hi' hj' hcase hb
            exact ⟨.inl this.1,this.2⟩)
        (fun i1 j1 i2 j2 b hi1 hj1 hi2 hj2 hb1 hb2 => by
          rw [hxl] at hi1 hi2
          by_cases h1 : i1 = i ∧ j1 = j <;> by_cases h2 : i2 = i ∧ j2 = j
          · exact ⟨by omega,by omega⟩
          · rw [if_pos h1] at hb1; rw [if_neg h2] at hb2
            exact (kid b hb1 (q.hS i2 j2 b hi2 hj2 h2 hb2).1).elim
          · rw [if_neg h1] at hb1; rw [if_pos h2] at hb2
            exact (kid b hb2 (q.hS i1 j1 b hi1 hj1 h1 hb1).1).elim
          · rw [if_neg h1] at hb1; rw [if_neg h2] at hb2
            exact q.hd i1 j1 i2 j2 b hi1 hj1 hi2 hj2 h1 h2 hb1 hb2)
      rw [hxl] at this
      exact this
    · rw [if_neg hne,if_pos rfl] at ho'; cases ho'
  · rcases hp with rfl | rfl
    · rw [if_pos rfl] at hb
      rcases hb with hb | hb
      · exact ⟨(hs.fb p b hsome hb).1,(hs.fb p b hsome hb).2.1,.inl ⟨p,.inl rfl,hsome,hb⟩⟩
      · exact ⟨(hs.fb k b hksome hb).1,(hs.fb k b hksome hb).2.1,.inl ⟨k,.inr rfl,hksome,hb⟩⟩
    · rw [if_neg hne] at hb
      exact ⟨(hs.fb p b hksome hb).1,(hs.fb p b hksome hb).2.1,.inl ⟨p,.inr rfl,hksome,hb⟩⟩
  · have out : ∀ p,(O' p).isSome → p = id ∨ p = k → p = id := fun p h hp => by
      rcases hp with rfl | rfl
      · rfl
      · rw [hO2,if_neg hne,if_pos rfl] at h; cases h
    rw [out p h1 hp,out p' h2 hp']
end

def Q9j : List AV → List AV → List (Nat × List AV)
  | .rs id :: xs,.osl ys :: os => (id,ys) :: Q9j xs os
  | _ :: xs,_ :: os => Q9j xs os
  | _,_ => []
def Q9k : List Nat → List Nat → Bool
  | [],[] => true
  | a :: l,b :: m => Nat.beq a b && Q9k l m
  | _,_ => false
theorem Q9l : ∀ {l m : List Nat},Q9k l m = true → l = m
  | [],[],_ => rfl
  | a :: l,b :: m,h => by
    simp only [Q9k,Bool.and_eq_true] at h
    rw [Nat.eq_of_beq_eq_true h.1,Q9l h.2]
  | [],_ :: _,h => by simp [Q9k] at h
  | _ :: _,[],h => by simp [Q9k] at h
def pk2 (σ : Q0d) (x : AV) : AV → AV
  | .nils => match x with | .nils => .nils | x => pk true σ x
  | _ => pk true σ x
def pkm (σ : Q0d) : List AV → List AV → List AV
  | [],_ => []
  | x :: xs,os => pk2 σ x (av os 0) :: pkm σ xs os.tail
theorem Q9m (σ : Q0d) : ∀ (xs os : List AV),(pkm σ xs os).length = xs.length
  | [],_ => rfl
  | x :: xs,os => by simp [pkm,Q9m σ xs]
theorem Q9n (σ : Q0d) : ∀ (xs os : List AV) (i : Nat),i < xs.length → av (pkm σ xs os) i = pk2 σ (av xs i) (av os i)
  | [],_,i,h => by simp at h
  | x :: xs,os,0,_ => rfl
  | x :: xs,os,i + 1,h => by
    have := Q9n σ xs os.tail i (by simpa using h)
    have e : av os.tail i = av os (i + 1) := by cases os <;> simp [av]
    rw [e] at this
    exact this
def Q9o (σ : Q0d) (id : Nat) (cs' : List AV) : Option (AV × List (Nat × Option Q0c)) :=
  match σ.O id with
  | some (.box cs) => bif cs.all (Q5n σ) && cs'.all plain then some (.optr (pkm σ cs cs'),(id,some (.box cs')) :: (cs.flatMap Q5o).map fun k => (k,none)) else none
  | _ => none
def Q9p (σ : Q0d) (id : Nat) (ys : List AV) : Option (AV × List (Nat × Option Q0c)) :=
  match σ.O id with
  | some (.arr xs) => some (.osl xs,[(id,some (.arr ys))])
  | _ => none
def Q9q (σ : Q0d) (cs os : List AV) : Option (AV × List (Nat × Option Q0c)) :=
  bif cs.all (Q5n σ) && Nat.beq cs.length os.length && Q9k (cs.flatMap Q5o) ((Q9j cs os).map (·.1)) then some (.agg (cs.map (pk true σ)),(Q9j cs os).map fun p => (p.1,some (.arr p.2))) else none
def Q9r (σ : Q0d) (x : AV) : Option (AV × List (Nat × Option Q0c)) := bif Q7h σ x && (Q7i σ x).isEmpty then some (shv σ x,[]) else none
def Q9s : AV → AV
  | .tup [] => .undef
  | x => x
def Q9t (σ : Q0d) : AV → Option (AV × List (Nat × Option Q0c))
  | .rs id => match σ.O id with
    | some (.arr xs) => some (.osl xs,[(id,none)])
    | _ => none
  | .nils => some (.osl [],[])
  | _ => none
def Q9u (σ : Q0d) (x out : AV) : Option (AV × List (Nat × Option Q0c)) :=
  match out,x with
  | .undef,x => Q9r σ x
  | .tup [],x => Q9t σ x
  | .optr cs',.ra id 0 => Q9o σ id cs'
  | .osl ys,.rs id => Q9p σ id ys
  | .agg os,.agg cs => Q9q σ cs os
  | _,_ => none

section
variable {c : Ctx} {σ τ : Q0d} {β : Nat → Value} {fp : Nat → Nat → Prop} {Sh : Nat → Prop} {a : Act} {w : World}

theorem Q9v {xs os : List AV} {p : Nat × List AV} (h : p ∈ Q9j xs os) : ∃ i,i < xs.length ∧ i < os.length ∧ av xs i = .rs p.1 ∧ av os i = .osl p.2 := by
  induction xs generalizing os with
  | nil => simp [Q9j] at h
  | cons x xs ih =>
    cases os with
    | nil => cases x <;> simp [Q9j] at h
    | cons y os =>
      have tail : p ∈ Q9j xs os → ∃ i,i < (x :: xs).length ∧ i < (y :: os).length ∧ av (x :: xs) i = .rs p.1 ∧ av (y :: os) i = .osl p.2 := fun h => by
        obtain ⟨i,h1,h2,h3,h4⟩ := ih h
        exact ⟨i + 1,by simp; omega,by simp; omega,h3,h4⟩
      cases x <;> try exact tail h
      cases y <;> try exact tail h
      simp only [Q9j,List.mem_cons] at h
      rcases h with rfl | h
      · exact ⟨0,by simp,by simp,rfl,rfl⟩
      · exact tail h

def Q9w (w' : World) (Sh' S' : Nat → Prop) (β : Nat → Value) (ws : List (Nat × Option Q0c)) : Prop :=
  ∃ F : Nat → Nat → Prop,(∀ p ∈ ws,∀ o,p.2 = some o → Q0m w' Sh' β (F p.1) (β p.1) o) ∧ (∀ p ∈ ws,∀ b,F p.1 b → S' b) ∧ (∀ p ∈ ws,∀ q ∈ ws,∀ b,F p.1 b → F q.1 b → p.1 = q.1)
structure Q9x (w : World) (Sh : Nat → Prop) (β : Nat → Value) (τ : Q0d) (fp : Nat → Nat → Prop) (v : Value) (out y : AV) (ws : List (Nat × Option Q0c)) : Prop where
  own : Q04 w Sh (fun b => ∃ id ∈ ws.map (·.1),(τ.O id).isSome ∧ fp id b) v y
  some : ∀ id ∈ ws.map (·.1),(τ.O id).isSome
  refs : ∀ p ∈ ws,∀ o : Q0c,p.2 = Option.some o → ∀ k ∈ o.refs,False
  back : ∀ (w' : World) (Sh' S' : Nat → Prop),Q04 w' Sh' S' v (Q9s out) → Q9w w' Sh' S' β ws

theorem Q9y {x : AV} (h : plain x = true) : refs x = [] := by cases x <;> simp [plain] at h <;> rfl
theorem Q9z {cs : List AV} (h : cs.all plain = true) : ∀ k ∈ Q0e cs,False := by
  intro k hk
  obtain ⟨x,hx,hk⟩ := Q0f.1 hk
  rw [List.all_eq_true] at h
  rw [Q9y (h x hx)] at hk
  cases hk

theorem Qa0 {v : Value} {x : AV} (h : Q0i w Sh β v x) (hp : plain x = true) : Q03 w Sh v x := by
  cases h with
  | base _ _ h => exact h
  | _ => simp [plain] at hp

theorem Qa1 (hs : SR c β fp Sh τ a w) {v : Value} {x : AV} (o : AV) (hv : Q0i w Sh β v x) (hok : Q5n σ x = true) (hO : ∀ k ∈ Q5o x,τ.O k = σ.O k) : Q04 w Sh (fun b => ∃ k ∈ Q5o x,(τ.O k).isSome ∧ fp k b) v (pk2 σ x o) := by
  have h := Q5t hs hv true hok hO
  unfold pk2
  split
  · split
    · exact .val _ _ _ (Qa0 hv rfl)
    · exact h
  · exact h

theorem Qa2 (hs : SR c β fp Sh τ a w) {v : Value} {x out y : AV} {ws : List (Nat × Option Q0c)} (hv : Q0i w Sh β v x) (h : Q9u σ x out = some (y,ws)) (hO : ∀ id ∈ ws.map (·.1),τ.O id = σ.O id) (hnd : (ws.map (·.1)).Nodup) : Q9x w Sh β τ fp v out y ws := by
  have read : Q9r σ x = some (y,ws) → Q9x w Sh β τ fp v out y ws := fun h => by
    unfold Q9r at h
    cases hb : Q7h σ x && (Q7i σ x).isEmpty with
    | false => rw [hb] at h; cases h
    | true =>
      rw [hb] at h
      simp only [cond_true,Option.some.injEq,Prod.mk.injEq] at h
      obtain ⟨rfl,rfl⟩ := h
      simp only [Bool.and_eq_true,List.isEmpty_iff] at hb
      have := Q7m hs hv hb.1 (fun id hid => by rw [hb.2] at hid; cases hid) [] (fun id hid => by rw [hb.2] at hid; exact hid)
      refine ⟨.val _ _ _ (this.mono (fun _ _ => rfl) (fun b hb => hb.elim (fun h => h) (fun ⟨_,h,_⟩ => by cases h))),fun id hid => (by cases hid),fun p hp => (by cases hp),fun w' Sh' S' _ => ⟨fun _ _ => False,fun p hp => (by cases hp),fun p hp => (by cases hp),fun p hp => (by cases hp)⟩⟩
  unfold Q9u at h
  split at h
  · exact read h
  · unfold Q9t at h
    split at h
    · rename_i id
      split at h
      · rename_i xs hO2
        simp only [Option.some.injEq,Prod.mk.injEq] at h
        obtain ⟨rfl,rfl⟩ := h
        have hτ : τ.O id = some (.arr xs) := (hO id (by simp)).trans hO2
        have hown : Q04 w Sh (fp id) (β id) (.osl xs) := hs.ob id _ hτ
        have ev := hv.rs_inv
        exact ⟨(by rw [ev]; exact hown.weaken (fun b hb => ⟨id,(by simp),(by rw [hτ]; rfl),hb⟩)),fun k hk => (by simp at hk; subst hk; rw [hτ]; rfl),fun p hp o ho k hk => (by simp at hp; subst hp; cases ho),
          fun w' Sh' S' _ => ⟨fun _ _ => False,fun p hp o ho => (by simp at hp; subst hp; cases ho),fun p hp b hb => hb.elim,fun p hp q hq b hb => hb.elim⟩⟩
      · cases h
    · simp only [Option.some.injEq,Prod.mk.injEq] at h
      obtain ⟨rfl,rfl⟩ := h
      rw [hv.nils_inv]
      exact ⟨.osl0 _,fun k hk => (by cases hk),fun p hp => (by cases hp),fun w' Sh' S' _ => ⟨fun _ _ => False,fun p hp => (by cases hp),fun p hp => (by cases hp),fun p hp => (by cases hp)⟩⟩
    · cases h
  · rename_i cs' id
    unfold Q9o at h
    split at h
    · rename_i cs hO2
      cases hb : cs.all (Q5n σ) && cs'.all plain with
      | false => rw [hb] at h; cases h
      | true =>
        rw [hb] at h
        simp only [cond_true,Option.some.injEq,Prod.mk.injEq] at h
        obtain ⟨rfl,rfl⟩ := h
        simp only [Bool.and_eq_true] at hb
        obtain ⟨hb1,hb2⟩ := hb
        have e1 : (((id,some (Q0c.box cs')) :: (cs.flatMap Q5o).map fun k => (k,(none : Option Q0c))).map (·.1)) = id :: cs.flatMap Q5o := by
          rw [List.map_cons,List.map_map]
          congr 1
          exact List.map_id' _
        rw [e1] at hO hnd
        have hτ : τ.O id = some (.box cs) := (hO id List.mem_cons_self).trans hO2
        obtain ⟨g,hg,rfl⟩ := hv.ra_inv
        obtain ⟨g',e,cc,hv',hblk,hsz,hcs,hfp⟩ := hs.ob id _ hτ
        rw [hg] at hv'
        simp only [Value.pointer.injEq,Option.some.injEq,Addr.mk.injEq,and_true] at hv'
        subst hv'
        rw [List.nodup_cons] at hnd
        obtain ⟨hnd1,hnd2⟩ := hnd
        rw [List.all_eq_true] at hb1
        have idxs := Q6x Q5o cs hnd2
        have getav : ∀ i (hi : i < cs.length),cs[i]? = some (av cs i) := fun i hi => getElem?_av hi
        have hids : ∀ i,i < cs.length → ∀ k ∈ Q5o (av cs i),k ∈ cs.flatMap Q5o := fun i hi k hk => List.mem_flatMap.2 ⟨_,Q5x hi,hk⟩
        have hsome : ∀ k ∈ cs.flatMap Q5o,(τ.O k).isSome := fun k hk => by
          obtain ⟨z,hz,hid2⟩ := List.mem_flatMap.1 hk
          have := hb1 z hz
          cases z <;> simp [Q5o] at hid2
          subst hid2
          rw [hO _ (List.mem_cons_of_mem _ hk)]
          simp only [Q5n] at this
          split at this
          · rename_i h; rw [h]; rfl
          · cases this
        refine ⟨?_,?_,?_,?_⟩
        · rw [e1]
          refine .optr _ g e cc (pkm σ cs cs') (fun i b => ∃ k ∈ Q5o (av cs i),(τ.O k).isSome ∧ fp k b) hblk (by rw [Q9m]; exact hsz) (fun i hi => ?_) ⟨id,List.mem_cons_self,by rw [hτ]; rfl,hfp⟩ (fun i b hi ⟨k,hk,h1,h2⟩ => ?_) (fun i j b hi hj ⟨k,hk,h1,h2⟩ ⟨k',hk',h1',h2'⟩ => ?_)
          · have hi' : i < cs.length := by rw [Q9m] at hi; exact hi
            rw [Q9n _ _ _ _ hi']
            exact Qa1 hs _ (hcs i hi') (hb1 _ (Q5x hi')) (fun k hk => hO k (List.mem_cons_of_mem _ (hids i hi' k hk)))
          · have hi' : i < cs.length := by rw [Q9m] at hi; exact hi
            refine ⟨⟨k,List.mem_cons_of_mem _ (hids i hi' k hk),h1,h2⟩,fun e => ?_⟩
            subst e
            have := hs.dj k id _ h1 (by rw [hτ]; rfl) h2 hfp
            subst this
            exact hnd1 (hids i hi' _ hk)
          · have hi' : i < cs.length := by rw [Q9m] at hi; exact hi
            have hj' : j < cs.length := by rw [Q9m] at hj; exact hj
            have := hs.dj k k' b h1 h1' h2 h2'
            subst this
            exact idxs i j k _ _ (getav i hi') (getav j hj') hk hk'
        · rw [e1]
          intro k hk
          rcases List.mem_cons.1 hk with rfl | hk
          · rw [hτ]; rfl
          · exact hsome k hk
        · intro p hp o ho k hk
          rcases List.mem_cons.1 hp with rfl | hp
          · simp only [Option.some.injEq] at ho; subst ho; exact Q9z hb2 k hk
          · obtain ⟨q,_,rfl⟩ := List.mem_map.1 hp; cases ho
        · intro w' Sh' S' ho
          have ho : Q04 w' Sh' S' (.pointer (some ⟨g,0,none⟩)) (.optr cs') := ho
          generalize hu : Value.pointer (some ⟨g,0,none⟩) = u at ho
          cases ho with
          | val _ _ _ h => cases h
          | optr _ g2 e2 cur2 _ Si2 hg2 hs2 h2 hSg2 hS2 hd2 =>
            simp only [Value.pointer.injEq,Option.some.injEq,Addr.mk.injEq,and_true] at hu
            subst hu
            refine ⟨fun k b => k = id ∧ S' b,fun p hp o ho => ?_,fun p hp b hb => hb.2,fun p hp q hq b h1 h2 => by rw [h1.1,h2.1]⟩
            rcases List.mem_cons.1 hp with rfl | hp
            · simp only [Option.some.injEq] at ho
              subst ho
              refine ⟨g,e2,cur2,hg,hg2,hs2,fun i hi => ?_,rfl,hSg2⟩
              exact .base _ _ ((h2 i hi).plain (List.all_eq_true.1 hb2 _ (Q5x hi)))
            · obtain ⟨q,_,rfl⟩ := List.mem_map.1 hp; cases ho
    · cases h
  · rename_i ys id
    unfold Q9p at h
    split at h
    · rename_i xs hO2
      simp only [Option.some.injEq,Prod.mk.injEq] at h
      obtain ⟨rfl,rfl⟩ := h
      have hτ : τ.O id = some (.arr xs) := (hO id (by simp)).trans hO2
      have hown : Q04 w Sh (fp id) (β id) (.osl xs) := hs.ob id _ hτ
      have ev := hv.rs_inv
      refine ⟨by rw [ev]; exact hown.weaken (fun b hb => ⟨id,by simp,by rw [hτ]; rfl,hb⟩),fun k hk => by simp at hk; subst hk; rw [hτ]; rfl,fun p hp o ho k hk => by simp at hp; subst hp; simp only [Option.some.injEq] at ho; subst ho; simp [Q0c.refs] at hk,fun w' Sh' S' ho => ?_⟩
      refine ⟨fun _ => S',fun p hp o ho2 => ?_,fun _ _ _ h => h,fun p hp q hq b _ _ => by simp at hp hq; rw [hp,hq]⟩
      simp at hp
      subst hp
      simp only [Option.some.injEq] at ho2
      subst ho2
      show Q04 w' Sh' S' (β id) (.osl ys)
      rw [← ev]; exact ho
    · cases h
  · rename_i os cs
    unfold Q9q at h
    cases hb : cs.all (Q5n σ) && Nat.beq cs.length os.length && Q9k (cs.flatMap Q5o) ((Q9j cs os).map (·.1)) with
    | false => rw [hb] at h; cases h
    | true =>
      rw [hb] at h
      simp only [cond_true,Option.some.injEq,Prod.mk.injEq] at h
      obtain ⟨rfl,rfl⟩ := h
      simp only [Bool.and_eq_true] at hb
      obtain ⟨⟨hok,hlen⟩,hids⟩ := hb
      have hlen := Nat.eq_of_beq_eq_true hlen
      have hids := Q9l hids
      have e1 : ((Q9j cs os).map fun p => (p.1,some (Q0c.arr p.2))).map (·.1) = cs.flatMap Q5o := by rw [hids,List.map_map]; rfl
      rw [e1] at hO hnd
      rw [List.all_eq_true] at hok
      obtain ⟨cc,rfl,hsz,hh⟩ := hv.agg_inv
      have idxs := Q6x Q5o cs hnd
      have getav : ∀ i (hi : i < cs.length),cs[i]? = some (av cs i) := fun i hi => getElem?_av hi
      refine ⟨?_,?_,fun p hp o ho k hk => ?_,fun w' Sh' S' ho => ?_⟩
      · rw [e1]
        refine .agg _ cc _ (fun i b => ∃ id ∈ Q5o (av cs i),(τ.O id).isSome ∧ fp id b) (by simp; exact hsz) (fun i hi => ?_) (fun i b hi ⟨id,hid,h⟩ => ?_) (fun i j b hi hj ⟨id,hid,h1,h2⟩ ⟨id',hid',h1',h2'⟩ => ?_)
        · have hi' : i < cs.length := by simpa using hi
          rw [Q73 _ hi']
          exact Q5t hs (hh i hi') true (hok _ (Q5x hi')) (fun id hid => hO id (List.mem_flatMap.2 ⟨_,Q5x hi',hid⟩))
        · have hi' : i < cs.length := by simpa using hi
          exact ⟨id,List.mem_flatMap.2 ⟨_,Q5x hi',hid⟩,h⟩
        · have hi' : i < cs.length := by simpa using hi
          have hj' : j < cs.length := by simpa using hj
          have := hs.dj id id' b h1 h1' h2 h2'
          subst this
          exact idxs i j id _ _ (getav i hi') (getav j hj') hid hid'
      · rw [e1]
        intro id hid
        obtain ⟨z,hz,hid2⟩ := List.mem_flatMap.1 hid
        have := hok z hz
        cases z <;> simp [Q5o] at hid2
        subst hid2
        rw [hO _ hid]
        simp only [Q5n] at this
        split at this
        · rename_i h; rw [h]; rfl
        · cases this
      · obtain ⟨q,_,rfl⟩ := List.mem_map.1 hp
        simp only [Option.some.injEq] at ho
        subst ho
        simp [Q0c.refs] at hk
      · -- behind the call
        have cell : ∃ Si : Nat → Nat → Prop,(∀ i,i < os.length → Q04 w' Sh' (Si i) (cc.getD i undef) (av os i)) ∧ (∀ i b,i < os.length → Si i b → S' b) ∧ (∀ i i' b,i < os.length → i' < os.length → Si i b → Si i' b → i = i') := by
          have ho : Q04 w' Sh' S' (.agg cc) (.agg os) := ho
          cases ho with
          | val _ _ _ h => cases h with | agg _ _ hs2 h2 => exact ⟨fun _ _ => False,fun i hi => .val _ _ _ (h2 i hi),fun _ _ _ h => h.elim,fun _ _ _ _ _ h => h.elim⟩
          | agg _ _ _ Si hs2 h2 hS2 hd2 => exact ⟨Si,h2,hS2,hd2⟩
        obtain ⟨Si,c1,c2,c3⟩ := cell
        refine ⟨fun id b => ∃ i,i < cs.length ∧ av cs i = .rs id ∧ Si i b,fun p hp o ho3 => ?_,fun p hp b ⟨i,hi,_,h⟩ => c2 i b (by omega) h,fun p hp q hq b ⟨i,hi,hi2,h⟩ ⟨j,hj,hj2,h'⟩ => ?_⟩
        · obtain ⟨q,hq,rfl⟩ := List.mem_map.1 hp
          simp only [Option.some.injEq] at ho3
          subst ho3
          obtain ⟨i,h1,h2,h3,h4⟩ := Q9v hq
          have hvi := hh i h1
          rw [h3] at hvi
          have ev := hvi.rs_inv
          show Q04 w' Sh' _ (β q.1) (.osl q.2)
          rw [← ev,← h4]
          exact (c1 i h2).weaken (fun b hb => ⟨i,h1,h3,hb⟩)
        · have := c3 i j b (by omega) (by omega) h h'
          subst this
          rw [hi2] at hj2
          exact AV.rs.inj hj2
  · cases h

def Qa3 (σ : Q0d) : List AV → List AV → Option (List AV × List (Nat × Option Q0c))
  | [],[] => some ([],[])
  | x :: xs,out :: os =>
    match Q9u σ x out,Qa3 σ xs os with
    | some (y,ws),some (ys,wss) => some (y :: ys,ws ++ wss)
    | _,_ => none
  | _,_ => none
structure Qa4 (w : World) (Sh : Nat → Prop) (β : Nat → Value) (τ : Q0d) (fp : Nat → Nat → Prop) (vs : List Value) (os ys : List AV) (ws : List (Nat × Option Q0c)) (Ss : Nat → Nat → Prop) : Prop where
  own : ∀ i,i < vs.length → Q04 w Sh (Ss i) (vs.getD i undef) (av ys i)
  ly : ys.length = vs.length
  lo : os.length = vs.length
  sub : ∀ i b,i < vs.length → Ss i b → ∃ id ∈ ws.map (·.1),(τ.O id).isSome ∧ fp id b
  dj : ∀ i i' b,i < vs.length → i' < vs.length → Ss i b → Ss i' b → i = i'
  some : ∀ id ∈ ws.map (·.1),(τ.O id).isSome
  refs : ∀ p ∈ ws,∀ o : Q0c,p.2 = Option.some o → ∀ k ∈ o.refs,False
  back : ∀ (w' : World) (Sh' : Nat → Prop) (Ss' : Nat → Nat → Prop),(∀ i,i < vs.length → Q04 w' Sh' (Ss' i) (vs.getD i undef) (av (os.map Q9s) i)) → (∀ i i' b,i < vs.length → i' < vs.length → Ss' i b → Ss' i' b → i = i') →
    Q9w w' Sh' (fun b => ∃ i,i < vs.length ∧ Ss' i b) β ws

theorem Qa5 (hs : SR c β fp Sh τ a w) : ∀ (xs : List AV) (vs : List Value) (os ys : List AV) (ws : List (Nat × Option Q0c)),vs.length = xs.length → (∀ i,i < xs.length → Q0i w Sh β (vs.getD i undef) (av xs i)) → Qa3 σ xs os = some (ys,ws) →
    (∀ id ∈ ws.map (·.1),τ.O id = σ.O id) → (ws.map (·.1)).Nodup → ∃ Ss,Qa4 w Sh β τ fp vs os ys ws Ss
  | [],[],[],ys,ws,_,_,h,_,_ => by
    simp only [Qa3,Option.some.injEq,Prod.mk.injEq] at h
    obtain ⟨rfl,rfl⟩ := h
    exact ⟨fun _ _ => False,⟨fun i hi => by simp at hi,rfl,rfl,fun i b hi => by simp at hi,fun i i' b hi => by simp at hi,fun id hid => by simp at hid,fun p hp => by simp at hp,fun w' Sh' Ss' _ _ => ⟨fun _ _ => False,fun p hp => by simp at hp,fun p hp => by simp at hp,fun p hp => by simp at hp⟩⟩⟩
  | x :: xs,v :: vs,out :: os,ys,ws,hl,hv,h,hO,hnd => by
    simp only [Qa3] at h
    split at h
    · rename_i y ws1 ys2 ws2 h1 h2
      simp only [Option.some.injEq,Prod.mk.injEq] at h
      obtain ⟨rfl,rfl⟩ := h
      rw [List.map_append] at hO hnd
      rw [List.nodup_append] at hnd
      obtain ⟨n1,n2,n3⟩ := hnd
      have A := Qa2 hs (hv 0 (by simp)) h1 (fun id hid => hO id (List.mem_append_left _ hid)) n1
      obtain ⟨Ss,B⟩ := Qa5 hs xs vs os ys2 ws2 (by simpa using hl) (fun i hi => hv (i + 1) (by simp; omega)) h2 (fun id hid => hO id (List.mem_append_right _ hid)) n2
      have ne : ∀ p ∈ ws1,∀ q ∈ ws2,p.1 ≠ q.1 := fun p hp q hq => n3 p.1 (List.mem_map.2 ⟨p,hp,rfl⟩) q.1 (List.mem_map.2 ⟨q,hq,rfl⟩)
      have cross : ∀ b,(∃ id ∈ ws1.map (·.1),(τ.O id).isSome ∧ fp id b) → (∃ id ∈ ws2.map (·.1),(τ.O id).isSome ∧ fp id b) → False := fun b ⟨i1,m1,s1,f1⟩ ⟨i2,m2,s2,f2⟩ => n3 i1 m1 i2 m2 (hs.dj i1 i2 b s1 s2 f1 f2)
      refine ⟨fun i => match i with | 0 => fun b => ∃ id ∈ ws1.map (·.1),(τ.O id).isSome ∧ fp id b | i + 1 => Ss i,?_⟩
      refine ⟨fun i hi => ?_,by simp [B.ly],by simp [B.lo],fun i b hi hb => ?_,fun i i' b hi hi' hb hb' => ?_,fun id hid => ?_,fun p hp => ?_,fun w' Sh' Ss' ho hd => ?_⟩
      · cases i with
        | zero => exact A.own
        | succ i => exact B.own i (by simpa using hi)
      · rw [List.map_append]
        cases i with
        | zero => obtain ⟨id,m,h⟩ := hb; exact ⟨id,List.mem_append_left _ m,h⟩
        | succ i => obtain ⟨id,m,h⟩ := B.sub i b (by simpa using hi) hb; exact ⟨id,List.mem_append_right _ m,h⟩
      · cases i with
        | zero =>
          cases i' with
          | zero => rfl
          | succ i' => exact (cross b hb (B.sub i' b (by simpa using hi') hb')).elim
        | succ i =>
          cases i' with
          | zero => exact (cross b hb' (B.sub i b (by simpa using hi) hb)).elim
          | succ i' => exact congrArg _ (B.dj i i' b (by simpa using hi) (by simpa using hi') hb hb')
      · rw [List.map_append] at hid
        rcases List.mem_append.1 hid with h | h
        · exact A.some id h
        · exact B.some id h
      · rcases List.mem_append.1 hp with h | h
        · exact A.refs p h
        · exact B.refs p h
      · obtain ⟨F1,a1,a2,a3⟩ := A.back w' Sh' (Ss' 0) (ho 0 (by simp))
        obtain ⟨F2,b1,b2,b3⟩ := B.back w' Sh' (fun i => Ss' (i + 1)) (fun i hi => ho (i + 1) (by simp; omega)) (fun i i' b hi hi' h h' => by have := hd (i + 1) (i' + 1) b (by simp; omega) (by simp; omega) h h'; omega)
        classical
        have f1 : ∀ p ∈ ws1,(if p.1 ∈ ws1.map (·.1) then F1 p.1 else F2 p.1) = F1 p.1 := fun p hp => if_pos (List.mem_map.2 ⟨p,hp,rfl⟩)
        have f2 : ∀ p ∈ ws2,(if p.1 ∈ ws1.map (·.1) then F1 p.1 else F2 p.1) = F2 p.1 := fun p hp => if_neg (fun h => by obtain ⟨q,hq,e⟩ := List.mem_map.1 h; exact ne q hq p hp e)
        refine ⟨fun id => if id ∈ ws1.map (·.1) then F1 id else F2 id,fun p hp => ?_,fun p hp b hb => ?_,fun p hp q hq b hb hb' => ?_⟩
        · rcases List.mem_append.1 hp with h | h
          · simp only; rw [f1 p h]; exact a1 p h
          · simp only; rw [f2 p h]; exact b1 p h
        · simp only at hb
          rcases List.mem_append.1 hp with h | h
          · rw [f1 p h] at hb; exact ⟨0,by simp,a2 p h b hb⟩
          · rw [f2 p h] at hb; obtain ⟨i,hi,h3⟩ := b2 p h b hb; exact ⟨i + 1,by simp; omega,h3⟩
        · simp only at hb hb'
          rcases List.mem_append.1 hp with h | h <;> rcases List.mem_append.1 hq with h' | h'
          · rw [f1 p h] at hb; rw [f1 q h'] at hb'; exact a3 p h q h' b hb hb'
          · rw [f1 p h] at hb; rw [f2 q h'] at hb'
            obtain ⟨i,hi,h3⟩ := b2 q h' b hb'
            have := hd 0 (i + 1) b (by simp) (by simp; omega) (a2 p h b hb) h3
            omega
          · rw [f2 p h] at hb; rw [f1 q h'] at hb'
            obtain ⟨i,hi,h3⟩ := b2 p h b hb
            have := hd 0 (i + 1) b (by simp) (by simp; omega) (a2 q h' b hb') h3
            omega
          · rw [f2 p h] at hb; rw [f2 q h'] at hb'; exact b3 p h q h' b hb hb'
    · cases h
  | [],_ :: _,_,_,_,hl,_,_,_,_ => by simp at hl
  | _ :: _,[],_,_,_,hl,_,_,_,_ => by simp at hl
  | [],[],_ :: _,_,_,_,_,h,_,_ => by simp [Qa3] at h
  | _ :: _,_ :: _,[],_,_,_,_,h,_,_ => by simp [Qa3] at h
end

section
variable {P : Program} {c : Ctx} {o : Oper} {σ : Q0d}
def Qa6 (d : Option Nat) (x : AV) : List (Nat × AV) := match d with | some d => [(d,x)] | none => []
def Qa7 (nt : Nat) (o : Oper) (σ : Q0d) (callee : Operand) (xs : List Operand) (res : AV) (outs : List AV) (k0 : Nat) (P : Program) : Option Ev :=
  match Q7y σ callee with
  | some (f,[],caps,ct) =>
    match Qa3 σ (xs.map (opv σ) ++ caps) outs with
    | some (ys,ws) =>
      bif (match o.dst with | some d => Nat.blt d nt | none => true) && Q7r res && Q6z (ws.map (·.1)) then
        some ⟨⟨ct ++ xs.flatMap opr,ws.map (·.1)⟩,⟨Qa6 o.dst (up res k0),ws ++ Q7x (uo res k0),(uo res k0).map (·.1)⟩,[Q7a P f ys res (outs.map Q9s),Q80 P f]⟩
      else none
    | _ => none
  | _ => none

theorem Qa8 {α : Type} (l m : List (Nat × α)) (f : Nat → α) (t : Nat) : Q0n (l ++ m) f t = Q0n l (Q0n m f) t := by
  induction l with
  | nil => rfl
  | cons p l ih => obtain ⟨k,v⟩ := p; simp only [List.cons_append,Q0n]; rw [ih]

theorem Qa9 (callee : Operand) (xs : List Operand) (ho : Q7z P o callee xs) (res : AV) (outs : List AV) (k0 : Nat) : Q2o P c o σ (Qa7 c.nt o σ callee xs res outs k0 P) := by
  unfold Qa7
  split
  · rename_i f caps ct hcal
    split
    rotate_left
    · exact .none
    rename_i ys ws hargs
    refine .ite (fun hb => ?_) (fun _ => .none)
    simp only [Bool.and_eq_true] at hb
    obtain ⟨⟨hdn,hup⟩,hnd⟩ := hb
    have hnd := Q70 _ hnd
    intro ev he
    simp only [Option.some.injEq] at he
    subst he
    intro hobs τ hag hfr a w hsr K Q hK
    obtain ⟨β,fp,Sh,hs⟩ := hsr
    have hsound : Q7a P f ys res (outs.map Q9s) := hobs _ List.mem_cons_self
    have hbody : Q80 P f := hobs _ (List.mem_cons_of_mem _ List.mem_cons_self)
    obtain ⟨ff,cc,hce,⟨hfs,_⟩,hcs,hcr⟩ := Q84 hs hcal (fun t ht => hag.1 t (List.mem_append_left _ ht))
    have hff : ff = #[] := Array.eq_empty_of_size_eq_zero hfs
    subst hff
    have hrep : ∀ i,i < (xs.map (opv σ) ++ caps).length → Q0i w Sh β ((xs.map a.eval ++ cc.toList).getD i undef) (av (xs.map (opv σ) ++ caps) i) := by
      intro i hi
      by_cases h : i < (xs.map (opv σ)).length
      · have hi' : i < xs.length := by simpa using h
        rw [Q5z h]
        have e1 : (xs.map a.eval ++ cc.toList).getD i undef = a.eval xs[i] := by rw [List.getD_eq_getElem?_getD,List.getElem?_append_left (by simpa using hi')]; simp [hi']
        have e2 : av (xs.map (opv σ)) i = opv σ xs[i] := by simp [av,List.getD_eq_getElem?_getD,hi']
        rw [e1,e2,← Q2k xs[i] (fun t ht => hag.1 t (List.mem_append_right _ (List.mem_flatMap.2 ⟨_,List.getElem_mem hi',ht⟩)))]
        exact hs.opd _
      · have hle : (xs.map (opv σ)).length ≤ i := by omega
        rw [Q60 hle]
        have e1 : (xs.map a.eval ++ cc.toList).getD i undef = cc.getD (i - (xs.map (opv σ)).length) undef := by
          rw [List.getD_eq_getElem?_getD,List.getElem?_append_right (by simpa using hle)]
          simp [Array.getD_eq_getD_getElem?]
        rw [e1]
        exact hcr _ (by simp at hi hle ⊢; omega)
    have hlenv : (xs.map a.eval ++ cc.toList).length = (xs.map (opv σ) ++ caps).length := by simp; omega
    obtain ⟨vs,hvs⟩ : ∃ vs,xs.map a.eval ++ cc.toList = vs := ⟨_,rfl⟩
    rw [hvs] at hrep hlenv
    obtain ⟨Ss,A⟩ := Qa5 hs (xs.map (opv σ) ++ caps) vs outs ys ws hlenv hrep hargs (fun id hid => hag.2 id hid) hnd
    have hSs : ∀ i b,i < ys.length → Ss i b → ¬ Sh b ∧ b < w.heap.size := fun i b hi h => by
      obtain ⟨id,m,s,f⟩ := A.sub i b (by rw [← A.ly]; exact hi) h
      exact ⟨(hs.fb id b s f).1,(hs.fb id b s f).2.1⟩
    have hcall := hsound w Sh Ss vs hs.shok A.ly.symm (fun i hi => A.own i (by rw [← A.ly]; exact hi)) hSs (fun i i' b hi hi' => A.dj i i' b (by rw [← A.ly]; exact hi) (by rw [← A.ly]; exact hi'))
    unfold Oper.wp
    rw [Q81 ho hce hbody]
    show Calls P f (#[] ++ (xs.map a.eval).toArray ++ cc) w _
    have harr : #[] ++ (xs.map a.eval).toArray ++ cc = vs.toArray := by rw [← hvs]; apply Array.ext'; simp
    rw [harr]
    refine hcall.mono ?_
    rintro e w' ⟨v,Sh',S',Ss',rfl,hfrm,hS1,hS2,hown,houts,hSf,hSf2,hd1,hd2⟩
    show K (a.put o.dst v) w'
    rw [A.ly] at hfrm hS2 houts hSf hSf2 hd1 hd2
    obtain ⟨F,bk1,bk2,bk3⟩ := A.back w' Sh' Ss' houts hd2
    obtain ⟨hv,Fr',hr,ht⟩ := Q7u res k0 S' v hown hup
    have hnewk : ∀ p ∈ uo res k0,¬ Q0h τ p.1 ∧ τ.O p.1 = none := fun p hp => hfr p.1 (List.mem_map.2 ⟨p,hp,rfl⟩)
    have tch : ∀ b,(∃ i,i < vs.length ∧ Ss i b) → Q7w τ fp (fun k => k ∈ ws.map (·.1) ∨ k ∈ (uo res k0).map (·.1)) b := fun b ⟨i,hi,h⟩ => by
      obtain ⟨id,m,s,f⟩ := A.sub i b hi h
      exact ⟨id,.inl m,s,f⟩
    have apart : ∀ k,k ∈ ws.map (·.1) → k ∈ (uo res k0).map (·.1) → False := fun k h1 h2 => by
      obtain ⟨p,hp,rfl⟩ := List.mem_map.1 h2
      have := A.some _ h1
      rw [(hnewk p hp).2] at this
      cases this
    let O' := Q0n (ws ++ Q7x (uo res k0)) τ.O
    have hOw : ∀ k o',k ∈ ws.map (·.1) → O' k = some o' → (k,some o') ∈ ws := fun k o' hk h => by
      obtain ⟨v2,m,e2⟩ := Q0q ws (Q0n (Q7x (uo res k0)) τ.O) k hk
      have : O' k = v2 := by rw [← e2]; exact Qa8 _ _ _ _
      rw [this] at h
      subst h
      exact m
    have hOn : ∀ k,k ∉ ws.map (·.1) → O' k = Q0n (Q7x (uo res k0)) τ.O k := fun k hk => by
      show Q0n (_ ++ _) τ.O k = _
      rw [Qa8]
      exact Q0o _ _ _ hk
    classical
    have hres := hs.resetG (w' := w') (Sh' := Sh') (β' := fun k => if k ∈ (uo res k0).map (·.1) then hv k else β k) (fp' := fun k => if k ∈ (uo res k0).map (·.1) then Fr' k else if k ∈ ws.map (·.1) then F k else fp k)
      (fun k => k ∈ ws.map (·.1) ∨ k ∈ (uo res k0).map (·.1)) O'
      (fun id hid => by rw [hOn id (fun h => hid (.inl h))]; exact (Q83 _ _ id).1 (fun h => hid (.inr h)))
      (fun id hid => ⟨if_neg (fun h => hid (.inr h)),by rw [if_neg (fun h => hid (.inr h)),if_neg (fun h => hid (.inl h))]⟩)
      (fun id hid => by
        rcases hid with hid | hid
        · exact .inr ⟨if_neg (fun h => apart id hid h),fun _ => A.some id hid⟩
        · obtain ⟨p,hp,rfl⟩ := List.mem_map.1 hid; exact .inl (hnewk p hp).1)
      (hfrm.mono (fun b _ h => tch b h)) hS1
      (fun b hb => ⟨(hS2 b hb).1,(hS2 b hb).2.imp (fun h => h) (fun h => h.elim .inl (fun h => .inr (tch b h)))⟩)
      (fun id o' hid ho' => by
        rcases hid with hid | hid
        · have hm := hOw id o' hid ho'
          simp only [if_neg (fun h => apart id hid h),if_pos hid]
          exact (bk1 _ hm _ rfl).mono (fun _ _ => rfl) (fun _ _ => rfl) (fun _ h => h) (fun k hk => (A.refs _ hm _ rfl k hk).elim)
        · have hne : id ∉ ws.map (·.1) := fun h => apart id h hid
          rw [hOn id hne] at ho'
          obtain ⟨zs,hzs,rfl⟩ := (Q83 _ _ id).2 o' hid ho'
          simp only [if_pos hid]
          exact hr.rep _ hzs)
      (fun id b hid hsm hb => by
        rcases hid with hid | hid
        · simp only [if_neg (fun h => apart id hid h),if_pos hid] at hb
          obtain ⟨o',ho'⟩ := Option.isSome_iff_exists.1 hsm
          obtain ⟨i,hi,h⟩ := bk2 _ (hOw id o' hid ho') b hb
          obtain ⟨q1,q2,q3⟩ := hSf2 i b hi h
          exact ⟨q1,q2,q3.elim .inr (fun h => .inl (tch b h))⟩
        · simp only [if_pos hid] at hb
          obtain ⟨p,hp,rfl⟩ := List.mem_map.1 hid
          obtain ⟨q1,q2,q3⟩ := hSf b (hr.sub p hp b hb)
          exact ⟨q1,q2,q3.elim .inr (fun h => .inl (tch b h))⟩)
      (fun id id' b hid hid' s1 s2 h1 h2 => by
        rcases hid with hid | hid <;> rcases hid' with hid' | hid'
        · simp only [if_neg (fun h => apart id hid h),if_pos hid] at h1
          simp only [if_neg (fun h => apart id' hid' h),if_pos hid'] at h2
          obtain ⟨o1,ho1⟩ := Option.isSome_iff_exists.1 s1
          obtain ⟨o2,ho2⟩ := Option.isSome_iff_exists.1 s2
          exact bk3 _ (hOw id o1 hid ho1) _ (hOw id' o2 hid' ho2) b h1 h2
        · simp only [if_neg (fun h => apart id hid h),if_pos hid] at h1
          simp only [if_pos hid'] at h2
          obtain ⟨o1,ho1⟩ := Option.isSome_iff_exists.1 s1
          obtain ⟨i,hi,h⟩ := bk2 _ (hOw id o1 hid ho1) b h1
          obtain ⟨q,hq,rfl⟩ := List.mem_map.1 hid'
          exact (hd1 i b hi (hr.sub q hq b h2) h).elim
        · simp only [if_neg (fun h => apart id' hid' h),if_pos hid'] at h2
          simp only [if_pos hid] at h1
          obtain ⟨o1,ho1⟩ := Option.isSome_iff_exists.1 s2
          obtain ⟨i,hi,h⟩ := bk2 _ (hOw id' o1 hid' ho1) b h2
          obtain ⟨q,hq,rfl⟩ := List.mem_map.1 hid
          exact (hd1 i b hi (hr.sub q hq b h1) h).elim
        · simp only [if_pos hid] at h1
          simp only [if_pos hid'] at h2
          obtain ⟨p,hp,rfl⟩ := List.mem_map.1 hid
          obtain ⟨q,hq,rfl⟩ := List.mem_map.1 hid'
          exact hr.dj p hp q hq b h1 h2)
    cases hd : o.dst with
    | none =>
      rw [Act.put_none]
      have hfin : SRx c ⟨τ.T,O'⟩ a w' := ⟨_,_,Sh',hres⟩
      refine hK _ _ ?_
      show SRx c ⟨Q0n (Qa6 o.dst (up res k0)) τ.T,O'⟩ a w'
      rw [hd]
      exact hfin
    | some d =>
      rw [hd] at hdn
      have hdn : d < c.nt := by simpa [Nat.blt_eq] using hdn
      have := hres.put d hdn v (up res k0) (ht _ (fun p hp => by
        show (if p.1 ∈ (uo res k0).map (·.1) then hv p.1 else β p.1) = hv p.1
        rw [if_pos (List.mem_map.2 ⟨p,hp,rfl⟩)]))
      have hfin : SRx c ⟨Q0n [(d,up res k0)] τ.T,O'⟩ (a.put (some d) v) w' := ⟨_,_,Sh',this⟩
      refine hK _ _ ?_
      show SRx c ⟨Q0n (Qa6 o.dst (up res k0)) τ.T,O'⟩ _ w'
      rw [hd]
      exact hfin
  · exact .none
end
end Go.Am
