/- append, make, literals, stores into elements: told by functions on abstract values, and these are right. -/
import Derived.Test.YtifijafaaljamaaDoorAmJ
set_option linter.unusedSimpArgs false
set_option linter.unusedVariables false
namespace Go.Am
open Go.RowKit

section
variable {P:Program} {c:Ctx} {o:Oper} {σ:Q0d}

def Q6c (σ:Q0d):AV→Option (List AV × List Nat)
 | .nils=>some ([],[])
 | .rs m=>match σ.O m with | some (.arr xs)=>some (xs,[m]) | _=>none
 | _=>none
def Q6d (σ:Q0d) (take:Bool):AV→Option (List AV × List Nat × List Nat × List Prop)
 | .nils=>some ([],[],[],[])
 | .sl ys=>some (ys,[],[],[])
 | .rs q=>match σ.O q with | some (.arr ys)=>bif take then some (ys,[q],[q],[]) else some (ys,[],[q],[∀ y ∈ ys,(cellsOf y).all plain=true]) | _=>none
 | _=>none

structure Q6e (w:World) (Sh S2:Nat→Prop) (v:Value) (ys:List AV) (sz:Nat):Prop where
 form:∃ A cp,v=.slice A ys.length cp
 els:0 < ys.length→∃ (b o cp:Nat) (f:Nat→Nat→Value) (Sy:Nat→Nat→Nat→Prop),v=.slice (some ⟨b,o,none⟩) ys.length cp∧(∀ i j,i < ys.length→j < sz→w.cell? ⟨b,o + (i * sz + j),none⟩=some (f i j)) ∧
  (∀ i j,i < ys.length→j < sz→Q04 w Sh (Sy i j) (f i j) (av (cellsOf (av ys i)) j))∧(∀ i j bb,i < ys.length→j < sz→Sy i j bb→S2 bb) ∧
  (∀ i j i' j' bb,i < ys.length→j < sz→i' < ys.length→j' < sz→Sy i j bb→Sy i' j' bb→i=i'∧j=j')

theorem Q6f {w:World} {Sh S:Nat→Prop} {v:Value} {xs:List AV} (h:Q04 w Sh S v (.osl xs)):∃ A cp,v=.slice A xs.length cp∧xs.length ≤ cp:=by
 cases h with
 | val S v x h=>cases h
 | osl0 S=>exact ⟨none,0,rfl,Nat.le_refl _⟩
 | osl S g c sz e cur xs Si hg hc hc0 hm hs hz h hSg hS hd=>exact ⟨_,c,rfl,hc⟩

theorem Q6g {w:World} {Sh:Nat→Prop} {v:Value} {ys:List AV} {sz:Nat} (h:Q03 w Sh v (.sl ys)) (hz:∀ y ∈ ys,(cellsOf y).length=sz):Q6e w Sh (fun _=>False) v ys sz:=by
 cases h with
 | sl0 a c=>exact ⟨⟨a,c,rfl⟩,fun h=>by simp at h⟩
 | sl1 b o c sz' xs f hb hc hz' hm hr =>
  refine ⟨⟨_,c,rfl⟩,fun h0=>⟨b,o,c,f,fun _ _ _=>False,rfl,?_,?_,fun _ _ _ _ _ h=>h,fun _ _ _ _ _ _ _ _ _ h=>h.elim⟩⟩
  ·have hsz:sz'=sz:=by rw [← hz' 0 h0,hz _ (Q5x h0)]
   subst hsz; exact hm
  ·intro i j hi hj
   exact .val _ _ _ (hr i j hi (by rw [hz _ (Q5x hi)]; exact hj))

theorem Q6h {w:World} {Sh S:Nat→Prop} {v:Value} {ys:List AV} {sz:Nat} (h:Q04 w Sh S v (.osl ys)) (hz:∀ y ∈ ys,(cellsOf y).length=sz):Q6e w Sh S v ys sz:=by
 cases h with
 | val S v x h=>cases h
 | osl0 S=>exact ⟨⟨none,0,rfl⟩,fun h=>by simp at h⟩
 | osl S g c sz' e cur xs Si hg hc hc0 hm hs hz' hr hSg hS hd =>
  refine ⟨⟨_,c,rfl⟩,fun h0=>?_⟩
  have hsz:sz'=sz:=by rw [← hz' 0 h0,hz _ (Q5x h0)]
  subst hsz
  exact ⟨g,0,c,fun i j=>cur.getD (i * sz' + j) undef,Si,rfl,fun i j hi hj=>by rw [Nat.zero_add]; exact Q0a hg _ (by rw [hs]; exact Q0b hi hc hj),
   fun i j hi hj=>hr i j hi (by rw [hz' i hi]; exact hj),fun i j bb hi hj hb=>(hS i j bb hi hj hb).1,hd⟩

theorem Q6i {w:World} {Sh S:Nat→Prop} {v:Value} {ys:List AV} {sz:Nat} (h:Q04 w Sh S v (.osl ys)) (hz:∀ y ∈ ys,(cellsOf y).length=sz) (hp:∀ y ∈ ys,(cellsOf y).all plain=true):Q6e w Sh (fun _=>False) v ys sz:=by
 obtain ⟨hf,he⟩:=Q6h h hz
 refine ⟨hf,fun h0=>?_⟩
 obtain ⟨b,o,cp,f,Sy,h1,h2,h3,_,_⟩:=he h0
 refine ⟨b,o,cp,f,fun _ _ _=>False,h1,h2,fun i j hi hj=>.val _ _ _ ((h3 i j hi hj).plain ?_),fun _ _ _ _ _ h=>h,fun _ _ _ _ _ _ _ _ _ h=>h.elim⟩
 have:=hp _ (Q5x hi)
 rw [List.all_eq_true] at this
 exact this _ (Q5x (by rw [hz _ (Q5x hi)]; exact hj))

def Q6j (a b:List Nat):Bool:=a.all fun x=>!b.contains x

def Q6k (TI:Nat→Option Q1r) (nt:Nat) (o:Oper) (σ:Q0d) (t:Nat) (s x:Operand) (k:Nat) (take:Bool):Option Ev :=
 match shp TI t,o.dst with
 | some (.slice e),some d =>
  match TI e,Q6c σ (opv σ s),Q6d σ take (opv σ x) with
  | some ei,some (xs,ids1),some (ys,ids2,ids2',ob2) =>
   bif Nat.blt d nt && Nat.ble 1 ei.size && Nat.ble 1 ei.bytes && Q6j ids1 ids2 then
    some ⟨⟨opr s ++ opr x,ids1 ++ ids2'⟩,⟨[(d,.rs k)],Q4o k (.arr (xs ++ ys)) (ids1 ++ ids2),[k]⟩,
     ((∀ y ∈ xs ++ ys,Q5v ei.size y=true)∧(xs.length + ys.length) * ei.bytes ≤ 140737488355328) :: ob2⟩
   else none
  | _,_,_=>none
 | _,_=>none

theorem Q6l {τ:Q0d} {β:Nat→Value} {fp:Nat→Nat→Prop} {Sh:Nat→Prop} {a:Act} {w:World} (hs:SR c β fp Sh τ a w) {v:Value} {x:AV} (hv:Q0i w Sh β v x) {xs:List AV} {ids:List Nat}
  (h:Q6c σ x=some (xs,ids)) (hO:∀ id ∈ ids,τ.O id=σ.O id):Q04 w Sh (fun b=>∃ id ∈ ids,(τ.O id).isSome∧fp id b) v (.osl xs):=by
 cases x <;> simp only [Q6c,Option.some.injEq,Prod.mk.injEq,reduceCtorEq] at h
 ·obtain ⟨rfl,rfl⟩:=h
  rw [hv.nils_inv]; exact .osl0 _
 ·rename_i id
  cases hσ:σ.O id with
  | none=>simp [hσ] at h
  | some ob =>
   cases ob with
   | box cs=>simp [hσ] at h
   | arx _ _ _ _=>simp [hσ] at h
   | ary _=>simp [hσ] at h
   | arr xs' =>
    simp only [hσ,Option.some.injEq,Prod.mk.injEq] at h
    obtain ⟨rfl,rfl⟩:=h
    have hτ:τ.O id=some (.arr xs'):=(hO id (by simp)).trans hσ
    rw [hv.rs_inv]
    have hown:Q04 w Sh (fp id) (β id) (.osl xs'):=hs.ob id _ hτ
    exact hown.weaken (fun b hb=>⟨id,by simp,by rw [hτ]; rfl,hb⟩)

theorem Q6m {τ:Q0d} {β:Nat→Value} {fp:Nat→Nat→Prop} {Sh:Nat→Prop} {a:Act} {w:World} (hs:SR c β fp Sh τ a w) {v:Value} {x:AV} (hv:Q0i w Sh β v x) {take:Bool} {ys:List AV} {ids ids':List Nat} {ob:List Prop}
  (h:Q6d σ take x=some (ys,ids,ids',ob)) (hO:∀ id ∈ ids',τ.O id=σ.O id) (hob:∀ p ∈ ob,p) {sz:Nat} (hz:∀ y ∈ ys,(cellsOf y).length=sz):Q6e w Sh (fun b=>∃ id ∈ ids,(τ.O id).isSome∧fp id b) v ys sz∧∀ id ∈ ids,id ∈ ids':=by
 have weak:∀ {S:Nat→Prop},Q6e w Sh (fun _=>False) v ys sz→Q6e w Sh S v ys sz:=by
  intro S h
  refine ⟨h.form,fun h0=>?_⟩
  obtain ⟨b,o,cp,f,Sy,h1,h2,h3,h4,h5⟩:=h.els h0
  exact ⟨b,o,cp,f,Sy,h1,h2,h3,fun i j bb hi hj hb=>(h4 i j bb hi hj hb).elim,h5⟩
 cases x <;> simp only [Q6d,Option.some.injEq,Prod.mk.injEq,reduceCtorEq] at h
 ·obtain ⟨rfl,rfl,rfl,rfl⟩:=h
  rw [hv.nils_inv]
  exact ⟨⟨⟨none,0,rfl⟩,fun h=>by simp at h⟩,fun _ h=>h⟩
 ·obtain ⟨rfl,rfl,rfl,rfl⟩:=h
  exact ⟨weak (Q6g hv.sl_inv hz),fun _ h=>h⟩
 ·rename_i id
  cases hσ:σ.O id with
  | none=>simp [hσ] at h
  | some ob' =>
   cases ob' with
   | box cs=>simp [hσ] at h
   | arx _ _ _ _=>simp [hσ] at h
   | ary _=>simp [hσ] at h
   | arr xs' =>
    simp only [hσ] at h
    have hmem:id ∈ ids':=by cases take <;> simp at h <;> simp [← h.2.2.1]
    have hτ:τ.O id=some (.arr xs'):=(hO id hmem).trans hσ
    rw [hv.rs_inv] at weak ⊢
    have hown:Q04 w Sh (fp id) (β id) (.osl xs'):=hs.ob id _ hτ
    cases take with
    | true =>
     simp only [cond_true,Option.some.injEq,Prod.mk.injEq] at h
     obtain ⟨rfl,rfl,rfl,rfl⟩:=h
     exact ⟨Q6h (hown.weaken (fun b hb=>⟨id,by simp,by rw [hτ]; rfl,hb⟩)) hz,fun _ h=>h⟩
    | false =>
     simp only [cond_false,Option.some.injEq,Prod.mk.injEq] at h
     obtain ⟨rfl,rfl,rfl,rfl⟩:=h
     exact ⟨weak (Q6i hown hz (hob _ (by simp))),fun _ h=>by simp at h⟩

theorem Q6n {TI:Nat→Option Q1r} (hTI:Q20 P TI) (t:Nat) (s x:Operand) (k:Nat) (take:Bool) (ho:o.op=.call { callee:=.builtin .append,args:=#[s,x],argTypes:=#[t,t] }) :
  Q2o P c o σ (Q6k TI c.nt o σ t s x k take):=by
 have run:∀ (a:Act) (w w':World) (u:Value),(Builtin.append_ #[t,t] o.type #[a.eval s,a.eval x]).run P w=.ok u w'→(execOp a.eval o).run P w=.ok (.value u) w':=by
  intro a w w' u h
  simp [execOp,ho,resolve,Sem.run_bind,Sem.run_pure,Result.andThen,invoke,builtin,h,pure]
 unfold Q6k
 split
 ·rename_i e d hsh hd
  split
  ·rename_i ei xs ids1 ys ids2 ids2' ob2 hei hx1 hx2
   refine .ite (fun hb=>?_) (fun _=>.none)
   simp only [Bool.and_eq_true] at hb
   obtain ⟨⟨⟨hdn,hs1⟩,hb1⟩,hdisj⟩:=hb
   intro ev he
   simp only [Option.some.injEq] at he
   subst he
   refine Q4x (x:=.rs k) hd (by simpa [Nat.blt_eq] using hdn) rfl (fun hobs τ ht hO hm hOk β fp Sh a w hs=>?_)
   obtain ⟨helem,hbytes⟩:=hobs _ List.mem_cons_self
   have hob2:∀ p ∈ ob2,p:=fun p hp=>hobs p (List.mem_cons_of_mem _ hp)
   have h1:=hs.opd s; rw [Q2k s (fun t h=>ht t (List.mem_append_left _ h))] at h1
   have h2:=hs.opd x; rw [Q2k x (fun t h=>ht t (List.mem_append_right _ h))] at h2
   have hold:=Q6l hs h1 hx1 (fun id hid=>hO id (List.mem_append_left _ hid))
   obtain ⟨hnew,hsub⟩:=Q6m hs h2 hx2 (fun id hid=>hO id (List.mem_append_right _ hid)) hob2 (sz:=ei.size) (fun y hy=>Q5w (helem y (List.mem_append_right _ hy)))
   have hfree1:∀ b,(∃ id ∈ ids1,(τ.O id).isSome∧fp id b)→Q4q τ fp k (ids1 ++ ids2) b:=fun b ⟨id,h1,h2,h3⟩=>⟨id,.inl (List.mem_append_left _ h1),h2,h3⟩
   have hfree2:∀ b,(∃ id ∈ ids2,(τ.O id).isSome∧fp id b)→Q4q τ fp k (ids1 ++ ids2) b:=fun b ⟨id,h1,h2,h3⟩=>⟨id,.inl (List.mem_append_right _ h1),h2,h3⟩
   obtain ⟨ti,hti,hshp⟩:=Q2l hsh
   obtain ⟨dd,hdd,h3⟩:=Q22 hTI hti
   rw [hshp] at h3
   have:dd=.slice e:=by cases dd <;> simp [Q1q] at h3 <;> simp [h3]
   subst this
   obtain ⟨ii,hii,_⟩:=Q21 hTI hei
   rcases Nat.eq_zero_or_pos ys.length with h0 | h0
   ·-- nothing is appended
    have hys:ys=[]:=List.eq_nil_of_length_eq_zero h0
    subst hys
    obtain ⟨A,cp,e1,hle⟩:=Q6f hold
    obtain ⟨B,cp2,e2⟩:=hnew.form
    have hr:=Q69 (P:=P) w t o.type e ii hdd hii A B xs.length cp cp2 hle
    rw [e1] at hold
    refine ⟨w,.slice A xs.length cp,_,run a w w _ (by rw [e1,e2]; exact hr),Fr.refl _ _,?_,fun b hb=>⟨.inl (hfree1 b hb),?_⟩,?_⟩
    ·show Q04 w Sh _ _ (.osl (xs ++ []))
     rw [List.append_nil]; exact hold
    ·obtain ⟨id,_,h2',h3'⟩:=hb; exact (hs.fb id b h2' h3').2.1
    ·have e3:upd β k (.slice A xs.length cp) k=.slice A xs.length cp:=Q4m _ _ _
     have:=Q0i.rs (w:=w) (Sh:=Sh) (β:=upd β k (.slice A xs.length cp)) k (by rw [e3]; rfl)
     rwa [e3] at this
   ·obtain ⟨b,o',cp,f,Sy,e2,hcell,hrep,hSy,hdy⟩:=hnew.els h0
    have hlen:xs.length + ys.length ≤ 140737488355328:=Nat.le_trans (Nat.le_mul_of_pos_right _ (Nat.le_of_ble_eq_true hb1)) hbytes
    obtain ⟨v',w',hr,hown,hfr,hone⟩:=Q6b hTI hsh hei (Nat.le_of_ble_eq_true hs1) (hold.oslR (fun y hy=>Q5w (helem y (List.mem_append_left _ hy))))
     (fun bb ⟨id,_,h2',h3'⟩=>⟨(hs.fb id bb h2' h3').1,(hs.fb id bb h2' h3').2.1⟩) (fun bb hbb=>(hs.shl bb hbb).1) (cp:=cp) f Sy hcell hrep hSy hdy
     (fun bb ⟨id,h1',h2',h3'⟩=>⟨fun ⟨id2,h4,h5,h6⟩=>by
      have:=hs.dj id id2 bb h2' h5 h3' h6
      subst this
      simp only [Q6j,List.all_eq_true,Bool.not_eq_true'] at hdisj
      have h7:=hdisj id h4
      have h8:ids2.contains id=true:=List.contains_iff_mem.2 h1'
      rw [h8] at h7
      exact absurd h7 (by decide),(hs.fb id bb h2' h3').2.1⟩) helem h0 hbytes (by omega) o.type
    refine ⟨w',v',_,run a w w' v' (by rw [e2]; exact hr),hfr.mono (fun bb _ h=>hfree1 bb h),hown,fun bb hbb=>?_,?_⟩
    ·rcases hbb with h | h | h
     ·refine ⟨.inl (hfree1 bb h),?_⟩
      obtain ⟨id,_,h2',h3'⟩:=h
      exact Nat.lt_of_lt_of_le (hs.fb id bb h2' h3').2.1 hfr.size
     ·refine ⟨.inl (hfree2 bb h),?_⟩
      obtain ⟨id,_,h2',h3'⟩:=h
      exact Nat.lt_of_lt_of_le (hs.fb id bb h2' h3').2.1 hfr.size
     ·exact ⟨.inr h.1,h.2⟩
    ·have e3:upd β k v' k=v':=Q4m _ _ _
     have:=Q0i.rs (w:=w') (Sh:=Sh) (β:=upd β k v') k (by rw [e3]; exact hone)
     rwa [e3] at this
  ·exact .none
 ·exact .none

end
end Go.Am
