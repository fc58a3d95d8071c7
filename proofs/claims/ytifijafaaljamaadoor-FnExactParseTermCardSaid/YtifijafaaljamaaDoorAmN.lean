/- What a function is held to; what a value looks like to a callee that only reads it; results taken apart. -/
import Derived.Test.YtifijafaaljamaaDoorAmM
set_option linter.unusedSimpArgs false
set_option linter.unusedVariables false
namespace Go.Am
open Go.RowKit

def Q7a (P:Program) (f:FuncId) (args:List AV) (res:AV) (outs:List AV):Prop :=
 ∀ (w:World) (Sh:Nat→Prop) (Ss:Nat→Nat→Prop) (vs:List Value),Q02 w Sh→vs.length=args.length →
  (∀ i,i < args.length→Q04 w Sh (Ss i) (vs.getD i undef) (av args i))→(∀ i b,i < args.length→Ss i b→¬ Sh b∧b < w.heap.size) →
  (∀ i i' b,i < args.length→i' < args.length→Ss i b→Ss i' b→i=i') →
  Calls P f vs.toArray w fun e w'=>∃ (v:Value) (Sh' S':Nat→Prop) (Ss':Nat→Nat→Prop),e=.returned v∧Fr (fun b=>∃ i,i < args.length∧Ss i b) w w'∧(∀ b,Sh b→Sh' b) ∧
   (∀ b,Sh' b→b < w'.heap.size∧(Sh b∨w.heap.size ≤ b∨∃ i,i < args.length∧Ss i b))∧Q04 w' Sh' S' v res∧(∀ i,i < args.length→Q04 w' Sh' (Ss' i) (vs.getD i undef) (av outs i)) ∧
   (∀ b,S' b→¬ Sh' b∧b < w'.heap.size∧(w.heap.size ≤ b∨∃ i,i < args.length∧Ss i b)) ∧
   (∀ i b,i < args.length→Ss' i b→¬ Sh' b∧b < w'.heap.size∧(w.heap.size ≤ b∨∃ i,i < args.length∧Ss i b)) ∧
   (∀ i b,i < args.length→S' b→¬ Ss' i b)∧(∀ i i' b,i < args.length→i' < args.length→Ss' i b→Ss' i' b→i=i')

mutual
def noSh:AV→Bool
 | .sl _ | .ptr _ _ | .fn _ _ | .fnb _ _=>false
 | .agg cs=>Q7b cs
 | .tup cs=>Q7b cs
 | .osl xs=>Q7b xs
 | .optr cs=>Q7b cs
 | _=>true
def Q7b:List AV→Bool
 | []=>true
 | x :: xs=>noSh x && Q7b xs
end
theorem Q7c {l:List AV} (h:Q7b l=true) (i:Nat):noSh (av l i)=true:=by
 induction l generalizing i with
 | nil=>simp [av,noSh]
 | cons x xs ih =>
  simp only [Q7b,Bool.and_eq_true] at h
  cases i with
  | zero=>exact h.1
  | succ i=>exact ih h.2 i
theorem Q7d {x:AV} (h:noSh x=true) (j:Nat):noSh (av (cellsOf x) j)=true:=by
 cases x with
 | agg cs=>exact Q7c h j
 | _ =>
  simp only [cellsOf]
  cases j with
  | zero=>exact h
  | succ j=>simp [av,noSh]

theorem Q03.noSh {w:World} {Sh Sh':Nat→Prop} {v:Value} {x:AV} (h:Q03 w Sh v x) (hx:Am.noSh x=true):Q03 w Sh' v x:=by
 induction h with
 | undef v=>exact .undef v
 | int k n=>exact .int k n
 | bool b=>exact .bool b
 | str s=>exact .str s
 | nils=>exact .nils
 | nilp=>exact .nilp
 | agg c cs hs _ ih=>exact .agg c cs hs (fun i hi=>ih i hi (Q7c hx i))
 | tup c cs hs _ ih=>exact .tup c cs hs (fun i hi=>ih i hi (Q7c hx i))
 | sl0 a c=>exact .sl0 a c
 | sl1 b o c sz xs f hb hc hz hm _ ih=>simp [Am.noSh] at hx
 | ptr b o cs off f hb hm _ ih=>simp [Am.noSh] at hx
 | fn f c cs hs _ ih=>simp [Am.noSh] at hx
 | fnb f c cs hs _ ih=>simp [Am.noSh] at hx
 | nilq b xs h=>exact .nilq b xs h
 | raw v h=>exact .raw v h
 | err b v h=>exact .err b v h
theorem Q04.noSh {w:World} {Sh Sh' S:Nat→Prop} {v:Value} {x:AV} (h:Q04 w Sh S v x) (hx:Am.noSh x=true):Q04 w Sh' S v x:=by
 induction h with
 | val S v x h=>exact .val S v x (h.noSh hx)
 | agg S c cs Si hs _ hS hd ih=>exact .agg S c cs Si hs (fun i hi=>ih i hi (Q7c hx i)) hS hd
 | tup S c cs Si hs _ hS hd ih=>exact .tup S c cs Si hs (fun i hi=>ih i hi (Q7c hx i)) hS hd
 | osl0 S=>exact .osl0 S
 | osl S g c sz e cur xs Si hg hc hc0 hm hs hz _ hSg hS hd ih=>exact .osl S g c sz e cur xs Si hg hc hc0 hm hs hz (fun i j hi hj=>ih i j hi hj (Q7d (Q7c hx i) j)) hSg hS hd
 | optr S g e cur cs Si hg hs _ hSg hS hd ih=>exact .optr S g e cur cs Si hg hs (fun i hi=>ih i hi (Q7c hx i)) hSg hS hd

def shc (σ:Q0d):AV→AV
 | .nils=>.sl []
 | .rs id=>match σ.O id with | some (.arr xs)=>.sl (Q05 xs) | _=>.undef
 | x=>x
def Q7e (σ:Q0d):AV→Bool
 | .rs id=>match σ.O id with | some (.arr _)=>true | _=>false
 | .fn _ cs=>cs.all plain
 | x=>plain x
def sh1 (σ:Q0d):AV→AV
 | .agg cs=>.agg (cs.map (shc σ))
 | .ra id off=>match σ.O id with | some (.box cs)=>.ptr (cs.map (shc σ)) off | _=>.undef
 | x=>shc σ x
def Q7f (σ:Q0d):AV→Bool
 | .agg cs=>cs.all (Q7e σ)
 | .ra id _=>match σ.O id with | some (.box cs)=>cs.all (Q7e σ) | _=>false
 | x=>Q7e σ x
def Q7g (σ:Q0d):AV→List Nat
 | .agg cs=>cs.flatMap Q5o
 | .ra id _=>match σ.O id with | some (.box cs)=>id :: cs.flatMap Q5o | _=>[]
 | x=>Q5o x
def shv (σ:Q0d):AV→AV
 | .fn f cs=>.fn f (cs.map (sh1 σ))
 | x=>sh1 σ x
def Q7h (σ:Q0d):AV→Bool
 | .fn _ cs=>cs.all (Q7f σ)
 | .fnb _ _=>true
 | x=>Q7f σ x
def Q7i (σ:Q0d):AV→List Nat
 | .fn _ cs=>cs.flatMap (Q7g σ)
 | x=>Q7g σ x

section
variable {c:Ctx} {σ τ:Q0d} {β:Nat→Value} {fp:Nat→Nat→Prop} {Sh:Nat→Prop} {a:Act} {w:World}

def Q7j (τ:Q0d) (fp:Nat→Nat→Prop) (ids:List Nat) (b:Nat):Prop:=∃ id ∈ ids,(τ.O id).isSome∧fp id b

theorem Q7k (hs:SR c β fp Sh τ a w) {v:Value} {x:AV} (hv:Q0i w Sh β v x) (hok:Q7e σ x=true) (hO:∀ id ∈ Q5o x,τ.O id=σ.O id) (ids:List Nat) (hids:∀ id ∈ Q5o x,id ∈ ids) :
  Q03 w (fun b=>Sh b∨Q7j τ fp ids b) v (shc σ x):=by
 have base:∀ y,plain y=true→Q0i w Sh β v y→Q03 w (fun b=>Sh b∨Q7j τ fp ids b) v y:=fun y hy h=>by
  cases h with
  | base _ _ h=>exact h.mono (fun _ _=>rfl) (fun _ h=>.inl h)
  | _=>simp [plain] at hy
 cases x with
 | nils=>rw [hv.nils_inv]; exact .sl0 none 0
 | rs id =>
  cases hσ:σ.O id with
  | none=>simp [Q7e,hσ] at hok
  | some ob =>
   cases ob with
   | box cs=>simp [Q7e,hσ] at hok
   | arx _ _ _ _=>simp [Q7e,hσ] at hok
   | ary _=>simp [Q7e,hσ] at hok
   | arr xs =>
    simp only [shc,hσ]
    have hτ:τ.O id=some (.arr xs):=(hO id (by simp [Q5o])).trans hσ
    rw [hv.rs_inv]
    have hown:Q04 w Sh (fp id) (β id) (.osl xs):=hs.ob id _ hτ
    exact hown.share.mono (fun _ _=>rfl) (fun b hb=>hb.imp (fun h=>h) (fun h=>⟨id,hids id (by simp [Q5o]),by rw [hτ]; rfl,h⟩))
 | int k n=>exact base _ rfl hv
 | bool b=>exact base _ rfl hv
 | str s=>exact base _ rfl hv
 | nilp=>exact base _ rfl hv
 | sl xs=>exact base _ rfl hv
 | ptr cs off=>exact base _ rfl hv
 | fn f cs =>
  simp only [Q7e,List.all_eq_true] at hok
  obtain ⟨cc,rfl,hsz,hh⟩:=hv.fn_inv
  refine .fn f cc cs hsz (fun i hi=>?_)
  have hy:=hok _ (Q5x hi)
  have hz:=hh i hi
  generalize cc.getD i undef=u at hz ⊢
  generalize av cs i=y at hy hz ⊢
  cases hz with
  | base _ _ h=>exact h.mono (fun _ _=>rfl) (fun _ h=>.inl h)
  | _=>simp [plain] at hy
 | _=>simp [Q7e,plain] at hok

theorem Q7l (hs:SR c β fp Sh τ a w) {v:Value} {x:AV} (hv:Q0i w Sh β v x) (hok:Q7f σ x=true) (hO:∀ id ∈ Q7g σ x,τ.O id=σ.O id) (ids:List Nat) (hids:∀ id ∈ Q7g σ x,id ∈ ids) :
  Q03 w (fun b=>Sh b∨Q7j τ fp ids b) v (sh1 σ x):=by
 cases x with
 | agg cs =>
  obtain ⟨cc,rfl,hsz,hh⟩:=hv.agg_inv
  simp only [Q7f,List.all_eq_true] at hok
  refine .agg cc _ (by simp; exact hsz) (fun i hi=>?_)
  have hi':i < cs.length:=by simpa using hi
  rw [Q73 _ hi']
  exact Q7k hs (hh i hi') (hok _ (Q5x hi')) (fun id hid=>hO id (List.mem_flatMap.2 ⟨_,Q5x hi',hid⟩)) ids (fun id hid=>hids id (List.mem_flatMap.2 ⟨_,Q5x hi',hid⟩))
 | ra id off =>
  obtain ⟨g,hg,rfl⟩:=hv.ra_inv
  cases hσ:σ.O id with
  | none=>simp [Q7f,hσ] at hok
  | some ob =>
   cases ob with
   | arr xs=>simp [Q7f,hσ] at hok
   | arx _ _ _ _=>simp [Q7f,hσ] at hok
   | ary _=>simp [Q7f,hσ] at hok
   | box cs =>
    simp only [Q7f,hσ,List.all_eq_true] at hok
    simp only [Q7g,hσ] at hO hids
    simp only [sh1,hσ]
    have hτ:τ.O id=some (.box cs):=(hO id List.mem_cons_self).trans hσ
    obtain ⟨g',e,cc,hv',hblk,hsz,hcs,hfp⟩:=hs.ob id _ hτ
    rw [hg] at hv'
    simp only [Value.pointer.injEq,Option.some.injEq,Addr.mk.injEq,and_true] at hv'
    subst hv'
    have:=Q03.ptr (w:=w) (Sh:=fun b=>Sh b∨Q7j τ fp ids b) g 0 (cs.map (shc σ)) off (fun j=>cc.getD j undef) (.inr ⟨id,hids id List.mem_cons_self,by rw [hτ]; rfl,hfp⟩)
     (fun j hj=>by rw [Nat.zero_add]; exact Q0a hblk j (by simp at hj; omega))
     (fun j hj=>by
      have hj':j < cs.length:=by simpa using hj
      rw [Q73 _ hj']
      exact Q7k hs (hcs j hj') (hok _ (Q5x hj')) (fun id' hid=>hO id' (List.mem_cons_of_mem _ (List.mem_flatMap.2 ⟨_,Q5x hj',hid⟩))) ids (fun id' hid=>hids id' (List.mem_cons_of_mem _ (List.mem_flatMap.2 ⟨_,Q5x hj',hid⟩))))
    rwa [Nat.zero_add] at this
 | _=>exact Q7k hs hv hok hO ids hids

theorem Q7m (hs:SR c β fp Sh τ a w) {v:Value} {x:AV} (hv:Q0i w Sh β v x) (hok:Q7h σ x=true) (hO:∀ id ∈ Q7i σ x,τ.O id=σ.O id) (ids:List Nat) (hids:∀ id ∈ Q7i σ x,id ∈ ids) :
  Q03 w (fun b=>Sh b∨Q7j τ fp ids b) v (shv σ x):=by
 cases x with
 | fn f cs =>
  obtain ⟨cc,rfl,hsz,hh⟩:=hv.fn_inv
  simp only [Q7h,List.all_eq_true] at hok
  refine .fn f cc _ (by simp; exact hsz) (fun i hi=>?_)
  have hi':i < cs.length:=by simpa using hi
  rw [Q73 _ hi']
  exact Q7l hs (hh i hi') (hok _ (Q5x hi')) (fun id hid=>hO id (List.mem_flatMap.2 ⟨_,Q5x hi',hid⟩)) ids (fun id hid=>hids id (List.mem_flatMap.2 ⟨_,Q5x hi',hid⟩))
 | fnb f cs =>
  obtain ⟨cc,rfl,hsz,hh⟩:=hv.fnb_inv
  exact .fnb f cc cs hsz (fun i hi=>(hh i hi).mono (fun _ _=>rfl) (fun _ h=>.inl h))
 | _=>exact Q7l hs hv hok hO ids hids
end

mutual
def nl:AV→Nat
 | .osl _=>1
 | .agg cs=>nls cs
 | .tup cs=>nls cs
 | _=>0
def nls:List AV→Nat
 | []=>0
 | x :: xs=>nl x + nls xs
end
mutual
def up:AV→Nat→AV
 | .osl _,k=>.rs k
 | .agg cs,k=>.agg (ups cs k)
 | .tup cs,k=>.tup (ups cs k)
 | x,_=>x
def ups:List AV→Nat→List AV
 | [],_=>[]
 | x :: xs,k=>up x k :: ups xs (k + nl x)
end
mutual
def uo:AV→Nat→List (Nat × List AV)
 | .osl xs,k=>[(k,xs)]
 | .agg cs,k=>uos cs k
 | .tup cs,k=>uos cs k
 | _,_=>[]
def uos:List AV→Nat→List (Nat × List AV)
 | [],_=>[]
 | x :: xs,k=>uo x k ++ uos xs (k + nl x)
end
mutual
theorem Q7n:∀ (x:AV) (k:Nat) (p:Nat × List AV),p ∈ uo x k→k ≤ p.1∧p.1 < k + nl x
 | .osl xs,k,p,h=>by simp only [uo,List.mem_singleton] at h; subst h; simp [nl]
 | .agg cs,k,p,h=>by simp only [uo] at h; simp only [nl]; exact Q7o cs k p h
 | .tup cs,k,p,h=>by simp only [uo] at h; simp only [nl]; exact Q7o cs k p h
 | .undef,_,_,h=>by simp [uo] at h
 | .int _ _,_,_,h=>by simp [uo] at h
 | .bool _,_,_,h=>by simp [uo] at h
 | .str _,_,_,h=>by simp [uo] at h
 | .nils,_,_,h=>by simp [uo] at h
 | .nilp,_,_,h=>by simp [uo] at h
 | .sl _,_,_,h=>by simp [uo] at h
 | .ptr _ _,_,_,h=>by simp [uo] at h
 | .optr _,_,_,h=>by simp [uo] at h
 | .rs _,_,_,h=>by simp [uo] at h
 | .ra _ _,_,_,h=>by simp [uo] at h
 | .ea _ _ _ _,_,_,h=>by simp [uo] at h
 | .cut _ _,_,_,h=>by simp [uo] at h
 | .fn _ _,_,_,h=>by simp [uo] at h
 | .fnb _ _,_,_,h=>by simp [uo] at h
 | .nilq _,_,_,h=>by simp [uo] at h
 | .raw _,_,_,h=>by simp [uo] at h
 | .err _,_,_,h=>by simp [uo] at h
theorem Q7o:∀ (xs:List AV) (k:Nat) (p:Nat × List AV),p ∈ uos xs k→k ≤ p.1∧p.1 < k + nls xs
 | [],_,_,h=>by simp [uos] at h
 | x :: xs,k,p,h=>by
  simp only [uos,List.mem_append] at h
  simp only [nls]
  rcases h with h | h
  ·have:=Q7n x k p h; omega
  ·have:=Q7o xs (k + nl x) p h; omega
end
theorem Q7p:∀ (xs:List AV) (k:Nat),(ups xs k).length=xs.length
 | [],_=>rfl
 | x :: xs,k=>by simp [ups,Q7p xs]

structure Q7q (w:World) (Sh:Nat→Prop) (S:Nat→Prop) (os:List (Nat × List AV)) (hv:Nat→Value) (F:Nat→Nat→Prop):Prop where
 rep:∀ p ∈ os,Q04 w Sh (F p.1) (hv p.1) (.osl p.2)
 sub:∀ p ∈ os,∀ b,F p.1 b→S b
 dj:∀ p ∈ os,∀ q ∈ os,∀ b,F p.1 b→F q.1 b→p.1=q.1

theorem Q03.oneOf_osl {w:World} {Sh:Nat→Prop} {v:Value} {xs:List AV} (h:Q03 w Sh v (.osl xs)):False:=by cases h

mutual
def Q7r:AV→Bool
 | .optr _=>false
 | .agg cs=>Q7s cs
 | .tup cs=>Q7s cs
 | _=>true
def Q7s:List AV→Bool
 | []=>true
 | x :: xs=>Q7r x && Q7s xs
end

section
variable {w:World} {Sh:Nat→Prop}
theorem Q7t {x:AV} {k:Nat} {S:Nat→Prop} {v:Value} (h:Q03 w Sh v x) (h1:uo x k=[]) (h2:up x k=x) :
  ∃ hv F,Q7q w Sh S (uo x k) hv F∧∀ β,(∀ p ∈ uo x k,β p.1=hv p.1)→Q0i w Sh β v (up x k) :=
 ⟨fun _=>undef,fun _ _=>False,⟨fun p hp=>by rw [h1] at hp; simp at hp,fun p hp=>by rw [h1] at hp; simp at hp,fun p hp=>by rw [h1] at hp; simp at hp⟩,fun β _=>by rw [h2]; exact .base _ _ h⟩
mutual
theorem Q7u:∀ (x:AV) (k:Nat) (S:Nat→Prop) (v:Value),Q04 w Sh S v x→Q7r x=true →
  ∃ hv F,Q7q w Sh S (uo x k) hv F∧∀ β,(∀ p ∈ uo x k,β p.1=hv p.1)→Q0i w Sh β v (up x k)
 | .osl xs,k,S,v,h,_=>⟨fun _=>v,fun _=>S,⟨fun p hp=>by simp only [uo,List.mem_singleton] at hp; subst hp; exact h,fun p hp b hb=>hb,fun p hp q hq b _ _=>by simp only [uo,List.mem_singleton] at hp hq; rw [hp,hq]⟩,
   fun β hβ=>by
    have e:=hβ (k,xs) (by simp [uo])
    have:v.oneCell'=true:=by
     cases h with
     | val _ _ _ h=>cases h
     | osl0=>rfl
     | osl=>rfl
    simp only at e
    simp only [up]
    rw [← e] at this ⊢
    exact .rs k this⟩
 | .agg cs,k,S,v,h,hok=>by
  have hok':Q7s cs=true:=hok
  cases h with
  | val S v x h =>
   cases h with
   | agg c cs hs h =>
    obtain ⟨hv,F,hr,ht⟩:=Q7v cs k (fun _ b=>False) (fun i=>c.getD i undef) (fun i hi=>.val _ _ _ (h i hi)) (fun i i' b _ _ h=>h.elim) hok'
    exact ⟨hv,F,⟨hr.rep,fun p hp b hb=>by obtain ⟨_,_,h⟩:=hr.sub p hp b hb; exact h.elim,hr.dj⟩,fun β hβ=>.agg c _ (by rw [Q7p]; exact hs) (fun i hi=>ht β hβ i (by rwa [Q7p] at hi))⟩
  | agg S c cs Si hs h hS hd =>
   obtain ⟨hv,F,hr,ht⟩:=Q7v cs k Si (fun i=>c.getD i undef) h hd hok'
   exact ⟨hv,F,⟨hr.rep,fun p hp b hb=>by obtain ⟨i,hi,h⟩:=hr.sub p hp b hb; exact hS i b hi h,hr.dj⟩,fun β hβ=>.agg c _ (by rw [Q7p]; exact hs) (fun i hi=>ht β hβ i (by rwa [Q7p] at hi))⟩
 | .tup cs,k,S,v,h,hok=>by
  have hok':Q7s cs=true:=hok
  cases h with
  | val S v x h =>
   cases h with
   | tup c cs hs h =>
    obtain ⟨hv,F,hr,ht⟩:=Q7v cs k (fun _ b=>False) (fun i=>c.getD i undef) (fun i hi=>.val _ _ _ (h i hi)) (fun i i' b _ _ h=>h.elim) hok'
    exact ⟨hv,F,⟨hr.rep,fun p hp b hb=>by obtain ⟨_,_,h⟩:=hr.sub p hp b hb; exact h.elim,hr.dj⟩,fun β hβ=>.tup c _ (by rw [Q7p]; exact hs) (fun i hi=>ht β hβ i (by rwa [Q7p] at hi))⟩
  | tup S c cs Si hs h hS hd =>
   obtain ⟨hv,F,hr,ht⟩:=Q7v cs k Si (fun i=>c.getD i undef) h hd hok'
   exact ⟨hv,F,⟨hr.rep,fun p hp b hb=>by obtain ⟨i,hi,h⟩:=hr.sub p hp b hb; exact hS i b hi h,hr.dj⟩,fun β hβ=>.tup c _ (by rw [Q7p]; exact hs) (fun i hi=>ht β hβ i (by rwa [Q7p] at hi))⟩
 | .optr cs,k,S,v,h,hok=>by simp [Q7r] at hok
 | .undef,k,S,v,h,_=>by cases h with | val _ _ _ h=>exact Q7t h rfl rfl
 | .int _ _,k,S,v,h,_=>by cases h with | val _ _ _ h=>exact Q7t h rfl rfl
 | .bool _,k,S,v,h,_=>by cases h with | val _ _ _ h=>exact Q7t h rfl rfl
 | .str _,k,S,v,h,_=>by cases h with | val _ _ _ h=>exact Q7t h rfl rfl
 | .nils,k,S,v,h,_=>by cases h with | val _ _ _ h=>exact Q7t h rfl rfl
 | .nilp,k,S,v,h,_=>by cases h with | val _ _ _ h=>exact Q7t h rfl rfl
 | .sl _,k,S,v,h,_=>by cases h with | val _ _ _ h=>exact Q7t h rfl rfl
 | .ptr _ _,k,S,v,h,_=>by cases h with | val _ _ _ h=>exact Q7t h rfl rfl
 | .rs _,k,S,v,h,_=>by cases h with | val _ _ _ h=>exact Q7t h rfl rfl
 | .ra _ _,k,S,v,h,_=>by cases h with | val _ _ _ h=>exact Q7t h rfl rfl
 | .ea _ _ _ _,k,S,v,h,_=>by cases h with | val _ _ _ h=>exact Q7t h rfl rfl
 | .cut _ _,k,S,v,h,_=>by cases h with | val _ _ _ h=>exact Q7t h rfl rfl
 | .fn _ _,k,S,v,h,_=>by cases h with | val _ _ _ h=>exact Q7t h rfl rfl
 | .fnb _ _,k,S,v,h,_=>by cases h with | val _ _ _ h=>exact Q7t h rfl rfl
 | .nilq _,k,S,v,h,_=>by cases h with | val _ _ _ h=>exact Q7t h rfl rfl
 | .raw _,k,S,v,h,_=>by cases h with | val _ _ _ h=>exact Q7t h rfl rfl
 | .err _,k,S,v,h,_=>by cases h with | val _ _ _ h=>exact Q7t h rfl rfl
theorem Q7v:∀ (xs:List AV) (k:Nat) (Si:Nat→Nat→Prop) (g:Nat→Value),(∀ i,i < xs.length→Q04 w Sh (Si i) (g i) (av xs i))→(∀ i i' b,i < xs.length→i' < xs.length→Si i b→Si i' b→i=i')→Q7s xs=true →
  ∃ hv F,Q7q w Sh (fun b=>∃ i,i < xs.length∧Si i b) (uos xs k) hv F∧∀ β,(∀ p ∈ uos xs k,β p.1=hv p.1)→∀ i,i < xs.length→Q0i w Sh β (g i) (av (ups xs k) i)
 | [],k,_,_,_,_,_=>⟨fun _=>undef,fun _ _=>False,⟨fun p hp=>by simp [uos] at hp,fun p hp=>by simp [uos] at hp,fun p hp=>by simp [uos] at hp⟩,fun β _ i hi=>by simp at hi⟩
 | x :: xs,k,Si,g,h,hd,hok=>by
  have hok:Q7r x=true∧Q7s xs=true:=by simpa [Q7s] using hok
  obtain ⟨hv1,F1,r1,t1⟩:=Q7u x k (Si 0) (g 0) (h 0 (by simp)) hok.1
  obtain ⟨hv2,F2,r2,t2⟩:=Q7v xs (k + nl x) (fun i=>Si (i + 1)) (fun i=>g (i + 1)) (fun i hi=>h (i + 1) (by simp; omega)) (fun i i' b hi hi' h1 h2=>by have:=hd (i + 1) (i' + 1) b (by simp; omega) (by simp; omega) h1 h2; omega) hok.2
  have in1:∀ p ∈ uo x k,p.1 < k + nl x:=fun p hp=>(Q7n x k p hp).2
  have in2:∀ p ∈ uos xs (k + nl x),¬ p.1 < k + nl x:=fun p hp=>by have:=(Q7o xs (k + nl x) p hp).1; omega
  refine ⟨fun q=>if q < k + nl x then hv1 q else hv2 q,fun q=>if q < k + nl x then F1 q else F2 q,⟨fun p hp=>?_,fun p hp b hb=>?_,fun p hp q hq b hb1 hb2=>?_⟩,fun β hβ i hi=>?_⟩
  ·simp only [uos,List.mem_append] at hp
   rcases hp with hp | hp
   ·simp only [if_pos (in1 p hp)]; exact r1.rep p hp
   ·simp only [if_neg (in2 p hp)]; exact r2.rep p hp
  ·simp only [uos,List.mem_append] at hp
   rcases hp with hp | hp
   ·simp only [if_pos (in1 p hp)] at hb; exact ⟨0,by simp,r1.sub p hp b hb⟩
   ·simp only [if_neg (in2 p hp)] at hb
    obtain ⟨i,hi,h'⟩:=r2.sub p hp b hb
    exact ⟨i + 1,by simp; omega,h'⟩
  ·simp only [uos,List.mem_append] at hp hq
   rcases hp with hp | hp <;> rcases hq with hq | hq
   ·simp only [if_pos (in1 p hp)] at hb1; simp only [if_pos (in1 q hq)] at hb2; exact r1.dj p hp q hq b hb1 hb2
   ·simp only [if_pos (in1 p hp)] at hb1; simp only [if_neg (in2 q hq)] at hb2
    have h1:=r1.sub p hp b hb1
    obtain ⟨i,hi,h2⟩:=r2.sub q hq b hb2
    have:=hd 0 (i + 1) b (by simp) (by simp; omega) h1 h2
    omega
   ·simp only [if_neg (in2 p hp)] at hb1; simp only [if_pos (in1 q hq)] at hb2
    have h1:=r1.sub q hq b hb2
    obtain ⟨i,hi,h2⟩:=r2.sub p hp b hb1
    have:=hd 0 (i + 1) b (by simp) (by simp; omega) h1 h2
    omega
   ·simp only [if_neg (in2 p hp)] at hb1; simp only [if_neg (in2 q hq)] at hb2; exact r2.dj p hp q hq b hb1 hb2
  ·cases i with
   | zero =>
    refine t1 β (fun p hp=>?_)
    rw [hβ p (by simp [uos,hp])]
    simp only [if_pos (in1 p hp)]
   | succ i =>
    have:=t2 β (fun p hp=>by
     rw [hβ p (by simp [uos,hp])]
     simp only [if_neg (in2 p hp)]) i (by simp at hi; omega)
    exact this
end
end

end Go.Am
