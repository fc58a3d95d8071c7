/- What a function is held to; what a value looks like to a callee that only reads it; results taken apart. -/
import Derived.Test.YtckgdfakjjdodaaGreatAmM
set_option linter.unusedSimpArgs false
set_option linter.unusedVariables false
namespace Go.Am
open Go.RowKit

def Q77 (P:Program) (f:FuncId) (args:List AV) (res:AV) (outs:List AV):Prop :=
 ∀ (w:World) (Sh:Nat→Prop) (Ss:Nat→Nat→Prop) (vs:List Value),(∀ b,Sh b→b < w.heap.size)→vs.length=args.length →
  (∀ i,i < args.length→Q01 w Sh (Ss i) (vs.getD i undef) (av args i))→(∀ i b,i < args.length→Ss i b→¬ Sh b∧b < w.heap.size) →
  (∀ i i' b,i < args.length→i' < args.length→Ss i b→Ss i' b→i=i') →
  Calls P f vs.toArray w fun e w'=>∃ (v:Value) (Sh' S':Nat→Prop) (Ss':Nat→Nat→Prop),e=.returned v∧Fr (fun b=>∃ i,i < args.length∧Ss i b) w w'∧(∀ b,Sh b→Sh' b) ∧
   (∀ b,Sh' b→b < w'.heap.size∧(Sh b∨w.heap.size ≤ b∨∃ i,i < args.length∧Ss i b))∧Q01 w' Sh' S' v res∧(∀ i,i < args.length→Q01 w' Sh' (Ss' i) (vs.getD i undef) (av outs i)) ∧
   (∀ b,S' b→¬ Sh' b∧b < w'.heap.size∧(w.heap.size ≤ b∨∃ i,i < args.length∧Ss i b)) ∧
   (∀ i b,i < args.length→Ss' i b→¬ Sh' b∧b < w'.heap.size∧(w.heap.size ≤ b∨∃ i,i < args.length∧Ss i b)) ∧
   (∀ i b,i < args.length→S' b→¬ Ss' i b)∧(∀ i i' b,i < args.length→i' < args.length→Ss' i b→Ss' i' b→i=i')

mutual
def noSh:AV→Bool
 | .sl _ | .ptr _ _ | .fn _ _ | .fnb _ _=>false
 | .agg cs=>Q78 cs
 | .tup cs=>Q78 cs
 | .osl xs=>Q78 xs
 | .optr cs=>Q78 cs
 | _=>true
def Q78:List AV→Bool
 | []=>true
 | x :: xs=>noSh x && Q78 xs
end
theorem Q79 {l:List AV} (h:Q78 l=true) (i:Nat):noSh (av l i)=true:=by
 induction l generalizing i with
 | nil=>simp [av,noSh]
 | cons x xs ih =>
  simp only [Q78,Bool.and_eq_true] at h
  cases i with
  | zero=>exact h.1
  | succ i=>exact ih h.2 i
theorem Q7a {x:AV} (h:noSh x=true) (j:Nat):noSh (av (cellsOf x) j)=true:=by
 cases x with
 | agg cs=>exact Q79 h j
 | _ =>
  simp only [cellsOf]
  cases j with
  | zero=>exact h
  | succ j=>simp [av,noSh]

theorem Q00.noSh {w:World} {Sh Sh':Nat→Prop} {v:Value} {x:AV} (h:Q00 w Sh v x) (hx:Am.noSh x=true):Q00 w Sh' v x:=by
 induction h with
 | undef v=>exact .undef v
 | int k n=>exact .int k n
 | bool b=>exact .bool b
 | str s=>exact .str s
 | nils=>exact .nils
 | nilp=>exact .nilp
 | agg c cs hs _ ih=>exact .agg c cs hs (fun i hi=>ih i hi (Q79 hx i))
 | tup c cs hs _ ih=>exact .tup c cs hs (fun i hi=>ih i hi (Q79 hx i))
 | sl0 a c=>exact .sl0 a c
 | sl1 b o c sz xs f hb hc hz hm _ ih=>simp [Am.noSh] at hx
 | ptr b o cs off f hb hm _ ih=>simp [Am.noSh] at hx
 | fn f c cs hs _ ih=>simp [Am.noSh] at hx
 | fnb f c cs hs _ ih=>simp [Am.noSh] at hx
 | nilq b xs h=>exact .nilq b xs h
 | raw v h=>exact .raw v h
theorem Q01.noSh {w:World} {Sh Sh' S:Nat→Prop} {v:Value} {x:AV} (h:Q01 w Sh S v x) (hx:Am.noSh x=true):Q01 w Sh' S v x:=by
 induction h with
 | val S v x h=>exact .val S v x (h.noSh hx)
 | agg S c cs Si hs _ hS hd ih=>exact .agg S c cs Si hs (fun i hi=>ih i hi (Q79 hx i)) hS hd
 | tup S c cs Si hs _ hS hd ih=>exact .tup S c cs Si hs (fun i hi=>ih i hi (Q79 hx i)) hS hd
 | osl0 S=>exact .osl0 S
 | osl S g c sz e cur xs Si hg hc hc0 hm hs hz _ hSg hS hd ih=>exact .osl S g c sz e cur xs Si hg hc hc0 hm hs hz (fun i j hi hj=>ih i j hi hj (Q7a (Q79 hx i) j)) hSg hS hd
 | optr S g e cur cs Si hg hs _ hSg hS hd ih=>exact .optr S g e cur cs Si hg hs (fun i hi=>ih i hi (Q79 hx i)) hSg hS hd

def shc (σ:Q0a):AV→AV
 | .nils=>.sl []
 | .rs id=>match σ.O id with | some (.arr xs)=>.sl (Q02 xs) | _=>.undef
 | x=>x
def Q7b (σ:Q0a):AV→Bool
 | .rs id=>match σ.O id with | some (.arr _)=>true | _=>false
 | x=>plain x
def sh1 (σ:Q0a):AV→AV
 | .agg cs=>.agg (cs.map (shc σ))
 | .ra id off=>match σ.O id with | some (.box cs)=>.ptr (cs.map (shc σ)) off | _=>.undef
 | x=>shc σ x
def Q7c (σ:Q0a):AV→Bool
 | .agg cs=>cs.all (Q7b σ)
 | .ra id _=>match σ.O id with | some (.box cs)=>cs.all (Q7b σ) | _=>false
 | x=>Q7b σ x
def Q7d (σ:Q0a):AV→List Nat
 | .agg cs=>cs.flatMap Q5l
 | .ra id _=>match σ.O id with | some (.box cs)=>id :: cs.flatMap Q5l | _=>[]
 | x=>Q5l x
def shv (σ:Q0a):AV→AV
 | .fn f cs=>.fn f (cs.map (sh1 σ))
 | x=>sh1 σ x
def Q7e (σ:Q0a):AV→Bool
 | .fn _ cs=>cs.all (Q7c σ)
 | .fnb _ _=>true
 | x=>Q7c σ x
def Q7f (σ:Q0a):AV→List Nat
 | .fn _ cs=>cs.flatMap (Q7d σ)
 | x=>Q7d σ x

section
variable {c:Ctx} {σ τ:Q0a} {β:Nat→Value} {fp:Nat→Nat→Prop} {Sh:Nat→Prop} {a:Act} {w:World}

def Q7g (τ:Q0a) (fp:Nat→Nat→Prop) (ids:List Nat) (b:Nat):Prop:=∃ id ∈ ids,(τ.O id).isSome∧fp id b

theorem Q7h (hs:SR c β fp Sh τ a w) {v:Value} {x:AV} (hv:Q0f w Sh β v x) (hok:Q7b σ x=true) (hO:∀ id ∈ Q5l x,τ.O id=σ.O id) (ids:List Nat) (hids:∀ id ∈ Q5l x,id ∈ ids) :
  Q00 w (fun b=>Sh b∨Q7g τ fp ids b) v (shc σ x):=by
 have base:∀ y,plain y=true→Q0f w Sh β v y→Q00 w (fun b=>Sh b∨Q7g τ fp ids b) v y:=fun y hy h=>by
  cases h with
  | base _ _ h=>exact h.mono (fun _ _=>rfl) (fun _ h=>.inl h)
  | _=>simp [plain] at hy
 cases x with
 | nils=>rw [hv.nils_inv]; exact .sl0 none 0
 | rs id =>
  cases hσ:σ.O id with
  | none=>simp [Q7b,hσ] at hok
  | some ob =>
   cases ob with
   | box cs=>simp [Q7b,hσ] at hok
   | arx _ _ _ _=>simp [Q7b,hσ] at hok
   | ary _=>simp [Q7b,hσ] at hok
   | arr xs =>
    simp only [shc,hσ]
    have hτ:τ.O id=some (.arr xs):=(hO id (by simp [Q5l])).trans hσ
    rw [hv.rs_inv]
    have hown:Q01 w Sh (fp id) (β id) (.osl xs):=hs.ob id _ hτ
    exact hown.share.mono (fun _ _=>rfl) (fun b hb=>hb.imp (fun h=>h) (fun h=>⟨id,hids id (by simp [Q5l]),by rw [hτ]; rfl,h⟩))
 | int k n=>exact base _ rfl hv
 | bool b=>exact base _ rfl hv
 | str s=>exact base _ rfl hv
 | nilp=>exact base _ rfl hv
 | sl xs=>exact base _ rfl hv
 | ptr cs off=>exact base _ rfl hv
 | _=>simp [Q7b,plain] at hok

theorem Q7i (hs:SR c β fp Sh τ a w) {v:Value} {x:AV} (hv:Q0f w Sh β v x) (hok:Q7c σ x=true) (hO:∀ id ∈ Q7d σ x,τ.O id=σ.O id) (ids:List Nat) (hids:∀ id ∈ Q7d σ x,id ∈ ids) :
  Q00 w (fun b=>Sh b∨Q7g τ fp ids b) v (sh1 σ x):=by
 cases x with
 | agg cs =>
  obtain ⟨cc,rfl,hsz,hh⟩:=hv.agg_inv
  simp only [Q7c,List.all_eq_true] at hok
  refine .agg cc _ (by simp; exact hsz) (fun i hi=>?_)
  have hi':i < cs.length:=by simpa using hi
  rw [Q70 _ hi']
  exact Q7h hs (hh i hi') (hok _ (Q5u hi')) (fun id hid=>hO id (List.mem_flatMap.2 ⟨_,Q5u hi',hid⟩)) ids (fun id hid=>hids id (List.mem_flatMap.2 ⟨_,Q5u hi',hid⟩))
 | ra id off =>
  obtain ⟨g,hg,rfl⟩:=hv.ra_inv
  cases hσ:σ.O id with
  | none=>simp [Q7c,hσ] at hok
  | some ob =>
   cases ob with
   | arr xs=>simp [Q7c,hσ] at hok
   | arx _ _ _ _=>simp [Q7c,hσ] at hok
   | ary _=>simp [Q7c,hσ] at hok
   | box cs =>
    simp only [Q7c,hσ,List.all_eq_true] at hok
    simp only [Q7d,hσ] at hO hids
    simp only [sh1,hσ]
    have hτ:τ.O id=some (.box cs):=(hO id List.mem_cons_self).trans hσ
    obtain ⟨g',e,cc,hv',hblk,hsz,hcs,hfp⟩:=hs.ob id _ hτ
    rw [hg] at hv'
    simp only [Value.pointer.injEq,Option.some.injEq,Addr.mk.injEq,and_true] at hv'
    subst hv'
    have:=Q00.ptr (w:=w) (Sh:=fun b=>Sh b∨Q7g τ fp ids b) g 0 (cs.map (shc σ)) off (fun j=>cc.getD j undef) (.inr ⟨id,hids id List.mem_cons_self,by rw [hτ]; rfl,hfp⟩)
     (fun j hj=>by rw [Nat.zero_add]; exact Q07 hblk j (by simp at hj; omega))
     (fun j hj=>by
      have hj':j < cs.length:=by simpa using hj
      rw [Q70 _ hj']
      exact Q7h hs (hcs j hj') (hok _ (Q5u hj')) (fun id' hid=>hO id' (List.mem_cons_of_mem _ (List.mem_flatMap.2 ⟨_,Q5u hj',hid⟩))) ids (fun id' hid=>hids id' (List.mem_cons_of_mem _ (List.mem_flatMap.2 ⟨_,Q5u hj',hid⟩))))
    rwa [Nat.zero_add] at this
 | _=>exact Q7h hs hv hok hO ids hids

theorem Q7j (hs:SR c β fp Sh τ a w) {v:Value} {x:AV} (hv:Q0f w Sh β v x) (hok:Q7e σ x=true) (hO:∀ id ∈ Q7f σ x,τ.O id=σ.O id) (ids:List Nat) (hids:∀ id ∈ Q7f σ x,id ∈ ids) :
  Q00 w (fun b=>Sh b∨Q7g τ fp ids b) v (shv σ x):=by
 cases x with
 | fn f cs =>
  obtain ⟨cc,rfl,hsz,hh⟩:=hv.fn_inv
  simp only [Q7e,List.all_eq_true] at hok
  refine .fn f cc _ (by simp; exact hsz) (fun i hi=>?_)
  have hi':i < cs.length:=by simpa using hi
  rw [Q70 _ hi']
  exact Q7i hs (hh i hi') (hok _ (Q5u hi')) (fun id hid=>hO id (List.mem_flatMap.2 ⟨_,Q5u hi',hid⟩)) ids (fun id hid=>hids id (List.mem_flatMap.2 ⟨_,Q5u hi',hid⟩))
 | fnb f cs =>
  obtain ⟨cc,rfl,hsz,hh⟩:=hv.fnb_inv
  exact .fnb f cc cs hsz (fun i hi=>(hh i hi).mono (fun _ _=>rfl) (fun _ h=>.inl h))
 | _=>exact Q7i hs hv hok hO ids hids
end

mutual
def nl:AV→Nat
 | .osl _=>1
 | .agg cs=>nls cs
 | .tup cs=>nls cs
 | _=>0
def nls:List AV→Nat
 | []=>0
 | x :: xs=>nl x + nls xs
end
mutual
def up:AV→Nat→AV
 | .osl _,k=>.rs k
 | .agg cs,k=>.agg (ups cs k)
 | .tup cs,k=>.tup (ups cs k)
 | x,_=>x
def ups:List AV→Nat→List AV
 | [],_=>[]
 | x :: xs,k=>up x k :: ups xs (k + nl x)
end
mutual
def uo:AV→Nat→List (Nat × List AV)
 | .osl xs,k=>[(k,xs)]
 | .agg cs,k=>uos cs k
 | .tup cs,k=>uos cs k
 | _,_=>[]
def uos:List AV→Nat→List (Nat × List AV)
 | [],_=>[]
 | x :: xs,k=>uo x k ++ uos xs (k + nl x)
end
mutual
theorem Q7k:∀ (x:AV) (k:Nat) (p:Nat × List AV),p ∈ uo x k→k ≤ p.1∧p.1 < k + nl x
 | .osl xs,k,p,h=>by simp only [uo,List.mem_singleton] at h; subst h; simp [nl]
 | .agg cs,k,p,h=>by simp only [uo] at h; simp only [nl]; exact Q7l cs k p h
 | .tup cs,k,p,h=>by simp only [uo] at h; simp only [nl]; exact Q7l cs k p h
 | .undef,_,_,h=>by simp [uo] at h
 | .int _ _,_,_,h=>by simp [uo] at h
 | .bool _,_,_,h=>by simp [uo] at h
 | .str _,_,_,h=>by simp [uo] at h
 | .nils,_,_,h=>by simp [uo] at h
 | .nilp,_,_,h=>by simp [uo] at h
 | .sl _,_,_,h=>by simp [uo] at h
 | .ptr _ _,_,_,h=>by simp [uo] at h
 | .optr _,_,_,h=>by simp [uo] at h
 | .rs _,_,_,h=>by simp [uo] at h
 | .ra _ _,_,_,h=>by simp [uo] at h
 | .ea _ _ _ _,_,_,h=>by simp [uo] at h
 | .cut _ _,_,_,h=>by simp [uo] at h
 | .fn _ _,_,_,h=>by simp [uo] at h
 | .fnb _ _,_,_,h=>by simp [uo] at h
 | .nilq _,_,_,h=>by simp [uo] at h
 | .raw _,_,_,h=>by simp [uo] at h
theorem Q7l:∀ (xs:List AV) (k:Nat) (p:Nat × List AV),p ∈ uos xs k→k ≤ p.1∧p.1 < k + nls xs
 | [],_,_,h=>by simp [uos] at h
 | x :: xs,k,p,h=>by
  simp only [uos,List.mem_append] at h
  simp only [nls]
  rcases h with h | h
  ·have:=Q7k x k p h; omega
  ·have:=Q7l xs (k + nl x) p h; omega
end
theorem Q7m:∀ (xs:List AV) (k:Nat),(ups xs k).length=xs.length
 | [],_=>rfl
 | x :: xs,k=>by simp [ups,Q7m xs]

structure Q7n (w:World) (Sh:Nat→Prop) (S:Nat→Prop) (os:List (Nat × List AV)) (hv:Nat→Value) (F:Nat→Nat→Prop):Prop where
 rep:∀ p ∈ os,Q01 w Sh (F p.1) (hv p.1) (.osl p.2)
 sub:∀ p ∈ os,∀ b,F p.1 b→S b
 dj:∀ p ∈ os,∀ q ∈ os,∀ b,F p.1 b→F q.1 b→p.1=q.1

theorem Q00.oneOf_osl {w:World} {Sh:Nat→Prop} {v:Value} {xs:List AV} (h:Q00 w Sh v (.osl xs)):False:=by cases h

mutual
def Q7o:AV→Bool
 | .optr _=>false
 | .agg cs=>Q7p cs
 | .tup cs=>Q7p cs
 | _=>true
def Q7p:List AV→Bool
 | []=>true
 | x :: xs=>Q7o x && Q7p xs
end

section
variable {w:World} {Sh:Nat→Prop}
theorem Q7q {x:AV} {k:Nat} {S:Nat→Prop} {v:Value} (h:Q00 w Sh v x) (h1:uo x k=[]) (h2:up x k=x) :
  ∃ hv F,Q7n w Sh S (uo x k) hv F∧∀ β,(∀ p ∈ uo x k,β p.1=hv p.1)→Q0f w Sh β v (up x k) :=
 ⟨fun _=>undef,fun _ _=>False,⟨fun p hp=>by rw [h1] at hp; simp at hp,fun p hp=>by rw [h1] at hp; simp at hp,fun p hp=>by rw [h1] at hp; simp at hp⟩,fun β _=>by rw [h2]; exact .base _ _ h⟩
mutual
theorem Q7r:∀ (x:AV) (k:Nat) (S:Nat→Prop) (v:Value),Q01 w Sh S v x→Q7o x=true →
  ∃ hv F,Q7n w Sh S (uo x k) hv F∧∀ β,(∀ p ∈ uo x k,β p.1=hv p.1)→Q0f w Sh β v (up x k)
 | .osl xs,k,S,v,h,_=>⟨fun _=>v,fun _=>S,⟨fun p hp=>by simp only [uo,List.mem_singleton] at hp; subst hp; exact h,fun p hp b hb=>hb,fun p hp q hq b _ _=>by simp only [uo,List.mem_singleton] at hp hq; rw [hp,hq]⟩,
   fun β hβ=>by
    have e:=hβ (k,xs) (by simp [uo])
    have:v.oneCell'=true:=by
     cases h with
     | val _ _ _ h=>cases h
     | osl0=>rfl
     | osl=>rfl
    simp only at e
    simp only [up]
    rw [← e] at this ⊢
    exact .rs k this⟩
 | .agg cs,k,S,v,h,hok=>by
  have hok':Q7p cs=true:=hok
  cases h with
  | val S v x h =>
   cases h with
   | agg c cs hs h =>
    obtain ⟨hv,F,hr,ht⟩:=Q7s cs k (fun _ b=>False) (fun i=>c.getD i undef) (fun i hi=>.val _ _ _ (h i hi)) (fun i i' b _ _ h=>h.elim) hok'
    exact ⟨hv,F,⟨hr.rep,fun p hp b hb=>by obtain ⟨_,_,h⟩:=hr.sub p hp b hb; exact h.elim,hr.dj⟩,fun β hβ=>.agg c _ (by rw [Q7m]; exact hs) (fun i hi=>ht β hβ i (by rwa [Q7m] at hi))⟩
  | agg S c cs Si hs h hS hd =>
   obtain ⟨hv,F,hr,ht⟩:=Q7s cs k Si (fun i=>c.getD i undef) h hd hok'
   exact ⟨hv,F,⟨hr.rep,fun p hp b hb=>by obtain ⟨i,hi,h⟩:=hr.sub p hp b hb; exact hS i b hi h,hr.dj⟩,fun β hβ=>.agg c _ (by rw [Q7m]; exact hs) (fun i hi=>ht β hβ i (by rwa [Q7m] at hi))⟩
 | .tup cs,k,S,v,h,hok=>by
  have hok':Q7p cs=true:=hok
  cases h with
  | val S v x h =>
   cases h with
   | tup c cs hs h =>
    obtain ⟨hv,F,hr,ht⟩:=Q7s cs k (fun _ b=>False) (fun i=>c.getD i undef) (fun i hi=>.val _ _ _ (h i hi)) (fun i i' b _ _ h=>h.elim) hok'
    exact ⟨hv,F,⟨hr.rep,fun p hp b hb=>by obtain ⟨_,_,h⟩:=hr.sub p hp b hb; exact h.elim,hr.dj⟩,fun β hβ=>.tup c _ (by rw [Q7m]; exact hs) (fun i hi=>ht β hβ i (by rwa [Q7m] at hi))⟩
  | tup S c cs Si hs h hS hd =>
   obtain ⟨hv,F,hr,ht⟩:=Q7s cs k Si (fun i=>c.getD i undef) h hd hok'
   exact ⟨hv,F,⟨hr.rep,fun p hp b hb=>by obtain ⟨i,hi,h⟩:=hr.sub p hp b hb; exact hS i b hi h,hr.dj⟩,fun β hβ=>.tup c _ (by rw [Q7m]; exact hs) (fun i hi=>ht β hβ i (by rwa [Q7m] at hi))⟩
 | .optr cs,k,S,v,h,hok=>by simp [Q7o] at hok
 | .undef,k,S,v,h,_=>by cases h with | val _ _ _ h=>exact Q7q h rfl rfl
 | .int _ _,k,S,v,h,_=>by cases h with | val _ _ _ h=>exact Q7q h rfl rfl
 | .bool _,k,S,v,h,_=>by cases h with | val _ _ _ h=>exact Q7q h rfl rfl
 | .str _,k,S,v,h,_=>by cases h with | val _ _ _ h=>exact Q7q h rfl rfl
 | .nils,k,S,v,h,_=>by cases h with | val _ _ _ h=>exact Q7q h rfl rfl
 | .nilp,k,S,v,h,_=>by cases h with | val _ _ _ h=>exact Q7q h rfl rfl
 | .sl _,k,S,v,h,_=>by cases h with | val _ _ _ h=>exact Q7q h rfl rfl
 | .ptr _ _,k,S,v,h,_=>by cases h with | val _ _ _ h=>exact Q7q h rfl rfl
 | .rs _,k,S,v,h,_=>by cases h with | val _ _ _ h=>exact Q7q h rfl rfl
 | .ra _ _,k,S,v,h,_=>by cases h with | val _ _ _ h=>exact Q7q h rfl rfl
 | .ea _ _ _ _,k,S,v,h,_=>by cases h with | val _ _ _ h=>exact Q7q h rfl rfl
 | .cut _ _,k,S,v,h,_=>by cases h with | val _ _ _ h=>exact Q7q h rfl rfl
 | .fn _ _,k,S,v,h,_=>by cases h with | val _ _ _ h=>exact Q7q h rfl rfl
 | .fnb _ _,k,S,v,h,_=>by cases h with | val _ _ _ h=>exact Q7q h rfl rfl
 | .nilq _,k,S,v,h,_=>by cases h with | val _ _ _ h=>exact Q7q h rfl rfl
 | .raw _,k,S,v,h,_=>by cases h with | val _ _ _ h=>exact Q7q h rfl rfl
theorem Q7s:∀ (xs:List AV) (k:Nat) (Si:Nat→Nat→Prop) (g:Nat→Value),(∀ i,i < xs.length→Q01 w Sh (Si i) (g i) (av xs i))→(∀ i i' b,i < xs.length→i' < xs.length→Si i b→Si i' b→i=i')→Q7p xs=true →
  ∃ hv F,Q7n w Sh (fun b=>∃ i,i < xs.length∧Si i b) (uos xs k) hv F∧∀ β,(∀ p ∈ uos xs k,β p.1=hv p.1)→∀ i,i < xs.length→Q0f w Sh β (g i) (av (ups xs k) i)
 | [],k,_,_,_,_,_=>⟨fun _=>undef,fun _ _=>False,⟨fun p hp=>by simp [uos] at hp,fun p hp=>by simp [uos] at hp,fun p hp=>by simp [uos] at hp⟩,fun β _ i hi=>by simp at hi⟩
 | x :: xs,k,Si,g,h,hd,hok=>by
  have hok:Q7o x=true∧Q7p xs=true:=by simpa [Q7p] using hok
  obtain ⟨hv1,F1,r1,t1⟩:=Q7r x k (Si 0) (g 0) (h 0 (by simp)) hok.1
  obtain ⟨hv2,F2,r2,t2⟩:=Q7s xs (k + nl x) (fun i=>Si (i + 1)) (fun i=>g (i + 1)) (fun i hi=>h (i + 1) (by simp; omega)) (fun i i' b hi hi' h1 h2=>by have:=hd (i + 1) (i' + 1) b (by simp; omega) (by simp; omega) h1 h2; omega) hok.2
  have in1:∀ p ∈ uo x k,p.1 < k + nl x:=fun p hp=>(Q7k x k p hp).2
  have in2:∀ p ∈ uos xs (k + nl x),¬ p.1 < k + nl x:=fun p hp=>by have:=(Q7l xs (k + nl x) p hp).1; omega
  refine ⟨fun q=>if q < k + nl x then hv1 q else hv2 q,fun q=>if q < k + nl x then F1 q else F2 q,⟨fun p hp=>?_,fun p hp b hb=>?_,fun p hp q hq b hb1 hb2=>?_⟩,fun β hβ i hi=>?_⟩
  ·simp only [uos,List.mem_append] at hp
   rcases hp with hp | hp
   ·simp only [if_pos (in1 p hp)]; exact r1.rep p hp
   ·simp only [if_neg (in2 p hp)]; exact r2.rep p hp
  ·simp only [uos,List.mem_append] at hp
   rcases hp with hp | hp
   ·simp only [if_pos (in1 p hp)] at hb; exact ⟨0,by simp,r1.sub p hp b hb⟩
   ·simp only [if_neg (in2 p hp)] at hb
    obtain ⟨i,hi,h'⟩:=r2.sub p hp b hb
    exact ⟨i + 1,by simp; omega,h'⟩
  ·simp only [uos,List.mem_append] at hp hq
   rcases hp with hp | hp <;> rcases hq with hq | hq
   ·simp only [if_pos (in1 p hp)] at hb1; simp only [if_pos (in1 q hq)] at hb2; exact r1.dj p hp q hq b hb1 hb2
   ·simp only [if_pos (in1 p hp)] at hb1; simp only [if_neg (in2 q hq)] at hb2
    have h1:=r1.sub p hp b hb1
    obtain ⟨i,hi,h2⟩:=r2.sub q hq b hb2
    have:=hd 0 (i + 1) b (by simp) (by simp; omega) h1 h2
    omega
   ·simp only [if_neg (in2 p hp)] at hb1; simp only [if_pos (in1 q hq)] at hb2
    have h1:=r1.sub q hq b hb2
    obtain ⟨i,hi,h2⟩:=r2.sub p hp b hb1
    have:=hd 0 (i + 1) b (by simp) (by simp; omega) h1 h2
    omega
   ·simp only [if_neg (in2 p hp)] at hb1; simp only [if_neg (in2 q hq)] at hb2; exact r2.dj p hp q hq b hb1 hb2
  ·cases i with
   | zero =>
    refine t1 β (fun p hp=>?_)
    rw [hβ p (by simp [uos,hp])]
    simp only [if_pos (in1 p hp)]
   | succ i =>
    have:=t2 β (fun p hp=>by
     rw [hβ p (by simp [uos,hp])]
     simp only [if_neg (in2 p hp)]) i (by simp at hi; omega)
    exact this
end
end

end Go.Am
