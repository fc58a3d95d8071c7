/- Own variables, handed over by a pointer: as one has them who gets them. -/
import Derived.Test.YtifijafaaljamaaDoorAmO
set_option linter.unusedSimpArgs false
set_option linter.unusedVariables false
namespace Go.Am
open Go.RowKit

def upa:AV→Nat→AV
 | .optr _,k=>.ra k 0
 | x,k=>up x k
def uoa:AV→Nat→List (Nat × Q0c)
 | .optr cs,k=>(k,.box (ups cs (k + 1))) :: (uos cs (k + 1)).map fun p=>(p.1,.arr p.2)
 | x,k=>(uo x k).map fun p=>(p.1,.arr p.2)
def nla:AV→Nat
 | .optr cs=>1 + nls cs
 | x=>nl x
def Q86:AV→Bool
 | .optr cs=>Q7s cs
 | x=>Q7r x

theorem Q87 (x:AV) (h:Q86 x=true) (k:Nat) (p:Nat × Q0c) (hp:p ∈ uoa x k):k ≤ p.1∧p.1 < k + nla x:=by
 cases x with
 | optr cs =>
  simp only [uoa,List.mem_cons,List.mem_map] at hp
  simp only [nla]
  rcases hp with rfl | ⟨q,hq,rfl⟩
  ·simp; omega
  ·have:=Q7o cs (k + 1) q hq; simp; omega
 | _ =>
  simp only [uoa,List.mem_map] at hp
  obtain ⟨q,hq,rfl⟩:=hp
  exact Q7n _ k q hq

structure Q88 (w:World) (Sh:Nat→Prop) (S:Nat→Prop) (os:List (Nat × Q0c)) (hv:Nat→Value) (F:Nat→Nat→Prop):Prop where
 rep:∀ p ∈ os,∀ β,(∀ q ∈ os,β q.1=hv q.1)→Q0m w Sh β (F p.1) (hv p.1) p.2
 sub:∀ p ∈ os,∀ b,F p.1 b→S b
 dj:∀ p ∈ os,∀ q ∈ os,∀ b,F p.1 b→F q.1 b→p.1=q.1

theorem Q89 {w:World} {Sh S:Nat→Prop} {v:Value} (x:AV) (k:Nat) (h:Q04 w Sh S v x) (hok:Q86 x=true) :
  ∃ hv F,Q88 w Sh S (uoa x k) hv F∧∀ β,(∀ p ∈ uoa x k,β p.1=hv p.1)→Q0i w Sh β v (upa x k):=by
 have other:Q7r x=true→uoa x k=(uo x k).map (fun p=>(p.1,.arr p.2))→upa x k=up x k→∃ hv F,Q88 w Sh S (uoa x k) hv F∧∀ β,(∀ p ∈ uoa x k,β p.1=hv p.1)→Q0i w Sh β v (upa x k):=by
  intro hok e1 e2
  obtain ⟨hv,F,hr,ht⟩:=Q7u x k S v h hok
  refine ⟨hv,F,⟨fun p hp β _=>?_,fun p hp=>?_,fun p hp q hq=>?_⟩,fun β hβ=>?_⟩
  ·rw [e1] at hp; obtain ⟨p',hp',rfl⟩:=List.mem_map.1 hp; exact hr.rep p' hp'
  ·rw [e1] at hp; obtain ⟨p',hp',rfl⟩:=List.mem_map.1 hp; exact hr.sub p' hp'
  ·rw [e1] at hp hq
   obtain ⟨p',hp',rfl⟩:=List.mem_map.1 hp
   obtain ⟨q',hq',rfl⟩:=List.mem_map.1 hq
   exact hr.dj p' hp' q' hq'
  ·rw [e2]
   exact ht β (fun p hp=>hβ (p.1,.arr p.2) (by rw [e1]; exact List.mem_map.2 ⟨p,hp,rfl⟩))
 cases x with
 | optr cs =>
  have hok':Q7s cs=true:=hok
  cases h with
  | val S v x h=>cases h
  | optr S g e cur cs Si hg hs h hSg hS hd =>
   obtain ⟨hv,F,hr,ht⟩:=Q7v cs (k + 1) Si (fun i=>cur.getD i undef) h hd hok'
   have hne:∀ p ∈ uos cs (k + 1),p.1 ≠ k:=fun p hp=>by have:=Q7o cs (k + 1) p hp; omega
   refine ⟨fun j=>if j=k then .pointer (some ⟨g,0,none⟩) else hv j,fun j=>if j=k then (fun b=>b=g) else F j,⟨fun p hp β hβ=>?_,fun p hp b hb=>?_,fun p hp q hq b hb1 hb2=>?_⟩,fun β hβ=>?_⟩
   ·simp only [uoa,List.mem_cons,List.mem_map] at hp
    rcases hp with rfl | ⟨q,hq,rfl⟩
    ·simp only [if_true]
     refine ⟨g,e,cur,rfl,hg,by rw [Q7p]; exact hs,fun i hi=>?_,rfl⟩
     refine ht β (fun q hq=>?_) i (by rwa [Q7p] at hi)
     have:=hβ (q.1,.arr q.2) (by simp only [uoa,List.mem_cons,List.mem_map]; exact .inr ⟨q,hq,rfl⟩)
     simp only [if_neg (hne q hq)] at this
     exact this
    ·simp only [if_neg (hne q hq)]
     exact hr.rep q hq
   ·simp only [uoa,List.mem_cons,List.mem_map] at hp
    rcases hp with rfl | ⟨q,hq,rfl⟩
    ·simp only [if_true] at hb; subst hb; exact hSg
    ·simp only [if_neg (hne q hq)] at hb
     obtain ⟨i,hi,h2⟩:=hr.sub q hq b hb
     exact (hS i b hi h2).1
   ·simp only [uoa,List.mem_cons,List.mem_map] at hp hq
    rcases hp with rfl | ⟨p',hp',rfl⟩ <;> rcases hq with rfl | ⟨q',hq',rfl⟩
    ·rfl
    ·simp only [if_true] at hb1
     simp only [if_neg (hne q' hq')] at hb2
     subst hb1
     obtain ⟨i,hi,h2⟩:=hr.sub q' hq' b hb2
     exact absurd rfl (hS i b hi h2).2
    ·simp only [if_true] at hb2
     simp only [if_neg (hne p' hp')] at hb1
     subst hb2
     obtain ⟨i,hi,h2⟩:=hr.sub p' hp' b hb1
     exact absurd rfl (hS i b hi h2).2
    ·simp only [if_neg (hne p' hp')] at hb1
     simp only [if_neg (hne q' hq')] at hb2
     exact hr.dj p' hp' q' hq' b hb1 hb2
   ·have:=hβ (k,.box (ups cs (k + 1))) (by simp [uoa])
    simp only [if_true] at this
    exact .ra k 0 g this
 | _=>exact other hok rfl rfl
end Go.Am
