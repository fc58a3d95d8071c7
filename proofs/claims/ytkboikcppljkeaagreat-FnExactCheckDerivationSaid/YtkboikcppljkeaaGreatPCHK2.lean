/- Plain laws of the printed functions. -/
import Derived.Test.YtkboikcppljkeaaGreatPCHK1
set_option linter.unusedSimpArgs false
set_option linter.unusedVariables false
namespace Go.Am
theorem V26 {s:K00} {l:List K02} (sy:Ku8 s=true) (hz:sms s ≤ 1048576) (hl:V1w l ≤ 1048576) (hj:∀ v ∈ l,jln v):∀ (d i:Nat),i + d=l.length→∃ r:Unit ⊕ Int,Khh (s,l,(i:Int))=some r∧Kor (s,l,(i:Int))=some r:=by
 intro d
 induction d with
 | zero =>
  intro i hi
  rw [Khh.eq_def,Kor.eq_def]
  simp only
  rw [Kqf (by omega)]
  exact ⟨.inl (),rfl,rfl⟩
 | succ d ih =>
  intro i hi
  obtain ⟨b,q1,q2⟩:=V24 sy hz hl hj (i:=i) (by omega)
  have hl':=hl
  unfold V1w at hl'
  rw [Khh.eq_def,Kor.eq_def]
  simp only
  rw [Kqe (by omega),if_pos rfl,if_pos rfl,q1,q2,bs,bs]
  cases b with
  | false=>exact ⟨.inr (i:Int),rfl,rfl⟩
  | true =>
   rw [if_pos rfl,if_pos rfl,Kqd (by omega)]
   exact ih (i + 1) (by omega)
theorem V27 (x0:K00) (x1:List K02) (b0:sms x0 ≤ 1048576) (b1:V1w x1 ≤ 1048576) (h1:x1.length ≤ 9223372036854775807∧∀ v ∈ x1,jln v) :
  ∃ w0,Khk (x0,x1)=some w0∧Kow (x0,x1)=some w0:=by
 unfold Khk Kow
 simp only
 by_cases hn:x1=[]
 ·subst hn
  rw [Khh.eq_def]
  exact ⟨0,rfl,rfl⟩
 ·have hlen:0 < x1.length:=List.length_pos_iff.2 hn
  have hne:((x1.length:Int) == 0)=false:=beq_eq_false_iff_ne.2 (by omega)
  rw [hne,if_neg (by decide),if_neg (by decide),Kub,bs,bs]
  cases sy:Ku8 x0 with
  | false =>
   have q:=V25 sy b0 b1 h1.2 (i:=0) hlen
   rw [show ((0:Nat):Int)=0 from rfl] at q
   rw [Khh.eq_def]
   simp only
   rw [decide_eq_true (by omega),if_pos rfl,q,bs]
   exact ⟨0,rfl,rfl⟩
  | true =>
   obtain ⟨r,q1,q2⟩:=V26 sy b0 b1 h1.2 x1.length 0 (by omega)
   rw [show ((0:Nat):Int)=0 from rfl] at q1 q2
   rw [q1,q2]
   cases r with
   | inl u=>exact ⟨-1,rfl,rfl⟩
   | inr r=>exact ⟨r,rfl,rfl⟩
theorem V28 (x0:K00) (x1:List K02) (hx0:sln x0) (hx1:(x1.length ≤ 9223372036854775807∧∀ v ∈ x1,jln v)):Kq8 (x0,x1)=some true:=by
 unfold Kq8
 simp only
 rw [Kv6 x0 (1048576) hx0 (by omega) (by omega),bs]
 rcases Ktj (1048576) (sms x0) with ⟨e0,l0⟩ | ⟨e0,l0⟩
 ·rw [e0]; rfl
 ·rw [e0,decide_eq_false (by omega),if_neg (by decide)]
  rw [V1z x1 (1048576 - (sms x0:Int)) hx1 (by omega) (by omega),bs]
  rcases Ktj (1048576 - (sms x0:Int)) (V1w x1) with ⟨e1,l1⟩ | ⟨e1,l1⟩
  ·rw [e1]; rfl
  ·rw [e1,decide_eq_false (by omega),if_neg (by decide)]
   have bx0:sms x0 ≤ 1048576:=by omega
   have bx1:V1w x1 ≤ 1048576:=by omega
   obtain ⟨w0,s1,s2⟩:=V27 x0 x1 bx0 bx1 hx1
   simp only [s1,s2,bs,Kv7 (s:=x0) (by omega),Kv8 (s:=x0) (by omega),V21 x1 (by omega),V23 x1 (by omega),Kvb,if_true,if_false,Bool.false_eq_true,Kql,Bool.not_true,Bool.not_false,Kvf,beq_self_eq_true]
end Go.Am
