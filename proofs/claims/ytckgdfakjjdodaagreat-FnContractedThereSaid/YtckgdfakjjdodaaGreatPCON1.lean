/- Plain laws of the printed functions. -/
import Derived.Test.YtckgdfakjjdodaaGreatPCON0
set_option linter.unusedSimpArgs false
set_option linter.unusedVariables false
namespace Go.Am
mutual
def put (u:K00):Int→K00→K00
 | d,⟨op,N,ty,ks⟩=>if op == 0 && N == d then shf d 0 u else ⟨op,if op == 0 && decide (N > d) then N - 1 else N,ty,Kv7 u op d 0 ks⟩
def Kv7 (u:K00):Int→Int→Nat→List K00→List K00
 | _,_,_,[]=>[]
 | op,d,j,k :: ks=>put u (d + ((Kr3 op (j:Int):Nat):Int)) k :: Kv7 u op d (j + 1) ks
end
mutual
def uses:Int→K00→Nat
 | i,⟨op,N,_,ks⟩=>if op == 0 then (if N == i then 1 else 0) else Kv8 op i 0 ks
def Kv8:Int→Int→Nat→List K00→Nat
 | _,_,_,[]=>0
 | op,i,j,k :: ks=>uses (i + ((Kr3 op (j:Int):Nat):Int)) k + Kv8 op i (j + 1) ks
end
mutual
theorem Kv9:∀ (t:K00) (i:Int),uses i t ≤ tsz t
 | ⟨op,N,ty,ks⟩,i=>by
  rw [uses,tsz]
  have:=Kva ks op i 0
  split
  ·split <;> omega
  ·omega
theorem Kva:∀ (ks:List K00) (op i:Int) (j:Nat),Kv8 op i j ks ≤ Kqj ks
 | [],op,i,j=>by rw [Kv8]; omega
 | k :: ks,op,i,j=>by
  rw [Kv8,Kqj]
  have:=Kv9 k (i + ((Kr3 op (j:Int):Nat):Int))
  have:=Kva ks op i (j + 1)
  omega
end
theorem Kvb {g:Int→Bool} {y:List Int→Bool} {n:Nat} {op N:Int} {ty:List Int} {ks:List K00} (h:tOk g y n ⟨op,N,ty,ks⟩=true) (h0:op=0):ks=[]∧ty=[]∧0 ≤ N∧N < n:=by
 subst h0
 rw [Kv2,Bool.and_eq_true] at h
 have h1:=h.1
 simp only [Kr9,Kr7,Kr8,Bool.and_eq_true,show Kqt 0=0 from rfl,show Kqv 0=false from rfl,show ((0:Int) == 0)=true from rfl,if_true,Bool.false_eq_true,if_false] at h1
 have h2:=h1.1.2
 unfold inB at h2
 simp only [Bool.and_eq_true,decide_eq_true_eq] at h2
 exact ⟨Kv1 h1.1.1.2,Kv1 h1.2,by omega,by omega⟩
mutual
theorem Kvc:∀ (t:K00) (i:Int),tsz t ≤ 1048576→0 ≤ i→i + 2 * tsz t ≤ 1099511627776→Knn (t,i)=some ((uses i t:Nat):Int)
 | ⟨op,N,ty,ks⟩,i,hs,h0,h1=>by
  rw [tsz] at hs h1
  rw [Knn.eq_def,uses]
  simp only
  cases h:op == 0
  ·have h2:=Kvd ks ⟨op,N,ty,ks⟩ i 0 0 rfl (by omega) h0 (by omega) (by have:=Ks1 ks; simp only; omega)
   rw [show ((0:Nat):Int)=0 from rfl] at h2
   rw [if_neg (by decide),if_neg (by decide),h2,bs,Nat.zero_add]
  ·cases N == i <;> rfl
theorem Kvd:∀ (ks:List K00) (t:K00) (i:Int) (n j:Nat),t.fKids.drop j=ks→n + Kqj ks ≤ 1048576→0 ≤ i→i + 2 * Kqj ks + 2 ≤ 1099511627776→t.fKids.length ≤ 1048576→Kno (t,i,(n:Int),(j:Int))=some (((n + Kv8 t.fOp i j ks:Nat)):Int)
 | [],t,i,n,j,hd,hs,h0,h1,hk=>by
  rw [Kno.eq_def,Kv8]
  simp only
  rw [Koq (Kpo hd)]; rfl
 | k :: ks,t,i,n,j,hd,hs,h0,h1,hk=>by
  obtain ⟨hi,hx,hd'⟩:=Kpn hd
  rw [Kqj] at hs h1
  have ha:=Kr4 t.fOp (j:Int)
  have hp:=Kqm k
  have hu:=Kv9 k (i + ((Kr3 t.fOp (j:Int):Nat):Int))
  rw [Kno.eq_def,Kv8]
  simp only
  rw [Kop hi,if_pos rfl,hx,bs,Kr5,bs,Kom (x:=i + ((Kr3 t.fOp (j:Int):Nat):Int)) (by omega) (by omega),Kvc k _ (by omega) (by omega) (by omega),bs,Kt2 (by omega) (by omega),Koo (by omega),Kvd ks t i _ (j + 1) hd' (by omega) h0 (by omega) hk,Nat.add_assoc]
end
mutual
theorem Kve (b:Int):∀ (t:K00) (f:Int),tsz (shf b f t)=tsz t
 | ⟨op,N,ty,ks⟩,f=>by rw [shf,tsz,tsz,Kvf b ks]
theorem Kvf (b:Int):∀ (ks:List K00) (op f:Int) (i:Nat),Kqj (Ktc b op f i ks)=Kqj ks
 | [],op,f,i=>by rw [Ktc]
 | k :: ks,op,f,i=>by rw [Ktc,Kqj,Kqj,Kve b k,Kvf b ks]
end
theorem Kvg (g:Int→Bool) (y:List Int→Bool) (n m:Int) (op N:Int) (ty:List Int) (ks js:List K00) (h0:(op == 0)=false) (hl:ks.length=js.length):Kr9 g y n ⟨op,N,ty,ks⟩=Kr9 g y m ⟨op,N,ty,js⟩:=by
 unfold Kr9 Kr7 Kr8
 simp only [h0,hl]
 rfl
theorem Kvh (g:Int→Bool) (y:List Int→Bool) (n:Nat) (N:Int) (h:0 ≤ N∧N < n):tOk g y n ⟨0,N,[],[]⟩=true:=by
 rw [Kv2,Kv4]
 unfold Kr9 Kr7 Kr8
 simp only [show inB 0 0 12=true from rfl,show Kqt 0=0 from rfl,show Kqv 0=false from rfl,show ((0:Int) == 0)=true from rfl,if_true,Bool.false_eq_true,if_false]
 unfold inB
 rw [decide_eq_true (by omega:N ≥ 0),decide_eq_true (by omega:N ≤ (n:Int) - 1)]
 rfl
mutual
theorem Kvi (g:Int→Bool) (y:List Int→Bool) (b:Nat):∀ (t:K00) (n:Nat) (f:Int),tOk g y n t=true→tOk g y (n + b) (shf (b:Int) f t)=true
 | ⟨op,N,ty,ks⟩,n,f,h=>by
  rw [shf]
  cases h0:op == 0
  ·rw [Kv2,Bool.and_eq_true] at h
   rw [Kv2,Bool.false_and,if_neg (by decide),Kvg g y _ (n:Int) op N ty _ ks h0 (Ktf (b:Int) ks op f 0),h.1,Kvj g y b ks op n 0 f h.2]; rfl
  ·have h0:=eq_of_beq h0
   obtain ⟨rfl,rfl,h1,h2⟩:=Kvb h h0
   subst h0
   rw [Ktc]
   refine Kvh g y _ _ ?_
   split <;> omega
theorem Kvj (g:Int→Bool) (y:List Int→Bool) (b:Nat):∀ (ks:List K00) (op:Int) (n i:Nat) (f:Int),Kra g y op n i ks=true→Kra g y op (n + b) i (Ktc (b:Int) op f i ks)=true
 | [],op,n,i,f,h=>by rw [Ktc,Kv4]
 | k :: ks,op,n,i,f,h=>by
  rw [Kv3,Bool.and_eq_true] at h
  rw [Ktc,Kv3,Kvj g y b ks op n (i + 1) f h.2,show n + b + Kr3 op (i:Int)=n + Kr3 op (i:Int) + b by omega,Kvi g y b k _ _ h.1]; rfl
end
theorem Kvk (u:K00):∀ (ks:List K00) (op d:Int) (i:Nat),(Kv7 u op d i ks).length=ks.length
 | [],op,d,i=>by rw [Kv7]
 | k :: ks,op,d,i=>by rw [Kv7,List.length_cons,List.length_cons,Kvk u ks]
mutual
theorem Kvl {g:Int→Bool} {y:List Int→Bool} {m:Nat} {u:K00} (hu:tOk g y m u=true):∀ (t:K00) (d:Nat),tOk g y (m + d + 1) t=true→tOk g y (m + d) (put u (d:Int) t)=true
 | ⟨op,N,ty,ks⟩,d,h=>by
  rw [put]
  cases h0:op == 0
  ·rw [Bool.false_and,Bool.false_and,if_neg (by decide),if_neg (by decide)]
   rw [Kv2,Bool.and_eq_true] at h
   rw [Kv2,Kvg g y _ ((m + d + 1:Nat):Int) op N ty _ ks h0 (Kvk u ks op d 0),h.1,Kvm hu ks op d 0 h.2]; rfl
  ·have h0:=eq_of_beq h0
   obtain ⟨rfl,rfl,h1,h2⟩:=Kvb h h0
   subst h0
   rw [Bool.true_and]
   by_cases e:N=(d:Int)
   ·rw [e,if_pos (by simp)]
    exact Kvi g y d u m 0 hu
   ·rw [if_neg (by simpa using e),Kv7]
    refine Kvh g y _ _ ?_
    by_cases hg:N > (d:Int)
    ·rw [decide_eq_true hg,Bool.and_self,if_pos rfl]; omega
    ·rw [decide_eq_false hg,Bool.and_false,if_neg (by decide)]; omega
theorem Kvm {g:Int→Bool} {y:List Int→Bool} {m:Nat} {u:K00} (hu:tOk g y m u=true):∀ (ks:List K00) (op:Int) (d i:Nat),Kra g y op (m + d + 1) i ks=true→Kra g y op (m + d) i (Kv7 u op (d:Int) i ks)=true
 | [],op,d,i,h=>by rw [Kv7,Kv4]
 | k :: ks,op,d,i,h=>by
  rw [Kv3,Bool.and_eq_true] at h
  have h1:=Kvl hu k (d + Kr3 op (i:Int)) (by rw [← Nat.add_assoc,Nat.add_right_comm _ _ 1]; exact h.1)
  rw [Kv7,Kv3,Kvm hu ks op d (i + 1) h.2,show m + d + Kr3 op (i:Int)=m + (d + Kr3 op (i:Int)) by omega]
  rw [show ((d + Kr3 op (i:Int):Nat):Int)=(d:Int) + ((Kr3 op (i:Int):Nat):Int) by omega] at h1
  rw [h1]; rfl
end
mutual
theorem Kvn {g:Int→Bool} {y:List Int→Bool} (u:K00):∀ (t:K00) (n:Nat) (d:Int),tOk g y n t=true→tsz (put u d t) + uses d t=tsz t + uses d t * tsz u
 | ⟨op,N,ty,ks⟩,n,d,h=>by
  rw [put,uses]
  cases h0:op == 0
  ·rw [Kv2,Bool.and_eq_true] at h
   have:=Kvo u ks op n 0 d h.2
   simp only [Bool.false_and,Bool.false_eq_true,if_false,tsz]; omega
  ·have h0:=eq_of_beq h0
   obtain ⟨rfl,rfl,h1,h2⟩:=Kvb h h0
   cases he:N == d
   ·simp only [Bool.and_false,Bool.true_and,Bool.false_eq_true,if_false,if_true,Kv7,tsz,Kqj]; omega
   ·simp only [Bool.and_true,Bool.true_and,Bool.false_eq_true,if_false,if_true,Kve,tsz,Kqj]; omega
theorem Kvo {g:Int→Bool} {y:List Int→Bool} (u:K00):∀ (ks:List K00) (op:Int) (n i:Nat) (d:Int),Kra g y op n i ks=true→Kqj (Kv7 u op d i ks) + Kv8 op d i ks=Kqj ks + Kv8 op d i ks * tsz u
 | [],op,n,i,d,h=>by rw [Kv7,Kv8]; omega
 | k :: ks,op,n,i,d,h=>by
  rw [Kv3,Bool.and_eq_true] at h
  have h1:=Kvn u k _ (d + ((Kr3 op (i:Int):Nat):Int)) h.1
  have h2:=Kvo u ks op n (i + 1) d h.2
  rw [Kv7,Kv8,Kqj,Kqj,Nat.add_mul]; omega
end
mutual
theorem Kvp:∀ (w:K00) (f d:Int),0 ≤ d→uses (f + d) (shf d f (shf 1 f w))=0
 | ⟨op,N,ty,ks⟩,f,d,hd=>by
  rw [shf,shf,uses]
  cases h0:op == 0
  ·rw [if_neg (by decide)]; exact Kvq ks op f d 0 hd
  ·rw [if_pos rfl,Bool.true_and,Bool.true_and]
   have:((if decide ((if decide (N ≥ f)=true then N + 1 else N) ≥ f)=true then (if decide (N ≥ f)=true then N + 1 else N) + d else if decide (N ≥ f)=true then N + 1 else N) == f + d)=false:=by
    rw [beq_eq_false_iff_ne]
    by_cases hN:N ≥ f
    ·simp only [decide_eq_true hN,if_true,decide_eq_true (by omega:N + 1 ≥ f)]; omega
    ·simp only [decide_eq_false hN,Bool.false_eq_true,if_false]; omega
   rw [this]; rfl
theorem Kvq:∀ (ks:List K00) (op f d:Int) (i:Nat),0 ≤ d→Kv8 op (f + d) i (Ktc d op f i (Ktc 1 op f i ks))=0
 | [],op,f,d,i,hd=>by rw [Ktc,Ktc,Kv8]
 | k :: ks,op,f,d,i,hd=>by
  rw [Ktc,Ktc,Kv8,Kvq ks op f d (i + 1) hd,show f + d + ((Kr3 op (i:Int):Nat):Int)=f + ((Kr3 op (i:Int):Nat):Int) + d by omega,Kvp k _ d hd]
end
mutual
theorem Kvr {g:Int→Bool} {y:List Int→Bool} (w:K00):∀ (t:K00) (n:Nat) (d:Int),0 ≤ d→tOk g y n t=true→uses d (put (shf 1 0 w) d t)=uses (d + 1) t
 | ⟨op,N,ty,ks⟩,n,d,hd,h=>by
  rw [put]
  cases h0:op == 0
  ·rw [Kv2,Bool.and_eq_true] at h
   rw [Bool.false_and,if_neg (by decide),uses,uses,h0,if_neg (by decide),if_neg (by decide)]
   exact Kvs w ks op n 0 d hd h.2
  ·have h0':=eq_of_beq h0
   obtain ⟨rfl,rfl,h1,h2⟩:=Kvb h h0'
   rw [Bool.true_and,uses,h0,if_pos rfl]
   by_cases e:N=d
   ·have:=Kvp w 0 d hd
    rw [Int.zero_add] at this
    rw [e,if_pos (by simp),this,if_neg (by rw [beq_iff_eq]; omega)]
   ·rw [if_neg (by simpa using e),uses,h0,if_pos rfl,Bool.true_and]
    have:((if decide (N > d)=true then N - 1 else N) == d)=(N == d + 1):=by
     by_cases hg:N > d
     ·rw [decide_eq_true hg,if_pos rfl,Bool.eq_iff_iff,beq_iff_eq,beq_iff_eq]; omega
     ·rw [decide_eq_false hg,if_neg (by decide),Bool.eq_iff_iff,beq_iff_eq,beq_iff_eq]; omega
    rw [this]
theorem Kvs {g:Int→Bool} {y:List Int→Bool} (w:K00):∀ (ks:List K00) (op:Int) (n i:Nat) (d:Int),0 ≤ d→Kra g y op n i ks=true→Kv8 op d i (Kv7 (shf 1 0 w) op d i ks)=Kv8 op (d + 1) i ks
 | [],op,n,i,d,hd,h=>by rw [Kv7,Kv8,Kv8]
 | k :: ks,op,n,i,d,hd,h=>by
  rw [Kv3,Bool.and_eq_true] at h
  rw [Kv7,Kv8,Kv8,Kvs w ks op n (i + 1) d hd h.2,Kvr w k _ _ (by omega) h.1,show d + ((Kr3 op (i:Int):Nat):Int) + 1=d + 1 + ((Kr3 op (i:Int):Nat):Int) by omega]
end
mutual
theorem Kvt {g:Int→Bool}:∀ (t:K00) (n:Nat),tOk g wtB n t=true→tms t + 3 ≤ 43 * tsz t + 3∧t.fKids.length ≤ 3
 | ⟨op,N,ty,ks⟩,n,h=>by
  obtain ⟨h1,h2⟩:=Krq h
  have h3:=(Krr h1).2
  have h4:=Krv h1
  have h5:=Kvu ks op n 0 h2
  have h6:Kqt op ≤ 3:=by rcases Kqx h4.1 with h | h | h | h | h | h | h | h | h | h | h | h | h <;> (simp only at h; subst h; decide)
  have h7:=h4.2
  simp only at h3 h7 ⊢
  rw [tms,tsz]; omega
theorem Kvu {g:Int→Bool}:∀ (ks:List K00) (op:Int) (n i:Nat),Kra g wtB op n i ks=true→Kqk ks ≤ 43 * Kqj ks
 | [],op,n,i,h=>by rw [Kqk]; omega
 | k :: ks,op,n,i,h=>by
  rw [Kv3,Bool.and_eq_true] at h
  have h1:=(Kvt k _ h.1).1
  have h2:=Kvu ks op n (i + 1) h.2
  rw [Kqk,Kqj]; omega
end
mutual
theorem Kvv {g:Int→Bool} {y:List Int→Bool} (b fr:Int) (hb:0 ≤ b∧b ≤ 1099511627776) (hf:0 ≤ fr∧fr ≤ 1099511627776):∀ (t:K00) (n:Nat) (d:Int),tOk g y n t=true→tms t ≤ 1099511627776→0 ≤ d→d + 2 * tsz t ≤ 35184372088832→n + 2 * tsz t ≤ 35184372088832 →
  Kkn (t,d,fr,b)=some (shf b (fr + d) t)
 | ⟨op,N,ty,ks⟩,n,d,h,hm,h0,h1,h2=>by
  rw [tms] at hm
  rw [tsz] at h1 h2
  rw [Kkn.eq_def,shf]
  simp only
  cases hop:op == 0
  ·rw [Kv2,Bool.and_eq_true] at h
   rw [if_neg (by decide),Ks6 ty (by omega),bs,show (0:Int)=((0:Nat):Int) from rfl,Kvw b fr hb hf ks ⟨op,N,ty,ks⟩ n d 0 ty [] rfl h.2 (by simp only; omega) (by omega) h0 (by omega) (by omega) rfl,bs]; rfl
  ·have hop:=eq_of_beq hop
   obtain ⟨rfl,rfl,q1,q2⟩:=Kvb h hop
   subst hop
   rw [if_pos rfl,Ktc]
   unfold Kkj
   simp only
   rw [Kom (x:=N - d) (by omega) (by omega),Kom (x:=N + b) (by omega) (by omega),decide_eq_decide.2 (by omega:N - d ≥ fr ↔ N ≥ fr + d)]
   refine (Kqi (x:=⟨0,if decide (N ≥ fr + d) then N + b else N,[],[]⟩) ?_).trans rfl
   refine (Kqi (x:=if decide (N ≥ fr + d) then N + b else N) ?_).trans ?_
   ·cases decide (N ≥ fr + d) <;> rfl
   ·rw [Kt9 _ (by rw [tms,Kqk]; simp)]; rfl
theorem Kvw {g:Int→Bool} {y:List Int→Bool} (b fr:Int) (hb:0 ≤ b∧b ≤ 1099511627776) (hf:0 ≤ fr∧fr ≤ 1099511627776):∀ (ks:List K00) (t:K00) (n:Nat) (d:Int) (i:Nat) (r:List Int) (out:List K00),t.fKids.drop i=ks→Kra g y t.fOp n i ks=true →
  t.fKids.length ≤ 1099511627776→Kqk ks ≤ 1099511627776→0 ≤ d→d + 2 * Kqj ks + 2 ≤ 35184372088832→n + 2 * Kqj ks + 2 ≤ 35184372088832→out.length=i→Kko (t,d,fr,b,r,out,(i:Int))=some (out ++ Ktc b t.fOp (fr + d) i ks)
 | [],t,n,d,i,r,out,hd,hw,hk,hm,h0,h1,h2,ho=>by
  rw [Kko.eq_def,Ktc]
  simp only
  rw [Koq (Kpo hd),List.append_nil]; rfl
 | k :: ks,t,n,d,i,r,out,hd,hw,hk,hm,h0,h1,h2,ho=>by
  obtain ⟨hi,hx,hd'⟩:=Kpn hd
  rw [Kqk] at hm
  rw [Kqj] at h1 h2
  rw [Kv3,Bool.and_eq_true] at hw
  have ha:=Kr4 t.fOp (i:Int)
  have hp:=Kqm k
  rw [Kko.eq_def,Ktc]
  simp only
  rw [Kop hi,if_pos rfl,hx,bs,Kr6,bs,Kom (x:=d + ((Kr3 t.fOp (i:Int):Nat):Int)) (by omega) (by omega),Kvv b fr hb hf k _ _ hw.1 (by omega) (by omega) (by omega) (by omega),bs,Krs (by simp only [List.length_singleton]; omega),bs,Koo (by omega)]
  rw [Kvw b fr hb hf ks t n d (i + 1) r _ hd' hw.2 hk (by omega) h0 (by omega) (by omega) (by simp [ho]),List.append_assoc,← Int.add_assoc]
  rfl
end
theorem Kvx {g:Int→Bool} {y:List Int→Bool} {t:K00} {n:Nat} {b:Int} (h:tOk g y n t=true) (hb:0 ≤ b∧b ≤ 1099511627776) (hm:tms t ≤ 1099511627776) (h2:n + 2 * tsz t ≤ 35184372088832):Kku (t,b,0)=some (shf b 0 t):=by
 unfold Kku
 simp only
 rw [Kvv b 0 hb (by omega) t n 0 h hm (by omega) (by omega) h2,bs,Int.zero_add]
structure UOk (g:Int→Bool) (y:List Int→Bool) (m:Nat) (u:K00):Prop where
 ok:tOk g y m u=true
 ms:tms u ≤ 1099511627776
 sz:m + 2 * tsz u ≤ 35184372088832
mutual
theorem Kvy {g:Int→Bool} {y:List Int→Bool} {m:Nat} {u:K00} (U:UOk g y m u):∀ (t:K00) (n:Nat) (d:Int),tOk g y n t=true→tms t ≤ 1099511627776→0 ≤ d→d + 2 * tsz t ≤ 1099511627776→n + 2 * tsz t ≤ 35184372088832 →
  Kl2 (t,d,0,u)=some (put u d t)
 | ⟨op,N,ty,ks⟩,n,d,h,hm,h0,h1,h2=>by
  rw [tms] at hm
  rw [tsz] at h1 h2
  rw [Kl2.eq_def,put]
  simp only
  cases hop:op == 0
  ·rw [Kv2,Bool.and_eq_true] at h
   have:=Kvz U ks ⟨op,N,ty,ks⟩ n d 0 ty [] rfl h.2 (by simp only; omega) (by omega) h0 (by omega) (by omega) rfl
   rw [show ((0:Nat):Int)=0 from rfl] at this
   rw [if_neg (by decide),Ks6 ty (by omega),bs,this,bs]; rfl
  ·have hop:=eq_of_beq hop
   obtain ⟨rfl,rfl,q1,q2⟩:=Kvb h hop
   subst hop
   rw [if_pos rfl,Kv7]
   unfold Kkx
   simp only
   rw [Kom (x:=N - d) (by omega) (by omega)]
   by_cases e:N=d
   ·subst e
    rw [Int.sub_self,Kvx U.ok (by omega) U.ms U.sz]; simp [bs]
   ·rw [beq_eq_false_iff_ne.2 (by omega:N - d ≠ 0),beq_eq_false_iff_ne.2 e,Kom (x:=N - 1) (by omega) (by omega),decide_eq_decide.2 (by omega:N - d > 0 ↔ N > d)]
    simp only [Bool.and_false,Bool.false_eq_true,if_false,Bool.true_and]
    refine (Kqi (x:=⟨0,if decide (N > d) then N - 1 else N,[],[]⟩) ?_).trans rfl
    refine (Kqi (x:=if decide (N > d) then N - 1 else N) ?_).trans ?_
    ·cases decide (N > d) <;> rfl
    ·rw [Kt9 _ (by rw [tms,Kqk]; simp)]; rfl
theorem Kvz {g:Int→Bool} {y:List Int→Bool} {m:Nat} {u:K00} (U:UOk g y m u):∀ (ks:List K00) (t:K00) (n:Nat) (d:Int) (i:Nat) (r:List Int) (out:List K00),t.fKids.drop i=ks→Kra g y t.fOp n i ks=true →
  t.fKids.length ≤ 1099511627776→Kqk ks ≤ 1099511627776→0 ≤ d→d + 2 * Kqj ks + 2 ≤ 1099511627776→n + 2 * Kqj ks + 2 ≤ 35184372088832→out.length=i→Kl3 (t,d,0,u,r,out,(i:Int))=some (out ++ Kv7 u t.fOp d i ks)
 | [],t,n,d,i,r,out,hd,hw,hk,hm,h0,h1,h2,ho=>by
  rw [Kl3.eq_def,Kv7]
  simp only
  rw [Koq (Kpo hd),List.append_nil]; rfl
 | k :: ks,t,n,d,i,r,out,hd,hw,hk,hm,h0,h1,h2,ho=>by
  obtain ⟨hi,hx,hd'⟩:=Kpn hd
  rw [Kqk] at hm
  rw [Kqj] at h1 h2
  rw [Kv3,Bool.and_eq_true] at hw
  have ha:=Kr4 t.fOp (i:Int)
  have hp:=Kqm k
  rw [Kl3.eq_def,Kv7]
  simp only
  rw [Kop hi,if_pos rfl,hx,bs,Kr6,bs,Kom (x:=d + ((Kr3 t.fOp (i:Int):Nat):Int)) (by omega) (by omega),Kvy U k _ _ hw.1 (by omega) (by omega) (by omega) (by omega),bs,Krs (by simp only [List.length_singleton]; omega),bs,Koo (by omega)]
  rw [Kvz U ks t n d (i + 1) r _ hd' hw.2 hk (by omega) h0 (by omega) (by omega) (by simp [ho]),List.append_assoc]
  rfl
end
theorem Kw0 {g:Int→Bool} {y:List Int→Bool} {m n:Nat} {u t:K00} (U:UOk g y m u) (h:tOk g y n t=true) (hm:tms t ≤ 1099511627776) (h1:tsz t ≤ 549755813888) (h2:n ≤ 1099511627776):Kl9 (t,0,u)=some (put u 0 t):=by
 unfold Kl9
 simp only
 rw [Kvy U t n 0 h hm (by omega) (by omega) (by omega),bs]
mutual
theorem Kw1 {g:Int→Bool} {y:List Int→Bool} {m:Nat} {u:K00} (U:UOk g y m u):∀ (t:K00) (n:Nat) (d:Int),tOk g y n t=true→tms t ≤ 1099511627776→0 ≤ d→d + 2 * tsz t ≤ 1099511627776→n + 2 * tsz t ≤ 35184372088832 →
  Knp (t,0,u,d)=some (put u d t)
 | ⟨op,N,ty,ks⟩,n,d,h,hm,h0,h1,h2=>by
  rw [tms] at hm
  rw [tsz] at h1 h2
  rw [Knp.eq_def,put]
  simp only
  rw [Ks2 ty (by omega),bs,Int.zero_add,Kom (x:=d) (by omega) (by omega)]
  cases hop:op == 0
  ·rw [Kv2,Bool.and_eq_true] at h
   refine (Kqi (x:=(Sum.inl N:Int ⊕ K00)) rfl).trans ?_
   simp only
   have:=Kw2 U ks ⟨op,N,ty,ks⟩ n d 0 ty N [] rfl h.2 (by simp only; omega) (by omega) h0 (by omega) (by omega) rfl
   rw [show ((0:Nat):Int)=0 from rfl] at this
   rw [this,bs]; rfl
  ·have hop:=eq_of_beq hop
   obtain ⟨rfl,rfl,q1,q2⟩:=Kvb h hop
   subst hop
   rw [Kv7]
   have hS:=Ktg d ((m:Int) + 2 * tsz u) h0 (by have:=U.sz; omega) u 0 (Ktk g y u m U.ok) U.ms (by omega) (by have:=U.ms; omega)
   by_cases e:N=d
   ·subst e
    refine (Kqi (x:=(Sum.inr (shf N 0 u):Int ⊕ K00)) ?_).trans ?_
    ·simp only [beq_self_eq_true,if_true]; rw [hS]; rfl
    ·simp
   ·refine (Kqi (x:=(Sum.inl (if decide (N > d) then N - 1 else N):Int ⊕ K00)) ?_).trans ?_
    ·rw [if_pos rfl,beq_eq_false_iff_ne.2 e,if_neg (by decide),Kom (x:=N - 1) (by omega) (by omega)]
     cases decide (N > d) <;> rfl
    ·rw [beq_eq_false_iff_ne.2 e]
     simp only [Bool.and_false,Bool.false_eq_true,if_false,Bool.true_and]
     rw [Knq.eq_def]
     rfl
theorem Kw2 {g:Int→Bool} {y:List Int→Bool} {m:Nat} {u:K00} (U:UOk g y m u):∀ (ks:List K00) (t:K00) (n:Nat) (d:Int) (i:Nat) (r:List Int) (o:Int) (out:List K00),t.fKids.drop i=ks→Kra g y t.fOp n i ks=true →
  t.fKids.length ≤ 1099511627776→Kqk ks ≤ 1099511627776→0 ≤ d→d + 2 * Kqj ks + 2 ≤ 1099511627776→n + 2 * Kqj ks + 2 ≤ 35184372088832→out.length=i→Knq (t,0,u,d,r,o,out,(i:Int))=some (out ++ Kv7 u t.fOp d i ks)
 | [],t,n,d,i,r,o,out,hd,hw,hk,hm,h0,h1,h2,ho=>by
  rw [Knq.eq_def,Kv7]
  simp only
  rw [Koq (Kpo hd),List.append_nil]; rfl
 | k :: ks,t,n,d,i,r,o,out,hd,hw,hk,hm,h0,h1,h2,ho=>by
  obtain ⟨hi,hx,hd'⟩:=Kpn hd
  rw [Kqk] at hm
  rw [Kqj] at h1 h2
  rw [Kv3,Bool.and_eq_true] at hw
  have ha:=Kr4 t.fOp (i:Int)
  have hp:=Kqm k
  rw [Knq.eq_def,Kv7]
  simp only
  rw [Kop hi,if_pos rfl,hx,bs,Kr5,bs,Kom (x:=d + ((Kr3 t.fOp (i:Int):Nat):Int)) (by omega) (by omega),Kw1 U k _ _ hw.1 (by omega) (by omega) (by omega) (by omega),bs,Krs (by simp only [List.length_singleton]; omega),bs,Koo (by omega)]
  rw [Kw2 U ks t n d (i + 1) r o _ hd' hw.2 hk (by omega) h0 (by omega) (by omega) (by simp [ho]),List.append_assoc]
  rfl
end
theorem Kw3 {g:Int→Bool} {y:List Int→Bool} {m n:Nat} {u t:K00} (U:UOk g y m u) (h:tOk g y n t=true) (hm:tms t ≤ 1099511627776) (h1:tsz t ≤ 549755813888) (h2:n ≤ 1099511627776):Knp (t,0,u,0)=some (put u 0 t) :=
 Kw1 U t n 0 h hm (by omega) (by omega) (by omega)
theorem Kw4 {t:K00} (hm:tms t ≤ 1099511627776) (hs:tsz t ≤ 400):Knm t=some ((tsz t:Nat):Int):=by
 unfold Knm
 have hl:=Kqr t 400 hm (by decide)
 rw [show ((400:Nat):Int)=400 from rfl] at hl
 rw [hl,bs,Kqo hs,Kom (by omega) (by omega)]; congr 1; omega
def Kw5 (g:Int→Bool) (n:Nat) (t:K00):Prop:=∃ c,Knr t=some (okT (if tsz c ≤ 400 then some c else none))∧Klc t=some c∧tOk g wtB n c=true∧tsz c ≤ 1000000
structure Pc (g:Int→Bool) (n:Nat) (t:K00):Prop where
 ok:tOk g wtB n t=true
 sz:tsz t ≤ 400
 pnn:n ≤ 1000000
theorem Pc.pms {g:Int→Bool} {n:Nat} {t:K00} (h:Pc g n t):tms t ≤ 17200:=by have:=(Kvt t n h.ok).1; have:=h.sz; omega
theorem Pc.pu {g:Int→Bool} {n:Nat} {t:K00} (h:Pc g n t):UOk g wtB n t:=⟨h.ok,by have:=h.pms; omega,by have:=h.sz; have:=h.pnn; omega⟩
theorem Pc.pcopy {g:Int→Bool} {n:Nat} {t:K00} (h:Pc g n t):Kez (t,0,0)=some t∧Kkc t=some t :=
 ⟨Kto (Kti (by have:=h.sz; have:=h.pnn; omega) t (Ktk _ _ t n h.ok)) (by have:=h.pms; omega),Kt9 t (by have:=h.pms; omega)⟩
theorem Pc.psize {g:Int→Bool} {n:Nat} {t:K00} (h:Pc g n t):Knm t=some ((tsz t:Nat):Int):=Kw4 (by have:=h.pms; omega) h.sz
theorem Pc.puses {g:Int→Bool} {n:Nat} {t:K00} (h:Pc g n t) (i:Int) (hi:0 ≤ i∧i ≤ 2):Knn (t,i)=some ((Go.Am.uses i t:Nat):Int)∧Go.Am.uses i t ≤ 400 :=
 ⟨Kvc t i (by have:=h.sz; omega) hi.1 (by have:=h.sz; omega),by have:=Kv9 t i; have:=h.sz; omega⟩
theorem Kw6 {a b:Nat} (ha:a ≤ 400) (hb:b ≤ 400):a * b ≤ 160000:=Nat.le_trans (Nat.mul_le_mul ha hb) (by decide)
theorem Kw7 (a b:Nat):(a:Int) * ((b:Int) - 1)=((a * b:Nat):Int) - (a:Int):=by rw [Int.mul_sub,Int.mul_one]; omega
theorem Kw8 {g:Int→Bool} {n:Nat} {b u:K00} (hb:Pc g (n + 1) b) (hu:Pc g n u):∃ c,c=put u 0 b∧Knp (b,0,u,0)=some c∧Kl9 (b,0,u)=some c∧tOk g wtB n c=true∧tsz c ≤ 1000000 ∧
  decide ((wr (((tsz b:Nat):Int) + (wr (((uses 0 b:Nat):Int) * (wr (((tsz u:Nat):Int) - 1)))))) > 400)=!decide (tsz c ≤ 400):=by
 have b1:=hb.sz
 have u1:=hu.sz
 have bm:=hb.pms
 have pnn:=hb.pnn
 have hs:=Kvn u b (n + 1) 0 hb.ok
 have hus:=(hb.puses 0 (by omega)).2
 have hm:=Kw6 hus u1
 refine ⟨_,rfl,Kw3 hu.pu hb.ok (by omega) (by omega) (by omega),Kw0 hu.pu hb.ok (by omega) (by omega) (by omega),Kvl (d:=0) hu.ok b hb.ok,by omega,?_⟩
 rw [Kom (x:=((tsz u:Nat):Int) - 1) (by omega) (by omega),Kw7,Kom (x:=((uses 0 b * tsz u:Nat):Int) - ((uses 0 b:Nat):Int)) (by omega) (by omega),Kom (by omega) (by omega),← decide_not,decide_eq_decide]
 omega
theorem Kw9 {c:K00} {b:Bool} (h:b=!decide (tsz c ≤ 400)):(if b=true then (some (noT,false):Option (K00 × Bool)) else some (c,true))=some (okT (if tsz c ≤ 400 then some c else none)):=by
 subst h
 by_cases h:tsz c ≤ 400
 ·rw [decide_eq_true h,if_pos h]; rfl
 ·rw [decide_eq_false h,if_neg h]; rfl
theorem Kwa (op N:Int) (ty:List Int) (a:K00):tsz ⟨op,N,ty,[a]⟩=1 + tsz a:=by simp [tsz,Kqj]
theorem Kwb (op N:Int) (ty:List Int) (a b:K00):tsz ⟨op,N,ty,[a,b]⟩=1 + (tsz a + tsz b):=by simp [tsz,Kqj]
theorem Kwc (op N:Int) (ty:List Int) (a b c:K00):tsz ⟨op,N,ty,[a,b,c]⟩=1 + (tsz a + (tsz b + tsz c)):=by simp [tsz,Kqj]
theorem Kwd {l:List K00} (h:(l.length:Int)=3):∃ a b c,l=[a,b,c]:=by
 match l,h with | [a,b,c],_=>exact ⟨a,b,c,rfl⟩ | [],h=>exact absurd h (by simp) | [_],h=>exact absurd h (by simp) | [_,_],h=>exact absurd h (by simp) | _ :: _ :: _ :: _ :: _,h=>exact absurd h (by simp only [List.length_cons]; omega)
theorem Kwe {g:Int→Bool} {n:Nat} {op N:Int} {ty:List Int} {ks:List K00} (h:tOk g wtB n ⟨op,N,ty,ks⟩=true) (hs:tsz ⟨op,N,ty,ks⟩ ≤ 400) (hn:n + 2 ≤ 1000000) (hk:Kqt op=1):∃ a,ks=[a]∧Pc g (n + Kr3 op 0) a:=by
 obtain ⟨h1,h2⟩:=Krq h
 obtain ⟨a,rfl⟩:=Kv5 (l:=ks) (beq_iff_eq.2 (by rw [← hk]; exact (Krv h1).2))
 simp only at h2
 rw [Kv3,Bool.and_eq_true] at h2
 rw [Kwa] at hs
 have:=Kr4 op 0
 exact ⟨a,rfl,h2.1,by omega,by omega⟩
theorem Kwf {g:Int→Bool} {n:Nat} {op N:Int} {ty:List Int} {ks:List K00} (h:tOk g wtB n ⟨op,N,ty,ks⟩=true) (hs:tsz ⟨op,N,ty,ks⟩ ≤ 400) (hn:n + 2 ≤ 1000000) (hk:Kqt op=2):∃ a b,ks=[a,b]∧Pc g (n + Kr3 op 0) a∧Pc g (n + Kr3 op 1) b:=by
 obtain ⟨h1,h2⟩:=Krq h
 obtain ⟨a,b,rfl⟩:=Kv6 (l:=ks) (beq_iff_eq.2 (by rw [← hk]; exact (Krv h1).2))
 simp only at h2
 rw [Kv3,Kv3,Bool.and_eq_true,Bool.and_eq_true] at h2
 rw [Kwb] at hs
 have:=Kr4 op 0
 have:=Kr4 op 1
 exact ⟨a,b,rfl,⟨h2.1,by omega,by omega⟩,⟨h2.2.1,by omega,by omega⟩⟩
theorem Kwg {g:Int→Bool} {n:Nat} {op N:Int} {ty:List Int} {ks:List K00} (h:tOk g wtB n ⟨op,N,ty,ks⟩=true) (hs:tsz ⟨op,N,ty,ks⟩ ≤ 400) (hn:n + 2 ≤ 1000000) (hk:Kqt op=3):∃ a b c,ks=[a,b,c]∧Pc g (n + Kr3 op 0) a∧Pc g (n + Kr3 op 1) b∧Pc g (n + Kr3 op 2) c:=by
 obtain ⟨h1,h2⟩:=Krq h
 obtain ⟨a,b,c,rfl⟩:=Kwd (l:=ks) (by rw [← hk]; exact (Krv h1).2)
 simp only at h2
 rw [Kv3,Kv3,Kv3,Bool.and_eq_true,Bool.and_eq_true,Bool.and_eq_true] at h2
 rw [Kwc] at hs
 have:=Kr4 op 0
 have:=Kr4 op 1
 have:=Kr4 op 2
 exact ⟨a,b,c,rfl,⟨h2.1,by omega,by omega⟩,⟨h2.2.1,by omega,by omega⟩,⟨h2.2.2.1,by omega,by omega⟩⟩
theorem Kwh {g:Int→Bool} {n:Nat} {t:K00} (h:tOk g wtB n t=true) (h1:t.fOp=1):t.fN=0∨t.fN=1∨t.fN=2:=by
 obtain ⟨op,N,ty,ks⟩:=t
 simp only at h1 ⊢
 subst h1
 rw [Kv2,Bool.and_eq_true] at h
 have h1:=h.1
 simp only [Kr9,Kr7,Kr8,Bool.and_eq_true,show ((1:Int) == 0)=false from rfl,show ((1:Int) == 1)=true from rfl,if_true,Bool.false_eq_true,if_false] at h1
 have h2:=h1.1.2
 unfold inB at h2
 simp only [Bool.and_eq_true,decide_eq_true_eq] at h2
 omega
theorem Kwi (g:Int→Bool) (n:Nat) (x y:Int) (hx:x=0∨x=1∨x=2) (hy:y=0∨y=1∨y=2):tOk g wtB n ⟨1,Int.tmod (wr (x + y)) 3,[],[]⟩=true:=by
 have:inB (Int.tmod (wr (x + y)) 3) 0 2=true:=by rcases hx with rfl | rfl | rfl <;> rcases hy with rfl | rfl | rfl <;> decide
 rw [Kv2,Kv4]
 unfold Kr9 Kr7 Kr8
 simp only [show ((1:Int) == 0)=false from rfl,show ((1:Int) == 1)=true from rfl,if_true,Bool.false_eq_true,if_false,this]
 rfl
theorem Kwj {g:Int→Bool} {n:Nat} {b u t:K00} (hb:Pc g (n + 1) b) (hu:Pc g n u)
  (e1:Knr t=(Knm b >>= fun r1=>Knn (b,0) >>= fun r2=>Knm u >>= fun r3=>if decide (wr (r1 + wr (r2 * wr (r3 - 1))) > 400)=true then some (noT,false) else Knp (b,0,u,0) >>= fun r=>some (r,true)))
  (e2:Klc t=(Kl9 (b,0,u) >>= fun r=>some r)):Kw5 g n t:=by
 obtain ⟨c,_,p1,p2,p3,p4,p5⟩:=Kw8 hb hu
 refine ⟨c,?_,?_,p3,p4⟩
 ·rw [e1,hb.psize,bs,(hb.puses 0 (by omega)).1,bs,hu.psize,bs,p1,bs]
  exact Kw9 p5
 ·rw [e2,p2,bs]
theorem Kwk {g:Int→Bool} {n:Nat} {t:K00} (h:tOk g wtB n t=true) (hs:tsz t ≤ 400) (hn:n ≤ 900000) (hr:Kru t=true):Kw5 g n t:=by
 obtain ⟨op,N,ty,ks⟩:=t
 have hop:=(Krv (Krq h).1).1
 simp only at hop
 have hk:ks.length ≠ 0:=by
  intro e; unfold Kru at hr; simp only [e,if_true] at hr; cases hr
 have hr':(if op == 2 then Krt ks 0 == 1 && Krt ks 1 == 1 else if op == 3 then Krt ks 0 == 1 else if op == 10 then Krt ks 0 == 9 else if op == 5 then Krt ks 0 == 4
  else if op == 8 then Krt ks 0 == 6 || Krt ks 0 == 7 else if op == 12 then Krt ks 0 == 11 else false)=true:=by
  unfold Kru at hr; simp only [if_neg hk] at hr; exact hr
 rcases Kqx hop with rfl | rfl | rfl | rfl | rfl | rfl | rfl | rfl | rfl | rfl | rfl | rfl | rfl
 ·cases hr'
 ·cases hr'
 ·obtain ⟨a,b,rfl,ha,hb⟩:=Kwf h hs (by omega) rfl
  have hr2:(a.fOp == 1 && b.fOp == 1)=true:=hr'
  rw [Bool.and_eq_true,beq_iff_eq,beq_iff_eq] at hr2
  have:=Kwi g n a.fN b.fN (Kwh ha.ok hr2.1) (Kwh hb.ok hr2.2)
  refine ⟨⟨1,Int.tmod (wr (a.fN + b.fN)) 3,[],[]⟩,?_,rfl,this,by simp [tsz,Kqj]⟩
  rw [if_pos (by simp [tsz,Kqj])]; rfl
 ·obtain ⟨a,b,c,rfl,ha,hb,hc⟩:=Kwg h hs (by omega) rfl
  have e1:Knr ⟨3,N,ty,[a,b,c]⟩=(if (a.fN == 0)=true then Kez (b,0,0) >>= fun r=>some (r,true) else Kez (c,0,0) >>= fun r=>some (r,true)):=rfl
  have e2:Klc ⟨3,N,ty,[a,b,c]⟩=(if (a.fN == 0)=true then Kkc b >>= fun r=>some r else Kkc c >>= fun r=>some r):=rfl
  unfold Kw5
  rw [e1,e2,hb.pcopy.1,hb.pcopy.2,hc.pcopy.1,hc.pcopy.2]
  cases a.fN == 0
  ·exact ⟨c,by rw [if_pos hc.sz]; rfl,rfl,hc.ok,by have:=hc.sz; omega⟩
  ·exact ⟨b,by rw [if_pos hb.sz]; rfl,rfl,hb.ok,by have:=hb.sz; omega⟩
 ·cases hr'
 ·obtain ⟨a,b,rfl,ha,hb⟩:=Kwf h hs (by omega) rfl
  have hr2:a.fOp=4:=eq_of_beq (show (a.fOp == 4)=true from hr')
  obtain ⟨op,N',ty',ks'⟩:=a
  simp only at hr2
  subst hr2
  obtain ⟨v,w,rfl,hv,hw⟩:=Kwf ha.ok ha.sz (by have:Kr3 5 0=0:=rfl; omega) rfl
  have hv:Pc g n v:=hv
  have hw:Pc g n w:=hw
  have hb:Pc g (n + 2) b:=hb
  have e1:Knr ⟨5,N,ty,[⟨4,N',ty',[v,w]⟩,b]⟩=(Knm b >>= fun r1=>Knn (b,1) >>= fun r2=>Knm v >>= fun r3=>Knn (b,0) >>= fun r4=>Knm w >>= fun r5 =>
   if decide (wr (wr (r1 + wr (r2 * wr (r3 - 1))) + wr (r4 * wr (r5 - 1))) > 400)=true then some (noT,false) else Kez (w,1,0) >>= fun r6=>Knp (b,0,r6,0) >>= fun r7=>Knp (r7,0,v,0) >>= fun r=>some (r,true)):=rfl
  have e2:Klc ⟨5,N,ty,[⟨4,N',ty',[v,w]⟩,b]⟩=(Kku (w,1,0) >>= fun r6=>Kl9 (b,0,r6) >>= fun r7=>Kl9 (r7,0,v) >>= fun r=>some r):=rfl
  have b1:=hb.sz
  have v1:=hv.sz
  have w1:=hw.sz
  have bm:=hb.pms
  have wm:=hw.pms
  have pnn:=hb.pnn
  have hS:tOk g wtB (n + 1) (shf ((1:Nat):Int) 0 w)=true:=Kvi g wtB 1 w n 0 hw.ok
  rw [show ((1:Nat):Int)=1 from rfl] at hS
  have hSz:=Kve 1 w 0
  have US:UOk g wtB (n + 1) (shf 1 0 w):=⟨hS,by have:=(Kvt _ _ hS).1; omega,by omega⟩
  have hR:tOk g wtB (n + 1) (put (shf 1 0 w) 0 b)=true:=Kvl (d:=0) hS b hb.ok
  have q1:=Kvn (shf 1 0 w) b (n + 2) 0 hb.ok
  have q2:=Kvn v (put (shf 1 0 w) 0 b) (n + 1) 0 hR
  have q3:=Kvr w b (n + 2) 0 (by omega) hb.ok
  rw [show (0:Int) + 1=1 from rfl] at q3
  have u0:=(hb.puses 0 (by omega)).2
  have u1:=(hb.puses 1 (by omega)).2
  rw [hSz] at q1
  rw [q3] at q2
  have m0:=Kw6 u0 w1
  have m1:=Kw6 u1 v1
  have hRm:=(Kvt _ _ hR).1
  have hC:tOk g wtB n (put v 0 (put (shf 1 0 w) 0 b))=true:=Kvl (d:=0) hv.ok _ hR
  have hsh:=Ktg 1 ((n:Int) + 2 * tsz w) (by omega) (by omega) w 0 (Ktk g wtB w n hw.ok) (by omega) (by omega) (by omega)
  refine ⟨put v 0 (put (shf 1 0 w) 0 b),?_,?_,hC,by omega⟩
  ·rw [e1,hb.psize,bs,(hb.puses 1 (by omega)).1,bs,hv.psize,bs,(hb.puses 0 (by omega)).1,bs,hw.psize,bs,hsh,bs,Kw3 US hb.ok (by omega) (by omega) (by omega),bs,Kw3 hv.pu hR (by omega) (by omega) (by omega),bs]
   refine Kw9 ?_
   rw [Kom (x:=((tsz v:Nat):Int) - 1) (by omega) (by omega),Kw7,Kom (x:=((uses 1 b * tsz v:Nat):Int) - ((uses 1 b:Nat):Int)) (by omega) (by omega),
    Kom (x:=((tsz w:Nat):Int) - 1) (by omega) (by omega),Kw7,Kom (x:=((uses 0 b * tsz w:Nat):Int) - ((uses 0 b:Nat):Int)) (by omega) (by omega),Kom (x:=((tsz b:Nat):Int) + _) (by omega) (by omega),Kom (by omega) (by omega),← decide_not,decide_eq_decide]
   omega
  ·rw [e2,Kvx hw.ok (by omega) (by omega) (by omega),bs,Kw0 US hb.ok (by omega) (by omega) (by omega),bs,Kw0 hv.pu hR (by omega) (by omega) (by omega),bs]
 ·cases hr'
 ·cases hr'
 ·obtain ⟨a,b,c,rfl,ha,hb,hc⟩:=Kwg h hs (by omega) rfl
  have hr2:(a.fOp == 6 || a.fOp == 7)=true:=hr'
  rw [Bool.or_eq_true,beq_iff_eq,beq_iff_eq] at hr2
  obtain ⟨op,N',ty',ks'⟩:=a
  simp only at hr2
  rcases hr2 with rfl | rfl
  ·obtain ⟨x,rfl,hx⟩:=Kwe ha.ok ha.sz (by have:Kr3 8 0=0:=rfl; omega) rfl
   obtain ⟨uo,uN,ut,uk⟩:=x
   exact Kwj (b:=b) (u:=⟨uo,uN,ut,uk⟩) hb hx rfl rfl
  ·obtain ⟨x,rfl,hx⟩:=Kwe ha.ok ha.sz (by have:Kr3 8 0=0:=rfl; omega) rfl
   obtain ⟨uo,uN,ut,uk⟩:=x
   exact Kwj (b:=c) (u:=⟨uo,uN,ut,uk⟩) hc hx rfl rfl
 ·cases hr'
 ·obtain ⟨a,b,rfl,ha,hb⟩:=Kwf h hs (by omega) rfl
  have hr2:a.fOp=9:=eq_of_beq (show (a.fOp == 9)=true from hr')
  obtain ⟨op,N',ty',ks'⟩:=a
  simp only at hr2
  subst hr2
  obtain ⟨x,rfl,hx⟩:=Kwe ha.ok ha.sz (by have:Kr3 10 0=0:=rfl; omega) rfl
  obtain ⟨uo,uN,ut,uk⟩:=b
  exact Kwj (b:=x) (u:=⟨uo,uN,ut,uk⟩) hx hb rfl rfl
 ·cases hr'
 ·obtain ⟨a,b,rfl,ha,hb⟩:=Kwf h hs (by omega) rfl
  have hr2:a.fOp=11:=eq_of_beq (show (a.fOp == 11)=true from hr')
  obtain ⟨op,N',ty',ks'⟩:=a
  simp only at hr2
  subst hr2
  obtain ⟨x,rfl,hx⟩:=Kwe ha.ok ha.sz (by have:Kr3 12 0=0:=rfl; omega) rfl
  obtain ⟨uo,uN,ut,uk⟩:=x
  exact Kwj (b:=b) (u:=⟨uo,uN,ut,uk⟩) hb hx rfl rfl
theorem Kwl {g:Int→Bool} {y:List Int→Bool}:∀ (p:List Int) (t x:K00) (n:Nat),atP t p=some x→tOk g y n t=true→∃ m,m ≤ n + 2 * p.length∧tOk g y m x=true
 | [],t,x,n,h,ht=>by
  rw [atP] at h; cases h
  exact ⟨n,by simp,ht⟩
 | i :: p,t,x,n,h,ht=>by
  obtain ⟨k,h1,h2,h3,h4,h5,h6⟩:=Kub h
  have hk:=Kup t.fKids t.fOp n 0 i.toNat h2 (Krq ht).2
  have e:t.fKids[i.toNat]=k:=by rw [← Kud h2]; exact h4
  rw [e] at hk
  obtain ⟨m,q1,q2⟩:=Kwl p k x _ h6 hk
  have:=Kr4 t.fOp ((0 + i.toNat:Nat):Int)
  refine ⟨m,?_,q2⟩
  rw [List.length_cons]; omega
theorem Kwm:∀ (p:List Int) (t x:K00),atP t p=some x→tsz x ≤ tsz t
 | [],t,x,h=>by rw [atP] at h; cases h; exact Nat.le_refl _
 | i :: p,t,x,h=>by
  obtain ⟨k,h1,h2,h3,h4,h5,h6⟩:=Kub h
  have:=Kwm p k x h6
  have:=Kt8 h5
  omega
mutual
def tEq:K00→K00→Bool
 | ⟨o,N,t,k⟩,⟨o',N',t',k'⟩=>o == o' && N == N' && t == t' && (k.length == k'.length) && Kwn k k'
def Kwn:List K00→List K00→Bool
 | [],_=>true
 | _ :: _,[]=>false
 | a :: k,b :: k'=>tEq a b && Kwn k k'
end
mutual
theorem Kwo:∀ (a:K00),tEq a a=true
 | ⟨o,N,t,k⟩=>by rw [tEq,Kwp k]; simp
theorem Kwp:∀ (k:List K00),Kwn k k=true
 | []=>by rw [Kwn]
 | a :: k=>by rw [Kwn,Kwo a,Kwp k]; rfl
end
def Kwq (l:List Nat):List Int:=l.map fun x:Nat=>(x:Int)
theorem Kwr (l:List Nat):(Kwq l).length=l.length:=List.length_map ..
theorem Kws (l:List Nat) (i:Nat):(Kwq l).drop i=Kwq (l.drop i):=(List.map_drop ..).symm
theorem Kwt (l:List Nat) (i:Nat):(Kwq l).take i=Kwq (l.take i):=(List.map_take ..).symm
theorem Kwu {l r:List Nat} {x i:Nat} (h:l.drop i=x :: r):i < l.length∧idx (Kwq l) (i:Int)=some (x:Int)∧l.drop (i + 1)=r:=by
 have h2:(Kwq l).drop i=(x:Int) :: Kwq r:=by rw [Kws,h]; rfl
 obtain ⟨q1,q2,q3⟩:=Kpn h2
 rw [Kwr] at q1
 refine ⟨q1,q2,?_⟩
 rw [← List.drop_drop,h]
 rfl
structure Kwv (s:K02) (n:Nat):Prop where
 tab:Tab s n
 one:∀ a,a < n→Kp5 s n a=true
 two:∀ a b,a < n→b < n→Kph s n a b=true
theorem Kww {s:K02} (h:Ksj s=true):Kwv s s.fSize.toNat:=by
 have ht:=Ksk h
 unfold Ksj at h
 simp only [Bool.and_eq_true] at h
 have hm:=h.2
 unfold Kpj at hm
 rw [List.all_eq_true] at hm
 refine ⟨ht,fun a ha=>?_,fun a b ha hb=>?_⟩
 ·have:=hm a (by rw [List.mem_range'_1]; omega)
  simp only [Bool.and_eq_true] at this
  exact this.1
 ·have:=hm a (by rw [List.mem_range'_1]; omega)
  simp only [Bool.and_eq_true,List.all_eq_true] at this
  exact (this.2 b (by rw [List.mem_range'_1]; omega)).1
section
variable {s:K02} {n:Nat} (hs:Kwv s n)
include hs
theorem Kwx:1 < n:=by have:=hs.tab.lo; omega
theorem Kwy:0 < n:=by have:=hs.tab.lo; omega
theorem Kwz {a:Nat} (ha:a < n):pl s n 0 a=a:=by
 have:=hs.one a ha
 simp only [Kp5,Bool.and_eq_true,beq_iff_eq] at this
 exact this.1.1.1.1.1
theorem Kx0 {a:Nat} (ha:a < n):ti s n 1 a=a:=by
 have:=hs.one a ha
 simp only [Kp5,Bool.and_eq_true,beq_iff_eq] at this
 exact this.1.1.1.1.2
def Kx1 (s:K02) (n a b:Nat):Nat:=(Kpa s n a b).toNat
theorem Kx2 {a b:Nat} (ha:a < n) (hb:b < n):Kpa s n a b=((Kx1 s n a b:Nat):Int)∧Kx1 s n a b < n:=by
 have h:=hs.two a b ha hb
 simp only [Kph,Bool.and_eq_true,decide_eq_true_eq] at h
 have h0:=h.2
 unfold Kx1
 refine ⟨by omega,?_⟩
 unfold Kpa at h0 ⊢
 cases hf:(List.range' 0 n).find? (jok s n a b) with
 | none=>rw [hf] at h0; exact absurd h0 (by decide)
 | some g =>
  have:=List.mem_of_find?_eq_some hf
  rw [List.mem_range'_1] at this
  simp only [Int.toNat_natCast]
  omega
end
def Kx3 (s:K02) (n:Nat) (a b:List Nat):List Nat:=List.zipWith (pl s n) a b
def Kx4 (s:K02) (n g:Nat) (a:List Nat):List Nat:=a.map (ti s n g)
def Kx5 (s:K02) (n:Nat) (a b:List Nat):List Nat:=List.zipWith (Kx1 s n) a b
def Kx6 (n:Nat) (l:List Nat):Prop:=∀ x ∈ l,x < n
theorem Kx7 {n x:Nat} {l:List Nat} (h:Kx6 n (x :: l)):x < n∧Kx6 n l:=⟨h x List.mem_cons_self,fun y hy=>h y (List.mem_cons_of_mem _ hy)⟩
theorem Kx8 {n:Nat} {l:List Nat} (h:Kx6 n l) (i:Nat):Kx6 n (l.drop i):=fun x hx=>h x (List.mem_of_mem_drop hx)
section
variable {s:K02} {n:Nat} (hs:Kwv s n)
include hs
theorem Kx9:∀ {a b:List Nat},Kx6 n a→Kx6 n b→Kx6 n (Kx3 s n a b)
 | [],_,_,_=>fun x hx=>by cases hx
 | _ :: _,[],_,_=>fun x hx=>by cases hx
 | x :: a,y :: b,ha,hb=>fun z hz=>by
  obtain ⟨h1,h2⟩:=Kx7 ha
  obtain ⟨h3,h4⟩:=Kx7 hb
  rcases List.mem_cons.1 hz with rfl | hz
  ·exact Kou hs.tab h1 h3
  ·exact Kx9 h2 h4 z hz
theorem Kxa {g:Nat} (hg:g < n) {a:List Nat} (ha:Kx6 n a):Kx6 n (Kx4 s n g a):=fun x hx=>by
 obtain ⟨y,hy,rfl⟩:=List.mem_map.1 hx
 exact Kov hs.tab hg (ha y hy)
theorem Kxb:∀ {a b:List Nat},Kx6 n a→Kx6 n b→Kx6 n (Kx5 s n a b)
 | [],_,_,_=>fun x hx=>by cases hx
 | _ :: _,[],_,_=>fun x hx=>by cases hx
 | x :: a,y :: b,ha,hb=>fun z hz=>by
  obtain ⟨h1,h2⟩:=Kx7 ha
  obtain ⟨h3,h4⟩:=Kx7 hb
  rcases List.mem_cons.1 hz with rfl | hz
  ·exact (Kx2 hs h1 h3).2
  ·exact Kxb h2 h4 z hz
theorem Kxc {a:List Nat} (ha:Kx6 n a):Kx4 s n 1 a=a:=by
 induction a with
 | nil=>rfl
 | cons x a ih =>
  obtain ⟨h1,h2⟩:=Kx7 ha
  show ti s n 1 x :: Kx4 s n 1 a=_
  rw [Kx0 hs h1,ih h2]
theorem Kxd {a:List Nat} (ha:Kx6 n a):Kx3 s n (List.replicate a.length 0) a=a:=by
 induction a with
 | nil=>rfl
 | cons x a ih =>
  obtain ⟨h1,h2⟩:=Kx7 ha
  show pl s n 0 x :: Kx3 s n (List.replicate a.length 0) a=_
  rw [Kwz hs h1,ih h2]
theorem Kxe (g:Nat) (hg:g < n) (a b:List Nat) (ha:Kx6 n a) (hb:Kx6 n b) (hl:a.length ≤ 1099511627776):∀ (al bl:List Nat) (i:Nat) (out:List Int),a.drop i=al→b.drop i=bl→al.length=bl.length→out.length + al.length ≤ 1099511627776 →
  Kdm (s,Kwq a,(g:Int),Kwq b,out,(i:Int))=some (out ++ Kwq (Kx3 s n al (Kx4 s n g bl))):=by
 intro al
 induction al with
 | nil =>
  intro bl i out hd _ _ _
  rw [Kdm.eq_def]
  simp only
  rw [Kwr,Koq (Kpo hd)]
  simp [Kx3,Kwq]
 | cons x al ih =>
  intro bl i out hd hd2 hll ho
  cases bl with
  | nil=>simp at hll
  | cons y bl =>
   obtain ⟨h1,h2,h3⟩:=Kwu hd
   obtain ⟨k1,k2,k3⟩:=Kwu hd2
   have hx:x < n:=Kx8 ha i x (by rw [hd]; exact List.mem_cons_self)
   have hy:y < n:=Kx8 hb i y (by rw [hd2]; exact List.mem_cons_self)
   rw [Kdm.eq_def]
   simp only
   simp only [List.length_cons] at ho hll
   rw [Kwr,Kop h1,if_pos rfl,h2,bs,k2,bs,Kp0 hs.tab hg hy,bs,Koz hs.tab hx (Kov hs.tab hg hy),bs,Krs (by simp; omega),bs,Koo (by omega),ih bl (i + 1) _ h3 k3 (by omega) (by simp; omega)]
   rw [List.append_assoc]
   rfl
theorem Kxf (g:Nat) (hg:g < n) (a b:List Nat) (ha:Kx6 n a) (hb:Kx6 n b) (hl:a.length ≤ 1048576) (hab:a.length=b.length):Kdp (s,Kwq a,(g:Int),Kwq b)=some (Kwq (Kx3 s n a (Kx4 s n g b))):=by
 unfold Kdp
 simp only
 rw [show (0:Int)=((0:Nat):Int) from rfl,Kxe hs g hg a b ha hb (by omega) a b 0 [] rfl rfl hab (by simp; omega)]
 rfl
theorem Kxg (a b:List Nat) (ha:Kx6 n a) (hb:Kx6 n b) (hl:a.length ≤ 1048576) (hab:a.length=b.length):Kdp (s,Kwq a,1,Kwq b)=some (Kwq (Kx3 s n a b)):=by
 have:=Kxf hs 1 (Kwx hs) a b ha hb hl hab
 rw [Kxc hs hb] at this
 exact this
theorem Kxh (a b:List Nat) (ha:Kx6 n a) (hb:Kx6 n b) (hl:a.length ≤ 1099511627776):∀ (al bl:List Nat) (i:Nat) (out:List Int),a.drop i=al→b.drop i=bl→al.length=bl.length→out.length + al.length ≤ 1099511627776 →
  Kdw (s,Kwq a,Kwq b,out,(i:Int))=some (out ++ Kwq (Kx5 s n al bl)):=by
 intro al
 induction al with
 | nil =>
  intro bl i out hd _ _ _
  rw [Kdw.eq_def]
  simp only
  rw [Kwr,Koq (Kpo hd)]
  simp [Kx5,Kwq]
 | cons x al ih =>
  intro bl i out hd hd2 hll ho
  cases bl with
  | nil=>simp at hll
  | cons y bl =>
   obtain ⟨h1,h2,h3⟩:=Kwu hd
   obtain ⟨k1,k2,k3⟩:=Kwu hd2
   have hx:x < n:=Kx8 ha i x (by rw [hd]; exact List.mem_cons_self)
   have hy:y < n:=Kx8 hb i y (by rw [hd2]; exact List.mem_cons_self)
   rw [Kdw.eq_def]
   simp only
   simp only [List.length_cons] at ho hll
   rw [Kwr,Kop h1,if_pos rfl,h2,bs,k2,bs,Kpf hs.tab hx hy,bs,(Kx2 hs hx hy).1,Krs (by simp; omega),bs,Koo (by omega),ih bl (i + 1) _ h3 k3 (by omega) (by simp; omega)]
   rw [List.append_assoc]
   rfl
theorem Kxi (a b:List Nat) (ha:Kx6 n a) (hb:Kx6 n b) (hl:a.length ≤ 1048576) (hab:a.length=b.length):Kdz (s,Kwq a,Kwq b)=some (Kwq (Kx5 s n a b)):=by
 unfold Kdz
 simp only
 rw [show (0:Int)=((0:Nat):Int) from rfl,Kxh hs a b ha hb (by omega) a b 0 [] rfl rfl hab (by simp; omega)]
 rfl
end
theorem Kxj {α:Type} {out:List α} {i:Nat} (h:i < out.length) (x:α):(out.set i x).take (i + 1)=out.take i ++ [x]:=by
 rw [List.take_set,List.take_succ_eq_append_getElem h,List.set_append_right _ _ (by simp; omega)]
 simp [Nat.min_eq_left (Nat.le_of_lt h)]
section
variable {s:K02} {n:Nat} (hs:Kwv s n)
include hs
theorem Kxk (a b:List Nat) (ha:Kx6 n a) (hb:Kx6 n b) (hl:a.length ≤ 1099511627776):∀ (al bl:List Nat) (i:Nat) (out:List Int),a.drop i=al→b.drop i=bl→al.length=bl.length→out.length=a.length →
  Ko0 (s,Kwq a,Kwq b,out,(i:Int))=some (out.take i ++ Kwq (Kx3 s n al bl)):=by
 intro al
 induction al with
 | nil =>
  intro bl i out hd _ _ ho
  rw [Ko0.eq_def]
  simp only
  have:=Kpo hd
  rw [Kwr,Koq this]
  simp [Kx3,Kwq,List.take_of_length_le (show out.length ≤ i by omega)]
 | cons x al ih =>
  intro bl i out hd hd2 hll ho
  cases bl with
  | nil=>simp at hll
  | cons y bl =>
   obtain ⟨h1,h2,h3⟩:=Kwu hd
   obtain ⟨k1,k2,k3⟩:=Kwu hd2
   have hx:x < n:=Kx8 ha i x (by rw [hd]; exact List.mem_cons_self)
   have hy:y < n:=Kx8 hb i y (by rw [hd2]; exact List.mem_cons_self)
   rw [Ko0.eq_def]
   simp only
   simp only [List.length_cons] at hll
   have hio:i < out.length:=by omega
   rw [Kwr,Kop h1,if_pos rfl,h2,bs,k2,bs,Kp1 hs.tab hx hy,bs,Kon hio,bs,Koo (by omega),Int.toNat_natCast,ih bl (i + 1) _ h3 k3 (by omega) (by rw [List.length_set]; exact ho)]
   rw [Kxj hio,List.append_assoc]
   rfl
theorem Kxl (a b:List Nat) (ha:Kx6 n a) (hb:Kx6 n b) (hl:a.length ≤ 1048576) (hab:a.length=b.length):Ko2 (⟨s⟩,Kwq a,Kwq b)=some (Kwq (Kx3 s n a b)):=by
 unfold Ko2 Ko1
 simp only
 rw [Kwr,Kuv (by simp; omega),bs,Int.toNat_natCast,show (0:Int)=((0:Nat):Int) from rfl]
 rw [show (List.replicate a.length (((0:Nat):Int)))=List.replicate a.length (0:Int) from rfl,Kxk hs a b ha hb (by omega) a b 0 _ rfl rfl hab (by simp)]
 rfl
theorem Kxm (a b:List Nat) (ha:Kx6 n a) (hb:Kx6 n b) (hl:a.length ≤ 1099511627776):∀ (al bl:List Nat) (i:Nat) (out:List Int),a.drop i=al→b.drop i=bl→al.length=bl.length→out.length=a.length →
  Ko4 (s,Kwq a,Kwq b,out,(i:Int))=some (out.take i ++ Kwq (Kx5 s n al bl)):=by
 intro al
 induction al with
 | nil =>
  intro bl i out hd _ _ ho
  rw [Ko4.eq_def]
  simp only
  have:=Kpo hd
  rw [Kwr,Koq this]
  simp [Kx5,Kwq,List.take_of_length_le (show out.length ≤ i by omega)]
 | cons x al ih =>
  intro bl i out hd hd2 hll ho
  cases bl with
  | nil=>simp at hll
  | cons y bl =>
   obtain ⟨h1,h2,h3⟩:=Kwu hd
   obtain ⟨k1,k2,k3⟩:=Kwu hd2
   have hx:x < n:=Kx8 ha i x (by rw [hd]; exact List.mem_cons_self)
   have hy:y < n:=Kx8 hb i y (by rw [hd2]; exact List.mem_cons_self)
   rw [Ko4.eq_def]
   simp only
   simp only [List.length_cons] at hll
   have hio:i < out.length:=by omega
   rw [Kwr,Kop h1,if_pos rfl,h2,bs,k2,bs,Kpg hs.tab hx hy,bs,(Kx2 hs hx hy).1,Kon hio,bs,Koo (by omega),Int.toNat_natCast,ih bl (i + 1) _ h3 k3 (by omega) (by rw [List.length_set]; exact ho)]
   rw [Kxj hio,List.append_assoc]
   rfl
theorem Kxn (a b:List Nat) (ha:Kx6 n a) (hb:Kx6 n b) (hl:a.length ≤ 1048576) (hab:a.length=b.length):Ko6 (⟨s⟩,Kwq a,Kwq b)=some (Kwq (Kx5 s n a b)):=by
 unfold Ko6 Ko5
 simp only
 rw [Kwr,Kuv (by simp; omega),bs,Int.toNat_natCast,show (0:Int)=((0:Nat):Int) from rfl]
 rw [show (List.replicate a.length (((0:Nat):Int)))=List.replicate a.length (0:Int) from rfl,Kxm hs a b ha hb (by omega) a b 0 _ rfl rfl hab (by simp)]
 rfl
theorem Kxo (g:Nat) (hg:g < n) (a:List Nat) (ha:Kx6 n a) (hl:a.length ≤ 1099511627776):∀ (al:List Nat) (i:Nat) (out:List Int),a.drop i=al→out.length=a.length →
  Kog (⟨s⟩,(g:Int),Kwq a,out,(i:Int))=some (out.take i ++ Kwq (Kx4 s n g al)):=by
 intro al
 induction al with
 | nil =>
  intro i out hd ho
  rw [Kog.eq_def]
  simp only
  have:=Kpo hd
  rw [Kwr,Koq this]
  simp [Kx4,Kwq,List.take_of_length_le (show out.length ≤ i by omega)]
 | cons x al ih =>
  intro i out hd ho
  obtain ⟨h1,h2,h3⟩:=Kwu hd
  have hx:x < n:=Kx8 ha i x (by rw [hd]; exact List.mem_cons_self)
  rw [Kog.eq_def]
  simp only
  have hio:i < out.length:=by omega
  rw [Kwr,Kop h1,if_pos rfl,h2,bs,Kp2 hs.tab hg hx,bs,Kon hio,bs,Koo (by omega),Int.toNat_natCast,ih (i + 1) _ h3 (by rw [List.length_set]; exact ho)]
  rw [Kxj hio,List.append_assoc]
  rfl
theorem Kxp (g:Nat) (hg:g < n) (a:List Nat) (ha:Kx6 n a) (hl:a.length ≤ 1048576):Koh (⟨s⟩,(g:Int),Kwq a)=some (Kwq (Kx4 s n g a)):=by
 unfold Koh
 simp only
 rw [Kwr,Kuv (by simp; omega),bs,Int.toNat_natCast,show (0:Int)=((0:Nat):Int) from rfl]
 rw [show (List.replicate a.length (((0:Nat):Int)))=List.replicate a.length (0:Int) from rfl,Kxo hs g hg a ha (by omega) a 0 _ rfl (by simp)]
 rfl
theorem Kxq (g:Nat) (hg:g < n) (a:List Nat) (ha:Kx6 n a) (hl:a.length ≤ 1099511627776):∀ (al:List Nat) (i:Nat),a.drop i=al →
  ∃ r,Koc (Kwq a,⟨s⟩,(g:Int),(i:Int))=some r∧(match r with | .inl _=>(al.all fun x=>le s n x g)=true | .inr j=>(al.all fun x=>le s n x g)=false∧0 ≤ j):=by
 intro al
 induction al with
 | nil =>
  intro i hd
  rw [Koc.eq_def]
  simp only
  rw [Kwr,Koq (Kpo hd)]
  exact ⟨_,rfl,rfl⟩
 | cons x al ih =>
  intro i hd
  obtain ⟨h1,h2,h3⟩:=Kwu hd
  have hx:x < n:=Kx8 ha i x (by rw [hd]; exact List.mem_cons_self)
  rw [Koc.eq_def]
  simp only
  rw [Kwr,Kop h1,if_pos rfl,h2,bs]
  unfold Kob
  simp only
  rw [iLe hs.tab hx hg]
  simp only [bs]
  cases hle:le s n x g with
  | true =>
   obtain ⟨r,hr,hm⟩:=ih (i + 1) h3
   refine ⟨r,?_,?_⟩
   ·rw [if_neg (by simp),Koo (by omega)]; exact hr
   ·rw [List.all_cons,hle,Bool.true_and]; exact hm
  | false =>
   exact ⟨_,if_pos rfl,by simp [List.all_cons,hle]⟩
theorem Kxr (g:Nat) (hg:g < n) (a:List Nat) (ha:Kx6 n a) (hl:a.length ≤ 1048576):Kof (⟨s⟩,Kwq a,(g:Int))=some (a.all fun x=>le s n x g):=by
 obtain ⟨r,hr,hm⟩:=Kxq hs g hg a ha (by omega) a 0 rfl
 unfold Kof Koe Kod
 simp only
 rw [show (0:Int)=((0:Nat):Int) from rfl,hr]
 cases r with
 | inl _=>simp only [bs] at hm ⊢; rw [hm]; rfl
 | inr j =>
  simp only [bs] at hm ⊢
  rw [hm.1,decide_eq_true (by omega)]; rfl
end
theorem Kxs (k:Nat) (h:k ≤ 1048576):Kdf (k:Int)=some (Kwq (List.replicate k 0)):=by
 unfold Kdf
 rw [Int.toNat_natCast,Kuv (by constructor <;> omega),bs]
 unfold Kwq
 rw [List.map_replicate]
 rfl
theorem Kxt (ctx front:List (List Int)) (h:ctx.length + front.length ≤ 1048576):Kdc (ctx,front)=some (front ++ ctx):=by
 unfold Kdc
 simp only
 rw [Krs (by simp; omega),bs,Krs (by omega),bs]
theorem Kxu (ps:List (List Int)) (hp:ps.length ≤ 1099511627776):∀ (l:List (List Int)) (i:Nat) (out:List Int),ps.drop i=l→out.length + l.flatten.length ≤ 1099511627776→Kbx (ps,out,(i:Int))=some (out ++ l.flatten):=by
 intro l
 induction l with
 | nil =>
  intro i out hd _
  rw [Kbx.eq_def]
  simp only
  rw [Koq (Kpo hd)]
  simp
 | cons x l ih =>
  intro i out hd ho
  obtain ⟨h1,h2,h3⟩:=Kpn hd
  rw [List.flatten_cons,List.length_append] at ho
  rw [Kbx.eq_def]
  simp only
  rw [Kop h1,if_pos rfl,h2,bs,Krs (by omega),bs,Koo (by omega),ih (i + 1) _ h3 (by rw [List.length_append]; omega),List.flatten_cons,List.append_assoc]
theorem Kxv (c:Int) (ps:List (List Int)) (hp:ps.length ≤ 1048576) (h:ps.flatten.length ≤ 1048576):Kc0 (c,ps)=some (c :: ps.flatten):=by
 unfold Kc0
 simp only
 rw [show (0:Int)=((0:Nat):Int) from rfl,Kxu ps (by omega) ps 0 [c] rfl (by rw [List.length_singleton]; omega)]
 rfl
theorem Kxw (ps:List (List (Int))) (hp:ps.length ≤ 1099511627776):∀ (l:List (List (Int))) (i sz:Nat),ps.drop i=l→sz + l.flatten.length ≤ 1099511627776→Ko8 (ps,(sz:Int),(i:Int))=some (((sz + l.flatten.length:Nat)):Int):=by
 intro l
 induction l with
 | nil =>
  intro i sz hd _
  rw [Ko8.eq_def]
  simp only
  rw [Koq (Kpo hd)]
  simp
 | cons x l ih =>
  intro i sz hd ho
  obtain ⟨h1,h2,h3⟩:=Kpn hd
  rw [List.flatten_cons,List.length_append] at ho
  have e:wr ((sz:Int) + (x.length:Int))=((sz + x.length:Nat):Int):=Kt2 (by omega) (by omega)
  rw [Ko8.eq_def]
  simp only
  rw [Kop h1,if_pos rfl,h2,bs,e,decide_eq_false (by omega),if_neg (by decide),bs,Koo (by omega),ih (i + 1) _ h3 (by omega),List.flatten_cons,List.length_append,Nat.add_assoc]
theorem Kxx (ps:List (List (Int))) (hp:ps.length ≤ 1099511627776):∀ (l:List (List (Int))) (i:Nat) (out:List (Int)),ps.drop i=l→out.length + l.flatten.length ≤ 1099511627776→Ko9 (ps,out,(i:Int))=some (out ++ l.flatten):=by
 intro l
 induction l with
 | nil =>
  intro i out hd _
  rw [Ko9.eq_def]
  simp only
  rw [Koq (Kpo hd)]
  simp
 | cons x l ih =>
  intro i out hd ho
  obtain ⟨h1,h2,h3⟩:=Kpn hd
  rw [List.flatten_cons,List.length_append] at ho
  rw [Ko9.eq_def]
  simp only
  rw [Kop h1,if_pos rfl,h2,bs,Krs (by omega),bs,Koo (by omega),ih (i + 1) _ h3 (by rw [List.length_append]; omega),List.flatten_cons,List.append_assoc]
theorem Kxy (k:Nat) (h:k ≤ 1048576):Ko7 (k:Int)=some ():=by
 unfold Ko7
 have e:wr ((k:Int) - wr (0 - 0))=(k:Int):=by rw [Kom (x:=0 - 0) (by decide) (by decide),Kom (by omega) (by omega)]; omega
 rw [decide_eq_false (by omega),if_neg (by decide),e]
 by_cases hk:k=0
 ·subst hk; rfl
 ·rw [decide_eq_true (by omega),if_pos rfl,Int.toNat_natCast,Kuv (by constructor <;> omega),bs]
theorem Kxz (ps:List (List (Int))) (hp:ps.length ≤ 1048576) (h:ps.flatten.length ≤ 1048576):Koa ps=some ps.flatten:=by
 unfold Koa
 have h0:=Kxw ps (by omega) ps 0 0 rfl (by omega)
 rw [Nat.zero_add] at h0
 rw [show (0:Int)=((0:Nat):Int) from rfl,h0,bs,Kxy _ h,bs,Kxx ps (by omega) ps 0 [] rfl (by rw [List.length_nil]; omega)]
 rfl
theorem Ky0 (ps:List (List (List Int))) (hp:ps.length ≤ 1099511627776):∀ (l:List (List (List Int))) (i sz:Nat),ps.drop i=l→sz + l.flatten.length ≤ 1099511627776→Knw (ps,(sz:Int),(i:Int))=some (((sz + l.flatten.length:Nat)):Int):=by
 intro l
 induction l with
 | nil =>
  intro i sz hd _
  rw [Knw.eq_def]
  simp only
  rw [Koq (Kpo hd)]
  simp
 | cons x l ih =>
  intro i sz hd ho
  obtain ⟨h1,h2,h3⟩:=Kpn hd
  rw [List.flatten_cons,List.length_append] at ho
  have e:wr ((sz:Int) + (x.length:Int))=((sz + x.length:Nat):Int):=Kt2 (by omega) (by omega)
  rw [Knw.eq_def]
  simp only
  rw [Kop h1,if_pos rfl,h2,bs,e,decide_eq_false (by omega),if_neg (by decide),bs,Koo (by omega),ih (i + 1) _ h3 (by omega),List.flatten_cons,List.length_append,Nat.add_assoc]
theorem Ky1 (ps:List (List (List Int))) (hp:ps.length ≤ 1099511627776):∀ (l:List (List (List Int))) (i:Nat) (out:List (List Int)),ps.drop i=l→out.length + l.flatten.length ≤ 1099511627776→Knx (ps,out,(i:Int))=some (out ++ l.flatten):=by
 intro l
 induction l with
 | nil =>
  intro i out hd _
  rw [Knx.eq_def]
  simp only
  rw [Koq (Kpo hd)]
  simp
 | cons x l ih =>
  intro i out hd ho
  obtain ⟨h1,h2,h3⟩:=Kpn hd
  rw [List.flatten_cons,List.length_append] at ho
  rw [Knx.eq_def]
  simp only
  rw [Kop h1,if_pos rfl,h2,bs,Krs (by omega),bs,Koo (by omega),ih (i + 1) _ h3 (by rw [List.length_append]; omega),List.flatten_cons,List.append_assoc]
theorem Ky2 (k:Nat) (h:k ≤ 1048576):Knv (k:Int)=some ():=by
 unfold Knv
 have e:wr ((k:Int) - wr (0 - 0))=(k:Int):=by rw [Kom (x:=0 - 0) (by decide) (by decide),Kom (by omega) (by omega)]; omega
 rw [decide_eq_false (by omega),if_neg (by decide),e]
 by_cases hk:k=0
 ·subst hk; rfl
 ·rw [decide_eq_true (by omega),if_pos rfl,Int.toNat_natCast,Kuv (by constructor <;> omega),bs]
theorem Ky3 (ps:List (List (List Int))) (hp:ps.length ≤ 1048576) (h:ps.flatten.length ≤ 1048576):Kny ps=some ps.flatten:=by
 unfold Kny
 have h0:=Ky0 ps (by omega) ps 0 0 rfl (by omega)
 rw [Nat.zero_add] at h0
 rw [show (0:Int)=((0:Nat):Int) from rfl,h0,bs,Ky2 _ h,bs,Ky1 ps (by omega) ps 0 [] rfl (by rw [List.length_nil]; omega)]
 rfl
def TyS (s:K02) (ty:List Int):Prop:=yN s.fSize true ty=true
theorem Ky4 {s:K02} {ty:List Int} (h:TyS s ty):ty.length ≤ 40:=by
 unfold TyS yN at h
 rw [Bool.and_eq_true] at h
 exact Krp h.1
theorem Ky5 {s:K02} {ty:List Int} (h:TyS s ty):∃ T:Ty,T.ok∧ty=T.code∧T.code.length ≤ 40∧T.code.all (Kqd s.fSize true)=true:=by
 have hl:=Ky4 h
 unfold TyS yN at h
 rw [Bool.and_eq_true] at h
 obtain ⟨T,h1,rfl,_⟩:=Ksr h.1
 exact ⟨T,h1,rfl,hl,h.2⟩
theorem Ky6 {s:K02} {T:Ty} (h:T.ok) (hl:T.code.length ≤ 40) (hc:T.code.all (Kqd s.fSize true)=true):TyS s T.code:=by
 unfold TyS yN
 rw [Kss h hl,hc]; rfl
structure Ky7 (s:K02) (c:Int) (a b:List Int):Prop where
 ya:TyS s a
 yb:TyS s b
 p0:Kd6 (c :: (a ++ b),0)=some a
 p1:Kd6 (c :: (a ++ b),1)=some b
 pp:Kng (c :: (a ++ b))=some [a,b]
structure Ky8 (s:K02) (c:Int) (a:List Int):Prop where
 ya:TyS s a
 p0:Kd6 (c :: a,0)=some a
 pp:Kng (c :: a)=some [a]
theorem Ky9 {s:K02} {c:Int} (hc:c=35∨c=36):Kqd s.fSize true c=false:=by
 rcases hc with rfl | rfl
 ·unfold Kqd Kqc
  rw [show Kpr 35=2 from rfl]; simp
 ·unfold Kqd Kqc
  rw [show Kpr 36=1 from rfl]; simp
theorem Kya {s:K02}:TyS s [0]:=Ky6 (T:=.num) trivial (by decide) (by
 show (Kqd s.fSize true 0 && true)=true
 unfold Kqd
 rw [show Kpr 0=0 from rfl]; simp)
section
variable {s:K02} {n:Nat} (hs:Kwv s n)
include hs
theorem Kyb {c:Int} (hc:3 ≤ c∧c ≤ 18):Kqd s.fSize true c=true ↔ c - 3 < (n:Int):=by
 have hk:Kpr c=2:=by rcases Kpv c with h | h | h | h <;> omega
 unfold Kqd Kqc
 rw [hk,hs.tab.size,if_neg (by omega),if_neg (by omega)]
 simp
 omega
theorem Kyc {c:Int} (hc:19 ≤ c∧c ≤ 34):Kqd s.fSize true c=true ↔ c - 19 < (n:Int):=by
 have hk:Kpr c=1:=by rcases Kpv c with h | h | h | h <;> omega
 unfold Kqd Kqc
 rw [hk,hs.tab.size,if_neg (by omega),if_pos (by omega)]
 simp
 omega
theorem Kyd {ty:List Int} (h:TyS s ty):ty=[0]∨(∃ a b,ty=1 :: (a ++ b)∧Ky7 s 1 a b)∨(∃ a b,ty=2 :: (a ++ b)∧Ky7 s 2 a b) ∨
  (∃ (g:Nat) (a b:List Int),g < n∧g ≤ 15∧ty=(3 + (g:Int)) :: (a ++ b)∧Ky7 s (3 + (g:Int)) a b)∨(∃ (g:Nat) (a:List Int),g < n∧g ≤ 15∧ty=(19 + (g:Int)) :: a∧Ky8 s (19 + (g:Int)) a):=by
 obtain ⟨T,hT,rfl,hl,hc⟩:=Ky5 h
 cases T with
 | num=>exact .inl rfl
 | bin c a b =>
  have B:=Kuu hT (by omega)
  have hl':=hl
  rw [Ty.code,List.length_cons,List.length_append] at hl'
  rw [Ty.code,List.all_cons,List.all_append,Bool.and_eq_true,Bool.and_eq_true] at hc
  have hP:Ky7 s c a.code b.code:=⟨Ky6 B.ok.1 (by omega) hc.2.1,Ky6 B.ok.2 (by omega) hc.2.2,B.p0,B.p1,B.pp⟩
  have hk:=hT.1
  rcases Kpv c with ⟨q,e⟩ | ⟨q,e⟩ | ⟨q,e⟩ | ⟨q,e⟩
  ·rw [e] at hk; exact absurd hk (by decide)
  ·rcases q with rfl | rfl | q | rfl
   ·exact .inr (.inl ⟨_,_,rfl,hP⟩)
   ·exact .inr (.inr (.inl ⟨_,_,rfl,hP⟩))
   ·have:=(Kyb hs q).1 hc.1
    obtain ⟨g,hg⟩:∃ g:Nat,c=3 + (g:Int):=⟨(c - 3).toNat,by omega⟩
    subst hg
    exact .inr (.inr (.inr (.inl ⟨g,_,_,by omega,by omega,rfl,hP⟩)))
   ·rw [Ky9 (s:=s) (.inl rfl)] at hc; exact absurd hc.1 (by decide)
  ·rw [e] at hk; exact absurd hk (by decide)
  ·rw [e] at hk; exact absurd hk (by decide)
 | un c a =>
  have B:=unP hT (by omega)
  have hl':=hl
  rw [Ty.code,List.length_cons] at hl'
  rw [Ty.code,List.all_cons,Bool.and_eq_true] at hc
  have hP:Ky8 s c a.code:=⟨Ky6 B.ok (by omega) hc.2,B.p0,B.pp⟩
  have hk:=hT.1
  rcases Kpv c with ⟨q,e⟩ | ⟨q,e⟩ | ⟨q,e⟩ | ⟨q,e⟩
  ·rw [e] at hk; exact absurd hk (by decide)
  ·rw [e] at hk; exact absurd hk (by decide)
  ·rcases q with q | rfl
   ·have:=(Kyc hs q).1 hc.1
    obtain ⟨g,hg⟩:∃ g:Nat,c=19 + (g:Int):=⟨(c - 19).toNat,by omega⟩
    subst hg
    exact .inr (.inr (.inr (.inr ⟨g,_,by omega,by omega,rfl,hP⟩)))
   ·rw [Ky9 (s:=s) (.inr rfl)] at hc; exact absurd hc.1 (by decide)
  ·rw [e] at hk; exact absurd hk (by decide)
theorem Kye {c:Int} {a b:List Int} (ha:TyS s a) (hb:TyS s b) (hc:c=1∨c=2∨∃ g:Nat,g < n∧c=3 + (g:Int)) (hl:(c :: (a ++ b)).length ≤ 40):TyS s (c :: (a ++ b)):=by
 obtain ⟨A,hA,rfl,_,hAc⟩:=Ky5 ha
 obtain ⟨B,hB,rfl,_,hBc⟩:=Ky5 hb
 have hn:=hs.tab.hi
 have hk:Kpr c=2∧Kqd s.fSize true c=true:=by
  rcases hc with rfl | rfl | ⟨g,hg,rfl⟩
  ·exact ⟨rfl,by unfold Kqd; rw [show Kpr 1=2 from rfl]; simp⟩
  ·exact ⟨rfl,by unfold Kqd; rw [show Kpr 2=2 from rfl]; simp⟩
  ·refine ⟨by rcases Kpv (3 + (g:Int)) with h | h | h | h <;> omega,(Kyb hs (by omega)).2 (by omega)⟩
 have:TyS s (Ty.bin c A B).code:=Ky6 ⟨hk.1,hA,hB⟩ hl (by rw [Ty.code,List.all_cons,List.all_append,hk.2,hAc,hBc]; rfl)
 exact this
theorem Kyf {g:Nat} (hg:g < n) {a:List Int} (ha:TyS s a) (hl:((19 + (g:Int)) :: a).length ≤ 40):TyS s ((19 + (g:Int)) :: a):=by
 obtain ⟨A,hA,rfl,_,hAc⟩:=Ky5 ha
 have hn:=hs.tab.hi
 have hk:Kpr (19 + (g:Int))=1:=by rcases Kpv (19 + (g:Int)) with h | h | h | h <;> omega
 have:TyS s (Ty.un (19 + (g:Int)) A).code:=Ky6 ⟨hk,hA⟩ hl (by rw [Ty.code,List.all_cons,(Kyc hs (by omega)).2 (by omega),hAc]; rfl)
 exact this
theorem Kyg {x:Int} (h:gN s.fSize true x=true):∃ g:Nat,x=(g:Int)∧g < n:=by
 unfold gN at h
 rw [hs.tab.size] at h
 simp at h
 exact ⟨x.toNat,by omega,by omega⟩
end
structure Kyh (s:K02) (n:Nat) (k:K00) (m:Nat):Prop where
 ok:tOk (gN s.fSize true) (yN s.fSize true) n k=true
 sz:tsz k + 1 ≤ m
theorem nd1 {s:K02} {n m:Nat} {op N:Int} {ty:List Int} {ks:List K00} (h:tOk (gN s.fSize true) (yN s.fSize true) n ⟨op,N,ty,ks⟩=true) (hm:tsz ⟨op,N,ty,ks⟩ ≤ m) (hk:Kqt op=1):∃ a,ks=[a]∧Kyh s (n + Kr3 op 0) a m:=by
 obtain ⟨h1,h2⟩:=Krq h
 obtain ⟨a,rfl⟩:=Kv5 (l:=ks) (beq_iff_eq.2 (by rw [← hk]; exact (Krv h1).2))
 simp only at h2
 rw [Kv3,Bool.and_eq_true] at h2
 rw [Kwa] at hm
 exact ⟨a,rfl,h2.1,by omega⟩
theorem nd2 {s:K02} {n m:Nat} {op N:Int} {ty:List Int} {ks:List K00} (h:tOk (gN s.fSize true) (yN s.fSize true) n ⟨op,N,ty,ks⟩=true) (hm:tsz ⟨op,N,ty,ks⟩ ≤ m) (hk:Kqt op=2):∃ a b,ks=[a,b]∧Kyh s (n + Kr3 op 0) a m∧Kyh s (n + Kr3 op 1) b m:=by
 obtain ⟨h1,h2⟩:=Krq h
 obtain ⟨a,b,rfl⟩:=Kv6 (l:=ks) (beq_iff_eq.2 (by rw [← hk]; exact (Krv h1).2))
 simp only at h2
 rw [Kv3,Kv3,Bool.and_eq_true,Bool.and_eq_true] at h2
 rw [Kwb] at hm
 exact ⟨a,b,rfl,⟨h2.1,by omega⟩,⟨h2.2.1,by omega⟩⟩
theorem nd3 {s:K02} {n m:Nat} {op N:Int} {ty:List Int} {ks:List K00} (h:tOk (gN s.fSize true) (yN s.fSize true) n ⟨op,N,ty,ks⟩=true) (hm:tsz ⟨op,N,ty,ks⟩ ≤ m) (hk:Kqt op=3):∃ a b c,ks=[a,b,c]∧Kyh s (n + Kr3 op 0) a m∧Kyh s (n + Kr3 op 1) b m∧Kyh s (n + Kr3 op 2) c m:=by
 obtain ⟨h1,h2⟩:=Krq h
 obtain ⟨a,b,c,rfl⟩:=Kwd (l:=ks) (by rw [← hk]; exact (Krv h1).2)
 simp only at h2
 rw [Kv3,Kv3,Kv3,Bool.and_eq_true,Bool.and_eq_true,Bool.and_eq_true] at h2
 rw [Kwc] at hm
 exact ⟨a,b,c,rfl,⟨h2.1,by omega⟩,⟨h2.2.1,by omega⟩,⟨h2.2.2.1,by omega⟩⟩
theorem Kyi {s:K02} {n:Nat} {t:K00} (h:tOk (gN s.fSize true) (yN s.fSize true) n t=true) (hg:Kqu t.fOp=true):gN s.fSize true t.fN=true:=by
 have h1:=(Krq h).1
 unfold Kr9 Kr7 at h1
 simp only [Bool.and_eq_true] at h1
 have h2:=h1.1.2
 have hop:(t.fOp == 0)=false∧(t.fOp == 1)=false:=by
  simp only [Kqu,Bool.or_eq_true,beq_iff_eq] at hg
  constructor <;> rw [beq_eq_false_iff_ne] <;> omega
 rw [hop.1,hop.2,hg] at h2
 simpa using h2
theorem Kyj {s:K02} {n:Nat} {t:K00} (h:tOk (gN s.fSize true) (yN s.fSize true) n t=true) (hg:Kqv t.fOp=true):TyS s t.fType:=by
 have h1:=(Krq h).1
 unfold Kr9 Kr8 at h1
 simp only [Bool.and_eq_true] at h1
 have h2:=h1.2
 rw [hg] at h2
 show yN s.fSize true t.fType=true
 simpa using h2
theorem Kyk {s:K02} {n:Nat} {t:K00} (h:tOk (gN s.fSize true) (yN s.fSize true) n t=true) (hg:t.fOp=0):∃ i:Nat,t.fN=(i:Int)∧i < n∧t.fKids=[]:=by
 have h1:=(Krq h).1
 have hl:=(Krv h1).2
 unfold Kr9 Kr7 at h1
 simp only [Bool.and_eq_true] at h1
 have h2:=h1.1.2
 rw [hg] at h2 hl
 simp [inB] at h2
 refine ⟨t.fN.toNat,by omega,by omega,?_⟩
 have:(t.fKids.length:Int)=0:=hl
 exact List.eq_nil_of_length_eq_zero (by omega)
theorem Kyl {s:K02} {n:Nat} {t:K00} (h:tOk (gN s.fSize true) (yN s.fSize true) n t=true) (hg:t.fOp=1):t.fKids=[]:=by
 have h1:=(Krq h).1
 have hl:=(Krv h1).2
 rw [hg] at hl
 have:(t.fKids.length:Int)=0:=hl
 exact List.eq_nil_of_length_eq_zero (by omega)
def Kym (t:K00) (out:List Kns) (w:Nat):Option (List (List Int)) :=
 (if (decide ((w:Int) > 0))=true then some (true) else some ((t.fOp == 9))) >>= fun v =>
 if v=true then
  (if (decide ((w:Int) > 0))=true then (idx out 0) >>= fun e=>some (e.fty) else some ([])) >>= fun first=>(Knu (t,(w:Int),first)) >>= fun r=>some (r)
 else some ([])
def Kyn (p0:Knt) (ctx:List (List Int)) (t:K00) (out:List Kns) (needs used:List (List Int)) (w:Nat) (more:List (List Int)) (y:Kns):Option (((List Kns) × (List (List Int)) × (List (List Int))) ⊕ (Kns)) :=
 if (y.ffault != 0)=true then
  (Qdw ([(w:Int)].length + y.fpath.length) 8) >>= fun _=>some (.inr (Kns.mk [] [] [] y.ffault ([(w:Int)] ++ y.fpath)))
 else
  (Knz (p0,t,(w:Int),y.fty)) >>= fun f =>
  if (f != 0)=true then some (.inr (Kns.mk [] [] [] f []))
  else
   (if (t.fOp == 10)=true then
    if ((w:Int) == 1)=true then
     (idx out 0) >>= fun e=>(Kng e.fty) >>= fun r=>(idx r 0) >>= fun q=>(Kmf (y.fty,q)) >>= fun b=>some ((!b))
    else some (false)
   else some (false)) >>= fun v =>
   if v=true then some (.inr (Kns.mk [] [] [] 3 []))
   else
    (Qdw (out.length + [y].length) 8) >>= fun _ =>
    (cut y.fneeds none (some (more.length:Int)) none) >>= fun c1 =>
    (Qdw (used.length + [c1].length) 24) >>= fun _ =>
    (cut y.fneeds (some (more.length:Int)) none none) >>= fun c2 =>
    (Qdw (needs.length + [c2].length) 24) >>= fun _ =>
    Kol (p0,ctx,t,(out ++ [y]),(needs ++ [c2]),(used ++ [c1]),(wr ((w:Int) + 1)))
theorem Kyo {p0:Knt} {ctx:List (List Int)} {t:K00} {out:List Kns} {needs used:List (List Int)} {w:Nat} {k:K00} {more:List (List Int)} {y:Kns} (hw:w < t.fKids.length) (hk:idx t.fKids (w:Int)=some k) (hm:Kym t out w=some more)
  (hc:ctx.length + more.length ≤ 1000000) (hy:Kok (p0,more ++ ctx,k)=some y):Kol (p0,ctx,t,out,needs,used,(w:Int))=Kyn p0 ctx t out needs used w more y:=by
 rw [Kol.eq_def]
 simp only
 rw [Kop hw,if_pos rfl,hk,bs]
 have key:∀ {β:Type} (R:List (List Int)→Option β),((if (decide ((w:Int) > 0))=true then some (true) else some ((t.fOp == 9))) >>= fun v =>
   (if v=true then (if (decide ((w:Int) > 0))=true then (idx out 0) >>= fun e=>some (e.fty) else some ([])) >>= fun first=>(Knu (t,(w:Int),first)) >>= fun r=>some (r) else some ([])) >>= R)=(Kym t out w >>= R):=fun R=>by
  unfold Kym
  simp only [Option.bind_eq_bind,Option.bind_assoc]
 refine (key _).trans ?_
 rw [hm,bs,Ky3 [more,ctx] (by simp) (by simp; omega),bs]
 simp only [List.flatten_cons,List.flatten_nil,List.append_nil]
 rw [hy,bs]
 rfl
theorem Kyp {p0:Knt} {ctx:List (List Int)} {t:K00} {out:List Kns} {needs used:List (List Int)} {w:Nat} (hw:t.fKids.length ≤ w):Kol (p0,ctx,t,out,needs,used,(w:Int))=some (.inl (out,needs,used)):=by
 rw [Kol.eq_def]
 simp only
 rw [Koq hw]; rfl
theorem Kyq {α:Type} {l:List α} {m:Nat} (h:m ≤ l.length):cut l none (some (m:Int)) none=some (l.take m):=by
 unfold cut
 simp only [Option.getD_none,Option.getD_some,Int.toNat_natCast,Int.toNat_zero,List.drop_zero]
 rw [if_pos (by omega)]
theorem Kyr {α:Type} {l:List α} {m:Nat} (h:m ≤ l.length):cut l (some (m:Int)) none none=some (l.drop m):=by
 unfold cut
 simp only [Option.getD_none,Option.getD_some,Int.toNat_natCast]
 rw [if_pos (by omega),List.take_length]
def Kys (t:K00) (out:List Kns) (w:Nat) (y:Kns):Option Bool :=
 if (t.fOp == 10)=true then
  if ((w:Int) == 1)=true then
   (idx out 0) >>= fun e=>(Kng e.fty) >>= fun r=>(idx r 0) >>= fun q=>(Kmf (y.fty,q)) >>= fun b=>some ((!b))
  else some (false)
 else some (false)
section
variable {p0:Knt} {ctx:List (List Int)} {t:K00} {out:List Kns} {needs used:List (List Int)} {w:Nat} {more:List (List Int)} {y:Kns}
theorem Kyt (h:y.ffault ≠ 0) (hp:y.fpath.length ≤ 1000000):Kyn p0 ctx t out needs used w more y=some (.inr ⟨[],[],[],y.ffault,(w:Int) :: y.fpath⟩):=by
 unfold Kyn
 rw [if_pos (bne_iff_ne.2 h),Krs (by simp; omega),bs]
 rfl
theorem Kyu {f:Int} (h:y.ffault=0) (hf:Knz (p0,t,(w:Int),y.fty)=some f) (hf0:f ≠ 0):Kyn p0 ctx t out needs used w more y=some (.inr ⟨[],[],[],f,[]⟩):=by
 unfold Kyn
 rw [if_neg (by simp [h]),hf,bs,if_pos (bne_iff_ne.2 hf0)]
theorem Kyv (h:y.ffault=0) (hf:Knz (p0,t,(w:Int),y.fty)=some 0) (ha:Kys t out w y=some true):Kyn p0 ctx t out needs used w more y=some (.inr ⟨[],[],[],3,[]⟩):=by
 unfold Kyn
 rw [if_neg (by simp [h]),hf,bs,if_neg (by simp)]
 refine (congrArg (· >>= _) (show _=some true from ha)).trans ?_
 rw [bs,if_pos rfl]
theorem Kyw {ns:List Nat} (h:y.ffault=0) (hf:Knz (p0,t,(w:Int),y.fty)=some 0) (ha:Kys t out w y=some false) (hn:y.fneeds=Kwq ns) (hl:more.length ≤ ns.length)
  (h1:out.length ≤ 1000000) (h2:needs.length ≤ 1000000) (h3:used.length ≤ 1000000) (h4:w ≤ 1000000) :
  Kyn p0 ctx t out needs used w more y=Kol (p0,ctx,t,(out ++ [y]),(needs ++ [Kwq (ns.drop more.length)]),(used ++ [Kwq (ns.take more.length)]),((w + 1:Nat):Int)):=by
 unfold Kyn
 rw [if_neg (by simp [h]),hf,bs,if_neg (by simp)]
 refine (congrArg (· >>= _) (show _=some false from ha)).trans ?_
 rw [bs,if_neg (by simp),Krs (by simp; omega),bs,hn,Kyq (by rw [Kwr]; exact hl),bs,Krs (by simp; omega),bs,Kyr (by rw [Kwr]; exact hl),bs,Krs (by simp; omega),bs,Koo (by omega),Kwt,Kws]
theorem Kyx {r:Kns} (hc:ctx.length ≤ 1000000) (h:Kol (p0,ctx,t,[],[],[],((0:Nat):Int))=some (.inr r)):Kok (p0,ctx,t)=some r:=by
 rw [Kok.eq_def]
 simp only
 rw [Kuv (by simp; omega),bs,show (0:Int)=((0:Nat):Int) from rfl,h]
 rfl
theorem Kyy {o:List Kns} {nd us:List (List Int)} {f:Int} {g:Kns} (hc:ctx.length ≤ 1000000) (h:Kol (p0,ctx,t,[],[],[],((0:Nat):Int))=some (.inl (o,nd,us)))
  (hf:Koj (p0,⟨[],Kwq (List.replicate ctx.length 0),o,0,[]⟩,ctx,t,nd,us)=some (f,g)) (hg:g.fpath=[]:=by rfl):Kok (p0,ctx,t)=some (if f=0 then ⟨g.fty,g.fneeds,g.fkids,0,g.fpath⟩ else ⟨[],[],[],f,[]⟩):=by
 have e:Kwq (List.replicate ctx.length 0)=List.replicate (Int.toNat (ctx.length:Int)) (0:Int):=by
  unfold Kwq; rw [List.map_replicate,Int.toNat_natCast]; rfl
 rw [e] at hf
 rw [Kok.eq_def]
 simp only
 rw [Kuv (by simp; omega),bs,show Kol (p0,ctx,t,[],[],[],0)=some (.inl (o,nd,us)) from h,bs]
 simp only
 rw [hf,bs]
 simp only
 by_cases hz:f=0
 ·subst hz; first | (rw [if_neg (by simp),if_pos rfl]; done) | rw [if_neg (by simp),if_pos rfl,hg]
 ·rw [if_pos (bne_iff_ne.2 hz),if_neg hz]
theorem Kyz (h:t.fOp ≠ 10):Kys t out w y=some false:=by
 unfold Kys
 rw [if_neg (by simpa using h)]
theorem Kz0 (h:w ≠ 1):Kys t out w y=some false:=by
 unfold Kys
 have:((w:Int) == 1)=false:=by rw [beq_eq_false_iff_ne]; omega
 rw [this]
 simp
end
section
variable {s:K02} {n:Nat} (hs:Kwv s n) {N:Int} {ty:List Int} {ks:List K00} {w:Nat} {c:Int} {r:List Int}
theorem Kz1 {op:Int} (h:(op=4∨op=6∨op=7∨op=9∨op=11)∨(w ≠ 0∧(op=3∨op=5∨op=8∨op=10∨op=12))):Knz (⟨s⟩,⟨op,N,ty,ks⟩,(w:Int),c :: r)=some 0:=by
 have hw:∀ hw:w ≠ 0,((w:Int) == 0)=false:=fun hw=>by rw [beq_eq_false_iff_ne]; omega
 unfold Knz
 rcases h with (rfl | rfl | rfl | rfl | rfl) | ⟨h0,(rfl | rfl | rfl | rfl | rfl)⟩
 all_goals first | simp [Kt1,Kpx,hw h0] | (by_cases h0:w=0 <;> simp [Kt1,Kpx,h0])
theorem Kz2:Knz (⟨s⟩,⟨2,N,ty,ks⟩,(w:Int),c :: r)=some (if (Kpw c).1=0 then 0 else 2):=by
 unfold Knz
 by_cases h:(Kpw c).1=0 <;> simp [Kt1,Kpx,h]
theorem Kz3:Knz (⟨s⟩,⟨3,N,ty,ks⟩,((0:Nat):Int),c :: r)=some (if (Kpw c).1=0 then 0 else 2):=by
 unfold Knz
 by_cases h:(Kpw c).1=0 <;> simp [Kt1,Kpx,h]
theorem Kz4:Knz (⟨s⟩,⟨10,N,ty,ks⟩,((0:Nat):Int),c :: r)=some (if (Kpw c).1=3 then 0 else 6):=by
 unfold Knz
 by_cases h:(Kpw c).1=3 <;> simp [Kt1,Kpx,h]
include hs
theorem Kz5 {g:Nat} (hg:g < n):Knz (⟨s⟩,⟨5,(g:Int),ty,ks⟩,((0:Nat):Int),c :: r)=some (if (Kpw c).1=1 then (if le s n 1 g then 0 else 8) else 4):=by
 have hl:=iLe hs.tab (Kwx hs) hg
 unfold Knz
 by_cases h:(Kpw c).1=1 <;> cases hle:le s n 1 g <;> simp [Kt1,Kpx,h,show Kn9 (s,1,(g:Int))=some (le s n 1 g) from hl,hle]
theorem Kz6 {g:Nat} (hg:g < n):Knz (⟨s⟩,⟨8,(g:Int),ty,ks⟩,((0:Nat):Int),c :: r)=some (if (Kpw c).1=2 then (if le s n 1 g then 0 else 8) else 5):=by
 have hl:=iLe hs.tab (Kwx hs) hg
 unfold Knz
 by_cases h:(Kpw c).1=2 <;> cases hle:le s n 1 g <;> simp [Kt1,Kpx,h,show Kn9 (s,1,(g:Int))=some (le s n 1 g) from hl,hle]
theorem Kz7 {g:Nat} (hg:g < n):Knz (⟨s⟩,⟨12,(g:Int),ty,ks⟩,((0:Nat):Int),c :: r)=some (if (Kpw c).1=4 then (if le s n 1 g then 0 else 8) else 7):=by
 have hl:=iLe hs.tab (Kwx hs) hg
 unfold Knz
 by_cases h:(Kpw c).1=4 <;> cases hle:le s n 1 g <;> simp [Kt1,Kpx,h,show Kn9 (s,1,(g:Int))=some (le s n 1 g) from hl,hle]
end
def Kz8 (ty:List Int) (ns:List Nat) (kids:List Kns):Int × Kns:=(if ty.length > 40 then 3 else 0,⟨ty,Kwq ns,kids,0,[]⟩)
theorem Kz9 {α:Type} (x:α) (l:List α):idx (x :: l) 0=some x:=rfl
theorem Kza {α:Type} (x y:α) (l:List α):idx (x :: y :: l) 1=some y:=rfl
theorem Kzb {α:Type} (x y z:α) (l:List α):idx (x :: y :: z :: l) 2=some z:=rfl
section
variable {s:K02} {n:Nat} (hs:Kwv s n) {N:Int} {ty:List Int} {ks:List K00} {ctx us:List (List Int)} {z:List Int} {y0 y1 y2:Kns} {a b d:List Nat}
theorem Kzc {i:Nat} {q:List Int} {zs:List Nat} (hi:ctx[i]?=some q) (hz:i < zs.length) (hq:q.length ≤ 40):Koj (⟨s⟩,⟨[],Kwq zs,[],0,[]⟩,ctx,⟨0,(i:Int),ty,ks⟩,[],[])=some (Kz8 q (zs.set i 1) []):=by
 obtain ⟨h1,h2⟩:=List.getElem?_eq_some_iff.1 hi
 have e1:idx ctx (i:Int)=some q:=by rw [Kon h1,h2]
 have e2:idx (Kwq zs) (i:Int)=some ((zs[i]:Nat):Int):=by rw [Kon (by rw [Kwr]; exact hz)]; simp [Kwq]
 have e3:List.set (Kwq zs) i 1=Kwq (zs.set i 1):=by unfold Kwq; rw [List.map_set]; rfl
 have h40:¬ ((q.length:Int) > 40):=by omega
 unfold Koj Koi Kz8
 simp [e1,e2,e3,Ks6 q (by omega),show ¬ (40 < (q.length:Int)) by omega,show ¬ (40 < q.length) by omega]
theorem Kzd {zs:List Nat}:Koj (⟨s⟩,⟨[],Kwq zs,[],0,[]⟩,ctx,⟨1,N,ty,ks⟩,[],[])=some (Kz8 [0] zs []):=by
 unfold Koj Koi Kz8
 simp
theorem Kze (hy:y0.fty.length ≤ 1000) (ht:ty.length ≤ 1000):Koj (⟨s⟩,⟨[],z,[y0],0,[]⟩,ctx,⟨6,N,ty,ks⟩,[Kwq a],us)=some (Kz8 (2 :: (y0.fty ++ ty)) a [y0]):=by
 have hc:=Kxz [[2],y0.fty,ty] (by simp) (by simp; omega)
 unfold Koj Koi Kz8 Ko3
 simp only [List.flatten_cons,List.flatten_nil,List.append_nil,List.singleton_append,List.cons_append,List.nil_append] at hc
 simp [Kz9,Kza,hc]
 split <;> rename_i q40
 ·rw [if_pos (by omega)]
 ·rw [if_neg (by omega)]
theorem Kzf (hy:y0.fty.length ≤ 1000) (ht:ty.length ≤ 1000):Koj (⟨s⟩,⟨[],z,[y0],0,[]⟩,ctx,⟨7,N,ty,ks⟩,[Kwq a],us)=some (Kz8 (2 :: (ty ++ y0.fty)) a [y0]):=by
 have hc:=Kxz [[2],ty,y0.fty] (by simp) (by simp; omega)
 unfold Koj Koi Kz8 Ko3
 simp only [List.flatten_cons,List.flatten_nil,List.append_nil,List.singleton_append,List.cons_append,List.nil_append] at hc
 simp [Kz9,Kza,hc]
 split <;> rename_i q40
 ·rw [if_pos (by omega)]
 ·rw [if_neg (by omega)]
include hs
theorem Kzg (ha:Kx6 n a) (hb:Kx6 n b) (hl:a.length ≤ 1000000) (hab:a.length=b.length):Koj (⟨s⟩,⟨[],z,[y0,y1],0,[]⟩,ctx,⟨2,N,ty,ks⟩,[Kwq a,Kwq b],us)=some (Kz8 [0] (Kx3 s n a b) [y0,y1]):=by
 have h:=Kxl hs a b ha hb (by omega) hab
 unfold Koj Koi Kz8
 simp [Kz9,Kza,h]
theorem Kzh (ha:Kx6 n a) (hb:Kx6 n b) (hd:Kx6 n d) (hl:a.length ≤ 1000000) (hab:a.length=b.length) (had:a.length=d.length) (h2:y2.fty.length ≤ 1000) (h1:y1.fty.length ≤ 40) :
  Koj (⟨s⟩,⟨[],z,[y0,y1,y2],0,[]⟩,ctx,⟨3,N,ty,ks⟩,[Kwq a,Kwq b,Kwq d],us)=some (if y1.fty=y2.fty then Kz8 y1.fty (Kx3 s n a (Kx5 s n b d)) [y0,y1,y2] else (3,⟨[],z,[y0,y1,y2],0,[]⟩)):=by
 have hj:=Kxn hs b d hb hd (by omega) (by omega)
 have hlj:(Kx5 s n b d).length=a.length:=by unfold Kx5; rw [List.length_zipWith]; omega
 have h:=Kxl hs a (Kx5 s n b d) ha (Kxb hs hb hd) (by omega) hlj.symm
 have he:=Kv0 y1.fty y2.fty (by omega)
 unfold Koj Koi Kz8 Ko3
 by_cases hq:y1.fty=y2.fty
 ·rw [show (y1.fty == y2.fty)=true from beq_iff_eq.2 hq] at he
  rw [if_pos hq]
  simp [Kz9,Kza,Kzb,he,hj,h,show ¬ (40 < (y1.fty.length:Int)) by omega,show ¬ (40 < y1.fty.length) by omega]
 ·rw [show (y1.fty == y2.fty)=false from beq_eq_false_iff_ne.2 hq] at he
  rw [if_neg hq]
  simp [Kz9,Kza,Kzb,he]
theorem Kzi (ha:Kx6 n a) (hb:Kx6 n b) (hl:a.length ≤ 1000000) (hab:a.length=b.length) (h0:y0.fty.length ≤ 1000) (h1:y1.fty.length ≤ 1000) :
  Koj (⟨s⟩,⟨[],z,[y0,y1],0,[]⟩,ctx,⟨4,N,ty,ks⟩,[Kwq a,Kwq b],us)=some (Kz8 (1 :: (y0.fty ++ y1.fty)) (Kx3 s n a b) [y0,y1]):=by
 have h:=Kxl hs a b ha hb (by omega) hab
 have hc:=Kxz [[1],y0.fty,y1.fty] (by simp) (by simp; omega)
 unfold Koj Koi Kz8 Ko3
 simp only [List.flatten_cons,List.flatten_nil,List.append_nil,List.singleton_append,List.cons_append,List.nil_append] at hc
 simp [Kz9,Kza,hc,h]
 split <;> rename_i q40
 ·rw [if_pos (by omega)]
 ·rw [if_neg (by omega)]
theorem Kzj {g:Nat} (hg:g < n) {u:List Nat} (hu:Kx6 n u) (hul:u.length ≤ 1000000) (hy:y0.fty.length ≤ 1000) (ht:ty.length ≤ 1000) :
  Koj (⟨s⟩,⟨[],z,[y0],0,[]⟩,ctx,⟨9,(g:Int),ty,ks⟩,[Kwq a],[Kwq u])=some (if (u.all fun x=>le s n x g)=true then Kz8 ((3 + (g:Int)) :: (ty ++ y0.fty)) a [y0] else (9,⟨[],z,[y0],0,[]⟩)):=by
 have hn:=hs.tab.hi
 have e:=Kxr hs g hg u hu (by omega)
 have hw:wr (3 + (g:Int))=3 + (g:Int):=Kom (by omega) (by omega)
 have hc:=Kxz [[3 + (g:Int)],ty,y0.fty] (by simp) (by simp; omega)
 unfold Koj Koi Kz8 Ko3
 simp only [List.flatten_cons,List.flatten_nil,List.append_nil,List.singleton_append,List.cons_append,List.nil_append] at hc
 cases hq:(u.all fun x=>le s n x g) with
 | true =>
  rw [hq] at e
  simp [Kz9,Kza,e,hc,hw]
  split <;> rename_i q40
  ·rw [if_pos (by omega)]
  ·rw [if_neg (by omega)]
 | false =>
  rw [hq] at e
  simp [Kz9,Kza,e]
theorem Kzk {g:Nat} (hg:g < n) (ha:Kx6 n a) (hl:a.length ≤ 1000000) (hy:y0.fty.length ≤ 1000) :
  Koj (⟨s⟩,⟨[],z,[y0],0,[]⟩,ctx,⟨11,(g:Int),ty,ks⟩,[Kwq a],us)=some (Kz8 ((19 + (g:Int)) :: y0.fty) (Kx4 s n g a) [y0]):=by
 have hn:=hs.tab.hi
 have e:=Kxp hs g hg a ha (by omega)
 have hw:wr (19 + (g:Int))=19 + (g:Int):=Kom (by omega) (by omega)
 have hc:=Kxz [[19 + (g:Int)],y0.fty] (by simp) (by simp; omega)
 unfold Koj Koi Kz8 Ko3
 simp only [List.flatten_cons,List.flatten_nil,List.append_nil,List.singleton_append,List.cons_append,List.nil_append] at hc
 simp [Kz9,Kza,hc,hw,e]
 split <;> rename_i q40
 ·rw [if_pos (by omega)]
 ·rw [if_neg (by omega)]
theorem Kzl {g:Nat} (hg:g < n) {p q:List Int} (hty:y0.fty=(3 + (g:Int)) :: (p ++ q)) (hP:Ky7 s (3 + (g:Int)) p q) (ha:Kx6 n a) (hb:Kx6 n b) (hl:a.length ≤ 1000000) (hab:a.length=b.length) :
  Koj (⟨s⟩,⟨[],z,[y0,y1],0,[]⟩,ctx,⟨10,N,ty,ks⟩,[Kwq a,Kwq b],us)=some (Kz8 q (Kx3 s n a (Kx4 s n g b)) [y0,y1]):=by
 have hn:=hs.tab.hi
 have e:=Kxp hs g hg b hb (by omega)
 have hlj:(Kx4 s n g b).length=a.length:=by unfold Kx4; rw [List.length_map]; omega
 have h:=Kxl hs a (Kx4 s n g b) ha (Kxa hs hg hb) (by omega) hlj.symm
 have hsh:Kpw (3 + (g:Int))=(3,(g:Int)):=by
  rcases Kpy (3 + (g:Int)) with h | h | h | h | h | h | h | h <;> first | omega | (obtain ⟨_,e⟩:=h; rw [e]; congr 1; omega)
 have hq:=Ky4 hP.yb
 have pp:=hP.pp
 rw [← hty] at pp
 have i0:idx y0.fty 0=some (3 + (g:Int)):=by rw [hty]; rfl
 unfold Koj Koi Kz8 Ko3
 simp [Kz9,Kza,i0,Kpx,hsh,pp,e,h,show ¬ (40 < (q.length:Int)) by omega,show ¬ (40 < q.length) by omega]
theorem Kzm {g:Nat} (hg:g < n) {u:List Nat} {us':List Int} (hu:Kx6 n u) (hul:u.length ≤ 1000000) (ha:Kx6 n a) (hb:Kx6 n b) (hl:a.length ≤ 1000000) (hab:a.length=b.length) (h1:y1.fty.length ≤ 40) :
  Koj (⟨s⟩,⟨[],z,[y0,y1],0,[]⟩,ctx,⟨5,(g:Int),ty,ks⟩,[Kwq a,Kwq b],[us',Kwq u])=some (if (u.all fun x=>le s n x g)=true then Kz8 y1.fty (Kx3 s n (Kx4 s n g a) b) [y0,y1] else (9,⟨[],z,[y0,y1],0,[]⟩)):=by
 have e:=Kxr hs g hg u hu (by omega)
 have e2:=Kxp hs g hg a ha (by omega)
 have hlj:(Kx4 s n g a).length=a.length:=by unfold Kx4; rw [List.length_map]
 have h:=Kxl hs (Kx4 s n g a) b (Kxa hs hg ha) hb (by omega) (by omega)
 unfold Koj Koi Kz8 Ko3
 cases hq:(u.all fun x=>le s n x g) with
 | true =>
  rw [hq] at e
  simp [Kz9,Kza,e,e2,h,show ¬ (40 < (y1.fty.length:Int)) by omega,show ¬ (40 < y1.fty.length) by omega]
 | false =>
  rw [hq] at e
  simp [Kz9,Kza,e]
theorem Kzn {g m:Nat} (hg:g < n) (hm:m < n) {p:List Int} (hty:y0.fty=(19 + (m:Int)) :: p) {u:List Nat} {us':List Int} (hu:Kx6 n u) (hul:u.length ≤ 1000000) (ha:Kx6 n a) (hb:Kx6 n b) (hl:a.length ≤ 1000000) (hab:a.length=b.length) (h1:y1.fty.length ≤ 40) :
  Koj (⟨s⟩,⟨[],z,[y0,y1],0,[]⟩,ctx,⟨12,(g:Int),ty,ks⟩,[Kwq a,Kwq b],[us',Kwq u])=some (if (u.all fun x=>le s n x (ti s n g m))=true then Kz8 y1.fty (Kx3 s n (Kx4 s n g a) b) [y0,y1] else (9,⟨[],z,[y0,y1],0,[]⟩)):=by
 have hn:=hs.tab.hi
 have e0:=Kp2 hs.tab hg hm
 have e:=Kxr hs (ti s n g m) (Kov hs.tab hg hm) u hu (by omega)
 have e2:=Kxp hs g hg a ha (by omega)
 have hlj:(Kx4 s n g a).length=a.length:=by unfold Kx4; rw [List.length_map]
 have h:=Kxl hs (Kx4 s n g a) b (Kxa hs hg ha) hb (by omega) (by omega)
 have hsh:Kpw (19 + (m:Int))=(4,(m:Int)):=by
  rcases Kpy (19 + (m:Int)) with h | h | h | h | h | h | h | h <;> first | omega | (obtain ⟨_,e⟩:=h; rw [e]; congr 1; omega)
 have i0:idx y0.fty 0=some (19 + (m:Int)):=by rw [hty]; rfl
 unfold Koj Koi Kz8 Ko3
 cases hq:(u.all fun x=>le s n x (ti s n g m)) with
 | true =>
  rw [hq] at e
  simp [Kz9,Kza,i0,Kpx,hsh,e0,e,e2,h,show ¬ (40 < (y1.fty.length:Int)) by omega,show ¬ (40 < y1.fty.length) by omega]
 | false =>
  rw [hq] at e
  simp [Kz9,Kza,i0,Kpx,hsh,e0,e]
theorem Kzo {g:Nat} (hg:g < n) {u v:List Nat} {us':List Int} (hu:Kx6 n u) (hul:u.length ≤ 1000000) (hv:Kx6 n v) (hvl:v.length ≤ 1000000) (ha:Kx6 n a) (hb:Kx6 n b) (hd:Kx6 n d) (hl:a.length ≤ 1000000) (hab:a.length=b.length) (had:a.length=d.length) (h2:y2.fty.length ≤ 1000) (h1:y1.fty.length ≤ 40) :
  Koj (⟨s⟩,⟨[],z,[y0,y1,y2],0,[]⟩,ctx,⟨8,(g:Int),ty,ks⟩,[Kwq a,Kwq b,Kwq d],[us',Kwq u,Kwq v]) =
   some (if y1.fty=y2.fty then (if (u.all fun x=>le s n x g)=true∧(v.all fun x=>le s n x g)=true then Kz8 y1.fty (Kx3 s n (Kx4 s n g a) (Kx5 s n b d)) [y0,y1,y2] else (9,⟨[],z,[y0,y1,y2],0,[]⟩)) else (3,⟨[],z,[y0,y1,y2],0,[]⟩)):=by
 have e:=Kxr hs g hg u hu (by omega)
 have e':=Kxr hs g hg v hv (by omega)
 have e2:=Kxp hs g hg a ha (by omega)
 have hj:=Kxn hs b d hb hd (by omega) (by omega)
 have hlj:(Kx5 s n b d).length=a.length:=by unfold Kx5; rw [List.length_zipWith]; omega
 have hls:(Kx4 s n g a).length=a.length:=by unfold Kx4; rw [List.length_map]
 have h:=Kxl hs (Kx4 s n g a) (Kx5 s n b d) (Kxa hs hg ha) (Kxb hs hb hd) (by omega) (by omega)
 have he:=Kv0 y1.fty y2.fty (by omega)
 unfold Koj Koi Kz8 Ko3
 by_cases hq:y1.fty=y2.fty
 ·rw [show (y1.fty == y2.fty)=true from beq_iff_eq.2 hq] at he
  rw [if_pos hq]
  cases hu':(u.all fun x=>le s n x g) with
  | false =>
   rw [hu'] at e
   simp [Kz9,Kza,Kzb,he,e]
  | true =>
   rw [hu'] at e
   cases hv':(v.all fun x=>le s n x g) with
   | false =>
    rw [hv'] at e'
    simp [Kz9,Kza,Kzb,he,e,e']
   | true =>
    rw [hv'] at e'
    simp [Kz9,Kza,Kzb,he,e,e',e2,hj,h,show ¬ (40 < (y1.fty.length:Int)) by omega,show ¬ (40 < y1.fty.length) by omega]
 ·rw [show (y1.fty == y2.fty)=false from beq_eq_false_iff_ne.2 hq] at he
  rw [if_neg hq]
  simp [Kz9,Kza,Kzb,he]
end
def Kzp (t:K00) (i:Nat) (kids:List Kns):List (List Int):=(Knu (t,(i:Int),(match kids with | []=>[] | y :: _=>y.fty))).getD []
structure Kzq (s:K02) (ctx:List (List Int)) (t:K00) (kids:List Kns) (i:Nat) (k:K00) (y:Kns):Prop where
 im:Kok (⟨s⟩,Kzp t i kids ++ ctx,k)=some y
 fa:y.ffault=0
 ty:∀ q ∈ Kzp t i kids,TyS s q
 ln:(Kzp t i kids).length=Kr3 t.fOp i
structure Kzr (s:K02) (n:Nat) (ctx:List (List Int)) (t:K00) (x:K03) (y:Kns):Prop where
 sp:Ke8 (s,ctx,t)=some x
 im:Kok (⟨s⟩,ctx,t)=some y
 ty:y.fty=x.fty
 ne:y.fneeds=x.fneeds
 fa:y.ffault=x.ffault
 pa:y.fpath=x.fpath
 pl:x.fpath.length + 1 ≤ tsz t
 bd:x.ffault ≠ 0→x.fty=[]∧x.fneeds=[]
 gd:x.ffault=0→TyS s x.fty∧x.fpath=[]∧∃ ns:List Nat,x.fneeds=Kwq ns∧ns.length=ctx.length∧Kx6 n ns
 kd:x.ffault=0→y.fkids.length=t.fKids.length∧∀ (i:Nat) (k:K00),t.fKids[i]?=some k→∃ yk,y.fkids[i]?=some yk∧Kzq s ctx t y.fkids i k yk
section
variable {s:K02} {n:Nat} {ctx:List (List Int)} {t:K00}
theorem Kzr.bad {f:Int} {p:List Int} (sp:Ke8 (s,ctx,t)=some ⟨[],[],f,p⟩) (im:Kok (⟨s⟩,ctx,t)=some ⟨[],[],[],f,p⟩) (hf:f ≠ 0) (hp:p.length + 1 ≤ tsz t):∃ x y,Kzr s n ctx t x y :=
 ⟨_,_,{ sp:=sp,im:=im,ty:=rfl,ne:=rfl,fa:=rfl,pa:=rfl,pl:=hp,bd:=fun _=>⟨rfl,rfl⟩,gd:=fun h=>absurd h hf,kd:=fun h=>absurd h hf }⟩
theorem Kzr.good {q:List Int} {ns:List Nat} {kids:List Kns} (sp:Ke8 (s,ctx,t)=some ⟨q,Kwq ns,0,[]⟩) (im:Kok (⟨s⟩,ctx,t)=some ⟨q,Kwq ns,kids,0,[]⟩) (hp:1 ≤ tsz t) (hq:TyS s q) (hl:ns.length=ctx.length) (hb:Kx6 n ns)
  (kl:kids.length=t.fKids.length) (kd:∀ (i:Nat) (k:K00),t.fKids[i]?=some k→∃ yk,kids[i]?=some yk∧Kzq s ctx t kids i k yk):∃ x y,Kzr s n ctx t x y :=
 ⟨_,_,{ sp:=sp,im:=im,ty:=rfl,ne:=rfl,fa:=rfl,pa:=rfl,pl:=by simpa using hp,bd:=fun h=>absurd rfl h,gd:=fun _=>⟨hq,rfl,ns,rfl,hl,hb⟩,kd:=fun _=>⟨kl,kd⟩ }⟩
theorem Kzr.done {q:List Int} {ns:List Nat} {kids:List Kns} (sp:Ke8 (s,ctx,t)=Kds (q,Kwq ns)) (im:Kok (⟨s⟩,ctx,t)=some (if (Kz8 q ns kids).1=0 then ⟨(Kz8 q ns kids).2.fty,(Kz8 q ns kids).2.fneeds,(Kz8 q ns kids).2.fkids,0,(Kz8 q ns kids).2.fpath⟩ else ⟨[],[],[],(Kz8 q ns kids).1,[]⟩)) (hp:1 ≤ tsz t)
  (hq:q.length ≤ 40→TyS s q) (hl:ns.length=ctx.length) (hb:Kx6 n ns) (kl:kids.length=t.fKids.length) (kd:∀ (i:Nat) (k:K00),t.fKids[i]?=some k→∃ yk,kids[i]?=some yk∧Kzq s ctx t kids i k yk):∃ x y,Kzr s n ctx t x y:=by
 unfold Kds Kdi at sp
 simp only at sp
 unfold Kz8 at im
 by_cases h:q.length > 40
 ·rw [decide_eq_true (by omega),if_pos rfl,bs] at sp
  rw [if_pos h,if_neg (by simp)] at im
  exact Kzr.bad sp im (by decide) (by simpa using hp)
 ·rw [decide_eq_false (by omega),if_neg (by decide)] at sp
  rw [if_neg h,if_pos rfl] at im
  exact Kzr.good sp im hp (hq (by omega)) hl hb kl kd
theorem Kzs {i:Nat} {k:K00} {x:K03} {y:Kns} {c:List (List Int)} (hk:t.fKids[i]?=some k) (h:Kzr s n c k x y) (hf:x.ffault=0):Kea (s,c,t,(i:Int))=some x:=by
 obtain ⟨h1,h2⟩:=List.getElem?_eq_some_iff.1 hk
 rw [Kea.eq_def]
 simp only
 rw [Kon h1,h2,bs,h.sp,bs,if_neg (by simp [hf]),bs]
theorem Kzt {i:Nat} {k:K00} {x:K03} {y:Kns} {c:List (List Int)} (hk:t.fKids[i]?=some k) (h:Kzr s n c k x y) (hz:tsz k ≤ 1000000) (hf:x.ffault ≠ 0):Kea (s,c,t,(i:Int))=some ⟨[],[],x.ffault,(i:Int) :: x.fpath⟩:=by
 obtain ⟨h1,h2⟩:=List.getElem?_eq_some_iff.1 hk
 have hp:=h.pl
 obtain ⟨q1,q2⟩:=h.bd hf
 rw [Kea.eq_def]
 simp only
 rw [Kon h1,h2,bs,h.sp,bs,if_pos (bne_iff_ne.2 hf),Krs (by simp; omega),bs,bs,q1,q2]
 rfl
variable {out:List Kns} {nd us:List (List Int)} {w:Nat} {k:K00} {m:List (List Int)} {x:K03} {y:Kns}
theorem Kzu (hk:t.fKids[w]?=some k) (hm:Kym t out w=some m) (r:Kzr s n (m ++ ctx) k x y) (hz:tsz k ≤ 1000000) (hc:ctx.length + m.length ≤ 1000000) (hf:x.ffault ≠ 0) :
  Kol (⟨s⟩,ctx,t,out,nd,us,(w:Int))=some (.inr ⟨[],[],[],x.ffault,(w:Int) :: x.fpath⟩):=by
 obtain ⟨h1,h2⟩:=List.getElem?_eq_some_iff.1 hk
 have hp:=r.pl
 rw [Kyo h1 (by rw [Kon h1,h2]) hm hc r.im,Kyt (by rw [r.fa]; exact hf) (by rw [r.pa]; omega),r.fa,r.pa]
theorem Kzv {f:Int} (hk:t.fKids[w]?=some k) (hm:Kym t out w=some m) (r:Kzr s n (m ++ ctx) k x y) (hc:ctx.length + m.length ≤ 1000000) (hf:x.ffault=0) (h:Knz (⟨s⟩,t,(w:Int),x.fty)=some f) (hf0:f ≠ 0) :
  Kol (⟨s⟩,ctx,t,out,nd,us,(w:Int))=some (.inr ⟨[],[],[],f,[]⟩):=by
 obtain ⟨h1,h2⟩:=List.getElem?_eq_some_iff.1 hk
 rw [Kyo h1 (by rw [Kon h1,h2]) hm hc r.im,Kyu (by rw [r.fa]; exact hf) (by rw [r.ty]; exact h) hf0]
theorem Kzw (hk:t.fKids[w]?=some k) (hm:Kym t out w=some m) (r:Kzr s n (m ++ ctx) k x y) (hc:ctx.length + m.length ≤ 1000000) (hf:x.ffault=0) (h:Knz (⟨s⟩,t,(w:Int),x.fty)=some 0) (ha:Kys t out w y=some true) :
  Kol (⟨s⟩,ctx,t,out,nd,us,(w:Int))=some (.inr ⟨[],[],[],3,[]⟩):=by
 obtain ⟨h1,h2⟩:=List.getElem?_eq_some_iff.1 hk
 rw [Kyo h1 (by rw [Kon h1,h2]) hm hc r.im,Kyv (by rw [r.fa]; exact hf) (by rw [r.ty]; exact h) ha]
theorem Kzx {ns:List Nat} (hk:t.fKids[w]?=some k) (hm:Kym t out w=some m) (r:Kzr s n (m ++ ctx) k x y) (hc:ctx.length + m.length ≤ 1000000) (hf:x.ffault=0) (h:Knz (⟨s⟩,t,(w:Int),x.fty)=some 0) (ha:Kys t out w y=some false)
  (hn:x.fneeds=Kwq ns) (hl:m.length ≤ ns.length) (h1':out.length ≤ 1000000) (h2':nd.length ≤ 1000000) (h3':us.length ≤ 1000000) (h4':w ≤ 1000000) :
  Kol (⟨s⟩,ctx,t,out,nd,us,(w:Int))=Kol (⟨s⟩,ctx,t,(out ++ [y]),(nd ++ [Kwq (ns.drop m.length)]),(us ++ [Kwq (ns.take m.length)]),((w + 1:Nat):Int)):=by
 obtain ⟨h1,h2⟩:=List.getElem?_eq_some_iff.1 hk
 rw [Kyo h1 (by rw [Kon h1,h2]) hm hc r.im,Kyw (by rw [r.fa]; exact hf) (by rw [r.ty]; exact h) ha (by rw [r.ne]; exact hn) hl h1' h2' h3' h4']
end
theorem Kzy {op N:Int} {ty:List Int} {ks:List K00} {i:Nat} {q:List Int} (h9:op ≠ 9) (h:Kr3 op (i:Int)=0):Knu (⟨op,N,ty,ks⟩,(i:Int),q)=some []:=by
 unfold Knu
 simp only
 rw [if_neg (by simpa using h9),Kr6,bs,h]
 rfl
theorem Kzz {N:Int} {ty:List Int} {ks:List K00} {i:Nat} {q:List Int}:Knu (⟨9,N,ty,ks⟩,(i:Int),q)=some [ty]:=by
 unfold Knu
 simp only
 rw [if_pos (by decide)]
theorem V00 {s:K02} {N:Int} {ty:List Int} {ks:List K00} {p q:List Int} (h:Ky7 s 1 p q):Knu (⟨5,N,ty,ks⟩,((1:Nat):Int),1 :: (p ++ q))=some [q,p]:=by
 unfold Knu
 simp only
 rw [if_neg (by decide),Kr6,bs,show Kr3 5 ((1:Nat):Int)=2 from rfl,if_neg (by decide),h.pp,bs,if_pos (by decide)]
 rfl
theorem V01 {s:K02} {N:Int} {ty:List Int} {ks:List K00} {p q:List Int} (h:Ky7 s 2 p q):Knu (⟨8,N,ty,ks⟩,((1:Nat):Int),2 :: (p ++ q))=some [p]:=by
 unfold Knu
 simp only
 rw [if_neg (by decide),Kr6,bs,show Kr3 8 ((1:Nat):Int)=1 from rfl,if_neg (by decide),h.pp,bs,if_neg (by decide),if_pos (by decide)]
 rfl
theorem V02 {s:K02} {N:Int} {ty:List Int} {ks:List K00} {p q:List Int} (h:Ky7 s 2 p q):Knu (⟨8,N,ty,ks⟩,((2:Nat):Int),2 :: (p ++ q))=some [q]:=by
 unfold Knu
 simp only
 rw [if_neg (by decide),Kr6,bs,show Kr3 8 ((2:Nat):Int)=1 from rfl,if_neg (by decide),h.pp,bs,if_neg (by decide),if_pos (by decide)]
 rfl
theorem V03 {s:K02} {N c:Int} {ty:List Int} {ks:List K00} {p:List Int} (h:Ky8 s c p):Knu (⟨12,N,ty,ks⟩,((1:Nat):Int),c :: p)=some [p]:=by
 unfold Knu
 simp only
 rw [if_neg (by decide),Kr6,bs,show Kr3 12 ((1:Nat):Int)=1 from rfl,if_neg (by decide),h.pp,bs,if_neg (by decide),if_neg (by decide)]
theorem V04 {op N:Int} {ty:List Int} {ks:List K00} (h9:op ≠ 9):Kym ⟨op,N,ty,ks⟩ [] 0=some []:=by
 unfold Kym
 simp [h9]
theorem V05 {N:Int} {ty:List Int} {ks:List K00}:Kym ⟨9,N,ty,ks⟩ [] 0=some [ty]:=by
 unfold Kym
 have:=@Kzz N ty ks 0 []
 simp at this ⊢
 rw [this]
theorem V06 {t:K00} {w:Nat} {y0:Kns} {l:List Kns} {m:List (List Int)} (hw:0 < w) (h:Knu (t,(w:Int),y0.fty)=some m):Kym t (y0 :: l) w=some m:=by
 unfold Kym
 rw [show decide ((w:Int) > 0)=true from decide_eq_true (by omega),if_pos rfl,bs,if_pos rfl,if_pos rfl,Kz9,bs,bs,h,bs]
theorem V07 {t:K00} {i:Nat} {y0:Kns} {l:List Kns} {m:List (List Int)} (h:Knu (t,(i:Int),y0.fty)=some m):Kzp t i (y0 :: l)=m:=by
 unfold Kzp
 simp only
 rw [h]; rfl
theorem kd1 {s:K02} {ctx:List (List Int)} {op N:Int} {ty:List Int} {k0:K00} {y0:Kns} (h0:Kzq s ctx ⟨op,N,ty,[k0]⟩ [y0] 0 k0 y0) :
  ∀ (i:Nat) (k:K00),(⟨op,N,ty,[k0]⟩:K00).fKids[i]?=some k→∃ yk,[y0][i]?=some yk∧Kzq s ctx ⟨op,N,ty,[k0]⟩ [y0] i k yk:=by
 intro i k hk
 match i,hk with
 | 0,hk=>cases hk; exact ⟨y0,rfl,h0⟩
 | i + 1,hk=>simp at hk
theorem kd2 {s:K02} {ctx:List (List Int)} {op N:Int} {ty:List Int} {k0 k1:K00} {y0 y1:Kns} (h0:Kzq s ctx ⟨op,N,ty,[k0,k1]⟩ [y0,y1] 0 k0 y0) (h1:Kzq s ctx ⟨op,N,ty,[k0,k1]⟩ [y0,y1] 1 k1 y1) :
  ∀ (i:Nat) (k:K00),(⟨op,N,ty,[k0,k1]⟩:K00).fKids[i]?=some k→∃ yk,[y0,y1][i]?=some yk∧Kzq s ctx ⟨op,N,ty,[k0,k1]⟩ [y0,y1] i k yk:=by
 intro i k hk
 match i,hk with
 | 0,hk=>cases hk; exact ⟨y0,rfl,h0⟩
 | 1,hk=>cases hk; exact ⟨y1,rfl,h1⟩
 | i + 2,hk=>simp at hk
theorem kd3 {s:K02} {ctx:List (List Int)} {op N:Int} {ty:List Int} {k0 k1 k2:K00} {y0 y1 y2:Kns} (h0:Kzq s ctx ⟨op,N,ty,[k0,k1,k2]⟩ [y0,y1,y2] 0 k0 y0) (h1:Kzq s ctx ⟨op,N,ty,[k0,k1,k2]⟩ [y0,y1,y2] 1 k1 y1) (h2:Kzq s ctx ⟨op,N,ty,[k0,k1,k2]⟩ [y0,y1,y2] 2 k2 y2) :
  ∀ (i:Nat) (k:K00),(⟨op,N,ty,[k0,k1,k2]⟩:K00).fKids[i]?=some k→∃ yk,[y0,y1,y2][i]?=some yk∧Kzq s ctx ⟨op,N,ty,[k0,k1,k2]⟩ [y0,y1,y2] i k yk:=by
 intro i k hk
 match i,hk with
 | 0,hk=>cases hk; exact ⟨y0,rfl,h0⟩
 | 1,hk=>cases hk; exact ⟨y1,rfl,h1⟩
 | 2,hk=>cases hk; exact ⟨y2,rfl,h2⟩
 | i + 3,hk=>simp at hk
theorem Kzq.mk' {s:K02} {n:Nat} {ctx m:List (List Int)} {t k:K00} {y0:Kns} {l:List Kns} {i:Nat} {x:K03} {y:Kns} (ha:Knu (t,(i:Int),y0.fty)=some m) (r:Kzr s n (m ++ ctx) k x y) (hf:x.ffault=0) (hm:∀ q ∈ m,TyS s q) (hl:m.length=Kr3 t.fOp i):Kzq s ctx t (y0 :: l) i k y:=by
 have e:=V07 (l:=l) ha
 exact ⟨by rw [e]; exact r.im,by rw [r.fa]; exact hf,by rw [e]; exact hm,by rw [e]; exact hl⟩
def V08 (s:K02) (n sz:Nat):Prop:=∀ (k:K00) (c:List (List Int)),Kyh s c.length k sz→(∀ q ∈ c,TyS s q)→c.length + 2 * tsz k ≤ 1000000→∃ x y,Kzr s n c k x y
theorem V09 {X:Option Kns} {q:List Int} {ns:List Nat} {kids:List Kns} (h:q.length ≤ 40) (im:X=some (if (Kz8 q ns kids).1=0 then (⟨(Kz8 q ns kids).2.fty,(Kz8 q ns kids).2.fneeds,(Kz8 q ns kids).2.fkids,0,(Kz8 q ns kids).2.fpath⟩:Kns) else ⟨[],[],[],(Kz8 q ns kids).1,[]⟩)):X=some ⟨q,Kwq ns,kids,0,[]⟩:=by
 rw [im]
 unfold Kz8
 simp only
 rw [show (if q.length > 40 then (3:Int) else 0)=0 from if_neg (by omega),if_pos rfl]
section
variable {s:K02} {n:Nat} (hs:Kwv s n) {ctx:List (List Int)} {N:Int} {ty:List Int} {ks:List K00}
theorem V0a {op:Int} {k0:K00} {l:List K00} {x0:K03} {y0:Kns} (h0:op ≠ 0) (h1:op ≠ 1) (h9:op ≠ 9) (hb:ctx.length + 2 * tsz (⟨op,N,ty,k0 :: l⟩:K00) ≤ 1000000) (r0:Kzr s n ctx k0 x0 y0) (f0:x0.ffault ≠ 0) :
  ∃ x y,Kzr s n ctx ⟨op,N,ty,k0 :: l⟩ x y:=by
 have hz:tsz k0 + 1 ≤ tsz (⟨op,N,ty,k0 :: l⟩:K00):=by rw [tsz,Kqj]; omega
 have e0:Kea (s,ctx,⟨op,N,ty,k0 :: l⟩,0)=some ⟨[],[],x0.ffault,0 :: x0.fpath⟩:=Kzt (i:=0) rfl r0 (by omega) f0
 refine Kzr.bad (f:=x0.ffault) (p:=0 :: x0.fpath) ?_ (Kyx (by omega) (Kzu (m:=[]) rfl (V04 h9) r0 (by omega) (by simp; omega) f0)) f0 (by have:=r0.pl; simp; omega)
 rw [Ke8.eq_def]
 simp [h0,h1,h9,e0,f0]
include hs
theorem V0b {t:K00} (ht:t.fOp=0) (h:tOk (gN s.fSize true) (yN s.fSize true) ctx.length t=true) (hc:∀ q ∈ ctx,TyS s q) (hb:ctx.length + 2 * tsz t ≤ 1000000):∃ x y,Kzr s n ctx t x y:=by
 obtain ⟨i,hi,hl,hk⟩:=Kyk h ht
 obtain ⟨op,N,ty,ks⟩:=t
 simp only at ht hi hk
 subst ht; subst hi; subst hk
 have hq:ctx[i]?=some ctx[i]:=List.getElem?_eq_getElem hl
 have hy:=hc ctx[i] (List.getElem_mem hl)
 have e1:idx ctx (i:Int)=some ctx[i]:=Kon hl
 have hz:=Kxs ctx.length (by omega)
 have e2:idx (Kwq (List.replicate ctx.length 0)) (i:Int)=some (((List.replicate ctx.length (0:Nat))[i]'(by simpa using hl):Nat):Int):=by
  rw [Kon (by rw [Kwr]; simpa using hl)]; simp [Kwq]
 have e3:List.set (Kwq (List.replicate ctx.length 0)) i 1=Kwq ((List.replicate ctx.length 0).set i 1):=by unfold Kwq; rw [List.map_set]; rfl
 have hf:=Kzc (s:=s) (ty:=ty) (ks:=[]) (zs:=List.replicate ctx.length 0) hq (by simpa using hl) (Ky4 hy)
 have im:=Kyy (p0:=⟨s⟩) (t:=⟨0,(i:Int),ty,[]⟩) (by omega) (Kyp (Nat.le_refl _)) hf
 refine Kzr.good (q:=ctx[i]) (ns:=(List.replicate ctx.length 0).set i 1) (kids:=[]) ?_ ?_ (by rw [tsz]; omega) hy (by simp) ?_ rfl (fun i k hk=>by simp at hk)
 ·rw [Ke8.eq_def]
  simp [hz,e1,e2,Ks2 ctx[i] (by have:=Ky4 hy; omega),e3]
 ·exact V09 (Ky4 hy) im
 ·intro x hx
  have h1:=Kwx hs
  rcases List.mem_or_eq_of_mem_set hx with h | rfl
  ·rw [List.eq_of_mem_replicate h]; omega
  ·exact h1
theorem V0c {t:K00} (ht:t.fOp=1) (h:tOk (gN s.fSize true) (yN s.fSize true) ctx.length t=true) (hb:ctx.length + 2 * tsz t ≤ 1000000):∃ x y,Kzr s n ctx t x y:=by
 have hk:=Kyl h ht
 obtain ⟨op,N,ty,ks⟩:=t
 simp only at ht hk
 subst ht; subst hk
 have hz:=Kxs ctx.length (by omega)
 have hf:=Kzd (s:=s) (N:=N) (ty:=ty) (ks:=[]) (ctx:=ctx) (zs:=List.replicate ctx.length 0)
 have im:=Kyy (p0:=⟨s⟩) (t:=⟨1,N,ty,[]⟩) (by omega) (Kyp (Nat.le_refl _)) hf
 refine Kzr.good (q:=[0]) (ns:=List.replicate ctx.length 0) (kids:=[]) ?_ ?_ (by rw [tsz]; omega) Kya (by simp) ?_ rfl (fun i k hk=>by simp at hk)
 ·rw [Ke8.eq_def]
  simp [hz]
 ·exact V09 (by decide) im
 ·intro x hx
  rw [List.eq_of_mem_replicate hx]
  exact Kwy hs
theorem V0d {q:List Int} (hq:TyS s q):∃ c r,q=c :: r∧((Kpw c).1=0 ↔ c=0)∧(c=0→q=[0]):=by
 rcases Kyd hs hq with rfl | ⟨a,b,rfl,_⟩ | ⟨a,b,rfl,_⟩ | ⟨g,a,b,hg,h15,rfl,_⟩ | ⟨g,a,hg,h15,rfl,_⟩
 ·exact ⟨0,[],rfl,by decide,fun _=>rfl⟩
 ·exact ⟨1,_,rfl,by decide,fun h=>absurd h (by decide)⟩
 ·exact ⟨2,_,rfl,by decide,fun h=>absurd h (by decide)⟩
 ·refine ⟨_,_,rfl,?_,fun h=>by omega⟩
  rcases Kpy (3 + (g:Int)) with h | h | h | h | h | h | h | h <;> first | omega | (obtain ⟨_,e⟩:=h; rw [e]; simp; omega)
 ·refine ⟨_,_,rfl,?_,fun h=>by omega⟩
  rcases Kpy (19 + (g:Int)) with h | h | h | h | h | h | h | h <;> first | omega | (obtain ⟨_,e⟩:=h; rw [e]; simp; omega)
theorem V0e (ih:V08 s n (tsz (⟨6,N,ty,ks⟩:K00))) (h:tOk (gN s.fSize true) (yN s.fSize true) ctx.length ⟨6,N,ty,ks⟩=true) (hc:∀ q ∈ ctx,TyS s q) (hb:ctx.length + 2 * tsz (⟨6,N,ty,ks⟩:K00) ≤ 1000000):∃ x y,Kzr s n ctx ⟨6,N,ty,ks⟩ x y:=by
 obtain ⟨k0,rfl,p0⟩:=nd1 h (Nat.le_refl _) rfl
 have hz:=Kwa 6 N ty k0
 have hy:TyS s ty:=Kyj h rfl
 have ly:=Ky4 hy
 obtain ⟨x0,y0,r0⟩:=ih k0 ctx p0 hc (by omega)
 by_cases f0:x0.ffault=0
 rotate_left
 ·exact V0a (by decide) (by decide) (by decide) hb r0 f0
 obtain ⟨g0,q0,a,na,la,ba⟩:=r0.gd f0
 obtain ⟨c0,t0,ht0,hn0,hz0⟩:=V0d hs g0
 have L0:=Ky4 g0
 have e0:Kea (s,ctx,⟨6,N,ty,[k0]⟩,0)=some x0:=Kzs (i:=0) rfl r0 f0
 have o0:=Kzx (out:=[]) (nd:=[]) (us:=[]) (w:=0) (t:=⟨6,N,ty,[k0]⟩) (m:=[]) rfl (V04 (by decide)) r0 (by simp; omega) f0 (by rw [ht0]; exact Kz1 (.inl (by decide))) (Kyz (show (6:Int) ≠ 10 by decide)) na (by simp <;> omega) (by simp) (by simp) (by simp) (by simp)
 have hf:=Kze (s:=s) (N:=N) (ty:=ty) (ks:=[k0]) (ctx:=ctx) (us:=[Kwq []]) (z:=Kwq (List.replicate ctx.length 0)) (y0:=y0) (a:=a) (by rw [r0.ty]; omega) (by omega)
 have im:=Kyy (p0:=⟨s⟩) (t:=⟨6,N,ty,[k0]⟩) (ctx:=ctx) (by omega) (o0.trans (Kyp (Nat.le_refl _))) hf
 rw [r0.ty] at im
 refine Kzr.done (q:=2 :: (x0.fty ++ ty)) (ns:=a) (kids:=[y0]) ?_ im (by omega) (fun hl=>Kye hs g0 hy (.inr (.inl rfl)) hl) la ba rfl (kd1 (Kzq.mk' (Kzy (by decide) rfl) r0 f0 (fun _ h=>by cases h) rfl))
 have hg:=Kxv 2 [x0.fty,ty] (by simp) (by simp; omega)
 simp only [List.flatten_cons,List.flatten_nil,List.append_nil] at hg
 rw [Ke8.eq_def]
 simp [e0,f0,hg,na]
theorem V0f (ih:V08 s n (tsz (⟨7,N,ty,ks⟩:K00))) (h:tOk (gN s.fSize true) (yN s.fSize true) ctx.length ⟨7,N,ty,ks⟩=true) (hc:∀ q ∈ ctx,TyS s q) (hb:ctx.length + 2 * tsz (⟨7,N,ty,ks⟩:K00) ≤ 1000000):∃ x y,Kzr s n ctx ⟨7,N,ty,ks⟩ x y:=by
 obtain ⟨k0,rfl,p0⟩:=nd1 h (Nat.le_refl _) rfl
 have hz:=Kwa 7 N ty k0
 have hy:TyS s ty:=Kyj h rfl
 have ly:=Ky4 hy
 obtain ⟨x0,y0,r0⟩:=ih k0 ctx p0 hc (by omega)
 by_cases f0:x0.ffault=0
 rotate_left
 ·exact V0a (by decide) (by decide) (by decide) hb r0 f0
 obtain ⟨g0,q0,a,na,la,ba⟩:=r0.gd f0
 obtain ⟨c0,t0,ht0,hn0,hz0⟩:=V0d hs g0
 have L0:=Ky4 g0
 have e0:Kea (s,ctx,⟨7,N,ty,[k0]⟩,0)=some x0:=Kzs (i:=0) rfl r0 f0
 have o0:=Kzx (out:=[]) (nd:=[]) (us:=[]) (w:=0) (t:=⟨7,N,ty,[k0]⟩) (m:=[]) rfl (V04 (by decide)) r0 (by simp; omega) f0 (by rw [ht0]; exact Kz1 (.inl (by decide))) (Kyz (show (7:Int) ≠ 10 by decide)) na (by simp <;> omega) (by simp) (by simp) (by simp) (by simp)
 have hf:=Kzf (s:=s) (N:=N) (ty:=ty) (ks:=[k0]) (ctx:=ctx) (us:=[Kwq []]) (z:=Kwq (List.replicate ctx.length 0)) (y0:=y0) (a:=a) (by rw [r0.ty]; omega) (by omega)
 have im:=Kyy (p0:=⟨s⟩) (t:=⟨7,N,ty,[k0]⟩) (ctx:=ctx) (by omega) (o0.trans (Kyp (Nat.le_refl _))) hf
 rw [r0.ty] at im
 refine Kzr.done (q:=2 :: (ty ++ x0.fty)) (ns:=a) (kids:=[y0]) ?_ im (by omega) (fun hl=>Kye hs hy g0 (.inr (.inl rfl)) hl) la ba rfl (kd1 (Kzq.mk' (Kzy (by decide) rfl) r0 f0 (fun _ h=>by cases h) rfl))
 have hg:=Kxv 2 [ty,x0.fty] (by simp) (by simp; omega)
 simp only [List.flatten_cons,List.flatten_nil,List.append_nil] at hg
 rw [Ke8.eq_def]
 simp [e0,f0,hg,na]
theorem V0g (ih:V08 s n (tsz (⟨11,N,ty,ks⟩:K00))) (h:tOk (gN s.fSize true) (yN s.fSize true) ctx.length ⟨11,N,ty,ks⟩=true) (hc:∀ q ∈ ctx,TyS s q) (hb:ctx.length + 2 * tsz (⟨11,N,ty,ks⟩:K00) ≤ 1000000):∃ x y,Kzr s n ctx ⟨11,N,ty,ks⟩ x y:=by
 obtain ⟨k0,rfl,p0⟩:=nd1 h (Nat.le_refl _) rfl
 have hz:=Kwa 11 N ty k0
 obtain ⟨g,hN,hg'⟩:=Kyg hs (Kyi h rfl)
 simp only at hN
 subst hN
 obtain ⟨x0,y0,r0⟩:=ih k0 ctx p0 hc (by omega)
 by_cases f0:x0.ffault=0
 rotate_left
 ·exact V0a (by decide) (by decide) (by decide) hb r0 f0
 obtain ⟨g0,q0,a,na,la,ba⟩:=r0.gd f0
 obtain ⟨c0,t0,ht0,hn0,hz0⟩:=V0d hs g0
 have L0:=Ky4 g0
 have e0:Kea (s,ctx,⟨11,(g:Int),ty,[k0]⟩,0)=some x0:=Kzs (i:=0) rfl r0 f0
 have o0:=Kzx (out:=[]) (nd:=[]) (us:=[]) (w:=0) (t:=⟨11,(g:Int),ty,[k0]⟩) (m:=[]) rfl (V04 (by decide)) r0 (by simp; omega) f0 (by rw [ht0]; exact Kz1 (.inl (by decide))) (Kyz (show (11:Int) ≠ 10 by decide)) na (by simp <;> omega) (by simp) (by simp) (by simp) (by simp)
 have hf:=Kzk (ty:=ty) (ks:=[k0]) (ctx:=ctx) (us:=[Kwq []]) (z:=Kwq (List.replicate ctx.length 0)) (y0:=y0) (a:=a) hs hg' ba (by omega) (by rw [r0.ty]; omega)
 have im:=Kyy (p0:=⟨s⟩) (t:=⟨11,(g:Int),ty,[k0]⟩) (ctx:=ctx) (by omega) (o0.trans (Kyp (Nat.le_refl _))) hf
 rw [r0.ty] at im
 have hn:=hs.tab.hi
 refine Kzr.done (q:=(19 + (g:Int)) :: x0.fty) (ns:=Kx4 s n g a) (kids:=[y0]) ?_ im (by omega) (fun hl=>Kyf hs hg' g0 hl) (by unfold Kx4; rw [List.length_map]; exact la) (Kxa hs hg' ba) rfl (kd1 (Kzq.mk' (Kzy (by decide) rfl) r0 f0 (fun _ h=>by cases h) rfl))
 have hg:=Kxv (19 + (g:Int)) [x0.fty] (by simp) (by simp; omega)
 simp only [List.flatten_cons,List.flatten_nil,List.append_nil] at hg
 have hsc:=Kxa hs hg' ba
 have hz0:=Kxd hs hsc
 rw [show (Kx4 s n g a).length=ctx.length by unfold Kx4; rw [List.length_map]; exact la] at hz0
 have hsum:=Kxf hs g hg' (List.replicate ctx.length 0) a (fun x hx=>by rw [List.eq_of_mem_replicate hx]; exact Kwy hs) ba (by simp; omega) (by simp [la])
 rw [hz0] at hsum
 have hw:wr (19 + (g:Int))=19 + (g:Int):=Kom (by omega) (by omega)
 rw [Ke8.eq_def]
 simp [e0,f0,hg,na,hw,Kxs ctx.length (by omega),hsum]
theorem V0h (ih:V08 s n (tsz (⟨9,N,ty,ks⟩:K00))) (h:tOk (gN s.fSize true) (yN s.fSize true) ctx.length ⟨9,N,ty,ks⟩=true) (hc:∀ q ∈ ctx,TyS s q) (hb:ctx.length + 2 * tsz (⟨9,N,ty,ks⟩:K00) ≤ 1000000):∃ x y,Kzr s n ctx ⟨9,N,ty,ks⟩ x y:=by
 obtain ⟨k0,rfl,p0⟩:=nd1 h (Nat.le_refl _) rfl
 have hz:=Kwa 9 N ty k0
 obtain ⟨g,hN,hg'⟩:=Kyg hs (Kyi h rfl)
 simp only at hN
 subst hN
 have hy:TyS s ty:=Kyj h rfl
 have ly:=Ky4 hy
 have hn:=hs.tab.hi
 have p0':Kyh s ([ty] ++ ctx).length k0 (tsz (⟨9,(g:Int),ty,[k0]⟩:K00)):=by
  have e:([ty] ++ ctx).length=ctx.length + Kr3 9 0:=by simp [Kr3]
  rw [e]; exact p0
 obtain ⟨x0,y0,r0⟩:=ih k0 ([ty] ++ ctx) p0' (fun q hq=>by rcases List.mem_cons.1 hq with rfl | hq; exact hy; exact hc q hq) (by simp; omega)
 have hw9:=Kxt ctx [ty] (by simp; omega)
 by_cases f0:x0.ffault=0
 rotate_left
 ·have e0:Kea (s,ty :: ctx,⟨9,(g:Int),ty,[k0]⟩,0)=some ⟨[],[],x0.ffault,0 :: x0.fpath⟩:=Kzt (i:=0) rfl r0 (by omega) f0
  refine Kzr.bad (f:=x0.ffault) (p:=0 :: x0.fpath) ?_ (Kyx (by omega) (Kzu (m:=[ty]) rfl V05 r0 (by omega) (by simp; omega) f0)) f0 (by have:=r0.pl; simp; omega)
  rw [Ke8.eq_def]
  simp [hw9,e0,f0]
 obtain ⟨g0,q0,a,na,la,ba⟩:=r0.gd f0
 obtain ⟨c0,t0,ht0,hn0,hz0⟩:=V0d hs g0
 have L0:=Ky4 g0
 have e0:Kea (s,ty :: ctx,⟨9,(g:Int),ty,[k0]⟩,0)=some x0:=Kzs (i:=0) rfl r0 f0
 have la':a.length=ctx.length + 1:=by rw [la]; simp
 obtain ⟨u0,a',rfl⟩:∃ u0 a',a=u0 :: a':=by cases a with | nil=>simp at la' | cons u a'=>exact ⟨u,a',rfl⟩
 obtain ⟨hu0,ba'⟩:=Kx7 ba
 have o0:=Kzx (out:=[]) (nd:=[]) (us:=[]) (w:=0) (t:=⟨9,(g:Int),ty,[k0]⟩) (m:=[ty]) rfl V05 r0 (by simp; omega) f0 (by rw [ht0]; exact Kz1 (.inl (by decide))) (Kyz (show (9:Int) ≠ 10 by decide)) na (by simp <;> omega) (by simp) (by simp) (by simp) (by simp)
 simp only [List.length_cons,List.length_nil,Nat.zero_add,List.drop_succ_cons,List.drop_zero,List.take_succ_cons,List.take_zero,List.nil_append] at o0
 have hf:=Kzj (ty:=ty) (ks:=[k0]) (ctx:=ctx) (z:=Kwq (List.replicate ctx.length 0)) (y0:=y0) (a:=a') (u:=[u0]) hs hg' (fun x hx=>by simp at hx; rw [hx]; exact hu0) (by simp) (by rw [r0.ty]; omega) (by omega)
 have hl0:=o0.trans (Kyp (Nat.le_refl _))
 have hle:=sLe hs.tab hu0 hg'
 have hw:wr (3 + (g:Int))=3 + (g:Int):=Kom (by omega) (by omega)
 have hi0:idx x0.fneeds 0=some (u0:Int):=by rw [na]; rfl
 simp only [List.all_cons,List.all_nil,Bool.and_true] at hf
 cases hl:le s n u0 g with
 | false =>
  rw [hl,if_neg (by decide)] at hf
  refine Kzr.bad (f:=9) (p:=[]) ?_ (Kyy (by omega) hl0 hf) (by decide) (by simp; omega)
  rw [Ke8.eq_def]
  simp [hw9,e0,f0,hi0,hle,hl,Kdi]
 | true =>
  rw [hl,if_pos rfl] at hf
  have im:=Kyy (by omega) hl0 hf
  rw [r0.ty] at im
  refine Kzr.done (q:=(3 + (g:Int)) :: (ty ++ x0.fty)) (ns:=a') (kids:=[y0]) ?_ im (by omega) (fun hl=>Kye hs hy g0 (.inr (.inr ⟨g,hg',rfl⟩)) hl) (by simpa using la') ba' rfl (kd1 (Kzq.mk' (m:=[ty]) Kzz r0 f0 (fun q hq=>by simp at hq; rw [hq]; exact hy) rfl))
  have hg:=Kxv (3 + (g:Int)) [ty,x0.fty] (by simp) (by simp; omega)
  simp only [List.flatten_cons,List.flatten_nil,List.append_nil] at hg
  have hcut:cut x0.fneeds (some 1) none none=some (Kwq a'):=by rw [na]; exact Kug _ _
  rw [Ke8.eq_def]
  simp [hw9,e0,f0,hi0,hle,hl,hg,hw,hcut,Ks2 (Kwq a') (by rw [Kwr]; simp at la'; omega)]
theorem V0i (ih:V08 s n (tsz (⟨4,N,ty,ks⟩:K00))) (h:tOk (gN s.fSize true) (yN s.fSize true) ctx.length ⟨4,N,ty,ks⟩=true) (hc:∀ q ∈ ctx,TyS s q) (hb:ctx.length + 2 * tsz (⟨4,N,ty,ks⟩:K00) ≤ 1000000):∃ x y,Kzr s n ctx ⟨4,N,ty,ks⟩ x y:=by
 obtain ⟨k0,k1,rfl,p0,p1⟩:=nd2 h (Nat.le_refl _) rfl
 have hz:=Kwb 4 N ty k0 k1
 obtain ⟨x0,y0,r0⟩:=ih k0 ctx p0 hc (by omega)
 obtain ⟨x1,y1,r1⟩:=ih k1 ctx p1 hc (by omega)
 by_cases f0:x0.ffault=0
 rotate_left
 ·exact V0a (by decide) (by decide) (by decide) hb r0 f0
 obtain ⟨g0,q0,a,na,la,ba⟩:=r0.gd f0
 obtain ⟨c0,t0,ht0,hn0,hz0⟩:=V0d hs g0
 have L0:=Ky4 g0
 have e0:Kea (s,ctx,⟨4,N,ty,[k0,k1]⟩,0)=some x0:=Kzs (i:=0) rfl r0 f0
 have o0:=Kzx (out:=[]) (nd:=[]) (us:=[]) (w:=0) (t:=⟨4,N,ty,[k0,k1]⟩) (m:=[]) rfl (V04 (by decide)) r0 (by simp; omega) f0 (by rw [ht0]; exact Kz1 (.inl (by decide))) (Kyz (show (4:Int) ≠ 10 by decide)) na (by simp <;> omega) (by simp) (by simp) (by simp) (by simp)
 have m1:Kym ⟨4,N,ty,[k0,k1]⟩ [y0] 1=some []:=V06 (by decide) (Kzy (by decide) rfl)
 by_cases f1:x1.ffault=0
 rotate_left
 ·have e1:Kea (s,ctx,⟨4,N,ty,[k0,k1]⟩,1)=some ⟨[],[],x1.ffault,1 :: x1.fpath⟩:=Kzt (i:=1) rfl r1 (by omega) f1
  refine Kzr.bad (f:=x1.ffault) (p:=1 :: x1.fpath) ?_ (Kyx (by omega) (o0.trans (Kzu (m:=[]) rfl m1 r1 (by omega) (by simp; omega) f1))) f1 (by have:=r1.pl; simp; omega)
  rw [Ke8.eq_def]
  simp [e0,f0,e1,f1]
 obtain ⟨g1,q1,b,nb,lb,bb⟩:=r1.gd f1
 obtain ⟨c1,t1,ht1,hn1,hz1⟩:=V0d hs g1
 have L1:=Ky4 g1
 have e1:Kea (s,ctx,⟨4,N,ty,[k0,k1]⟩,1)=some x1:=Kzs (i:=1) rfl r1 f1
 have o1:=Kzx (out:=[y0]) (nd:=[Kwq a]) (us:=[Kwq []]) (w:=1) (t:=⟨4,N,ty,[k0,k1]⟩) (m:=[]) rfl m1 r1 (by simp; omega) f1 (by rw [ht1]; exact Kz1 (.inl (by decide))) (Kyz (show (4:Int) ≠ 10 by decide)) nb (by simp <;> omega) (by simp) (by simp) (by simp) (by simp)
 have hf:=Kzi (N:=N) (ty:=ty) (ks:=[k0,k1]) (ctx:=ctx) (us:=[Kwq [],Kwq []]) (z:=Kwq (List.replicate ctx.length 0)) (y0:=y0) (y1:=y1) hs ba bb (by omega) (by omega) (by rw [r0.ty]; omega) (by rw [r1.ty]; omega)
 have im:=Kyy (p0:=⟨s⟩) (t:=⟨4,N,ty,[k0,k1]⟩) (ctx:=ctx) (by omega) (o0.trans (o1.trans (Kyp (Nat.le_refl _)))) hf
 rw [r0.ty,r1.ty] at im
 refine Kzr.done (q:=1 :: (x0.fty ++ x1.fty)) (ns:=Kx3 s n a b) (kids:=[y0,y1]) ?_ im (by omega) (fun hl=>Kye hs g0 g1 (.inl rfl) hl) (by unfold Kx3; rw [List.length_zipWith]; omega) (Kx9 hs ba bb) rfl (kd2 (Kzq.mk' (Kzy (by decide) rfl) r0 f0 (fun _ h=>by cases h) rfl) (Kzq.mk' (Kzy (by decide) rfl) r1 f1 (fun _ h=>by cases h) rfl))
 have hg:=Kxv 1 [x0.fty,x1.fty] (by simp) (by simp; omega)
 simp only [List.flatten_cons,List.flatten_nil,List.append_nil] at hg
 rw [Ke8.eq_def]
 simp [e0,f0,e1,f1,hg,na,nb,Kxg hs a b ba bb (by omega) (by omega)]
theorem V0j (ih:V08 s n (tsz (⟨2,N,ty,ks⟩:K00))) (h:tOk (gN s.fSize true) (yN s.fSize true) ctx.length ⟨2,N,ty,ks⟩=true) (hc:∀ q ∈ ctx,TyS s q) (hb:ctx.length + 2 * tsz (⟨2,N,ty,ks⟩:K00) ≤ 1000000):∃ x y,Kzr s n ctx ⟨2,N,ty,ks⟩ x y:=by
 obtain ⟨k0,k1,rfl,p0,p1⟩:=nd2 h (Nat.le_refl _) rfl
 have hz:=Kwb 2 N ty k0 k1
 obtain ⟨x0,y0,r0⟩:=ih k0 ctx p0 hc (by omega)
 obtain ⟨x1,y1,r1⟩:=ih k1 ctx p1 hc (by omega)
 by_cases f0:x0.ffault=0
 rotate_left
 ·exact V0a (by decide) (by decide) (by decide) hb r0 f0
 obtain ⟨g0,q0,a,na,la,ba⟩:=r0.gd f0
 obtain ⟨c0,t0,ht0,hn0,hz0⟩:=V0d hs g0
 have L0:=Ky4 g0
 have e0:Kea (s,ctx,⟨2,N,ty,[k0,k1]⟩,0)=some x0:=Kzs (i:=0) rfl r0 f0
 have i0:idx x0.fty 0=some c0:=by rw [ht0]; rfl
 by_cases z0:c0=0
 rotate_left
 ·refine Kzr.bad (f:=2) (p:=[]) ?_ (Kyx (by omega) (Kzv (m:=[]) rfl (V04 (by decide)) r0 (by simp; omega) f0 (by rw [ht0,Kz2,if_neg (by rw [hn0]; exact z0)]) (by decide))) (by decide) (by simp; omega)
  rw [Ke8.eq_def]
  simp [e0,f0,i0,z0,Kdi]
 have u0:=hz0 z0
 have s0:(Kpw c0).1=0:=hn0.2 z0
 have o0:=Kzx (out:=[]) (nd:=[]) (us:=[]) (w:=0) (t:=⟨2,N,ty,[k0,k1]⟩) (m:=[]) rfl (V04 (by decide)) r0 (by simp; omega) f0 (by rw [ht0,Kz2,if_pos s0]) (Kyz (show (2:Int) ≠ 10 by decide)) na (by simp <;> omega) (by simp) (by simp) (by simp) (by simp)
 have m1:Kym ⟨2,N,ty,[k0,k1]⟩ [y0] 1=some []:=V06 (by decide) (Kzy (by decide) rfl)
 by_cases f1:x1.ffault=0
 rotate_left
 ·have e1:Kea (s,ctx,⟨2,N,ty,[k0,k1]⟩,1)=some ⟨[],[],x1.ffault,1 :: x1.fpath⟩:=Kzt (i:=1) rfl r1 (by omega) f1
  refine Kzr.bad (f:=x1.ffault) (p:=1 :: x1.fpath) ?_ (Kyx (by omega) (o0.trans (Kzu (m:=[]) rfl m1 r1 (by omega) (by simp; omega) f1))) f1 (by have:=r1.pl; simp; omega)
  rw [Ke8.eq_def]
  simp [e0,f0,i0,z0,Keb.eq_def,e1,f1]
 obtain ⟨g1,q1,b,nb,lb,bb⟩:=r1.gd f1
 obtain ⟨c1,t1,ht1,hn1,hz1⟩:=V0d hs g1
 have L1:=Ky4 g1
 have e1:Kea (s,ctx,⟨2,N,ty,[k0,k1]⟩,1)=some x1:=Kzs (i:=1) rfl r1 f1
 have i1:idx x1.fty 0=some c1:=by rw [ht1]; rfl
 by_cases z1:c1=0
 rotate_left
 ·refine Kzr.bad (f:=2) (p:=[]) ?_ (Kyx (by omega) (o0.trans (Kzv (m:=[]) rfl m1 r1 (by simp; omega) f1 (by rw [ht1,Kz2,if_neg (by rw [hn1]; exact z1)]) (by decide)))) (by decide) (by simp; omega)
  rw [Ke8.eq_def]
  simp [e0,f0,i0,z0,e1,f1,i1,z1,Kdi,Keb.eq_def]
 have u1:=hz1 z1
 have s1:(Kpw c1).1=0:=hn1.2 z1
 have o1:=Kzx (out:=[y0]) (nd:=[Kwq a]) (us:=[Kwq []]) (w:=1) (t:=⟨2,N,ty,[k0,k1]⟩) (m:=[]) rfl m1 r1 (by simp; omega) f1 (by rw [ht1,Kz2,if_pos s1]) (Kyz (show (2:Int) ≠ 10 by decide)) nb (by simp <;> omega) (by simp) (by simp) (by simp) (by simp)
 have hf:=Kzg (N:=N) (ty:=ty) (ks:=[k0,k1]) (ctx:=ctx) (us:=[Kwq [],Kwq []]) (z:=Kwq (List.replicate ctx.length 0)) (y0:=y0) (y1:=y1) hs ba bb (by omega) (by omega)
 have im:=Kyy (p0:=⟨s⟩) (t:=⟨2,N,ty,[k0,k1]⟩) (ctx:=ctx) (by omega) (o0.trans (o1.trans (Kyp (Nat.le_refl _)))) hf
 replace im:=V09 (q:=[0]) (ns:=Kx3 s n a b) (kids:=[y0,y1]) (by decide) im
 refine Kzr.good (q:=[0]) (ns:=Kx3 s n a b) (kids:=[y0,y1]) ?_ im (by omega) Kya (by unfold Kx3; rw [List.length_zipWith]; omega) (Kx9 hs ba bb) rfl (kd2 (Kzq.mk' (Kzy (by decide) rfl) r0 f0 (fun _ h=>by cases h) rfl) (Kzq.mk' (Kzy (by decide) rfl) r1 f1 (fun _ h=>by cases h) rfl))
 rw [Ke8.eq_def]
 simp [e0,f0,i0,z0,e1,f1,i1,z1,na,nb,u1,Kz9,Kxg hs a b ba bb (by omega) (by omega),Keb.eq_def]
theorem V0k (ih:V08 s n (tsz (⟨3,N,ty,ks⟩:K00))) (h:tOk (gN s.fSize true) (yN s.fSize true) ctx.length ⟨3,N,ty,ks⟩=true) (hc:∀ q ∈ ctx,TyS s q) (hb:ctx.length + 2 * tsz (⟨3,N,ty,ks⟩:K00) ≤ 1000000):∃ x y,Kzr s n ctx ⟨3,N,ty,ks⟩ x y:=by
 obtain ⟨k0,k1,k2,rfl,p0,p1,p2⟩:=nd3 h (Nat.le_refl _) rfl
 have hz:=Kwc 3 N ty k0 k1 k2
 obtain ⟨x0,y0,r0⟩:=ih k0 ctx p0 hc (by omega)
 obtain ⟨x1,y1,r1⟩:=ih k1 ctx p1 hc (by omega)
 obtain ⟨x2,y2,r2⟩:=ih k2 ctx p2 hc (by omega)
 by_cases f0:x0.ffault=0
 rotate_left
 ·exact V0a (by decide) (by decide) (by decide) hb r0 f0
 obtain ⟨g0,q0,a,na,la,ba⟩:=r0.gd f0
 obtain ⟨c0,t0,ht0,hn0,hz0⟩:=V0d hs g0
 have L0:=Ky4 g0
 have e0:Kea (s,ctx,⟨3,N,ty,[k0,k1,k2]⟩,0)=some x0:=Kzs (i:=0) rfl r0 f0
 have i0:idx x0.fty 0=some c0:=by rw [ht0]; rfl
 by_cases z0:c0=0
 rotate_left
 ·refine Kzr.bad (f:=2) (p:=[]) ?_ (Kyx (by omega) (Kzv (m:=[]) rfl (V04 (by decide)) r0 (by simp; omega) f0 (by rw [ht0,Kz3,if_neg (by rw [hn0]; exact z0)]) (by decide))) (by decide) (by simp; omega)
  rw [Ke8.eq_def]
  simp [e0,f0,i0,z0,Kdi]
 have u0:=hz0 z0
 have s0:(Kpw c0).1=0:=hn0.2 z0
 have o0:=Kzx (out:=[]) (nd:=[]) (us:=[]) (w:=0) (t:=⟨3,N,ty,[k0,k1,k2]⟩) (m:=[]) rfl (V04 (by decide)) r0 (by simp; omega) f0 (by rw [ht0,Kz3,if_pos s0]) (Kyz (show (3:Int) ≠ 10 by decide)) na (by simp <;> omega) (by simp) (by simp) (by simp) (by simp)
 have m1:Kym ⟨3,N,ty,[k0,k1,k2]⟩ [y0] 1=some []:=V06 (by decide) (Kzy (by decide) rfl)
 by_cases f1:x1.ffault=0
 rotate_left
 ·have e1:Kea (s,ctx,⟨3,N,ty,[k0,k1,k2]⟩,1)=some ⟨[],[],x1.ffault,1 :: x1.fpath⟩:=Kzt (i:=1) rfl r1 (by omega) f1
  refine Kzr.bad (f:=x1.ffault) (p:=1 :: x1.fpath) ?_ (Kyx (by omega) (o0.trans (Kzu (m:=[]) rfl m1 r1 (by omega) (by simp; omega) f1))) f1 (by have:=r1.pl; simp; omega)
  rw [Ke8.eq_def]
  simp [e0,f0,i0,z0,Keb.eq_def,e1,f1]
 obtain ⟨g1,q1,b,nb,lb,bb⟩:=r1.gd f1
 obtain ⟨c1,t1,ht1,hn1,hz1⟩:=V0d hs g1
 have L1:=Ky4 g1
 have e1:Kea (s,ctx,⟨3,N,ty,[k0,k1,k2]⟩,1)=some x1:=Kzs (i:=1) rfl r1 f1
 have o1:=Kzx (out:=[y0]) (nd:=[Kwq a]) (us:=[Kwq []]) (w:=1) (t:=⟨3,N,ty,[k0,k1,k2]⟩) (m:=[]) rfl m1 r1 (by simp; omega) f1 (by rw [ht1]; exact Kz1 (.inr (by decide))) (Kyz (show (3:Int) ≠ 10 by decide)) nb (by simp <;> omega) (by simp) (by simp) (by simp) (by simp)
 have m2:Kym ⟨3,N,ty,[k0,k1,k2]⟩ [y0,y1] 2=some []:=V06 (by decide) (Kzy (by decide) rfl)
 by_cases f2:x2.ffault=0
 rotate_left
 ·have e2:Kea (s,ctx,⟨3,N,ty,[k0,k1,k2]⟩,2)=some ⟨[],[],x2.ffault,2 :: x2.fpath⟩:=Kzt (i:=2) rfl r2 (by omega) f2
  refine Kzr.bad (f:=x2.ffault) (p:=2 :: x2.fpath) ?_ (Kyx (by omega) (o0.trans (o1.trans (Kzu (m:=[]) rfl m2 r2 (by omega) (by simp; omega) f2)))) f2 (by have:=r2.pl; simp; omega)
  rw [Ke8.eq_def]
  simp [e0,f0,i0,z0,e1,f1,Keb.eq_def,e2,f2]
 obtain ⟨g2,q2,d,nd,ld,bd⟩:=r2.gd f2
 obtain ⟨c2,t2,ht2,hn2,hz2⟩:=V0d hs g2
 have L2:=Ky4 g2
 have e2:Kea (s,ctx,⟨3,N,ty,[k0,k1,k2]⟩,2)=some x2:=Kzs (i:=2) rfl r2 f2
 have o2:=Kzx (out:=[y0,y1]) (nd:=[Kwq a,Kwq b]) (us:=[Kwq [],Kwq []]) (w:=2) (t:=⟨3,N,ty,[k0,k1,k2]⟩) (m:=[]) rfl m2 r2 (by simp; omega) f2 (by rw [ht2]; exact Kz1 (.inr (by decide))) (Kyz (show (3:Int) ≠ 10 by decide)) nd (by simp <;> omega) (by simp) (by simp) (by simp) (by simp)
 have hf:=Kzh (N:=N) (ty:=ty) (ks:=[k0,k1,k2]) (ctx:=ctx) (us:=[Kwq [],Kwq [],Kwq []]) (z:=Kwq (List.replicate ctx.length 0)) (y0:=y0) (y1:=y1) (y2:=y2) hs ba bb bd (by omega) (by omega) (by omega) (by rw [r2.ty]; omega) (by rw [r1.ty]; omega)
 have hl0:=o0.trans (o1.trans (o2.trans (Kyp (Nat.le_refl _))))
 
 have hsm:=Kuy x1.fty x2.fty (by omega)
 have lj:(Kx5 s n b d).length=ctx.length:=by unfold Kx5; rw [List.length_zipWith]; omega
 rw [r1.ty,r2.ty] at hf
 by_cases hq:x1.fty=x2.fty
 ·rw [if_pos hq] at hf
  have im:=Kyy (by omega) hl0 hf
  replace im:=V09 (q:=x1.fty) (ns:=Kx3 s n a (Kx5 s n b d)) (kids:=[y0,y1,y2]) (by omega) im
  refine Kzr.good (q:=x1.fty) (ns:=Kx3 s n a (Kx5 s n b d)) (kids:=[y0,y1,y2]) ?_ im (by omega) g1 (by unfold Kx3; rw [List.length_zipWith]; omega) (Kx9 hs ba (Kxb hs bb bd)) rfl (kd3 (Kzq.mk' (Kzy (by decide) rfl) r0 f0 (fun _ h=>by cases h) rfl) (Kzq.mk' (Kzy (by decide) rfl) r1 f1 (fun _ h=>by cases h) rfl) (Kzq.mk' (Kzy (by decide) rfl) r2 f2 (fun _ h=>by cases h) rfl))
  rw [show (x1.fty == x2.fty)=true from beq_iff_eq.2 hq] at hsm
  rw [Ke8.eq_def]
  simp [e0,f0,i0,z0,e1,f1,e2,f2,hsm,na,nb,nd,Kxi hs b d bb bd (by omega) (by omega),Kxg hs a (Kx5 s n b d) ba (Kxb hs bb bd) (by omega) (by omega),Keb.eq_def]
 ·rw [if_neg hq] at hf
  refine Kzr.bad (f:=3) (p:=[]) ?_ (Kyy (by omega) hl0 hf) (by decide) (by simp; omega)
  rw [show (x1.fty == x2.fty)=false from beq_eq_false_iff_ne.2 hq] at hsm
  rw [Ke8.eq_def]
  simp [e0,f0,i0,z0,e1,f1,e2,f2,hsm,Keb.eq_def,Kdi]
end
end Go.Am
