/- Plain laws of the printed functions. -/
import Derived.Test.YtifijafaaljamaaDoorGPMF3
set_option linter.unusedSimpArgs false
set_option linter.unusedVariables false
namespace Go.Am
theorem Kbl {x:Int} (h1:-9223372036854775808 ≤ x) (h2:x ≤ 9223372036854775807):wr x=x:=by
 unfold wr IntKind.wrap
 simp [IntKind.bits,IntKind.signed]
 omega
theorem Kbm {α:Type} {l:List α} {n:Nat} (h:n < l.length):idx l (n:Int)=some l[n]:=by
 unfold idx
 rw [if_pos (by omega)]
 simp [h]
theorem bs {α β:Type} (a:α) (f:α→Option β):(some a >>= f)=f a:=rfl
theorem Kbn {n:Nat} (h:n < 9223372036854775807):wr ((n:Int) + 1)=((n + 1:Nat):Int):=by
 rw [Kbl (by omega) (by omega)]; omega
theorem Kbo {n m:Nat} (h:n < m):decide ((n:Int) < (m:Int))=true:=decide_eq_true (by omega)
theorem Kbp {n m:Nat} (h:m ≤ n):decide ((n:Int) < (m:Int))=false:=decide_eq_false (by omega)
theorem Kbq {a:Int}:(a != a)=false:=by simp
theorem Kbr (a:List Int) (ha:a.length ≤ 1099511627776):∀ (k n:Nat),n + k=a.length→Ka1 (a,a,(n:Int))=some (.inl ()):=by
 intro k
 induction k with
 | zero =>
  intro n hn
  rw [Ka1.eq_def]
  simp only
  rw [Kbp (by omega)]
  rfl
 | succ k ih =>
  intro n hn
  rw [Ka1.eq_def]
  simp only
  rw [Kbo (by omega),if_pos rfl,Kbm (by omega),bs,bs,Kbq,if_neg (by decide),Kbn (by omega)]
  exact ih (n + 1) (by omega)
theorem Kbs (a:List Int) (ha:a.length ≤ 1099511627776):Ka4 (a,a)=some true:=by
 unfold Ka4
 simp only
 have:=Kbr a ha a.length 0 (by omega)
 rw [show ((0:Nat):Int)=0 from rfl] at this
 rw [Kbq,if_neg (by decide),this]
 rfl
def inB (x lo hi:Int):Bool:=decide (x ≥ lo) && decide (x ≤ hi)
theorem sIn (x lo hi:Int):K4j (x,lo,hi)=some (inB x lo hi):=by
 unfold K4j inB
 simp only
 cases decide (x ≥ lo) <;> simp [bs]
theorem iIn (x lo hi:Int):K86 (x,lo,hi)=some (inB x lo hi):=by
 unfold K86 inB
 simp only
 cases decide (x ≥ lo) <;> simp [bs]
theorem Kbt {α:Type} {l r:List α} {x:α} {i:Nat} (h:l.drop i=x :: r):i < l.length∧idx l (i:Int)=some x∧l.drop (i + 1)=r:=by
 have hi:i < l.length:=by
  rcases Nat.lt_or_ge i l.length with h' | h'
  ·exact h'
  ·rw [List.drop_eq_nil_of_le h'] at h; cases h
 have e:=List.drop_eq_getElem_cons hi
 rw [h] at e
 obtain ⟨e1,e2⟩:=List.cons.inj e
 exact ⟨hi,by rw [Kbm hi,e1],e2.symm⟩
theorem Kbu {α:Type} {l:List α} {i:Nat} (h:l.drop i=[]):l.length ≤ i:=by
 rcases Nat.lt_or_ge i l.length with h' | h'
 ·rw [List.drop_eq_getElem_cons h'] at h; cases h
 ·exact h'
def Kbv (c:Int):Bool:=inB c 3 18 || c == 35
def Kbw (c:Int):Bool:=inB c 19 34 || c == 36
def Kbx (c:Int):Int:=if c == 0 then 0 else if c == 1 || c == 2 || Kbv c then 2 else if Kbw c then 1 else -1
theorem Kby (c:Int):K4m c=some (Kbv c):=by
 unfold K4m Kbv
 simp only [sIn,bs]
 cases inB c 3 18 <;> rfl
theorem Kbz (c:Int):K4p c=some (Kbw c):=by
 unfold K4p Kbw
 simp only [sIn,bs]
 cases inB c 19 34 <;> rfl
theorem Kc0 (c:Int):K4s c=some (Kbx c):=by
 unfold K4s Kbx
 simp only [Kby,Kbz,bs]
 cases c == 0 <;> cases c == 1 <;> cases c == 2 <;> cases Kbv c <;> cases Kbw c <;> rfl
theorem Kc1 (c:Int):(c=0∧Kbx c=0)∨((c=1∨c=2∨(3 ≤ c∧c ≤ 18)∨c=35)∧Kbx c=2)∨(((19 ≤ c∧c ≤ 34)∨c=36)∧Kbx c=1)∨((c < 0∨36 < c)∧Kbx c=-1):=by
 unfold Kbx Kbv Kbw inB
 by_cases h0:c=0
 ·left; subst h0; exact ⟨rfl,rfl⟩
 ·right
  have e0:(c == 0)=false:=by simpa using h0
  by_cases h1:c=1∨c=2∨(3 ≤ c∧c ≤ 18)∨c=35
  ·left
   refine ⟨h1,?_⟩
   have:(c == 1 || c == 2 || (decide (c ≥ 3) && decide (c ≤ 18) || c == 35))=true:=by
    simp only [Bool.or_eq_true,Bool.and_eq_true,beq_iff_eq,decide_eq_true_eq]; omega
   rw [e0,this]; rfl
  ·right
   have q:(c == 1 || c == 2 || (decide (c ≥ 3) && decide (c ≤ 18) || c == 35))=false:=by
    rw [Bool.eq_false_iff]; intro h
    simp only [Bool.or_eq_true,Bool.and_eq_true,beq_iff_eq,decide_eq_true_eq] at h; omega
   rw [e0,q]
   by_cases h2:(19 ≤ c∧c ≤ 34)∨c=36
   ·left
    refine ⟨h2,?_⟩
    have:(decide (c ≥ 19) && decide (c ≤ 34) || c == 36)=true:=by
     simp only [Bool.or_eq_true,Bool.and_eq_true,beq_iff_eq,decide_eq_true_eq]; omega
    rw [this]; rfl
   ·right
    refine ⟨by omega,?_⟩
    have:(decide (c ≥ 19) && decide (c ≤ 34) || c == 36)=false:=by
     rw [Bool.eq_false_iff]; intro h
     simp only [Bool.or_eq_true,Bool.and_eq_true,beq_iff_eq,decide_eq_true_eq] at h; omega
    rw [this]; rfl
def Kc2 (c:Int):Int × Int :=
 if inB c 0 2 then (c,-1) else if inB c 3 18 then (3,c - 3) else if inB c 19 34 then (4,c - 19) else if c == 35 then (3,-1) else if c == 36 then (4,-1) else (5,-1)
theorem Kc3 (c:Int):K97 c=some (Kc2 c):=by
 unfold K97 Kc2
 simp only [iIn,bs]
 cases h1:inB c 0 2
 ·cases h2:inB c 3 18
  ·cases h3:inB c 19 34
   ·cases c == 35 <;> cases c == 36 <;> rfl
   ·simp only [inB,Bool.and_eq_true,decide_eq_true_eq] at h3
    simp only [Bool.false_eq_true,if_false,if_true]
    rw [Kbl (by omega) (by omega)]
  ·simp only [inB,Bool.and_eq_true,decide_eq_true_eq] at h2
   simp only [Bool.false_eq_true,if_false,if_true]
   rw [Kbl (by omega) (by omega)]
 ·rfl
theorem Kc4 (c:Int):(c=0∧Kc2 c=(0,-1))∨(c=1∧Kc2 c=(1,-1))∨(c=2∧Kc2 c=(2,-1))∨((3 ≤ c∧c ≤ 18)∧Kc2 c=(3,c - 3))∨(c=35∧Kc2 c=(3,-1)) ∨
  ((19 ≤ c∧c ≤ 34)∧Kc2 c=(4,c - 19))∨(c=36∧Kc2 c=(4,-1))∨((c < 0∨36 < c)∧Kc2 c=(5,-1)):=by
 have inT:∀ lo hi,lo ≤ c→c ≤ hi→inB c lo hi=true:=fun lo hi h1 h2=>by simp only [inB,Bool.and_eq_true,decide_eq_true_eq]; omega
 have inF:∀ lo hi,(c < lo∨hi < c)→inB c lo hi=false:=fun lo hi h=>by rw [Bool.eq_false_iff]; intro h'; simp only [inB,Bool.and_eq_true,decide_eq_true_eq] at h'; omega
 unfold Kc2
 by_cases h0:0 ≤ c∧c ≤ 2
 ·rw [inT 0 2 h0.1 h0.2]
  have:c=0∨c=1∨c=2:=by omega
  rcases this with rfl | rfl | rfl <;> simp
 ·rw [inF 0 2 (by omega)]
  by_cases h1:3 ≤ c∧c ≤ 18
  ·rw [inT 3 18 h1.1 h1.2]
   exact .inr (.inr (.inr (.inl ⟨h1,rfl⟩)))
  ·rw [inF 3 18 (by omega)]
   by_cases h2:19 ≤ c∧c ≤ 34
   ·rw [inT 19 34 h2.1 h2.2]
    exact .inr (.inr (.inr (.inr (.inr (.inl ⟨h2,rfl⟩)))))
   ·rw [inF 19 34 (by omega)]
    by_cases h3:c=35
    ·subst h3; simp
    ·by_cases h4:c=36
     ·subst h4; simp
     ·have e3:(c == 35)=false:=by simpa using h3
      have e4:(c == 36)=false:=by simpa using h4
      rw [e3,e4]
      refine .inr (.inr (.inr (.inr (.inr (.inr (.inr ⟨by omega,rfl⟩))))))
def skip:Nat→List Int→Option (List Int)
 | 0,l=>some l
 | _ + 1,[]=>none
 | m + 1,c :: l=>if Kbx c=-1 then none else skip (m + (Kbx c).toNat) l
theorem Kc5 (l:List Int):skip 0 l=some l:=by cases l <;> rfl
theorem Kc6 (m:Nat):skip (m + 1) []=none:=rfl
theorem Kc7 (m:Nat) (c:Int) (l:List Int):skip (m + 1) (c :: l)=if Kbx c=-1 then none else skip (m + (Kbx c).toNat) l:=rfl
theorem Kc8 (l:List Int):∀ (m k:Nat),skip (m + k) l=(skip m l).bind (skip k):=by
 induction l with
 | nil =>
  intro m k
  cases m with
  | zero=>rw [Nat.zero_add,Kc5]; rfl
  | succ m=>rw [show m + 1 + k=(m + k) + 1 by omega,Kc6,Kc6]; rfl
 | cons c l ih =>
  intro m k
  cases m with
  | zero=>rw [Nat.zero_add,Kc5]; rfl
  | succ m =>
   rw [show m + 1 + k=(m + k) + 1 by omega,Kc7,Kc7]
   by_cases h:Kbx c=-1
   ·rw [if_pos h,if_pos h]; rfl
   ·rw [if_neg h,if_neg h,← ih]; congr 1; omega
theorem Kc9 (l:List Int):∀ (m:Nat) (r:List Int),skip m l=some r→∃ p,l=p ++ r∧m ≤ p.length:=by
 induction l with
 | nil =>
  intro m r h
  cases m with
  | zero=>rw [Kc5] at h; cases h; exact ⟨[],rfl,Nat.le_refl _⟩
  | succ m=>rw [Kc6] at h; cases h
 | cons c l ih =>
  intro m r h
  cases m with
  | zero=>rw [Kc5] at h; cases h; exact ⟨[],rfl,Nat.le_refl _⟩
  | succ m =>
   rw [Kc7] at h
   by_cases hk:Kbx c=-1
   ·rw [if_pos hk] at h; cases h
   ·rw [if_neg hk] at h
    obtain ⟨p,e,hp⟩:=ih _ _ h
    exact ⟨c :: p,by rw [e]; rfl,by simp; omega⟩
def Kca (ty:List Int) (m i:Nat):Int:=match skip m (ty.drop i) with | some r=>((ty.length - r.length:Nat):Int) | none=>-1
theorem Kcb (ty:List Int) (hty:ty.length ≤ 1099511627776):∀ (l:List Int) (i m:Nat),ty.drop i=l→m ≤ 1099511627776 + 2 * i→∃ x,K5y (ty,((m + 1:Nat):Int),(i:Int))=some x∧(match x with | .inl ()=>-1 | .inr r=>r)=Kca ty (m + 1) i:=by
 intro l
 induction l with
 | nil =>
  intro i m hl hm
  rw [K5y.eq_def]
  simp only
  rw [Kbp (Kbu hl)]
  exact ⟨.inl (),rfl,by unfold Kca; rw [hl,Kc6]⟩
 | cons c l ih =>
  intro i m hl hm
  obtain ⟨hi,hx,hd⟩:=Kbt hl
  have hi2:(i:Int) < 1099511627776:=by omega
  rw [K5y.eq_def]
  simp only
  rw [Kbo hi,if_pos rfl,hx,bs,Kc0,bs]
  have he:Kca ty (m + 1) i=(match (if Kbx c=-1 then none else skip (m + (Kbx c).toNat) l) with | some r=>((ty.length - r.length:Nat):Int) | none=>-1):=by
   unfold Kca; rw [hl,Kc7]
  rw [he]
  by_cases hk:Kbx c=-1
  ·rw [if_pos hk,hk]
   exact ⟨.inr (-1),rfl,rfl⟩
  ·rw [if_neg hk]
   have hk0:0 ≤ Kbx c∧Kbx c ≤ 2:=by rcases Kc1 c with h | h | h | h <;> omega
   obtain ⟨k,hkk⟩:∃ k:Nat,Kbx c=(k:Int):=⟨(Kbx c).toNat,by omega⟩
   rw [decide_eq_false (by omega),if_neg (by decide),hkk,Int.toNat_natCast]
   rw [Kbl (x:=((m + 1:Nat):Int) - 1) (by omega) (by omega),show ((m + 1:Nat):Int) - 1=(m:Int) by omega,Kbl (x:=(m:Int) + (k:Int)) (by omega) (by omega),Kbn (by omega)]
   by_cases h0:m + k=0
   ·rw [show ((m:Int) + (k:Int) == 0)=true by simp; omega,if_pos rfl,h0,Kc5]
    refine ⟨_,rfl,?_⟩
    have:l.length=ty.length - (i + 1):=by rw [← hd,List.length_drop]
    simp only
    omega
   ·rw [show ((m:Int) + (k:Int) == 0)=false by simp; omega,if_neg (by decide)]
    obtain ⟨q,hq⟩:∃ q,m + k=q + 1:=⟨m + k - 1,by omega⟩
    have:=ih (i + 1) q hd (by omega)
    rw [show (m:Int) + (k:Int)=((q + 1:Nat):Int) by omega]
    obtain ⟨x,h1,h2⟩:=this
    exact ⟨x,h1,by rw [h2,hq]; unfold Kca; rw [hd]⟩
theorem Kcc (ty:List Int) (hty:ty.length ≤ 1099511627776) (i:Nat) (hi:i ≤ ty.length):K61 (ty,(i:Int))=some (Kca ty 1 i):=by
 unfold K61
 obtain ⟨x,h1,h2⟩:=Kcb ty hty _ i 0 rfl (by omega)
 simp only
 rw [show (1:Int)=((0 + 1:Nat):Int) from rfl,h1,bs]
 rw [← h2]
 cases x <;> rfl
theorem Kcd (ty:List Int) (i:Nat) (hi:i ≤ ty.length):Kca ty 2 i=(if Kca ty 1 i=-1 then -1 else Kca ty 1 (Kca ty 1 i).toNat):=by
 unfold Kca
 rw [show 2=1 + 1 from rfl,Kc8]
 cases h:skip 1 (ty.drop i) with
 | none=>simp
 | some r =>
  obtain ⟨p,hp,hl⟩:=Kc9 _ _ _ h
  have hlen:ty.length - i=p.length + r.length:=by rw [← List.length_drop,hp,List.length_append]
  have:ty.drop (ty.length - r.length)=r:=by
   have e:ty.drop (ty.length - r.length)=(ty.drop i).drop p.length:=by rw [List.drop_drop]; congr 1; omega
   rw [e,hp,List.drop_left]
  simp only [Option.bind_some]
  rw [if_neg (by omega),Int.toNat_natCast,this]
theorem Kce (ty:List Int) (hty:ty.length ≤ 1099511627776):∀ (d i:Nat),ty.length - i=d→K9a (ty,(i:Int))=some (Kca ty 1 i):=by
 intro d
 induction d using Nat.strongRecOn with
 | ind d ih =>
  intro i hd
  rw [K9a.eq_def]
  simp only
  rw [decide_eq_false (by omega:¬ (i:Int) < 0)]
  simp only [Bool.false_eq_true,if_false,bs]
  by_cases hi:i < ty.length
  ·rw [decide_eq_false (by omega),if_neg (by decide),Kbm hi,bs,Kc3,bs]
   have hdr:=List.drop_eq_getElem_cons hi
   have he:∀ k:Nat,Kbx ty[i]=(k:Int)→Kca ty 1 i=Kca ty k (i + 1):=fun k hk=>by
    unfold Kca
    rw [hdr,show 1=0 + 1 from rfl,Kc7,hk,if_neg (by omega),Int.toNat_natCast,Nat.zero_add]
   have hn:Kbx ty[i]=-1→Kca ty 1 i=-1:=fun hk=>by
    unfold Kca
    rw [hdr,show 1=0 + 1 from rfl,Kc7,if_pos hk]
   have i1:=ih (ty.length - (i + 1)) (by omega) (i + 1) rfl
   have hz:∀ i:Nat,i ≤ ty.length→Kca ty 0 i=(i:Int):=fun i hi=>by unfold Kca; rw [Kc5]; simp only [List.length_drop]; omega
   rw [Kbn (by omega)]
   have two:Kbx ty[i]=2→((K9a (ty,((i + 1:Nat):Int))) >>= fun r_11_4=>(K9a (ty,r_11_4)) >>= fun r_11_5=>some r_11_5)=some (Kca ty 1 i):=fun hk=>by
    rw [i1,bs,he 2 hk,Kcd ty (i + 1) (by omega)]
    by_cases h1:Kca ty 1 (i + 1)=-1
    ·rw [h1,if_pos rfl,K9a.eq_def]; rfl
    ·rw [if_neg h1]
     obtain ⟨e,hee,hlo⟩:∃ e:Nat,Kca ty 1 (i + 1)=(e:Int)∧i + 1 < e:=by
      unfold Kca at h1 ⊢
      cases hs:skip 1 (ty.drop (i + 1)) with
      | none=>rw [hs] at h1; exact absurd rfl h1
      | some r =>
       obtain ⟨p,hp,hl⟩:=Kc9 _ _ _ hs
       have hlen:ty.length - (i + 1)=p.length + r.length:=by rw [← List.length_drop,hp,List.length_append]
       exact ⟨_,rfl,by omega⟩
     rw [hee,Int.toNat_natCast,ih (ty.length - e) (by omega) e rfl,bs]
   rcases Kc4 ty[i] with ⟨h,e⟩ | ⟨h,e⟩ | ⟨h,e⟩ | ⟨h,e⟩ | ⟨h,e⟩ | ⟨h,e⟩ | ⟨h,e⟩ | ⟨h,e⟩ <;> rw [e] <;> simp only []
   ·have hk:Kbx ty[i]=0:=by rcases Kc1 ty[i] with h | h | h | h <;> omega
    rw [if_pos (by rfl),he 0 hk,hz _ (by omega)]
   ·have hk:Kbx ty[i]=2:=by rcases Kc1 ty[i] with h | h | h | h <;> omega
    exact two hk
   ·have hk:Kbx ty[i]=2:=by rcases Kc1 ty[i] with h | h | h | h <;> omega
    exact two hk
   ·have hk:Kbx ty[i]=2:=by rcases Kc1 ty[i] with h | h | h | h <;> omega
    exact two hk
   ·have hk:Kbx ty[i]=2:=by rcases Kc1 ty[i] with h | h | h | h <;> omega
    exact two hk
   ·have hk:Kbx ty[i]=1:=by rcases Kc1 ty[i] with h | h | h | h <;> omega
    rw [he 1 hk,if_neg (by decide),if_pos (by rfl),i1,bs]
   ·have hk:Kbx ty[i]=1:=by rcases Kc1 ty[i] with h | h | h | h <;> omega
    rw [he 1 hk,if_neg (by decide),if_pos (by rfl),i1,bs]
   ·have hk:Kbx ty[i]=-1:=by rcases Kc1 ty[i] with h | h | h | h <;> omega
    rw [hn hk]; rfl
  ·rw [decide_eq_true (by omega),if_pos rfl]
   unfold Kca
   rw [List.drop_eq_nil_of_le (by omega),Kc6]
def wtB (ty:List Int):Bool:=decide (ty.length ≤ 40) && (skip 1 ty == some [])
theorem Kcf (ty:List Int):(Kca ty 1 0 == (ty.length:Int))=(skip 1 ty == some []):=by
 unfold Kca
 rw [List.drop_zero]
 cases h:skip 1 ty with
 | none=>simp
 | some r =>
  obtain ⟨p,hp,hl⟩:=Kc9 _ _ _ h
  have hlen:ty.length=p.length + r.length:=by rw [hp,List.length_append]
  cases r with
  | nil=>simp
  | cons x xs =>
   simp only [List.length_cons] at hlen ⊢
   simp
   omega
theorem Kcg (ty:List Int) (hty:ty.length ≤ 1099511627776):K64 ty=some (wtB ty):=by
 unfold K64 wtB
 by_cases h:ty.length ≤ 40
 ·rw [decide_eq_true (by omega:(ty.length:Int) ≤ 40),if_pos rfl,show (0:Int)=((0:Nat):Int) from rfl,Kcc ty hty 0 (by omega),bs,Kcf,decide_eq_true h]
  cases hs:skip 1 ty == some [] with
  | false=>rfl
  | true =>
   have:0 < ty.length:=by
    rcases ty with _ | ⟨c,l⟩
    ·rw [show skip 1 []=none from rfl] at hs; cases hs
    ·simp
   rw [if_pos rfl,decide_eq_true (by omega:(ty.length:Int) > ((0:Nat):Int))]; rfl
 ·rw [decide_eq_false (by omega:¬ (ty.length:Int) ≤ 40),decide_eq_false h]; rfl
theorem Kch (ty:List Int) (hty:ty.length ≤ 1099511627776):K9d ty=some (wtB ty):=by
 unfold K9d wtB
 rw [iIn,bs]
 by_cases h:ty.length ≤ 40
 ·rw [decide_eq_true h]
  by_cases h1:1 ≤ ty.length
  ·have:inB (ty.length:Int) 1 40=true:=by simp only [inB,Bool.and_eq_true,decide_eq_true_eq]; omega
   rw [this,if_pos rfl,show (0:Int)=((0:Nat):Int) from rfl,Kce ty hty _ 0 rfl,bs,Kcf]; rfl
  ·have:inB (ty.length:Int) 1 40=false:=by rw [Bool.eq_false_iff]; intro h'; simp only [inB,Bool.and_eq_true,decide_eq_true_eq] at h'; omega
   have e:ty=[]:=List.length_eq_zero_iff.1 (by omega)
   rw [this,e]; rfl
 ·have:inB (ty.length:Int) 1 40=false:=by rw [Bool.eq_false_iff]; intro h'; simp only [inB,Bool.and_eq_true,decide_eq_true_eq] at h'; omega
  rw [this,decide_eq_false h]; rfl
def Kci (c:Int):Int:=if 35 ≤ c then -1 else if 19 ≤ c then c - 19 else c - 3
def Kcj (size:Int) (closed:Bool) (c:Int):Bool:=!(decide (Kbx c > 0) && decide (c > 2) && (decide (Kci c ≥ size) || closed && decide (Kci c < 0)))
theorem Kck {c:Int} (h:Kbx c > 0):K67 c=some (Kci c):=by
 have:0 ≤ c∧c ≤ 36:=by rcases Kc1 c with h | h | h | h <;> omega
 unfold K67 Kci
 by_cases h1:35 ≤ c
 ·rw [decide_eq_true (by omega:c ≥ 35),if_pos rfl,if_pos h1]
 ·rw [decide_eq_false (by omega:¬ c ≥ 35),if_neg (by decide),if_neg h1]
  by_cases h2:19 ≤ c
  ·rw [decide_eq_true (by omega:c ≥ 19),if_pos rfl,if_pos h2,Kbl (by omega) (by omega)]
  ·rw [decide_eq_false (by omega:¬ c ≥ 19),if_neg (by decide),if_neg h2,Kbl (by omega) (by omega)]
theorem Kcl (ty:List Int) (hty:ty.length ≤ 1099511627776) (size:Int) (cl:Bool):∀ (l:List Int) (i:Nat),ty.drop i=l→K6c (ty,size,cl,(i:Int))=some (if l.all (Kcj size cl) then .inl () else .inr false):=by
 intro l
 induction l with
 | nil =>
  intro i hl
  rw [K6c.eq_def]
  simp only
  rw [Kbp (Kbu hl)]; rfl
 | cons c l ih =>
  intro i hl
  obtain ⟨hi,hx,hd⟩:=Kbt hl
  rw [K6c.eq_def]
  simp only
  rw [Kbo hi,if_pos rfl,hx,bs,bs,Kc0,bs,Kbn (by omega)]
  have ih:=ih (i + 1) hd
  generalize ((i + 1:Nat):Int)=M at ih ⊢
  rw [List.all_cons]
  unfold Kcj at ih ⊢
  by_cases hk:Kbx c > 0
  ·simp only [bs,Kck hk]
   rw [decide_eq_true hk]
   generalize Kci c=g at ih ⊢
   cases decide (c > 2) <;> cases decide (g ≥ size) <;> cases cl <;> cases decide (g < 0) <;> simp [bs,ih]
  ·rw [decide_eq_false hk]; simp [bs,ih]
theorem Kcm (ty:List Int) (hty:ty.length ≤ 1099511627776) (size:Int) (cl:Bool):K6f (ty,size,cl)=some (ty.all (Kcj size cl)):=by
 unfold K6f
 simp only
 rw [show (0:Int)=((0:Nat):Int) from rfl,Kcl ty hty size cl _ 0 rfl,List.drop_zero,bs]
 cases ty.all (Kcj size cl) <;> rfl
theorem Kcn (c:Int):Kcj 16 false c=true:=by
 unfold Kcj Kci
 rcases Kc1 c with ⟨h,e⟩ | ⟨h,e⟩ | ⟨h,e⟩ | ⟨h,e⟩ <;> rw [e] <;> simp <;> split <;> (try split) <;> omega
theorem Kco {α β:Type} {a:Option α} {f:α→Option β} {x:α} (h:a=some x):(a >>= f)=f x:=by rw [h]; rfl
mutual
def tsz:K06→Nat
 | ⟨_,_,_,ks⟩=>1 + Kcp ks
def Kcp:List K06→Nat
 | []=>0
 | k :: ks=>tsz k + Kcp ks
end
mutual
def tms:K06→Nat
 | ⟨_,_,ty,ks⟩=>ty.length + ks.length + Kcq ks
def Kcq:List K06→Nat
 | []=>0
 | k :: ks=>tms k + Kcq ks
end
def Kcr (left n:Nat):Int:=if n ≤ left then ((left - n:Nat):Int) else -1
theorem Kcs {left n:Nat} (h:n ≤ left):Kcr left n=((left - n:Nat):Int):=if_pos h
theorem Kct {left n:Nat} (h:¬ n ≤ left):Kcr left n=-1:=if_neg h
theorem Kcu (t:K06) (i:Int):K5r (t,-1,i)=some (-1):=by
 rw [K5r.eq_def]
 simp only
 cases decide (i < (t.fKids.length:Int)) <;> rfl
mutual
theorem Kcv:∀ (t:K06) (left:Nat),tms t ≤ 1099511627776→left ≤ 1048576→K5q (t,(left:Int))=some (Kcr left (tsz t))
 | ⟨op,N,ty,ks⟩,left,ht,hl=>by
  rw [tms] at ht
  rw [K5q.eq_def,tsz]
  simp only
  rcases left with _ | l
  ·rw [show wr (((0:Nat):Int) - 1)=-1 from Kbl (by omega) (by omega),Kcu,bs,Kct (by omega)]
  ·have h:=Kcw ks ⟨op,N,ty,ks⟩ 0 l rfl (by simp only; omega) (by omega) (by omega)
   rw [Kbl (by omega) (by omega),show ((l + 1:Nat):Int) - 1=(l:Int) by omega,show (0:Int)=((0:Nat):Int) from rfl,h,bs]
   unfold Kcr
   by_cases q:Kcp ks ≤ l
   ·rw [if_pos q,if_pos (by omega),show l + 1 - (1 + Kcp ks)=l - Kcp ks by omega]
   ·rw [if_neg q,if_neg (by omega)]
theorem Kcw:∀ (ks:List K06) (t:K06) (i left:Nat),t.fKids.drop i=ks→t.fKids.length ≤ 1099511627776→Kcq ks ≤ 1099511627776→left ≤ 1048576→K5r (t,(left:Int),(i:Int))=some (Kcr left (Kcp ks))
 | [],t,i,left,hd,hk,ht,hl=>by
  rw [K5r.eq_def,Kcp]
  simp only
  rw [Kbp (Kbu hd)]
  simp [bs,Kcr]
 | k :: ks,t,i,left,hd,hk,ht,hl=>by
  obtain ⟨hi,hx,hd'⟩:=Kbt hd
  rw [Kcq] at ht
  rw [K5r.eq_def,Kcp]
  simp only
  rw [Kbo hi,if_pos rfl,bs,decide_eq_true (by omega:((left:Nat):Int) ≥ 0),if_pos rfl,hx,bs,Kcv k left (by omega) hl,bs,Kbn (by omega)]
  by_cases q:tsz k ≤ left
  ·rw [Kcs q,Kcw ks t (i + 1) (left - tsz k) hd' hk (by omega) (by omega)]
   unfold Kcr
   by_cases q2:Kcp ks ≤ left - tsz k
   ·rw [if_pos q2,if_pos (by omega)]; congr 2; omega
   ·rw [if_neg q2,if_neg (by omega)]
  ·rw [Kct q,Kcu,Kct (by omega)]
end
def Kcx (op:Int):Int:=if inB op 0 12 then ([0,0,2,3,2,2,1,1,3,1,2,1,2]:List Int).getD op.toNat 0 else -1
def Kcy (op:Int):Bool:=op == 5 || op == 8 || op == 9 || op == 11 || op == 12
def Kcz (op:Int):Bool:=op == 6 || op == 7 || op == 9
def Kd0 (op:Int):ByteArray:=([ByteArray.mk #[120],ByteArray.empty,ByteArray.mk #[97,100,100],ByteArray.mk #[105,102],ByteArray.mk #[112,97,105,114],ByteArray.mk #[115,112,108,105,116],ByteArray.mk #[108,101,102,116],
 ByteArray.mk #[114,105,103,104,116],ByteArray.mk #[99,97,115,101],ByteArray.mk #[102,117,110],ByteArray.mk #[97,112,112],ByteArray.mk #[98,111,120],ByteArray.mk #[111,112,101,110]]:List ByteArray).getD op.toNat ByteArray.empty
theorem Kd1 {op:Int} (h:inB op 0 12=true):op=0∨op=1∨op=2∨op=3∨op=4∨op=5∨op=6∨op=7∨op=8∨op=9∨op=10∨op=11∨op=12:=by
 simp only [inB,Bool.and_eq_true,decide_eq_true_eq] at h
 omega
theorem Kd2 (op:Int):K5e op=some (Kcx op):=by
 unfold K5e Kcx
 rw [sIn,bs]
 cases h:inB op 0 12
 ·rfl
 ·rcases Kd1 h with rfl | rfl | rfl | rfl | rfl | rfl | rfl | rfl | rfl | rfl | rfl | rfl | rfl <;> rfl
theorem Kd3 (op:Int):K3t op=some (Kcy op):=by
 unfold K3t Kcy
 cases op == 5 <;> cases op == 8 <;> cases op == 9 <;> cases op == 11 <;> rfl
theorem Kd4 (op:Int):K3w op=some (Kcz op):=by
 unfold K3w Kcz
 cases op == 6 <;> cases op == 7 <;> rfl
def Kd5 (op:Int):K08 × Bool:=if inB op 0 12 then (K08.mk (Kd0 op) (Kcx op) (Kcy op) (Kcz op),true) else (K08.mk ByteArray.empty 0 false false,false)
theorem Kd6 (op:Int):K89 op=some (Kd5 op):=by
 unfold K89 Kd5
 rw [iIn,bs]
 cases h:inB op 0 12
 ·rfl
 ·rcases Kd1 h with rfl | rfl | rfl | rfl | rfl | rfl | rfl | rfl | rfl | rfl | rfl | rfl | rfl <;> rfl
def Kd7 (op kid:Int):Nat:=if op == 5 && kid == 1 then 2 else if (op == 8 && decide (kid > 0)) || op == 9 || (op == 12 && kid == 1) then 1 else 0
theorem Kd8 (op kid:Int):Kd7 op kid ≤ 2:=by unfold Kd7; split <;> (try split) <;> omega
theorem Kd9 (op kid:Int):K6p (op,kid)=some ((Kd7 op kid:Nat):Int):=by
 unfold K6p Kd7
 simp only
 generalize (op == 5)=b1
 generalize (op == 8)=b2
 generalize (op == 9)=b3
 generalize (op == 12)=b4
 generalize (kid == 1)=b5
 generalize decide (kid > 0)=b6
 cases b1 <;> cases b2 <;> cases b3 <;> cases b4 <;> cases b5 <;> cases b6 <;> rfl
theorem Kda (op kid:Int):K9g (op,kid)=some ((Kd7 op kid:Nat):Int):=by
 unfold K9g Kd7
 simp only
 generalize (op == 5)=b1
 generalize (op == 8)=b2
 generalize (op == 9)=b3
 generalize (op == 12)=b4
 generalize (kid == 1)=b5
 generalize decide (kid > 0)=b6
 cases b1 <;> cases b2 <;> cases b3 <;> cases b4 <;> cases b5 <;> cases b6 <;> rfl
def Kdb (g:Int→Bool) (n:Int) (t:K06):Bool:=if t.fOp == 0 then inB t.fN 0 (n - 1) else if t.fOp == 1 then inB t.fN 0 2 else if Kcy t.fOp then g t.fN else t.fN == 0
def Kdc (y:List Int→Bool) (t:K06):Bool:=if Kcz t.fOp then y t.fType else (t.fType.length:Int) == 0
def Kdd (g:Int→Bool) (y:List Int→Bool) (n:Int) (t:K06):Bool:=inB t.fOp 0 12 && ((t.fKids.length:Int) == Kcx t.fOp) && Kdb g n t && Kdc y t
mutual
def tOk (g:Int→Bool) (y:List Int→Bool):Nat→K06→Bool
 | n,⟨op,N,ty,ks⟩=>Kdd g y (n:Int) ⟨op,N,ty,ks⟩ && Kde g y op n 0 ks
def Kde (g:Int→Bool) (y:List Int→Bool):Int→Nat→Nat→List K06→Bool
 | _,_,_,[]=>true
 | op,n,i,k :: ks=>tOk g y (n + Kd7 op (i:Int)) k && Kde g y op n (i + 1) ks
end
def gN (size:Int) (cl:Bool) (x:Int):Bool:=!(decide (x ≥ size) || decide (x < -1) || cl && decide (x < 0))
def yN (size:Int) (cl:Bool) (ty:List Int):Bool:=wtB ty && ty.all (Kcj size cl)
theorem Kdf (t:K06) (n:Nat) (size:Int) (cl:Bool) (hty:t.fType.length ≤ 1099511627776) (hn:n ≤ 35184372088832):K6m (t,(n:Int),size,cl)=some (Kdd (gN size cl) (yN size cl) (n:Int) t):=by
 unfold K6m Kdd
 simp only
 rw [Kd2,bs]
 by_cases hk:(t.fKids.length:Int)=Kcx t.fOp
 ·have hop:inB t.fOp 0 12=true:=by
   cases h:inB t.fOp 0 12
   ·unfold Kcx at hk; rw [h] at hk; simp at hk
   ·rfl
  rw [show ((t.fKids.length:Int) != Kcx t.fOp)=false by rw [hk]; exact Kbq,if_neg (by decide),show ((t.fKids.length:Int) == Kcx t.fOp)=true by rw [hk]; simp,hop]
  refine (Kco (x:=if Kdb (gN size cl) (n:Int) t then .inl () else .inr false) ?_).trans ?_
  ·unfold Kdb gN
   rw [sIn,Kbl (by omega) (by omega),sIn,Kd3]
   simp only [bs]
   generalize inB t.fN 0 ((n:Int) - 1)=b1
   generalize inB t.fN 0 2=b2
   generalize Kcy t.fOp=b3
   rw [show (t.fN != 0)=!(t.fN == 0) from rfl]
   generalize (t.fN == 0)=b4
   generalize decide (t.fN ≥ size)=b5
   generalize decide (t.fN < -1)=b6
   generalize decide (t.fN < 0)=b7
   generalize (t.fOp == 0)=b8
   generalize (t.fOp == 1)=b9
   cases b8
   ·cases b9
    ·cases b3
     ·cases b4 <;> rfl
     ·cases b5 <;> cases b6 <;> cases cl <;> cases b7 <;> rfl
    ·cases b2 <;> rfl
   ·cases b1 <;> rfl
  ·cases Kdb (gN size cl) (n:Int) t
   ·simp
   ·unfold Kdc yN
    simp only [if_true]
    rw [Kd4,bs]
    cases Kcz t.fOp
    ·simp
    ·simp only [if_true]
     rw [Kcg _ hty,Kcm _ hty]
     cases wtB t.fType <;> simp [bs]
 ·rw [show ((t.fKids.length:Int) != Kcx t.fOp)=true by simpa using hk,if_pos rfl,show ((t.fKids.length:Int) == Kcx t.fOp)=false by simpa using hk]
  simp
mutual
theorem Kdg (size:Int) (cl:Bool):∀ (t:K06) (n:Nat),tms t ≤ 1099511627776→n + 2 * tms t ≤ 35184372088832→K6t (t,(n:Int),size,cl)=some (tOk (gN size cl) (yN size cl) n t)
 | ⟨op,N,ty,ks⟩,n,ht,hn=>by
  rw [tms] at ht hn
  rw [K6t.eq_def,tOk]
  simp only
  rw [Kdf _ n size cl (by simp only; omega) (by omega),bs]
  cases hb:Kdd (gN size cl) (yN size cl) (n:Int) ⟨op,N,ty,ks⟩
  ·rfl
  ·have h:=Kdh size cl ks ⟨op,N,ty,ks⟩ n 0 rfl (by simp only; omega) (by omega) (by omega)
   rw [if_pos rfl,show (0:Int)=((0:Nat):Int) from rfl,h,bs]
   simp only
   cases Kde (gN size cl) (yN size cl) op n 0 ks <;> rfl
theorem Kdh (size:Int) (cl:Bool):∀ (ks:List K06) (t:K06) (n i:Nat),t.fKids.drop i=ks→t.fKids.length ≤ 1099511627776→Kcq ks ≤ 1099511627776→n + 2 * (ks.length + Kcq ks) ≤ 35184372088832 →
  K6u (t,(n:Int),size,cl,(i:Int))=some (if Kde (gN size cl) (yN size cl) t.fOp n i ks then .inl () else .inr false)
 | [],t,n,i,hd,hk,ht,hn=>by
  rw [K6u.eq_def,Kde]
  simp only
  rw [Kbp (Kbu hd)]; rfl
 | k :: ks,t,n,i,hd,hk,ht,hn=>by
  obtain ⟨hi,hx,hd'⟩:=Kbt hd
  rw [Kcq] at ht hn
  rw [List.length_cons] at hn
  have ha:=Kd8 t.fOp (i:Int)
  rw [K6u.eq_def,Kde]
  simp only
  rw [Kbo hi,if_pos rfl,hx,bs,Kd9,bs,Kbl (by omega) (by omega),show (n:Int) + ((Kd7 t.fOp (i:Int):Nat):Int)=((n + Kd7 t.fOp (i:Int):Nat):Int) by omega]
  rw [Kdg size cl k (n + Kd7 t.fOp (i:Int)) (by omega) (by omega),bs,Kbn (by omega)]
  cases tOk (gN size cl) (yN size cl) (n + Kd7 t.fOp (i:Int)) k
  ·rfl
  ·rw [if_pos rfl,Kdh size cl ks t n (i + 1) hd' hk (by omega) (by omega),Bool.true_and]
end
def Kdi (ok:Bool) (nodes sz:Nat):Int:=if ok && decide (nodes + sz ≤ 400) then ((nodes + sz:Nat):Int) else 401
theorem iWs (x:Int):K94 x=some (gN 16 false x):=by
 unfold K94
 rw [iIn,bs]
 congr 1
 unfold gN inB
 by_cases h1:x ≥ 16 <;> by_cases h2:x < -1 <;> simp [h1,h2] <;> omega
mutual
theorem Kdj:∀ (t:K06) (n nodes:Nat),tms t ≤ 1099511627776→n + 2 * tms t ≤ 35184372088832→nodes ≤ 400→K9k (t,(n:Int),(nodes:Int))=some (Kdi (tOk (gN 16 false) wtB n t) nodes (tsz t))
 | ⟨op,N,ty,ks⟩,n,nodes,ht,hn,hd=>by
  rw [tms] at ht hn
  rw [K9k.eq_def,tOk,tsz]
  simp only
  rw [Kd6,bs]
  unfold Kd5
  cases hop:inB op 0 12
  ·simp [Kdd,hop,Kdi]
  ·simp only [if_true]
   rw [Kbn (by omega)]
   by_cases h4:nodes + 1 ≤ 400
   ·rw [decide_eq_false (by omega:¬ ((nodes + 1:Nat):Int) > 400)]
    by_cases hk:(ks.length:Int)=Kcx op
    ·rw [show ((ks.length:Int) != Kcx op)=false by rw [hk]; exact Kbq]
     simp only [Bool.false_eq_true,if_false,bs]
     refine (Kco (x:=Kdb (gN 16 false) (n:Int) ⟨op,N,ty,ks⟩) ?_).trans ?_
     ·unfold Kdb
      simp only [iIn,Kbl (x:=(n:Int) - 1) (by omega) (by omega),iWs,bs]
      cases op == 0 <;> cases op == 1 <;> cases Kcy op <;> rfl
     refine (Kco (x:=Kdb (gN 16 false) (n:Int) ⟨op,N,ty,ks⟩ && Kdc wtB ⟨op,N,ty,ks⟩) ?_).trans ?_
     ·unfold Kdc
      simp only [Kch ty (by omega),bs]
      cases Kcz op <;> cases Kdb (gN 16 false) (n:Int) ⟨op,N,ty,ks⟩ <;> rfl
     have e:Kdd (gN 16 false) wtB (n:Int) ⟨op,N,ty,ks⟩=(Kdb (gN 16 false) (n:Int) ⟨op,N,ty,ks⟩ && Kdc wtB ⟨op,N,ty,ks⟩):=by
      unfold Kdd
      simp only
      rw [hop,hk]; simp
     rw [e]
     cases Kdb (gN 16 false) (n:Int) ⟨op,N,ty,ks⟩ && Kdc wtB ⟨op,N,ty,ks⟩
     ·simp [Kdi]
     ·have h:=Kdk ks ⟨op,N,ty,ks⟩ n (nodes + 1) 0 rfl (by simp only; omega) (by omega) (by omega) h4
      rw [if_pos rfl,show (0:Int)=((0:Nat):Int) from rfl,h]
      simp only [Bool.true_and]
      unfold Kdi
      rw [show nodes + (1 + Kcp ks)=nodes + 1 + Kcp ks by omega]
      cases Kde (gN 16 false) wtB op n 0 ks && decide (nodes + 1 + Kcp ks ≤ 400) <;> rfl
    ·rw [show ((ks.length:Int) != Kcx op)=true by simpa using hk]
     have e:Kdd (gN 16 false) wtB (n:Int) ⟨op,N,ty,ks⟩=false:=by
      unfold Kdd
      simp only
      rw [show ((ks.length:Int) == Kcx op)=false by simpa using hk]; simp
     simp [e,Kdi]
   ·rw [decide_eq_true (by omega:((nodes + 1:Nat):Int) > 400)]
    have:¬ nodes + (1 + Kcp ks) ≤ 400:=by omega
    simp [Kdi,this]
theorem Kdk:∀ (ks:List K06) (t:K06) (n nodes i:Nat),t.fKids.drop i=ks→t.fKids.length ≤ 1099511627776→Kcq ks ≤ 1099511627776→n + 2 * (ks.length + Kcq ks) ≤ 35184372088832→nodes ≤ 400 →
  K9l (t,(n:Int),(nodes:Int),(i:Int))=some (if Kde (gN 16 false) wtB t.fOp n i ks && decide (nodes + Kcp ks ≤ 400) then .inl ((nodes + Kcp ks:Nat):Int) else .inr 401)
 | [],t,n,nodes,i,hd,hk,ht,hn,h4=>by
  rw [K9l.eq_def,Kde,Kcp]
  simp only
  rw [Kbp (Kbu hd)]
  simp [h4]
 | k :: ks,t,n,nodes,i,hd,hk,ht,hn,h4=>by
  obtain ⟨hi,hx,hd'⟩:=Kbt hd
  rw [Kcq] at ht hn
  rw [List.length_cons] at hn
  have ha:=Kd8 t.fOp (i:Int)
  rw [K9l.eq_def,Kde,Kcp]
  simp only
  rw [Kbo hi,if_pos rfl,hx,bs,Kda,bs,Kbl (by omega) (by omega),show (n:Int) + ((Kd7 t.fOp (i:Int):Nat):Int)=((n + Kd7 t.fOp (i:Int):Nat):Int) by omega]
  rw [Kdj k (n + Kd7 t.fOp (i:Int)) nodes (by omega) (by omega) h4,bs,Kbn (by omega)]
  unfold Kdi
  cases tOk (gN 16 false) wtB (n + Kd7 t.fOp (i:Int)) k
  ·rfl
  ·by_cases q:nodes + tsz k ≤ 400
   ·rw [decide_eq_true q,Bool.true_and,if_pos rfl,decide_eq_false (by omega:¬ ((nodes + tsz k:Nat):Int) > 400),if_neg (by decide),Kdk ks t n (nodes + tsz k) (i + 1) hd' hk (by omega) (by omega) q,Nat.add_assoc,Bool.true_and]
   ·rw [decide_eq_false q,decide_eq_false (by omega:¬ nodes + (tsz k + Kcp ks) ≤ 400)]
    simp
end
theorem Kdl (ty:List Int):yN 16 false ty=wtB ty:=by
 unfold yN
 have:ty.all (Kcj 16 false)=true:=by rw [List.all_eq_true]; intro x _; exact Kcn x
 rw [this,Bool.and_true]
def wB (t:K06):Bool:=tOk (gN 16 false) wtB 8 t && decide (tsz t ≤ 400)
theorem Kdm (t:K06) (ht:tms t ≤ 1099511627776):K9r t=some (Kdi (tOk (gN 16 false) wtB 8 t) 0 (tsz t)):=by
 unfold K9r
 have:=Kdj t 8 0 ht (by omega) (by omega)
 rw [show ((8:Nat):Int)=8 from rfl,show ((0:Nat):Int)=0 from rfl] at this
 rw [this,bs]
theorem Kdn (t:K06) (ht:tms t ≤ 1099511627776):K9u t=some (wB t):=by
 unfold K9u
 rw [Kdm t ht,bs]
 unfold Kdi wB
 rw [Nat.zero_add]
 congr 1
 cases h:tOk (gN 16 false) wtB 8 t && decide (tsz t ≤ 400)
 ·rfl
 ·simp only [Bool.and_eq_true,decide_eq_true_eq] at h
  rw [if_pos rfl,decide_eq_true (by omega)]
theorem Kdo (t:K06) (ht:tms t ≤ 1099511627776):K70 t=some (wB t):=by
 unfold K70 wB
 have h1:=Kcv t 400 ht (by omega)
 have h2:=Kdg 16 false t 8 ht (by omega)
 rw [show ((400:Nat):Int)=400 from rfl] at h1
 rw [show ((8:Nat):Int)=8 from rfl,show yN 16 false=wtB from funext Kdl] at h2
 rw [h1,bs,h2]
 unfold Kcr
 by_cases q:tsz t ≤ 400
 ·rw [if_pos q,decide_eq_true (by omega:(((400 - tsz t:Nat)):Int) ≥ 0),decide_eq_true q,Bool.and_true]; rfl
 ·rw [if_neg q,decide_eq_false q,Bool.and_false]; rfl
mutual
theorem Kdp:∀ (t:K06),tms t ≤ 1099511627776→Ka8 (t,t)=some true
 | ⟨op,N,ty,ks⟩,h=>by
  rw [tms] at h
  rw [Ka8.eq_def]
  simp only
  rw [Kbq,if_neg (by decide),Kbq,if_neg (by decide),Kbs ty (by omega),bs,if_pos rfl,Ka9.eq_def]
  simp only
  rw [Kbq,if_neg (by decide),show (0:Int)=((0:Nat):Int) from rfl,Kdq ks ks 0 rfl (by omega) (by omega)]
  rfl
theorem Kdq:∀ (ks a:List K06) (i:Nat),a.drop i=ks→a.length ≤ 1099511627776→Kcq ks ≤ 1099511627776→Kaa (a,a,(i:Int))=some (.inl ())
 | [],a,i,hd,ha,hl=>by
  rw [Kaa.eq_def]
  simp only
  rw [Kbp (Kbu hd)]
  rfl
 | k :: ks,a,i,hd,ha,hl=>by
  obtain ⟨hi,hx,hd'⟩:=Kbt hd
  rw [Kcq] at hl
  rw [Kaa.eq_def]
  simp only
  rw [Kbo hi,if_pos rfl,hx,bs,bs,Kdp k (by omega),bs,if_pos rfl,Kbn (by omega)]
  exact Kdq ks a (i + 1) hd' ha (by omega)
end
theorem Kdr {n b:Nat} (h:n * b ≤ 140737488355328):Qey n b=some ():=by unfold Qey chk; rw [if_pos h]
inductive Ty where
 | num
 | bin (c:Int) (a b:Ty)
 | un (c:Int) (a:Ty)
namespace Ty
def ok:Ty→Prop
 | num=>True
 | bin c a b=>Kbx c=2∧a.ok∧b.ok
 | un c a=>Kbx c=1∧a.ok
def hd:Ty→Int
 | num=>0
 | bin c _ _=>c
 | un c _=>c
end Ty
theorem Kds:∀ (l a:List Int) (i k:Nat),a.drop i=l→a.length ≤ 1099511627776→k + l.length ≤ 1152921504606846976 + 1099511627776 →
  ∃ M,Kaj (a,(k:Int),(i:Int))=some (((k + l.length:Nat):Int),M)∧M.length=a.length∧M.take i=a.take i∧M.drop i=(List.range' k l.length).map (fun n:Nat=>(n:Int)):=by
 intro l
 induction l with
 | nil =>
  intro a i k hd ha hk
  rw [Kaj.eq_def]
  simp only
  rw [Kbp (Kbu hd)]
  exact ⟨a,by simp,rfl,rfl,by rw [hd]; rfl⟩
 | cons x l ih =>
  intro a i k hd ha hk
  obtain ⟨hi,hx,hd'⟩:=Kbt hd
  have hl:(x :: l).length ≤ 1099511627776:=by rw [← hd,List.length_drop]; omega
  rw [List.length_cons] at hl hk
  rw [Kaj.eq_def]
  simp only
  rw [Kbo hi,if_pos rfl,hx,bs,Int.toNat_natCast,Kbn (by omega),Kbn (by omega)]
  obtain ⟨M,h1,h2,h3,h4⟩:=ih (a.set i (k:Int)) (i + 1) (k + 1) (by rw [List.drop_set_of_lt (by omega)]; exact hd') (by simpa using ha) (by omega)
  have hMl:i < M.length:=by rw [h2,List.length_set]; exact hi
  have hMi:M[i]=(k:Int):=by
   have:=congrArg (fun l=>l[i]?) h3
   simp only [List.getElem?_take] at this
   rw [if_pos (by omega),if_pos (by omega),List.getElem?_eq_getElem hMl,List.getElem?_set_self hi] at this
   exact Option.some.inj this
  refine ⟨M,by rw [h1,List.length_cons]; congr 3; omega,by simpa using h2,?_,?_⟩
  ·have:=congrArg (List.take i) h3
   rw [List.take_take,List.take_take,Nat.min_eq_left (by omega),List.take_set_of_le (Nat.le_refl i)] at this
   exact this
  ·rw [List.drop_eq_getElem_cons hMl,h4,hMi,List.length_cons,List.range'_succ,List.map_cons]
theorem Kdt (a:List Int) (k:Nat) (ha:a.length ≤ 1099511627776) (hk:k ≤ 1152921504606846976) :
  Kam (a,(k:Int))=some (((k + a.length:Nat):Int),(List.range' k a.length).map (fun n:Nat=>(n:Int))):=by
 unfold Kam
 simp only
 obtain ⟨M,h1,h2,h3,h4⟩:=Kds a a 0 k rfl ha (by omega)
 rw [List.drop_zero] at h4
 rw [show (0:Int)=((0:Nat):Int) from rfl,h1,bs,h4]
theorem Kdu (m:Nat):∀ (n k i:Nat) (a:List Int),a.length ≤ 1099511627776→a.drop i=(List.range' k n).map (fun n:Nat=>(n:Int))→k + n ≤ 1152921504606846976 + 1099511627776→Kb1 (a,(k:Int),(i:Int))=some (.inl ((k + n:Nat):Int)):=by
 intro n
 induction n with
 | zero =>
  intro k i a ha hd hk
  rw [Kb1.eq_def]
  simp only
  rw [Kbp (Kbu hd)]; rfl
 | succ n ih =>
  intro k i a ha hd hk
  rw [List.range'_succ,List.map_cons] at hd
  obtain ⟨hi,hx,hd'⟩:=Kbt hd
  rw [Kb1.eq_def]
  simp only
  rw [Kbo hi,if_pos rfl,hx,bs,Kbq,if_neg (by decide),Kbn (by omega),Kbn (by omega),ih (k + 1) (i + 1) a ha hd' (by omega)]
  congr 3; omega
theorem Kdv (n k:Nat) (hn:n ≤ 1099511627776) (hk:k ≤ 1152921504606846976):Kb4 ((List.range' k n).map (fun n:Nat=>(n:Int)),(k:Int))=some ((k + n:Nat):Int):=by
 unfold Kb4
 simp only
 rw [show (0:Int)=((0:Nat):Int) from rfl,Kdu 0 n k 0 _ (by simpa using hn) (by rw [List.drop_zero]) (by omega),bs]
mutual
def mct:K06→Nat
 | ⟨_,_,ty,ks⟩=>ty.length + Kdw ks
def Kdw:List K06→Nat
 | []=>0
 | k :: ks=>2 + mct k + Kdw ks
end
mutual
theorem Kdx:∀ (t:K06),mct t ≤ 2 * tms t
 | ⟨op,N,ty,ks⟩=>by rw [mct,tms]; have:=Kdy ks; omega
theorem Kdy:∀ (ks:List K06),Kdw ks ≤ 2 * (ks.length + Kcq ks)
 | []=>by simp [Kdw]
 | k :: ks=>by rw [Kdw,Kcq,List.length_cons]; have:=Kdx k; have:=Kdy ks; omega
end
theorem Kdz {α:Type} (l:List α) (i:Nat) (a b:α):(l.set i a).set i b=l.set i b:=List.set_set ..
theorem Ke0 {α:Type} {l:List α} {i:Nat} (h:i < l.length) (a:α):idx (l.set i a) (i:Int)=some a:=by
 rw [Kbm (by simpa using h)]; simp
mutual
theorem Ke1:∀ (t:K06) (k:Nat),tms t ≤ 1099511627776→k + mct t ≤ 1152921504606846976→∃ ty ks,Kam (t.fType,(k:Int))=some (((k + t.fType.length:Nat):Int),ty)∧Kaq (t.fKids,((k + t.fType.length:Nat):Int))=some (((k + mct t:Nat):Int),ks) ∧
  Kb4 (ty,(k:Int))=some ((k + t.fType.length:Nat):Int)∧Kb8 (ks,((k + t.fType.length:Nat):Int))=some ((k + mct t:Nat):Int)∧ks.length=t.fKids.length
 | ⟨op,N,ty,ks⟩,k,hm,hk=>by
  rw [tms] at hm
  rw [mct] at hk ⊢
  simp only
  refine ⟨(List.range' k ty.length).map (fun n:Nat=>(n:Int)),?_⟩
  obtain ⟨M,h1,h2,h3,h4⟩:=Ke2 ks ks 0 (k + ty.length) rfl (by omega) (by omega) (by omega)
  refine ⟨M,Kdt ty k (by omega) (by omega),?_,Kdv ty.length k (by omega) (by omega),?_,h2⟩
  ·rw [Kaq.eq_def]
   simp only
   rw [show (0:Int)=((0:Nat):Int) from rfl,h1,bs,Nat.add_assoc]
  ·rw [Kb8.eq_def]
   simp only
   rw [show (0:Int)=((0:Nat):Int) from rfl,h4 M h2 rfl,bs,Nat.add_assoc]
theorem Ke2:∀ (ks a:List K06) (i k:Nat),a.drop i=ks→a.length ≤ 1099511627776→Kcq ks ≤ 1099511627776→k + Kdw ks ≤ 1152921504606846976 →
  ∃ M,Kar (a,(k:Int),(i:Int))=some (((k + Kdw ks:Nat):Int),M)∧M.length=a.length∧M.take i=a.take i∧∀ A:List K06,A.length=a.length→A.drop i=M.drop i→Kb9 (A,(k:Int),(i:Int))=some (.inl ((k + Kdw ks:Nat):Int))
 | [],a,i,k,hd,ha,hm,hk=>by
  rw [Kar.eq_def,Kdw]
  simp only
  rw [Kbp (Kbu hd)]
  refine ⟨a,rfl,rfl,rfl,fun A hA _=>?_⟩
  rw [Kb9.eq_def]
  simp only
  have:=Kbu hd
  rw [Kbp (by omega)]; rfl
 | x :: ks,a,i,k,hd,ha,hm,hk=>by
  obtain ⟨hi,hx,hd'⟩:=Kbt hd
  rw [Kcq] at hm
  rw [Kdw] at hk ⊢
  rw [Kar.eq_def]
  simp only
  rw [Kbo hi,if_pos rfl,hx,bs,Kbn (n:=k) (by omega),Kbn (n:=k + 1) (by omega),Int.toNat_natCast]
  obtain ⟨ty,kk,m1,m2,m3,m4,m5⟩:=Ke1 x (k + 1 + 1) (by omega) (by omega)
  simp only [Kdz,Ke0 hi,bs,m1,m2]
  rw [Kbn (by omega)]
  obtain ⟨M,h1,h2,h3,h4⟩:=Ke2 ks (a.set i ⟨(k:Int),((k + 1:Nat):Int),ty,kk⟩) (i + 1) (k + 1 + 1 + mct x) (by rw [List.drop_set_of_lt (by omega)]; exact hd') (by simpa using ha) (by omega) (by omega)
  have hMl:i < M.length:=by rw [h2,List.length_set]; exact hi
  have hMi:M[i]=⟨(k:Int),((k + 1:Nat):Int),ty,kk⟩:=by
   have:=congrArg (fun l=>l[i]?) h3
   simp only [List.getElem?_take] at this
   rw [if_pos (by omega),if_pos (by omega),List.getElem?_eq_getElem hMl,List.getElem?_set_self hi] at this
   exact Option.some.inj this
  refine ⟨M,by rw [h1]; congr 3; omega,by simpa using h2,?_,fun A hA hAd=>?_⟩
  ·have:=congrArg (List.take i) h3
   rw [List.take_take,List.take_take,Nat.min_eq_left (by omega),List.take_set_of_le (Nat.le_refl i)] at this
   exact this
  ·rw [List.drop_eq_getElem_cons hMl,hMi] at hAd
   obtain ⟨qi,qx,qd⟩:=Kbt hAd
   rw [Kb9.eq_def]
   simp only
   rw [Kbo qi,if_pos rfl,qx,bs,Kbn (n:=k) (by omega),Kbn (n:=k + 1) (by omega)]
   simp only
   rw [Kbq,if_neg (by decide),bs]
   simp only
   rw [Kbq,if_neg (by decide),bs]
   simp only
   rw [m3,bs,decide_eq_false (by omega),if_neg (by decide),bs]
   simp only
   rw [m4,bs,decide_eq_false (by omega),if_neg (by decide),Kbn (by omega),h4 A (by simpa using hA) qd]
   congr 3; omega
end
theorem Ke3 (t:K06) (k:Nat) (hm:tms t ≤ 1099511627776) (hk:k ≤ 1000000000000000000):∃ M,Kax (t,(k:Int))=some (((k + mct t:Nat):Int),M)∧∀ op N,Kbf (⟨op,N,M.fType,M.fKids⟩,(k:Int))=some ((k + mct t:Nat):Int):=by
 have hc:=Kdx t
 obtain ⟨ty,ks,m1,m2,m3,m4,_⟩:=Ke1 t k hm (by omega)
 unfold Kax
 simp only
 rw [m1,bs]
 simp only
 rw [m2,bs]
 refine ⟨_,rfl,fun op N=>?_⟩
 unfold Kbf
 simp only
 rw [m3,bs,decide_eq_false (by omega),if_neg (by decide),m4,bs,decide_eq_false (by omega),if_neg (by decide)]
theorem Ke4 (b:Bool):(!(b == b))=false:=by cases b <;> rfl
theorem Ke5 {a:Int}:(a == a)=true:=by simp
def bt (l:List UInt8):ByteArray:=⟨l.toArray⟩
theorem Ke6 (l:List UInt8):(bt l).data.toList=l:=by simp [bt]
theorem Ke7 (l:List UInt8):(bt l).toList=l:=by rw [ByteArray.toList_eq,Ke6]
theorem Ke8 (l:List UInt8):(bt l).size=l.length:=by simp [bt,ByteArray.size]
theorem Ke9 (a b:List UInt8):bt a ++ bt b=bt (a ++ b):=by
 apply ByteArray.ext
 rw [ByteArray.data_append]
 simp [bt]
theorem Kea (s:ByteArray):bt s.data.toList=s:=ByteArray.ext Array.toArray_toList
theorem Keb (s:ByteArray):s.size=s.data.toList.length:=Array.length_toList.symm
theorem Kec (n:Nat):Lib.decDigits n=if n < 10 then [UInt8.ofNat (48 + n)] else Lib.decDigits (n / 10) ++ [UInt8.ofNat (48 + n % 10)]:=by
 rw [Lib.decDigits]
 split <;> rfl
def Ked (b:UInt8):Bool:=decide (48 ≤ b.toNat) && decide (b.toNat ≤ 57)
theorem Kee (d:Nat) (h:d < 10):(UInt8.ofNat (48 + d)).toNat=48 + d:=by
 rw [UInt8.toNat_ofNat']; omega
theorem Kef (n:Nat):∀ b ∈ Lib.decDigits n,Ked b=true:=by
 induction n using Nat.strongRecOn with
 | ind n ih =>
  intro b hb
  rw [Kec] at hb
  have one:∀ d,d < 10→Ked (UInt8.ofNat (48 + d))=true:=fun d hd=>by
   unfold Ked; rw [Kee d hd]; simp; omega
  split at hb
  ·rw [List.mem_singleton] at hb; subst hb; exact one n (by assumption)
  ·rcases List.mem_append.1 hb with h | h
   ·exact ih (n / 10) (by omega) b h
   ·rw [List.mem_singleton] at h; subst h; exact one _ (by omega)
theorem Keg (n:Nat):Lib.decDigits n ≠ []:=by
 rw [Kec]
 split <;> simp
theorem Keh (n:Nat):(n < 10→(Lib.decDigits n).length=1)∧(n < 100→(Lib.decDigits n).length ≤ 2)∧(n < 1000→(Lib.decDigits n).length ≤ 3):=by
 have h1:∀ n,n < 10→(Lib.decDigits n).length=1:=fun n h=>by rw [Kec,if_pos h]; rfl
 have h2:∀ n,n < 100→(Lib.decDigits n).length ≤ 2:=fun n h=>by
  by_cases h':n < 10
  ·rw [h1 n h']; omega
  ·rw [Kec,if_neg h',List.length_append,h1 (n / 10) (by omega)]; simp
 refine ⟨h1 n,h2 n,fun h=>?_⟩
 by_cases h':n < 10
 ·rw [h1 n h']; omega
 ·have:=h2 (n / 10) (by omega)
  rw [Kec,if_neg h',List.length_append]; simp; omega
theorem Kei (d:Nat) (h:d < 10):Lib.digitVal (UInt8.ofNat (48 + d))=some d:=by
 unfold Lib.digitVal
 rw [Kee d h,if_pos (by omega)]
 congr 1; omega
theorem Kej (l:List UInt8) (b:UInt8):∀ acc,Lib.decFrom acc (l ++ [b])=(Lib.decFrom acc l).bind fun m=>(Lib.digitVal b).map fun d=>m * 10 + d:=by
 induction l with
 | nil =>
  intro acc
  simp only [List.nil_append,Lib.decFrom,Option.bind_some]
  cases Lib.digitVal b <;> rfl
 | cons a l ih =>
  intro acc
  simp only [List.cons_append,Lib.decFrom]
  cases Lib.digitVal a with
  | none=>rfl
  | some d=>exact ih _
theorem Kek (n:Nat):Lib.decFrom 0 (Lib.decDigits n)=some n:=by
 induction n using Nat.strongRecOn with
 | ind n ih =>
  rw [Kec]
  split
  ·rename_i h
   simp only [Lib.decFrom,Kei n h]
   congr 1; omega
  ·rw [Kej,ih (n / 10) (by omega),Kei _ (by omega)]
   simp only [Option.bind_some,Option.map_some,Option.some.injEq]
   omega
theorem Kel (n:Nat):Lib.decNat (Lib.decDigits n)=some n:=by
 unfold Lib.decNat
 have:=Keg n
 cases h:Lib.decDigits n with
 | nil=>exact absurd h this
 | cons a l=>rw [if_neg (by simp),← h,Kek]
theorem Kem {n m:Nat} (h:Lib.decDigits n=Lib.decDigits m):n=m:=by
 have h1:=Kel n
 rw [h,Kel] at h1
 exact (Option.some.inj h1).symm
theorem Ken {b:UInt8} {l:List UInt8} (h:Ked b=true):Lib.atoi (b :: l)=(Lib.decNat (b :: l)).map fun (m:Nat)=>(m:Int):=by
 unfold Ked at h
 simp only [Bool.and_eq_true,decide_eq_true_eq] at h
 have h1:(b == 45)=false:=by rw [beq_eq_false_iff_ne]; intro e; subst e; exact absurd h.1 (by decide)
 have h2:(b == 43)=false:=by rw [beq_eq_false_iff_ne]; intro e; subst e; exact absurd h.1 (by decide)
 unfold Lib.atoi
 simp only [h1,h2,Bool.false_eq_true,if_false]
theorem Keo (n:Nat):Lib.itoa (n:Int)=Lib.decDigits n:=by
 unfold Lib.itoa
 rw [if_neg (by omega),Int.toNat_natCast]
theorem Kep (d:Nat) (h:d < 10):strOfNums [IntKind.u8.wrap (wr (48 + (d:Int)))]=bt [UInt8.ofNat (48 + d)]:=by
 rw [Kbl (by omega) (by omega)]
 have:IntKind.u8.wrap (48 + (d:Int))=((48 + d:Nat):Int):=by
  have hd:d=0∨d=1∨d=2∨d=3∨d=4∨d=5∨d=6∨d=7∨d=8∨d=9:=by omega
  rcases hd with rfl | rfl | rfl | rfl | rfl | rfl | rfl | rfl | rfl | rfl <;> rfl
 rw [this]
 rfl
theorem Keq (n:Nat) (h:n < 1000000):K3z (n:Int)=some (bt (Lib.decDigits n)):=by
 have len:∀ k,∀ n,n < 10 ^ k→(Lib.decDigits n).length ≤ k + 1:=by
  intro k
  induction k with
  | zero=>intro n h; rw [Kec,if_pos (by omega)]; simp
  | succ k ih =>
   intro n h
   rw [Kec]
   split
   ·simp
   ·have:=ih (n / 10) (by rw [Nat.pow_succ] at h; omega)
    rw [List.length_append]; simp; omega
 induction n using Nat.strongRecOn with
 | ind n ih =>
  rw [K3z.eq_def,Kec]
  have e10:Int.tmod (n:Int) 10=((n % 10:Nat):Int):=by rw [Int.tmod_eq_emod_of_nonneg (by omega)]; omega
  have e11:Int.tdiv (n:Int) 10=((n / 10:Nat):Int):=by rw [Int.tdiv_eq_ediv_of_nonneg (by omega)]; omega
  by_cases h1:n < 10
  ·rw [decide_eq_false (by omega),if_neg (by decide),if_pos h1,e10,Kep _ (by omega),bs,Nat.mod_eq_of_lt h1]
  ·have l1:=len 6 (n / 10) (by omega)
   rw [decide_eq_true (by omega),if_pos rfl,if_neg h1,e11,Kbl (by omega) (by omega),ih (n / 10) (by omega) (by omega),bs,e10,Kep _ (by omega)]
   unfold chk
   rw [if_pos (by rw [Ke8,Ke8]; simp; omega),bs,bs,Ke9]
def gt (g:Int):List UInt8:=if g < 0 then [63] else Lib.decDigits g.toNat
theorem sGt (g:Int) (h:g < 1000):K42 g=some (bt (gt g)):=by
 unfold K42 gt
 by_cases h0:g < 0
 ·rw [decide_eq_true h0,if_pos rfl,if_pos h0]; rfl
 ·rw [decide_eq_false h0,if_neg (by decide),if_neg h0]
  obtain ⟨n,rfl⟩:∃ n:Nat,g=n:=⟨g.toNat,by omega⟩
  rw [Keq n (by omega),Int.toNat_natCast,bs]
theorem Ker (n:Nat):gt (n:Int)=Lib.decDigits n:=by unfold gt; rw [if_neg (by omega),Int.toNat_natCast]
theorem Kes:gt (-1)=[63]:=rfl
theorem Ket {g h:Int} (h1:-1 ≤ g) (h2:-1 ≤ h) (e:gt g=gt h):g=h:=by
 have q:∀ n:Nat,Lib.decDigits n ≠ [63]:=fun n e=>by
  have:=Kef n 63 (by rw [e]; simp)
  exact absurd this (by decide)
 unfold gt at e
 by_cases a:g < 0 <;> by_cases b:h < 0
 ·omega
 ·rw [if_pos a,if_neg b] at e; exact absurd e.symm (q _)
 ·rw [if_neg a,if_pos b] at e; exact absurd e (q _)
 ·rw [if_neg a,if_neg b] at e
  have:=Kem e
  omega
theorem Keu {g:Int} (h:g < 100):1 ≤ (gt g).length∧(gt g).length ≤ 2:=by
 unfold gt
 split
 ·simp
 ·have:=(Keh g.toNat).2.1 (by omega)
  have:=Keg g.toNat
  have:(Lib.decDigits g.toNat).length ≠ 0:=fun e=>this (List.length_eq_zero_iff.1 e)
  omega
theorem Kev {g:Int}:∀ b ∈ gt g,b=63∨Ked b=true:=by
 intro b hb
 unfold gt at hb
 split at hb
 ·left; simpa using hb
 ·right; exact Kef _ b hb
abbrev tl (t:ByteArray):List UInt8:=t.data.toList
theorem Kew (t:ByteArray):(tl t).length=t.size:=(Keb t).symm
theorem Kex {t:ByteArray} {p:Nat} {b:UInt8} {R:List UInt8} (h:(tl t).drop p=b :: R):p < t.size∧(tl t).drop (p + 1)=R:=by
 obtain ⟨h1,_,h2⟩:=Kbt h
 exact ⟨by rw [← Kew]; exact h1,h2⟩
theorem Key {t:ByteArray} {p:Nat} {A R:List UInt8} (h:(tl t).drop p=A ++ R):p + A.length ≤ t.size∨A=[]:=by
 by_cases hA:A=[]
 ·exact .inr hA
 ·left
  have:((tl t).drop p).length=A.length + R.length:=by rw [h,List.length_append]
  rw [List.length_drop,Kew] at this
  have:A.length ≠ 0:=fun e=>hA (List.length_eq_zero_iff.1 e)
  omega
theorem Kez {t:ByteArray} {p:Nat} {A R:List UInt8} (h:(tl t).drop p=A ++ R):(tl t).drop (p + A.length)=R:=by
 rw [← List.drop_drop,h,List.drop_left]
theorem Kf0 {t:ByteArray} {p:Nat} {b:UInt8} {R:List UInt8} (h:(tl t).drop p=b :: R):Qft t (p:Int)=some (b.toNat:Int):=by
 obtain ⟨h1,_⟩:=Kex h
 unfold Qft
 rw [if_pos (by omega)]
 have e:=List.drop_eq_getElem_cons (l:=tl t) (i:=p) (by rw [Kew]; exact h1)
 rw [h] at e
 have e1:=(List.cons.inj e).1
 have:t.data.getD p 0=b:=by
  rw [Array.getD_eq_getD_getElem?,Array.getElem?_eq_getElem (h1:p < t.data.size)]
  simp only [Option.getD_some]
  rw [e1]
  exact (Array.getElem_toList _).symm
 rw [Int.toNat_natCast,this]
theorem Kf1 {t:ByteArray} {p q:Nat} (h:p ≤ q):(t.extract p q).data.toList=((tl t).drop p).take (q - p):=by
 rw [Lib.extract_data]
theorem Kf2 {t:ByteArray} {p:Nat} {A R:List UInt8} (hp:p ≤ t.size) (h:(tl t).drop p=A ++ R):Qev t (some (p:Int)) (some ((p + A.length:Nat):Int))=some (bt A):=by
 have hq:p + A.length ≤ t.size:=by
  rcases Key h with h' | h'
  ·exact h'
  ·subst h'; simpa using hp
 unfold Qev
 simp only [Option.getD_some]
 rw [if_pos (by omega),Int.toNat_natCast,Int.toNat_natCast,← Kea (t.extract p (p + A.length)),Kf1 (by omega),h]
 congr 2
 rw [show p + A.length - p=A.length by omega,List.take_left]
theorem Kf3 {t:ByteArray} {p:Nat} (hp:p ≤ t.size):Qev t (some (p:Int)) none=some (bt ((tl t).drop p)):=by
 have:=Kf2 (t:=t) (p:=p) (A:=(tl t).drop p) (R:=[]) hp (by simp)
 have e:p + ((tl t).drop p).length=t.size:=by rw [List.length_drop,Kew]; omega
 rw [e] at this
 unfold Qev at this ⊢
 exact this
theorem Kf4 (s:List UInt8) (k:Nat) (h:k ≤ s.length):Qev (bt s) none (some (k:Int))=some (bt (s.take k)):=by
 have e:(tl (bt s)).drop 0=s.take k ++ s.drop k:=by rw [show tl (bt s)=s from Ke6 s,List.drop_zero,List.take_append_drop]
 have:=Kf2 (t:=bt s) (p:=0) (Nat.zero_le _) e
 rw [List.length_take,Nat.min_eq_left h,Nat.zero_add] at this
 unfold Qev at this ⊢
 exact this
theorem Kf5 (s w:List UInt8) (hs:s.length ≤ 1048576):K7r (bt s,bt w)=some (w.isPrefixOf s):=by
 unfold K7r K7o
 simp only
 rw [Ke8,Ke8]
 by_cases h:w.length ≤ s.length
 ·rw [decide_eq_true (by omega),if_pos rfl,Kf4 s _ h,bs,Ke7,Ke7]
  simp only [bs]
  congr 1
  rw [Bool.eq_iff_iff,beq_iff_eq,List.isPrefixOf_iff_prefix,List.prefix_iff_eq_take]
  exact ⟨fun e=>e.symm,fun e=>e.symm⟩
 ·rw [decide_eq_false (by omega),if_neg (by decide)]
  simp only [bs]
  congr 1
  symm
  rw [Bool.eq_false_iff]
  intro e
  have:=(List.isPrefixOf_iff_prefix.1 e).length_le
  omega
theorem Kf6 {t:ByteArray} {p:Nat} {l:Int} (w:List UInt8) (hp:p ≤ t.size) (ht:t.size ≤ 1048576) :
  K7u (⟨t,(p:Int),false,l⟩,bt w)=some (if w.isPrefixOf ((tl t).drop p) then (true,⟨t,((p + w.length:Nat):Int),false,l⟩) else (false,⟨t,(p:Int),false,l⟩)):=by
 unfold K7u
 simp only [Bool.false_eq_true,if_false]
 rw [Kf3 hp,bs,Kf5 _ _ (by rw [List.length_drop,Kew]; omega),bs,bs]
 cases h:w.isPrefixOf ((tl t).drop p) with
 | false=>rfl
 | true =>
  have:=(List.isPrefixOf_iff_prefix.1 h).length_le
  rw [List.length_drop,Kew] at this
  rw [Ke8,Kbl (by omega) (by omega)]
  rfl
theorem Kf7 {t:ByteArray} {p:Int} {l:Int} (w:ByteArray):K7u (⟨t,p,true,l⟩,w)=some (false,⟨t,p,true,l⟩):=rfl
theorem Kf8 {t:ByteArray} {p:Nat} {l:Int} {w R:List UInt8} (h:(tl t).drop p=w ++ R) (hp:p ≤ t.size) (ht:t.size ≤ 1048576) :
  K7u (⟨t,(p:Int),false,l⟩,bt w)=some (true,⟨t,((p + w.length:Nat):Int),false,l⟩):=by
 rw [Kf6 w hp ht,if_pos (by rw [List.isPrefixOf_iff_prefix,h]; exact List.prefix_append _ _)]
theorem Kf9 {t:ByteArray} {p:Nat} {l:Int} {w:List UInt8} (h:¬ w <+: (tl t).drop p) (hp:p ≤ t.size) (ht:t.size ≤ 1048576) :
  K7u (⟨t,(p:Int),false,l⟩,bt w)=some (false,⟨t,(p:Int),false,l⟩):=by
 rw [Kf6 w hp ht,if_neg (by rw [List.isPrefixOf_iff_prefix]; exact h)]
theorem Kfa {t:ByteArray} {p:Nat} {l:Int} {w R:List UInt8} (h:(tl t).drop p=w ++ R) (hp:p ≤ t.size) (ht:t.size ≤ 1048576) :
  K8c (⟨t,(p:Int),false,l⟩,bt w)=some ⟨t,((p + w.length:Nat):Int),false,l⟩:=by
 unfold K8c
 simp only
 rw [Kf8 h hp ht,bs]
 rfl
theorem Kfb {t:ByteArray} {p:Nat} {l:Int} {w:List UInt8} (h:¬ w <+: (tl t).drop p) (hp:p ≤ t.size) (ht:t.size ≤ 1048576) :
  K8c (⟨t,(p:Int),false,l⟩,bt w)=some ⟨t,(p:Int),true,l⟩:=by
 unfold K8c
 simp only
 rw [Kf9 h hp ht,bs]
 rfl
theorem Kfc {t:ByteArray} {p:Int} {l:Int} (w:ByteArray):K8c (⟨t,p,true,l⟩,w)=some ⟨t,p,true,l⟩:=rfl
def dgs:Nat→List UInt8→List UInt8
 | 0,_=>[]
 | _ + 1,[]=>[]
 | k + 1,b :: r=>if Ked b then b :: dgs k r else []
theorem Kfd:∀ (k:Nat) (R:List UInt8),∃ S,R=dgs k R ++ S
 | 0,R=>⟨R,rfl⟩
 | _ + 1,[]=>⟨[],rfl⟩
 | k + 1,b :: r=>by
  unfold dgs
  split
  ·obtain ⟨S,h⟩:=Kfd k r
   exact ⟨S,by rw [List.cons_append,← h]⟩
  ·exact ⟨_,rfl⟩
theorem Kfe:∀ (k:Nat) (R:List UInt8),(dgs k R).length ≤ k
 | 0,R=>Nat.le_refl _
 | _ + 1,[]=>Nat.zero_le _
 | k + 1,b :: r=>by
  unfold dgs
  split
  ·have:=Kfe k r; simp; omega
  ·simp
theorem Kff:∀ (k:Nat) (R:List UInt8),∀ b ∈ dgs k R,Ked b=true
 | 0,R,b,h=>by cases h
 | _ + 1,[],b,h=>by cases h
 | k + 1,c :: r,b,h=>by
  unfold dgs at h
  split at h
  ·rcases List.mem_cons.1 h with rfl | h
   ·assumption
   ·exact Kff k r b h
  ·cases h
theorem Kfg:∀ (d:List UInt8) (k:Nat) (R:List UInt8),(∀ b ∈ d,Ked b=true)→d.length ≤ k→(∀ b r,R=b :: r→Ked b=false)→dgs k (d ++ R)=d
 | [],k,R,_,_,h=>by
  cases k with
  | zero=>rfl
  | succ k =>
   cases R with
   | nil=>rfl
   | cons b r=>rw [List.nil_append,dgs,h b r rfl]; rfl
 | c :: d,0,R,_,hl,_=>by simp at hl
 | c :: d,k + 1,R,hd,hl,h=>by
  rw [List.cons_append,dgs,hd c List.mem_cons_self,if_pos rfl,Kfg d k R (fun b hb=>hd b (List.mem_cons_of_mem _ hb)) (by simpa using hl) h]
theorem Kfh {t:ByteArray} {p:Nat} {f:Bool} {l:Int} (hp:p ≤ t.size) (ht:t.size ≤ 1048576):∀ (k r:Nat),r + k=p + 3→r ≤ t.size→K80 (⟨t,(p:Int),f,l⟩,(r:Int))=some ((r + (dgs k ((tl t).drop r)).length:Nat):Int):=by
 intro k
 induction k with
 | zero =>
  intro r hr hs
  rw [K80.eq_def]
  simp only
  rw [Kbl (x:=(p:Int) + 3) (by omega) (by omega),decide_eq_false (by omega:¬ (r:Int) < (p:Int) + 3)]
  simp only [Bool.false_eq_true,if_false]
  by_cases h:r < t.size
  ·rw [Kbo h]; simp only [if_true,bs,dgs,List.length_nil,Nat.add_zero]; rfl
  ·rw [Kbp (by omega)]; simp only [Bool.false_eq_true,if_false,bs,dgs,List.length_nil,Nat.add_zero]
 | succ k ih =>
  intro r hr hs
  rw [K80.eq_def]
  simp only
  rw [Kbl (x:=(p:Int) + 3) (by omega) (by omega),decide_eq_true (by omega:(r:Int) < (p:Int) + 3)]
  cases hd:(tl t).drop r with
  | nil =>
   have:=Kbu hd
   rw [Kew] at this
   rw [Kbp this]; simp only [Bool.false_eq_true,if_false,bs,dgs,List.length_nil,Nat.add_zero]
  | cons b R =>
   obtain ⟨h1,h2⟩:=Kex hd
   rw [Kbo h1]
   simp only [if_true]
   rw [Kf0 hd,bs]
   have e:(if decide ((b.toNat:Int) ≥ 48)=true then some b.toNat >>= fun e=>some (decide ((e:Int) ≤ 57)) else some false)=some (Ked b):=by
    unfold Ked
    by_cases a:48 ≤ b.toNat
    ·rw [decide_eq_true (by omega:(b.toNat:Int) ≥ 48),if_pos rfl,bs,decide_eq_true a,Bool.true_and]
     congr 1
     rw [Bool.eq_iff_iff,decide_eq_true_eq,decide_eq_true_eq]; omega
    ·rw [decide_eq_false (by omega:¬ (b.toNat:Int) ≥ 48),if_neg (by decide),decide_eq_false a,Bool.false_and]
   by_cases a:48 ≤ b.toNat
   ·rw [decide_eq_true (by omega:(b.toNat:Int) ≥ 48)]
    simp only [if_true,bs]
    rw [dgs]
    have q:Ked b=decide ((b.toNat:Int) ≤ 57):=by
     unfold Ked
     rw [decide_eq_true a,Bool.true_and,Bool.eq_iff_iff,decide_eq_true_eq,decide_eq_true_eq]; omega
    rw [q]
    cases hq:decide ((b.toNat:Int) ≤ 57) with
    | false=>simp
    | true =>
     rw [if_pos rfl,if_pos rfl,Kbn (by omega),ih (r + 1) (by omega) (by omega),h2,List.length_cons]
     congr 1; omega
   ·rw [decide_eq_false (by omega:¬ (b.toNat:Int) ≥ 48)]
    have q:Ked b=false:=by unfold Ked; rw [decide_eq_false a,Bool.false_and]
    simp only [Bool.false_eq_true,if_false,bs,dgs,q,List.length_nil,Nat.add_zero]
theorem Kfi:∀ (d:List UInt8) (acc n:Nat),Lib.decFrom acc d=some n→n < (acc + 1) * 10 ^ d.length
 | [],acc,n,h=>by simp [Lib.decFrom] at h; subst h; simp
 | b :: d,acc,n,h=>by
  simp only [Lib.decFrom] at h
  cases hv:Lib.digitVal b with
  | none=>rw [hv] at h; cases h
  | some v =>
   rw [hv] at h
   have:=Kfi d _ n h
   have hv9:v ≤ 9:=by
    unfold Lib.digitVal at hv
    split at hv
    ·simp only [Option.some.injEq] at hv; omega
    ·cases hv
   rw [List.length_cons,Nat.pow_succ]
   calc n < (acc * 10 + v + 1) * 10 ^ d.length:=this
    _ ≤ ((acc + 1) * 10) * 10 ^ d.length:=Nat.mul_le_mul_right _ (by omega)
    _=(acc + 1) * (10 ^ d.length * 10):=by rw [Nat.mul_assoc,Nat.mul_comm 10]
theorem Kfj {t:ByteArray} {p:Nat} {f:Bool} {l:Int} (hp:p ≤ t.size) (ht:t.size ≤ 1048576) :
  (∃ n:Nat,n ≤ 999∧dgs 3 ((tl t).drop p)=Lib.decDigits n∧K83 ⟨t,(p:Int),f,l⟩=some ((n:Int),⟨t,((p + (Lib.decDigits n).length:Nat):Int),f,l⟩)) ∨
  ((∀ n:Nat,dgs 3 ((tl t).drop p) ≠ Lib.decDigits n)∧K83 ⟨t,(p:Int),f,l⟩=some (0,⟨t,((p + (dgs 3 ((tl t).drop p)).length:Nat):Int),true,l⟩)):=by
 obtain ⟨S,hS⟩:=Kfd 3 ((tl t).drop p)
 have hl:=Kfe 3 ((tl t).drop p)
 have hdg:=Kff 3 ((tl t).drop p)
 have hc:=Kf2 hp hS
 have hr:=Kfh (f:=f) (l:=l) hp ht 3 p rfl hp
 generalize dgs 3 ((tl t).drop p)=d at hS hl hdg hc hr ⊢
 unfold K83
 simp only
 rw [hr,bs,hc,bs]
 unfold Q92
 rw [if_pos (by rw [Ke8]; omega),Ke6]
 cases d with
 | nil =>
  right
  refine ⟨fun n e=>Keg n e.symm,?_⟩
  rfl
 | cons b r =>
  rw [Ken (hdg b List.mem_cons_self)]
  cases hn:Lib.decNat (b :: r) with
  | none =>
   right
   refine ⟨fun n e=>?_,rfl⟩
   rw [e,Kel] at hn
   cases hn
  | some n =>
   have hb:n ≤ 999:=by
    have h0:Lib.decFrom 0 (b :: r)=some n:=by
     unfold Lib.decNat at hn
     rw [if_neg (by simp)] at hn
     exact hn
    have h1:=Kfi _ _ _ h0
    have h2:10 ^ (b :: r).length ≤ 10 ^ 3:=Nat.pow_le_pow_right (by decide) hl
    simp only [Nat.zero_add,Nat.one_mul] at h1
    have:(10:Nat) ^ 3=1000:=rfl
    omega
   simp only [Option.map_some,bs,Bool.false_eq_true,if_false]
   unfold Q93
   rw [if_pos (by omega),bs,Keo]
   have e1:(({ data:=(Lib.decDigits n).toArray }:ByteArray).toList == (bt (b :: r)).toList)=(Lib.decDigits n == b :: r):=by
    rw [show ({ data:=(Lib.decDigits n).toArray }:ByteArray)=bt (Lib.decDigits n) from rfl,Ke7,Ke7]
   rw [e1]
   by_cases h:Lib.decDigits n=b :: r
   ·left
    refine ⟨n,hb,h.symm,?_⟩
    rw [h,beq_self_eq_true]
    rfl
   ·right
    refine ⟨fun m e=>?_,?_⟩
    ·rw [e,Kel] at hn
     rw [Option.some.inj hn] at e
     exact h e.symm
    ·rw [show (Lib.decDigits n == b :: r)=false by rw [beq_eq_false_iff_ne]; exact h]
     rfl
def GR (s:UInt8) (R:List UInt8) (g:Int) (post:List UInt8):Prop:=-1 ≤ g∧g ≤ 15∧R=gt g ++ s :: post
theorem Kfk {t:ByteArray} {p:Nat} {l:Int} {c:UInt8} {R:List UInt8} (h:(tl t).drop p=c :: R) (ht:t.size ≤ 1048576) :
  K7u (⟨t,(p:Int),false,l⟩,bt [c])=some (true,⟨t,((p + 1:Nat):Int),false,l⟩) :=
 Kf8 (w:=[c]) h (Nat.le_of_lt (Kex h).1) ht
theorem Kfl {t:ByteArray} {p:Nat} {l:Int} {c:UInt8} (h:∀ R,(tl t).drop p ≠ c :: R) (hp:p ≤ t.size) (ht:t.size ≤ 1048576) :
  K7u (⟨t,(p:Int),false,l⟩,bt [c])=some (false,⟨t,(p:Int),false,l⟩) :=
 Kf9 (w:=[c]) (fun ⟨R,e⟩=>h R e.symm) hp ht
theorem Kfm {t:ByteArray} {p:Nat} {l:Int} {c:UInt8} {R:List UInt8} (h:(tl t).drop p=c :: R) (ht:t.size ≤ 1048576) :
  K8c (⟨t,(p:Int),false,l⟩,bt [c])=some ⟨t,((p + 1:Nat):Int),false,l⟩ :=
 Kfa (w:=[c]) h (Nat.le_of_lt (Kex h).1) ht
theorem Kfn {t:ByteArray} {p:Nat} {l:Int} {c:UInt8} (h:∀ R,(tl t).drop p ≠ c :: R) (hp:p ≤ t.size) (ht:t.size ≤ 1048576) :
  K8c (⟨t,(p:Int),false,l⟩,bt [c])=some ⟨t,(p:Int),true,l⟩ :=
 Kfb (w:=[c]) (fun ⟨R,e⟩=>h R e.symm) hp ht
theorem Kfo {t:ByteArray} {p:Nat} {A R:List UInt8} (hp:p ≤ t.size) (h:(tl t).drop p=A ++ R):p + A.length ≤ t.size:=by
 rcases Key h with h' | h'
 ·exact h'
 ·subst h'; simpa using hp
theorem Kfp {t:ByteArray} {p:Nat} {l:Int} (hp:p ≤ t.size) (ht:t.size ≤ 1048576) :
  (∃ g R',-1 ≤ g∧g ≤ 15∧(tl t).drop p=gt g ++ R'∧K8f ⟨t,(p:Int),false,l⟩=some (g,⟨t,((p + (gt g).length:Nat):Int),false,l⟩) ∧
   ∀ s post h,-1 ≤ h→h ≤ 15→Ked s=false→(tl t).drop p=gt h ++ s :: post→h=g) ∨
  (∃ v q,q ≤ t.size∧K8f ⟨t,(p:Int),false,l⟩=some (v,⟨t,((q:Nat):Int),true,l⟩)∧∀ s post h,-1 ≤ h→h ≤ 15→Ked s=false→(tl t).drop p ≠ gt h ++ s :: post):=by
 unfold K8f
 simp only
 rw [show (ByteArray.mk #[63])=bt [63] from rfl]
 by_cases hq:∃ R,(tl t).drop p=63 :: R
 ·obtain ⟨R,hR⟩:=hq
  rw [Kfk hR ht,bs,if_pos rfl]
  refine .inl ⟨-1,R,by omega,by omega,by rw [Kes]; exact hR,by rw [Kes]; rfl,fun s post h h1 h2 hs e=>?_⟩
  by_cases h0:h < 0
  ·omega
  ·exfalso
   have:=Kef h.toNat
   rw [hR] at e
   unfold gt at e
   rw [if_neg h0] at e
   cases hd:Lib.decDigits h.toNat with
   | nil=>exact Keg _ hd
   | cons b r =>
    rw [hd] at e this
    have e1:=(List.cons.inj e).1
    have:=this b List.mem_cons_self
    rw [← e1] at this
    exact absurd this (by decide)
 ·have hq:∀ R,(tl t).drop p ≠ 63 :: R:=fun R e=>hq ⟨R,e⟩
  rw [Kfl hq hp ht,bs]
  simp only [Bool.false_eq_true,if_false]
  have hdig:∀ s post h,-1 ≤ h→h ≤ 15→Ked s=false→(tl t).drop p=gt h ++ s :: post→∃ n:Nat,h=n∧dgs 3 ((tl t).drop p)=Lib.decDigits n:=by
   intro s post h h1 h2 hs e
   by_cases h0:h < 0
   ·rw [show h=-1 by omega] at e; exact absurd e (hq _)
   ·refine ⟨h.toNat,by omega,?_⟩
    rw [e]
    unfold gt
    rw [if_neg h0]
    exact Kfg _ _ _ (Kef _) (by have:=(Keh h.toNat).2.1 (by omega); omega) (fun b r hb=>by rw [← (List.cons.inj hb).1]; exact hs)
  rcases Kfj (f:=false) (l:=l) hp ht with ⟨n,hn,hd,hr⟩ | ⟨hd,hr⟩
  ·rw [hr,bs]
   by_cases h16:n ≤ 15
   ·rw [decide_eq_false (by omega),if_neg (by decide),bs]
    obtain ⟨S,hS⟩:=Kfd 3 ((tl t).drop p)
    rw [hd] at hS
    refine .inl ⟨(n:Int),S,by omega,by omega,by rw [Ker]; exact hS,by rw [Ker],fun s post h h1 h2 hs e=>?_⟩
    obtain ⟨m,rfl,hm⟩:=hdig s post h h1 h2 hs e
    rw [hd] at hm
    rw [Kem hm]
   ·rw [decide_eq_true (by omega),if_pos rfl,bs]
    obtain ⟨S,hS⟩:=Kfd 3 ((tl t).drop p)
    rw [hd] at hS
    refine .inr ⟨_,_,Kfo hp hS,rfl,fun s post h h1 h2 hs e=>?_⟩
    obtain ⟨m,rfl,hm⟩:=hdig s post h h1 h2 hs e
    rw [hd] at hm
    have:=Kem hm
    omega
  ·rw [hr,bs]
   simp only [show decide ((0:Int) ≥ 16)=false from rfl,Bool.false_eq_true,if_false,bs]
   obtain ⟨S,hS⟩:=Kfd 3 ((tl t).drop p)
   refine .inr ⟨_,_,Kfo hp hS,rfl,fun s post h h1 h2 hs e=>?_⟩
   obtain ⟨m,rfl,hm⟩:=hdig s post h h1 h2 hs e
   exact hd m hm
theorem Kfq {t:ByteArray} {p:Nat} {l:Int} (c o:Int) (hc:0 ≤ c) (hc2:c ≤ 100) (hp:p ≤ t.size) (ht:t.size ≤ 1048576) :
  (∃ g post,GR 46 ((tl t).drop p) g post∧K8i (⟨t,(p:Int),false,l⟩,c,o)=some (if g < 0 then o else c + g,⟨t,((p + (gt g).length + 1:Nat):Int),false,l⟩)) ∨
  ((∀ g post,¬ GR 46 ((tl t).drop p) g post)∧∃ v q,q ≤ t.size∧K8i (⟨t,(p:Int),false,l⟩,c,o)=some (v,⟨t,((q:Nat):Int),true,l⟩)):=by
 unfold K8i
 simp only
 rw [show (ByteArray.mk #[46])=bt [46] from rfl]
 rcases Kfp (l:=l) hp ht with ⟨g,R',h1,h2,hR,hr,hu⟩ | ⟨v,q,hq,hr,hn⟩
 ·rw [hr,bs]
  have hp2:=Kfo hp hR
  have hd:=Kez hR
  by_cases h46:∃ post,R'=46 :: post
  ·obtain ⟨post,rfl⟩:=h46
   rw [Kfm hd ht,bs]
   refine .inl ⟨g,post,⟨h1,h2,hR⟩,?_⟩
   by_cases h0:g < 0
   ·rw [decide_eq_true h0,if_pos rfl,if_pos h0]
   ·rw [decide_eq_false h0,if_neg (by decide),if_neg h0,Kbl (by omega) (by omega)]
  ·have h46:∀ post,R' ≠ 46 :: post:=fun post e=>h46 ⟨post,e⟩
   rw [Kfn (fun R=>by rw [hd]; exact h46 R) hp2 ht,bs]
   refine .inr ⟨fun h post ⟨a1,a2,a3⟩=>?_,?_⟩
   ·have e:=hu 46 post h a1 a2 (by decide) a3
    subst e
    rw [hR] at a3
    exact h46 post (List.append_cancel_left a3)
   ·by_cases h0:g < 0
    ·rw [decide_eq_true h0,if_pos rfl]; exact ⟨_,_,hp2,rfl⟩
    ·rw [decide_eq_false h0,if_neg (by decide)]; exact ⟨_,_,hp2,rfl⟩
 ·rw [hr,bs,Kfc,bs]
  refine .inr ⟨fun h post ⟨a1,a2,a3⟩=>hn 46 post h a1 a2 (by decide) a3,?_⟩
  by_cases h0:v < 0
  ·rw [decide_eq_true h0,if_pos rfl]; exact ⟨_,_,hq,rfl⟩
  ·rw [decide_eq_false h0,if_neg (by decide)]; exact ⟨_,_,hq,rfl⟩
theorem Kfr {t:ByteArray} (s:UInt8) (a:Int) (ht:t.size ≤ 1048576):∀ (R:List UInt8) (e:Nat),e ≤ t.size→(tl t).drop e=R→K46 (t,a,(s.toNat:Int),(e:Int))=some ((e + (R.takeWhile (· != s)).length:Nat):Int):=by
 intro R
 induction R with
 | nil =>
  intro e he hd
  have:=Kbu hd
  rw [Kew] at this
  rw [K46.eq_def]
  simp only
  rw [Kbp this]
  rfl
 | cons b R ih =>
  intro e he hd
  obtain ⟨h1,h2⟩:=Kex hd
  rw [K46.eq_def]
  simp only
  rw [Kbo h1,if_pos rfl,Kf0 hd,bs,bs]
  have hb:((b.toNat:Int) != (s.toNat:Int))=(b != s):=by
   rw [Bool.eq_iff_iff,bne_iff_ne,bne_iff_ne]
   refine not_congr ⟨fun e=>UInt8.toNat_inj.1 (by omega),fun e=>by rw [e]⟩
  rw [hb,List.takeWhile_cons]
  cases b != s with
  | false=>simp
  | true =>
   rw [if_pos rfl,if_pos rfl,Kbn (by omega),ih (e + 1) (by omega) h2,List.length_cons]
   congr 1; omega
theorem Kfs {t:ByteArray} {p:Nat} {A S:List UInt8} (hp:p ≤ t.size) (ht:t.size ≤ 1048576) (hR:(tl t).drop p=A ++ S):∀ (k:Nat) (g:Int),g + k=16→-1 ≤ g →
  (∃ h,g ≤ h∧h ≤ 15∧gt h=A∧K4a (t,(p:Int),((p + A.length:Nat):Int),g)=some (.inr (h,((p + A.length + 1:Nat):Int)))) ∨
  ((∀ h,g ≤ h→h ≤ 15→gt h ≠ A)∧K4a (t,(p:Int),((p + A.length:Nat):Int),g)=some (.inl ())):=by
 have hle:=Kfo hp hR
 intro k
 induction k with
 | zero =>
  intro g hg h1
  rw [K4a.eq_def]
  simp only
  rw [decide_eq_false (by omega),if_neg (by decide)]
  exact .inr ⟨fun h a b=>by omega,rfl⟩
 | succ k ih =>
  intro g hg h1
  rw [K4a.eq_def]
  simp only
  rw [decide_eq_true (by omega),if_pos rfl,Kf2 hp hR,bs,sGt g (by omega),bs,Ke7,Ke7]
  by_cases e:A=gt g
  ·rw [show (A == gt g)=true by rw [beq_iff_eq]; exact e,if_pos rfl,Kbn (by omega)]
   exact .inl ⟨g,by omega,by omega,e.symm,rfl⟩
  ·rw [show (A == gt g)=false by rw [beq_eq_false_iff_ne]; exact e,if_neg (by decide),Kbl (by omega) (by omega)]
   rcases ih (g + 1) (by omega) (by omega) with ⟨h,a1,a2,a3,a4⟩ | ⟨a1,a2⟩
   ·exact .inl ⟨h,by omega,a2,a3,a4⟩
   ·refine .inr ⟨fun h b1 b2=>?_,a2⟩
    by_cases hh:h=g
    ·subst hh; exact fun e'=>e e'.symm
    ·exact a1 h (by omega) b2
theorem Kft (s:UInt8):∀ (R:List UInt8),R=R.takeWhile (· != s) ++ R.dropWhile (· != s):=fun R=>(List.takeWhile_append_dropWhile).symm
theorem Kfu {s:UInt8} (hs:Ked s=false) (h63:s ≠ 63) {g:Int} {post:List UInt8}:(gt g ++ s :: post).takeWhile (· != s)=gt g:=by
 have:∀ A:List UInt8,(∀ b ∈ A,(b != s)=true)→(A ++ s :: post).takeWhile (· != s)=A:=by
  intro A
  induction A with
  | nil=>intro _; simp
  | cons a A ih=>intro h; rw [List.cons_append,List.takeWhile_cons,h a List.mem_cons_self,if_pos rfl,ih (fun b hb=>h b (List.mem_cons_of_mem _ hb))]
 refine this _ fun b hb=>?_
 rw [bne_iff_ne]
 rintro rfl
 rcases Kev b hb with h | h
 ·exact h63 h
 ·rw [h] at hs; cases hs
theorem Kfv {s:UInt8} (hs:Ked s=false) (h63:s ≠ 63) {R:List UInt8} {g h:Int} {P Q:List UInt8} (a:GR s R g P) (b:GR s R h Q):g=h∧P=Q:=by
 obtain ⟨a1,a2,a3⟩:=a
 obtain ⟨b1,b2,b3⟩:=b
 have e:gt g=gt h:=by rw [← Kfu hs h63 (g:=g) (post:=P),← a3,b3,Kfu hs h63]
 have:=Ket a1 b1 e
 subst this
 rw [a3] at b3
 exact ⟨rfl,(List.cons.inj (List.append_cancel_left b3)).2⟩
theorem Kfw {t:ByteArray} {p:Nat} (s:UInt8) (hs:Ked s=false) (h63:s ≠ 63) (hp:p ≤ t.size) (ht:t.size ≤ 1048576) :
  (∃ g post,GR s ((tl t).drop p) g post∧K4d (t,(p:Int),(s.toNat:Int))=some (g,((p + (gt g).length + 1:Nat):Int))) ∨
  ((∀ g post,¬ GR s ((tl t).drop p) g post)∧∃ e,K4d (t,(p:Int),(s.toNat:Int))=some (-2,e)):=by
 unfold K4d
 simp only
 rw [Kfr s _ ht _ p hp rfl,bs]
 have hsp:=Kft s ((tl t).drop p)
 have hle:=Kfo hp hsp
 have hno:∀ g post,GR s ((tl t).drop p) g post→gt g=((tl t).drop p).takeWhile (· != s)∧((tl t).drop p).dropWhile (· != s)=s :: post:=by
  intro g post ⟨a1,a2,a3⟩
  have e:((tl t).drop p).takeWhile (· != s)=gt g:=by rw [a3]; exact Kfu hs h63
  rw [e] at hsp
  refine ⟨e.symm,?_⟩
  have:=hsp.symm.trans a3
  exact List.append_cancel_left this
 cases hD:((tl t).drop p).dropWhile (· != s) with
 | nil =>
  rw [hD,List.append_nil] at hsp
  have e:p + (((tl t).drop p).takeWhile (· != s)).length=t.size:=by rw [← hsp,List.length_drop,Kew]; omega
  rw [e,beq_self_eq_true,if_pos rfl]
  refine .inr ⟨fun g post h=>?_,_,rfl⟩
  have:=(hno g post h).2
  rw [hD] at this
  cases this
 | cons b post =>
  have hb:b=s:=by
   have:=List.head_dropWhile_not (p:=(· != s)) (l:=(tl t).drop p) (by rw [hD]; simp)
   simp only [hD,List.head_cons] at this
   simpa using this
  subst hb
  rw [hD] at hsp
  have hlt:p + (((tl t).drop p).takeWhile (· != b)).length < t.size:=by
   have h2:=Kez hsp
   exact (Kex h2).1
  rw [show (((p + (((tl t).drop p).takeWhile (· != b)).length:Nat):Int) == (t.size:Int))=false by rw [beq_eq_false_iff_ne]; omega,if_neg (by decide)]
  rcases Kfs hp ht hsp 17 (-1) (by omega) (by omega) with ⟨h,a1,a2,a3,a4⟩ | ⟨a1,a2⟩
  ·rw [a4,bs]
   refine .inl ⟨h,post,⟨a1,a2,by rw [a3]; exact hsp⟩,?_⟩
   rw [a3]
  ·rw [a2,bs]
   exact .inr ⟨fun g P h=>a1 g h.1 h.2.1 (hno g P h).1,_,rfl⟩
def CR (R:List UInt8) (c:Int) (post:List UInt8):Prop :=
 (R=110 :: post∧c=0)∨(R=42 :: post∧c=1)∨(R=43 :: post∧c=2)∨(∃ R1 g,R=62 :: R1∧GR 46 R1 g post∧c=if g < 0 then 35 else 3 + g)∨(∃ R1 g,R=33 :: R1∧GR 46 R1 g post∧c=if g < 0 then 36 else 19 + g)
theorem Kfx {R:List UInt8} {c d:Int} {P Q:List UInt8} (a:CR R c P) (b:CR R d Q):c=d∧P=Q:=by
 rcases a with ⟨h1,h2⟩ | ⟨h1,h2⟩ | ⟨h1,h2⟩ | ⟨R1,g,h1,h2,h3⟩ | ⟨R1,g,h1,h2,h3⟩ <;> rcases b with ⟨k1,k2⟩ | ⟨k1,k2⟩ | ⟨k1,k2⟩ | ⟨R2,h,k1,k2,k3⟩ | ⟨R2,h,k1,k2,k3⟩ <;> rw [h1] at k1 <;>
  first
  | exact absurd (List.cons.inj k1).1 (by decide)
  | exact ⟨h2.trans k2.symm,(List.cons.inj k1).2⟩
  | (rw [← (List.cons.inj k1).2] at k2; obtain ⟨e1,e2⟩:=Kfv (by decide) (by decide) h2 k2; subst e1; exact ⟨h3.trans k3.symm,e2⟩)
theorem Kfy {R:List UInt8} {c:Int} {P:List UInt8} (a:CR R c P):0 ≤ Kbx c∧Kbx c ≤ 2:=by
 rcases a with ⟨_,h⟩ | ⟨_,h⟩ | ⟨_,h⟩ | ⟨R1,g,_,h2,h⟩ | ⟨R1,g,_,h2,h⟩
 ·subst h; decide
 ·subst h; decide
 ·subst h; decide
 ·obtain ⟨a1,a2,_⟩:=h2
  split at h <;> rcases Kc1 c with q | q | q | q <;> omega
 ·obtain ⟨a1,a2,_⟩:=h2
  split at h <;> rcases Kc1 c with q | q | q | q <;> omega
theorem Kfz {g:Int} (h1:-1 ≤ g) (h2:g ≤ 15):Kbx (if g < 0 then 35 else 3 + g)=2:=by
 split
 ·rfl
 ·rcases Kc1 (3 + g) with q | q | q | q <;> omega
theorem Kg0 {g:Int} (h1:-1 ≤ g) (h2:g ≤ 15):Kbx (if g < 0 then 36 else 19 + g)=1:=by
 split
 ·rfl
 ·rcases Kc1 (19 + g) with q | q | q | q <;> omega
theorem Kg1 {R:List UInt8} {c:Int} {P:List UInt8} (a:CR R c P):∃ A,A ≠ []∧R=A ++ P:=by
 rcases a with ⟨h,_⟩ | ⟨h,_⟩ | ⟨h,_⟩ | ⟨R1,g,h,h2,_⟩ | ⟨R1,g,h,h2,_⟩
 ·exact ⟨[110],by simp,h⟩
 ·exact ⟨[42],by simp,h⟩
 ·exact ⟨[43],by simp,h⟩
 ·obtain ⟨_,_,e⟩:=h2; exact ⟨62 :: (gt g ++ [46]),by simp,by rw [h,e]; simp⟩
 ·obtain ⟨_,_,e⟩:=h2; exact ⟨33 :: (gt g ++ [46]),by simp,by rw [h,e]; simp⟩
theorem Kg2 (b:Bool) {g:Int} (h1:-1 ≤ g) (h2:g ≤ 15):K4g (b,g)=some (if b then (if g < 0 then 35 else 3 + g) else (if g < 0 then 36 else 19 + g)):=by
 unfold K4g
 cases b <;> by_cases h:g < 0 <;> simp [h,bs] <;> rw [Kbl (by omega) (by omega)]
theorem Kg3 {t:ByteArray} {p:Nat} {A P:List UInt8} (hp:p ≤ t.size) (h:(tl t).drop p=A ++ P):p + A.length=t.size - P.length:=by
 have:((tl t).drop p).length=A.length + P.length:=by rw [h,List.length_append]
 rw [List.length_drop,Kew] at this
 omega
theorem Kg4 {t:ByteArray} {p:Nat} {out:List Int} {m:Int} (ht:t.size ≤ 1048576) (hp:p ≤ t.size) (hm:0 < m) (hm2:m ≤ 1000) (hl:out.length < 40) :
  (∃ c post,CR ((tl t).drop p) c post∧K4y (t,(p:Int),out,m)=K4y (t,((t.size - post.length:Nat):Int),out ++ [c],m - 1 + Kbx c)) ∨
  ((∀ c post,¬ CR ((tl t).drop p) c post)∧K4y (t,(p:Int),out,m)=some (.inr ([],-1))):=by
 rw [K4y.eq_def]
 simp only
 rw [decide_eq_true hm,if_pos rfl]
 cases hR:(tl t).drop p with
 | nil =>
  have:=Kbu hR
  rw [Kew] at this
  rw [decide_eq_true (by omega:(p:Int) ≥ (t.size:Int))]
  refine .inr ⟨fun c post h=>?_,rfl⟩
  obtain ⟨A,hA,e⟩:=Kg1 h
  exact hA (List.append_eq_nil_iff.1 e.symm).1
 | cons b R =>
  obtain ⟨h1,h2⟩:=Kex hR
  rw [decide_eq_false (by omega:¬ (p:Int) ≥ (t.size:Int)),decide_eq_false (by omega:¬ (out.length:Int) ≥ 40)]
  simp only [Bool.false_eq_true,if_false,bs]
  rw [Kf0 hR,bs]
  have fin:∀ (q:Nat) (c:Int) (post:List UInt8),CR (b :: R) c post→q=t.size - post.length →
    (Qey (out.length + [c].length) 8 >>= fun _=>K4s c >>= fun r=>K4y (t,(q:Int),out ++ [c],wr (wr (m - 1) + r)))=K4y (t,((t.size - post.length:Nat):Int),out ++ [c],m - 1 + Kbx c):=by
   intro q c post hc hq
   have:=Kfy hc
   rw [Kdr (by simp; omega),bs,Kc0,bs,Kbl (x:=m - 1) (by omega) (by omega),Kbl (by omega) (by omega),hq]
  have hpe:p + 1=t.size - R.length:=Kg3 (A:=[b]) hp hR
  by_cases e1:b=110
  ·subst e1
   refine .inl ⟨0,R,.inl ⟨rfl,rfl⟩,?_⟩
   rw [show (((110:UInt8).toNat:Int) == 110)=true from rfl]
   simp only [if_true,bs]
   rw [Kbn (by omega)]
   exact fin _ _ _ (.inl ⟨rfl,rfl⟩) hpe
  ·have n1:((b.toNat:Int) == 110)=false:=by rw [beq_eq_false_iff_ne]; intro e; exact e1 (UInt8.toNat_inj.1 (by rw [show (110:UInt8).toNat=110 from rfl]; omega))
   rw [n1]
   simp only [Bool.false_eq_true,if_false]
   by_cases e2:b=42
   ·subst e2
    refine .inl ⟨1,R,.inr (.inl ⟨rfl,rfl⟩),?_⟩
    simp only [show (((42:UInt8).toNat:Int) == 42)=true from rfl,if_true,bs,Kf0 hR,show (((42:UInt8).toNat:Int) == 43)=false from rfl,Bool.false_eq_true,if_false]
    rw [Kbn (by omega)]
    exact fin _ _ _ (.inr (.inl ⟨rfl,rfl⟩)) hpe
   ·have n2:((b.toNat:Int) == 42)=false:=by rw [beq_eq_false_iff_ne]; intro e; exact e2 (UInt8.toNat_inj.1 (by rw [show (42:UInt8).toNat=42 from rfl]; omega))
    rw [n2]
    simp only [Bool.false_eq_true,if_false]
    by_cases e3:b=43
    ·subst e3
     refine .inl ⟨2,R,.inr (.inr (.inl ⟨rfl,rfl⟩)),?_⟩
     simp only [show (((43:UInt8).toNat:Int) == 43)=true from rfl,if_true,bs,Kf0 hR]
     rw [Kbn (by omega)]
     exact fin _ _ _ (.inr (.inr (.inl ⟨rfl,rfl⟩))) hpe
    ·have n3:((b.toNat:Int) == 43)=false:=by rw [beq_eq_false_iff_ne]; intro e; exact e3 (UInt8.toNat_inj.1 (by rw [show (43:UInt8).toNat=43 from rfl]; omega))
     rw [n3]
     simp only [Bool.false_eq_true,if_false,bs]
     by_cases e45:b=62∨b=33
     ·have q45:((if ((b.toNat:Int) == 62)=true then some ((b.toNat:Int) == 62) else some ((b.toNat:Int) == 33)):Option Bool)=some true:=by
       rcases e45 with rfl | rfl <;> rfl
      rw [q45,bs]
      simp only [if_true]
      rw [Kbn (by omega)]
      have hr:=Kfw (t:=t) (p:=p + 1) 46 (by decide) (by decide) (by omega) ht
      rw [show (((46:UInt8).toNat:Int))=46 from rfl,h2] at hr
      rcases hr with ⟨g,post,hg,hs⟩ | ⟨hg,e,hs⟩
      ·rw [hs,bs]
       have hg':=hg
       obtain ⟨a1,a2,a3⟩:=hg'
       rw [decide_eq_false (by omega:¬ g < -1)]
       simp only [Bool.false_eq_true,if_false,Kf0 hR,bs]
       rw [Kg2 _ a1 a2,bs,bs,bs]
       have hq:p + 1 + (gt g).length + 1=t.size - post.length:=by
        have:=Kg3 (A:=b :: (gt g ++ [46])) (P:=post) hp (by rw [hR,a3]; simp)
        simp at this; omega
       rcases e45 with rfl | rfl
       ·have hc:CR (62 :: R) (if g < 0 then 35 else 3 + g) post:=.inr (.inr (.inr (.inl ⟨R,g,rfl,hg,rfl⟩)))
        exact .inl ⟨_,post,hc,fin _ _ _ hc hq⟩
       ·have hc:CR (33 :: R) (if g < 0 then 36 else 19 + g) post:=.inr (.inr (.inr (.inr ⟨R,g,rfl,hg,rfl⟩)))
        exact .inl ⟨_,post,hc,fin _ _ _ hc hq⟩
      ·rw [hs,bs]
       refine .inr ⟨fun c post h=>?_,rfl⟩
       rcases h with ⟨h,_⟩ | ⟨h,_⟩ | ⟨h,_⟩ | ⟨R1,g,h,h2,_⟩ | ⟨R1,g,h,h2,_⟩
       ·exact e1 (List.cons.inj h).1
       ·exact e2 (List.cons.inj h).1
       ·exact e3 (List.cons.inj h).1
       ·rw [← (List.cons.inj h).2] at h2; exact hg _ _ h2
       ·rw [← (List.cons.inj h).2] at h2; exact hg _ _ h2
     ·have q4:((b.toNat:Int) == 62)=false:=by rw [beq_eq_false_iff_ne]; intro e; exact e45 (.inl (UInt8.toNat_inj.1 (by rw [show (62:UInt8).toNat=62 from rfl]; omega)))
      have q5:((b.toNat:Int) == 33)=false:=by rw [beq_eq_false_iff_ne]; intro e; exact e45 (.inr (UInt8.toNat_inj.1 (by rw [show (33:UInt8).toNat=33 from rfl]; omega)))
      simp only [q4,q5,Bool.false_eq_true,if_false,bs]
      refine .inr ⟨fun c post h=>?_,trivial⟩
      rcases h with ⟨h,_⟩ | ⟨h,_⟩ | ⟨h,_⟩ | ⟨R1,g,h,h2,_⟩ | ⟨R1,g,h,h2,_⟩
      ·exact e1 (List.cons.inj h).1
      ·exact e2 (List.cons.inj h).1
      ·exact e3 (List.cons.inj h).1
      ·exact e45 (.inl (List.cons.inj h).1)
      ·exact e45 (.inr (List.cons.inj h).1)
theorem Kg5 {t:ByteArray} {q:Int} {l:Int} {out:List Int} {m:Int}:K8m (t,q,true,l,out,m)=some (out,t,q,true,l):=by
 rw [K8m.eq_def]
 simp only
 cases decide (m > 0) <;> rfl
theorem Kg6 {t:ByteArray} {p:Nat} {l:Int} {out:List Int} {m:Int} (ht:t.size ≤ 1048576) (hp:p ≤ t.size) (hm:0 < m) (hm2:m ≤ 1000) (hl:out.length ≤ 40) :
  (∃ c post,CR ((tl t).drop p) c post∧K8m (t,(p:Int),false,l,out,m)=K8m (t,((t.size - post.length:Nat):Int),false,l,out ++ [c],m - 1 + Kbx c)) ∨
  ((∀ c post,¬ CR ((tl t).drop p) c post)∧∃ out' q,q ≤ t.size∧out'.length ≤ 41∧K8m (t,(p:Int),false,l,out,m)=some (out',t,((q:Nat):Int),true,l)):=by
 rw [K8m.eq_def]
 simp only
 rw [decide_eq_true hm]
 simp only [if_true,Bool.false_eq_true,if_false,bs]
 rw [decide_eq_true (by omega:(out.length:Int) ≤ 40)]
 simp only [if_true]
 rw [show (ByteArray.mk #[110])=bt [110] from rfl,show (ByteArray.mk #[42])=bt [42] from rfl,show (ByteArray.mk #[43])=bt [43] from rfl,show (ByteArray.mk #[62])=bt [62] from rfl,show (ByteArray.mk #[33])=bt [33] from rfl]
 have hf:∀ {α:Type} (c:α),Qey (out.length + [c].length) 8=some ():=fun c=>Kdr (by simp; omega)
 by_cases e1:∃ R,(tl t).drop p=110 :: R
 ·obtain ⟨R,hR⟩:=e1
  have hpe:p + 1=t.size - R.length:=Kg3 (A:=[110]) hp hR
  rw [Kfk hR ht,bs]
  simp only [if_true]
  rw [hf]
  simp only [bs]
  refine .inl ⟨0,R,.inl ⟨hR,rfl⟩,?_⟩
  rw [Kbl (by omega) (by omega),hpe,show m - 1 + Kbx 0=m - 1 from Int.add_zero _]
 ·have e1:∀ R,(tl t).drop p ≠ 110 :: R:=fun R h=>e1 ⟨R,h⟩
  rw [Kfl e1 hp ht,bs]
  simp only [Bool.false_eq_true,if_false]
  by_cases e2:∃ R,(tl t).drop p=42 :: R
  ·obtain ⟨R,hR⟩:=e2
   have hpe:p + 1=t.size - R.length:=Kg3 (A:=[42]) hp hR
   rw [Kfk hR ht,bs]
   simp only [if_true]
   rw [hf]
   simp only [bs]
   refine .inl ⟨1,R,.inr (.inl ⟨hR,rfl⟩),?_⟩
   rw [Kbl (x:=m + 2) (by omega) (by omega),Kbl (by omega) (by omega),hpe,show Kbx 1=2 from rfl,show m + 2 - 1=m - 1 + 2 by omega]
  ·have e2:∀ R,(tl t).drop p ≠ 42 :: R:=fun R h=>e2 ⟨R,h⟩
   rw [Kfl e2 hp ht,bs]
   simp only [Bool.false_eq_true,if_false]
   by_cases e3:∃ R,(tl t).drop p=43 :: R
   ·obtain ⟨R,hR⟩:=e3
    have hpe:p + 1=t.size - R.length:=Kg3 (A:=[43]) hp hR
    rw [Kfk hR ht,bs]
    simp only [if_true]
    rw [hf]
    simp only [bs]
    refine .inl ⟨2,R,.inr (.inr (.inl ⟨hR,rfl⟩)),?_⟩
    rw [Kbl (x:=m + 2) (by omega) (by omega),Kbl (by omega) (by omega),hpe,show Kbx 2=2 from rfl,show m + 2 - 1=m - 1 + 2 by omega]
   ·have e3:∀ R,(tl t).drop p ≠ 43 :: R:=fun R h=>e3 ⟨R,h⟩
    rw [Kfl e3 hp ht,bs]
    simp only [Bool.false_eq_true,if_false]
    by_cases e4:∃ R,(tl t).drop p=62 :: R
    ·obtain ⟨R,hR⟩:=e4
     have hpe:p + 1=t.size - R.length:=Kg3 (A:=[62]) hp hR
     have h2:=(Kex hR)
     rw [Kfk hR ht,bs]
     simp only [if_true]
     have hc:=Kfq (t:=t) (p:=p + 1) (l:=l) 3 35 (by decide) (by decide) h2.1 ht
     rw [h2.2] at hc
     rcases hc with ⟨g,post,hg,hr⟩ | ⟨hg,v,q,hq,hr⟩
     ·rw [hr,bs]
      simp only
      rw [hf]
      simp only [bs]
      have hg':=hg
      obtain ⟨a1,a2,a3⟩:=hg'
      refine .inl ⟨_,post,.inr (.inr (.inr (.inl ⟨R,g,hR,hg,rfl⟩))),?_⟩
      have hq:p + 1 + (gt g).length + 1=t.size - post.length:=by
       have:=Kg3 (A:=62 :: (gt g ++ [46])) (P:=post) hp (by rw [hR,a3]; simp)
       simp at this; omega
      rw [Kfz a1 a2,Kbl (x:=m + 2) (by omega) (by omega),Kbl (by omega) (by omega),hq,show m + 2 - 1=m - 1 + 2 by omega]
     ·rw [hr,bs]
      simp only
      rw [hf]
      simp only [bs]
      rw [Kg5]
      refine .inr ⟨fun c post h=>?_,_,q,hq,by simp; omega,rfl⟩
      rcases h with ⟨h,_⟩ | ⟨h,_⟩ | ⟨h,_⟩ | ⟨R1,g,h,h2,_⟩ | ⟨R1,g,h,h2,_⟩
      ·exact e1 _ h
      ·exact e2 _ h
      ·exact e3 _ h
      ·rw [hR] at h; rw [← (List.cons.inj h).2] at h2; exact hg _ _ h2
      ·rw [hR] at h; exact absurd (List.cons.inj h).1 (by decide)
    ·have e4:∀ R,(tl t).drop p ≠ 62 :: R:=fun R h=>e4 ⟨R,h⟩
     rw [Kfl e4 hp ht,bs]
     simp only [Bool.false_eq_true,if_false]
     by_cases e5:∃ R,(tl t).drop p=33 :: R
     ·obtain ⟨R,hR⟩:=e5
      have h2:=(Kex hR)
      rw [Kfk hR ht,bs]
      simp only [if_true]
      have hc:=Kfq (t:=t) (p:=p + 1) (l:=l) 19 36 (by decide) (by decide) h2.1 ht
      rw [h2.2] at hc
      rcases hc with ⟨g,post,hg,hr⟩ | ⟨hg,v,q,hq,hr⟩
      ·rw [hr,bs]
       simp only
       rw [hf]
       simp only [bs]
       have hg':=hg
       obtain ⟨a1,a2,a3⟩:=hg'
       refine .inl ⟨_,post,.inr (.inr (.inr (.inr ⟨R,g,hR,hg,rfl⟩))),?_⟩
       have hq:p + 1 + (gt g).length + 1=t.size - post.length:=by
        have:=Kg3 (A:=33 :: (gt g ++ [46])) (P:=post) hp (by rw [hR,a3]; simp)
        simp at this; omega
       rw [Kg0 a1 a2,Kbl (x:=m + 1) (by omega) (by omega),Kbl (by omega) (by omega),hq,show m + 1 - 1=m - 1 + 1 by omega]
      ·rw [hr,bs]
       simp only
       rw [hf]
       simp only [bs]
       rw [Kg5]
       refine .inr ⟨fun c post h=>?_,_,q,hq,by simp; omega,rfl⟩
       rcases h with ⟨h,_⟩ | ⟨h,_⟩ | ⟨h,_⟩ | ⟨R1,g,h,h2,_⟩ | ⟨R1,g,h,h2,_⟩
       ·exact e1 _ h
       ·exact e2 _ h
       ·exact e3 _ h
       ·exact e4 _ h
       ·rw [hR] at h; rw [← (List.cons.inj h).2] at h2; exact hg _ _ h2
     ·have e5:∀ R,(tl t).drop p ≠ 33 :: R:=fun R h=>e5 ⟨R,h⟩
      rw [Kfl e5 hp ht,bs]
      simp only [Bool.false_eq_true,if_false,bs]
      rw [Kg5]
      refine .inr ⟨fun c post h=>?_,_,p,hp,by omega,rfl⟩
      rcases h with ⟨h,_⟩ | ⟨h,_⟩ | ⟨h,_⟩ | ⟨R1,g,h,h2,_⟩ | ⟨R1,g,h,h2,_⟩
      ·exact e1 _ h
      ·exact e2 _ h
      ·exact e3 _ h
      ·exact e4 _ h
      ·exact e5 _ h
theorem Kg7 {t:ByteArray} {p:Int} {out:List Int} {m:Int} (hm:0 < m) (hl:40 ≤ out.length):K4y (t,p,out,m)=some (.inr ([],-1)):=by
 rw [K4y.eq_def]
 simp only
 rw [decide_eq_true hm,if_pos rfl,decide_eq_true (by omega:(out.length:Int) ≥ 40)]
 cases decide (p ≥ (t.size:Int)) <;> rfl
theorem Kg8 {t:ByteArray} {p:Int} {l:Int} {out:List Int} {m:Int} (hl:41 ≤ out.length):K8m (t,p,false,l,out,m)=some (out,t,p,false,l):=by
 rw [K8m.eq_def]
 simp only
 rw [decide_eq_false (by omega:¬ (out.length:Int) ≤ 40)]
 cases decide (m > 0) <;> rfl
theorem Kg9 {t:ByteArray} {p:Int} {out:List Int}:K4y (t,p,out,0)=some (.inl (p,out)):=by
 rw [K4y.eq_def]; rfl
theorem Kga {t:ByteArray} {p:Int} {l:Int} {out:List Int}:K8m (t,p,false,l,out,0)=some (out,t,p,false,l):=by
 rw [K8m.eq_def]; rfl
theorem Kgb {out:List Int} {m:Nat} {c:Int} (hk:0 ≤ Kbx c) (h:∀ rest,skip 1 (out ++ rest)=skip (m + 1) rest):∀ rest,skip 1 (out ++ [c] ++ rest)=skip (m + (Kbx c).toNat) rest:=by
 intro rest
 rw [List.append_assoc,h,List.cons_append,List.nil_append,Kc7,if_neg (by omega)]
theorem Kgc {t:ByteArray} {l:Int} (ht:t.size ≤ 1048576):∀ (k p:Nat) (out:List Int) (m:Nat),out.length + k=40→p ≤ t.size→m ≤ 1 + out.length→(∀ rest,skip 1 (out ++ rest)=skip m rest) →
  (∃ q out',q ≤ t.size∧out'.length ≤ 40∧skip 1 out'=some []∧K4y (t,(p:Int),out,(m:Int))=some (.inl (((q:Nat):Int),out'))∧K8m (t,(p:Int),false,l,out,(m:Int))=some (out',t,((q:Nat):Int),false,l)) ∨
  (K4y (t,(p:Int),out,(m:Int))=some (.inr ([],-1))∧∃ out' q f,q ≤ t.size∧out'.length ≤ 41∧(f=true∨out'.length=41)∧K8m (t,(p:Int),false,l,out,(m:Int))=some (out',t,((q:Nat):Int),f,l)):=by
 intro k
 induction k with
 | zero =>
  intro p out m hk hp hm hinv
  cases m with
  | zero=>exact .inl ⟨p,out,hp,by omega,by have:=hinv []; rwa [List.append_nil] at this,Kg9,Kga⟩
  | succ m =>
   refine .inr ⟨Kg7 (by omega) (by omega),?_⟩
   rcases Kg6 (l:=l) (out:=out) (m:=((m + 1:Nat):Int)) ht hp (by omega) (by omega) (by omega) with ⟨c,post,hc,hr⟩ | ⟨_,out',q,hq,hl,hr⟩
   ·rw [hr,Kg8 (by simp; omega)]
    exact ⟨_,_,_,Nat.sub_le _ _,by simp; omega,.inr (by simp; omega),rfl⟩
   ·exact ⟨_,_,_,hq,hl,.inl rfl,hr⟩
 | succ k ih =>
  intro p out m hk hp hm hinv
  cases m with
  | zero=>exact .inl ⟨p,out,hp,by omega,by have:=hinv []; rwa [List.append_nil] at this,Kg9,Kga⟩
  | succ m =>
   rcases Kg6 (l:=l) (out:=out) (m:=((m + 1:Nat):Int)) ht hp (by omega) (by omega) (by omega) with ⟨c,post,hc,hr⟩ | ⟨hn,out',q,hq,hl,hr⟩
   ·rcases Kg4 (out:=out) (m:=((m + 1:Nat):Int)) ht hp (by omega) (by omega) (by omega) with ⟨c',post',hc',hs⟩ | ⟨hn,hs⟩
    ·obtain ⟨e1,e2⟩:=Kfx hc' hc
     subst e1 e2
     have hk2:=Kfy hc
     rw [hr,hs]
     have e:((m + 1:Nat):Int) - 1 + Kbx c'=((m + (Kbx c').toNat:Nat):Int):=by omega
     rw [e]
     exact ih _ _ _ (by simp; omega) (Nat.sub_le _ _) (by simp; omega) (Kgb hk2.1 hinv)
    ·exact absurd hc (hn _ _)
   ·rcases Kg4 (out:=out) (m:=((m + 1:Nat):Int)) ht hp (by omega) (by omega) (by omega) with ⟨c',post',hc',hs⟩ | ⟨_,hs⟩
    ·exact absurd hc' (hn _ _)
    ·exact .inr ⟨hs,_,_,_,hq,hl,.inl rfl,hr⟩
def cdT (c:Int):List UInt8:=if c=0 then [110] else if c=1 then [42] else if c=2 then [43] else if Kbv c then 62 :: (gt (Kci c) ++ [46]) else 33 :: (gt (Kci c) ++ [46])
def tyT:List Int→List UInt8
 | []=>[]
 | c :: l=>cdT c ++ tyT l
theorem Kgd (c:Int):Kbv c=true ↔ (3 ≤ c∧c ≤ 18)∨c=35:=by
 unfold Kbv inB
 simp only [Bool.or_eq_true,Bool.and_eq_true,decide_eq_true_eq,beq_iff_eq]
theorem Kge {c:Int} (h:0 ≤ Kbx c) (h2:2 < c):-1 ≤ Kci c∧Kci c ≤ 15:=by
 unfold Kci
 rcases Kc1 c with q | q | q | q <;> (split <;> (try split)) <;> omega
theorem Kgf {c:Int} (h:0 ≤ Kbx c) (X:List UInt8):CR (cdT c ++ X) c X:=by
 unfold cdT
 by_cases h0:c=0
 ·rw [if_pos h0]; exact .inl ⟨rfl,h0⟩
 ·rw [if_neg h0]
  by_cases h1:c=1
  ·rw [if_pos h1]; exact .inr (.inl ⟨rfl,h1⟩)
  ·rw [if_neg h1]
   by_cases h2:c=2
   ·rw [if_pos h2]; exact .inr (.inr (.inl ⟨rfl,h2⟩))
   ·rw [if_neg h2]
    have hc:2 < c:=by rcases Kc1 c with q | q | q | q <;> omega
    obtain ⟨g1,g2⟩:=Kge h hc
    by_cases ha:Kbv c=true
    ·rw [if_pos ha]
     rw [Kgd] at ha
     refine .inr (.inr (.inr (.inl ⟨_,Kci c,rfl,⟨g1,g2,by simp⟩,?_⟩)))
     unfold Kci
     split <;> (try split) <;> (try split) <;> omega
    ·rw [if_neg ha]
     rw [Kgd] at ha
     refine .inr (.inr (.inr (.inr ⟨_,Kci c,rfl,⟨g1,g2,by simp⟩,?_⟩)))
     unfold Kci
     rcases Kc1 c with q | q | q | q <;> (split <;> (try split) <;> (try split)) <;> omega
theorem Kgg {R:List UInt8} {c:Int} {P:List UInt8} (h:CR R c P):R=cdT c ++ P:=by
 have e:∀ d,0 ≤ Kbx d→∀ R2:List UInt8,CR R2 d P→R2=cdT d ++ P:=by
  intro d hd R2 h2
  have h3:=Kgf hd P
  unfold cdT at h3 ⊢
  rcases h2 with ⟨a,b⟩ | ⟨a,b⟩ | ⟨a,b⟩ | ⟨R1,g,a,b,b2⟩ | ⟨R1,g,a,b,b2⟩
  ·subst b; exact a
  ·subst b; exact a
  ·subst b; exact a
  ·obtain ⟨g1,g2,g3⟩:=b
   have hd2:2 < d:=by split at b2 <;> omega
   have ha:Kbv d=true:=by rw [Kgd]; split at b2 <;> omega
   have hg:Kci d=g:=by unfold Kci; split at b2 <;> (split <;> (try split)) <;> omega
   rw [if_neg (by omega),if_neg (by omega),if_neg (by omega),if_pos ha,hg,a,g3]; simp
  ·obtain ⟨g1,g2,g3⟩:=b
   have hd2:2 < d:=by split at b2 <;> omega
   have ha:¬ Kbv d=true:=by rw [Kgd]; split at b2 <;> omega
   have hg:Kci d=g:=by unfold Kci; split at b2 <;> (split <;> (try split)) <;> omega
   rw [if_neg (by omega),if_neg (by omega),if_neg (by omega),if_neg ha,hg,a,g3]; simp
 exact e c (Kfy h).1 R h
theorem Kgh {c:Int} (h:0 ≤ Kbx c):1 ≤ (cdT c).length∧(cdT c).length ≤ 4:=by
 unfold cdT
 by_cases h0:c=0
 ·rw [if_pos h0]; simp
 ·rw [if_neg h0]
  by_cases h1:c=1
  ·rw [if_pos h1]; simp
  ·rw [if_neg h1]
   by_cases h2:c=2
   ·rw [if_pos h2]; simp
   ·rw [if_neg h2]
    have hc:2 < c:=by rcases Kc1 c with q | q | q | q <;> omega
    obtain ⟨g1,g2⟩:=Kge h hc
    have:=Keu (g:=Kci c) (by omega)
    split <;> simp <;> omega
theorem Kgi:∀ {l:List Int},(∀ c ∈ l,0 ≤ Kbx c)→(tyT l).length ≤ 4 * l.length
 | [],_=>by simp [tyT]
 | c :: l,h=>by
  have:=(Kgh (h c List.mem_cons_self)).2
  have:=Kgi (l:=l) (fun d hd=>h d (List.mem_cons_of_mem _ hd))
  rw [tyT,List.length_append,List.length_cons]; omega
theorem Kgj:∀ {l:List Int},(∀ c ∈ l,0 ≤ Kbx c)→l.length ≤ (tyT l).length
 | [],_=>by simp [tyT]
 | c :: l,h=>by
  have:=(Kgh (h c List.mem_cons_self)).1
  have:=Kgj (l:=l) (fun d hd=>h d (List.mem_cons_of_mem _ hd))
  rw [tyT,List.length_append,List.length_cons]; omega
theorem Kgk:∀ (l:List Int) (m:Nat),skip m l=some []→∀ c ∈ l,0 ≤ Kbx c
 | [],_,_,c,h=>by cases h
 | d :: l,0,h,c,hc=>by rw [Kc5] at h; cases h
 | d :: l,m + 1,h,c,hc=>by
  rw [Kc7] at h
  by_cases hk:Kbx d=-1
  ·rw [if_pos hk] at h; cases h
  ·rw [if_neg hk] at h
   rcases List.mem_cons.1 hc with rfl | hc
   ·rcases Kc1 c with q | q | q | q <;> omega
   ·exact Kgk l _ h c hc
theorem Kgl {ty:List Int} (h:wtB ty=true):ty.length ≤ 40∧skip 1 ty=some []:=by
 unfold wtB at h
 rw [Bool.and_eq_true,decide_eq_true_eq,beq_iff_eq] at h
 exact h
theorem Kgm (ty:List Int) (hty:ty.length ≤ 40) (hv:∀ c ∈ ty,0 ≤ Kbx c):∀ (l:List Int) (i:Nat) (out:List UInt8),ty.drop i=l→out.length ≤ 4 * i→K74 (ty,bt out,(i:Int))=some (bt (out ++ tyT l)):=by
 intro l
 induction l with
 | nil =>
  intro i out hl ho
  rw [K74.eq_def]
  simp only
  rw [Kbp (Kbu hl),if_neg (by decide),tyT,List.append_nil]
 | cons c l ih =>
  intro i out hl ho
  obtain ⟨hi,hx,hd⟩:=Kbt hl
  have hck:∀ (A B:List UInt8),A.length + B.length ≤ 1000→chk ((((bt A).size + (bt B).size:Nat):Int) ≤ 9223372036854775807)=some ():=fun A B h=>by
   unfold chk; rw [if_pos (by rw [Ke8,Ke8]; omega)]
  have hk:=hv c (List.mem_of_getElem? (i:=i) (by rw [← List.head?_drop,hl]; rfl))
  have hl4:=Kgh hk
  have key:∀ w:List UInt8,w=cdT c→K74 (ty,bt (out ++ w),((i + 1:Nat):Int))=some (bt (out ++ tyT (c :: l))):=fun w hw=>by
   rw [ih (i + 1) (out ++ w) hd (by rw [List.length_append,hw]; omega),tyT,hw,List.append_assoc]
  rw [K74.eq_def]
  simp only
  rw [Kbo hi,if_pos rfl,hx,bs,Kbn (by omega)]
  rw [show (ByteArray.mk #[110])=bt [110] from rfl,show (ByteArray.mk #[42])=bt [42] from rfl,show (ByteArray.mk #[43])=bt [43] from rfl,show (ByteArray.mk #[62])=bt [62] from rfl,show (ByteArray.mk #[33])=bt [33] from rfl,show (ByteArray.mk #[46])=bt [46] from rfl]
  by_cases h0:c=0
  ·subst h0
   rw [beq_self_eq_true,if_pos rfl,hck _ _ (by simp; omega),bs,bs,Ke9]
   exact key _ rfl
  ·rw [show (c == 0)=false by simpa using h0]
   simp only [Bool.false_eq_true,if_false]
   by_cases h1:c=1
   ·subst h1
    rw [show ((1:Int) == 1)=true from rfl,if_pos rfl,hck _ _ (by simp; omega)]
    simp only [bs]
    rw [Ke9]
    exact key _ rfl
   ·rw [show (c == 1)=false by simpa using h1]
    simp only [Bool.false_eq_true,if_false]
    by_cases h2:c=2
    ·subst h2
     rw [show ((2:Int) == 2)=true from rfl,if_pos rfl,hck _ _ (by simp; omega)]
     simp only [bs]
     rw [Ke9]
     exact key _ rfl
    ·rw [show (c == 2)=false by simpa using h2]
     simp only [Bool.false_eq_true,if_false]
     have hc:2 < c:=by rcases Kc1 c with q | q | q | q <;> omega
     obtain ⟨g1,g2⟩:=Kge hk hc
     have hgl:=Keu (g:=Kci c) (by omega)
     have hk2:Kbx c > 0:=by rcases Kc1 c with q | q | q | q <;> omega
     rw [Kby,bs]
     cases ha:Kbv c with
     | true =>
      simp only [if_true]
      rw [hck _ _ (by simp; omega),bs,Kck hk2,bs,sGt _ (by omega),bs,Ke9,hck _ _ (by simp; omega),bs,Ke9,hck _ _ (by simp; omega)]
      simp only [bs]
      rw [Ke9,show out ++ [62] ++ gt (Kci c) ++ [46]=out ++ (62 :: (gt (Kci c) ++ [46])) by simp]
      exact key _ (by unfold cdT; rw [if_neg h0,if_neg h1,if_neg h2,if_pos ha])
     | false =>
      simp only [Bool.false_eq_true,if_false]
      rw [hck _ _ (by simp; omega),bs,Kck hk2,bs,sGt _ (by omega),bs,Ke9,hck _ _ (by simp; omega),bs,Ke9,hck _ _ (by simp; omega)]
      simp only [bs]
      rw [Ke9,show out ++ [33] ++ gt (Kci c) ++ [46]=out ++ (33 :: (gt (Kci c) ++ [46])) by simp]
      exact key _ (by unfold cdT; rw [if_neg h0,if_neg h1,if_neg h2,if_neg (by rw [ha]; decide)])
theorem Kgn {ty:List Int} (h:wtB ty=true):K77 ty=some (bt (tyT ty)):=by
 obtain ⟨h1,h2⟩:=Kgl h
 unfold K77
 have:=Kgm ty h1 (Kgk _ _ h2) ty 0 [] rfl (by simp)
 rw [show ((0:Nat):Int)=0 from rfl,show bt []=ByteArray.empty from rfl,List.nil_append] at this
 rw [Kcg ty (by omega),bs,h,if_pos rfl,this,bs]
theorem Kgo {t:ByteArray} (ht:t.size ≤ 1048576):∀ (l:List Int) (p:Nat) (out:List Int) (m:Nat) (X:List UInt8),p ≤ t.size→(tl t).drop p=tyT l ++ X→skip m l=some []→out.length + l.length ≤ 40→m ≤ 1 + out.length →
  K4y (t,(p:Int),out,(m:Int))=some (.inl (((p + (tyT l).length:Nat):Int),out ++ l)):=by
 intro l
 induction l with
 | nil =>
  intro p out m X hp hd hs hl hm
  cases m with
  | zero=>rw [show ((0:Nat):Int)=0 from rfl,Kg9]; simp [tyT]
  | succ m=>rw [Kc6] at hs; cases hs
 | cons c l ih =>
  intro p out m X hp hd hs hl hm
  cases m with
  | zero=>rw [Kc5] at hs; cases hs
  | succ m =>
   rw [Kc7] at hs
   by_cases hk:Kbx c=-1
   ·rw [if_pos hk] at hs; cases hs
   ·rw [if_neg hk] at hs
    have hk0:0 ≤ Kbx c:=by rcases Kc1 c with q | q | q | q <;> omega
    rw [tyT,List.append_assoc] at hd
    have hc:=Kgf hk0 (tyT l ++ X)
    rw [← hd] at hc
    simp only [List.length_cons] at hl
    rcases Kg4 (out:=out) (m:=((m + 1:Nat):Int)) ht hp (by omega) (by omega) (by omega) with ⟨c',post',hc',hr⟩ | ⟨hn,hr⟩
    ·obtain ⟨e1,e2⟩:=Kfx hc' hc
     subst e1 e2
     have hpe:=Kg3 hp hd
     have hk2:=(Kfy hc).2
     rw [hr,← hpe]
     have e:((m + 1:Nat):Int) - 1 + Kbx c'=((m + (Kbx c').toNat:Nat):Int):=by omega
     rw [e,ih (p + (cdT c').length) (out ++ [c']) _ X (Kfo hp hd) (Kez hd) hs (by simp; omega) (by simp; omega),tyT,List.length_append,List.append_assoc]
     congr 3; omega
    ·exact absurd hc (hn _ _)
theorem Kgp {t:ByteArray} {L:Int} (ht:t.size ≤ 1048576):∀ (l:List Int) (p:Nat) (out:List Int) (m:Nat) (X:List UInt8),p ≤ t.size→(tl t).drop p=tyT l ++ X→skip m l=some []→out.length + l.length ≤ 40→m ≤ 1 + out.length →
  K8m (t,(p:Int),false,L,out,(m:Int))=some (out ++ l,t,((p + (tyT l).length:Nat):Int),false,L):=by
 intro l
 induction l with
 | nil =>
  intro p out m X hp hd hs hl hm
  cases m with
  | zero=>rw [show ((0:Nat):Int)=0 from rfl,Kga]; simp [tyT]
  | succ m=>rw [Kc6] at hs; cases hs
 | cons c l ih =>
  intro p out m X hp hd hs hl hm
  cases m with
  | zero=>rw [Kc5] at hs; cases hs
  | succ m =>
   rw [Kc7] at hs
   by_cases hk:Kbx c=-1
   ·rw [if_pos hk] at hs; cases hs
   ·rw [if_neg hk] at hs
    have hk0:0 ≤ Kbx c:=by rcases Kc1 c with q | q | q | q <;> omega
    rw [tyT,List.append_assoc] at hd
    have hc:=Kgf hk0 (tyT l ++ X)
    rw [← hd] at hc
    simp only [List.length_cons] at hl
    rcases Kg6 (l:=L) (out:=out) (m:=((m + 1:Nat):Int)) ht hp (by omega) (by omega) (by omega) with ⟨c',post',hc',hr⟩ | ⟨hn,hr⟩
    ·obtain ⟨e1,e2⟩:=Kfx hc' hc
     subst e1 e2
     have hpe:=Kg3 hp hd
     have hk2:=(Kfy hc).2
     rw [hr,← hpe]
     have e:((m + 1:Nat):Int) - 1 + Kbx c'=((m + (Kbx c').toNat:Nat):Int):=by omega
     rw [e,ih (p + (cdT c').length) (out ++ [c']) _ X (Kfo hp hd) (Kez hd) hs (by simp; omega) (by simp; omega),tyT,List.length_append,List.append_assoc]
     congr 5; omega
    ·exact absurd hc (hn _ _)
theorem Kgq {t:ByteArray} {p:Nat} {ty:List Int} {X:List UInt8} (ht:t.size ≤ 1048576) (hp:p ≤ t.size) (hd:(tl t).drop p=tyT ty ++ X) (h:wtB ty=true) :
  K51 (t,(p:Int))=some (ty,((p + (tyT ty).length:Nat):Int)):=by
 obtain ⟨h1,h2⟩:=Kgl h
 have:=Kgo ht ty p [] 1 X hp hd h2 (by simpa using h1) (by simp)
 rw [show ((1:Nat):Int)=1 from rfl] at this
 unfold K51
 simp only
 rw [this,bs]
 rfl
theorem Kgr {t:ByteArray} {p:Nat} {L:Int} {ty:List Int} {X:List UInt8} (ht:t.size ≤ 1048576) (hp:p ≤ t.size) (hd:(tl t).drop p=tyT ty ++ X) (h:wtB ty=true) :
  K8p ⟨t,(p:Int),false,L⟩=some (ty,⟨t,((p + (tyT ty).length:Nat):Int),false,L⟩):=by
 obtain ⟨h1,h2⟩:=Kgl h
 have:=Kgp (L:=L) ht ty p [] 1 X hp hd h2 (by simpa using h1) (by simp)
 rw [show ((1:Nat):Int)=1 from rfl] at this
 unfold K8p
 simp only
 rw [this,bs]
 rfl
theorem Kgs {t:ByteArray} {L:Int} (ht:t.size ≤ 1048576):∀ (k p:Nat) (out:List Int) (m:Nat),out.length + k=41→p ≤ t.size→m ≤ 1 + out.length →
  ∃ l q f,q ≤ t.size∧l.length ≤ 41∧K8m (t,(p:Int),false,L,out,(m:Int))=some (l,t,((q:Nat):Int),f,L)∧(f=false→∃ r,l=out ++ r∧(tl t).drop p=tyT r ++ (tl t).drop q∧(∀ c ∈ r,0 ≤ Kbx c)∧p ≤ q):=by
 intro k
 induction k with
 | zero =>
  intro p out m hk hp hm
  exact ⟨out,p,false,hp,by omega,Kg8 (by omega),fun _=>⟨[],by simp,rfl,(fun c h=>by cases h),Nat.le_refl _⟩⟩
 | succ k ih =>
  intro p out m hk hp hm
  cases m with
  | zero=>exact ⟨out,p,false,hp,by omega,Kga,fun _=>⟨[],by simp,rfl,(fun c h=>by cases h),Nat.le_refl _⟩⟩
  | succ m =>
   rcases Kg6 (l:=L) (out:=out) (m:=((m + 1:Nat):Int)) ht hp (by omega) (by omega) (by omega) with ⟨c,post,hc,hr⟩ | ⟨hn,out',q,hq,hl,hr⟩
   ·have hk2:=Kfy hc
    have htx:=Kgg hc
    have hpe:=Kg3 hp htx
    have e:((m + 1:Nat):Int) - 1 + Kbx c=((m + (Kbx c).toNat:Nat):Int):=by omega
    rw [hr,e,← hpe]
    obtain ⟨l,q,f,h1,h2,h3,h4⟩:=ih (p + (cdT c).length) (out ++ [c]) (m + (Kbx c).toNat) (by simp; omega) (Kfo hp htx) (by simp; omega)
    refine ⟨l,q,f,h1,h2,h3,fun hf=>?_⟩
    obtain ⟨r,e1,e2,e3,e4⟩:=h4 hf
    refine ⟨c :: r,by rw [e1]; simp,?_,fun d hd=>?_,by omega⟩
    ·rw [htx,tyT,List.append_assoc]
     congr 1
     rw [← e2,Kez htx]
    ·rcases List.mem_cons.1 hd with rfl | hd
     ·exact hk2.1
     ·exact e3 d hd
   ·exact ⟨out',q,true,hq,hl,hr,fun h=>by cases h⟩
theorem Kgt {t:ByteArray} {p:Nat} {L:Int} (ht:t.size ≤ 1048576) (hp:p ≤ t.size) :
  ∃ l q f,q ≤ t.size∧l.length ≤ 41∧K8p ⟨t,(p:Int),false,L⟩=some (l,⟨t,((q:Nat):Int),f,L⟩)∧(f=false→(tl t).drop p=tyT l ++ (tl t).drop q∧p + l.length ≤ q):=by
 obtain ⟨l,q,f,h1,h2,h3,h4⟩:=Kgs (L:=L) ht 41 p [] 1 rfl hp (by simp)
 rw [show ((1:Nat):Int)=1 from rfl] at h3
 refine ⟨l,q,f,h1,h2,?_,fun hf=>?_⟩
 ·unfold K8p
  simp only
  rw [h3,bs]
 ·obtain ⟨r,e1,e2,e3,e4⟩:=h4 hf
  rw [List.nil_append] at e1
  subst e1
  refine ⟨e2,?_⟩
  have:=Kg3 hp e2
  rw [List.length_drop,Kew] at this
  have:=Kgj e3
  omega
theorem Kgu {t:ByteArray} {p:Int} {L:Int}:K8p ⟨t,p,true,L⟩=some ([],⟨t,p,true,L⟩):=by
 unfold K8p
 simp only
 rw [Kg5]; rfl
abbrev wdL (op:Int):List UInt8:=(Kd0 op).data.toList
def hdT (op N:Int) (ty:List Int):List UInt8:=wdL op ++ ((if Kcy op then 58 :: gt N else []) ++ (if Kcz op then 58 :: tyT ty else []))
mutual
def txT:K06→List UInt8
 | ⟨op,N,ty,ks⟩=>if op=0 then 120 :: gt N else if op=1 then gt N else hdT op N ty ++ (txQ true ks ++ [41])
def txQ:Bool→List K06→List UInt8
 | _,[]=>[]
 | b,k :: ks=>(if b then 40 else 44) :: (txT k ++ txQ false ks)
end
mutual
def okW:K06→Bool
 | ⟨op,N,ty,ks⟩=>Kdd (gN 16 false) wtB 1000 ⟨op,N,ty,ks⟩ && Kgv ks
def Kgv:List K06→Bool
 | []=>true
 | k :: ks=>okW k && Kgv ks
end
theorem Kgw {n:Nat} {t:K06} (hn:n ≤ 1000) (h:Kdd (gN 16 false) wtB (n:Int) t=true):Kdd (gN 16 false) wtB 1000 t=true:=by
 unfold Kdd at h ⊢
 simp only [Bool.and_eq_true] at h ⊢
 refine ⟨⟨h.1.1,?_⟩,h.2⟩
 have h2:=h.1.2
 unfold Kdb at h2 ⊢
 split
 ·rename_i e
  rw [if_pos e] at h2
  simp only [inB,Bool.and_eq_true,decide_eq_true_eq] at h2 ⊢
  omega
 ·rename_i e
  rw [if_neg e] at h2
  exact h2
mutual
theorem Kgx:∀ (t:K06) (n:Nat),tOk (gN 16 false) wtB n t=true→n + 2 * tsz t ≤ 1000→okW t=true
 | ⟨op,N,ty,ks⟩,n,h,hn=>by
  rw [tOk,Bool.and_eq_true] at h
  rw [tsz] at hn
  rw [okW,Bool.and_eq_true]
  exact ⟨Kgw (by omega) h.1,Kgy ks op n 0 h.2 (by omega)⟩
theorem Kgy:∀ (ks:List K06) (op:Int) (n i:Nat),Kde (gN 16 false) wtB op n i ks=true→n + 2 + 2 * Kcp ks ≤ 1000→Kgv ks=true
 | [],_,_,_,_,_=>by rw [Kgv]
 | k :: ks,op,n,i,h,hn=>by
  rw [Kde,Bool.and_eq_true] at h
  rw [Kcp] at hn
  have:=Kd8 op (i:Int)
  rw [Kgv,Bool.and_eq_true]
  exact ⟨Kgx k _ h.1 (by omega),Kgy ks op n (i + 1) h.2 (by omega)⟩
end
theorem Kgz {t:K06} (h:wB t=true):okW t=true∧tsz t ≤ 400:=by
 unfold wB at h
 rw [Bool.and_eq_true,decide_eq_true_eq] at h
 exact ⟨Kgx t 8 h.1 (by omega),h.2⟩
theorem Kh0 {op N:Int} {ty:List Int} {ks:List K06} (h:okW ⟨op,N,ty,ks⟩=true):inB op 0 12=true∧(ks.length:Int)=Kcx op ∧
  (op=0→0 ≤ N∧N ≤ 999)∧(op=1→0 ≤ N∧N ≤ 2)∧(op ≠ 0→op ≠ 1→Kcy op=true→-1 ≤ N∧N ≤ 15)∧(op ≠ 0→op ≠ 1→Kcy op=false→N=0)∧(Kcz op=true→wtB ty=true)∧(Kcz op=false→ty=[])∧Kgv ks=true:=by
 rw [okW,Bool.and_eq_true] at h
 obtain ⟨h1,h2⟩:=h
 unfold Kdd at h1
 simp only [Bool.and_eq_true] at h1
 obtain ⟨⟨⟨a1,a2⟩,a3⟩,a4⟩:=h1
 unfold Kdb at a3
 unfold Kdc at a4
 simp only at a3 a4
 refine ⟨a1,by simpa using a2,fun e=>?_,fun e=>?_,fun e0 e1 e=>?_,fun e0 e1 e=>?_,fun e=>?_,fun e=>?_,h2⟩
 ·subst e
  rw [if_pos (by rfl)] at a3
  simp only [inB,Bool.and_eq_true,decide_eq_true_eq] at a3; omega
 ·subst e
  rw [if_neg (by decide),if_pos (by rfl)] at a3
  simp only [inB,Bool.and_eq_true,decide_eq_true_eq] at a3; omega
 ·rw [if_neg (by simpa using e0),if_neg (by simpa using e1),if_pos e] at a3
  simp [gN] at a3; omega
 ·rw [if_neg (by simpa using e0),if_neg (by simpa using e1),if_neg (by rw [e]; decide)] at a3
  simpa using a3
 ·rw [if_pos e] at a4; exact a4
 ·rw [if_neg (by rw [e]; decide)] at a4
  exact List.length_eq_zero_iff.1 (by have:=a4; simp at this; rw [this]; rfl)
theorem Kh1 {op:Int} (h:inB op 0 12=true):Kcx op ≤ 3∧(2 ≤ op→1 ≤ Kcx op)∧(op=0∨op=1→Kcx op=0):=by
 rcases Kd1 h with rfl | rfl | rfl | rfl | rfl | rfl | rfl | rfl | rfl | rfl | rfl | rfl | rfl <;> decide
theorem Kh2 (op:Int):(wdL op).length ≤ 5:=by
 unfold wdL Kd0
 have:∀ l:List ByteArray,(l.all fun x=>decide (x.data.toList.length ≤ 5))=true→∀ i,(l.getD i ByteArray.empty).data.toList.length ≤ 5:=by
  intro l hl i
  rw [List.getD_eq_getElem?_getD]
  cases h:l[i]? with
  | none=>exact (by decide:ByteArray.empty.data.toList.length ≤ 5)
  | some x =>
   rw [List.all_eq_true] at hl
   exact of_decide_eq_true (hl x (List.mem_of_getElem? h))
 exact this _ (by kernel_rfl) _
theorem Kh3 {g:Int} (h:g ≤ 999):(gt g).length ≤ 3:=by
 unfold gt
 split
 ·simp
 ·exact (Keh g.toNat).2.2 (by omega)
theorem Kh4 {op N:Int} {ty:List Int} (hN:N ≤ 999) (ht:Kcz op=true→wtB ty=true):(hdT op N ty).length ≤ 170:=by
 have h1:=Kh2 op
 have h2:=Kh3 hN
 unfold hdT
 rw [List.length_append,List.length_append]
 have h3:(if Kcz op=true then 58 :: tyT ty else []).length ≤ 161:=by
  split
  ·rename_i e
   obtain ⟨q1,q2⟩:=Kgl (ht e)
   have:=Kgi (Kgk _ _ q2)
   simp; omega
  ·simp
 have h4:(if Kcy op=true then 58 :: gt N else []).length ≤ 4:=by
  split <;> simp; omega
 omega
mutual
theorem Kh5:∀ t:K06,okW t=true→(txT t).length + 1 ≤ 190 * tsz t
 | ⟨op,N,ty,ks⟩,h=>by
  obtain ⟨h1,h2,h3,h4,h5,h6,h7,h8,h9⟩:=Kh0 h
  have hN:N ≤ 999:=by
   by_cases e0:op=0
   ·exact (h3 e0).2
   ·by_cases e1:op=1
    ·have:=(h4 e1).2; omega
    ·cases e:Kcy op with
     | true=>have:=(h5 e0 e1 e).2; omega
     | false=>have:=h6 e0 e1 e; omega
  have g3:=Kh3 hN
  have hd:=Kh4 (op:=op) (N:=N) (ty:=ty) hN h7
  have q:=Kh6 ks true h9
  rw [txT,tsz]
  split
  ·simp; omega
  ·split
   ·omega
   ·rw [List.length_append,List.length_append]; simp; omega
theorem Kh6:∀ (ks:List K06) (b:Bool),Kgv ks=true→(txQ b ks).length ≤ 190 * Kcp ks
 | [],b,_=>by rw [txQ]; simp
 | k :: ks,b,h=>by
  rw [Kgv,Bool.and_eq_true] at h
  have h1:=Kh5 k h.1
  have h2:=Kh6 ks false h.2
  rw [txQ,Kcp,List.length_cons,List.length_append]; omega
end
theorem Kh7 {op:Int} (h:2 ≤ op) (h2:op ≤ 12):K3q op=some (Kd0 op):=by
 have:op=2∨op=3∨op=4∨op=5∨op=6∨op=7∨op=8∨op=9∨op=10∨op=11∨op=12:=by omega
 rcases this with rfl | rfl | rfl | rfl | rfl | rfl | rfl | rfl | rfl | rfl | rfl <;> rfl
theorem Kh8 {A B:List UInt8} (h:A.length + B.length ≤ 2000000000):chk ((((bt A).size + (bt B).size:Nat):Int) ≤ 9223372036854775807)=some ():=by
 unfold chk; rw [if_pos (by rw [Ke8,Ke8]; omega)]
theorem Kh9 (op:Int):Kd0 op=bt (wdL op):=(Kea _).symm
mutual
theorem Kha:∀ (t:K06),okW t=true→tsz t ≤ 100000→K7b t=some (bt (txT t))
 | ⟨op,N,ty,ks⟩,h,hs=>by
  obtain ⟨h1,h2,h3,h4,h5,h6,h7,h8,h9⟩:=Kh0 h
  rw [tsz] at hs
  rw [K7b.eq_def,txT]
  simp only
  by_cases e0:op=0
  ·subst e0
   obtain ⟨a,b⟩:=h3 rfl
   obtain ⟨n,rfl⟩:∃ n:Nat,N=n:=⟨N.toNat,by omega⟩
   rw [show ((0:Int) == 0)=true from rfl,if_pos rfl,if_pos rfl,Keq n (by omega),bs,show (ByteArray.mk #[120])=bt [120] from rfl,Kh8 (by have:=(Keh n).2.2 (by omega); simp; omega),bs,Ke9,Ker]
   rfl
  ·rw [show (op == 0)=false by simpa using e0,if_neg e0]
   simp only [Bool.false_eq_true,if_false]
   by_cases e1:op=1
   ·subst e1
    obtain ⟨a,b⟩:=h4 rfl
    obtain ⟨n,rfl⟩:∃ n:Nat,N=n:=⟨N.toNat,by omega⟩
    rw [show ((1:Int) == 1)=true from rfl,if_pos rfl,if_pos rfl,Keq n (by omega),bs,Ker]
   ·rw [show (op == 1)=false by simpa using e1,if_neg e1]
    simp only [Bool.false_eq_true,if_false]
    have hop:2 ≤ op∧op ≤ 12:=by simp only [inB,Bool.and_eq_true,decide_eq_true_eq] at h1; omega
    have hN:N ≤ 15:=by
     cases e:Kcy op with
     | true=>exact (h5 e0 e1 e).2
     | false=>have:=h6 e0 e1 e; omega
    have gl:=Kh3 (g:=N) (by omega)
    have wl:=Kh2 op
    have wl2:(Kd0 op).size ≤ 5:=by rw [Keb]; exact wl
    have hdl:=Kh4 (op:=op) (N:=N) (ty:=ty) (by omega) h7
    rw [Kh7 hop.1 hop.2,bs,Kd3,bs,Kh9,show (ByteArray.mk #[58])=bt [58] from rfl,show (ByteArray.mk #[41])=bt [41] from rfl]
    have s1:((if Kcy op=true then chk ((((bt (wdL op)).size + (bt [58]).size:Nat):Int) ≤ 9223372036854775807) >>= fun _=>K42 N >>= fun r=>chk ((((bt (wdL op) ++ bt [58]).size + r.size:Nat):Int) ≤ 9223372036854775807) >>= fun _=>some ((bt (wdL op) ++ bt [58]) ++ r) else some (bt (wdL op))):Option ByteArray)=some (bt (wdL op ++ (if Kcy op=true then 58 :: gt N else []))):=by
     cases e:Kcy op with
     | true =>
      simp only [if_true]
      rw [Kh8 (by simp; omega),bs,sGt N (by omega),bs,Ke9,Kh8 (by simp; omega),bs,Ke9,List.append_assoc]
      rfl
     | false=>simp
    rw [s1,bs,Kd4,bs]
    have s2:∀ A:List UInt8,A.length ≤ 10→((if Kcz op=true then chk ((((bt A).size + (bt [58]).size:Nat):Int) ≤ 9223372036854775807) >>= fun _=>K77 ty >>= fun r=>chk ((((bt A ++ bt [58]).size + r.size:Nat):Int) ≤ 9223372036854775807) >>= fun _=>some ((bt A ++ bt [58]) ++ r) else some (bt A)):Option ByteArray)=some (bt (A ++ (if Kcz op=true then 58 :: tyT ty else []))):=by
     intro A hA
     cases e:Kcz op with
     | true =>
      obtain ⟨q1,q2⟩:=Kgl (h7 e)
      have:=Kgi (Kgk _ _ q2)
      simp only [if_true]
      rw [Kh8 (by simp; omega),bs,Kgn (h7 e),bs,Ke9,Kh8 (by simp; omega),bs,Ke9,List.append_assoc]
      rfl
     | false=>simp
    rw [s2 _ (by rw [List.length_append]; have:(if Kcy op=true then 58 :: gt N else []).length ≤ 4:=(by split <;> simp; omega); omega),bs,List.append_assoc]
    rw [show wdL op ++ ((if Kcy op=true then 58 :: gt N else []) ++ (if Kcz op=true then 58 :: tyT ty else []))=hdT op N ty from rfl]
    have hq:=Khb ks ⟨op,N,ty,ks⟩ 0 (hdT op N ty) rfl h9 (by have:=Kh1 h1; show ks.length ≤ 1000000; omega) (by omega) (by omega)
    have ql:=Kh6 ks true h9
    rw [show ((0:Nat):Int)=0 from rfl,show ((0:Nat) == 0)=true from rfl] at hq
    rw [hq,bs,Kh8 (by rw [List.length_append]; simp; omega),bs,Ke9,List.append_assoc]
theorem Khb:∀ (ks:List K06) (t:K06) (i:Nat) (out:List UInt8),t.fKids.drop i=ks→Kgv ks=true→t.fKids.length ≤ 1000000→Kcp ks ≤ 100000→out.length + 190 * Kcp ks ≤ 1000000000→K7c (t,bt out,(i:Int))=some (bt (out ++ txQ (i == 0) ks))
 | [],t,i,out,hd,h,hl,hs,ho=>by
  rw [K7c.eq_def]
  simp only
  rw [Kbp (Kbu hd),if_neg (by decide),txQ,List.append_nil]
 | k :: ks,t,i,out,hd,h,hl,hs,ho=>by
  obtain ⟨hi,hx,hd'⟩:=Kbt hd
  rw [Kgv,Bool.and_eq_true] at h
  rw [Kcp] at hs ho
  have kl:=Kh5 k h.1
  rw [K7c.eq_def]
  simp only
  have sep:((if ((i:Int) == 0)=true then chk (((bt out).size + (ByteArray.mk #[40]).size:Nat) ≤ (9223372036854775807:Int)) >>= fun _=>some (bt out ++ ByteArray.mk #[40]) else chk (((bt out).size + (ByteArray.mk #[44]).size:Nat) ≤ (9223372036854775807:Int)) >>= fun _=>some (bt out ++ ByteArray.mk #[44])):Option ByteArray)=some (bt (out ++ [if (i == 0)=true then 40 else 44])):=by
   have e:((i:Int) == 0)=(i == 0):=by rw [Bool.eq_iff_iff,beq_iff_eq,beq_iff_eq]; omega
   rw [e,show (ByteArray.mk #[40])=bt [40] from rfl,show (ByteArray.mk #[44])=bt [44] from rfl]
   cases i == 0 with
   | true=>rw [if_pos rfl,if_pos rfl,Kh8 (by simp; omega),bs,Ke9]
   | false=>rw [if_neg (by decide),if_neg (by decide),Kh8 (by simp; omega),bs,Ke9]
  rw [Kbo hi,if_pos rfl,sep,bs,hx,bs,Kha k h.1 (by omega),bs,Kh8 (by simp; omega),bs,Ke9]
  rw [show ((i:Int) + 1)=((i + 1:Nat):Int) by omega,Kbl (by omega) (by have:=hi; omega)]
  rw [Khb ks t (i + 1) _ hd' h.2 hl (by omega) (by simp; omega),txQ]
  congr 2
  rw [show ((i + 1:Nat) == 0)=false by simp]
  simp
end
theorem Khc {t:K06} (hm:tms t ≤ 1099511627776):K7i t=some (if wB t=true then bt (txT t) else ByteArray.empty):=by
 unfold K7i
 rw [Kdo t hm,bs]
 split
 ·rename_i h
  obtain ⟨h1,h2⟩:=Kgz h
  rw [Kha t h1 (by omega),bs]
 ·rfl
end Go.Am
