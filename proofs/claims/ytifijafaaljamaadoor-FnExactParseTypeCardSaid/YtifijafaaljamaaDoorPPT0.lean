/- Plain laws of the printed functions. -/
import Derived.Test.YtifijafaaljamaaDoorGPTF0
set_option linter.unusedSimpArgs false
set_option linter.unusedVariables false
namespace Go.Am
theorem K4t {x:Int} (h1:-9223372036854775808 ≤ x) (h2:x ≤ 9223372036854775807):wr x=x:=by
 unfold wr IntKind.wrap
 simp [IntKind.bits,IntKind.signed]
 omega
theorem K4u {α:Type} {l:List α} {n:Nat} (h:n < l.length):idx l (n:Int)=some l[n]:=by
 unfold idx
 rw [if_pos (by omega)]
 simp [h]
theorem bs {α β:Type} (a:α) (f:α→Option β):(some a >>= f)=f a:=rfl
theorem K4v {n:Nat} (h:n < 9223372036854775807):wr ((n:Int) + 1)=((n + 1:Nat):Int):=by
 rw [K4t (by omega) (by omega)]; omega
theorem K4w {n m:Nat} (h:n < m):decide ((n:Int) < (m:Int))=true:=decide_eq_true (by omega)
theorem K4x {n m:Nat} (h:m ≤ n):decide ((n:Int) < (m:Int))=false:=decide_eq_false (by omega)
theorem K4y {a:Int}:(a != a)=false:=by simp
theorem K4z (a:List Int) (ha:a.length ≤ 1099511627776):∀ (k n:Nat),n + k=a.length→K46 (a,a,(n:Int))=some (.inl ()):=by
 intro k
 induction k with
 | zero =>
  intro n hn
  rw [K46.eq_def]
  simp only
  rw [K4x (by omega)]
  rfl
 | succ k ih =>
  intro n hn
  rw [K46.eq_def]
  simp only
  rw [K4w (by omega),if_pos rfl,K4u (by omega),bs,bs,K4y,if_neg (by decide),K4v (by omega)]
  exact ih (n + 1) (by omega)
theorem K50 (a:List Int) (ha:a.length ≤ 1099511627776):K49 (a,a)=some true:=by
 unfold K49
 simp only
 have:=K4z a ha a.length 0 (by omega)
 rw [show ((0:Nat):Int)=0 from rfl] at this
 rw [K4y,if_neg (by decide),this]
 rfl
def inB (x lo hi:Int):Bool:=decide (x ≥ lo) && decide (x ≤ hi)
theorem sIn (x lo hi:Int):K26 (x,lo,hi)=some (inB x lo hi):=by
 unfold K26 inB
 simp only
 cases decide (x ≥ lo) <;> simp [bs]
theorem iIn (x lo hi:Int):K3q (x,lo,hi)=some (inB x lo hi):=by
 unfold K3q inB
 simp only
 cases decide (x ≥ lo) <;> simp [bs]
theorem K51 {α:Type} {l r:List α} {x:α} {i:Nat} (h:l.drop i=x :: r):i < l.length∧idx l (i:Int)=some x∧l.drop (i + 1)=r:=by
 have hi:i < l.length:=by
  rcases Nat.lt_or_ge i l.length with h' | h'
  ·exact h'
  ·rw [List.drop_eq_nil_of_le h'] at h; cases h
 have e:=List.drop_eq_getElem_cons hi
 rw [h] at e
 obtain ⟨e1,e2⟩:=List.cons.inj e
 exact ⟨hi,by rw [K4u hi,e1],e2.symm⟩
theorem K52 {α:Type} {l:List α} {i:Nat} (h:l.drop i=[]):l.length ≤ i:=by
 rcases Nat.lt_or_ge i l.length with h' | h'
 ·rw [List.drop_eq_getElem_cons h'] at h; cases h
 ·exact h'
def K53 (c:Int):Bool:=inB c 3 18 || c == 35
def K54 (c:Int):Bool:=inB c 19 34 || c == 36
def K55 (c:Int):Int:=if c == 0 then 0 else if c == 1 || c == 2 || K53 c then 2 else if K54 c then 1 else -1
theorem K56 (c:Int):K29 c=some (K53 c):=by
 unfold K29 K53
 simp only [sIn,bs]
 cases inB c 3 18 <;> rfl
theorem K57 (c:Int):K2c c=some (K54 c):=by
 unfold K2c K54
 simp only [sIn,bs]
 cases inB c 19 34 <;> rfl
theorem K58 (c:Int):K2f c=some (K55 c):=by
 unfold K2f K55
 simp only [K56,K57,bs]
 cases c == 0 <;> cases c == 1 <;> cases c == 2 <;> cases K53 c <;> cases K54 c <;> rfl
theorem K59 (c:Int):(c=0∧K55 c=0)∨((c=1∨c=2∨(3 ≤ c∧c ≤ 18)∨c=35)∧K55 c=2)∨(((19 ≤ c∧c ≤ 34)∨c=36)∧K55 c=1)∨((c < 0∨36 < c)∧K55 c=-1):=by
 unfold K55 K53 K54 inB
 by_cases h0:c=0
 ·left; subst h0; exact ⟨rfl,rfl⟩
 ·right
  have e0:(c == 0)=false:=by simpa using h0
  by_cases h1:c=1∨c=2∨(3 ≤ c∧c ≤ 18)∨c=35
  ·left
   refine ⟨h1,?_⟩
   have:(c == 1 || c == 2 || (decide (c ≥ 3) && decide (c ≤ 18) || c == 35))=true:=by
    simp only [Bool.or_eq_true,Bool.and_eq_true,beq_iff_eq,decide_eq_true_eq]; omega
   rw [e0,this]; rfl
  ·right
   have q:(c == 1 || c == 2 || (decide (c ≥ 3) && decide (c ≤ 18) || c == 35))=false:=by
    rw [Bool.eq_false_iff]; intro h
    simp only [Bool.or_eq_true,Bool.and_eq_true,beq_iff_eq,decide_eq_true_eq] at h; omega
   rw [e0,q]
   by_cases h2:(19 ≤ c∧c ≤ 34)∨c=36
   ·left
    refine ⟨h2,?_⟩
    have:(decide (c ≥ 19) && decide (c ≤ 34) || c == 36)=true:=by
     simp only [Bool.or_eq_true,Bool.and_eq_true,beq_iff_eq,decide_eq_true_eq]; omega
    rw [this]; rfl
   ·right
    refine ⟨by omega,?_⟩
    have:(decide (c ≥ 19) && decide (c ≤ 34) || c == 36)=false:=by
     rw [Bool.eq_false_iff]; intro h
     simp only [Bool.or_eq_true,Bool.and_eq_true,beq_iff_eq,decide_eq_true_eq] at h; omega
    rw [this]; rfl
def K5a (c:Int):Int × Int :=
 if inB c 0 2 then (c,-1) else if inB c 3 18 then (3,c - 3) else if inB c 19 34 then (4,c - 19) else if c == 35 then (3,-1) else if c == 36 then (4,-1) else (5,-1)
theorem K5b (c:Int):K3t c=some (K5a c):=by
 unfold K3t K5a
 simp only [iIn,bs]
 cases h1:inB c 0 2
 ·cases h2:inB c 3 18
  ·cases h3:inB c 19 34
   ·cases c == 35 <;> cases c == 36 <;> rfl
   ·simp only [inB,Bool.and_eq_true,decide_eq_true_eq] at h3
    simp only [Bool.false_eq_true,if_false,if_true]
    rw [K4t (by omega) (by omega)]
  ·simp only [inB,Bool.and_eq_true,decide_eq_true_eq] at h2
   simp only [Bool.false_eq_true,if_false,if_true]
   rw [K4t (by omega) (by omega)]
 ·rfl
theorem K5c (c:Int):(c=0∧K5a c=(0,-1))∨(c=1∧K5a c=(1,-1))∨(c=2∧K5a c=(2,-1))∨((3 ≤ c∧c ≤ 18)∧K5a c=(3,c - 3))∨(c=35∧K5a c=(3,-1)) ∨
  ((19 ≤ c∧c ≤ 34)∧K5a c=(4,c - 19))∨(c=36∧K5a c=(4,-1))∨((c < 0∨36 < c)∧K5a c=(5,-1)):=by
 have inT:∀ lo hi,lo ≤ c→c ≤ hi→inB c lo hi=true:=fun lo hi h1 h2=>by simp only [inB,Bool.and_eq_true,decide_eq_true_eq]; omega
 have inF:∀ lo hi,(c < lo∨hi < c)→inB c lo hi=false:=fun lo hi h=>by rw [Bool.eq_false_iff]; intro h'; simp only [inB,Bool.and_eq_true,decide_eq_true_eq] at h'; omega
 unfold K5a
 by_cases h0:0 ≤ c∧c ≤ 2
 ·rw [inT 0 2 h0.1 h0.2]
  have:c=0∨c=1∨c=2:=by omega
  rcases this with rfl | rfl | rfl <;> simp
 ·rw [inF 0 2 (by omega)]
  by_cases h1:3 ≤ c∧c ≤ 18
  ·rw [inT 3 18 h1.1 h1.2]
   exact .inr (.inr (.inr (.inl ⟨h1,rfl⟩)))
  ·rw [inF 3 18 (by omega)]
   by_cases h2:19 ≤ c∧c ≤ 34
   ·rw [inT 19 34 h2.1 h2.2]
    exact .inr (.inr (.inr (.inr (.inr (.inl ⟨h2,rfl⟩)))))
   ·rw [inF 19 34 (by omega)]
    by_cases h3:c=35
    ·subst h3; simp
    ·by_cases h4:c=36
     ·subst h4; simp
     ·have e3:(c == 35)=false:=by simpa using h3
      have e4:(c == 36)=false:=by simpa using h4
      rw [e3,e4]
      refine .inr (.inr (.inr (.inr (.inr (.inr (.inr ⟨by omega,rfl⟩))))))
def skip:Nat→List Int→Option (List Int)
 | 0,l=>some l
 | _ + 1,[]=>none
 | m + 1,c :: l=>if K55 c=-1 then none else skip (m + (K55 c).toNat) l
theorem K5d (l:List Int):skip 0 l=some l:=by cases l <;> rfl
theorem K5e (m:Nat):skip (m + 1) []=none:=rfl
theorem K5f (m:Nat) (c:Int) (l:List Int):skip (m + 1) (c :: l)=if K55 c=-1 then none else skip (m + (K55 c).toNat) l:=rfl
theorem K5g (l:List Int):∀ (m k:Nat),skip (m + k) l=(skip m l).bind (skip k):=by
 induction l with
 | nil =>
  intro m k
  cases m with
  | zero=>rw [Nat.zero_add,K5d]; rfl
  | succ m=>rw [show m + 1 + k=(m + k) + 1 by omega,K5e,K5e]; rfl
 | cons c l ih =>
  intro m k
  cases m with
  | zero=>rw [Nat.zero_add,K5d]; rfl
  | succ m =>
   rw [show m + 1 + k=(m + k) + 1 by omega,K5f,K5f]
   by_cases h:K55 c=-1
   ·rw [if_pos h,if_pos h]; rfl
   ·rw [if_neg h,if_neg h,← ih]; congr 1; omega
theorem K5h (l:List Int):∀ (m:Nat) (r:List Int),skip m l=some r→∃ p,l=p ++ r∧m ≤ p.length:=by
 induction l with
 | nil =>
  intro m r h
  cases m with
  | zero=>rw [K5d] at h; cases h; exact ⟨[],rfl,Nat.le_refl _⟩
  | succ m=>rw [K5e] at h; cases h
 | cons c l ih =>
  intro m r h
  cases m with
  | zero=>rw [K5d] at h; cases h; exact ⟨[],rfl,Nat.le_refl _⟩
  | succ m =>
   rw [K5f] at h
   by_cases hk:K55 c=-1
   ·rw [if_pos hk] at h; cases h
   ·rw [if_neg hk] at h
    obtain ⟨p,e,hp⟩:=ih _ _ h
    exact ⟨c :: p,by rw [e]; rfl,by simp; omega⟩
def K5i (ty:List Int) (m i:Nat):Int:=match skip m (ty.drop i) with | some r=>((ty.length - r.length:Nat):Int) | none=>-1
theorem K5j (ty:List Int) (i:Nat) (hi:i ≤ ty.length):K5i ty 2 i=(if K5i ty 1 i=-1 then -1 else K5i ty 1 (K5i ty 1 i).toNat):=by
 unfold K5i
 rw [show 2=1 + 1 from rfl,K5g]
 cases h:skip 1 (ty.drop i) with
 | none=>simp
 | some r =>
  obtain ⟨p,hp,hl⟩:=K5h _ _ _ h
  have hlen:ty.length - i=p.length + r.length:=by rw [← List.length_drop,hp,List.length_append]
  have:ty.drop (ty.length - r.length)=r:=by
   have e:ty.drop (ty.length - r.length)=(ty.drop i).drop p.length:=by rw [List.drop_drop]; congr 1; omega
   rw [e,hp,List.drop_left]
  simp only [Option.bind_some]
  rw [if_neg (by omega),Int.toNat_natCast,this]
theorem K5k (ty:List Int) (hty:ty.length ≤ 1099511627776):∀ (d i:Nat),ty.length - i=d→K3w (ty,(i:Int))=some (K5i ty 1 i):=by
 intro d
 induction d using Nat.strongRecOn with
 | ind d ih =>
  intro i hd
  rw [K3w.eq_def]
  simp only
  rw [decide_eq_false (by omega:¬ (i:Int) < 0)]
  simp only [Bool.false_eq_true,if_false,bs]
  by_cases hi:i < ty.length
  ·rw [decide_eq_false (by omega),if_neg (by decide),K4u hi,bs,K5b,bs]
   have hdr:=List.drop_eq_getElem_cons hi
   have he:∀ k:Nat,K55 ty[i]=(k:Int)→K5i ty 1 i=K5i ty k (i + 1):=fun k hk=>by
    unfold K5i
    rw [hdr,show 1=0 + 1 from rfl,K5f,hk,if_neg (by omega),Int.toNat_natCast,Nat.zero_add]
   have hn:K55 ty[i]=-1→K5i ty 1 i=-1:=fun hk=>by
    unfold K5i
    rw [hdr,show 1=0 + 1 from rfl,K5f,if_pos hk]
   have i1:=ih (ty.length - (i + 1)) (by omega) (i + 1) rfl
   have hz:∀ i:Nat,i ≤ ty.length→K5i ty 0 i=(i:Int):=fun i hi=>by unfold K5i; rw [K5d]; simp only [List.length_drop]; omega
   rw [K4v (by omega)]
   have two:K55 ty[i]=2→((K3w (ty,((i + 1:Nat):Int))) >>= fun r_11_4=>(K3w (ty,r_11_4)) >>= fun r_11_5=>some r_11_5)=some (K5i ty 1 i):=fun hk=>by
    rw [i1,bs,he 2 hk,K5j ty (i + 1) (by omega)]
    by_cases h1:K5i ty 1 (i + 1)=-1
    ·rw [h1,if_pos rfl,K3w.eq_def]; rfl
    ·rw [if_neg h1]
     obtain ⟨e,hee,hlo⟩:∃ e:Nat,K5i ty 1 (i + 1)=(e:Int)∧i + 1 < e:=by
      unfold K5i at h1 ⊢
      cases hs:skip 1 (ty.drop (i + 1)) with
      | none=>rw [hs] at h1; exact absurd rfl h1
      | some r =>
       obtain ⟨p,hp,hl⟩:=K5h _ _ _ hs
       have hlen:ty.length - (i + 1)=p.length + r.length:=by rw [← List.length_drop,hp,List.length_append]
       exact ⟨_,rfl,by omega⟩
     rw [hee,Int.toNat_natCast,ih (ty.length - e) (by omega) e rfl,bs]
   rcases K5c ty[i] with ⟨h,e⟩ | ⟨h,e⟩ | ⟨h,e⟩ | ⟨h,e⟩ | ⟨h,e⟩ | ⟨h,e⟩ | ⟨h,e⟩ | ⟨h,e⟩ <;> rw [e] <;> simp only []
   ·have hk:K55 ty[i]=0:=by rcases K59 ty[i] with h | h | h | h <;> omega
    rw [if_pos (by rfl),he 0 hk,hz _ (by omega)]
   ·have hk:K55 ty[i]=2:=by rcases K59 ty[i] with h | h | h | h <;> omega
    exact two hk
   ·have hk:K55 ty[i]=2:=by rcases K59 ty[i] with h | h | h | h <;> omega
    exact two hk
   ·have hk:K55 ty[i]=2:=by rcases K59 ty[i] with h | h | h | h <;> omega
    exact two hk
   ·have hk:K55 ty[i]=2:=by rcases K59 ty[i] with h | h | h | h <;> omega
    exact two hk
   ·have hk:K55 ty[i]=1:=by rcases K59 ty[i] with h | h | h | h <;> omega
    rw [he 1 hk,if_neg (by decide),if_pos (by rfl),i1,bs]
   ·have hk:K55 ty[i]=1:=by rcases K59 ty[i] with h | h | h | h <;> omega
    rw [he 1 hk,if_neg (by decide),if_pos (by rfl),i1,bs]
   ·have hk:K55 ty[i]=-1:=by rcases K59 ty[i] with h | h | h | h <;> omega
    rw [hn hk]; rfl
  ·rw [decide_eq_true (by omega),if_pos rfl]
   unfold K5i
   rw [List.drop_eq_nil_of_le (by omega),K5e]
def wtB (ty:List Int):Bool:=decide (ty.length ≤ 40) && (skip 1 ty == some [])
theorem K5l (ty:List Int):(K5i ty 1 0 == (ty.length:Int))=(skip 1 ty == some []):=by
 unfold K5i
 rw [List.drop_zero]
 cases h:skip 1 ty with
 | none=>simp
 | some r =>
  obtain ⟨p,hp,hl⟩:=K5h _ _ _ h
  have hlen:ty.length=p.length + r.length:=by rw [hp,List.length_append]
  cases r with
  | nil=>simp
  | cons x xs =>
   simp only [List.length_cons] at hlen ⊢
   simp
   omega
theorem K5m (ty:List Int) (hty:ty.length ≤ 1099511627776):K3z ty=some (wtB ty):=by
 unfold K3z wtB
 rw [iIn,bs]
 by_cases h:ty.length ≤ 40
 ·rw [decide_eq_true h]
  by_cases h1:1 ≤ ty.length
  ·have:inB (ty.length:Int) 1 40=true:=by simp only [inB,Bool.and_eq_true,decide_eq_true_eq]; omega
   rw [this,if_pos rfl,show (0:Int)=((0:Nat):Int) from rfl,K5k ty hty _ 0 rfl,bs,K5l]; rfl
  ·have:inB (ty.length:Int) 1 40=false:=by rw [Bool.eq_false_iff]; intro h'; simp only [inB,Bool.and_eq_true,decide_eq_true_eq] at h'; omega
   have e:ty=[]:=List.length_eq_zero_iff.1 (by omega)
   rw [this,e]; rfl
 ·have:inB (ty.length:Int) 1 40=false:=by rw [Bool.eq_false_iff]; intro h'; simp only [inB,Bool.and_eq_true,decide_eq_true_eq] at h'; omega
  rw [this,decide_eq_false h]; rfl
theorem K5n {n b:Nat} (h:n * b ≤ 140737488355328):Qey n b=some ():=by unfold Qey chk; rw [if_pos h]
inductive Ty where
 | num
 | bin (c:Int) (a b:Ty)
 | un (c:Int) (a:Ty)
namespace Ty
def hd:Ty→Int
 | num=>0
 | bin c _ _=>c
 | un c _=>c
end Ty
theorem K5o:∀ (l a:List Int) (i k:Nat),a.drop i=l→a.length ≤ 1099511627776→k + l.length ≤ 1152921504606846976 + 1099511627776 →
  ∃ M,K4d (a,(k:Int),(i:Int))=some (((k + l.length:Nat):Int),M)∧M.length=a.length∧M.take i=a.take i∧M.drop i=(List.range' k l.length).map (fun n:Nat=>(n:Int)):=by
 intro l
 induction l with
 | nil =>
  intro a i k hd ha hk
  rw [K4d.eq_def]
  simp only
  rw [K4x (K52 hd)]
  exact ⟨a,by simp,rfl,rfl,by rw [hd]; rfl⟩
 | cons x l ih =>
  intro a i k hd ha hk
  obtain ⟨hi,hx,hd'⟩:=K51 hd
  have hl:(x :: l).length ≤ 1099511627776:=by rw [← hd,List.length_drop]; omega
  rw [List.length_cons] at hl hk
  rw [K4d.eq_def]
  simp only
  rw [K4w hi,if_pos rfl,hx,bs,Int.toNat_natCast,K4v (by omega),K4v (by omega)]
  obtain ⟨M,h1,h2,h3,h4⟩:=ih (a.set i (k:Int)) (i + 1) (k + 1) (by rw [List.drop_set_of_lt (by omega)]; exact hd') (by simpa using ha) (by omega)
  have hMl:i < M.length:=by rw [h2,List.length_set]; exact hi
  have hMi:M[i]=(k:Int):=by
   have:=congrArg (fun l=>l[i]?) h3
   simp only [List.getElem?_take] at this
   rw [if_pos (by omega),if_pos (by omega),List.getElem?_eq_getElem hMl,List.getElem?_set_self hi] at this
   exact Option.some.inj this
  refine ⟨M,by rw [h1,List.length_cons]; congr 3; omega,by simpa using h2,?_,?_⟩
  ·have:=congrArg (List.take i) h3
   rw [List.take_take,List.take_take,Nat.min_eq_left (by omega),List.take_set_of_le (Nat.le_refl i)] at this
   exact this
  ·rw [List.drop_eq_getElem_cons hMl,h4,hMi,List.length_cons,List.range'_succ,List.map_cons]
theorem K5p (a:List Int) (k:Nat) (ha:a.length ≤ 1099511627776) (hk:k ≤ 1152921504606846976) :
  K4g (a,(k:Int))=some (((k + a.length:Nat):Int),(List.range' k a.length).map (fun n:Nat=>(n:Int))):=by
 unfold K4g
 simp only
 obtain ⟨M,h1,h2,h3,h4⟩:=K5o a a 0 k rfl ha (by omega)
 rw [List.drop_zero] at h4
 rw [show (0:Int)=((0:Nat):Int) from rfl,h1,bs,h4]
theorem K5q (m:Nat):∀ (n k i:Nat) (a:List Int),a.length ≤ 1099511627776→a.drop i=(List.range' k n).map (fun n:Nat=>(n:Int))→k + n ≤ 1152921504606846976 + 1099511627776→K4k (a,(k:Int),(i:Int))=some (.inl ((k + n:Nat):Int)):=by
 intro n
 induction n with
 | zero =>
  intro k i a ha hd hk
  rw [K4k.eq_def]
  simp only
  rw [K4x (K52 hd)]; rfl
 | succ n ih =>
  intro k i a ha hd hk
  rw [List.range'_succ,List.map_cons] at hd
  obtain ⟨hi,hx,hd'⟩:=K51 hd
  rw [K4k.eq_def]
  simp only
  rw [K4w hi,if_pos rfl,hx,bs,K4y,if_neg (by decide),K4v (by omega),K4v (by omega),ih (k + 1) (i + 1) a ha hd' (by omega)]
  congr 3; omega
theorem K5r (n k:Nat) (hn:n ≤ 1099511627776) (hk:k ≤ 1152921504606846976):K4n ((List.range' k n).map (fun n:Nat=>(n:Int)),(k:Int))=some ((k + n:Nat):Int):=by
 unfold K4n
 simp only
 rw [show (0:Int)=((0:Nat):Int) from rfl,K5q 0 n k 0 _ (by simpa using hn) (by rw [List.drop_zero]) (by omega),bs]
theorem K5s (b:Bool):(!(b == b))=false:=by cases b <;> rfl
theorem K5t {a:Int}:(a == a)=true:=by simp
def bt (l:List UInt8):ByteArray:=⟨l.toArray⟩
theorem K5u (l:List UInt8):(bt l).data.toList=l:=by simp [bt]
theorem K5v (l:List UInt8):(bt l).toList=l:=by rw [ByteArray.toList_eq,K5u]
theorem K5w (l:List UInt8):(bt l).size=l.length:=by simp [bt,ByteArray.size]
theorem K5x (a b:List UInt8):bt a ++ bt b=bt (a ++ b):=by
 apply ByteArray.ext
 rw [ByteArray.data_append]
 simp [bt]
theorem K5y (s:ByteArray):bt s.data.toList=s:=ByteArray.ext Array.toArray_toList
theorem K5z (s:ByteArray):s.size=s.data.toList.length:=Array.length_toList.symm
theorem K60 (n:Nat):Lib.decDigits n=if n < 10 then [UInt8.ofNat (48 + n)] else Lib.decDigits (n / 10) ++ [UInt8.ofNat (48 + n % 10)]:=by
 rw [Lib.decDigits]
 split <;> rfl
def K61 (b:UInt8):Bool:=decide (48 ≤ b.toNat) && decide (b.toNat ≤ 57)
theorem K62 (d:Nat) (h:d < 10):(UInt8.ofNat (48 + d)).toNat=48 + d:=by
 rw [UInt8.toNat_ofNat']; omega
theorem K63 (n:Nat):∀ b ∈ Lib.decDigits n,K61 b=true:=by
 induction n using Nat.strongRecOn with
 | ind n ih =>
  intro b hb
  rw [K60] at hb
  have one:∀ d,d < 10→K61 (UInt8.ofNat (48 + d))=true:=fun d hd=>by
   unfold K61; rw [K62 d hd]; simp; omega
  split at hb
  ·rw [List.mem_singleton] at hb; subst hb; exact one n (by assumption)
  ·rcases List.mem_append.1 hb with h | h
   ·exact ih (n / 10) (by omega) b h
   ·rw [List.mem_singleton] at h; subst h; exact one _ (by omega)
theorem K64 (n:Nat):Lib.decDigits n ≠ []:=by
 rw [K60]
 split <;> simp
theorem K65 (n:Nat):(n < 10→(Lib.decDigits n).length=1)∧(n < 100→(Lib.decDigits n).length ≤ 2)∧(n < 1000→(Lib.decDigits n).length ≤ 3):=by
 have h1:∀ n,n < 10→(Lib.decDigits n).length=1:=fun n h=>by rw [K60,if_pos h]; rfl
 have h2:∀ n,n < 100→(Lib.decDigits n).length ≤ 2:=fun n h=>by
  by_cases h':n < 10
  ·rw [h1 n h']; omega
  ·rw [K60,if_neg h',List.length_append,h1 (n / 10) (by omega)]; simp
 refine ⟨h1 n,h2 n,fun h=>?_⟩
 by_cases h':n < 10
 ·rw [h1 n h']; omega
 ·have:=h2 (n / 10) (by omega)
  rw [K60,if_neg h',List.length_append]; simp; omega
theorem K66 (d:Nat) (h:d < 10):Lib.digitVal (UInt8.ofNat (48 + d))=some d:=by
 unfold Lib.digitVal
 rw [K62 d h,if_pos (by omega)]
 congr 1; omega
theorem K67 (l:List UInt8) (b:UInt8):∀ acc,Lib.decFrom acc (l ++ [b])=(Lib.decFrom acc l).bind fun m=>(Lib.digitVal b).map fun d=>m * 10 + d:=by
 induction l with
 | nil =>
  intro acc
  simp only [List.nil_append,Lib.decFrom,Option.bind_some]
  cases Lib.digitVal b <;> rfl
 | cons a l ih =>
  intro acc
  simp only [List.cons_append,Lib.decFrom]
  cases Lib.digitVal a with
  | none=>rfl
  | some d=>exact ih _
theorem K68 (n:Nat):Lib.decFrom 0 (Lib.decDigits n)=some n:=by
 induction n using Nat.strongRecOn with
 | ind n ih =>
  rw [K60]
  split
  ·rename_i h
   simp only [Lib.decFrom,K66 n h]
   congr 1; omega
  ·rw [K67,ih (n / 10) (by omega),K66 _ (by omega)]
   simp only [Option.bind_some,Option.map_some,Option.some.injEq]
   omega
theorem K69 (n:Nat):Lib.decNat (Lib.decDigits n)=some n:=by
 unfold Lib.decNat
 have:=K64 n
 cases h:Lib.decDigits n with
 | nil=>exact absurd h this
 | cons a l=>rw [if_neg (by simp),← h,K68]
theorem K6a {n m:Nat} (h:Lib.decDigits n=Lib.decDigits m):n=m:=by
 have h1:=K69 n
 rw [h,K69] at h1
 exact (Option.some.inj h1).symm
theorem K6b {b:UInt8} {l:List UInt8} (h:K61 b=true):Lib.atoi (b :: l)=(Lib.decNat (b :: l)).map fun (m:Nat)=>(m:Int):=by
 unfold K61 at h
 simp only [Bool.and_eq_true,decide_eq_true_eq] at h
 have h1:(b == 45)=false:=by rw [beq_eq_false_iff_ne]; intro e; subst e; exact absurd h.1 (by decide)
 have h2:(b == 43)=false:=by rw [beq_eq_false_iff_ne]; intro e; subst e; exact absurd h.1 (by decide)
 unfold Lib.atoi
 simp only [h1,h2,Bool.false_eq_true,if_false]
theorem K6c (n:Nat):Lib.itoa (n:Int)=Lib.decDigits n:=by
 unfold Lib.itoa
 rw [if_neg (by omega),Int.toNat_natCast]
theorem K6d (d:Nat) (h:d < 10):strOfNums [IntKind.u8.wrap (wr (48 + (d:Int)))]=bt [UInt8.ofNat (48 + d)]:=by
 rw [K4t (by omega) (by omega)]
 have:IntKind.u8.wrap (48 + (d:Int))=((48 + d:Nat):Int):=by
  have hd:d=0∨d=1∨d=2∨d=3∨d=4∨d=5∨d=6∨d=7∨d=8∨d=9:=by omega
  rcases hd with rfl | rfl | rfl | rfl | rfl | rfl | rfl | rfl | rfl | rfl <;> rfl
 rw [this]
 rfl
theorem K6e (n:Nat) (h:n < 1000000):K1m (n:Int)=some (bt (Lib.decDigits n)):=by
 have len:∀ k,∀ n,n < 10 ^ k→(Lib.decDigits n).length ≤ k + 1:=by
  intro k
  induction k with
  | zero=>intro n h; rw [K60,if_pos (by omega)]; simp
  | succ k ih =>
   intro n h
   rw [K60]
   split
   ·simp
   ·have:=ih (n / 10) (by rw [Nat.pow_succ] at h; omega)
    rw [List.length_append]; simp; omega
 induction n using Nat.strongRecOn with
 | ind n ih =>
  rw [K1m.eq_def,K60]
  have e10:Int.tmod (n:Int) 10=((n % 10:Nat):Int):=by rw [Int.tmod_eq_emod_of_nonneg (by omega)]; omega
  have e11:Int.tdiv (n:Int) 10=((n / 10:Nat):Int):=by rw [Int.tdiv_eq_ediv_of_nonneg (by omega)]; omega
  by_cases h1:n < 10
  ·rw [decide_eq_false (by omega),if_neg (by decide),if_pos h1,e10,K6d _ (by omega),bs,Nat.mod_eq_of_lt h1]
  ·have l1:=len 6 (n / 10) (by omega)
   rw [decide_eq_true (by omega),if_pos rfl,if_neg h1,e11,K4t (by omega) (by omega),ih (n / 10) (by omega) (by omega),bs,e10,K6d _ (by omega)]
   unfold chk
   rw [if_pos (by rw [K5w,K5w]; simp; omega),bs,bs,K5x]
def gt (g:Int):List UInt8:=if g < 0 then [63] else Lib.decDigits g.toNat
theorem sGt (g:Int) (h:g < 1000):K1p g=some (bt (gt g)):=by
 unfold K1p gt
 by_cases h0:g < 0
 ·rw [decide_eq_true h0,if_pos rfl,if_pos h0]; rfl
 ·rw [decide_eq_false h0,if_neg (by decide),if_neg h0]
  obtain ⟨n,rfl⟩:∃ n:Nat,g=n:=⟨g.toNat,by omega⟩
  rw [K6e n (by omega),Int.toNat_natCast,bs]
theorem K6f (n:Nat):gt (n:Int)=Lib.decDigits n:=by unfold gt; rw [if_neg (by omega),Int.toNat_natCast]
theorem K6g:gt (-1)=[63]:=rfl
theorem K6h {g h:Int} (h1:-1 ≤ g) (h2:-1 ≤ h) (e:gt g=gt h):g=h:=by
 have q:∀ n:Nat,Lib.decDigits n ≠ [63]:=fun n e=>by
  have:=K63 n 63 (by rw [e]; simp)
  exact absurd this (by decide)
 unfold gt at e
 by_cases a:g < 0 <;> by_cases b:h < 0
 ·omega
 ·rw [if_pos a,if_neg b] at e; exact absurd e.symm (q _)
 ·rw [if_neg a,if_pos b] at e; exact absurd e (q _)
 ·rw [if_neg a,if_neg b] at e
  have:=K6a e
  omega
theorem K6i {g:Int}:∀ b ∈ gt g,b=63∨K61 b=true:=by
 intro b hb
 unfold gt at hb
 split at hb
 ·left; simpa using hb
 ·right; exact K63 _ b hb
abbrev tl (t:ByteArray):List UInt8:=t.data.toList
theorem K6j (t:ByteArray):(tl t).length=t.size:=(K5z t).symm
theorem K6k {t:ByteArray} {p:Nat} {b:UInt8} {R:List UInt8} (h:(tl t).drop p=b :: R):p < t.size∧(tl t).drop (p + 1)=R:=by
 obtain ⟨h1,_,h2⟩:=K51 h
 exact ⟨by rw [← K6j]; exact h1,h2⟩
theorem K6l {t:ByteArray} {p:Nat} {A R:List UInt8} (h:(tl t).drop p=A ++ R):p + A.length ≤ t.size∨A=[]:=by
 by_cases hA:A=[]
 ·exact .inr hA
 ·left
  have:((tl t).drop p).length=A.length + R.length:=by rw [h,List.length_append]
  rw [List.length_drop,K6j] at this
  have:A.length ≠ 0:=fun e=>hA (List.length_eq_zero_iff.1 e)
  omega
theorem K6m {t:ByteArray} {p:Nat} {A R:List UInt8} (h:(tl t).drop p=A ++ R):(tl t).drop (p + A.length)=R:=by
 rw [← List.drop_drop,h,List.drop_left]
theorem K6n {t:ByteArray} {p:Nat} {b:UInt8} {R:List UInt8} (h:(tl t).drop p=b :: R):Qft t (p:Int)=some (b.toNat:Int):=by
 obtain ⟨h1,_⟩:=K6k h
 unfold Qft
 rw [if_pos (by omega)]
 have e:=List.drop_eq_getElem_cons (l:=tl t) (i:=p) (by rw [K6j]; exact h1)
 rw [h] at e
 have e1:=(List.cons.inj e).1
 have:t.data.getD p 0=b:=by
  rw [Array.getD_eq_getD_getElem?,Array.getElem?_eq_getElem (h1:p < t.data.size)]
  simp only [Option.getD_some]
  rw [e1]
  exact (Array.getElem_toList _).symm
 rw [Int.toNat_natCast,this]
theorem K6o {t:ByteArray} {p q:Nat} (h:p ≤ q):(t.extract p q).data.toList=((tl t).drop p).take (q - p):=by
 rw [Lib.extract_data]
theorem K6p {t:ByteArray} {p:Nat} {A R:List UInt8} (hp:p ≤ t.size) (h:(tl t).drop p=A ++ R):Qev t (some (p:Int)) (some ((p + A.length:Nat):Int))=some (bt A):=by
 have hq:p + A.length ≤ t.size:=by
  rcases K6l h with h' | h'
  ·exact h'
  ·subst h'; simpa using hp
 unfold Qev
 simp only [Option.getD_some]
 rw [if_pos (by omega),Int.toNat_natCast,Int.toNat_natCast,← K5y (t.extract p (p + A.length)),K6o (by omega),h]
 congr 2
 rw [show p + A.length - p=A.length by omega,List.take_left]
theorem K6q {t:ByteArray} {p:Nat} (hp:p ≤ t.size):Qev t (some (p:Int)) none=some (bt ((tl t).drop p)):=by
 have:=K6p (t:=t) (p:=p) (A:=(tl t).drop p) (R:=[]) hp (by simp)
 have e:p + ((tl t).drop p).length=t.size:=by rw [List.length_drop,K6j]; omega
 rw [e] at this
 unfold Qev at this ⊢
 exact this
theorem K6r (s:List UInt8) (k:Nat) (h:k ≤ s.length):Qev (bt s) none (some (k:Int))=some (bt (s.take k)):=by
 have e:(tl (bt s)).drop 0=s.take k ++ s.drop k:=by rw [show tl (bt s)=s from K5u s,List.drop_zero,List.take_append_drop]
 have:=K6p (t:=bt s) (p:=0) (Nat.zero_le _) e
 rw [List.length_take,Nat.min_eq_left h,Nat.zero_add] at this
 unfold Qev at this ⊢
 exact this
theorem K6s (s w:List UInt8) (hs:s.length ≤ 1048576):K2x (bt s,bt w)=some (w.isPrefixOf s):=by
 unfold K2x K2u
 simp only
 rw [K5w,K5w]
 by_cases h:w.length ≤ s.length
 ·rw [decide_eq_true (by omega),if_pos rfl,K6r s _ h,bs,K5v,K5v]
  simp only [bs]
  congr 1
  rw [Bool.eq_iff_iff,beq_iff_eq,List.isPrefixOf_iff_prefix,List.prefix_iff_eq_take]
  exact ⟨fun e=>e.symm,fun e=>e.symm⟩
 ·rw [decide_eq_false (by omega),if_neg (by decide)]
  simp only [bs]
  congr 1
  symm
  rw [Bool.eq_false_iff]
  intro e
  have:=(List.isPrefixOf_iff_prefix.1 e).length_le
  omega
theorem K6t {t:ByteArray} {p:Nat} {l:Int} (w:List UInt8) (hp:p ≤ t.size) (ht:t.size ≤ 1048576) :
  K30 (⟨t,(p:Int),false,l⟩,bt w)=some (if w.isPrefixOf ((tl t).drop p) then (true,⟨t,((p + w.length:Nat):Int),false,l⟩) else (false,⟨t,(p:Int),false,l⟩)):=by
 unfold K30
 simp only [Bool.false_eq_true,if_false]
 rw [K6q hp,bs,K6s _ _ (by rw [List.length_drop,K6j]; omega),bs,bs]
 cases h:w.isPrefixOf ((tl t).drop p) with
 | false=>rfl
 | true =>
  have:=(List.isPrefixOf_iff_prefix.1 h).length_le
  rw [List.length_drop,K6j] at this
  rw [K5w,K4t (by omega) (by omega)]
  rfl
theorem K6u {t:ByteArray} {p:Nat} {l:Int} {w R:List UInt8} (h:(tl t).drop p=w ++ R) (hp:p ≤ t.size) (ht:t.size ≤ 1048576) :
  K30 (⟨t,(p:Int),false,l⟩,bt w)=some (true,⟨t,((p + w.length:Nat):Int),false,l⟩):=by
 rw [K6t w hp ht,if_pos (by rw [List.isPrefixOf_iff_prefix,h]; exact List.prefix_append _ _)]
theorem K6v {t:ByteArray} {p:Nat} {l:Int} {w:List UInt8} (h:¬ w <+: (tl t).drop p) (hp:p ≤ t.size) (ht:t.size ≤ 1048576) :
  K30 (⟨t,(p:Int),false,l⟩,bt w)=some (false,⟨t,(p:Int),false,l⟩):=by
 rw [K6t w hp ht,if_neg (by rw [List.isPrefixOf_iff_prefix]; exact h)]
theorem K6w {t:ByteArray} {p:Nat} {l:Int} {w R:List UInt8} (h:(tl t).drop p=w ++ R) (hp:p ≤ t.size) (ht:t.size ≤ 1048576) :
  K3d (⟨t,(p:Int),false,l⟩,bt w)=some ⟨t,((p + w.length:Nat):Int),false,l⟩:=by
 unfold K3d
 simp only
 rw [K6u h hp ht,bs]
 rfl
theorem K6x {t:ByteArray} {p:Nat} {l:Int} {w:List UInt8} (h:¬ w <+: (tl t).drop p) (hp:p ≤ t.size) (ht:t.size ≤ 1048576) :
  K3d (⟨t,(p:Int),false,l⟩,bt w)=some ⟨t,(p:Int),true,l⟩:=by
 unfold K3d
 simp only
 rw [K6v h hp ht,bs]
 rfl
theorem K6y {t:ByteArray} {p:Int} {l:Int} (w:ByteArray):K3d (⟨t,p,true,l⟩,w)=some ⟨t,p,true,l⟩:=rfl
def dgs:Nat→List UInt8→List UInt8
 | 0,_=>[]
 | _ + 1,[]=>[]
 | k + 1,b :: r=>if K61 b then b :: dgs k r else []
theorem K6z:∀ (k:Nat) (R:List UInt8),∃ S,R=dgs k R ++ S
 | 0,R=>⟨R,rfl⟩
 | _ + 1,[]=>⟨[],rfl⟩
 | k + 1,b :: r=>by
  unfold dgs
  split
  ·obtain ⟨S,h⟩:=K6z k r
   exact ⟨S,by rw [List.cons_append,← h]⟩
  ·exact ⟨_,rfl⟩
theorem K70:∀ (k:Nat) (R:List UInt8),(dgs k R).length ≤ k
 | 0,R=>Nat.le_refl _
 | _ + 1,[]=>Nat.zero_le _
 | k + 1,b :: r=>by
  unfold dgs
  split
  ·have:=K70 k r; simp; omega
  ·simp
theorem K71:∀ (k:Nat) (R:List UInt8),∀ b ∈ dgs k R,K61 b=true
 | 0,R,b,h=>by cases h
 | _ + 1,[],b,h=>by cases h
 | k + 1,c :: r,b,h=>by
  unfold dgs at h
  split at h
  ·rcases List.mem_cons.1 h with rfl | h
   ·assumption
   ·exact K71 k r b h
  ·cases h
theorem K72:∀ (d:List UInt8) (k:Nat) (R:List UInt8),(∀ b ∈ d,K61 b=true)→d.length ≤ k→(∀ b r,R=b :: r→K61 b=false)→dgs k (d ++ R)=d
 | [],k,R,_,_,h=>by
  cases k with
  | zero=>rfl
  | succ k =>
   cases R with
   | nil=>rfl
   | cons b r=>rw [List.nil_append,dgs,h b r rfl]; rfl
 | c :: d,0,R,_,hl,_=>by simp at hl
 | c :: d,k + 1,R,hd,hl,h=>by
  rw [List.cons_append,dgs,hd c List.mem_cons_self,if_pos rfl,K72 d k R (fun b hb=>hd b (List.mem_cons_of_mem _ hb)) (by simpa using hl) h]
theorem K73 {t:ByteArray} {p:Nat} {f:Bool} {l:Int} (hp:p ≤ t.size) (ht:t.size ≤ 1048576):∀ (k r:Nat),r + k=p + 3→r ≤ t.size→K34 (⟨t,(p:Int),f,l⟩,(r:Int))=some ((r + (dgs k ((tl t).drop r)).length:Nat):Int):=by
 intro k
 induction k with
 | zero =>
  intro r hr hs
  rw [K34.eq_def]
  simp only
  rw [K4t (x:=(p:Int) + 3) (by omega) (by omega),decide_eq_false (by omega:¬ (r:Int) < (p:Int) + 3)]
  simp only [Bool.false_eq_true,if_false]
  by_cases h:r < t.size
  ·rw [K4w h]; simp only [if_true,bs,dgs,List.length_nil,Nat.add_zero]; rfl
  ·rw [K4x (by omega)]; simp only [Bool.false_eq_true,if_false,bs,dgs,List.length_nil,Nat.add_zero]
 | succ k ih =>
  intro r hr hs
  rw [K34.eq_def]
  simp only
  rw [K4t (x:=(p:Int) + 3) (by omega) (by omega),decide_eq_true (by omega:(r:Int) < (p:Int) + 3)]
  cases hd:(tl t).drop r with
  | nil =>
   have:=K52 hd
   rw [K6j] at this
   rw [K4x this]; simp only [Bool.false_eq_true,if_false,bs,dgs,List.length_nil,Nat.add_zero]
  | cons b R =>
   obtain ⟨h1,h2⟩:=K6k hd
   rw [K4w h1]
   simp only [if_true]
   rw [K6n hd,bs]
   have e:(if decide ((b.toNat:Int) ≥ 48)=true then some b.toNat >>= fun e=>some (decide ((e:Int) ≤ 57)) else some false)=some (K61 b):=by
    unfold K61
    by_cases a:48 ≤ b.toNat
    ·rw [decide_eq_true (by omega:(b.toNat:Int) ≥ 48),if_pos rfl,bs,decide_eq_true a,Bool.true_and]
     congr 1
     rw [Bool.eq_iff_iff,decide_eq_true_eq,decide_eq_true_eq]; omega
    ·rw [decide_eq_false (by omega:¬ (b.toNat:Int) ≥ 48),if_neg (by decide),decide_eq_false a,Bool.false_and]
   by_cases a:48 ≤ b.toNat
   ·rw [decide_eq_true (by omega:(b.toNat:Int) ≥ 48)]
    simp only [if_true,bs]
    rw [dgs]
    have q:K61 b=decide ((b.toNat:Int) ≤ 57):=by
     unfold K61
     rw [decide_eq_true a,Bool.true_and,Bool.eq_iff_iff,decide_eq_true_eq,decide_eq_true_eq]; omega
    rw [q]
    cases hq:decide ((b.toNat:Int) ≤ 57) with
    | false=>simp
    | true =>
     rw [if_pos rfl,if_pos rfl,K4v (by omega),ih (r + 1) (by omega) (by omega),h2,List.length_cons]
     congr 1; omega
   ·rw [decide_eq_false (by omega:¬ (b.toNat:Int) ≥ 48)]
    have q:K61 b=false:=by unfold K61; rw [decide_eq_false a,Bool.false_and]
    simp only [Bool.false_eq_true,if_false,bs,dgs,q,List.length_nil,Nat.add_zero]
theorem K74:∀ (d:List UInt8) (acc n:Nat),Lib.decFrom acc d=some n→n < (acc + 1) * 10 ^ d.length
 | [],acc,n,h=>by simp [Lib.decFrom] at h; subst h; simp
 | b :: d,acc,n,h=>by
  simp only [Lib.decFrom] at h
  cases hv:Lib.digitVal b with
  | none=>rw [hv] at h; cases h
  | some v =>
   rw [hv] at h
   have:=K74 d _ n h
   have hv9:v ≤ 9:=by
    unfold Lib.digitVal at hv
    split at hv
    ·simp only [Option.some.injEq] at hv; omega
    ·cases hv
   rw [List.length_cons,Nat.pow_succ]
   calc n < (acc * 10 + v + 1) * 10 ^ d.length:=this
    _ ≤ ((acc + 1) * 10) * 10 ^ d.length:=Nat.mul_le_mul_right _ (by omega)
    _=(acc + 1) * (10 ^ d.length * 10):=by rw [Nat.mul_assoc,Nat.mul_comm 10]
theorem K75 {t:ByteArray} {p:Nat} {f:Bool} {l:Int} (hp:p ≤ t.size) (ht:t.size ≤ 1048576) :
  (∃ n:Nat,n ≤ 999∧dgs 3 ((tl t).drop p)=Lib.decDigits n∧K37 ⟨t,(p:Int),f,l⟩=some ((n:Int),⟨t,((p + (Lib.decDigits n).length:Nat):Int),f,l⟩)) ∨
  ((∀ n:Nat,dgs 3 ((tl t).drop p) ≠ Lib.decDigits n)∧K37 ⟨t,(p:Int),f,l⟩=some (0,⟨t,((p + (dgs 3 ((tl t).drop p)).length:Nat):Int),true,l⟩)):=by
 obtain ⟨S,hS⟩:=K6z 3 ((tl t).drop p)
 have hl:=K70 3 ((tl t).drop p)
 have hdg:=K71 3 ((tl t).drop p)
 have hc:=K6p hp hS
 have hr:=K73 (f:=f) (l:=l) hp ht 3 p rfl hp
 generalize dgs 3 ((tl t).drop p)=d at hS hl hdg hc hr ⊢
 unfold K37
 simp only
 rw [hr,bs,hc,bs]
 unfold Q92
 rw [if_pos (by rw [K5w]; omega),K5u]
 cases d with
 | nil =>
  right
  refine ⟨fun n e=>K64 n e.symm,?_⟩
  rfl
 | cons b r =>
  rw [K6b (hdg b List.mem_cons_self)]
  cases hn:Lib.decNat (b :: r) with
  | none =>
   right
   refine ⟨fun n e=>?_,rfl⟩
   rw [e,K69] at hn
   cases hn
  | some n =>
   have hb:n ≤ 999:=by
    have h0:Lib.decFrom 0 (b :: r)=some n:=by
     unfold Lib.decNat at hn
     rw [if_neg (by simp)] at hn
     exact hn
    have h1:=K74 _ _ _ h0
    have h2:10 ^ (b :: r).length ≤ 10 ^ 3:=Nat.pow_le_pow_right (by decide) hl
    simp only [Nat.zero_add,Nat.one_mul] at h1
    have:(10:Nat) ^ 3=1000:=rfl
    omega
   simp only [Option.map_some,bs,Bool.false_eq_true,if_false]
   unfold Q93
   rw [if_pos (by omega),bs,K6c]
   have e1:(({ data:=(Lib.decDigits n).toArray }:ByteArray).toList == (bt (b :: r)).toList)=(Lib.decDigits n == b :: r):=by
    rw [show ({ data:=(Lib.decDigits n).toArray }:ByteArray)=bt (Lib.decDigits n) from rfl,K5v,K5v]
   rw [e1]
   by_cases h:Lib.decDigits n=b :: r
   ·left
    refine ⟨n,hb,h.symm,?_⟩
    rw [h,beq_self_eq_true]
    rfl
   ·right
    refine ⟨fun m e=>?_,?_⟩
    ·rw [e,K69] at hn
     rw [Option.some.inj hn] at e
     exact h e.symm
    ·rw [show (Lib.decDigits n == b :: r)=false by rw [beq_eq_false_iff_ne]; exact h]
     rfl
def GR (s:UInt8) (R:List UInt8) (g:Int) (post:List UInt8):Prop:=-1 ≤ g∧g ≤ 15∧R=gt g ++ s :: post
theorem K76 {t:ByteArray} {p:Nat} {l:Int} {c:UInt8} {R:List UInt8} (h:(tl t).drop p=c :: R) (ht:t.size ≤ 1048576) :
  K30 (⟨t,(p:Int),false,l⟩,bt [c])=some (true,⟨t,((p + 1:Nat):Int),false,l⟩) :=
 K6u (w:=[c]) h (Nat.le_of_lt (K6k h).1) ht
theorem K77 {t:ByteArray} {p:Nat} {l:Int} {c:UInt8} (h:∀ R,(tl t).drop p ≠ c :: R) (hp:p ≤ t.size) (ht:t.size ≤ 1048576) :
  K30 (⟨t,(p:Int),false,l⟩,bt [c])=some (false,⟨t,(p:Int),false,l⟩) :=
 K6v (w:=[c]) (fun ⟨R,e⟩=>h R e.symm) hp ht
theorem K78 {t:ByteArray} {p:Nat} {l:Int} {c:UInt8} {R:List UInt8} (h:(tl t).drop p=c :: R) (ht:t.size ≤ 1048576) :
  K3d (⟨t,(p:Int),false,l⟩,bt [c])=some ⟨t,((p + 1:Nat):Int),false,l⟩ :=
 K6w (w:=[c]) h (Nat.le_of_lt (K6k h).1) ht
theorem K79 {t:ByteArray} {p:Nat} {l:Int} {c:UInt8} (h:∀ R,(tl t).drop p ≠ c :: R) (hp:p ≤ t.size) (ht:t.size ≤ 1048576) :
  K3d (⟨t,(p:Int),false,l⟩,bt [c])=some ⟨t,(p:Int),true,l⟩ :=
 K6x (w:=[c]) (fun ⟨R,e⟩=>h R e.symm) hp ht
theorem K7a {t:ByteArray} {p:Nat} {A R:List UInt8} (hp:p ≤ t.size) (h:(tl t).drop p=A ++ R):p + A.length ≤ t.size:=by
 rcases K6l h with h' | h'
 ·exact h'
 ·subst h'; simpa using hp
theorem K7b {t:ByteArray} {p:Nat} {l:Int} (hp:p ≤ t.size) (ht:t.size ≤ 1048576) :
  (∃ g R',-1 ≤ g∧g ≤ 15∧(tl t).drop p=gt g ++ R'∧K3a ⟨t,(p:Int),false,l⟩=some (g,⟨t,((p + (gt g).length:Nat):Int),false,l⟩) ∧
   ∀ s post h,-1 ≤ h→h ≤ 15→K61 s=false→(tl t).drop p=gt h ++ s :: post→h=g) ∨
  (∃ v q,q ≤ t.size∧K3a ⟨t,(p:Int),false,l⟩=some (v,⟨t,((q:Nat):Int),true,l⟩)∧∀ s post h,-1 ≤ h→h ≤ 15→K61 s=false→(tl t).drop p ≠ gt h ++ s :: post):=by
 unfold K3a
 simp only
 rw [show (ByteArray.mk #[63])=bt [63] from rfl]
 by_cases hq:∃ R,(tl t).drop p=63 :: R
 ·obtain ⟨R,hR⟩:=hq
  rw [K76 hR ht,bs,if_pos rfl]
  refine .inl ⟨-1,R,by omega,by omega,by rw [K6g]; exact hR,by rw [K6g]; rfl,fun s post h h1 h2 hs e=>?_⟩
  by_cases h0:h < 0
  ·omega
  ·exfalso
   have:=K63 h.toNat
   rw [hR] at e
   unfold gt at e
   rw [if_neg h0] at e
   cases hd:Lib.decDigits h.toNat with
   | nil=>exact K64 _ hd
   | cons b r =>
    rw [hd] at e this
    have e1:=(List.cons.inj e).1
    have:=this b List.mem_cons_self
    rw [← e1] at this
    exact absurd this (by decide)
 ·have hq:∀ R,(tl t).drop p ≠ 63 :: R:=fun R e=>hq ⟨R,e⟩
  rw [K77 hq hp ht,bs]
  simp only [Bool.false_eq_true,if_false]
  have hdig:∀ s post h,-1 ≤ h→h ≤ 15→K61 s=false→(tl t).drop p=gt h ++ s :: post→∃ n:Nat,h=n∧dgs 3 ((tl t).drop p)=Lib.decDigits n:=by
   intro s post h h1 h2 hs e
   by_cases h0:h < 0
   ·rw [show h=-1 by omega] at e; exact absurd e (hq _)
   ·refine ⟨h.toNat,by omega,?_⟩
    rw [e]
    unfold gt
    rw [if_neg h0]
    exact K72 _ _ _ (K63 _) (by have:=(K65 h.toNat).2.1 (by omega); omega) (fun b r hb=>by rw [← (List.cons.inj hb).1]; exact hs)
  rcases K75 (f:=false) (l:=l) hp ht with ⟨n,hn,hd,hr⟩ | ⟨hd,hr⟩
  ·rw [hr,bs]
   by_cases h16:n ≤ 15
   ·rw [decide_eq_false (by omega),if_neg (by decide),bs]
    obtain ⟨S,hS⟩:=K6z 3 ((tl t).drop p)
    rw [hd] at hS
    refine .inl ⟨(n:Int),S,by omega,by omega,by rw [K6f]; exact hS,by rw [K6f],fun s post h h1 h2 hs e=>?_⟩
    obtain ⟨m,rfl,hm⟩:=hdig s post h h1 h2 hs e
    rw [hd] at hm
    rw [K6a hm]
   ·rw [decide_eq_true (by omega),if_pos rfl,bs]
    obtain ⟨S,hS⟩:=K6z 3 ((tl t).drop p)
    rw [hd] at hS
    refine .inr ⟨_,_,K7a hp hS,rfl,fun s post h h1 h2 hs e=>?_⟩
    obtain ⟨m,rfl,hm⟩:=hdig s post h h1 h2 hs e
    rw [hd] at hm
    have:=K6a hm
    omega
  ·rw [hr,bs]
   simp only [show decide ((0:Int) ≥ 16)=false from rfl,Bool.false_eq_true,if_false,bs]
   obtain ⟨S,hS⟩:=K6z 3 ((tl t).drop p)
   refine .inr ⟨_,_,K7a hp hS,rfl,fun s post h h1 h2 hs e=>?_⟩
   obtain ⟨m,rfl,hm⟩:=hdig s post h h1 h2 hs e
   exact hd m hm
theorem K7c {t:ByteArray} {p:Nat} {l:Int} (c o:Int) (hc:0 ≤ c) (hc2:c ≤ 100) (hp:p ≤ t.size) (ht:t.size ≤ 1048576) :
  (∃ g post,GR 46 ((tl t).drop p) g post∧K3g (⟨t,(p:Int),false,l⟩,c,o)=some (if g < 0 then o else c + g,⟨t,((p + (gt g).length + 1:Nat):Int),false,l⟩)) ∨
  ((∀ g post,¬ GR 46 ((tl t).drop p) g post)∧∃ v q,q ≤ t.size∧K3g (⟨t,(p:Int),false,l⟩,c,o)=some (v,⟨t,((q:Nat):Int),true,l⟩)):=by
 unfold K3g
 simp only
 rw [show (ByteArray.mk #[46])=bt [46] from rfl]
 rcases K7b (l:=l) hp ht with ⟨g,R',h1,h2,hR,hr,hu⟩ | ⟨v,q,hq,hr,hn⟩
 ·rw [hr,bs]
  have hp2:=K7a hp hR
  have hd:=K6m hR
  by_cases h46:∃ post,R'=46 :: post
  ·obtain ⟨post,rfl⟩:=h46
   rw [K78 hd ht,bs]
   refine .inl ⟨g,post,⟨h1,h2,hR⟩,?_⟩
   by_cases h0:g < 0
   ·rw [decide_eq_true h0,if_pos rfl,if_pos h0]
   ·rw [decide_eq_false h0,if_neg (by decide),if_neg h0,K4t (by omega) (by omega)]
  ·have h46:∀ post,R' ≠ 46 :: post:=fun post e=>h46 ⟨post,e⟩
   rw [K79 (fun R=>by rw [hd]; exact h46 R) hp2 ht,bs]
   refine .inr ⟨fun h post ⟨a1,a2,a3⟩=>?_,?_⟩
   ·have e:=hu 46 post h a1 a2 (by decide) a3
    subst e
    rw [hR] at a3
    exact h46 post (List.append_cancel_left a3)
   ·by_cases h0:g < 0
    ·rw [decide_eq_true h0,if_pos rfl]; exact ⟨_,_,hp2,rfl⟩
    ·rw [decide_eq_false h0,if_neg (by decide)]; exact ⟨_,_,hp2,rfl⟩
 ·rw [hr,bs,K6y,bs]
  refine .inr ⟨fun h post ⟨a1,a2,a3⟩=>hn 46 post h a1 a2 (by decide) a3,?_⟩
  by_cases h0:v < 0
  ·rw [decide_eq_true h0,if_pos rfl]; exact ⟨_,_,hq,rfl⟩
  ·rw [decide_eq_false h0,if_neg (by decide)]; exact ⟨_,_,hq,rfl⟩
theorem K7d {t:ByteArray} (s:UInt8) (a:Int) (ht:t.size ≤ 1048576):∀ (R:List UInt8) (e:Nat),e ≤ t.size→(tl t).drop e=R→K1t (t,a,(s.toNat:Int),(e:Int))=some ((e + (R.takeWhile (· != s)).length:Nat):Int):=by
 intro R
 induction R with
 | nil =>
  intro e he hd
  have:=K52 hd
  rw [K6j] at this
  rw [K1t.eq_def]
  simp only
  rw [K4x this]
  rfl
 | cons b R ih =>
  intro e he hd
  obtain ⟨h1,h2⟩:=K6k hd
  rw [K1t.eq_def]
  simp only
  rw [K4w h1,if_pos rfl,K6n hd,bs,bs]
  have hb:((b.toNat:Int) != (s.toNat:Int))=(b != s):=by
   rw [Bool.eq_iff_iff,bne_iff_ne,bne_iff_ne]
   refine not_congr ⟨fun e=>UInt8.toNat_inj.1 (by omega),fun e=>by rw [e]⟩
  rw [hb,List.takeWhile_cons]
  cases b != s with
  | false=>simp
  | true =>
   rw [if_pos rfl,if_pos rfl,K4v (by omega),ih (e + 1) (by omega) h2,List.length_cons]
   congr 1; omega
theorem K7e {t:ByteArray} {p:Nat} {A S:List UInt8} (hp:p ≤ t.size) (ht:t.size ≤ 1048576) (hR:(tl t).drop p=A ++ S):∀ (k:Nat) (g:Int),g + k=16→-1 ≤ g →
  (∃ h,g ≤ h∧h ≤ 15∧gt h=A∧K1x (t,(p:Int),((p + A.length:Nat):Int),g)=some (.inr (h,((p + A.length + 1:Nat):Int)))) ∨
  ((∀ h,g ≤ h→h ≤ 15→gt h ≠ A)∧K1x (t,(p:Int),((p + A.length:Nat):Int),g)=some (.inl ())):=by
 have hle:=K7a hp hR
 intro k
 induction k with
 | zero =>
  intro g hg h1
  rw [K1x.eq_def]
  simp only
  rw [decide_eq_false (by omega),if_neg (by decide)]
  exact .inr ⟨fun h a b=>by omega,rfl⟩
 | succ k ih =>
  intro g hg h1
  rw [K1x.eq_def]
  simp only
  rw [decide_eq_true (by omega),if_pos rfl,K6p hp hR,bs,sGt g (by omega),bs,K5v,K5v]
  by_cases e:A=gt g
  ·rw [show (A == gt g)=true by rw [beq_iff_eq]; exact e,if_pos rfl,K4v (by omega)]
   exact .inl ⟨g,by omega,by omega,e.symm,rfl⟩
  ·rw [show (A == gt g)=false by rw [beq_eq_false_iff_ne]; exact e,if_neg (by decide),K4t (by omega) (by omega)]
   rcases ih (g + 1) (by omega) (by omega) with ⟨h,a1,a2,a3,a4⟩ | ⟨a1,a2⟩
   ·exact .inl ⟨h,by omega,a2,a3,a4⟩
   ·refine .inr ⟨fun h b1 b2=>?_,a2⟩
    by_cases hh:h=g
    ·subst hh; exact fun e'=>e e'.symm
    ·exact a1 h (by omega) b2
theorem K7f (s:UInt8):∀ (R:List UInt8),R=R.takeWhile (· != s) ++ R.dropWhile (· != s):=fun R=>(List.takeWhile_append_dropWhile).symm
theorem K7g {s:UInt8} (hs:K61 s=false) (h63:s ≠ 63) {g:Int} {post:List UInt8}:(gt g ++ s :: post).takeWhile (· != s)=gt g:=by
 have:∀ A:List UInt8,(∀ b ∈ A,(b != s)=true)→(A ++ s :: post).takeWhile (· != s)=A:=by
  intro A
  induction A with
  | nil=>intro _; simp
  | cons a A ih=>intro h; rw [List.cons_append,List.takeWhile_cons,h a List.mem_cons_self,if_pos rfl,ih (fun b hb=>h b (List.mem_cons_of_mem _ hb))]
 refine this _ fun b hb=>?_
 rw [bne_iff_ne]
 rintro rfl
 rcases K6i b hb with h | h
 ·exact h63 h
 ·rw [h] at hs; cases hs
theorem K7h {s:UInt8} (hs:K61 s=false) (h63:s ≠ 63) {R:List UInt8} {g h:Int} {P Q:List UInt8} (a:GR s R g P) (b:GR s R h Q):g=h∧P=Q:=by
 obtain ⟨a1,a2,a3⟩:=a
 obtain ⟨b1,b2,b3⟩:=b
 have e:gt g=gt h:=by rw [← K7g hs h63 (g:=g) (post:=P),← a3,b3,K7g hs h63]
 have:=K6h a1 b1 e
 subst this
 rw [a3] at b3
 exact ⟨rfl,(List.cons.inj (List.append_cancel_left b3)).2⟩
theorem K7i {t:ByteArray} {p:Nat} (s:UInt8) (hs:K61 s=false) (h63:s ≠ 63) (hp:p ≤ t.size) (ht:t.size ≤ 1048576) :
  (∃ g post,GR s ((tl t).drop p) g post∧K20 (t,(p:Int),(s.toNat:Int))=some (g,((p + (gt g).length + 1:Nat):Int))) ∨
  ((∀ g post,¬ GR s ((tl t).drop p) g post)∧∃ e,K20 (t,(p:Int),(s.toNat:Int))=some (-2,e)):=by
 unfold K20
 simp only
 rw [K7d s _ ht _ p hp rfl,bs]
 have hsp:=K7f s ((tl t).drop p)
 have hle:=K7a hp hsp
 have hno:∀ g post,GR s ((tl t).drop p) g post→gt g=((tl t).drop p).takeWhile (· != s)∧((tl t).drop p).dropWhile (· != s)=s :: post:=by
  intro g post ⟨a1,a2,a3⟩
  have e:((tl t).drop p).takeWhile (· != s)=gt g:=by rw [a3]; exact K7g hs h63
  rw [e] at hsp
  refine ⟨e.symm,?_⟩
  have:=hsp.symm.trans a3
  exact List.append_cancel_left this
 cases hD:((tl t).drop p).dropWhile (· != s) with
 | nil =>
  rw [hD,List.append_nil] at hsp
  have e:p + (((tl t).drop p).takeWhile (· != s)).length=t.size:=by rw [← hsp,List.length_drop,K6j]; omega
  rw [e,beq_self_eq_true,if_pos rfl]
  refine .inr ⟨fun g post h=>?_,_,rfl⟩
  have:=(hno g post h).2
  rw [hD] at this
  cases this
 | cons b post =>
  have hb:b=s:=by
   have:=List.head_dropWhile_not (p:=(· != s)) (l:=(tl t).drop p) (by rw [hD]; simp)
   simp only [hD,List.head_cons] at this
   simpa using this
  subst hb
  rw [hD] at hsp
  have hlt:p + (((tl t).drop p).takeWhile (· != b)).length < t.size:=by
   have h2:=K6m hsp
   exact (K6k h2).1
  rw [show (((p + (((tl t).drop p).takeWhile (· != b)).length:Nat):Int) == (t.size:Int))=false by rw [beq_eq_false_iff_ne]; omega,if_neg (by decide)]
  rcases K7e hp ht hsp 17 (-1) (by omega) (by omega) with ⟨h,a1,a2,a3,a4⟩ | ⟨a1,a2⟩
  ·rw [a4,bs]
   refine .inl ⟨h,post,⟨a1,a2,by rw [a3]; exact hsp⟩,?_⟩
   rw [a3]
  ·rw [a2,bs]
   exact .inr ⟨fun g P h=>a1 g h.1 h.2.1 (hno g P h).1,_,rfl⟩
def CR (R:List UInt8) (c:Int) (post:List UInt8):Prop :=
 (R=110 :: post∧c=0)∨(R=42 :: post∧c=1)∨(R=43 :: post∧c=2)∨(∃ R1 g,R=62 :: R1∧GR 46 R1 g post∧c=if g < 0 then 35 else 3 + g)∨(∃ R1 g,R=33 :: R1∧GR 46 R1 g post∧c=if g < 0 then 36 else 19 + g)
theorem K7j {R:List UInt8} {c d:Int} {P Q:List UInt8} (a:CR R c P) (b:CR R d Q):c=d∧P=Q:=by
 rcases a with ⟨h1,h2⟩ | ⟨h1,h2⟩ | ⟨h1,h2⟩ | ⟨R1,g,h1,h2,h3⟩ | ⟨R1,g,h1,h2,h3⟩ <;> rcases b with ⟨k1,k2⟩ | ⟨k1,k2⟩ | ⟨k1,k2⟩ | ⟨R2,h,k1,k2,k3⟩ | ⟨R2,h,k1,k2,k3⟩ <;> rw [h1] at k1 <;>
  first
  | exact absurd (List.cons.inj k1).1 (by decide)
  | exact ⟨h2.trans k2.symm,(List.cons.inj k1).2⟩
  | (rw [← (List.cons.inj k1).2] at k2; obtain ⟨e1,e2⟩:=K7h (by decide) (by decide) h2 k2; subst e1; exact ⟨h3.trans k3.symm,e2⟩)
theorem K7k {R:List UInt8} {c:Int} {P:List UInt8} (a:CR R c P):0 ≤ K55 c∧K55 c ≤ 2:=by
 rcases a with ⟨_,h⟩ | ⟨_,h⟩ | ⟨_,h⟩ | ⟨R1,g,_,h2,h⟩ | ⟨R1,g,_,h2,h⟩
 ·subst h; decide
 ·subst h; decide
 ·subst h; decide
 ·obtain ⟨a1,a2,_⟩:=h2
  split at h <;> rcases K59 c with q | q | q | q <;> omega
 ·obtain ⟨a1,a2,_⟩:=h2
  split at h <;> rcases K59 c with q | q | q | q <;> omega
theorem K7l {g:Int} (h1:-1 ≤ g) (h2:g ≤ 15):K55 (if g < 0 then 35 else 3 + g)=2:=by
 split
 ·rfl
 ·rcases K59 (3 + g) with q | q | q | q <;> omega
theorem K7m {g:Int} (h1:-1 ≤ g) (h2:g ≤ 15):K55 (if g < 0 then 36 else 19 + g)=1:=by
 split
 ·rfl
 ·rcases K59 (19 + g) with q | q | q | q <;> omega
theorem K7n {R:List UInt8} {c:Int} {P:List UInt8} (a:CR R c P):∃ A,A ≠ []∧R=A ++ P:=by
 rcases a with ⟨h,_⟩ | ⟨h,_⟩ | ⟨h,_⟩ | ⟨R1,g,h,h2,_⟩ | ⟨R1,g,h,h2,_⟩
 ·exact ⟨[110],by simp,h⟩
 ·exact ⟨[42],by simp,h⟩
 ·exact ⟨[43],by simp,h⟩
 ·obtain ⟨_,_,e⟩:=h2; exact ⟨62 :: (gt g ++ [46]),by simp,by rw [h,e]; simp⟩
 ·obtain ⟨_,_,e⟩:=h2; exact ⟨33 :: (gt g ++ [46]),by simp,by rw [h,e]; simp⟩
theorem K7o (b:Bool) {g:Int} (h1:-1 ≤ g) (h2:g ≤ 15):K23 (b,g)=some (if b then (if g < 0 then 35 else 3 + g) else (if g < 0 then 36 else 19 + g)):=by
 unfold K23
 cases b <;> by_cases h:g < 0 <;> simp [h,bs] <;> rw [K4t (by omega) (by omega)]
theorem K7p {t:ByteArray} {p:Nat} {A P:List UInt8} (hp:p ≤ t.size) (h:(tl t).drop p=A ++ P):p + A.length=t.size - P.length:=by
 have:((tl t).drop p).length=A.length + P.length:=by rw [h,List.length_append]
 rw [List.length_drop,K6j] at this
 omega
theorem K7q {t:ByteArray} {p:Nat} {out:List Int} {m:Int} (ht:t.size ≤ 1048576) (hp:p ≤ t.size) (hm:0 < m) (hm2:m ≤ 1000) (hl:out.length < 40) :
  (∃ c post,CR ((tl t).drop p) c post∧K2l (t,(p:Int),out,m)=K2l (t,((t.size - post.length:Nat):Int),out ++ [c],m - 1 + K55 c)) ∨
  ((∀ c post,¬ CR ((tl t).drop p) c post)∧K2l (t,(p:Int),out,m)=some (.inr ([],-1))):=by
 rw [K2l.eq_def]
 simp only
 rw [decide_eq_true hm,if_pos rfl]
 cases hR:(tl t).drop p with
 | nil =>
  have:=K52 hR
  rw [K6j] at this
  rw [decide_eq_true (by omega:(p:Int) ≥ (t.size:Int))]
  refine .inr ⟨fun c post h=>?_,rfl⟩
  obtain ⟨A,hA,e⟩:=K7n h
  exact hA (List.append_eq_nil_iff.1 e.symm).1
 | cons b R =>
  obtain ⟨h1,h2⟩:=K6k hR
  rw [decide_eq_false (by omega:¬ (p:Int) ≥ (t.size:Int)),decide_eq_false (by omega:¬ (out.length:Int) ≥ 40)]
  simp only [Bool.false_eq_true,if_false,bs]
  rw [K6n hR,bs]
  have fin:∀ (q:Nat) (c:Int) (post:List UInt8),CR (b :: R) c post→q=t.size - post.length →
    (Qey (out.length + [c].length) 8 >>= fun _=>K2f c >>= fun r=>K2l (t,(q:Int),out ++ [c],wr (wr (m - 1) + r)))=K2l (t,((t.size - post.length:Nat):Int),out ++ [c],m - 1 + K55 c):=by
   intro q c post hc hq
   have:=K7k hc
   rw [K5n (by simp; omega),bs,K58,bs,K4t (x:=m - 1) (by omega) (by omega),K4t (by omega) (by omega),hq]
  have hpe:p + 1=t.size - R.length:=K7p (A:=[b]) hp hR
  by_cases e1:b=110
  ·subst e1
   refine .inl ⟨0,R,.inl ⟨rfl,rfl⟩,?_⟩
   rw [show (((110:UInt8).toNat:Int) == 110)=true from rfl]
   simp only [if_true,bs]
   rw [K4v (by omega)]
   exact fin _ _ _ (.inl ⟨rfl,rfl⟩) hpe
  ·have n1:((b.toNat:Int) == 110)=false:=by rw [beq_eq_false_iff_ne]; intro e; exact e1 (UInt8.toNat_inj.1 (by rw [show (110:UInt8).toNat=110 from rfl]; omega))
   rw [n1]
   simp only [Bool.false_eq_true,if_false]
   by_cases e2:b=42
   ·subst e2
    refine .inl ⟨1,R,.inr (.inl ⟨rfl,rfl⟩),?_⟩
    simp only [show (((42:UInt8).toNat:Int) == 42)=true from rfl,if_true,bs,K6n hR,show (((42:UInt8).toNat:Int) == 43)=false from rfl,Bool.false_eq_true,if_false]
    rw [K4v (by omega)]
    exact fin _ _ _ (.inr (.inl ⟨rfl,rfl⟩)) hpe
   ·have n2:((b.toNat:Int) == 42)=false:=by rw [beq_eq_false_iff_ne]; intro e; exact e2 (UInt8.toNat_inj.1 (by rw [show (42:UInt8).toNat=42 from rfl]; omega))
    rw [n2]
    simp only [Bool.false_eq_true,if_false]
    by_cases e3:b=43
    ·subst e3
     refine .inl ⟨2,R,.inr (.inr (.inl ⟨rfl,rfl⟩)),?_⟩
     simp only [show (((43:UInt8).toNat:Int) == 43)=true from rfl,if_true,bs,K6n hR]
     rw [K4v (by omega)]
     exact fin _ _ _ (.inr (.inr (.inl ⟨rfl,rfl⟩))) hpe
    ·have n3:((b.toNat:Int) == 43)=false:=by rw [beq_eq_false_iff_ne]; intro e; exact e3 (UInt8.toNat_inj.1 (by rw [show (43:UInt8).toNat=43 from rfl]; omega))
     rw [n3]
     simp only [Bool.false_eq_true,if_false,bs]
     by_cases e45:b=62∨b=33
     ·have q45:((if ((b.toNat:Int) == 62)=true then some ((b.toNat:Int) == 62) else some ((b.toNat:Int) == 33)):Option Bool)=some true:=by
       rcases e45 with rfl | rfl <;> rfl
      rw [q45,bs]
      simp only [if_true]
      rw [K4v (by omega)]
      have hr:=K7i (t:=t) (p:=p + 1) 46 (by decide) (by decide) (by omega) ht
      rw [show (((46:UInt8).toNat:Int))=46 from rfl,h2] at hr
      rcases hr with ⟨g,post,hg,hs⟩ | ⟨hg,e,hs⟩
      ·rw [hs,bs]
       have hg':=hg
       obtain ⟨a1,a2,a3⟩:=hg'
       rw [decide_eq_false (by omega:¬ g < -1)]
       simp only [Bool.false_eq_true,if_false,K6n hR,bs]
       rw [K7o _ a1 a2,bs,bs,bs]
       have hq:p + 1 + (gt g).length + 1=t.size - post.length:=by
        have:=K7p (A:=b :: (gt g ++ [46])) (P:=post) hp (by rw [hR,a3]; simp)
        simp at this; omega
       rcases e45 with rfl | rfl
       ·have hc:CR (62 :: R) (if g < 0 then 35 else 3 + g) post:=.inr (.inr (.inr (.inl ⟨R,g,rfl,hg,rfl⟩)))
        exact .inl ⟨_,post,hc,fin _ _ _ hc hq⟩
       ·have hc:CR (33 :: R) (if g < 0 then 36 else 19 + g) post:=.inr (.inr (.inr (.inr ⟨R,g,rfl,hg,rfl⟩)))
        exact .inl ⟨_,post,hc,fin _ _ _ hc hq⟩
      ·rw [hs,bs]
       refine .inr ⟨fun c post h=>?_,rfl⟩
       rcases h with ⟨h,_⟩ | ⟨h,_⟩ | ⟨h,_⟩ | ⟨R1,g,h,h2,_⟩ | ⟨R1,g,h,h2,_⟩
       ·exact e1 (List.cons.inj h).1
       ·exact e2 (List.cons.inj h).1
       ·exact e3 (List.cons.inj h).1
       ·rw [← (List.cons.inj h).2] at h2; exact hg _ _ h2
       ·rw [← (List.cons.inj h).2] at h2; exact hg _ _ h2
     ·have q4:((b.toNat:Int) == 62)=false:=by rw [beq_eq_false_iff_ne]; intro e; exact e45 (.inl (UInt8.toNat_inj.1 (by rw [show (62:UInt8).toNat=62 from rfl]; omega)))
      have q5:((b.toNat:Int) == 33)=false:=by rw [beq_eq_false_iff_ne]; intro e; exact e45 (.inr (UInt8.toNat_inj.1 (by rw [show (33:UInt8).toNat=33 from rfl]; omega)))
      simp only [q4,q5,Bool.false_eq_true,if_false,bs]
      refine .inr ⟨fun c post h=>?_,trivial⟩
      rcases h with ⟨h,_⟩ | ⟨h,_⟩ | ⟨h,_⟩ | ⟨R1,g,h,h2,_⟩ | ⟨R1,g,h,h2,_⟩
      ·exact e1 (List.cons.inj h).1
      ·exact e2 (List.cons.inj h).1
      ·exact e3 (List.cons.inj h).1
      ·exact e45 (.inl (List.cons.inj h).1)
      ·exact e45 (.inr (List.cons.inj h).1)
theorem K7r {t:ByteArray} {q:Int} {l:Int} {out:List Int} {m:Int}:K3k (t,q,true,l,out,m)=some (out,t,q,true,l):=by
 rw [K3k.eq_def]
 simp only
 cases decide (m > 0) <;> rfl
theorem K7s {t:ByteArray} {p:Nat} {l:Int} {out:List Int} {m:Int} (ht:t.size ≤ 1048576) (hp:p ≤ t.size) (hm:0 < m) (hm2:m ≤ 1000) (hl:out.length ≤ 40) :
  (∃ c post,CR ((tl t).drop p) c post∧K3k (t,(p:Int),false,l,out,m)=K3k (t,((t.size - post.length:Nat):Int),false,l,out ++ [c],m - 1 + K55 c)) ∨
  ((∀ c post,¬ CR ((tl t).drop p) c post)∧∃ out' q,q ≤ t.size∧out'.length ≤ 41∧K3k (t,(p:Int),false,l,out,m)=some (out',t,((q:Nat):Int),true,l)):=by
 rw [K3k.eq_def]
 simp only
 rw [decide_eq_true hm]
 simp only [if_true,Bool.false_eq_true,if_false,bs]
 rw [decide_eq_true (by omega:(out.length:Int) ≤ 40)]
 simp only [if_true]
 rw [show (ByteArray.mk #[110])=bt [110] from rfl,show (ByteArray.mk #[42])=bt [42] from rfl,show (ByteArray.mk #[43])=bt [43] from rfl,show (ByteArray.mk #[62])=bt [62] from rfl,show (ByteArray.mk #[33])=bt [33] from rfl]
 have hf:∀ {α:Type} (c:α),Qey (out.length + [c].length) 8=some ():=fun c=>K5n (by simp; omega)
 by_cases e1:∃ R,(tl t).drop p=110 :: R
 ·obtain ⟨R,hR⟩:=e1
  have hpe:p + 1=t.size - R.length:=K7p (A:=[110]) hp hR
  rw [K76 hR ht,bs]
  simp only [if_true]
  rw [hf]
  simp only [bs]
  refine .inl ⟨0,R,.inl ⟨hR,rfl⟩,?_⟩
  rw [K4t (by omega) (by omega),hpe,show m - 1 + K55 0=m - 1 from Int.add_zero _]
 ·have e1:∀ R,(tl t).drop p ≠ 110 :: R:=fun R h=>e1 ⟨R,h⟩
  rw [K77 e1 hp ht,bs]
  simp only [Bool.false_eq_true,if_false]
  by_cases e2:∃ R,(tl t).drop p=42 :: R
  ·obtain ⟨R,hR⟩:=e2
   have hpe:p + 1=t.size - R.length:=K7p (A:=[42]) hp hR
   rw [K76 hR ht,bs]
   simp only [if_true]
   rw [hf]
   simp only [bs]
   refine .inl ⟨1,R,.inr (.inl ⟨hR,rfl⟩),?_⟩
   rw [K4t (x:=m + 2) (by omega) (by omega),K4t (by omega) (by omega),hpe,show K55 1=2 from rfl,show m + 2 - 1=m - 1 + 2 by omega]
  ·have e2:∀ R,(tl t).drop p ≠ 42 :: R:=fun R h=>e2 ⟨R,h⟩
   rw [K77 e2 hp ht,bs]
   simp only [Bool.false_eq_true,if_false]
   by_cases e3:∃ R,(tl t).drop p=43 :: R
   ·obtain ⟨R,hR⟩:=e3
    have hpe:p + 1=t.size - R.length:=K7p (A:=[43]) hp hR
    rw [K76 hR ht,bs]
    simp only [if_true]
    rw [hf]
    simp only [bs]
    refine .inl ⟨2,R,.inr (.inr (.inl ⟨hR,rfl⟩)),?_⟩
    rw [K4t (x:=m + 2) (by omega) (by omega),K4t (by omega) (by omega),hpe,show K55 2=2 from rfl,show m + 2 - 1=m - 1 + 2 by omega]
   ·have e3:∀ R,(tl t).drop p ≠ 43 :: R:=fun R h=>e3 ⟨R,h⟩
    rw [K77 e3 hp ht,bs]
    simp only [Bool.false_eq_true,if_false]
    by_cases e4:∃ R,(tl t).drop p=62 :: R
    ·obtain ⟨R,hR⟩:=e4
     have hpe:p + 1=t.size - R.length:=K7p (A:=[62]) hp hR
     have h2:=(K6k hR)
     rw [K76 hR ht,bs]
     simp only [if_true]
     have hc:=K7c (t:=t) (p:=p + 1) (l:=l) 3 35 (by decide) (by decide) h2.1 ht
     rw [h2.2] at hc
     rcases hc with ⟨g,post,hg,hr⟩ | ⟨hg,v,q,hq,hr⟩
     ·rw [hr,bs]
      simp only
      rw [hf]
      simp only [bs]
      have hg':=hg
      obtain ⟨a1,a2,a3⟩:=hg'
      refine .inl ⟨_,post,.inr (.inr (.inr (.inl ⟨R,g,hR,hg,rfl⟩))),?_⟩
      have hq:p + 1 + (gt g).length + 1=t.size - post.length:=by
       have:=K7p (A:=62 :: (gt g ++ [46])) (P:=post) hp (by rw [hR,a3]; simp)
       simp at this; omega
      rw [K7l a1 a2,K4t (x:=m + 2) (by omega) (by omega),K4t (by omega) (by omega),hq,show m + 2 - 1=m - 1 + 2 by omega]
     ·rw [hr,bs]
      simp only
      rw [hf]
      simp only [bs]
      rw [K7r]
      refine .inr ⟨fun c post h=>?_,_,q,hq,by simp; omega,rfl⟩
      rcases h with ⟨h,_⟩ | ⟨h,_⟩ | ⟨h,_⟩ | ⟨R1,g,h,h2,_⟩ | ⟨R1,g,h,h2,_⟩
      ·exact e1 _ h
      ·exact e2 _ h
      ·exact e3 _ h
      ·rw [hR] at h; rw [← (List.cons.inj h).2] at h2; exact hg _ _ h2
      ·rw [hR] at h; exact absurd (List.cons.inj h).1 (by decide)
    ·have e4:∀ R,(tl t).drop p ≠ 62 :: R:=fun R h=>e4 ⟨R,h⟩
     rw [K77 e4 hp ht,bs]
     simp only [Bool.false_eq_true,if_false]
     by_cases e5:∃ R,(tl t).drop p=33 :: R
     ·obtain ⟨R,hR⟩:=e5
      have h2:=(K6k hR)
      rw [K76 hR ht,bs]
      simp only [if_true]
      have hc:=K7c (t:=t) (p:=p + 1) (l:=l) 19 36 (by decide) (by decide) h2.1 ht
      rw [h2.2] at hc
      rcases hc with ⟨g,post,hg,hr⟩ | ⟨hg,v,q,hq,hr⟩
      ·rw [hr,bs]
       simp only
       rw [hf]
       simp only [bs]
       have hg':=hg
       obtain ⟨a1,a2,a3⟩:=hg'
       refine .inl ⟨_,post,.inr (.inr (.inr (.inr ⟨R,g,hR,hg,rfl⟩))),?_⟩
       have hq:p + 1 + (gt g).length + 1=t.size - post.length:=by
        have:=K7p (A:=33 :: (gt g ++ [46])) (P:=post) hp (by rw [hR,a3]; simp)
        simp at this; omega
       rw [K7m a1 a2,K4t (x:=m + 1) (by omega) (by omega),K4t (by omega) (by omega),hq,show m + 1 - 1=m - 1 + 1 by omega]
      ·rw [hr,bs]
       simp only
       rw [hf]
       simp only [bs]
       rw [K7r]
       refine .inr ⟨fun c post h=>?_,_,q,hq,by simp; omega,rfl⟩
       rcases h with ⟨h,_⟩ | ⟨h,_⟩ | ⟨h,_⟩ | ⟨R1,g,h,h2,_⟩ | ⟨R1,g,h,h2,_⟩
       ·exact e1 _ h
       ·exact e2 _ h
       ·exact e3 _ h
       ·exact e4 _ h
       ·rw [hR] at h; rw [← (List.cons.inj h).2] at h2; exact hg _ _ h2
     ·have e5:∀ R,(tl t).drop p ≠ 33 :: R:=fun R h=>e5 ⟨R,h⟩
      rw [K77 e5 hp ht,bs]
      simp only [Bool.false_eq_true,if_false,bs]
      rw [K7r]
      refine .inr ⟨fun c post h=>?_,_,p,hp,by omega,rfl⟩
      rcases h with ⟨h,_⟩ | ⟨h,_⟩ | ⟨h,_⟩ | ⟨R1,g,h,h2,_⟩ | ⟨R1,g,h,h2,_⟩
      ·exact e1 _ h
      ·exact e2 _ h
      ·exact e3 _ h
      ·exact e4 _ h
      ·exact e5 _ h
theorem K7t {t:ByteArray} {p:Int} {out:List Int} {m:Int} (hm:0 < m) (hl:40 ≤ out.length):K2l (t,p,out,m)=some (.inr ([],-1)):=by
 rw [K2l.eq_def]
 simp only
 rw [decide_eq_true hm,if_pos rfl,decide_eq_true (by omega:(out.length:Int) ≥ 40)]
 cases decide (p ≥ (t.size:Int)) <;> rfl
theorem K7u {t:ByteArray} {p:Int} {l:Int} {out:List Int} {m:Int} (hl:41 ≤ out.length):K3k (t,p,false,l,out,m)=some (out,t,p,false,l):=by
 rw [K3k.eq_def]
 simp only
 rw [decide_eq_false (by omega:¬ (out.length:Int) ≤ 40)]
 cases decide (m > 0) <;> rfl
theorem K7v {t:ByteArray} {p:Int} {out:List Int}:K2l (t,p,out,0)=some (.inl (p,out)):=by
 rw [K2l.eq_def]; rfl
theorem K7w {t:ByteArray} {p:Int} {l:Int} {out:List Int}:K3k (t,p,false,l,out,0)=some (out,t,p,false,l):=by
 rw [K3k.eq_def]; rfl
theorem K7x {out:List Int} {m:Nat} {c:Int} (hk:0 ≤ K55 c) (h:∀ rest,skip 1 (out ++ rest)=skip (m + 1) rest):∀ rest,skip 1 (out ++ [c] ++ rest)=skip (m + (K55 c).toNat) rest:=by
 intro rest
 rw [List.append_assoc,h,List.cons_append,List.nil_append,K5f,if_neg (by omega)]
theorem K7y {t:ByteArray} {l:Int} (ht:t.size ≤ 1048576):∀ (k p:Nat) (out:List Int) (m:Nat),out.length + k=40→p ≤ t.size→m ≤ 1 + out.length→(∀ rest,skip 1 (out ++ rest)=skip m rest) →
  (∃ q out',q ≤ t.size∧out'.length ≤ 40∧skip 1 out'=some []∧K2l (t,(p:Int),out,(m:Int))=some (.inl (((q:Nat):Int),out'))∧K3k (t,(p:Int),false,l,out,(m:Int))=some (out',t,((q:Nat):Int),false,l)) ∨
  (K2l (t,(p:Int),out,(m:Int))=some (.inr ([],-1))∧∃ out' q f,q ≤ t.size∧out'.length ≤ 41∧(f=true∨out'.length=41)∧K3k (t,(p:Int),false,l,out,(m:Int))=some (out',t,((q:Nat):Int),f,l)):=by
 intro k
 induction k with
 | zero =>
  intro p out m hk hp hm hinv
  cases m with
  | zero=>exact .inl ⟨p,out,hp,by omega,by have:=hinv []; rwa [List.append_nil] at this,K7v,K7w⟩
  | succ m =>
   refine .inr ⟨K7t (by omega) (by omega),?_⟩
   rcases K7s (l:=l) (out:=out) (m:=((m + 1:Nat):Int)) ht hp (by omega) (by omega) (by omega) with ⟨c,post,hc,hr⟩ | ⟨_,out',q,hq,hl,hr⟩
   ·rw [hr,K7u (by simp; omega)]
    exact ⟨_,_,_,Nat.sub_le _ _,by simp; omega,.inr (by simp; omega),rfl⟩
   ·exact ⟨_,_,_,hq,hl,.inl rfl,hr⟩
 | succ k ih =>
  intro p out m hk hp hm hinv
  cases m with
  | zero=>exact .inl ⟨p,out,hp,by omega,by have:=hinv []; rwa [List.append_nil] at this,K7v,K7w⟩
  | succ m =>
   rcases K7s (l:=l) (out:=out) (m:=((m + 1:Nat):Int)) ht hp (by omega) (by omega) (by omega) with ⟨c,post,hc,hr⟩ | ⟨hn,out',q,hq,hl,hr⟩
   ·rcases K7q (out:=out) (m:=((m + 1:Nat):Int)) ht hp (by omega) (by omega) (by omega) with ⟨c',post',hc',hs⟩ | ⟨hn,hs⟩
    ·obtain ⟨e1,e2⟩:=K7j hc' hc
     subst e1 e2
     have hk2:=K7k hc
     rw [hr,hs]
     have e:((m + 1:Nat):Int) - 1 + K55 c'=((m + (K55 c').toNat:Nat):Int):=by omega
     rw [e]
     exact ih _ _ _ (by simp; omega) (Nat.sub_le _ _) (by simp; omega) (K7x hk2.1 hinv)
    ·exact absurd hc (hn _ _)
   ·rcases K7q (out:=out) (m:=((m + 1:Nat):Int)) ht hp (by omega) (by omega) (by omega) with ⟨c',post',hc',hs⟩ | ⟨_,hs⟩
    ·exact absurd hc' (hn _ _)
    ·exact .inr ⟨hs,_,_,_,hq,hl,.inl rfl,hr⟩
theorem K7z (x:ByteArray) (hx:x.size ≤ 1048576):∃ w0 w1,K2r x=some (w0,w1)∧K42 x=some (w0,w1)∧w0.length ≤ 1099511627776:=by
 have h:=K7y (t:=x) (l:=0) hx 40 0 [] 1 rfl (Nat.zero_le _) (by simp) (fun rest=>rfl)
 rw [show ((0:Nat):Int)=0 from rfl,show ((1:Nat):Int)=1 from rfl] at h
 unfold K2r K2o K42 K3n
 simp only
 rcases h with ⟨q,out',hq,hl,hsk,hs,hr⟩ | ⟨hs,out',q,f,hq,hl,hf,hr⟩
 ·rw [hs,hr]
  simp only [bs,Bool.false_eq_true,if_false]
  rw [K5m out' (by omega)]
  have hw:wtB out'=true:=by unfold wtB; rw [decide_eq_true hl,hsk]; rfl
  rw [hw]
  by_cases e:((q:Int) != (x.size:Int))=true
  ·rw [e]; exact ⟨_,_,rfl,rfl,by simp⟩
  ·rw [Bool.eq_false_iff.2 e]; exact ⟨_,_,rfl,rfl,by omega⟩
 ·rw [hs,hr]
  simp only [bs]
  have e1:((-1:Int) != (x.size:Int))=true:=by rw [bne_iff_ne]; omega
  rw [e1,if_pos rfl]
  refine ⟨_,_,rfl,?_,by simp⟩
  rcases hf with rfl | hf
  ·rfl
  ·have hw:wtB out'=false:=by unfold wtB; rw [decide_eq_false (by omega)]; rfl
   rw [K5m out' (by omega),hw]
   cases f
   ·cases ((q:Int) != (x.size:Int)) <;> rfl
   ·rfl
theorem K80 (x0:ByteArray) (hx0:x0.size ≤ 9223372036854775807):K4q x0=some true:=by
 unfold K4q
 by_cases gx0:x0.size ≤ 1048576
 ·rw [decide_eq_false (by omega),if_neg (by decide)]
  obtain ⟨w0,w1,s1,s2,c0⟩:=K7z x0 gx0
  have n0:=K5p w0 1 (by omega) (by omega)
  have n0':=K5r w0.length 1 (by omega) (by omega)
  rw [show ((1:Nat):Int)=1 from rfl] at n0 n0'
  simp only [s1,s2,bs,K50 w0 (by omega),n0,n0',K5s,if_true,if_false,Bool.false_eq_true,K4y,Bool.not_true,Bool.not_false,K5t,beq_self_eq_true]
  repeat (rw [decide_eq_false (by omega)]; simp only [bs,Bool.false_eq_true,if_false,if_true,K4y,K5s,Bool.not_true,n0,n0'])
 ·rw [decide_eq_true (by omega),if_pos rfl]
end Go.Am
