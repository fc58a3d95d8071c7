/- Plain laws of the printed functions. -/
import Derived.Test.YtkboikcppljkeaaGreatPCHK0
set_option linter.unusedSimpArgs false
set_option linter.unusedVariables false
namespace Go.Am
theorem Kxl (k:Nat) (h:k ≤ 1048576):Kfc (k:Int)=some (Kwi (List.replicate k 0)):=by
 unfold Kfc
 rw [Int.toNat_natCast,Kvi (by constructor <;> omega),bs]
 unfold Kwi
 rw [List.map_replicate]
 rfl
theorem Kxm (ctx front:List (List Int)) (h:ctx.length + front.length ≤ 1048576):Kf2 (ctx,front)=some (front ++ ctx):=by
 unfold Kf2
 simp only
 rw [Ktu (by simp; omega),bs,Ktu (by omega),bs]
theorem Kxn (ps:List (List Int)) (hp:ps.length ≤ 1099511627776):∀ (l:List (List Int)) (i:Nat) (out:List Int),ps.drop i=l→out.length + l.flatten.length ≤ 1099511627776→Kfj (ps,out,(i:Int))=some (out ++ l.flatten):=by
 intro l
 induction l with
 | nil =>
  intro i out hd _
  rw [Kfj.eq_def]
  simp only
  rw [Kqf (Krt hd)]
  simp
 | cons x l ih =>
  intro i out hd ho
  obtain ⟨h1,h2,h3⟩:=Krs hd
  rw [List.flatten_cons,List.length_append] at ho
  rw [Kfj.eq_def]
  simp only
  rw [Kqe h1,if_pos rfl,h2,bs,Ktu (by omega),bs,Kqd (by omega),ih (i + 1) _ h3 (by rw [List.length_append]; omega),List.flatten_cons,List.append_assoc]
theorem Kxo (c:Int) (ps:List (List Int)) (hp:ps.length ≤ 1048576) (h:ps.flatten.length ≤ 1048576):Kfm (c,ps)=some (c :: ps.flatten):=by
 unfold Kfm
 simp only
 rw [show (0:Int)=((0:Nat):Int) from rfl,Kxn ps (by omega) ps 0 [c] rfl (by rw [List.length_singleton]; omega)]
 rfl
theorem Kxp (ps:List (List (Int))) (hp:ps.length ≤ 1099511627776):∀ (l:List (List (Int))) (i sz:Nat),ps.drop i=l→sz + l.flatten.length ≤ 1099511627776→Kmr (ps,(sz:Int),(i:Int))=some (((sz + l.flatten.length:Nat)):Int):=by
 intro l
 induction l with
 | nil =>
  intro i sz hd _
  rw [Kmr.eq_def]
  simp only
  rw [Kqf (Krt hd)]
  simp
 | cons x l ih =>
  intro i sz hd ho
  obtain ⟨h1,h2,h3⟩:=Krs hd
  rw [List.flatten_cons,List.length_append] at ho
  have e:wr ((sz:Int) + (x.length:Int))=((sz + x.length:Nat):Int):=Kv4 (by omega) (by omega)
  rw [Kmr.eq_def]
  simp only
  rw [Kqe h1,if_pos rfl,h2,bs,e,decide_eq_false (by omega),if_neg (by decide),bs,Kqd (by omega),ih (i + 1) _ h3 (by omega),List.flatten_cons,List.length_append,Nat.add_assoc]
theorem Kxq (ps:List (List (Int))) (hp:ps.length ≤ 1099511627776):∀ (l:List (List (Int))) (i:Nat) (out:List (Int)),ps.drop i=l→out.length + l.flatten.length ≤ 1099511627776→Kmv (ps,out,(i:Int))=some (out ++ l.flatten):=by
 intro l
 induction l with
 | nil =>
  intro i out hd _
  rw [Kmv.eq_def]
  simp only
  rw [Kqf (Krt hd)]
  simp
 | cons x l ih =>
  intro i out hd ho
  obtain ⟨h1,h2,h3⟩:=Krs hd
  rw [List.flatten_cons,List.length_append] at ho
  rw [Kmv.eq_def]
  simp only
  rw [Kqe h1,if_pos rfl,h2,bs,Ktu (by omega),bs,Kqd (by omega),ih (i + 1) _ h3 (by rw [List.length_append]; omega),List.flatten_cons,List.append_assoc]
theorem Kxr (k:Nat) (h:k ≤ 1048576):Kmn (k:Int)=some ():=by
 unfold Kmn
 have e:wr ((k:Int) - wr (0 - 0))=(k:Int):=by rw [Kqb (x:=0 - 0) (by decide) (by decide),Kqb (by omega) (by omega)]; omega
 rw [decide_eq_false (by omega),if_neg (by decide),e]
 by_cases hk:k=0
 ·subst hk; rfl
 ·rw [decide_eq_true (by omega),if_pos rfl,Int.toNat_natCast,Kvi (by constructor <;> omega),bs]
theorem Kxs (ps:List (List (Int))) (hp:ps.length ≤ 1048576) (h:ps.flatten.length ≤ 1048576):Kmy ps=some ps.flatten:=by
 unfold Kmy
 have h0:=Kxp ps (by omega) ps 0 0 rfl (by omega)
 rw [Nat.zero_add] at h0
 rw [show (0:Int)=((0:Nat):Int) from rfl,h0,bs,Kxr _ h,bs,Kxq ps (by omega) ps 0 [] rfl (by rw [List.length_nil]; omega)]
 rfl
theorem Kxt (ps:List (List (List Int))) (hp:ps.length ≤ 1099511627776):∀ (l:List (List (List Int))) (i sz:Nat),ps.drop i=l→sz + l.flatten.length ≤ 1099511627776→Kl6 (ps,(sz:Int),(i:Int))=some (((sz + l.flatten.length:Nat)):Int):=by
 intro l
 induction l with
 | nil =>
  intro i sz hd _
  rw [Kl6.eq_def]
  simp only
  rw [Kqf (Krt hd)]
  simp
 | cons x l ih =>
  intro i sz hd ho
  obtain ⟨h1,h2,h3⟩:=Krs hd
  rw [List.flatten_cons,List.length_append] at ho
  have e:wr ((sz:Int) + (x.length:Int))=((sz + x.length:Nat):Int):=Kv4 (by omega) (by omega)
  rw [Kl6.eq_def]
  simp only
  rw [Kqe h1,if_pos rfl,h2,bs,e,decide_eq_false (by omega),if_neg (by decide),bs,Kqd (by omega),ih (i + 1) _ h3 (by omega),List.flatten_cons,List.length_append,Nat.add_assoc]
theorem Kxu (ps:List (List (List Int))) (hp:ps.length ≤ 1099511627776):∀ (l:List (List (List Int))) (i:Nat) (out:List (List Int)),ps.drop i=l→out.length + l.flatten.length ≤ 1099511627776→Kla (ps,out,(i:Int))=some (out ++ l.flatten):=by
 intro l
 induction l with
 | nil =>
  intro i out hd _
  rw [Kla.eq_def]
  simp only
  rw [Kqf (Krt hd)]
  simp
 | cons x l ih =>
  intro i out hd ho
  obtain ⟨h1,h2,h3⟩:=Krs hd
  rw [List.flatten_cons,List.length_append] at ho
  rw [Kla.eq_def]
  simp only
  rw [Kqe h1,if_pos rfl,h2,bs,Ktu (by omega),bs,Kqd (by omega),ih (i + 1) _ h3 (by rw [List.length_append]; omega),List.flatten_cons,List.append_assoc]
theorem Kxv (k:Nat) (h:k ≤ 1048576):Kl2 (k:Int)=some ():=by
 unfold Kl2
 have e:wr ((k:Int) - wr (0 - 0))=(k:Int):=by rw [Kqb (x:=0 - 0) (by decide) (by decide),Kqb (by omega) (by omega)]; omega
 rw [decide_eq_false (by omega),if_neg (by decide),e]
 by_cases hk:k=0
 ·subst hk; rfl
 ·rw [decide_eq_true (by omega),if_pos rfl,Int.toNat_natCast,Kvi (by constructor <;> omega),bs]
theorem Kxw (ps:List (List (List Int))) (hp:ps.length ≤ 1048576) (h:ps.flatten.length ≤ 1048576):Kld ps=some ps.flatten:=by
 unfold Kld
 have h0:=Kxt ps (by omega) ps 0 0 rfl (by omega)
 rw [Nat.zero_add] at h0
 rw [show (0:Int)=((0:Nat):Int) from rfl,h0,bs,Kxv _ h,bs,Kxu ps (by omega) ps 0 [] rfl (by rw [List.length_nil]; omega)]
 rfl
theorem Kxx {s:K00} {n:Nat} (h:Tab s n):Kus s=gN s.fSize true:=by
 funext g
 rw [Kuy h]
 unfold gN inB
 rw [h.size]
 rw [Bool.eq_iff_iff]
 simp
 omega
def TyS (s:K00) (ty:List Int):Prop:=yN s.fSize true ty=true
theorem Kxy {s:K00} {ty:List Int} (h:TyS s ty):ty.length ≤ 40:=by
 unfold TyS yN at h
 rw [Bool.and_eq_true] at h
 exact Kts h.1
theorem Kxz {s:K00} {ty:List Int} (h:TyS s ty):∃ T:Ty,T.ok∧ty=T.code∧T.code.length ≤ 40∧T.code.all (Ksi s.fSize true)=true:=by
 have hl:=Kxy h
 unfold TyS yN at h
 rw [Bool.and_eq_true] at h
 obtain ⟨T,h1,rfl,_⟩:=Kui h.1
 exact ⟨T,h1,rfl,hl,h.2⟩
theorem Ky0 {s:K00} {T:Ty} (h:T.ok) (hl:T.code.length ≤ 40) (hc:T.code.all (Ksi s.fSize true)=true):TyS s T.code:=by
 unfold TyS yN
 rw [Kuj h hl,hc]; rfl
structure Ky1 (s:K00) (c:Int) (a b:List Int):Prop where
 ya:TyS s a
 yb:TyS s b
 p0:Kew (c :: (a ++ b),0)=some a
 p1:Kew (c :: (a ++ b),1)=some b
 pp:Kkw (c :: (a ++ b))=some [a,b]
structure Ky2 (s:K00) (c:Int) (a:List Int):Prop where
 ya:TyS s a
 p0:Kew (c :: a,0)=some a
 pp:Kkw (c :: a)=some [a]
theorem Ky3 {s:K00} {c:Int} (hc:c=35∨c=36):Ksi s.fSize true c=false:=by
 rcases hc with rfl | rfl
 ·unfold Ksi Ksh
  rw [show Krw 35=2 from rfl]; simp
 ·unfold Ksi Ksh
  rw [show Krw 36=1 from rfl]; simp
section
variable {s:K00} {n:Nat} (hs:Kwn s n)
include hs
theorem Ky4 {c:Int} (hc:3 ≤ c∧c ≤ 18):Ksi s.fSize true c=true ↔ c - 3 < (n:Int):=by
 have hk:Krw c=2:=by rcases Ks0 c with h | h | h | h <;> omega
 unfold Ksi Ksh
 rw [hk,hs.tab.size,if_neg (by omega),if_neg (by omega)]
 simp
 omega
theorem Ky5 {c:Int} (hc:19 ≤ c∧c ≤ 34):Ksi s.fSize true c=true ↔ c - 19 < (n:Int):=by
 have hk:Krw c=1:=by rcases Ks0 c with h | h | h | h <;> omega
 unfold Ksi Ksh
 rw [hk,hs.tab.size,if_neg (by omega),if_pos (by omega)]
 simp
 omega
theorem Ky6 {ty:List Int} (h:TyS s ty):ty=[0]∨(∃ a b,ty=1 :: (a ++ b)∧Ky1 s 1 a b)∨(∃ a b,ty=2 :: (a ++ b)∧Ky1 s 2 a b) ∨
  (∃ (g:Nat) (a b:List Int),g < n∧g ≤ 15∧ty=(3 + (g:Int)) :: (a ++ b)∧Ky1 s (3 + (g:Int)) a b)∨(∃ (g:Nat) (a:List Int),g < n∧g ≤ 15∧ty=(19 + (g:Int)) :: a∧Ky2 s (19 + (g:Int)) a):=by
 obtain ⟨T,hT,rfl,hl,hc⟩:=Kxz h
 cases T with
 | num=>exact .inl rfl
 | bin c a b =>
  have B:=Kvh hT (by omega)
  have hl':=hl
  rw [Ty.code,List.length_cons,List.length_append] at hl'
  rw [Ty.code,List.all_cons,List.all_append,Bool.and_eq_true,Bool.and_eq_true] at hc
  have hP:Ky1 s c a.code b.code:=⟨Ky0 B.ok.1 (by omega) hc.2.1,Ky0 B.ok.2 (by omega) hc.2.2,B.p0,B.p1,B.pp⟩
  have hk:=hT.1
  rcases Ks0 c with ⟨q,e⟩ | ⟨q,e⟩ | ⟨q,e⟩ | ⟨q,e⟩
  ·rw [e] at hk; exact absurd hk (by decide)
  ·rcases q with rfl | rfl | q | rfl
   ·exact .inr (.inl ⟨_,_,rfl,hP⟩)
   ·exact .inr (.inr (.inl ⟨_,_,rfl,hP⟩))
   ·have:=(Ky4 hs q).1 hc.1
    obtain ⟨g,hg⟩:∃ g:Nat,c=3 + (g:Int):=⟨(c - 3).toNat,by omega⟩
    subst hg
    exact .inr (.inr (.inr (.inl ⟨g,_,_,by omega,by omega,rfl,hP⟩)))
   ·rw [Ky3 (s:=s) (.inl rfl)] at hc; exact absurd hc.1 (by decide)
  ·rw [e] at hk; exact absurd hk (by decide)
  ·rw [e] at hk; exact absurd hk (by decide)
 | un c a =>
  have B:=unP hT (by omega)
  have hl':=hl
  rw [Ty.code,List.length_cons] at hl'
  rw [Ty.code,List.all_cons,Bool.and_eq_true] at hc
  have hP:Ky2 s c a.code:=⟨Ky0 B.ok (by omega) hc.2,B.p0,B.pp⟩
  have hk:=hT.1
  rcases Ks0 c with ⟨q,e⟩ | ⟨q,e⟩ | ⟨q,e⟩ | ⟨q,e⟩
  ·rw [e] at hk; exact absurd hk (by decide)
  ·rw [e] at hk; exact absurd hk (by decide)
  ·rcases q with q | rfl
   ·have:=(Ky5 hs q).1 hc.1
    obtain ⟨g,hg⟩:∃ g:Nat,c=19 + (g:Int):=⟨(c - 19).toNat,by omega⟩
    subst hg
    exact .inr (.inr (.inr (.inr ⟨g,_,by omega,by omega,rfl,hP⟩)))
   ·rw [Ky3 (s:=s) (.inr rfl)] at hc; exact absurd hc.1 (by decide)
  ·rw [e] at hk; exact absurd hk (by decide)
theorem Ky7 {x:Int} (h:gN s.fSize true x=true):∃ g:Nat,x=(g:Int)∧g < n:=by
 unfold gN at h
 rw [hs.tab.size] at h
 simp at h
 exact ⟨x.toNat,by omega,by omega⟩
end
structure Ky8 (s:K00) (n:Nat) (k:K01) (m:Nat):Prop where
 ok:tOk (gN s.fSize true) (yN s.fSize true) n k=true
 sz:tsz k + 1 ≤ m
theorem nd1 {s:K00} {n m:Nat} {op N:Int} {ty:List Int} {ks:List K01} (h:tOk (gN s.fSize true) (yN s.fSize true) n ⟨op,N,ty,ks⟩=true) (hm:tsz ⟨op,N,ty,ks⟩ ≤ m) (hk:Ksw op=1):∃ a,ks=[a]∧Ky8 s (n + Kt6 op 0) a m:=by
 obtain ⟨h1,h2⟩:=Ktt h
 obtain ⟨a,rfl⟩:=Kvp (l:=ks) (beq_iff_eq.2 (by rw [← hk]; exact (Ktv h1).2))
 simp only at h2
 rw [Kvo,Bool.and_eq_true] at h2
 rw [Kvr] at hm
 exact ⟨a,rfl,h2.1,by omega⟩
theorem nd2 {s:K00} {n m:Nat} {op N:Int} {ty:List Int} {ks:List K01} (h:tOk (gN s.fSize true) (yN s.fSize true) n ⟨op,N,ty,ks⟩=true) (hm:tsz ⟨op,N,ty,ks⟩ ≤ m) (hk:Ksw op=2):∃ a b,ks=[a,b]∧Ky8 s (n + Kt6 op 0) a m∧Ky8 s (n + Kt6 op 1) b m:=by
 obtain ⟨h1,h2⟩:=Ktt h
 obtain ⟨a,b,rfl⟩:=Kvq (l:=ks) (beq_iff_eq.2 (by rw [← hk]; exact (Ktv h1).2))
 simp only at h2
 rw [Kvo,Kvo,Bool.and_eq_true,Bool.and_eq_true] at h2
 rw [Kvs] at hm
 exact ⟨a,b,rfl,⟨h2.1,by omega⟩,⟨h2.2.1,by omega⟩⟩
theorem nd3 {s:K00} {n m:Nat} {op N:Int} {ty:List Int} {ks:List K01} (h:tOk (gN s.fSize true) (yN s.fSize true) n ⟨op,N,ty,ks⟩=true) (hm:tsz ⟨op,N,ty,ks⟩ ≤ m) (hk:Ksw op=3):∃ a b c,ks=[a,b,c]∧Ky8 s (n + Kt6 op 0) a m∧Ky8 s (n + Kt6 op 1) b m∧Ky8 s (n + Kt6 op 2) c m:=by
 obtain ⟨h1,h2⟩:=Ktt h
 obtain ⟨a,b,c,rfl⟩:=Kvu (l:=ks) (by rw [← hk]; exact (Ktv h1).2)
 simp only at h2
 rw [Kvo,Kvo,Kvo,Bool.and_eq_true,Bool.and_eq_true,Bool.and_eq_true] at h2
 rw [Kvt] at hm
 exact ⟨a,b,c,rfl,⟨h2.1,by omega⟩,⟨h2.2.1,by omega⟩,⟨h2.2.2.1,by omega⟩⟩
theorem Ky9 {s:K00} {n:Nat} {t:K01} (h:tOk (gN s.fSize true) (yN s.fSize true) n t=true) (hg:Ksx t.fOp=true):gN s.fSize true t.fN=true:=by
 have h1:=(Ktt h).1
 unfold Ktc Kta at h1
 simp only [Bool.and_eq_true] at h1
 have h2:=h1.1.2
 have hop:(t.fOp == 0)=false∧(t.fOp == 1)=false:=by
  simp only [Ksx,Bool.or_eq_true,beq_iff_eq] at hg
  constructor <;> rw [beq_eq_false_iff_ne] <;> omega
 rw [hop.1,hop.2,hg] at h2
 simpa using h2
theorem Kya {s:K00} {n:Nat} {t:K01} (h:tOk (gN s.fSize true) (yN s.fSize true) n t=true) (hg:Ksy t.fOp=true):TyS s t.fType:=by
 have h1:=(Ktt h).1
 unfold Ktc Ktb at h1
 simp only [Bool.and_eq_true] at h1
 have h2:=h1.2
 rw [hg] at h2
 show yN s.fSize true t.fType=true
 simpa using h2
theorem Kyb {s:K00} {n:Nat} {t:K01} (h:tOk (gN s.fSize true) (yN s.fSize true) n t=true) (hg:t.fOp=0):∃ i:Nat,t.fN=(i:Int)∧i < n∧t.fKids=[]:=by
 have h1:=(Ktt h).1
 have hl:=(Ktv h1).2
 unfold Ktc Kta at h1
 simp only [Bool.and_eq_true] at h1
 have h2:=h1.1.2
 rw [hg] at h2 hl
 simp [inB] at h2
 refine ⟨t.fN.toNat,by omega,by omega,?_⟩
 have:(t.fKids.length:Int)=0:=hl
 exact List.eq_nil_of_length_eq_zero (by omega)
theorem Kyc {s:K00} {n:Nat} {t:K01} (h:tOk (gN s.fSize true) (yN s.fSize true) n t=true) (hg:t.fOp=1):t.fKids=[]:=by
 have h1:=(Ktt h).1
 have hl:=(Ktv h1).2
 rw [hg] at hl
 have:(t.fKids.length:Int)=0:=hl
 exact List.eq_nil_of_length_eq_zero (by omega)
theorem Kyd {α:Type} {l:List α} {m:Nat} (h:m ≤ l.length):cut l none (some (m:Int)) none=some (l.take m):=by
 unfold cut
 simp only [Option.getD_none,Option.getD_some,Int.toNat_natCast,Int.toNat_zero,List.drop_zero]
 rw [if_pos (by omega)]
theorem Kye {α:Type} {l:List α} {m:Nat} (h:m ≤ l.length):cut l (some (m:Int)) none none=some (l.drop m):=by
 unfold cut
 simp only [Option.getD_none,Option.getD_some,Int.toNat_natCast]
 rw [if_pos (by omega),List.take_length]
section
variable {s:K00} {n:Nat} (hs:Kwn s n) {N:Int} {ty:List Int} {ks:List K01} {w:Nat} {c:Int} {r:List Int}
theorem Kyf {op:Int} (h:(op=4∨op=6∨op=7∨op=9∨op=11)∨(w ≠ 0∧(op=3∨op=5∨op=8∨op=10∨op=12))):Klu (⟨s⟩,⟨op,N,ty,ks⟩,(w:Int),c :: r)=some 0:=by
 have hw:∀ hw:w ≠ 0,((w:Int) == 0)=false:=fun hw=>by rw [beq_eq_false_iff_ne]; omega
 unfold Klu
 rcases h with (rfl | rfl | rfl | rfl | rfl) | ⟨h0,(rfl | rfl | rfl | rfl | rfl)⟩
 all_goals first | simp [Kv3,Ks2,hw h0] | (by_cases h0:w=0 <;> simp [Kv3,Ks2,h0])
theorem Kyg:Klu (⟨s⟩,⟨2,N,ty,ks⟩,(w:Int),c :: r)=some (if (Ks1 c).1=0 then 0 else 2):=by
 unfold Klu
 by_cases h:(Ks1 c).1=0 <;> simp [Kv3,Ks2,h]
theorem Kyh:Klu (⟨s⟩,⟨3,N,ty,ks⟩,((0:Nat):Int),c :: r)=some (if (Ks1 c).1=0 then 0 else 2):=by
 unfold Klu
 by_cases h:(Ks1 c).1=0 <;> simp [Kv3,Ks2,h]
theorem Kyi:Klu (⟨s⟩,⟨10,N,ty,ks⟩,((0:Nat):Int),c :: r)=some (if (Ks1 c).1=3 then 0 else 6):=by
 unfold Klu
 by_cases h:(Ks1 c).1=3 <;> simp [Kv3,Ks2,h]
include hs
theorem Kyj {g:Nat} (hg:g < n):Klu (⟨s⟩,⟨5,(g:Int),ty,ks⟩,((0:Nat):Int),c :: r)=some (if (Ks1 c).1=1 then (if le s n 1 g then 0 else 8) else 4):=by
 have hl:=iLe hs.tab (Kwp hs) hg
 unfold Klu
 by_cases h:(Ks1 c).1=1 <;> cases hle:le s n 1 g <;> simp [Kv3,Ks2,h,show Khz (s,1,(g:Int))=some (le s n 1 g) from hl,hle]
theorem Kyk {g:Nat} (hg:g < n):Klu (⟨s⟩,⟨8,(g:Int),ty,ks⟩,((0:Nat):Int),c :: r)=some (if (Ks1 c).1=2 then (if le s n 1 g then 0 else 8) else 5):=by
 have hl:=iLe hs.tab (Kwp hs) hg
 unfold Klu
 by_cases h:(Ks1 c).1=2 <;> cases hle:le s n 1 g <;> simp [Kv3,Ks2,h,show Khz (s,1,(g:Int))=some (le s n 1 g) from hl,hle]
theorem Kyl {g:Nat} (hg:g < n):Klu (⟨s⟩,⟨12,(g:Int),ty,ks⟩,((0:Nat):Int),c :: r)=some (if (Ks1 c).1=4 then (if le s n 1 g then 0 else 8) else 7):=by
 have hl:=iLe hs.tab (Kwp hs) hg
 unfold Klu
 by_cases h:(Ks1 c).1=4 <;> cases hle:le s n 1 g <;> simp [Kv3,Ks2,h,show Khz (s,1,(g:Int))=some (le s n 1 g) from hl,hle]
end
def Kym (ty:List Int) (ns:List Nat) (kids:List K05):Int × K05:=(if ty.length > 40 then 3 else 0,⟨ty,Kwi ns,kids,0,[]⟩)
theorem Kyn {α:Type} (x:α) (l:List α):idx (x :: l) 0=some x:=rfl
theorem Kyo {α:Type} (x y:α) (l:List α):idx (x :: y :: l) 1=some y:=rfl
theorem Kyp {α:Type} (x y z:α) (l:List α):idx (x :: y :: z :: l) 2=some z:=rfl
section
variable {s:K00} {n:Nat} (hs:Kwn s n) {N:Int} {ty:List Int} {ks:List K01} {ctx us:List (List Int)} {z:List Int} {y0 y1 y2:K05} {a b d:List Nat}
theorem Kyq {i:Nat} {q:List Int} {zs:List Nat} (hi:ctx[i]?=some q) (hz:i < zs.length) (hq:q.length ≤ 40):Ko8 (⟨s⟩,⟨[],Kwi zs,[],0,[]⟩,ctx,⟨0,(i:Int),ty,ks⟩,[],[])=some (Kym q (zs.set i 1) []):=by
 obtain ⟨h1,h2⟩:=List.getElem?_eq_some_iff.1 hi
 have e1:idx ctx (i:Int)=some q:=by rw [Kqc h1,h2]
 have e2:idx (Kwi zs) (i:Int)=some ((zs[i]:Nat):Int):=by rw [Kqc (by rw [Kwj]; exact hz)]; simp [Kwi]
 have e3:List.set (Kwi zs) i 1=Kwi (zs.set i 1):=by unfold Kwi; rw [List.map_set]; rfl
 have h40:¬ ((q.length:Int) > 40):=by omega
 unfold Ko8 Kno Kym
 simp [e1,e2,e3,Ktx q (by omega),show ¬ (40 < (q.length:Int)) by omega,show ¬ (40 < q.length) by omega]
theorem Kyr {zs:List Nat}:Ko8 (⟨s⟩,⟨[],Kwi zs,[],0,[]⟩,ctx,⟨1,N,ty,ks⟩,[],[])=some (Kym [0] zs []):=by
 unfold Ko8 Kno Kym
 simp
theorem Kys (hy:y0.fty.length ≤ 1000) (ht:ty.length ≤ 1000):Ko8 (⟨s⟩,⟨[],z,[y0],0,[]⟩,ctx,⟨6,N,ty,ks⟩,[Kwi a],us)=some (Kym (2 :: (y0.fty ++ ty)) a [y0]):=by
 have hc:=Kxs [[2],y0.fty,ty] (by simp) (by simp; omega)
 unfold Ko8 Kno Kym Kma
 simp only [List.flatten_cons,List.flatten_nil,List.append_nil,List.singleton_append,List.cons_append,List.nil_append] at hc
 simp [Kyn,Kyo,hc]
 split <;> rename_i q40
 ·rw [if_pos (by omega)]
 ·rw [if_neg (by omega)]
theorem Kyt (hy:y0.fty.length ≤ 1000) (ht:ty.length ≤ 1000):Ko8 (⟨s⟩,⟨[],z,[y0],0,[]⟩,ctx,⟨7,N,ty,ks⟩,[Kwi a],us)=some (Kym (2 :: (ty ++ y0.fty)) a [y0]):=by
 have hc:=Kxs [[2],ty,y0.fty] (by simp) (by simp; omega)
 unfold Ko8 Kno Kym Kma
 simp only [List.flatten_cons,List.flatten_nil,List.append_nil,List.singleton_append,List.cons_append,List.nil_append] at hc
 simp [Kyn,Kyo,hc]
 split <;> rename_i q40
 ·rw [if_pos (by omega)]
 ·rw [if_neg (by omega)]
include hs
theorem Kyu (ha:Kwy n a) (hb:Kwy n b) (hl:a.length ≤ 1000000) (hab:a.length=b.length):Ko8 (⟨s⟩,⟨[],z,[y0,y1],0,[]⟩,ctx,⟨2,N,ty,ks⟩,[Kwi a,Kwi b],us)=some (Kym [0] (Kwv s n a b) [y0,y1]):=by
 have h:=Kxe hs a b ha hb (by omega) hab
 unfold Ko8 Kno Kym
 simp [Kyn,Kyo,h]
theorem Kyv (ha:Kwy n a) (hb:Kwy n b) (hd:Kwy n d) (hl:a.length ≤ 1000000) (hab:a.length=b.length) (had:a.length=d.length) (h2:y2.fty.length ≤ 1000) (h1:y1.fty.length ≤ 40) :
  Ko8 (⟨s⟩,⟨[],z,[y0,y1,y2],0,[]⟩,ctx,⟨3,N,ty,ks⟩,[Kwi a,Kwi b,Kwi d],us)=some (if y1.fty=y2.fty then Kym y1.fty (Kwv s n a (Kwx s n b d)) [y0,y1,y2] else (3,⟨[],z,[y0,y1,y2],0,[]⟩)):=by
 have hj:=Kxg hs b d hb hd (by omega) (by omega)
 have hlj:(Kwx s n b d).length=a.length:=by unfold Kwx; rw [List.length_zipWith]; omega
 have h:=Kxe hs a (Kwx s n b d) ha (Kx4 hs hb hd) (by omega) hlj.symm
 have he:=Kvn y1.fty y2.fty (by omega)
 unfold Ko8 Kno Kym Kma
 by_cases hq:y1.fty=y2.fty
 ·rw [show (y1.fty == y2.fty)=true from beq_iff_eq.2 hq] at he
  rw [if_pos hq]
  simp [Kyn,Kyo,Kyp,he,hj,h,show ¬ (40 < (y1.fty.length:Int)) by omega,show ¬ (40 < y1.fty.length) by omega]
 ·rw [show (y1.fty == y2.fty)=false from beq_eq_false_iff_ne.2 hq] at he
  rw [if_neg hq]
  simp [Kyn,Kyo,Kyp,he]
theorem Kyw (ha:Kwy n a) (hb:Kwy n b) (hl:a.length ≤ 1000000) (hab:a.length=b.length) (h0:y0.fty.length ≤ 1000) (h1:y1.fty.length ≤ 1000) :
  Ko8 (⟨s⟩,⟨[],z,[y0,y1],0,[]⟩,ctx,⟨4,N,ty,ks⟩,[Kwi a,Kwi b],us)=some (Kym (1 :: (y0.fty ++ y1.fty)) (Kwv s n a b) [y0,y1]):=by
 have h:=Kxe hs a b ha hb (by omega) hab
 have hc:=Kxs [[1],y0.fty,y1.fty] (by simp) (by simp; omega)
 unfold Ko8 Kno Kym Kma
 simp only [List.flatten_cons,List.flatten_nil,List.append_nil,List.singleton_append,List.cons_append,List.nil_append] at hc
 simp [Kyn,Kyo,hc,h]
 split <;> rename_i q40
 ·rw [if_pos (by omega)]
 ·rw [if_neg (by omega)]
theorem Kyx {g:Nat} (hg:g < n) {u:List Nat} (hu:Kwy n u) (hul:u.length ≤ 1000000) (hy:y0.fty.length ≤ 1000) (ht:ty.length ≤ 1000) :
  Ko8 (⟨s⟩,⟨[],z,[y0],0,[]⟩,ctx,⟨9,(g:Int),ty,ks⟩,[Kwi a],[Kwi u])=some (if (u.all fun x=>le s n x g)=true then Kym ((3 + (g:Int)) :: (ty ++ y0.fty)) a [y0] else (9,⟨[],z,[y0],0,[]⟩)):=by
 have hn:=hs.tab.hi
 have e:=Kxk hs g hg u hu (by omega)
 have hw:wr (3 + (g:Int))=3 + (g:Int):=Kqb (by omega) (by omega)
 have hc:=Kxs [[3 + (g:Int)],ty,y0.fty] (by simp) (by simp; omega)
 unfold Ko8 Kno Kym Kma
 simp only [List.flatten_cons,List.flatten_nil,List.append_nil,List.singleton_append,List.cons_append,List.nil_append] at hc
 cases hq:(u.all fun x=>le s n x g) with
 | true =>
  rw [hq] at e
  simp [Kyn,Kyo,e,hc,hw]
  split <;> rename_i q40
  ·rw [if_pos (by omega)]
  ·rw [if_neg (by omega)]
 | false =>
  rw [hq] at e
  simp [Kyn,Kyo,e]
theorem Kyy {g:Nat} (hg:g < n) (ha:Kwy n a) (hl:a.length ≤ 1000000) (hy:y0.fty.length ≤ 1000) :
  Ko8 (⟨s⟩,⟨[],z,[y0],0,[]⟩,ctx,⟨11,(g:Int),ty,ks⟩,[Kwi a],us)=some (Kym ((19 + (g:Int)) :: y0.fty) (Kww s n g a) [y0]):=by
 have hn:=hs.tab.hi
 have e:=Kxi hs g hg a ha (by omega)
 have hw:wr (19 + (g:Int))=19 + (g:Int):=Kqb (by omega) (by omega)
 have hc:=Kxs [[19 + (g:Int)],y0.fty] (by simp) (by simp; omega)
 unfold Ko8 Kno Kym Kma
 simp only [List.flatten_cons,List.flatten_nil,List.append_nil,List.singleton_append,List.cons_append,List.nil_append] at hc
 simp [Kyn,Kyo,hc,hw,e]
 split <;> rename_i q40
 ·rw [if_pos (by omega)]
 ·rw [if_neg (by omega)]
theorem Kyz {g:Nat} (hg:g < n) {p q:List Int} (hty:y0.fty=(3 + (g:Int)) :: (p ++ q)) (hP:Ky1 s (3 + (g:Int)) p q) (ha:Kwy n a) (hb:Kwy n b) (hl:a.length ≤ 1000000) (hab:a.length=b.length) :
  Ko8 (⟨s⟩,⟨[],z,[y0,y1],0,[]⟩,ctx,⟨10,N,ty,ks⟩,[Kwi a,Kwi b],us)=some (Kym q (Kwv s n a (Kww s n g b)) [y0,y1]):=by
 have hn:=hs.tab.hi
 have e:=Kxi hs g hg b hb (by omega)
 have hlj:(Kww s n g b).length=a.length:=by unfold Kww; rw [List.length_map]; omega
 have h:=Kxe hs a (Kww s n g b) ha (Kx3 hs hg hb) (by omega) hlj.symm
 have hsh:Ks1 (3 + (g:Int))=(3,(g:Int)):=by
  rcases Ks3 (3 + (g:Int)) with h | h | h | h | h | h | h | h <;> first | omega | (obtain ⟨_,e⟩:=h; rw [e]; congr 1; omega)
 have hq:=Kxy hP.yb
 have pp:=hP.pp
 rw [← hty] at pp
 have i0:idx y0.fty 0=some (3 + (g:Int)):=by rw [hty]; rfl
 unfold Ko8 Kno Kym Kma
 simp [Kyn,Kyo,i0,Ks2,hsh,pp,e,h,show ¬ (40 < (q.length:Int)) by omega,show ¬ (40 < q.length) by omega]
theorem Kz0 {g:Nat} (hg:g < n) {u:List Nat} {us':List Int} (hu:Kwy n u) (hul:u.length ≤ 1000000) (ha:Kwy n a) (hb:Kwy n b) (hl:a.length ≤ 1000000) (hab:a.length=b.length) (h1:y1.fty.length ≤ 40) :
  Ko8 (⟨s⟩,⟨[],z,[y0,y1],0,[]⟩,ctx,⟨5,(g:Int),ty,ks⟩,[Kwi a,Kwi b],[us',Kwi u])=some (if (u.all fun x=>le s n x g)=true then Kym y1.fty (Kwv s n (Kww s n g a) b) [y0,y1] else (9,⟨[],z,[y0,y1],0,[]⟩)):=by
 have e:=Kxk hs g hg u hu (by omega)
 have e2:=Kxi hs g hg a ha (by omega)
 have hlj:(Kww s n g a).length=a.length:=by unfold Kww; rw [List.length_map]
 have h:=Kxe hs (Kww s n g a) b (Kx3 hs hg ha) hb (by omega) (by omega)
 unfold Ko8 Kno Kym Kma
 cases hq:(u.all fun x=>le s n x g) with
 | true =>
  rw [hq] at e
  simp [Kyn,Kyo,e,e2,h,show ¬ (40 < (y1.fty.length:Int)) by omega,show ¬ (40 < y1.fty.length) by omega]
 | false =>
  rw [hq] at e
  simp [Kyn,Kyo,e]
theorem Kz1 {g m:Nat} (hg:g < n) (hm:m < n) {p:List Int} (hty:y0.fty=(19 + (m:Int)) :: p) {u:List Nat} {us':List Int} (hu:Kwy n u) (hul:u.length ≤ 1000000) (ha:Kwy n a) (hb:Kwy n b) (hl:a.length ≤ 1000000) (hab:a.length=b.length) (h1:y1.fty.length ≤ 40) :
  Ko8 (⟨s⟩,⟨[],z,[y0,y1],0,[]⟩,ctx,⟨12,(g:Int),ty,ks⟩,[Kwi a,Kwi b],[us',Kwi u])=some (if (u.all fun x=>le s n x (ti s n g m))=true then Kym y1.fty (Kwv s n (Kww s n g a) b) [y0,y1] else (9,⟨[],z,[y0,y1],0,[]⟩)):=by
 have hn:=hs.tab.hi
 have e0:=Kr2 hs.tab hg hm
 have e:=Kxk hs (ti s n g m) (Kqv hs.tab hg hm) u hu (by omega)
 have e2:=Kxi hs g hg a ha (by omega)
 have hlj:(Kww s n g a).length=a.length:=by unfold Kww; rw [List.length_map]
 have h:=Kxe hs (Kww s n g a) b (Kx3 hs hg ha) hb (by omega) (by omega)
 have hsh:Ks1 (19 + (m:Int))=(4,(m:Int)):=by
  rcases Ks3 (19 + (m:Int)) with h | h | h | h | h | h | h | h <;> first | omega | (obtain ⟨_,e⟩:=h; rw [e]; congr 1; omega)
 have i0:idx y0.fty 0=some (19 + (m:Int)):=by rw [hty]; rfl
 unfold Ko8 Kno Kym Kma
 cases hq:(u.all fun x=>le s n x (ti s n g m)) with
 | true =>
  rw [hq] at e
  simp [Kyn,Kyo,i0,Ks2,hsh,e0,e,e2,h,show ¬ (40 < (y1.fty.length:Int)) by omega,show ¬ (40 < y1.fty.length) by omega]
 | false =>
  rw [hq] at e
  simp [Kyn,Kyo,i0,Ks2,hsh,e0,e]
theorem Kz2 {g:Nat} (hg:g < n) {u v:List Nat} {us':List Int} (hu:Kwy n u) (hul:u.length ≤ 1000000) (hv:Kwy n v) (hvl:v.length ≤ 1000000) (ha:Kwy n a) (hb:Kwy n b) (hd:Kwy n d) (hl:a.length ≤ 1000000) (hab:a.length=b.length) (had:a.length=d.length) (h2:y2.fty.length ≤ 1000) (h1:y1.fty.length ≤ 40) :
  Ko8 (⟨s⟩,⟨[],z,[y0,y1,y2],0,[]⟩,ctx,⟨8,(g:Int),ty,ks⟩,[Kwi a,Kwi b,Kwi d],[us',Kwi u,Kwi v]) =
   some (if y1.fty=y2.fty then (if (u.all fun x=>le s n x g)=true∧(v.all fun x=>le s n x g)=true then Kym y1.fty (Kwv s n (Kww s n g a) (Kwx s n b d)) [y0,y1,y2] else (9,⟨[],z,[y0,y1,y2],0,[]⟩)) else (3,⟨[],z,[y0,y1,y2],0,[]⟩)):=by
 have e:=Kxk hs g hg u hu (by omega)
 have e':=Kxk hs g hg v hv (by omega)
 have e2:=Kxi hs g hg a ha (by omega)
 have hj:=Kxg hs b d hb hd (by omega) (by omega)
 have hlj:(Kwx s n b d).length=a.length:=by unfold Kwx; rw [List.length_zipWith]; omega
 have hls:(Kww s n g a).length=a.length:=by unfold Kww; rw [List.length_map]
 have h:=Kxe hs (Kww s n g a) (Kwx s n b d) (Kx3 hs hg ha) (Kx4 hs hb hd) (by omega) (by omega)
 have he:=Kvn y1.fty y2.fty (by omega)
 unfold Ko8 Kno Kym Kma
 by_cases hq:y1.fty=y2.fty
 ·rw [show (y1.fty == y2.fty)=true from beq_iff_eq.2 hq] at he
  rw [if_pos hq]
  cases hu':(u.all fun x=>le s n x g) with
  | false =>
   rw [hu'] at e
   simp [Kyn,Kyo,Kyp,he,e]
  | true =>
   rw [hu'] at e
   cases hv':(v.all fun x=>le s n x g) with
   | false =>
    rw [hv'] at e'
    simp [Kyn,Kyo,Kyp,he,e,e']
   | true =>
    rw [hv'] at e'
    simp [Kyn,Kyo,Kyp,he,e,e',e2,hj,h,show ¬ (40 < (y1.fty.length:Int)) by omega,show ¬ (40 < y1.fty.length) by omega]
 ·rw [show (y1.fty == y2.fty)=false from beq_eq_false_iff_ne.2 hq] at he
  rw [if_neg hq]
  simp [Kyn,Kyo,Kyp,he]
end
theorem Kz3 {op N:Int} {ty:List Int} {ks:List K01} {i:Nat} {q:List Int} (h9:op ≠ 9) (h:Kt6 op (i:Int)=0):Kkz (⟨op,N,ty,ks⟩,(i:Int),q)=some []:=by
 unfold Kkz
 simp only
 rw [if_neg (by simpa using h9),Kt9,bs,h]
 rfl
theorem Kz4 {N:Int} {ty:List Int} {ks:List K01} {i:Nat} {q:List Int}:Kkz (⟨9,N,ty,ks⟩,(i:Int),q)=some [ty]:=by
 unfold Kkz
 simp only
 rw [if_pos (by decide)]
theorem Kz5 {s:K00} {N:Int} {ty:List Int} {ks:List K01} {p q:List Int} (h:Ky1 s 1 p q):Kkz (⟨5,N,ty,ks⟩,((1:Nat):Int),1 :: (p ++ q))=some [q,p]:=by
 unfold Kkz
 simp only
 rw [if_neg (by decide),Kt9,bs,show Kt6 5 ((1:Nat):Int)=2 from rfl,if_neg (by decide),h.pp,bs,if_pos (by decide)]
 rfl
theorem Kz6 {s:K00} {N:Int} {ty:List Int} {ks:List K01} {p q:List Int} (h:Ky1 s 2 p q):Kkz (⟨8,N,ty,ks⟩,((1:Nat):Int),2 :: (p ++ q))=some [p]:=by
 unfold Kkz
 simp only
 rw [if_neg (by decide),Kt9,bs,show Kt6 8 ((1:Nat):Int)=1 from rfl,if_neg (by decide),h.pp,bs,if_neg (by decide),if_pos (by decide)]
 rfl
theorem Kz7 {s:K00} {N:Int} {ty:List Int} {ks:List K01} {p q:List Int} (h:Ky1 s 2 p q):Kkz (⟨8,N,ty,ks⟩,((2:Nat):Int),2 :: (p ++ q))=some [q]:=by
 unfold Kkz
 simp only
 rw [if_neg (by decide),Kt9,bs,show Kt6 8 ((2:Nat):Int)=1 from rfl,if_neg (by decide),h.pp,bs,if_neg (by decide),if_pos (by decide)]
 rfl
theorem Kz8 {s:K00} {N c:Int} {ty:List Int} {ks:List K01} {p:List Int} (h:Ky2 s c p):Kkz (⟨12,N,ty,ks⟩,((1:Nat):Int),c :: p)=some [p]:=by
 unfold Kkz
 simp only
 rw [if_neg (by decide),Kt9,bs,show Kt6 12 ((1:Nat):Int)=1 from rfl,if_neg (by decide),h.pp,bs,if_neg (by decide),if_neg (by decide)]
theorem Kz9 (q ns:List Int):Kfw (q,ns)=if q.length > 40 then some ⟨[],[],3,[]⟩ else some ⟨q,ns,0,[]⟩:=by
 unfold Kfw Kff
 simp only
 by_cases h:q.length > 40
 ·rw [decide_eq_true (by omega),if_pos rfl,if_pos h]; rfl
 ·rw [decide_eq_false (by omega),if_neg (by decide),if_neg h]
section
variable {s:K00} {n:Nat} (hs:Kwn s n) {ctx:List (List Int)} {N:Int} {ty:List Int} {ks:List K01}
include hs
theorem Kza {q:List Int} (hq:TyS s q):∃ c r,q=c :: r∧((Ks1 c).1=0 ↔ c=0)∧(c=0→q=[0]):=by
 rcases Ky6 hs hq with rfl | ⟨a,b,rfl,_⟩ | ⟨a,b,rfl,_⟩ | ⟨g,a,b,hg,h15,rfl,_⟩ | ⟨g,a,hg,h15,rfl,_⟩
 ·exact ⟨0,[],rfl,by decide,fun _=>rfl⟩
 ·exact ⟨1,_,rfl,by decide,fun h=>absurd h (by decide)⟩
 ·exact ⟨2,_,rfl,by decide,fun h=>absurd h (by decide)⟩
 ·refine ⟨_,_,rfl,?_,fun h=>by omega⟩
  rcases Ks3 (3 + (g:Int)) with h | h | h | h | h | h | h | h <;> first | omega | (obtain ⟨_,e⟩:=h; rw [e]; simp; omega)
 ·refine ⟨_,_,rfl,?_,fun h=>by omega⟩
  rcases Ks3 (19 + (g:Int)) with h | h | h | h | h | h | h | h <;> first | omega | (obtain ⟨_,e⟩:=h; rw [e]; simp; omega)
end
theorem Kzb (g:Nat) (h:g ≤ 15):Ks1 (3 + (g:Int))=(3,(g:Int)):=by
 rcases Ks3 (3 + (g:Int)) with h | h | h | h | h | h | h | h <;> first | omega | (obtain ⟨_,e⟩:=h; rw [e]; congr 1; omega)
theorem Kzc (g:Nat) (h:g ≤ 15):Ks1 (19 + (g:Int))=(4,(g:Int)):=by
 rcases Ks3 (19 + (g:Int)) with h | h | h | h | h | h | h | h <;> first | omega | (obtain ⟨_,e⟩:=h; rw [e]; congr 1; omega)
theorem Kzd (g:Nat) (h:g ≤ 15):Kru (3 + (g:Int))=true:=by unfold Kru inB; simp; omega
theorem Kze (g:Nat) (h:g ≤ 15):Kru (19 + (g:Int))=false:=by unfold Kru inB; simp; omega
theorem Kzf (g:Nat) (h:g ≤ 15):Krv (3 + (g:Int))=false:=by unfold Krv inB; simp; omega
theorem Kzg (g:Nat) (h:g ≤ 15):Krv (19 + (g:Int))=true:=by unfold Krv inB; simp; omega
theorem Kzh (g:Nat) (h:g ≤ 15):Kcu (3 + (g:Int))=some (g:Int):=by
 rw [Ksj (by rcases Ks0 (3 + (g:Int)) with h | h | h | h <;> omega)]
 unfold Ksh
 rw [if_neg (by omega),if_neg (by omega)]
 congr 1; omega
theorem Kzi (g:Nat) (h:g ≤ 15):Kcu (19 + (g:Int))=some (g:Int):=by
 rw [Ksj (by rcases Ks0 (19 + (g:Int)) with h | h | h | h <;> omega)]
 unfold Ksh
 rw [if_neg (by omega),if_pos (by omega)]
 congr 1; omega
section
variable {s:K00} {n:Nat} (hs:Kwn s n) {ctx:List (List Int)} {N:Int} {ty:List Int} {ks:List K01}
include hs
structure Kzj (s:K00) (n:Nat) (q:List Int) (c:Int):Prop where
 arr:(Ks1 c).1=3→∃ (g:Nat) (a b:List Int),g < n∧g ≤ 15∧c=3 + (g:Int)∧q=c :: (a ++ b)∧Ky1 s (3 + (g:Int)) a b
 pair:(Ks1 c).1=1→∃ (a b:List Int),c=1∧q=c :: (a ++ b)∧Ky1 s 1 a b
 sum:(Ks1 c).1=2→∃ (a b:List Int),c=2∧q=c :: (a ++ b)∧Ky1 s 2 a b
 box:(Ks1 c).1=4→∃ (g:Nat) (a:List Int),g < n∧g ≤ 15∧c=19 + (g:Int)∧q=c :: a∧Ky2 s (19 + (g:Int)) a
 arrB:Kru c=true ↔ (Ks1 c).1=3
 boxB:Krv c=true ↔ (Ks1 c).1=4
 one:c=1 ↔ (Ks1 c).1=1
 two:c=2 ↔ (Ks1 c).1=2
theorem Kzk {q:List Int} (hq:TyS s q) {c:Int} {r:List Int} (e:q=c :: r):Kzj s n q c:=by
 rcases Ky6 hs hq with rfl | ⟨a,b,rfl,P⟩ | ⟨a,b,rfl,P⟩ | ⟨g,a,b,hg,h15,rfl,P⟩ | ⟨g,a,hg,h15,rfl,P⟩
 ·cases e
  refine ⟨fun h=>?_,fun h=>?_,fun h=>?_,fun h=>?_,by decide,by decide,by decide,by decide⟩ <;> exact absurd h (by decide)
 ·cases e
  refine ⟨fun h=>absurd h (by decide),fun _=>⟨a,b,rfl,rfl,P⟩,fun h=>absurd h (by decide),fun h=>absurd h (by decide),by decide,by decide,by decide,by decide⟩
 ·cases e
  refine ⟨fun h=>absurd h (by decide),fun h=>absurd h (by decide),fun _=>⟨a,b,rfl,rfl,P⟩,fun h=>absurd h (by decide),by decide,by decide,by decide,by decide⟩
 ·cases e
  have hsh:=Kzb g h15
  refine ⟨fun _=>⟨g,a,b,hg,h15,rfl,rfl,P⟩,fun h=>?_,fun h=>?_,fun h=>?_,?_,?_,?_,?_⟩
  ·rw [hsh] at h; simp at h
  ·rw [hsh] at h; simp at h
  ·rw [hsh] at h; simp at h
  ·rw [hsh,Kzd g h15]; simp
  ·rw [hsh,Kzf g h15]; simp
  ·rw [hsh]; simp; omega
  ·rw [hsh]; simp; omega
 ·cases e
  have hsh:=Kzc g h15
  refine ⟨fun h=>?_,fun h=>?_,fun h=>?_,fun _=>⟨g,_,hg,h15,rfl,rfl,P⟩,?_,?_,?_,?_⟩
  ·rw [hsh] at h; simp at h
  ·rw [hsh] at h; simp at h
  ·rw [hsh] at h; simp at h
  ·rw [hsh,Kze g h15]; simp
  ·rw [hsh,Kzg g h15]; simp
  ·rw [hsh]; simp; omega
  ·rw [hsh]; simp; omega
end
def Kzl (s:K00) (n:Nat) (x:Nat) (g:Int):Bool:=Kus s g && le s n x g.toNat
def Kzm (s:K00) (n:Nat) (a:List Nat) (b:List Int):Bool:=(List.zipWith (Kzl s n) a b).all id
section
variable {s:K00} {n:Nat} (hs:Kwn s n)
include hs
theorem Kzn {g:Int} (h:Kus s g=true):∃ k:Nat,g=(k:Int)∧k < n:=Ky7 hs (by rw [← Kxx hs.tab]; exact h)
theorem Kzo (a:List Nat) (b:List Int) (ha:Kwy n a) (hl:a.length ≤ 1048576):∀ (al:List Nat) (bl:List Int) (i:Nat),a.drop i=al→b.drop i=bl→al.length=bl.length →
  Kh3 (s,Kwi a,b,(i:Int))=some (if Kzm s n al bl then .inl () else .inr false):=by
 intro al
 induction al with
 | nil =>
  intro bl i hd hd2 he
  rw [Kh3.eq_def]
  simp only
  rw [Kwj,Kqf (Krt hd)]
  rfl
 | cons x al ih =>
  intro bl i hd hd2 he
  obtain ⟨h1,h2,h3⟩:=Kwm hd
  have hx:x < n:=Kx1 ha i x (by rw [hd]; exact List.mem_cons_self)
  match bl,he,hd2 with
  | g :: bl,he,hd2 =>
  obtain ⟨k1,k2,k3⟩:=Krs hd2
  rw [Kh3.eq_def]
  simp only
  rw [Kwj,Kqe h1,if_pos rfl,k2,bs,sIn,bs]
  have e:Kzm s n (x :: al) (g :: bl)=(Kzl s n x g && Kzm s n al bl):=rfl
  rw [e]
  unfold Kzl
  cases hg:Kus s g with
  | false =>
   unfold Kus at hg
   rw [hg]
   rfl
  | true =>
   obtain ⟨k,rfl,hk⟩:=Kzn hs hg
   have hg':=hg
   unfold Kus at hg
   rw [hg,if_pos rfl,h2,bs,bs,sLe hs.tab hx hk,bs,bs,Int.toNat_natCast,Bool.true_and]
   cases hle:le s n x k with
   | false=>rfl
   | true =>
    rw [if_neg (by decide),Kqd (by omega),ih bl (i + 1) h3 k3 (by simpa using he),Bool.true_and]
theorem Kzp (a:List Nat) (b:List Int) (ha:Kwy n a) (hl:a.length ≤ 1048576):Kh6 (s,Kwi a,b)=some (decide (a.length=b.length) && Kzm s n a b):=by
 unfold Kh6
 simp only
 rw [Kwj]
 by_cases h:a.length=b.length
 ·rw [if_neg (by simp [h]),show (0:Int)=((0:Nat):Int) from rfl,Kzo hs a b ha hl a b 0 rfl rfl h,bs,decide_eq_true h,Bool.true_and]
  cases Kzm s n a b <;> rfl
 ·rw [if_pos (bne_iff_ne.2 (by omega)),decide_eq_false h,Bool.false_and]
end
mutual
theorem Kzq:∀ (a b:K01),tms a ≤ 1099511627776→tms b ≤ 1099511627776→Kki (a,b)=some (tEq a b)
 | ⟨o,N,t,k⟩,⟨o',N',t',k'⟩,ha,hb=>by
  rw [tms] at ha hb
  rw [Kki.eq_def,tEq]
  simp only
  rw [Kvn t t' (by omega)]
  have hk:Kkj (k,k')=some (k.length == k'.length && Kwf k k'):=by
   rw [Kkj.eq_def]
   simp only
   by_cases h4:k.length=k'.length
   ·have hl:=Kzr k k' k k' 0 rfl rfl h4 (by omega) (by omega) (by omega)
    rw [show ((0:Nat):Int)=0 from rfl] at hl
    rw [show ((k.length:Int) != (k'.length:Int))=false by rw [h4]; exact Kql,if_neg (by decide),hl,bs,beq_iff_eq.2 h4]
    cases Kwf k k' <;> rfl
   ·rw [bne_iff_ne.2 (by omega),if_pos rfl,beq_eq_false_iff_ne.2 h4]; rfl
  rw [hk]
  cases o == o' <;> cases N == N' <;> cases t == t' <;> rfl
theorem Kzr:∀ (ks js a b:List K01) (i:Nat),a.drop i=ks→b.drop i=js→ks.length=js.length→a.length ≤ 1099511627776→Kso ks ≤ 1099511627776→Kso js ≤ 1099511627776→Kkk (a,b,(i:Int))=some (if Kwf ks js then .inl () else .inr false)
 | [],js,a,b,i,h1,h2,hl,hk,m1,m2=>by
  rw [Kkk.eq_def,Kwf]
  simp only
  rw [Kqf (Krt h1)]; rfl
 | x :: ks,[],a,b,i,h1,h2,hl,hk,m1,m2=>by simp at hl
 | x :: ks,y :: js,a,b,i,h1,h2,hl,hk,m1,m2=>by
  obtain ⟨hi,hx,hd⟩:=Krs h1
  obtain ⟨_,hy,hd2⟩:=Krs h2
  rw [Kso] at m1 m2
  rw [Kkk.eq_def,Kwf]
  simp only
  rw [Kqe hi,if_pos rfl,hx,bs,hy,bs,Kzq x y (by omega) (by omega),bs,Kqd (by omega),Kzr ks js a b (i + 1) hd hd2 (by simpa using hl) hk (by omega) (by omega)]
  cases tEq x y <;> rfl
end
theorem Kzs (a b:List (List Int)) (ha:a.length ≤ 1099511627776) (hb:∀ q ∈ b,q.length ≤ 1099511627776):∀ (al bl:List (List Int)) (i:Nat),a.drop i=al→b.drop i=bl→al.length=bl.length →
  Kf6 (a,b,(i:Int))=some (if al=bl then .inl () else .inr false)∧Klk (a,b,(i:Int))=some (if al=bl then .inl () else .inr false):=by
 intro al
 induction al with
 | nil =>
  intro bl i h1 h2 hl
  match bl,hl,h2 with
  | [],hl,h2 =>
  rw [Kf6.eq_def,Klk.eq_def]
  simp only
  rw [Kqf (Krt h1)]
  exact ⟨rfl,rfl⟩
 | cons x al ih =>
  intro bl i h1 h2 hl
  match bl,hl,h2 with
  | y :: bl,hl,h2 =>
  obtain ⟨hi,hx,hd⟩:=Krs h1
  obtain ⟨_,hy,hd2⟩:=Krs h2
  have hm:y ∈ b:=List.mem_of_mem_drop (i:=i) (by rw [h2]; exact List.mem_cons_self)
  obtain ⟨r1,r2⟩:=ih bl (i + 1) hd hd2 (by simpa using hl)
  rw [Kf6.eq_def,Klk.eq_def]
  unfold Klg
  simp only
  rw [Kqe hi,if_pos rfl,if_pos rfl,hx,bs,bs,hy,bs,bs,Kvl x y (hb y hm),Kvn x y (hb y hm),bs,bs,bs,Kqd (by omega),r1,r2]
  by_cases he:x=y
  ·subst he
   rw [if_pos (beq_self_eq_true _)]
   simp
  ·rw [if_neg (by simpa using he),if_neg (by simp [he])]
   exact ⟨rfl,rfl⟩
theorem Kzt (a b:List (List Int)) (ha:a.length ≤ 1099511627776) (hb:∀ q ∈ b,q.length ≤ 1099511627776):Kf9 (a,b)=some (decide (a=b))∧Klq (a,b)=some (decide (a=b)):=by
 unfold Kf9 Klq Kln
 simp only
 by_cases h:a.length=b.length
 ·obtain ⟨r1,r2⟩:=Kzs a b ha hb a b 0 rfl rfl h
  rw [show ((0:Nat):Int)=0 from rfl] at r1 r2
  rw [show ((a.length:Int) != (b.length:Int))=false by rw [h]; exact Kql,if_neg (by decide),if_neg (by decide),r1,r2]
  by_cases e:a=b
  ·rw [if_pos e,decide_eq_true e]; exact ⟨rfl,rfl⟩
  ·rw [if_neg e,decide_eq_false e]; exact ⟨rfl,rfl⟩
 ·have:¬ a=b:=fun e=>h (by rw [e])
  rw [bne_iff_ne.2 (by omega),if_pos rfl,if_pos rfl,decide_eq_false this]
  exact ⟨rfl,rfl⟩
structure Kzu (s:K00) (n:Nat) (j:K02) (ns:List Nat):Prop where
 cl:j.fCtx.length ≤ 400
 cx:∀ q ∈ j.fCtx,TyS s q
 bu:j.fBudgets=Kwi ns
 bl:ns.length=j.fCtx.length
 bb:Kwy n ns
 ty:TyS s j.fType
 ok:tOk (gN s.fSize true) (yN s.fSize true) j.fCtx.length j.fTerm=true
 sz:tsz j.fTerm ≤ 400
section
variable {s:K00} {n:Nat} (hs:Kwn s n)
include hs
theorem Kzv:∀ (cs:List (List Int)) (bs:List Int),bs.length=cs.length→Kw9 s cs bs=true→(∀ q ∈ cs,TyS s q)∧∃ ns:List Nat,bs=Kwi ns∧Kwy n ns
 | [],[],_,_=>⟨fun _ h=>(by cases h),[],rfl,Kwz n⟩
 | c :: cs,b :: bs,hl,h=>by
  rw [Kw9,Bool.and_eq_true,Bool.and_eq_true] at h
  obtain ⟨h1,ns,h2,h3⟩:=Kzv cs bs (by simpa using hl) h.2
  obtain ⟨k,rfl,hk⟩:=Kzn hs (g:=b) h.1.1
  refine ⟨fun q hq=>?_,k :: ns,by rw [h2]; rfl,fun x hx=>?_⟩
  ·rcases List.mem_cons.1 hq with rfl | hq
   ·unfold TyS; rw [← Kv0 hs.tab]; exact h.1.2
   ·exact h1 q hq
  ·rcases List.mem_cons.1 hx with rfl | hx
   ·exact hk
   ·exact h3 x hx
 | [],b :: bs,hl,_=>by simp at hl
 | c :: cs,[],hl,_=>by simp at hl
theorem Kzw {j:K02} (h:Kwc s j=true):∃ ns,Kzu s n j ns:=by
 unfold Kwc at h
 simp only [Bool.and_eq_true,decide_eq_true_eq,beq_iff_eq] at h
 obtain ⟨⟨⟨⟨h1,h2⟩,h3⟩,h4⟩,h5,h6⟩:=h
 obtain ⟨a,ns,b,c⟩:=Kzv hs j.fCtx j.fBudgets h2 h4
 rw [Kxx hs.tab,show Kuv s=yN s.fSize true from funext fun ty=>Kv0 hs.tab ty] at h5
 refine ⟨ns,h1,a,b,?_,c,?_,h5,h6⟩
 ·rw [← h2,b,Kwj]
 ·unfold TyS; rw [← Kv0 hs.tab]; exact h3
end
theorem Kzx (s:K00) (j:K02) (hj:jms j ≤ 1048576):Keb (s,j)=some (Ku8 s && Kwc s j):=by
 have hj':=hj
 unfold jms lms at hj'
 unfold Keb
 simp only
 rw [Kv2 s _ (by omega)]
 unfold Kv1
 cases hs:Ku8 s
 ·rfl
 ·have T:=Ku9 hs
  unfold Kwc
  simp only [bs,Bool.true_and]
  rw [show Kus s=gN s.fSize true from Kw8 T,show Kuv s=yN s.fSize true from funext fun ty=>Kv0 T ty]
  cases hty:yN s.fSize true j.fType
  ·rw [if_neg (by decide),bs,if_pos rfl,Bool.and_false,Bool.false_and,Bool.false_and]
  ·rw [if_pos rfl]
   by_cases h1:j.fCtx.length ≤ 400
   ·rw [decide_eq_false (by omega),decide_eq_true h1,if_neg (by decide)]
    by_cases h2:j.fBudgets.length=j.fCtx.length
    ·have hlft:=Ksu j.fTerm 400 (by omega) (by decide)
     rw [show ((400:Nat):Int)=400 from rfl] at hlft
     have hl0:=Kwa s T j h2 ⟨by omega,by omega⟩ j.fCtx j.fBudgets 0 rfl rfl
     rw [show ((0:Nat):Int)=0 from rfl] at hl0
     rw [hlft,hl0,Ktg s.fSize true j.fTerm j.fCtx.length (by omega) (by omega),h2,Kql,if_neg (by decide),beq_self_eq_true]
     simp only [bs]
     by_cases h3:tsz j.fTerm ≤ 400
     ·rw [Ksr h3,decide_eq_false (by omega),decide_eq_true h3]
      cases tOk (gN s.fSize true) (yN s.fSize true) j.fCtx.length j.fTerm <;> cases Kw9 s j.fCtx j.fBudgets <;> rfl
     ·rw [Kss h3,decide_eq_false h3]
      cases tOk (gN s.fSize true) (yN s.fSize true) j.fCtx.length j.fTerm <;> cases Kw9 s j.fCtx j.fBudgets <;> rfl
    ·rw [bne_iff_ne.2 (by omega),beq_eq_false_iff_ne.2 h2]; rfl
   ·rw [decide_eq_true (by omega),decide_eq_false h1]; rfl
theorem Kzy {s:K00} (h:Ku8 s=true) (j:K02) (hj:jms j ≤ 1048576):Keb (s,j)=some (Kwc s j):=by
 rw [Kzx s j hj,h,Bool.true_and]
structure Kzz (s:K00) (n:Nat) (l:List K02) (i:Nat) (J:K02) (ns:List Nat):Prop where
 hs:Kwn s n
 sy:Ku8 s=true
 hz:sms s ≤ 1048576
 hl:∀ r ∈ l,jms r ≤ 1048576∧jln r
 ln:l.length ≤ 1048576
 hi:i < l.length
 hJ:idx l (i:Int)=some J
 jd:Kzu s n J ns
 fr:J.fFrom.length=J.fTerm.fKids.length
 tm:tms J.fTerm ≤ 1048576
def V00 (r:K02):K03:=⟨r.fType,r.fBudgets,0,[]⟩
def V01 (r:K02):K05:=⟨r.fType,[],[],0,[]⟩
def sC (s:K00) (l:List K02) (i:Int) (J:K02) (K:List K03) (w:Int) (r:K02):Option ((List K03) ⊕ Bool) :=
 (Qdq (K.length + [V00 r].length) 80) >>= fun _=>(idx (K ++ [V00 r]) 0) >>= fun e=>(Kez (J.fTerm,e.fty,w)) >>= fun (q:(List (List Int)) × Bool) =>
 ((if q.2=true then Kf2 (J.fCtx,q.1) >>= fun c=>Kf9 (r.fCtx,c) >>= fun b=>some (!b) else some true):Option Bool) >>= fun v =>
 if v=true then some (.inr false) else Kha (s,l,i,J,K ++ [V00 r],wr (w + 1))
def V02 (t:K01) (o:List K05) (w:Int) (r:K02):Option Bool :=
 if (t.fOp == 10)=true then
  if (w == 1)=true then (idx (o ++ [V01 r]) 0) >>= fun e=>(Kkw e.fty) >>= fun q=>(idx q 0) >>= fun p=>(Kke (r.fType,p)) >>= fun b=>some (!b) else some false
 else some false
def iC (s:K00) (l:List K02) (i:Int) (J:K02) (o:List K05) (nd us:List (List Int)) (w:Int) (r:K02):Option ((List K05 × List (List Int) × List (List Int)) ⊕ Bool) :=
 ((if decide (w > 0)=true then (idx o 0) >>= fun e=>some e.fty else some []):Option (List Int)) >>= fun first =>
 (Kkz (J.fTerm,w,first)) >>= fun more =>
 ((Kld [more,J.fCtx] >>= fun c=>Klq (r.fCtx,c) >>= fun b=>if b=true then Klu (⟨s⟩,J.fTerm,w,r.fType) >>= fun f=>some (f != 0) else some true):Option Bool) >>= fun v =>
 if v=true then some (.inr false) else
 (Qdq (o.length + [V01 r].length) 8) >>= fun _ =>
 (V02 J.fTerm o w r) >>= fun v =>
 if v=true then some (.inr false) else
 (cut r.fBudgets none (some (more.length:Int)) none) >>= fun c1=>(Qdq (us.length + [c1].length) 24) >>= fun _=>(cut r.fBudgets (some (more.length:Int)) none none) >>= fun c2=>(Qdq (nd.length + [c2].length) 24) >>= fun _ =>
 Kog (s,l,i,J,o ++ [V01 r],nd ++ [c2],us ++ [c1],wr (w + 1))
theorem V03 (i:Nat) (h:i ≤ 1048576):wr ((i:Int) - 1)=(i:Int) - 1:=by
 exact Kqb (by omega) (by omega)
section
variable {s:K00} {n:Nat} {l:List K02} {i:Nat} {J:K02} {nj:List Nat} (E:Kzz s n l i J nj)
include E
theorem V04 {w:Nat} {j:Int} {k:K01} (hw:w < J.fFrom.length) (hj:idx J.fFrom (w:Int)=some j) (hk:idx J.fTerm.fKids (w:Int)=some k) (hm:tms k ≤ 1048576) :
  ((∀ K,Kha (s,l,(i:Int),J,K,(w:Int))=some (.inr false))∧(∀ o nd us,Kog (s,l,(i:Int),J,o,nd,us,(w:Int))=some (.inr false))) ∨
  ∃ r ns,Kzu s n r ns∧r.fType.length ≤ 1048576∧(∀ K,Kha (s,l,(i:Int),J,K,(w:Int))=sC s l i J K w r)∧(∀ o nd us,Kog (s,l,(i:Int),J,o,nd,us,(w:Int))=iC s l i J o nd us w r):=by
 have hi:=E.hi
 have hn:=E.ln
 cases hb:inB j 0 (wr ((i:Int) - 1)) with
 | false =>
  refine .inl ⟨fun K=>?_,fun o nd us=>?_⟩
  ·rw [Kha.eq_def]
   simp only
   rw [Kqe hw,if_pos rfl,hj,bs,sIn,bs,hb,if_neg (by decide)]
  ·rw [Kog.eq_def]
   simp only
   rw [Kqe hw,if_pos rfl,hj,bs,iIn,bs,hb,if_neg (by decide),bs,if_pos rfl]
 | true =>
  have hb':=hb
  rw [V03 i (by omega)] at hb'
  unfold inB at hb'
  simp only [Bool.and_eq_true,decide_eq_true_eq] at hb'
  obtain ⟨c,rfl⟩:∃ c:Nat,j=(c:Int):=⟨j.toNat,by omega⟩
  have hc:c < l.length:=by omega
  have hr:idx l (c:Int)=some l[c]:=Kqc hc
  have hmem:l[c] ∈ l:=List.getElem_mem hc
  generalize l[c]=r at hr hmem
  obtain ⟨m1,m2⟩:=E.hl r hmem
  have s1:=Kzy E.sy r m1
  have i1:=Kwe s r (by omega)
  have m1':=m1
  unfold jms at m1'
  cases hg:Kwc s r with
  | false =>
   rw [hg] at s1 i1
   refine .inl ⟨fun K=>?_,fun o nd us=>?_⟩
   ·rw [Kha.eq_def]
    simp only
    rw [Kqe hw,if_pos rfl]
    simp only [hj,bs,sIn,hb,if_true,hr,s1,Bool.false_eq_true,if_false]
   ·rw [Kog.eq_def]
    simp only
    rw [Kqe hw,if_pos rfl]
    simp only [hj,bs,iIn,hb,if_true,hr,i1,Bool.false_eq_true,if_false]
  | true =>
   rw [hg] at s1 i1
   have s2:=Kwg r.fTerm k (by omega) (by omega)
   have i2:=Kzq r.fTerm k (by omega) (by omega)
   cases hq:tEq r.fTerm k with
   | false =>
    rw [hq] at s2 i2
    refine .inl ⟨fun K=>?_,fun o nd us=>?_⟩
    ·rw [Kha.eq_def]
     simp only
     rw [Kqe hw,if_pos rfl]
     simp only [hj,bs,sIn,hb,if_true,hr,s1,hk,s2,Bool.not_false]
    ·rw [Kog.eq_def]
     simp only
     rw [Kqe hw,if_pos rfl]
     simp only [hj,bs,iIn,hb,if_true,hr,i1,hk,i2,Bool.not_false]
   | true =>
    rw [hq] at s2 i2
    obtain ⟨ns,hR⟩:=Kzw E.hs hg
    refine .inr ⟨r,ns,hR,by omega,fun K=>?_,fun o nd us=>?_⟩
    ·rw [Kha.eq_def]
     simp only
     rw [Kqe hw,if_pos rfl]
     simp only [hj,bs,sIn,hb,if_true,hr,s1,hk,s2,Bool.not_true,Bool.false_eq_true,if_false]
     rfl
    ·rw [Kog.eq_def]
     simp only
     rw [Kqe hw,if_pos rfl]
     simp only [hj,bs,iIn,hb,if_true,hr,i1,hk,i2,Bool.not_true,Bool.false_eq_true,if_false]
     rfl
theorem V05 {w:Nat} {r:K02} {K:List K03} {e:K03} {m:List (List Int)} {ok:Bool} {ns:List Nat} (hR:Kzu s n r ns) (hw:w ≤ 1000) (hK:K.length ≤ 1000) (he:idx (K ++ [V00 r]) 0=some e) (hf:Kez (J.fTerm,e.fty,(w:Int))=some (m,ok)) (hm:m.length ≤ 2) (hq:∀ q ∈ m,TyS s q) :
  sC s l i J K w r=if (ok && decide (r.fCtx=m ++ J.fCtx))=true then Kha (s,l,(i:Int),J,K ++ [V00 r],((w + 1:Nat):Int)) else some (.inr false):=by
 have h1:=E.jd.cl
 have h2:=hR.cl
 unfold sC
 rw [Ktu (by simp; omega),bs,he,bs,hf,bs]
 cases ok with
 | false=>rfl
 | true =>
  have hc:=(Kzt r.fCtx (m ++ J.fCtx) (by omega) (fun q hqq=>by
   rcases List.mem_append.1 hqq with h | h
   ·have:=Kxy (hq q h); omega
   ·have:=Kxy (E.jd.cx q h); omega)).1
  simp only [if_true]
  rw [Kxm J.fCtx m (by omega),bs,hc,bs,bs,Bool.true_and,Kqd (by omega)]
  cases decide (r.fCtx=m ++ J.fCtx) <;> rfl
theorem V06 {w:Nat} {r:K02} {o:List K05} {nd us:List (List Int)} {first:List Int} {m:List (List Int)} {f:Int} {ab:Bool} {ns:List Nat} (hR:Kzu s n r ns) (hw:w ≤ 1000) (ho:o.length ≤ 1000) (hnd:nd.length ≤ 1000) (hus:us.length ≤ 1000)
  (h1:((if decide ((w:Int) > 0)=true then (idx o 0) >>= fun e=>some e.fty else some []):Option (List Int))=some first) (ha:Kkz (J.fTerm,(w:Int),first)=some m) (hm:m.length ≤ 2) (hq:∀ q ∈ m,TyS s q)
  (hf:Klu (⟨s⟩,J.fTerm,(w:Int),r.fType)=some f) (hab:f=0→r.fCtx=m ++ J.fCtx→V02 J.fTerm o w r=some ab) :
  iC s l i J o nd us w r=if (decide (r.fCtx=m ++ J.fCtx) && f == 0 && !ab)=true then Kog (s,l,(i:Int),J,o ++ [V01 r],nd ++ [Kwi (ns.drop m.length)],us ++ [Kwi (ns.take m.length)],((w + 1:Nat):Int)) else some (.inr false):=by
 have k1:=E.jd.cl
 have k2:=hR.cl
 have hc:=(Kzt r.fCtx (m ++ J.fCtx) (by omega) (fun q hqq=>by
  rcases List.mem_append.1 hqq with h | h
  ·have:=Kxy (hq q h); omega
  ·have:=Kxy (E.jd.cx q h); omega)).2
 unfold iC
 rw [h1,bs,ha,bs,Kxw [m,J.fCtx] (by simp) (by simp; omega),show [m,J.fCtx].flatten=m ++ J.fCtx by simp,bs,hc,bs]
 by_cases hx:r.fCtx=m ++ J.fCtx
 ·rw [decide_eq_true hx,if_pos rfl,hf,bs,bs,Bool.true_and]
  by_cases h0:f=0
  ·subst h0
   have hlen:m.length ≤ ns.length:=by rw [hR.bl,hx,List.length_append]; omega
   rw [if_neg (by decide),Ktu (by simp; omega),bs,hab rfl hx,bs]
   cases ab with
   | true=>rfl
   | false =>
    rw [if_neg (by decide),hR.bu,Kyd (by rw [Kwj]; exact hlen),bs,Ktu (by simp; omega),bs,Kye (by rw [Kwj]; exact hlen),bs,Ktu (by simp; omega),bs,Kqd (by omega),Kwl,Kwk]
    rfl
  ·rw [if_pos (by simpa using h0),show (f == 0)=false from by simpa using h0]; rfl
 ·rw [decide_eq_false hx]; rfl
end
section
variable {s:K00} {N:Int} {ty:List Int} {ks:List K01} {q:List Int}
theorem V07 {op:Int} {w:Nat} (h:Kt6 op (w:Int)=0):Kez (⟨op,N,ty,ks⟩,q,(w:Int))=some ([],true):=by
 unfold Kez
 simp only
 rw [Kt8,bs,h]; rfl
theorem V08 {w:Nat}:Kez (⟨9,N,ty,ks⟩,q,(w:Int))=some ([ty],true):=by
 unfold Kez
 simp only
 rw [Kt8,bs,show Kt6 9 (w:Int)=1 from rfl]; rfl
theorem V09 {a b:List Int} (h:Ky1 s 1 a b):Kez (⟨5,N,ty,ks⟩,1 :: (a ++ b),((1:Nat):Int))=some ([b,a],true):=by
 unfold Kez
 simp only
 rw [Kt8,bs,show Kt6 5 ((1:Nat):Int)=2 from rfl,if_neg (by decide),if_neg (by decide),if_pos (by decide),Kyn,bs,bs,if_pos (by decide),h.p1,bs,h.p0,bs]
theorem V0a {c:Int} {r:List Int} (h:c ≠ 1):Kez (⟨5,N,ty,ks⟩,c :: r,((1:Nat):Int))=some ([],false):=by
 unfold Kez
 simp only
 rw [Kt8,bs,show Kt6 5 ((1:Nat):Int)=2 from rfl,if_neg (by decide),if_neg (by decide),if_pos (by decide),Kyn,bs,bs,if_neg (by simpa using h)]
 rfl
theorem V0b {a b:List Int} (h:Ky1 s 2 a b):Kez (⟨8,N,ty,ks⟩,2 :: (a ++ b),((1:Nat):Int))=some ([a],true)∧Kez (⟨8,N,ty,ks⟩,2 :: (a ++ b),((2:Nat):Int))=some ([b],true):=by
 unfold Kez
 simp only
 constructor
 ·rw [Kt8,bs,show Kt6 8 ((1:Nat):Int)=1 from rfl,if_neg (by decide),if_neg (by decide),if_neg (by decide),bs,if_neg (by decide),if_pos (by decide),Kyn,bs,bs,if_pos (by decide),show wr (((1:Nat):Int) - 1)=0 from by decide,h.p0,bs]
 ·rw [Kt8,bs,show Kt6 8 ((2:Nat):Int)=1 from rfl,if_neg (by decide),if_neg (by decide),if_neg (by decide),bs,if_neg (by decide),if_pos (by decide),Kyn,bs,bs,if_pos (by decide),show wr (((2:Nat):Int) - 1)=1 from by decide,h.p1,bs]
theorem V0c {c:Int} {r:List Int} (h:c ≠ 2):Kez (⟨8,N,ty,ks⟩,c :: r,((1:Nat):Int))=some ([],false):=by
 unfold Kez
 simp only
 rw [Kt8,bs,show Kt6 8 ((1:Nat):Int)=1 from rfl,if_neg (by decide),if_neg (by decide),if_neg (by decide),bs,if_neg (by decide),if_pos (by decide),Kyn,bs,bs,if_neg (by simpa using h)]
 rfl
theorem V0d {c:Int} {a:List Int} (hb:Krv c=true) (h:Ky2 s c a):Kez (⟨12,N,ty,ks⟩,c :: a,((1:Nat):Int))=some ([a],true):=by
 unfold Kez
 simp only
 rw [Kt8,bs,show Kt6 12 ((1:Nat):Int)=1 from rfl,if_neg (by decide),if_neg (by decide),if_neg (by decide),bs,if_neg (by decide),if_neg (by decide),bs,if_neg (by decide),if_pos (by decide),Kyn,bs,Kry,bs,bs,hb,if_pos rfl,h.p0,bs]
theorem V0e {c:Int} {r:List Int} (hb:Krv c=false):Kez (⟨12,N,ty,ks⟩,c :: r,((1:Nat):Int))=some ([],false):=by
 unfold Kez
 simp only
 rw [Kt8,bs,show Kt6 12 ((1:Nat):Int)=1 from rfl,if_neg (by decide),if_neg (by decide),if_neg (by decide),bs,if_neg (by decide),if_neg (by decide),bs,if_neg (by decide),if_pos (by decide),Kyn,bs,Kry,bs,bs,hb,if_neg (by decide)]
end
def V0f (s:K00) (J:K02) (fl:(List K03) ⊕ Bool):Option Bool:=match fl with
 | .inl K=>(Kgv (s,J.fCtx,J.fTerm,K)) >>= fun r=>((if (r.ffault == 0)=true then (Kei (r.fty,J.fType)) >>= fun b=>if b=true then (Kh6 (s,r.fneeds,J.fBudgets)) >>= fun q=>some (q) else some (false) else some (false)):Option Bool) >>= fun v=>some v
 | .inr r=>some r
def V0g (s:K00) (J:K02) (fl:(List K05 × List (List Int) × List (List Int)) ⊕ Bool):Option Bool:=match fl with
 | .inl (o,nd,us) =>
  ((Ko8 ((K06.mk s),(K05.mk [] (List.replicate (Int.toNat (J.fCtx.length:Int)) 0) o 0 []),J.fCtx,J.fTerm,nd,us)) >>= fun (r,g)=>if (r != 0)=true then some ((g.fty,g.fneeds,g.fkids,g.ffault,g.fpath,true)) else (Kke (g.fty,J.fType)) >>= fun b=>some ((g.fty,g.fneeds,g.fkids,g.ffault,g.fpath,(!b))):Option ((List Int) × (List Int) × (List K05) × Int × (List Int) × Bool)) >>= fun (a0,a1,a2,a3,a4,v) =>
  if v=true then some false else (Kok (s,J,a1,0)) >>= fun fl=>match fl with
   | .inl ()=>some true
   | .inr r=>some r
 | .inr r=>some r
def V0h (s:K00) (J:K02) (a:Option ((List K03) ⊕ Bool)) (b:Option ((List K05 × List (List Int) × List (List Int)) ⊕ Bool)):Prop:=∃ v,(a >>= V0f s J)=some v∧(b >>= V0g s J)=some v
def SNo (s:K00) (J:K02) (a:Option ((List K03) ⊕ Bool)):Prop:=(a >>= V0f s J)=some false
theorem V0i (s:K00) (J:K02):V0h s J (some (.inr false)) (some (.inr false)):=⟨false,rfl,rfl⟩
theorem V0j {s:K00} {J:K02} {a:Option ((List K03) ⊕ Bool)} (h:SNo s J a):V0h s J a (some (.inr false)):=⟨false,h,rfl⟩
section
variable {s:K00} {l:List K02} {i:Nat} {J:K02}
theorem V0k {K:List K03} {o:List K05} {nd us:List (List Int)} {x:K03} {f:Int} {g:K05} (hr:Kgv (s,J.fCtx,J.fTerm,K)=some x) (hx:x.ffault ≠ 0) (hf:Ko8 (⟨s⟩,⟨[],List.replicate (Int.toNat (J.fCtx.length:Int)) 0,o,0,[]⟩,J.fCtx,J.fTerm,nd,us)=some (f,g)) (h0:f ≠ 0):V0h s J (some (.inl K)) (some (.inl (o,nd,us))):=by
 unfold V0h
 rw [bs,bs]
 unfold V0f V0g
 simp only
 rw [hr,hf,bs,if_neg (by simpa using hx),bs]
 refine ⟨false,rfl,?_⟩
 rw [bs]
 simp only
 rw [if_pos (by simpa using h0)]
 rfl
theorem V0l {K:List K03} {x:K03} (hr:Kgv (s,J.fCtx,J.fTerm,K)=some x) (hx:x.ffault ≠ 0):SNo s J (some (.inl K)):=by
 unfold SNo
 rw [bs]
 unfold V0f
 simp only
 rw [hr,bs,if_neg (by simpa using hx),bs]
theorem V0m {w:Nat} {K:List K03} (hw:J.fFrom.length ≤ w):Kha (s,l,(i:Int),J,K,(w:Int))=some (.inl K):=by
 rw [Kha.eq_def]
 simp only
 rw [Kqf hw]; rfl
theorem V0n {w:Nat} {o:List K05} {nd us:List (List Int)} (hw:J.fFrom.length ≤ w):Kog (s,l,(i:Int),J,o,nd,us,(w:Int))=some (.inl (o,nd,us)):=by
 rw [Kog.eq_def]
 simp only
 rw [Kqf hw]; rfl
end
section
variable {s:K00} {n:Nat} {l:List K02} {i:Nat} {J:K02} {nj:List Nat} (E:Kzz s n l i J nj)
include E
theorem V0o (a:List Nat) (ha:Kwy n a) (hal:a.length ≤ 1048576):∀ (al bl:List Nat) (w:Nat),a.drop w=al→nj.drop w=bl→al.length=bl.length→Kok (s,J,Kwi a,(w:Int))=some (if Kzm s n al (Kwi bl) then .inl () else .inr false):=by
 intro al
 induction al with
 | nil =>
  intro bl w h1 h2 hl
  rw [Kok.eq_def]
  simp only
  rw [Kwj,Kqf (Krt h1)]
  rfl
 | cons x al ih =>
  intro bl w h1 h2 hl
  match bl,hl,h2 with
  | g :: bl,hl,h2 =>
  obtain ⟨k1,k2,k3⟩:=Kwm h1
  obtain ⟨j1,j2,j3⟩:=Kwm h2
  have hx:x < n:=Kx1 ha w x (by rw [h1]; exact List.mem_cons_self)
  have hg:g < n:=Kx1 E.jd.bb w g (by rw [h2]; exact List.mem_cons_self)
  have e:Kzm s n (x :: al) (Kwi (g :: bl))=(Kzl s n x (g:Int) && Kzm s n al (Kwi bl)):=rfl
  have hh:Kus s (g:Int)=true:=by
   rw [Kxx E.hs.tab]
   unfold gN
   rw [E.hs.tab.size]
   simp
   omega
  rw [Kok.eq_def]
  simp only
  rw [Kwj,Kqe k1,if_pos rfl,k2,bs,E.jd.bu,j2,bs,iLe E.hs.tab hx hg,bs,e]
  unfold Kzl
  rw [hh,Int.toNat_natCast,Bool.true_and]
  cases le s n x g with
  | false=>rfl
  | true=>rw [if_pos rfl,Kqd (by omega),ih bl (w + 1) k3 j3 (by simpa using hl),Bool.true_and]
theorem V0p {K:List K03} {o:List K05} {nd us:List (List Int)} {q:List Int} {a:List Nat} (hr:Kgv (s,J.fCtx,J.fTerm,K)=Kfw (q,Kwi a)) (hf:Ko8 (⟨s⟩,⟨[],List.replicate (Int.toNat (J.fCtx.length:Int)) 0,o,0,[]⟩,J.fCtx,J.fTerm,nd,us)=some (Kym q a o))
  (ha:Kwy n a) (hl:a.length=J.fCtx.length):V0h s J (some (.inl K)) (some (.inl (o,nd,us))):=by
 have k1:=E.jd.cl
 have k2:=E.jd.bl
 have k3:=Kxy E.jd.ty
 have hb:=Kzp E.hs a J.fBudgets ha (by omega)
 have hi:=V0o E a ha (by omega) a nj 0 rfl rfl (by omega)
 unfold V0h
 rw [bs,bs]
 unfold V0f V0g
 simp only
 rw [hr,hf,Kz9,bs]
 unfold Kym
 by_cases h:q.length > 40
 ·rw [if_pos h,if_pos h]
  exact ⟨false,rfl,rfl⟩
 ·rw [if_neg h,if_neg h,bs]
  simp only
  rw [if_pos (by decide),if_neg (by decide),Kvl q J.fType (by omega),Kvn q J.fType (by omega),bs,bs]
  cases q == J.fType with
  | false=>exact ⟨false,rfl,rfl⟩
  | true =>
   rw [if_pos rfl,hb,bs,bs]
   simp only [bs]
   rw [show ((0:Nat):Int)=0 from rfl] at hi
   rw [if_neg (by decide),hi,E.jd.bu,Kwj,decide_eq_true (by omega),Bool.true_and]
   refine ⟨_,rfl,?_⟩
   rw [bs]
   cases Kzm s n a (Kwi nj) <;> rfl
theorem V0q {w:Nat} {j:Int} {k:K01} {K:List K03} {o:List K05} {nd us m:List (List Int)} (hw:w < J.fFrom.length) (hj:idx J.fFrom (w:Int)=some j) (hk:idx J.fTerm.fKids (w:Int)=some k)
  (hm:m.length ≤ 2) (hq:∀ q ∈ m,TyS s q) (hK:K.length ≤ 1000) (ho:o.length ≤ 1000) (hnd:nd.length ≤ 1000) (hus:us.length ≤ 1000) (hw3:w ≤ 1000)
  (h:∀ r ns,Kzu s n r ns→∃ e first f ab,idx (K ++ [V00 r]) 0=some e∧Kez (J.fTerm,e.fty,(w:Int))=some (m,true) ∧
   ((if decide ((w:Int) > 0)=true then (idx o 0) >>= fun e=>some e.fty else some []):Option (List Int))=some first∧Kkz (J.fTerm,(w:Int),first)=some m ∧
   Klu (⟨s⟩,J.fTerm,(w:Int),r.fType)=some f∧(f=0→r.fCtx=m ++ J.fCtx→V02 J.fTerm o w r=some ab) ∧
   (f=0→ab=false→ns.length=m.length + J.fCtx.length→V0h s J (Kha (s,l,(i:Int),J,K ++ [V00 r],((w + 1:Nat):Int))) (Kog (s,l,(i:Int),J,o ++ [V01 r],nd ++ [Kwi (ns.drop m.length)],us ++ [Kwi (ns.take m.length)],((w + 1:Nat):Int)))) ∧
   (¬ (f=0∧ab=false)→ns.length=m.length + J.fCtx.length→SNo s J (Kha (s,l,(i:Int),J,K ++ [V00 r],((w + 1:Nat):Int))))) :
  V0h s J (Kha (s,l,(i:Int),J,K,(w:Int))) (Kog (s,l,(i:Int),J,o,nd,us,(w:Int))):=by
 have hkm:tms k ≤ 1048576:=by
  have h1:k ∈ J.fTerm.fKids:=by
   unfold idx at hk
   split at hk
   ·exact List.mem_of_getElem? hk
   ·cases hk
  have:=Kva h1
  have:=E.tm
  omega
 rcases V04 E hw hj hk hkm with ⟨h1,h2⟩ | ⟨r,ns,hR,_,h1,h2⟩
 ·rw [h1,h2]; exact V0i s J
 ·obtain ⟨e,first,f,ab,a1,a2,a3,a4,a5,a6,a7,a8⟩:=h r ns hR
  rw [h1,h2,V05 E hR hw3 hK a1 a2 hm hq,V06 E hR hw3 ho hnd hus a3 a4 hm hq a5 a6]
  by_cases hc:r.fCtx=m ++ J.fCtx
  ·have hl:ns.length=m.length + J.fCtx.length:=by rw [hR.bl,hc,List.length_append]
   rw [decide_eq_true hc]
   by_cases hf:f=0∧ab=false
   ·rw [hf.1,hf.2]; exact a7 hf.1 hf.2 hl
   ·have:(true && f == 0 && !ab)=false:=by
     cases ab <;> simp at hf ⊢
     exact hf
    rw [this]
    exact V0j (a8 hf hl)
  ·rw [decide_eq_false hc]; exact V0i s J
theorem V0r {w:Nat} {j:Int} {k:K01} {K:List K03} (hw:w < J.fFrom.length) (hj:idx J.fFrom (w:Int)=some j) (hk:idx J.fTerm.fKids (w:Int)=some k) (hK:K.length ≤ 1000) (hw3:w ≤ 1000)
  (h:∀ r ns,Kzu s n r ns→∃ e m ok,idx (K ++ [V00 r]) 0=some e∧Kez (J.fTerm,e.fty,(w:Int))=some (m,ok)∧m.length ≤ 2∧(∀ q ∈ m,TyS s q) ∧
   (ok=true→ns.length=m.length + J.fCtx.length→SNo s J (Kha (s,l,(i:Int),J,K ++ [V00 r],((w + 1:Nat):Int))))) :
  SNo s J (Kha (s,l,(i:Int),J,K,(w:Int))):=by
 have hkm:tms k ≤ 1048576:=by
  have h1:k ∈ J.fTerm.fKids:=by
   unfold idx at hk
   split at hk
   ·exact List.mem_of_getElem? hk
   ·cases hk
  have:=Kva h1
  have:=E.tm
  omega
 rcases V04 E hw hj hk hkm with ⟨h1,h2⟩ | ⟨r,ns,hR,_,h1,h2⟩
 ·rw [h1]; rfl
 ·obtain ⟨e,m,ok,a1,a2,a3,a4,a5⟩:=h r ns hR
  rw [h1,V05 E hR hw3 hK a1 a2 a3 a4]
  by_cases hc:ok=true∧r.fCtx=m ++ J.fCtx
  ·have hl:ns.length=m.length + J.fCtx.length:=by rw [hR.bl,hc.2,List.length_append]
   rw [decide_eq_true hc.2,hc.1]
   exact a5 hc.1 hl
  ·have:(ok && decide (r.fCtx=m ++ J.fCtx))=false:=by
    cases ok
    ·rfl
    ·rw [decide_eq_false (fun q=>hc ⟨rfl,q⟩)]; rfl
   rw [this]; rfl
end
theorem V0s {α:Type} (x:α):idx [x] (wr ((([x]:List α).length:Int) - 1))=some x:=rfl
theorem V0t {α:Type} (x y:α):idx [x,y] (wr ((([x,y]:List α).length:Int) - 1))=some y:=rfl
theorem V0u {α:Type} (x y z:α):idx [x,y,z] (wr ((([x,y,z]:List α).length:Int) - 1))=some z:=rfl
section
variable {s:K00} {n:Nat} {N:Int} {ty:List Int} {ks:List K01} {ctx:List (List Int)} {r0 r1:K02} {a:List Nat}
theorem V0v (R0:Kzu s n r0 a) (hc:ctx.length ≤ 400) (ht:ty.length ≤ 1000):Kgv (s,ctx,⟨6,N,ty,ks⟩,[V00 r0])=Kfw (2 :: (r0.fType ++ ty),Kwi a):=by
 have h0:=Kxy R0.ty
 have hg:=Kxo 2 [r0.fType,ty] (by simp) (by simp; omega)
 unfold Kgv
 simp only
 rw [V0s]
 simp [Kyn,Kxl ctx.length (by omega),hg,V00,R0.bu]
theorem V0w (R0:Kzu s n r0 a) (hc:ctx.length ≤ 400) (ht:ty.length ≤ 1000):Kgv (s,ctx,⟨7,N,ty,ks⟩,[V00 r0])=Kfw (2 :: (ty ++ r0.fType),Kwi a):=by
 have h0:=Kxy R0.ty
 have hg:=Kxo 2 [ty,r0.fType] (by simp) (by simp; omega)
 unfold Kgv
 simp only
 rw [V0s]
 simp [Kyn,Kxl ctx.length (by omega),hg,V00,R0.bu]
theorem V0x {c:Int} {t0:List Int} (hq:r0.fType=c :: t0) (hn:Kru c=false) (hc:ctx.length ≤ 400):Kgv (s,ctx,⟨10,N,ty,ks⟩,[V00 r0,V00 r1])=some ⟨[],[],3,[]⟩:=by
 have i0:idx r0.fType 0=some c:=by rw [hq]; rfl
 unfold Kgv
 simp only
 rw [V0t]
 simp [Kyn,Kxl ctx.length (by omega),V00,i0,Krx,hn,Kff]
theorem V0y {u:Nat} {l:List Int} {b:List Nat} (h:l=Kwi b) (hu:u ≤ b.length):cut l (some (u:Int)) none none=some (Kwi (b.drop u)):=by
 rw [h,Kye (by rw [Kwj]; exact hu),Kwk]
end
section
variable {s:K00} {n:Nat} (hs:Kwn s n) {N:Int} {ty:List Int} {ks:List K01} {ctx:List (List Int)} {r0 r1 r2:K02} {a b d:List Nat}
include hs
theorem V0z (R0:Kzu s n r0 a) (R1:Kzu s n r1 b) (hc:ctx.length ≤ 400) (hab:a.length=b.length):Kgv (s,ctx,⟨4,N,ty,ks⟩,[V00 r0,V00 r1])=Kfw (1 :: (r0.fType ++ r1.fType),Kwi (Kwv s n a b)):=by
 have h0:=Kxy R0.ty
 have h1:=Kxy R1.ty
 have hl:=R0.cl
 have hl2:=R0.bl
 have hg:=Kxo 1 [r0.fType,r1.fType] (by simp) (by simp; omega)
 have hsum:=Kx9 hs a b R0.bb R1.bb (by omega) hab
 unfold Kgv
 simp only
 rw [V0t]
 simp [Kyn,Kxl ctx.length (by omega),hg,V00,R0.bu,R1.bu,hsum]
theorem V10 (R0:Kzu s n r0 a) (R1:Kzu s n r1 b) (hc:ctx.length ≤ 400) (hab:a.length=b.length):Kgv (s,ctx,⟨2,N,ty,ks⟩,[V00 r0,V00 r1])=if r0.fType=[0]∧r1.fType=[0] then Kfw ([0],Kwi (Kwv s n a b)) else some ⟨[],[],2,[]⟩:=by
 obtain ⟨c0,t0,e0,_,z0⟩:=Kza hs R0.ty
 obtain ⟨c1,t1,e1,_,z1⟩:=Kza hs R1.ty
 have hl:=R0.cl
 have hl2:=R0.bl
 have hsum:=Kx9 hs a b R0.bb R1.bb (by omega) hab
 have i0:idx r0.fType 0=some c0:=by rw [e0]; rfl
 have i1:idx r1.fType 0=some c1:=by rw [e1]; rfl
 by_cases q0:c0=0
 ·have u0:=z0 q0
  by_cases q1:c1=0
  ·have u1:=z1 q1
   rw [if_pos ⟨u0,u1⟩,Kz9]
   unfold Kgv
   simp only
   rw [V0t]
   simp [Kyn,Kxl ctx.length (by omega),V00,R0.bu,R1.bu,hsum,i0,i1,q0,q1,u0,u1]
  ·have:¬ r1.fType=[0]:=by rw [e1]; intro h; cases h; exact q1 rfl
   rw [if_neg (fun h=>this h.2)]
   unfold Kgv
   simp only
   rw [V0t]
   simp [Kyn,Kxl ctx.length (by omega),V00,R0.bu,R1.bu,hsum,i0,i1,q0,q1,Kff]
 ·have:¬ r0.fType=[0]:=by rw [e0]; intro h; cases h; exact q0 rfl
  rw [if_neg (fun h=>this h.1)]
  unfold Kgv
  simp only
  rw [V0t]
  simp [Kyn,Kxl ctx.length (by omega),V00,R0.bu,R1.bu,hsum,i0,i1,q0,Kff]
theorem V11 (R0:Kzu s n r0 a) (R1:Kzu s n r1 b) (R2:Kzu s n r2 d) (hc:ctx.length ≤ 400) (hab:a.length=b.length) (had:a.length=d.length):Kgv (s,ctx,⟨3,N,ty,ks⟩,[V00 r0,V00 r1,V00 r2])=if r0.fType=[0]∧r1.fType=r2.fType then Kfw (r1.fType,Kwi (Kwv s n a (Kwx s n b d))) else some ⟨[],[],3,[]⟩:=by
 obtain ⟨c0,t0,e0,_,z0⟩:=Kza hs R0.ty
 have h1:=Kxy R1.ty
 have h2:=Kxy R2.ty
 have hl:=R0.cl
 have hl2:=R0.bl
 have hj:=Kxb hs b d R1.bb R2.bb (by omega) (by omega)
 have hjl:(Kwx s n b d).length=b.length:=by unfold Kwx; rw [List.length_zipWith]; omega
 have hsum:=Kx9 hs a (Kwx s n b d) R0.bb (Kx4 hs R1.bb R2.bb) (by omega) (by omega)
 have hsame:=Kvl r1.fType r2.fType (by omega)
 have i0:idx r0.fType 0=some c0:=by rw [e0]; rfl
 by_cases q0:c0=0
 ·have u0:=z0 q0
  by_cases q1:r1.fType=r2.fType
  ·rw [if_pos ⟨u0,q1⟩,Kz9]
   unfold Kgv
   simp only
   rw [V0u]
   rw [show (r1.fType == r2.fType)=true from beq_iff_eq.2 q1] at hsame
   rw [← q1] at hsame
   simp [Kyn,Kyo,Kxl ctx.length (by omega),V00,R0.bu,R1.bu,R2.bu,hsum,hj,i0,q0,← q1,hsame,show ¬ 40 < r1.fType.length by omega]
  ·rw [if_neg (fun h=>q1 h.2)]
   unfold Kgv
   simp only
   rw [V0u]
   rw [show (r1.fType == r2.fType)=false from beq_eq_false_iff_ne.2 q1] at hsame
   simp [Kyn,Kyo,Kxl ctx.length (by omega),V00,R0.bu,R1.bu,R2.bu,i0,q0,hsame,Kff]
 ·have:¬ r0.fType=[0]:=by rw [e0]; intro h; cases h; exact q0 rfl
  rw [if_neg (fun h=>this h.1)]
  unfold Kgv
  simp only
  rw [V0u]
  simp [Kyn,Kyo,Kxl ctx.length (by omega),V00,i0,q0,Kff]
theorem V12 {g:Nat} (hg:g < n) {u:Nat} {v:List Nat} (R0:Kzu s n r0 a) (hc:ctx.length ≤ 400) (ht:ty.length ≤ 1000) (hu:a=u :: v):Kgv (s,ctx,⟨9,(g:Int),ty,ks⟩,[V00 r0])=if le s n u g=true then Kfw ((3 + (g:Int)) :: (ty ++ r0.fType),Kwi v) else some ⟨[],[],9,[]⟩:=by
 have h0:=Kxy R0.ty
 have hn:=hs.tab.hi
 subst hu
 have hl2:=R0.bl
 have hcl:=R0.cl
 have e1:idx r0.fBudgets 0=some (u:Int):=by rw [R0.bu]; rfl
 have hle:=sLe hs.tab (R0.bb u List.mem_cons_self) hg
 have hw:wr (3 + (g:Int))=3 + (g:Int):=Kqb (by omega) (by omega)
 have hgl:=Kxo (3 + (g:Int)) [ty,r0.fType] (by simp) (by simp; omega)
 have hcut:cut r0.fBudgets (some 1) none none=some (Kwi v):=by
  have:=Kye (l:=r0.fBudgets) (m:=1) (by rw [R0.bu]; simp [Kwi])
  rw [show ((1:Nat):Int)=1 from rfl,R0.bu] at this
  rw [R0.bu,this]; rfl
 unfold Kgv
 simp only
 rw [V0s]
 cases h:le s n u g with
 | true=>rw [h] at hle; simp [Kyn,Kxl ctx.length (by omega),V00,e1,hle,hw,hgl,hcut]
 | false=>rw [h] at hle; simp [Kyn,Kxl ctx.length (by omega),V00,e1,hle,Kff]
theorem V13 {g:Nat} (hg:g < n) (R0:Kzu s n r0 a) (hc:ctx.length ≤ 400) (hac:a.length=ctx.length):Kgv (s,ctx,⟨11,(g:Int),ty,ks⟩,[V00 r0])=Kfw ((19 + (g:Int)) :: r0.fType,Kwi (Kww s n g a)):=by
 have h0:=Kxy R0.ty
 have hn:=hs.tab.hi
 have hw:wr (19 + (g:Int))=19 + (g:Int):=Kqb (by omega) (by omega)
 have hgl:=Kxo (19 + (g:Int)) [r0.fType] (by simp) (by simp; omega)
 have hz:=Kwq hs
 have hsum:=Kx8 hs g hg (List.replicate ctx.length 0) a (fun x hx=>by rw [List.eq_of_mem_replicate hx]; exact hz) R0.bb (by simp; omega) (by simp; omega)
 have hss:Kwv s n (List.replicate ctx.length 0) (Kww s n g a)=Kww s n g a:=by
  have e:=Kx6 hs (a:=Kww s n g a) (Kx3 hs hg R0.bb)
  rw [show (Kww s n g a).length=ctx.length by unfold Kww; rw [List.length_map,hac]] at e
  exact e
 rw [hss] at hsum
 unfold Kgv
 simp only
 rw [V0s]
 simp [Kyn,Kxl ctx.length (by omega),V00,R0.bu,hw,hgl,hsum]
theorem V14 {g:Nat} {p q:List Int} (hg:g < n) (h15:g ≤ 15) (hq:r0.fType=(3 + (g:Int)) :: (p ++ q)) (P:Ky1 s (3 + (g:Int)) p q) (R0:Kzu s n r0 a) (R1:Kzu s n r1 b) (hc:ctx.length ≤ 400) (hab:a.length=b.length) :
  Kgv (s,ctx,⟨10,N,ty,ks⟩,[V00 r0,V00 r1])=if r1.fType=p then Kfw (q,Kwi (Kwv s n a (Kww s n g b))) else some ⟨[],[],3,[]⟩:=by
 have hl:=R0.cl
 have hl2:=R0.bl
 have hp:=Kxy P.ya
 have hq2:=Kxy P.yb
 have i0:idx r0.fType 0=some (3 + (g:Int)):=by rw [hq]; rfl
 have hp0:Kew (r0.fType,0)=some p:=by rw [hq]; exact P.p0
 have hp1:Kew (r0.fType,1)=some q:=by rw [hq]; exact P.p1
 have hsame:=Kvl r1.fType p (by omega)
 have hgr:=Kzh g h15
 have hsum:=Kx8 hs g hg a b R0.bb R1.bb (by omega) hab
 by_cases e:r1.fType=p
 ·rw [if_pos e,Kz9]
  rw [show (r1.fType == p)=true from beq_iff_eq.2 e] at hsame
  unfold Kgv
  simp only
  rw [V0t]
  simp [Kyn,Kxl ctx.length (by omega),V00,R0.bu,R1.bu,i0,Krx,Kzd g h15,hp0,hp1,hsame,hgr,hsum,show ¬ 40 < q.length by omega]
 ·rw [if_neg e]
  rw [show (r1.fType == p)=false from beq_eq_false_iff_ne.2 e] at hsame
  unfold Kgv
  simp only
  rw [V0t]
  simp [Kyn,Kxl ctx.length (by omega),V00,i0,Krx,Kzd g h15,hp0,hsame,Kff]
theorem V15 {g:Nat} (hg:g < n) {v:List Nat} (ha:Kwy n a) (hv:Kwy n v) (hc:ctx.length ≤ 400) (hac:a.length=ctx.length) (hvc:v.length=ctx.length) :
  Kfc (ctx.length:Int)=some (Kwi (List.replicate ctx.length 0))∧Kft (s,Kwi (List.replicate ctx.length 0),(g:Int),Kwi a)=some (Kwi (Kww s n g a))∧Kft (s,Kwi (Kww s n g a),1,Kwi v)=some (Kwi (Kwv s n (Kww s n g a) v)):=by
 have hz:=Kwq hs
 have hscl:=Kx3 hs hg ha
 have hlen:(Kww s n g a).length=ctx.length:=by unfold Kww; rw [List.length_map,hac]
 have h1:=Kx8 hs g hg (List.replicate ctx.length 0) a (fun x hx=>by rw [List.eq_of_mem_replicate hx]; exact hz) ha (by simp; omega) (by simp; omega)
 have e:=Kx6 hs (a:=Kww s n g a) hscl
 rw [hlen] at e
 rw [e] at h1
 exact ⟨Kxl ctx.length (by omega),h1,Kx9 hs (Kww s n g a) v hscl hv (by omega) (by omega)⟩
theorem V16 {g u0 u1:Nat} {v:List Nat} (hg:g < n) (R0:Kzu s n r0 a) (R1:Kzu s n r1 b) (hc:ctx.length ≤ 400) (hac:a.length=ctx.length) (hb:b=u0 :: u1 :: v) (hv:v.length=ctx.length) :
  Kgv (s,ctx,⟨5,(g:Int),ty,ks⟩,[V00 r0,V00 r1])=if le s n 1 g=true∧le s n u0 g=true∧le s n u1 g=true then Kfw (r1.fType,Kwi (Kwv s n (Kww s n g a) v)) else some ⟨[],[],9,[]⟩:=by
 have hbb:=R1.bb
 have hbu:=R1.bu
 subst hb
 have h1:=Kxy R1.ty
 have hvb:Kwy n v:=fun x hx=>hbb x (by simp [hx])
 obtain ⟨z0,z1,z2⟩:=V15 hs (ctx:=ctx) hg R0.bb hvb hc hac hv
 have hcut:=V0y (u:=2) hbu (by simp)
 have i0:idx r1.fBudgets 0=some (u0:Int):=by rw [hbu]; rfl
 have i1:idx r1.fBudgets 1=some (u1:Int):=by rw [hbu]; rfl
 have l0:=sLe hs.tab (Kwp hs) hg
 have l1:=sLe hs.tab (hbb u0 (by simp)) hg
 have l2:=sLe hs.tab (hbb u1 (by simp)) hg
 have ad:=Kt8 5 1
 rw [show Kt6 5 1=2 from rfl] at ad
 rw [show ((1:Nat):Int)=1 from rfl] at l0
 simp only [List.drop_succ_cons,List.drop_zero] at hcut
 rw [show ((2:Nat):Int)=2 from rfl] at ad hcut
 have w1:wr 1=1:=by decide
 have key:Kgv (s,ctx,⟨5,(g:Int),ty,ks⟩,[V00 r0,V00 r1])=if (le s n 1 g && le s n u0 g && le s n u1 g)=true then some ⟨r1.fType,Kwi (Kwv s n (Kww s n g a) v),0,[]⟩ else some ⟨[],[],9,[]⟩:=by
  unfold Kgv
  simp only
  rw [V0t]
  cases q0:le s n 1 g <;> cases q1:le s n u0 g <;> cases q2:le s n u1 g <;> (rw [q0] at l0; rw [q1] at l1; rw [q2] at l2; simp [Kyn,Kyo,z0,z1,z2,V00,R0.bu,i0,i1,l0,l1,l2,ad,hcut,w1,Kff])
 rw [key,Kz9,if_neg (show ¬ r1.fType.length > 40 by omega)]
 cases le s n 1 g <;> cases le s n u0 g <;> cases le s n u1 g <;> simp
theorem V17 {g m u0:Nat} {p:List Int} {v:List Nat} (hg:g < n) (hm:m < n) (h15:m ≤ 15) (hq:r0.fType=(19 + (m:Int)) :: p) (R0:Kzu s n r0 a) (R1:Kzu s n r1 b) (hc:ctx.length ≤ 400) (hac:a.length=ctx.length) (hb:b=u0 :: v) (hv:v.length=ctx.length) :
  Kgv (s,ctx,⟨12,(g:Int),ty,ks⟩,[V00 r0,V00 r1])=if le s n 1 g=true∧le s n u0 (ti s n g m)=true then Kfw (r1.fType,Kwi (Kwv s n (Kww s n g a) v)) else some ⟨[],[],9,[]⟩:=by
 have hbb:=R1.bb
 have hbu:=R1.bu
 subst hb
 have h1:=Kxy R1.ty
 have hvb:Kwy n v:=fun x hx=>hbb x (by simp [hx])
 obtain ⟨z0,z1,z2⟩:=V15 hs (ctx:=ctx) hg R0.bb hvb hc hac hv
 have hcut:=V0y (u:=1) hbu (by simp)
 have i0:idx r1.fBudgets 0=some (u0:Int):=by rw [hbu]; rfl
 have iq:idx r0.fType 0=some (19 + (m:Int)):=by rw [hq]; rfl
 have hgr:=Kzi m h15
 have hmul:=Kr0 hs.tab hg hm
 have hti:=Kqv hs.tab hg hm
 have l0:=sLe hs.tab (Kwp hs) hg
 have l1:=sLe hs.tab (hbb u0 (by simp)) hti
 have ad:=Kt8 12 1
 rw [show Kt6 12 1=1 from rfl] at ad
 rw [show ((1:Nat):Int)=1 from rfl] at l0 ad hcut
 simp only [List.drop_succ_cons,List.drop_zero] at hcut
 have w1:wr 0=0:=by decide
 have key:Kgv (s,ctx,⟨12,(g:Int),ty,ks⟩,[V00 r0,V00 r1])=if (le s n 1 g && le s n u0 (ti s n g m))=true then some ⟨r1.fType,Kwi (Kwv s n (Kww s n g a) v),0,[]⟩ else some ⟨[],[],9,[]⟩:=by
  unfold Kgv
  simp only
  rw [V0t]
  cases q0:le s n 1 g <;> cases q1:le s n u0 (ti s n g m) <;> (rw [q0] at l0; rw [q1] at l1; simp [Kyn,Kyo,z0,z1,z2,V00,R0.bu,i0,iq,hgr,hmul,l0,l1,ad,hcut,w1,Kff])
 rw [key,Kz9,if_neg (show ¬ r1.fType.length > 40 by omega)]
 cases le s n 1 g <;> cases le s n u0 (ti s n g m) <;> simp
theorem V18 {g u0 v0:Nat} {u v:List Nat} (hg:g < n) (R0:Kzu s n r0 a) (R1:Kzu s n r1 b) (R2:Kzu s n r2 d) (hc:ctx.length ≤ 400) (hac:a.length=ctx.length) (hb:b=u0 :: u) (hd:d=v0 :: v) (hu:u.length=ctx.length) (hv:v.length=ctx.length) :
  Kgv (s,ctx,⟨8,(g:Int),ty,ks⟩,[V00 r0,V00 r1,V00 r2])=if r1.fType=r2.fType∧le s n v0 g=true then (if le s n 1 g=true∧le s n u0 g=true then Kfw (r2.fType,Kwi (Kwv s n (Kww s n g a) (Kwx s n u v))) else some ⟨[],[],9,[]⟩) else some ⟨[],[],3,[]⟩:=by
 have hbb:=R1.bb
 have hbu:=R1.bu
 have hdb:=R2.bb
 have hdu:=R2.bu
 subst hb; subst hd
 have h2:=Kxy R2.ty
 have hub:Kwy n u:=fun x hx=>hbb x (by simp [hx])
 have hvb:Kwy n v:=fun x hx=>hdb x (by simp [hx])
 have hjb:=Kx4 hs hub hvb
 have hjl:(Kwx s n u v).length=ctx.length:=by unfold Kwx; rw [List.length_zipWith]; omega
 obtain ⟨z0,z1,z2⟩:=V15 hs (ctx:=ctx) hg R0.bb hjb hc hac hjl
 have hj:=Kxb hs u v hub hvb (by omega) (by omega)
 have hcut:=V0y (u:=1) hbu (by simp)
 have hcut2:=V0y (u:=1) hdu (by simp)
 have i0:idx r1.fBudgets 0=some (u0:Int):=by rw [hbu]; rfl
 have j0:idx r2.fBudgets 0=some (v0:Int):=by rw [hdu]; rfl
 have l0:=sLe hs.tab (Kwp hs) hg
 have l1:=sLe hs.tab (hbb u0 (by simp)) hg
 have l2:=sLe hs.tab (hdb v0 (by simp)) hg
 have hsame:=Kvl r1.fType r2.fType (by omega)
 have ad:=Kt8 8 1
 rw [show Kt6 8 1=1 from rfl] at ad
 rw [show ((1:Nat):Int)=1 from rfl] at l0 ad hcut hcut2
 simp only [List.drop_succ_cons,List.drop_zero] at hcut hcut2
 have w1:wr 0=0:=by decide
 have key:Kgv (s,ctx,⟨8,(g:Int),ty,ks⟩,[V00 r0,V00 r1,V00 r2])=if ((r1.fType == r2.fType) && le s n v0 g)=true then (if (le s n 1 g && le s n u0 g)=true then some ⟨r2.fType,Kwi (Kwv s n (Kww s n g a) (Kwx s n u v)),0,[]⟩ else some ⟨[],[],9,[]⟩) else some ⟨[],[],3,[]⟩:=by
  unfold Kgv
  simp only
  rw [V0u]
  cases q3:r1.fType == r2.fType <;> cases q0:le s n 1 g <;> cases q1:le s n u0 g <;> cases q2:le s n v0 g <;> (rw [q3] at hsame; rw [q0] at l0; rw [q1] at l1; rw [q2] at l2; simp [Kyn,Kyo,z0,z1,z2,V00,R0.bu,i0,j0,l0,l1,l2,ad,hcut,hcut2,w1,hsame,hj,Kff])
 rw [key,Kz9,if_neg (show ¬ r2.fType.length > 40 by omega)]
 by_cases e:r1.fType=r2.fType
 ·rw [show (r1.fType == r2.fType)=true from beq_iff_eq.2 e]
  cases le s n 1 g <;> cases le s n u0 g <;> cases le s n v0 g <;> simp [e]
 ·rw [show (r1.fType == r2.fType)=false from beq_eq_false_iff_ne.2 e]
  simp [e]
end
theorem V19 {α β:Type} {l:List α} {k:β} (h:l.length=[k].length):∃ a,l=[a]:=by
 match l,h with
 | [a],_=>exact ⟨a,rfl⟩
theorem V1a {α β:Type} {l:List α} {x y:β} (h:l.length=[x,y].length):∃ a b,l=[a,b]:=by
 match l,h with
 | [a,b],_=>exact ⟨a,b,rfl⟩
theorem V1b {α β:Type} {l:List α} {x y z:β} (h:l.length=[x,y,z].length):∃ a b c,l=[a,b,c]:=by
 match l,h with
 | [a,b,c],_=>exact ⟨a,b,c,rfl⟩
theorem V1c {α:Type} (K:List α) (x:α):∃ e,idx (K ++ [x]) 0=some e:=by
 cases K with
 | nil=>exact ⟨x,rfl⟩
 | cons y K=>exact ⟨y,rfl⟩
section
variable {s:K00} {n:Nat} {l:List K02} {i:Nat} {J:K02} {nj:List Nat} (E:Kzz s n l i J nj) {op N:Int} {ty:List Int} {ks:List K01}
include E
theorem V1d {w:Nat} {j:Int} {k:K01} {K:List K03} {o:List K05} {nd us:List (List Int)} (hT:J.fTerm=⟨op,N,ty,ks⟩) (hw:w < J.fFrom.length) (hj:idx J.fFrom (w:Int)=some j) (hk:idx ks (w:Int)=some k)
  (hw3:w ≤ 2) (hK:K.length=w) (ho:o.length=w) (hnd:nd.length=w) (hus:us.length=w) (h9:op ≠ 9) (ha:Kt6 op (w:Int)=0) (h10:op ≠ 10) (hf:∀ c r,Klu (⟨s⟩,⟨op,N,ty,ks⟩,(w:Int),c :: r)=some 0)
  (h:∀ r ns,Kzu s n r ns→ns.length=J.fCtx.length→V0h s J (Kha (s,l,(i:Int),J,K ++ [V00 r],((w + 1:Nat):Int))) (Kog (s,l,(i:Int),J,o ++ [V01 r],nd ++ [Kwi ns],us ++ [Kwi []],((w + 1:Nat):Int)))) :
  V0h s J (Kha (s,l,(i:Int),J,K,(w:Int))) (Kog (s,l,(i:Int),J,o,nd,us,(w:Int))):=by
 refine V0q E (m:=[]) hw hj (k:=k) (by rw [hT]; exact hk) (by simp) (fun _ h=>by cases h) (by omega) (by omega) (by omega) (by omega) (by omega) fun r ns R=>?_
 obtain ⟨e,he⟩:=V1c K (V00 r)
 have hfst:∃ first,((if decide ((w:Int) > 0)=true then (idx o 0) >>= fun e=>some e.fty else some []):Option (List Int))=some first:=by
  by_cases h0:w=0
  ·subst h0; exact ⟨[],rfl⟩
  ·rw [decide_eq_true (by omega),if_pos rfl]
   match o,ho with
   | [],ho=>simp at ho; omega
   | y :: o,_=>exact ⟨y.fty,rfl⟩
 obtain ⟨first,h1⟩:=hfst
 obtain ⟨c,t,hc,_,_⟩:=Kza E.hs R.ty
 refine ⟨e,first,0,false,he,by rw [hT]; exact V07 ha,h1,by rw [hT]; exact Kz3 h9 ha,by rw [hT,hc]; exact hf c t,fun _ _=>?_,fun _ _ hl=>?_,fun q=>absurd ⟨rfl,rfl⟩ q⟩
 ·unfold V02
  rw [hT]
  simp [h10]
 ·have:=h r ns R (by simpa using hl)
  simpa using this
theorem V1e (hT:J.fTerm=⟨4,N,ty,ks⟩):V0h s J (Kha (s,l,(i:Int),J,[],((0:Nat):Int))) (Kog (s,l,(i:Int),J,[],[],[],((0:Nat):Int))):=by
 have hok:=E.jd.ok
 have hfr:=E.fr
 rw [hT] at hok hfr
 obtain ⟨k0,k1,rfl,_,_⟩:=nd2 hok (Nat.le_refl _) rfl
 obtain ⟨j0,j1,hF⟩:=V1a hfr
 have hc:=E.jd.cl
 refine V1d E hT (j:=j0) (k:=k0) (by rw [hF]; simp) (by rw [hF]; rfl) rfl (by omega) rfl rfl rfl rfl (by decide) rfl (by decide) (fun c r=>Kyf (.inl (by decide))) fun r0 a R0 la=>?_
 refine V1d E hT (j:=j1) (k:=k1) (by rw [hF]; simp) (by rw [hF]; rfl) rfl (by omega) rfl rfl rfl rfl (by decide) rfl (by decide) (fun c r=>Kyf (.inl (by decide))) fun r1 b R1 lb=>?_
 rw [V0m (by rw [hF]; simp),V0n (by rw [hF]; simp)]
 have h0:=Kxy R0.ty
 have h1:=Kxy R1.ty
 refine V0p E (by rw [hT]; exact V0z E.hs R0 R1 hc (by omega)) (by rw [hT]; exact Kyw E.hs R0.bb R1.bb (by omega) (by omega) (by unfold V01; simp only; omega) (by unfold V01; simp only; omega)) (Kx2 E.hs R0.bb R1.bb) (by unfold Kwv; rw [List.length_zipWith]; omega)
theorem V1f (hT:J.fTerm=⟨6,N,ty,ks⟩):V0h s J (Kha (s,l,(i:Int),J,[],((0:Nat):Int))) (Kog (s,l,(i:Int),J,[],[],[],((0:Nat):Int))):=by
 have hok:=E.jd.ok
 have hfr:=E.fr
 rw [hT] at hok hfr
 obtain ⟨k0,rfl,_⟩:=nd1 hok (Nat.le_refl _) rfl
 obtain ⟨j0,hF⟩:=V19 hfr
 have hc:=E.jd.cl
 have hy:=Kxy (Kya hok rfl)
 simp only at hy
 refine V1d E hT (j:=j0) (k:=k0) (by rw [hF]; simp) (by rw [hF]; rfl) rfl (by omega) rfl rfl rfl rfl (by decide) rfl (by decide) (fun c r=>Kyf (.inl (by decide))) fun r0 a R0 la=>?_
 rw [V0m (by rw [hF]; simp),V0n (by rw [hF]; simp)]
 have h0:=Kxy R0.ty
 refine V0p E (by rw [hT]; exact V0v R0 hc (by omega)) (by rw [hT]; exact Kys (by unfold V01; simp only; omega) (by omega)) R0.bb la
theorem V1g (hT:J.fTerm=⟨7,N,ty,ks⟩):V0h s J (Kha (s,l,(i:Int),J,[],((0:Nat):Int))) (Kog (s,l,(i:Int),J,[],[],[],((0:Nat):Int))):=by
 have hok:=E.jd.ok
 have hfr:=E.fr
 rw [hT] at hok hfr
 obtain ⟨k0,rfl,_⟩:=nd1 hok (Nat.le_refl _) rfl
 obtain ⟨j0,hF⟩:=V19 hfr
 have hc:=E.jd.cl
 have hy:=Kxy (Kya hok rfl)
 simp only at hy
 refine V1d E hT (j:=j0) (k:=k0) (by rw [hF]; simp) (by rw [hF]; rfl) rfl (by omega) rfl rfl rfl rfl (by decide) rfl (by decide) (fun c r=>Kyf (.inl (by decide))) fun r0 a R0 la=>?_
 rw [V0m (by rw [hF]; simp),V0n (by rw [hF]; simp)]
 have h0:=Kxy R0.ty
 refine V0p E (by rw [hT]; exact V0w R0 hc (by omega)) (by rw [hT]; exact Kyt (by unfold V01; simp only; omega) (by omega)) R0.bb la
theorem V1h (hT:J.fTerm=⟨11,N,ty,ks⟩):V0h s J (Kha (s,l,(i:Int),J,[],((0:Nat):Int))) (Kog (s,l,(i:Int),J,[],[],[],((0:Nat):Int))):=by
 have hok:=E.jd.ok
 have hfr:=E.fr
 rw [hT] at hok hfr
 obtain ⟨k0,rfl,_⟩:=nd1 hok (Nat.le_refl _) rfl
 obtain ⟨j0,hF⟩:=V19 hfr
 obtain ⟨g,hN,hg⟩:=Ky7 E.hs (Ky9 hok rfl)
 simp only at hN
 subst hN
 have hc:=E.jd.cl
 refine V1d E hT (j:=j0) (k:=k0) (by rw [hF]; simp) (by rw [hF]; rfl) rfl (by omega) rfl rfl rfl rfl (by decide) rfl (by decide) (fun c r=>Kyf (.inl (by decide))) fun r0 a R0 la=>?_
 rw [V0m (by rw [hF]; simp),V0n (by rw [hF]; simp)]
 have h0:=Kxy R0.ty
 refine V0p E (by rw [hT]; exact V13 E.hs hg R0 hc la) (by rw [hT]; exact Kyy E.hs hg R0.bb (by omega) (by unfold V01; simp only; omega)) (Kx3 E.hs hg R0.bb) (by unfold Kww; rw [List.length_map]; exact la)
theorem V1i {w:Nat} {j:Int} {k:K01} {K:List K03} {o:List K05} {nd us:List (List Int)} (hT:J.fTerm=⟨op,N,ty,ks⟩) (hw:w < J.fFrom.length) (hj:idx J.fFrom (w:Int)=some j) (hk:idx ks (w:Int)=some k)
  (hw3:w ≤ 2) (hK:K.length=w) (ho:o.length=w) (hnd:nd.length=w) (hus:us.length=w) (h9:op ≠ 9) (ha:Kt6 op (w:Int)=0) (h10:op ≠ 10∨w=0)
  (h:∀ r ns,Kzu s n r ns→∃ f,Klu (⟨s⟩,⟨op,N,ty,ks⟩,(w:Int),r.fType)=some f ∧
   (f=0→ns.length=J.fCtx.length→V0h s J (Kha (s,l,(i:Int),J,K ++ [V00 r],((w + 1:Nat):Int))) (Kog (s,l,(i:Int),J,o ++ [V01 r],nd ++ [Kwi ns],us ++ [Kwi []],((w + 1:Nat):Int)))) ∧
   (f ≠ 0→ns.length=J.fCtx.length→SNo s J (Kha (s,l,(i:Int),J,K ++ [V00 r],((w + 1:Nat):Int))))) :
  V0h s J (Kha (s,l,(i:Int),J,K,(w:Int))) (Kog (s,l,(i:Int),J,o,nd,us,(w:Int))):=by
 refine V0q E (m:=[]) hw hj (k:=k) (by rw [hT]; exact hk) (by simp) (fun _ h=>by cases h) (by omega) (by omega) (by omega) (by omega) (by omega) fun r ns R=>?_
 obtain ⟨e,he⟩:=V1c K (V00 r)
 have hfst:∃ first,((if decide ((w:Int) > 0)=true then (idx o 0) >>= fun e=>some e.fty else some []):Option (List Int))=some first:=by
  by_cases h0:w=0
  ·subst h0; exact ⟨[],rfl⟩
  ·rw [decide_eq_true (by omega),if_pos rfl]
   match o,ho with
   | [],ho=>simp at ho; omega
   | y :: o,_=>exact ⟨y.fty,rfl⟩
 obtain ⟨first,h1⟩:=hfst
 obtain ⟨f,hf,g1,g2⟩:=h r ns R
 refine ⟨e,first,f,false,he,by rw [hT]; exact V07 ha,h1,by rw [hT]; exact Kz3 h9 ha,by rw [hT]; exact hf,fun _ _=>?_,fun h0 _ hl=>?_,fun q hl=>g2 (fun h0=>q ⟨h0,rfl⟩) (by simpa using hl)⟩
 ·unfold V02
  rw [hT]
  rcases h10 with h10 | rfl
  ·simp [h10]
  ·simp
 ·have:=g1 h0 (by simpa using hl)
  simpa using this
theorem V1j {w:Nat} {j:Int} {k:K01} {K:List K03} (hT:J.fTerm=⟨op,N,ty,ks⟩) (hw:w < J.fFrom.length) (hj:idx J.fFrom (w:Int)=some j) (hk:idx ks (w:Int)=some k) (hw3:w ≤ 2) (hK:K.length=w) (ha:Kt6 op (w:Int)=0)
  (h:∀ r ns,Kzu s n r ns→ns.length=J.fCtx.length→SNo s J (Kha (s,l,(i:Int),J,K ++ [V00 r],((w + 1:Nat):Int)))):SNo s J (Kha (s,l,(i:Int),J,K,(w:Int))):=by
 refine V0r E hw hj (k:=k) (by rw [hT]; exact hk) (by omega) (by omega) fun r ns R=>?_
 obtain ⟨e,he⟩:=V1c K (V00 r)
 exact ⟨e,[],true,he,by rw [hT]; exact V07 ha,by simp,fun _ h=>(by cases h),fun _ hl=>h r ns R (by simpa using hl)⟩
theorem V1k (hT:J.fTerm=⟨9,N,ty,ks⟩):V0h s J (Kha (s,l,(i:Int),J,[],((0:Nat):Int))) (Kog (s,l,(i:Int),J,[],[],[],((0:Nat):Int))):=by
 have hok:=E.jd.ok
 have hfr:=E.fr
 rw [hT] at hok hfr
 obtain ⟨k0,rfl,_⟩:=nd1 hok (Nat.le_refl _) rfl
 obtain ⟨j0,hF⟩:=V19 hfr
 obtain ⟨g,hN,hg⟩:=Ky7 E.hs (Ky9 hok rfl)
 simp only at hN
 subst hN
 have hc:=E.jd.cl
 have hY:=Kya hok rfl
 simp only at hY
 have hy:=Kxy hY
 refine V0q E (m:=[ty]) (j:=j0) (k:=k0) (by rw [hF]; simp) (by rw [hF]; rfl) (by rw [hT]; rfl) (by simp) (fun q h=>by rw [List.mem_singleton.1 h]; exact hY) (by simp) (by simp) (by simp) (by simp) (by omega) fun r0 a R0=>?_
 obtain ⟨c,t,hq,_,_⟩:=Kza E.hs R0.ty
 refine ⟨V00 r0,[],0,false,rfl,by rw [hT]; exact V08,rfl,by rw [hT]; exact Kz4,by rw [hT,hq]; exact Kyf (.inl (by decide)),fun _ _=>by unfold V02; rw [hT]; rfl,fun _ _ hl=>?_,fun q=>absurd ⟨rfl,rfl⟩ q⟩
 match a,hl,R0 with
 | [],hl,_=>simp at hl; omega
 | u :: v,hl,R0 =>
 rw [V0m (by rw [hF]; simp),V0n (by rw [hF]; simp)]
 have h0:=Kxy R0.ty
 have hub:=R0.bb u (by simp)
 have hvb:Kwy n v:=fun x hx=>R0.bb x (by simp [hx])
 have hvl:v.length=J.fCtx.length:=by simp at hl; omega
 have sr:=V12 (ty:=ty) (ks:=[k0]) (ctx:=J.fCtx) E.hs hg R0 hc (by omega) rfl
 have fi:=Kyx (s:=s) (ty:=ty) (ks:=[k0]) (ctx:=J.fCtx) (z:=List.replicate (Int.toNat (J.fCtx.length:Int)) 0) (y0:=V01 r0) (a:=v) E.hs hg (u:=[u]) (fun x hx=>by rw [List.mem_singleton.1 hx]; exact hub) (by simp) (by unfold V01; simp only; omega) (by omega)
 rw [show ([u].all fun x=>le s n x g)=le s n u g by simp] at fi
 cases hle:le s n u g with
 | true =>
  rw [hle,if_pos rfl] at sr fi
  exact V0p E (by rw [hT]; exact sr) (by rw [hT]; exact fi) hvb hvl
 | false =>
  rw [hle,if_neg (by decide)] at sr fi
  exact V0k (by rw [hT]; exact sr) (by decide) (by rw [hT]; exact fi) (by decide)
theorem V1l (hT:J.fTerm=⟨2,N,ty,ks⟩):V0h s J (Kha (s,l,(i:Int),J,[],((0:Nat):Int))) (Kog (s,l,(i:Int),J,[],[],[],((0:Nat):Int))):=by
 have hok:=E.jd.ok
 have hfr:=E.fr
 rw [hT] at hok hfr
 obtain ⟨k0,k1,rfl,_,_⟩:=nd2 hok (Nat.le_refl _) rfl
 obtain ⟨j0,j1,hF⟩:=V1a hfr
 have hc:=E.jd.cl
 refine V1i E hT (j:=j0) (k:=k0) (by rw [hF]; simp) (by rw [hF]; rfl) rfl (by omega) rfl rfl rfl rfl (by decide) rfl (.inr rfl) fun r0 a R0=>?_
 obtain ⟨c0,t0,e0,s0,z0⟩:=Kza E.hs R0.ty
 refine ⟨_,by rw [e0]; exact Kyg,fun hf la=>?_,fun hf la=>?_⟩
 ·have q0:r0.fType=[0]:=by
   split at hf
   ·rename_i h; exact z0 (s0.1 h)
   ·cases hf
  refine V1i E hT (j:=j1) (k:=k1) (by rw [hF]; simp) (by rw [hF]; rfl) rfl (by omega) rfl rfl rfl rfl (by decide) rfl (.inl (by decide)) fun r1 b R1=>?_
  obtain ⟨c1,t1,e1,s1,z1⟩:=Kza E.hs R1.ty
  refine ⟨_,by rw [e1]; exact Kyg,fun hf lb=>?_,fun hf lb=>?_⟩
  ·have q1:r1.fType=[0]:=by
    split at hf
    ·rename_i h; exact z1 (s1.1 h)
    ·cases hf
   rw [V0m (by rw [hF]; simp),V0n (by rw [hF]; simp)]
   refine V0p E (q:=[0]) (a:=Kwv s n a b) ?_ (by rw [hT]; exact Kyu E.hs R0.bb R1.bb (by omega) (by omega)) (Kx2 E.hs R0.bb R1.bb) (by unfold Kwv; rw [List.length_zipWith]; omega)
   rw [hT]
   exact (V10 E.hs R0 R1 hc (by omega)).trans (if_pos ⟨q0,q1⟩)
  ·have q1:¬ r1.fType=[0]:=by
    intro q
    rw [e1] at q
    cases q
    exact hf (if_pos (s1.2 rfl))
   rw [V0m (by rw [hF]; simp)]
   refine V0l (x:=⟨[],[],2,[]⟩) ?_ (by decide)
   rw [hT]
   exact (V10 E.hs R0 R1 hc (by omega)).trans (if_neg fun h=>q1 h.2)
 ·have q0:¬ r0.fType=[0]:=by
   intro q
   rw [e0] at q
   cases q
   exact hf (if_pos (s0.2 rfl))
  refine V1j E hT (j:=j1) (k:=k1) (by rw [hF]; simp) (by rw [hF]; rfl) rfl (by omega) rfl rfl fun r1 b R1 lb=>?_
  rw [V0m (by rw [hF]; simp)]
  refine V0l (x:=⟨[],[],2,[]⟩) ?_ (by decide)
  rw [hT]
  exact (V10 E.hs R0 R1 hc (by omega)).trans (if_neg fun h=>q0 h.1)
theorem V1m (hT:J.fTerm=⟨3,N,ty,ks⟩):V0h s J (Kha (s,l,(i:Int),J,[],((0:Nat):Int))) (Kog (s,l,(i:Int),J,[],[],[],((0:Nat):Int))):=by
 have hok:=E.jd.ok
 have hfr:=E.fr
 rw [hT] at hok hfr
 obtain ⟨k0,k1,k2,rfl,_,_,_⟩:=nd3 hok (Nat.le_refl _) rfl
 obtain ⟨j0,j1,j2,hF⟩:=V1b hfr
 have hc:=E.jd.cl
 refine V1i E hT (j:=j0) (k:=k0) (by rw [hF]; simp) (by rw [hF]; rfl) rfl (by omega) rfl rfl rfl rfl (by decide) rfl (.inr rfl) fun r0 a R0=>?_
 obtain ⟨c0,t0,e0,s0,z0⟩:=Kza E.hs R0.ty
 refine ⟨_,by rw [e0]; exact Kyh,fun hf la=>?_,fun hf la=>?_⟩
 ·have q0:r0.fType=[0]:=by
   split at hf
   ·rename_i h; exact z0 (s0.1 h)
   ·cases hf
  refine V1d E hT (j:=j1) (k:=k1) (by rw [hF]; simp) (by rw [hF]; rfl) rfl (by omega) rfl rfl rfl rfl (by decide) rfl (by decide) (fun c r=>Kyf (.inr (by decide))) fun r1 b R1 lb=>?_
  refine V1d E hT (j:=j2) (k:=k2) (by rw [hF]; simp) (by rw [hF]; rfl) rfl (by omega) rfl rfl rfl rfl (by decide) rfl (by decide) (fun c r=>Kyf (.inr (by decide))) fun r2 d R2 ld=>?_
  rw [V0m (by rw [hF]; simp),V0n (by rw [hF]; simp)]
  have h1:=Kxy R1.ty
  have h2:=Kxy R2.ty
  have sr:=V11 (N:=N) (ty:=ty) (ks:=[k0,k1,k2]) (ctx:=J.fCtx) E.hs R0 R1 R2 hc (by omega) (by omega)
  have fi:=Kyv (N:=N) (ty:=ty) (ks:=[k0,k1,k2]) (ctx:=J.fCtx) (us:=[Kwi [],Kwi [],Kwi []]) (z:=List.replicate (Int.toNat (J.fCtx.length:Int)) 0) (y0:=V01 r0) (y1:=V01 r1) (y2:=V01 r2) E.hs R0.bb R1.bb R2.bb (by omega) (by omega) (by omega) (by unfold V01; simp only; omega) (by unfold V01; simp only; omega)
  have hjb:=Kx4 E.hs R1.bb R2.bb
  have hjl:(Kwx s n b d).length=J.fCtx.length:=by unfold Kwx; rw [List.length_zipWith]; omega
  by_cases q1:r1.fType=r2.fType
  ·rw [if_pos ⟨q0,q1⟩] at sr
   rw [if_pos (show (V01 r1).fty=(V01 r2).fty from q1)] at fi
   exact V0p E (by rw [hT]; exact sr) (by rw [hT]; exact fi) (Kx2 E.hs R0.bb hjb) (by unfold Kwv; rw [List.length_zipWith]; omega)
  ·rw [if_neg fun h=>q1 h.2] at sr
   rw [if_neg (show ¬ (V01 r1).fty=(V01 r2).fty from q1)] at fi
   exact V0k (by rw [hT]; exact sr) (by decide) (by rw [hT]; exact fi) (by decide)
 ·have q0:¬ r0.fType=[0]:=by
   intro q
   rw [e0] at q
   cases q
   exact hf (if_pos (s0.2 rfl))
  refine V1j E hT (j:=j1) (k:=k1) (by rw [hF]; simp) (by rw [hF]; rfl) rfl (by omega) rfl rfl fun r1 b R1 lb=>?_
  refine V1j E hT (j:=j2) (k:=k2) (by rw [hF]; simp) (by rw [hF]; rfl) rfl (by omega) rfl rfl fun r2 d R2 ld=>?_
  rw [V0m (by rw [hF]; simp)]
  refine V0l (x:=⟨[],[],3,[]⟩) ?_ (by decide)
  rw [hT]
  exact (V11 E.hs R0 R1 R2 hc (by omega) (by omega)).trans (if_neg fun h=>q0 h.1)
end
theorem V1n {l:List Nat} {m:Nat} (h:l.length=2 + m):∃ a b r,l=a :: b :: r∧r.length=m:=by
 match l,h with
 | [],h=>simp at h; omega
 | [x],h=>simp at h; omega
 | a :: b :: r,h=>exact ⟨a,b,r,rfl,by simp at h; omega⟩
theorem V1o {l:List Nat} {m:Nat} (h:l.length=1 + m):∃ a r,l=a :: r∧r.length=m:=by
 match l,h with
 | [],h=>simp at h; omega
 | a :: r,h=>exact ⟨a,r,rfl,by simp at h; omega⟩
section
variable {s:K00} {n:Nat} {l:List K02} {i:Nat} {J:K02} {nj:List Nat} (E:Kzz s n l i J nj) {op N:Int} {ty:List Int} {ks:List K01}
include E
theorem V1p (hT:J.fTerm=⟨10,N,ty,ks⟩):V0h s J (Kha (s,l,(i:Int),J,[],((0:Nat):Int))) (Kog (s,l,(i:Int),J,[],[],[],((0:Nat):Int))):=by
 have hok:=E.jd.ok
 have hfr:=E.fr
 rw [hT] at hok hfr
 obtain ⟨k0,k1,rfl,_,_⟩:=nd2 hok (Nat.le_refl _) rfl
 obtain ⟨j0,j1,hF⟩:=V1a hfr
 have hc:=E.jd.cl
 refine V1i E hT (j:=j0) (k:=k0) (by rw [hF]; simp) (by rw [hF]; rfl) rfl (by omega) rfl rfl rfl rfl (by decide) rfl (.inr rfl) fun r0 a R0=>?_
 obtain ⟨c0,t0,e0,_,_⟩:=Kza E.hs R0.ty
 have C:=Kzk E.hs R0.ty e0
 refine ⟨_,by rw [e0]; exact Kyi,fun hf la=>?_,fun hf la=>?_⟩
 ·have z0:(Ks1 c0).1=3:=by
   split at hf
   ·assumption
   ·cases hf
  obtain ⟨g,p,q,hg,h15,hcg,hq,P⟩:=C.arr z0
  subst hcg
  refine V0q E (m:=[]) (j:=j1) (k:=k1) (by rw [hF]; simp) (by rw [hF]; rfl) (by rw [hT]; rfl) (by simp) (fun _ h=>by cases h) (by simp) (by simp) (by simp) (by simp) (by omega) fun r1 b R1=>?_
  obtain ⟨c1,t1,e1,_,_⟩:=Kza E.hs R1.ty
  have hp:=Kxy P.ya
  have hsame:=Kvn r1.fType p (by omega)
  have sr:=V14 (N:=N) (ty:=ty) (ks:=[k0,k1]) (ctx:=J.fCtx) E.hs hg h15 hq P R0 R1 hc
  refine ⟨V00 r0,r0.fType,0,!(r1.fType == p),rfl,by rw [hT]; exact V07 rfl,rfl,by rw [hT]; exact Kz3 (by decide) rfl,by rw [hT,e1]; exact Kyf (.inr (by decide)),fun _ _=>?_,fun _ hab lb=>?_,fun hn lb=>?_⟩
  ·unfold V02
   rw [hT,if_pos (show ((10:Int) == 10)=true by decide),if_pos (by decide),show idx (([] ++ [V01 r0]) ++ [V01 r1]) 0=some (V01 r0) from rfl,bs,show (V01 r0).fty=r0.fType from rfl,hq,P.pp,bs,Kyn,bs,hsame,bs]
  ·have he:r1.fType=p:=by simpa using hab
   have lb':b.length=J.fCtx.length:=by simpa using lb
   have sr:=sr (by omega)
   rw [if_pos he] at sr
   rw [V0m (by rw [hF]; simp),V0n (by rw [hF]; simp)]
   have fi:=Kyz (N:=N) (ty:=ty) (ks:=[k0,k1]) (ctx:=J.fCtx) (us:=[Kwi [],Kwi []]) (z:=List.replicate (Int.toNat (J.fCtx.length:Int)) 0) (y0:=V01 r0) (y1:=V01 r1) (a:=a) (b:=b) E.hs hg (p:=p) (q:=q) hq P R0.bb R1.bb (by omega) (by omega)
   refine V0p E (by rw [hT]; exact sr) (by rw [hT]; exact fi) (Kx2 E.hs R0.bb (Kx3 E.hs hg R1.bb)) ?_
   have:(Kww s n g b).length=b.length:=by unfold Kww; rw [List.length_map]
   unfold Kwv; rw [List.length_zipWith]; omega
  ·have he:¬ r1.fType=p:=by
    intro h
    exact hn ⟨rfl,by rw [h]; simp⟩
   have lb':b.length=J.fCtx.length:=by simpa using lb
   have sr:=sr (by omega)
   rw [if_neg he] at sr
   rw [V0m (by rw [hF]; simp)]
   exact V0l (by rw [hT]; exact sr) (by decide)
 ·have w0:Kru c0=false:=by
   cases h:Kru c0 with
   | false=>rfl
   | true=>exact absurd (if_pos (C.arrB.1 h)) hf
  refine V1j E hT (j:=j1) (k:=k1) (by rw [hF]; simp) (by rw [hF]; rfl) rfl (by omega) rfl rfl fun r1 b R1 lb=>?_
  rw [V0m (by rw [hF]; simp)]
  refine V0l (x:=⟨[],[],3,[]⟩) ?_ (by decide)
  rw [hT]
  exact V0x e0 w0 hc
theorem V1q (hT:J.fTerm=⟨5,N,ty,ks⟩):V0h s J (Kha (s,l,(i:Int),J,[],((0:Nat):Int))) (Kog (s,l,(i:Int),J,[],[],[],((0:Nat):Int))):=by
 have hok:=E.jd.ok
 have hfr:=E.fr
 rw [hT] at hok hfr
 obtain ⟨k0,k1,rfl,_,_⟩:=nd2 hok (Nat.le_refl _) rfl
 obtain ⟨j0,j1,hF⟩:=V1a hfr
 obtain ⟨g,hN,hg⟩:=Ky7 E.hs (Ky9 hok rfl)
 simp only at hN
 subst hN
 have hc:=E.jd.cl
 refine V1i E hT (j:=j0) (k:=k0) (by rw [hF]; simp) (by rw [hF]; rfl) rfl (by omega) rfl rfl rfl rfl (by decide) rfl (.inr rfl) fun r0 a R0=>?_
 obtain ⟨c0,t0,e0,_,_⟩:=Kza E.hs R0.ty
 have C:=Kzk E.hs R0.ty e0
 refine ⟨_,by rw [e0]; exact Kyj E.hs hg,fun hf la=>?_,fun hf la=>?_⟩
 ·have z0:(Ks1 c0).1=1∧le s n 1 g=true:=by
   split at hf
   ·split at hf
    ·exact ⟨by assumption,by assumption⟩
    ·cases hf
   ·cases hf
  obtain ⟨p,q,hcg,hq,P⟩:=C.pair z0.1
  subst hcg
  refine V0q E (m:=[q,p]) (j:=j1) (k:=k1) (by rw [hF]; simp) (by rw [hF]; rfl) (by rw [hT]; rfl) (by simp) (fun x h=>by
   rcases List.mem_cons.1 h with rfl | h
   ·exact P.yb
   ·rw [List.mem_singleton.1 h]; exact P.ya) (by simp) (by simp) (by simp) (by simp) (by omega) fun r1 b R1=>?_
  obtain ⟨c1,t1,e1,_,_⟩:=Kza E.hs R1.ty
  refine ⟨V00 r0,r0.fType,0,false,rfl,by rw [hT,show (V00 r0).fty=r0.fType from rfl,hq]; exact V09 P,rfl,by rw [hT,hq]; exact Kz5 P,by rw [hT,e1]; exact Kyf (.inr (by decide)),fun _ _=>by unfold V02; rw [hT]; rfl,fun _ _ lb=>?_,fun q=>absurd ⟨rfl,rfl⟩ q⟩
  obtain ⟨u0,u1,v,rfl,hv⟩:=V1n (by simpa using lb)
  have h1:=Kxy R1.ty
  have hvb:Kwy n v:=fun x hx=>R1.bb x (by simp [hx])
  have sr:=V16 (ty:=ty) (ks:=[k0,k1]) (ctx:=J.fCtx) E.hs hg R0 R1 hc la rfl hv
  have fi:=Kz0 (ty:=ty) (ks:=[k0,k1]) (ctx:=J.fCtx) (z:=List.replicate (Int.toNat (J.fCtx.length:Int)) 0) (y0:=V01 r0) (y1:=V01 r1) (us':=Kwi []) (a:=a) (b:=v) E.hs hg (u:=[u0,u1]) (fun x hx=>R1.bb x (by simp at hx ⊢; rcases hx with h | h <;> simp [h])) (by simp) R0.bb hvb (by omega) (by omega) (by unfold V01; simp only; omega)
  have hal:([u0,u1].all fun x=>le s n x g)=(le s n u0 g && le s n u1 g):=by simp
  rw [hal] at fi
  rw [V0m (by rw [hF]; simp),V0n (by rw [hF]; simp)]
  by_cases hle:(le s n u0 g && le s n u1 g)=true
  ·rw [if_pos hle] at fi
   rw [Bool.and_eq_true] at hle
   rw [if_pos ⟨z0.2,hle.1,hle.2⟩] at sr
   refine V0p E (by rw [hT]; exact sr) (by rw [hT]; exact fi) (Kx2 E.hs (Kx3 E.hs hg R0.bb) hvb) ?_
   have:(Kww s n g a).length=a.length:=by unfold Kww; rw [List.length_map]
   unfold Kwv; rw [List.length_zipWith]; omega
  ·rw [if_neg hle] at fi
   rw [if_neg fun h=>hle (by rw [h.2.1,h.2.2]; rfl)] at sr
   exact V0k (by rw [hT]; exact sr) (by decide) (by rw [hT]; exact fi) (by decide)
 ·by_cases z0:(Ks1 c0).1=1
  ·obtain ⟨p,q,hcg,hq,P⟩:=C.pair z0
   have z1:¬ le s n 1 g=true:=fun h=>hf (by rw [if_pos z0,if_pos h])
   subst hcg
   refine V0r E (j:=j1) (k:=k1) (by rw [hF]; simp) (by rw [hF]; rfl) (by rw [hT]; rfl) (by simp) (by omega) fun r1 b R1=>?_
   refine ⟨V00 r0,[q,p],true,rfl,by rw [hT,show (V00 r0).fty=r0.fType from rfl,hq]; exact V09 P,by simp,(fun x h=>by
    rcases List.mem_cons.1 h with rfl | h
    ·exact P.yb
    ·rw [List.mem_singleton.1 h]; exact P.ya),fun _ lb=>?_⟩
   obtain ⟨u0,u1,v,rfl,hv⟩:=V1n (by simpa using lb)
   rw [V0m (by rw [hF]; simp)]
   refine V0l (x:=⟨[],[],9,[]⟩) ?_ (by decide)
   rw [hT]
   exact (V16 E.hs hg R0 R1 hc la rfl hv).trans (if_neg fun h=>z1 h.1)
  ·have h1:c0 ≠ 1:=fun h=>z0 (by rw [h]; decide)
   refine V0r E (j:=j1) (k:=k1) (by rw [hF]; simp) (by rw [hF]; rfl) (by rw [hT]; rfl) (by simp) (by omega) fun r1 b R1=>?_
   exact ⟨V00 r0,[],false,rfl,by rw [hT,show (V00 r0).fty=r0.fType from rfl,e0]; exact V0a h1,by simp,(fun _ h=>by cases h),fun h=>by cases h⟩
theorem V1r (hT:J.fTerm=⟨12,N,ty,ks⟩):V0h s J (Kha (s,l,(i:Int),J,[],((0:Nat):Int))) (Kog (s,l,(i:Int),J,[],[],[],((0:Nat):Int))):=by
 have hok:=E.jd.ok
 have hfr:=E.fr
 rw [hT] at hok hfr
 obtain ⟨k0,k1,rfl,_,_⟩:=nd2 hok (Nat.le_refl _) rfl
 obtain ⟨j0,j1,hF⟩:=V1a hfr
 obtain ⟨g,hN,hg⟩:=Ky7 E.hs (Ky9 hok rfl)
 simp only at hN
 subst hN
 have hc:=E.jd.cl
 refine V1i E hT (j:=j0) (k:=k0) (by rw [hF]; simp) (by rw [hF]; rfl) rfl (by omega) rfl rfl rfl rfl (by decide) rfl (.inr rfl) fun r0 a R0=>?_
 obtain ⟨c0,t0,e0,_,_⟩:=Kza E.hs R0.ty
 have C:=Kzk E.hs R0.ty e0
 refine ⟨_,by rw [e0]; exact Kyl E.hs hg,fun hf la=>?_,fun hf la=>?_⟩
 ·have z0:(Ks1 c0).1=4∧le s n 1 g=true:=by
   split at hf
   ·split at hf
    ·exact ⟨by assumption,by assumption⟩
    ·cases hf
   ·cases hf
  obtain ⟨m,p,hm,h15,hcg,hq,P⟩:=C.box z0.1
  subst hcg
  refine V0q E (m:=[p]) (j:=j1) (k:=k1) (by rw [hF]; simp) (by rw [hF]; rfl) (by rw [hT]; rfl) (by simp) (fun x h=>by rw [List.mem_singleton.1 h]; exact P.ya) (by simp) (by simp) (by simp) (by simp) (by omega) fun r1 b R1=>?_
  obtain ⟨c1,t1,e1,_,_⟩:=Kza E.hs R1.ty
  refine ⟨V00 r0,r0.fType,0,false,rfl,by rw [hT,show (V00 r0).fty=r0.fType from rfl,hq]; exact V0d (Kzg m h15) P,rfl,by rw [hT,hq]; exact Kz8 P,by rw [hT,e1]; exact Kyf (.inr (by decide)),fun _ _=>by unfold V02; rw [hT]; rfl,fun _ _ lb=>?_,fun q=>absurd ⟨rfl,rfl⟩ q⟩
  obtain ⟨u0,v,rfl,hv⟩:=V1o (by simpa using lb)
  have h1:=Kxy R1.ty
  have hvb:Kwy n v:=fun x hx=>R1.bb x (by simp [hx])
  have sr:=V17 (ty:=ty) (ks:=[k0,k1]) (ctx:=J.fCtx) E.hs hg hm h15 hq R0 R1 hc la rfl hv
  have fi:=Kz1 (ty:=ty) (ks:=[k0,k1]) (ctx:=J.fCtx) (z:=List.replicate (Int.toNat (J.fCtx.length:Int)) 0) (y0:=V01 r0) (y1:=V01 r1) (us':=Kwi []) (a:=a) (b:=v) E.hs hg hm hq (u:=[u0]) (fun x hx=>R1.bb x (by simp at hx ⊢; simp [hx])) (by simp) R0.bb hvb (by omega) (by omega) (by unfold V01; simp only; omega)
  have hal:([u0].all fun x=>le s n x (ti s n g m))=le s n u0 (ti s n g m):=by simp
  rw [hal] at fi
  rw [V0m (by rw [hF]; simp),V0n (by rw [hF]; simp)]
  by_cases hle:le s n u0 (ti s n g m)=true
  ·rw [if_pos hle] at fi
   rw [if_pos ⟨z0.2,hle⟩] at sr
   refine V0p E (by rw [hT]; exact sr) (by rw [hT]; exact fi) (Kx2 E.hs (Kx3 E.hs hg R0.bb) hvb) ?_
   have:(Kww s n g a).length=a.length:=by unfold Kww; rw [List.length_map]
   unfold Kwv; rw [List.length_zipWith]; omega
  ·rw [if_neg hle] at fi
   rw [if_neg fun h=>hle h.2] at sr
   exact V0k (by rw [hT]; exact sr) (by decide) (by rw [hT]; exact fi) (by decide)
 ·by_cases z0:(Ks1 c0).1=4
  ·obtain ⟨m,p,hm,h15,hcg,hq,P⟩:=C.box z0
   have z1:¬ le s n 1 g=true:=fun h=>hf (by rw [if_pos z0,if_pos h])
   subst hcg
   refine V0r E (j:=j1) (k:=k1) (by rw [hF]; simp) (by rw [hF]; rfl) (by rw [hT]; rfl) (by simp) (by omega) fun r1 b R1=>?_
   refine ⟨V00 r0,[p],true,rfl,by rw [hT,show (V00 r0).fty=r0.fType from rfl,hq]; exact V0d (Kzg m h15) P,by simp,(fun x h=>by rw [List.mem_singleton.1 h]; exact P.ya),fun _ lb=>?_⟩
   obtain ⟨u0,v,rfl,hv⟩:=V1o (by simpa using lb)
   rw [V0m (by rw [hF]; simp)]
   refine V0l (x:=⟨[],[],9,[]⟩) ?_ (by decide)
   rw [hT]
   exact (V17 E.hs hg hm h15 hq R0 R1 hc la rfl hv).trans (if_neg fun h=>z1 h.1)
  ·have h1:Krv c0=false:=by
    cases h:Krv c0 with
    | false=>rfl
    | true=>exact absurd (C.boxB.1 h) z0
   refine V0r E (j:=j1) (k:=k1) (by rw [hF]; simp) (by rw [hF]; rfl) (by rw [hT]; rfl) (by simp) (by omega) fun r1 b R1=>?_
   exact ⟨V00 r0,[],false,rfl,by rw [hT,show (V00 r0).fty=r0.fType from rfl,e0]; exact V0e h1,by simp,(fun _ h=>by cases h),fun h=>by cases h⟩
theorem V1s (hT:J.fTerm=⟨8,N,ty,ks⟩):V0h s J (Kha (s,l,(i:Int),J,[],((0:Nat):Int))) (Kog (s,l,(i:Int),J,[],[],[],((0:Nat):Int))):=by
 have hok:=E.jd.ok
 have hfr:=E.fr
 rw [hT] at hok hfr
 obtain ⟨k0,k1,k2,rfl,_,_,_⟩:=nd3 hok (Nat.le_refl _) rfl
 obtain ⟨j0,j1,j2,hF⟩:=V1b hfr
 obtain ⟨g,hN,hg⟩:=Ky7 E.hs (Ky9 hok rfl)
 simp only at hN
 subst hN
 have hc:=E.jd.cl
 refine V1i E hT (j:=j0) (k:=k0) (by rw [hF]; simp) (by rw [hF]; rfl) rfl (by omega) rfl rfl rfl rfl (by decide) rfl (.inr rfl) fun r0 a R0=>?_
 obtain ⟨c0,t0,e0,_,_⟩:=Kza E.hs R0.ty
 have C:=Kzk E.hs R0.ty e0
 refine ⟨_,by rw [e0]; exact Kyk E.hs hg,fun hf la=>?_,fun hf la=>?_⟩
 ·have z0:(Ks1 c0).1=2∧le s n 1 g=true:=by
   split at hf
   ·split at hf
    ·exact ⟨by assumption,by assumption⟩
    ·cases hf
   ·cases hf
  obtain ⟨p,q,hcg,hq,P⟩:=C.sum z0.1
  subst hcg
  refine V0q E (m:=[p]) (j:=j1) (k:=k1) (by rw [hF]; simp) (by rw [hF]; rfl) (by rw [hT]; rfl) (by simp) (fun x h=>by rw [List.mem_singleton.1 h]; exact P.ya) (by simp) (by simp) (by simp) (by simp) (by omega) fun r1 b R1=>?_
  obtain ⟨c1,t1,e1,_,_⟩:=Kza E.hs R1.ty
  refine ⟨V00 r0,r0.fType,0,false,rfl,by rw [hT,show (V00 r0).fty=r0.fType from rfl,hq]; exact (V0b P).1,rfl,by rw [hT,hq]; exact Kz6 P,by rw [hT,e1]; exact Kyf (.inr (by decide)),fun _ _=>by unfold V02; rw [hT]; rfl,fun _ _ lb=>?_,fun q=>absurd ⟨rfl,rfl⟩ q⟩
  obtain ⟨u0,u,rfl,hu⟩:=V1o (by simpa using lb)
  refine V0q E (m:=[q]) (j:=j2) (k:=k2) (by rw [hF]; simp) (by rw [hF]; rfl) (by rw [hT]; rfl) (by simp) (fun x h=>by rw [List.mem_singleton.1 h]; exact P.yb) (by simp) (by simp) (by simp) (by simp) (by omega) fun r2 d R2=>?_
  obtain ⟨c2,t2,e2,_,_⟩:=Kza E.hs R2.ty
  refine ⟨V00 r0,r0.fType,0,false,rfl,by rw [hT,show (V00 r0).fty=r0.fType from rfl,hq]; exact (V0b P).2,rfl,by rw [hT,hq]; exact Kz7 P,by rw [hT,e2]; exact Kyf (.inr (by decide)),fun _ _=>by unfold V02; rw [hT]; rfl,fun _ _ ld=>?_,fun q=>absurd ⟨rfl,rfl⟩ q⟩
  obtain ⟨v0,v,rfl,hv⟩:=V1o (by simpa using ld)
  have h1:=Kxy R1.ty
  have h2:=Kxy R2.ty
  have hub:Kwy n u:=fun x hx=>R1.bb x (by simp [hx])
  have hvb:Kwy n v:=fun x hx=>R2.bb x (by simp [hx])
  have hjb:=Kx4 E.hs hub hvb
  have hjl:(Kwx s n u v).length=J.fCtx.length:=by unfold Kwx; rw [List.length_zipWith]; omega
  have sr:=V18 (ty:=ty) (ks:=[k0,k1,k2]) (ctx:=J.fCtx) E.hs hg R0 R1 R2 hc la rfl rfl hu hv
  have fi:=Kz2 (ty:=ty) (ks:=[k0,k1,k2]) (ctx:=J.fCtx) (z:=List.replicate (Int.toNat (J.fCtx.length:Int)) 0) (y0:=V01 r0) (y1:=V01 r1) (y2:=V01 r2) (us':=Kwi []) (a:=a) (b:=u) (d:=v) E.hs hg (u:=[u0]) (v:=[v0]) (fun x hx=>R1.bb x (by simp at hx ⊢; simp [hx])) (by simp) (fun x hx=>R2.bb x (by simp at hx ⊢; simp [hx])) (by simp) R0.bb hub hvb (by omega) (by omega) (by omega) (by unfold V01; simp only; omega) (by unfold V01; simp only; omega)
  have hal:([u0].all fun x=>le s n x g)=le s n u0 g:=by simp
  have hal2:([v0].all fun x=>le s n x g)=le s n v0 g:=by simp
  rw [hal,hal2] at fi
  rw [V0m (by rw [hF]; simp),V0n (by rw [hF]; simp)]
  by_cases he:r1.fType=r2.fType
  ·rw [if_pos (show (V01 r1).fty=(V01 r2).fty from he)] at fi
   by_cases hle:le s n u0 g=true∧le s n v0 g=true
   ·rw [if_pos hle] at fi
    rw [if_pos ⟨he,hle.2⟩,if_pos ⟨z0.2,hle.1⟩,← he] at sr
    refine V0p E (by rw [hT]; exact sr) (by rw [hT]; exact fi) (Kx2 E.hs (Kx3 E.hs hg R0.bb) hjb) ?_
    have:(Kww s n g a).length=a.length:=by unfold Kww; rw [List.length_map]
    unfold Kwv; rw [List.length_zipWith]; omega
   ·rw [if_neg hle] at fi
    by_cases hv0:le s n v0 g=true
    ·rw [if_pos ⟨he,hv0⟩,if_neg fun h=>hle ⟨h.2,hv0⟩] at sr
     exact V0k (by rw [hT]; exact sr) (by decide) (by rw [hT]; exact fi) (by decide)
    ·rw [if_neg fun h=>hv0 h.2] at sr
     exact V0k (by rw [hT]; exact sr) (by decide) (by rw [hT]; exact fi) (by decide)
  ·rw [if_neg (show ¬ (V01 r1).fty=(V01 r2).fty from he)] at fi
   rw [if_neg fun h=>he h.1] at sr
   exact V0k (by rw [hT]; exact sr) (by decide) (by rw [hT]; exact fi) (by decide)
 ·by_cases z0:(Ks1 c0).1=2
  ·obtain ⟨p,q,hcg,hq,P⟩:=C.sum z0
   have z1:¬ le s n 1 g=true:=fun h=>hf (by rw [if_pos z0,if_pos h])
   subst hcg
   refine V0r E (j:=j1) (k:=k1) (by rw [hF]; simp) (by rw [hF]; rfl) (by rw [hT]; rfl) (by simp) (by omega) fun r1 b R1=>?_
   refine ⟨V00 r0,[p],true,rfl,by rw [hT,show (V00 r0).fty=r0.fType from rfl,hq]; exact (V0b P).1,by simp,(fun x h=>by rw [List.mem_singleton.1 h]; exact P.ya),fun _ lb=>?_⟩
   obtain ⟨u0,u,rfl,hu⟩:=V1o (by simpa using lb)
   refine V0r E (j:=j2) (k:=k2) (by rw [hF]; simp) (by rw [hF]; rfl) (by rw [hT]; rfl) (by simp) (by omega) fun r2 d R2=>?_
   refine ⟨V00 r0,[q],true,rfl,by rw [hT,show (V00 r0).fty=r0.fType from rfl,hq]; exact (V0b P).2,by simp,(fun x h=>by rw [List.mem_singleton.1 h]; exact P.yb),fun _ ld=>?_⟩
   obtain ⟨v0,v,rfl,hv⟩:=V1o (by simpa using ld)
   rw [V0m (by rw [hF]; simp)]
   have sr:=V18 (ty:=ty) (ks:=[k0,k1,k2]) (ctx:=J.fCtx) E.hs hg R0 R1 R2 hc la rfl rfl hu hv
   by_cases h:r1.fType=r2.fType∧le s n v0 g=true
   ·rw [if_pos h,if_neg fun h=>z1 h.1] at sr
    exact V0l (by rw [hT]; exact sr) (by decide)
   ·rw [if_neg h] at sr
    exact V0l (by rw [hT]; exact sr) (by decide)
  ·have h1:c0 ≠ 2:=fun h=>z0 (by rw [h]; decide)
   refine V0r E (j:=j1) (k:=k1) (by rw [hF]; simp) (by rw [hF]; rfl) (by rw [hT]; rfl) (by simp) (by omega) fun r1 b R1=>?_
   exact ⟨V00 r0,[],false,rfl,by rw [hT,show (V00 r0).fty=r0.fType from rfl,e0]; exact V0c h1,by simp,(fun _ h=>by cases h),fun h=>by cases h⟩
theorem V1t (hT:J.fTerm=⟨0,N,ty,ks⟩):V0h s J (Kha (s,l,(i:Int),J,[],((0:Nat):Int))) (Kog (s,l,(i:Int),J,[],[],[],((0:Nat):Int))):=by
 have hok:=E.jd.ok
 have hfr:=E.fr
 rw [hT] at hok hfr
 obtain ⟨v,hN,hl,hk⟩:=Kyb hok rfl
 simp only at hN hk
 subst hN; subst hk
 have hc:=E.jd.cl
 have hq:J.fCtx[v]?=some J.fCtx[v]:=List.getElem?_eq_getElem hl
 have hy:=Kxy (E.jd.cx J.fCtx[v] (List.getElem_mem hl))
 have e1:idx J.fCtx (v:Int)=some J.fCtx[v]:=Kqc hl
 have hz:=Kxl J.fCtx.length (by omega)
 have e2:idx (Kwi (List.replicate J.fCtx.length 0)) (v:Int)=some (((List.replicate J.fCtx.length (0:Nat))[v]'(by simpa using hl):Nat):Int):=by
  rw [Kqc (by rw [Kwj]; simpa using hl)]; simp [Kwi]
 have e3:List.set (Kwi (List.replicate J.fCtx.length 0)) v 1=Kwi ((List.replicate J.fCtx.length 0).set v 1):=by unfold Kwi; rw [List.map_set]; rfl
 have e4:List.replicate (Int.toNat (J.fCtx.length:Int)) (0:Int)=Kwi (List.replicate J.fCtx.length 0):=by simp [Kwi]
 have hn:J.fFrom.length=0:=by simpa using hfr
 rw [V0m (by omega),V0n (by omega)]
 refine V0p E (q:=J.fCtx[v]) (a:=(List.replicate J.fCtx.length 0).set v 1) ?_ ?_ ?_ (by simp)
 ·rw [hT,Kz9,if_neg (by omega)]
  unfold Kgv
  simp only
  rw [Kgc.eq_def]
  simp [hz,e1,e2,Ktw J.fCtx[v] (by omega),e3]
 ·rw [hT,e4]
  exact Kyq hq (by simpa using hl) hy
 ·intro x hx
  have h1:=Kwp E.hs
  rcases List.mem_or_eq_of_mem_set hx with h | rfl
  ·rw [List.eq_of_mem_replicate h]; omega
  ·exact h1
theorem V1u (hT:J.fTerm=⟨1,N,ty,ks⟩):V0h s J (Kha (s,l,(i:Int),J,[],((0:Nat):Int))) (Kog (s,l,(i:Int),J,[],[],[],((0:Nat):Int))):=by
 have hok:=E.jd.ok
 have hfr:=E.fr
 rw [hT] at hok hfr
 have hk:=Kyc hok rfl
 simp only at hk
 subst hk
 have hc:=E.jd.cl
 have hz:=Kxl J.fCtx.length (by omega)
 have e4:List.replicate (Int.toNat (J.fCtx.length:Int)) (0:Int)=Kwi (List.replicate J.fCtx.length 0):=by simp [Kwi]
 have hn:J.fFrom.length=0:=by simpa using hfr
 rw [V0m (by omega),V0n (by omega)]
 refine V0p E (q:=[0]) (a:=List.replicate J.fCtx.length 0) ?_ ?_ ?_ (by simp)
 ·rw [hT,Kz9,if_neg (by decide)]
  unfold Kgv
  simp only
  rw [Kgc.eq_def]
  simp [hz]
 ·rw [hT,e4]
  exact Kyr
 ·intro x hx
  rw [List.eq_of_mem_replicate hx]
  exact Kwq E.hs
theorem V1v:V0h s J (Kha (s,l,(i:Int),J,[],((0:Nat):Int))) (Kog (s,l,(i:Int),J,[],[],[],((0:Nat):Int))):=by
 have hop:=(Ktv (Ktt E.jd.ok).1).1
 generalize hT:J.fTerm=t at hop
 obtain ⟨op,N,ty,ks⟩:=t
 simp only at hop
 rcases Kt0 hop with rfl | rfl | rfl | rfl | rfl | rfl | rfl | rfl | rfl | rfl | rfl | rfl | rfl
 ·exact V1t E hT
 ·exact V1u E hT
 ·exact V1l E hT
 ·exact V1m E hT
 ·exact V1e E hT
 ·exact V1q E hT
 ·exact V1f E hT
 ·exact V1g E hT
 ·exact V1s E hT
 ·exact V1k E hT
 ·exact V1p E hT
 ·exact V1h E hT
 ·exact V1r E hT
end
def jct:List K02→Nat
 | []=>0
 | x :: l=>jms x + jct l
def V1w (l:List K02):Nat:=l.length + jct l
theorem V1x {l:List K02} {r:K02} (h:r ∈ l):jms r ≤ jct l:=by
 induction l with
 | nil=>cases h
 | cons x l ih =>
  rw [jct]
  rcases List.mem_cons.1 h with rfl | h
  ·omega
  ·have:=ih h; omega
theorem V1y:∀ (l a:List K02) (i left:Nat),a.drop i=l→a.length ≤ 9223372036854775807→(∀ v ∈ l,jln v)→left ≤ 1048576→K99 (a,(left:Int),(i:Int))=some (if left < jct l then .inr (-1) else .inl ((left - jct l:Nat):Int)):=by
 intro l
 induction l with
 | nil =>
  intro a i left hd ha hl hf
  rw [K99.eq_def]
  simp only
  rw [Kqf (Krt hd)]; simp [jct]
 | cons x l ih =>
  intro a i left hd ha hl hf
  obtain ⟨hi,hx,hd'⟩:=Krs hd
  rw [K99.eq_def]
  simp only
  rw [Kqe hi,if_pos rfl,hx,bs,Kw2 x _ (hl x List.mem_cons_self) (by omega) (by omega),bs,jct,Kqd (by omega)]
  rcases Ktj left (jms x) with ⟨e,q⟩ | ⟨e,q⟩
  ·rw [e,decide_eq_true (by decide),if_pos rfl,if_pos (by omega)]
  ·rw [e,decide_eq_false (by omega),if_neg (by decide),show (left:Int) - (jms x:Int)=((left - jms x:Nat):Int) by omega,ih a (i + 1) (left - jms x) hd' ha (fun v hv=>hl v (List.mem_cons_of_mem _ hv)) (by omega)]
   by_cases q2:left - jms x < jct l
   ·rw [if_pos q2,if_pos (by omega)]
   ·rw [if_neg q2,if_neg (by omega)]; congr 3; omega
theorem V1z (a:List K02) (left:Int) (ha:a.length ≤ 9223372036854775807∧∀ v ∈ a,jln v) (h1:0 ≤ left) (h2:left ≤ 1048576):K9c (a,left)=some (szB left (V1w a)):=by
 have hl:=ha.1
 unfold K9c V1w
 simp only
 rw [Kqb (by omega) (by omega)]
 by_cases h3:left - (a.length:Int) < 0
 ·rw [decide_eq_true h3,if_pos rfl]; unfold szB; rw [if_pos (by omega)]
 ·obtain ⟨m,hm⟩:∃ m:Nat,left - (a.length:Int)=(m:Int):=⟨(left - (a.length:Int)).toNat,by omega⟩
  have h:=V1y a a 0 m rfl hl ha.2 (by omega)
  rw [show ((0:Nat):Int)=0 from rfl] at h
  rw [decide_eq_false h3,if_neg (by decide),hm,h,bs]
  unfold szB
  by_cases q:m < jct a
  ·rw [if_pos q,if_pos (by omega)]
  ·rw [if_neg q,if_neg (by omega)]; simp only; congr 1; omega
theorem V20:∀ (l a out:List K02) (i:Nat),a.drop i=l→a.length ≤ 1099511627776→jct l ≤ 1099511627776→out.length=a.length→out.take i=a.take i→Kai (a,out,(i:Int))=some a:=by
 intro l
 induction l with
 | nil =>
  intro a out i hd ha hl ho ht
  rw [Kai.eq_def]
  simp only
  have hle:=Krt hd
  rw [Kqf hle]
  rw [List.take_of_length_le (by omega),List.take_of_length_le (by omega)] at ht
  simp [ht]
 | cons x l ih =>
  intro a out i hd ha hl ho ht
  obtain ⟨hi,hx,hd'⟩:=Krs hd
  have hk:a[i]=x:=by rw [Kqc hi] at hx; exact Option.some.inj hx
  rw [jct] at hl
  rw [Kai.eq_def]
  simp only
  rw [Kqe hi,if_pos rfl,hx,bs,Kw3 x (by omega),bs,Kqc (by omega),bs,Kqd (by omega),Int.toNat_natCast]
  exact ih a _ (i + 1) hd' ha (by omega) (by simpa using ho) (by rw [← hk]; exact Kqg ho hi ht)
theorem V21 (a:List K02) (h:V1w a ≤ 137438953472):Kan a=some a:=by
 unfold V1w at h
 unfold Kan
 have:chk (0 ≤ (a.length:Int)∧(Int.toNat (a.length:Int)) * 160 ≤ 140737488355328)=some ():=by
  unfold chk; rw [if_pos]; refine ⟨by omega,?_⟩; rw [Int.toNat_natCast]; omega
 have h0:=V20 a a (List.replicate a.length ⟨[],[],⟨0,0,[],[]⟩,[],[]⟩) 0 rfl (by omega) (by omega) (by simp) rfl
 rw [show ((0:Nat):Int)=0 from rfl] at h0
 rw [this,bs,Int.toNat_natCast,h0,bs]
theorem V22:∀ (l a:List K02) (i:Nat),a.drop i=l→a.length ≤ 1099511627776→jct l ≤ 1099511627776→Kq2 (a,a,(i:Int))=some (.inl ()):=by
 intro l
 induction l with
 | nil =>
  intro a i hd ha hl
  rw [Kq2.eq_def]
  simp only
  rw [Kqf (Krt hd)]; rfl
 | cons x l ih =>
  intro a i hd ha hl
  obtain ⟨hi,hx,hd'⟩:=Krs hd
  rw [jct] at hl
  rw [Kq2.eq_def]
  simp only
  rw [Kqe hi,if_pos rfl,hx,bs,bs,Kw4 x (by omega),bs,if_pos rfl,Kqd (by omega)]
  exact ih a (i + 1) hd' ha (by omega)
theorem V23 (a:List K02) (h:V1w a ≤ 1099511627776):Kq5 (a,a)=some true:=by
 unfold V1w at h
 unfold Kq5
 simp only
 have h0:=V22 a a 0 rfl (by omega) (by omega)
 rw [show ((0:Nat):Int)=0 from rfl] at h0
 rw [Kql,if_neg (by decide),h0,bs]
theorem V24 {s:K00} {l:List K02} (sy:Ku8 s=true) (hz:sms s ≤ 1048576) (hl:V1w l ≤ 1048576) (hj:∀ v ∈ l,jln v) {i:Nat} (hi:i < l.length):∃ b,Khd (s,l,(i:Int))=some b∧Kon (s,l,(i:Int))=some b:=by
 unfold V1w at hl
 have hr:idx l (i:Int)=some l[i]:=Kqc hi
 have hmem:l[i] ∈ l:=List.getElem_mem hi
 generalize l[i]=J at hr hmem
 have m1:=V1x hmem
 have m1':=m1
 unfold jms at m1'
 have s1:=Kzy sy J (by omega)
 have i1:=Kwe s J (by omega)
 have hw:wr ((l.length:Int) - 1)=(l.length:Int) - 1:=Kqb (by omega) (by omega)
 have hb:inB (i:Int) 0 (wr ((l.length:Int) - 1))=true:=by
  rw [hw]; unfold inB
  rw [decide_eq_true (by omega),decide_eq_true (by omega)]; rfl
 unfold Khd Kon
 simp only [sIn,bs,hb,if_true,hr,s1,i1]
 cases hg:Kwc s J with
 | false=>exact ⟨false,rfl,rfl⟩
 | true =>
  simp only [if_true,bs]
  by_cases hf:J.fFrom.length=J.fTerm.fKids.length
  ·obtain ⟨ns,R⟩:=Kzw (Kwo sy) hg
   have E:Kzz s s.fSize.toNat l i J ns:={ hs:=Kwo sy,sy:=sy,hz:=hz,hl:=fun r h=>⟨by have:=V1x h; omega,hj r h⟩,ln:=by omega,hi:=hi,hJ:=hr,jd:=R,fr:=hf,tm:=by omega }
   obtain ⟨v,h1,h2⟩:=V1v E
   have hc:=R.cl
   refine ⟨v,?_,?_⟩
   ·rw [show ((J.fFrom.length:Int) != (J.fTerm.fKids.length:Int))=false by rw [hf]; exact Kql,if_neg (by decide)]
    exact h1
   ·rw [show ((J.fFrom.length:Int) != (J.fTerm.fKids.length:Int))=false by rw [hf]; exact Kql,if_neg (by decide),Kvi ⟨by omega,by rw [Int.toNat_natCast]; omega⟩,bs]
    exact h2
  ·rw [bne_iff_ne.2 (by omega)]
   exact ⟨false,rfl,rfl⟩
theorem V25 {s:K00} {l:List K02} (sy:Ku8 s=false) (hz:sms s ≤ 1048576) (hl:V1w l ≤ 1048576) (hj:∀ v ∈ l,jln v) {i:Nat} (hi:i < l.length):Khd (s,l,(i:Int))=some false:=by
 unfold V1w at hl
 have hr:idx l (i:Int)=some l[i]:=Kqc hi
 have hmem:l[i] ∈ l:=List.getElem_mem hi
 generalize l[i]=J at hr hmem
 have m1:=V1x hmem
 have w1:=Kzx s J (by omega)
 rw [sy,Bool.false_and] at w1
 have hw:wr ((l.length:Int) - 1)=(l.length:Int) - 1:=Kqb (by omega) (by omega)
 have hb:inB (i:Int) 0 (wr ((l.length:Int) - 1))=true:=by
  rw [hw]; unfold inB
  rw [decide_eq_true (by omega),decide_eq_true (by omega)]; rfl
 unfold Khd
 simp only [sIn,bs,hb,if_true,hr,w1]
 rfl
end Go.Am
