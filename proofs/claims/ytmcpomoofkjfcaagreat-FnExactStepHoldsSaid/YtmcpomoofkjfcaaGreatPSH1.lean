/- Plain laws of the printed functions. -/
import Derived.Test.YtmcpomoofkjfcaaGreatPSH0
set_option linter.unusedSimpArgs false
set_option linter.unusedVariables false
namespace Go.Am
theorem Ky6 (k:Nat) (h:k ≤ 1048576):Kg8 (k:Int)=some (Kx3 (List.replicate k 0)):=by
 unfold Kg8
 rw [Int.toNat_natCast,Kw3 (by constructor <;> omega),bs]
 unfold Kx3
 rw [List.map_replicate]
 rfl
theorem Ky7 (ctx front:List (List Int)) (h:ctx.length + front.length ≤ 1048576):Kfy (ctx,front)=some (front ++ ctx):=by
 unfold Kfy
 simp only
 rw [Kuf (by simp; omega),bs,Kuf (by omega),bs]
theorem Ky8 (ps:List (List Int)) (hp:ps.length ≤ 1099511627776):∀ (l:List (List Int)) (i:Nat) (out:List Int),ps.drop i=l→out.length + l.flatten.length ≤ 1099511627776→Kgf (ps,out,(i:Int))=some (out ++ l.flatten):=by
 intro l
 induction l with
 | nil =>
  intro i out hd _
  rw [Kgf.eq_def]
  simp only
  rw [Kr0 (Kse hd)]
  simp
 | cons x l ih =>
  intro i out hd ho
  obtain ⟨h1,h2,h3⟩:=Ksd hd
  rw [List.flatten_cons,List.length_append] at ho
  rw [Kgf.eq_def]
  simp only
  rw [Kqz h1,if_pos rfl,h2,bs,Kuf (by omega),bs,Kqy (by omega),ih (i + 1) _ h3 (by rw [List.length_append]; omega),List.flatten_cons,List.append_assoc]
theorem Ky9 (c:Int) (ps:List (List Int)) (hp:ps.length ≤ 1048576) (h:ps.flatten.length ≤ 1048576):Kgi (c,ps)=some (c :: ps.flatten):=by
 unfold Kgi
 simp only
 rw [show (0:Int)=((0:Nat):Int) from rfl,Ky8 ps (by omega) ps 0 [c] rfl (by rw [List.length_singleton]; omega)]
 rfl
theorem Kya (ps:List (List (Int))) (hp:ps.length ≤ 1099511627776):∀ (l:List (List (Int))) (i sz:Nat),ps.drop i=l→sz + l.flatten.length ≤ 1099511627776→Kng (ps,(sz:Int),(i:Int))=some (((sz + l.flatten.length:Nat)):Int):=by
 intro l
 induction l with
 | nil =>
  intro i sz hd _
  rw [Kng.eq_def]
  simp only
  rw [Kr0 (Kse hd)]
  simp
 | cons x l ih =>
  intro i sz hd ho
  obtain ⟨h1,h2,h3⟩:=Ksd hd
  rw [List.flatten_cons,List.length_append] at ho
  have e:wr ((sz:Int) + (x.length:Int))=((sz + x.length:Nat):Int):=Kvp (by omega) (by omega)
  rw [Kng.eq_def]
  simp only
  rw [Kqz h1,if_pos rfl,h2,bs,e,decide_eq_false (by omega),if_neg (by decide),bs,Kqy (by omega),ih (i + 1) _ h3 (by omega),List.flatten_cons,List.length_append,Nat.add_assoc]
theorem Kyb (ps:List (List (Int))) (hp:ps.length ≤ 1099511627776):∀ (l:List (List (Int))) (i:Nat) (out:List (Int)),ps.drop i=l→out.length + l.flatten.length ≤ 1099511627776→Knk (ps,out,(i:Int))=some (out ++ l.flatten):=by
 intro l
 induction l with
 | nil =>
  intro i out hd _
  rw [Knk.eq_def]
  simp only
  rw [Kr0 (Kse hd)]
  simp
 | cons x l ih =>
  intro i out hd ho
  obtain ⟨h1,h2,h3⟩:=Ksd hd
  rw [List.flatten_cons,List.length_append] at ho
  rw [Knk.eq_def]
  simp only
  rw [Kqz h1,if_pos rfl,h2,bs,Kuf (by omega),bs,Kqy (by omega),ih (i + 1) _ h3 (by rw [List.length_append]; omega),List.flatten_cons,List.append_assoc]
theorem Kyc (k:Nat) (h:k ≤ 1048576):Knc (k:Int)=some ():=by
 unfold Knc
 have e:wr ((k:Int) - wr (0 - 0))=(k:Int):=by rw [Kqw (x:=0 - 0) (by decide) (by decide),Kqw (by omega) (by omega)]; omega
 rw [decide_eq_false (by omega),if_neg (by decide),e]
 by_cases hk:k=0
 ·subst hk; rfl
 ·rw [decide_eq_true (by omega),if_pos rfl,Int.toNat_natCast,Kw3 (by constructor <;> omega),bs]
theorem Kyd (ps:List (List (Int))) (hp:ps.length ≤ 1048576) (h:ps.flatten.length ≤ 1048576):Knn ps=some ps.flatten:=by
 unfold Knn
 have h0:=Kya ps (by omega) ps 0 0 rfl (by omega)
 rw [Nat.zero_add] at h0
 rw [show (0:Int)=((0:Nat):Int) from rfl,h0,bs,Kyc _ h,bs,Kyb ps (by omega) ps 0 [] rfl (by rw [List.length_nil]; omega)]
 rfl
theorem Kye (ps:List (List (List Int))) (hp:ps.length ≤ 1099511627776):∀ (l:List (List (List Int))) (i sz:Nat),ps.drop i=l→sz + l.flatten.length ≤ 1099511627776→Klv (ps,(sz:Int),(i:Int))=some (((sz + l.flatten.length:Nat)):Int):=by
 intro l
 induction l with
 | nil =>
  intro i sz hd _
  rw [Klv.eq_def]
  simp only
  rw [Kr0 (Kse hd)]
  simp
 | cons x l ih =>
  intro i sz hd ho
  obtain ⟨h1,h2,h3⟩:=Ksd hd
  rw [List.flatten_cons,List.length_append] at ho
  have e:wr ((sz:Int) + (x.length:Int))=((sz + x.length:Nat):Int):=Kvp (by omega) (by omega)
  rw [Klv.eq_def]
  simp only
  rw [Kqz h1,if_pos rfl,h2,bs,e,decide_eq_false (by omega),if_neg (by decide),bs,Kqy (by omega),ih (i + 1) _ h3 (by omega),List.flatten_cons,List.length_append,Nat.add_assoc]
theorem Kyf (ps:List (List (List Int))) (hp:ps.length ≤ 1099511627776):∀ (l:List (List (List Int))) (i:Nat) (out:List (List Int)),ps.drop i=l→out.length + l.flatten.length ≤ 1099511627776→Klz (ps,out,(i:Int))=some (out ++ l.flatten):=by
 intro l
 induction l with
 | nil =>
  intro i out hd _
  rw [Klz.eq_def]
  simp only
  rw [Kr0 (Kse hd)]
  simp
 | cons x l ih =>
  intro i out hd ho
  obtain ⟨h1,h2,h3⟩:=Ksd hd
  rw [List.flatten_cons,List.length_append] at ho
  rw [Klz.eq_def]
  simp only
  rw [Kqz h1,if_pos rfl,h2,bs,Kuf (by omega),bs,Kqy (by omega),ih (i + 1) _ h3 (by rw [List.length_append]; omega),List.flatten_cons,List.append_assoc]
theorem Kyg (k:Nat) (h:k ≤ 1048576):Klr (k:Int)=some ():=by
 unfold Klr
 have e:wr ((k:Int) - wr (0 - 0))=(k:Int):=by rw [Kqw (x:=0 - 0) (by decide) (by decide),Kqw (by omega) (by omega)]; omega
 rw [decide_eq_false (by omega),if_neg (by decide),e]
 by_cases hk:k=0
 ·subst hk; rfl
 ·rw [decide_eq_true (by omega),if_pos rfl,Int.toNat_natCast,Kw3 (by constructor <;> omega),bs]
theorem Kyh (ps:List (List (List Int))) (hp:ps.length ≤ 1048576) (h:ps.flatten.length ≤ 1048576):Km2 ps=some ps.flatten:=by
 unfold Km2
 have h0:=Kye ps (by omega) ps 0 0 rfl (by omega)
 rw [Nat.zero_add] at h0
 rw [show (0:Int)=((0:Nat):Int) from rfl,h0,bs,Kyg _ h,bs,Kyf ps (by omega) ps 0 [] rfl (by rw [List.length_nil]; omega)]
 rfl
theorem Kyi {s:K00} {n:Nat} (h:Tab s n):Kvd s=gN s.fSize true:=by
 funext g
 rw [Kvj h]
 unfold gN inB
 rw [h.size]
 rw [Bool.eq_iff_iff]
 simp
 omega
def TyS (s:K00) (ty:List Int):Prop:=yN s.fSize true ty=true
theorem Kyj {s:K00} {ty:List Int} (h:TyS s ty):ty.length ≤ 40:=by
 unfold TyS yN at h
 rw [Bool.and_eq_true] at h
 exact Kud h.1
theorem Kyk {s:K00} {ty:List Int} (h:TyS s ty):∃ T:Ty,T.ok∧ty=T.code∧T.code.length ≤ 40∧T.code.all (Kt3 s.fSize true)=true:=by
 have hl:=Kyj h
 unfold TyS yN at h
 rw [Bool.and_eq_true] at h
 obtain ⟨T,h1,rfl,_⟩:=Kv3 h.1
 exact ⟨T,h1,rfl,hl,h.2⟩
theorem Kyl {s:K00} {T:Ty} (h:T.ok) (hl:T.code.length ≤ 40) (hc:T.code.all (Kt3 s.fSize true)=true):TyS s T.code:=by
 unfold TyS yN
 rw [Kv4 h hl,hc]; rfl
structure Kym (s:K00) (c:Int) (a b:List Int):Prop where
 ya:TyS s a
 yb:TyS s b
 p0:Kfs (c :: (a ++ b),0)=some a
 p1:Kfs (c :: (a ++ b),1)=some b
 pp:Kll (c :: (a ++ b))=some [a,b]
structure Kyn (s:K00) (c:Int) (a:List Int):Prop where
 ya:TyS s a
 p0:Kfs (c :: a,0)=some a
 pp:Kll (c :: a)=some [a]
theorem Kyo {s:K00} {c:Int} (hc:c=35∨c=36):Kt3 s.fSize true c=false:=by
 rcases hc with rfl | rfl
 ·unfold Kt3 Kt2
  rw [show Ksh 35=2 from rfl]; simp
 ·unfold Kt3 Kt2
  rw [show Ksh 36=1 from rfl]; simp
section
variable {s:K00} {n:Nat} (hs:Kx8 s n)
include hs
theorem Kyp {c:Int} (hc:3 ≤ c∧c ≤ 18):Kt3 s.fSize true c=true ↔ c - 3 < (n:Int):=by
 have hk:Ksh c=2:=by rcases Ksl c with h | h | h | h <;> omega
 unfold Kt3 Kt2
 rw [hk,hs.tab.size,if_neg (by omega),if_neg (by omega)]
 simp
 omega
theorem Kyq {c:Int} (hc:19 ≤ c∧c ≤ 34):Kt3 s.fSize true c=true ↔ c - 19 < (n:Int):=by
 have hk:Ksh c=1:=by rcases Ksl c with h | h | h | h <;> omega
 unfold Kt3 Kt2
 rw [hk,hs.tab.size,if_neg (by omega),if_pos (by omega)]
 simp
 omega
theorem Kyr {ty:List Int} (h:TyS s ty):ty=[0]∨(∃ a b,ty=1 :: (a ++ b)∧Kym s 1 a b)∨(∃ a b,ty=2 :: (a ++ b)∧Kym s 2 a b) ∨
  (∃ (g:Nat) (a b:List Int),g < n∧g ≤ 15∧ty=(3 + (g:Int)) :: (a ++ b)∧Kym s (3 + (g:Int)) a b)∨(∃ (g:Nat) (a:List Int),g < n∧g ≤ 15∧ty=(19 + (g:Int)) :: a∧Kyn s (19 + (g:Int)) a):=by
 obtain ⟨T,hT,rfl,hl,hc⟩:=Kyk h
 cases T with
 | num=>exact .inl rfl
 | bin c a b =>
  have B:=Kw2 hT (by omega)
  have hl':=hl
  rw [Ty.code,List.length_cons,List.length_append] at hl'
  rw [Ty.code,List.all_cons,List.all_append,Bool.and_eq_true,Bool.and_eq_true] at hc
  have hP:Kym s c a.code b.code:=⟨Kyl B.ok.1 (by omega) hc.2.1,Kyl B.ok.2 (by omega) hc.2.2,B.p0,B.p1,B.pp⟩
  have hk:=hT.1
  rcases Ksl c with ⟨q,e⟩ | ⟨q,e⟩ | ⟨q,e⟩ | ⟨q,e⟩
  ·rw [e] at hk; exact absurd hk (by decide)
  ·rcases q with rfl | rfl | q | rfl
   ·exact .inr (.inl ⟨_,_,rfl,hP⟩)
   ·exact .inr (.inr (.inl ⟨_,_,rfl,hP⟩))
   ·have:=(Kyp hs q).1 hc.1
    obtain ⟨g,hg⟩:∃ g:Nat,c=3 + (g:Int):=⟨(c - 3).toNat,by omega⟩
    subst hg
    exact .inr (.inr (.inr (.inl ⟨g,_,_,by omega,by omega,rfl,hP⟩)))
   ·rw [Kyo (s:=s) (.inl rfl)] at hc; exact absurd hc.1 (by decide)
  ·rw [e] at hk; exact absurd hk (by decide)
  ·rw [e] at hk; exact absurd hk (by decide)
 | un c a =>
  have B:=unP hT (by omega)
  have hl':=hl
  rw [Ty.code,List.length_cons] at hl'
  rw [Ty.code,List.all_cons,Bool.and_eq_true] at hc
  have hP:Kyn s c a.code:=⟨Kyl B.ok (by omega) hc.2,B.p0,B.pp⟩
  have hk:=hT.1
  rcases Ksl c with ⟨q,e⟩ | ⟨q,e⟩ | ⟨q,e⟩ | ⟨q,e⟩
  ·rw [e] at hk; exact absurd hk (by decide)
  ·rw [e] at hk; exact absurd hk (by decide)
  ·rcases q with q | rfl
   ·have:=(Kyq hs q).1 hc.1
    obtain ⟨g,hg⟩:∃ g:Nat,c=19 + (g:Int):=⟨(c - 19).toNat,by omega⟩
    subst hg
    exact .inr (.inr (.inr (.inr ⟨g,_,by omega,by omega,rfl,hP⟩)))
   ·rw [Kyo (s:=s) (.inr rfl)] at hc; exact absurd hc.1 (by decide)
  ·rw [e] at hk; exact absurd hk (by decide)
theorem Kys {x:Int} (h:gN s.fSize true x=true):∃ g:Nat,x=(g:Int)∧g < n:=by
 unfold gN at h
 rw [hs.tab.size] at h
 simp at h
 exact ⟨x.toNat,by omega,by omega⟩
end
structure Kyt (s:K00) (n:Nat) (k:K01) (m:Nat):Prop where
 ok:tOk (gN s.fSize true) (yN s.fSize true) n k=true
 sz:tsz k + 1 ≤ m
theorem nd1 {s:K00} {n m:Nat} {op N:Int} {ty:List Int} {ks:List K01} (h:tOk (gN s.fSize true) (yN s.fSize true) n ⟨op,N,ty,ks⟩=true) (hm:tsz ⟨op,N,ty,ks⟩ ≤ m) (hk:Kth op=1):∃ a,ks=[a]∧Kyt s (n + Ktr op 0) a m:=by
 obtain ⟨h1,h2⟩:=Kue h
 obtain ⟨a,rfl⟩:=Kwa (l:=ks) (beq_iff_eq.2 (by rw [← hk]; exact (Kug h1).2))
 simp only at h2
 rw [Kw9,Bool.and_eq_true] at h2
 rw [Kwc] at hm
 exact ⟨a,rfl,h2.1,by omega⟩
theorem nd2 {s:K00} {n m:Nat} {op N:Int} {ty:List Int} {ks:List K01} (h:tOk (gN s.fSize true) (yN s.fSize true) n ⟨op,N,ty,ks⟩=true) (hm:tsz ⟨op,N,ty,ks⟩ ≤ m) (hk:Kth op=2):∃ a b,ks=[a,b]∧Kyt s (n + Ktr op 0) a m∧Kyt s (n + Ktr op 1) b m:=by
 obtain ⟨h1,h2⟩:=Kue h
 obtain ⟨a,b,rfl⟩:=Kwb (l:=ks) (beq_iff_eq.2 (by rw [← hk]; exact (Kug h1).2))
 simp only at h2
 rw [Kw9,Kw9,Bool.and_eq_true,Bool.and_eq_true] at h2
 rw [Kwd] at hm
 exact ⟨a,b,rfl,⟨h2.1,by omega⟩,⟨h2.2.1,by omega⟩⟩
theorem nd3 {s:K00} {n m:Nat} {op N:Int} {ty:List Int} {ks:List K01} (h:tOk (gN s.fSize true) (yN s.fSize true) n ⟨op,N,ty,ks⟩=true) (hm:tsz ⟨op,N,ty,ks⟩ ≤ m) (hk:Kth op=3):∃ a b c,ks=[a,b,c]∧Kyt s (n + Ktr op 0) a m∧Kyt s (n + Ktr op 1) b m∧Kyt s (n + Ktr op 2) c m:=by
 obtain ⟨h1,h2⟩:=Kue h
 obtain ⟨a,b,c,rfl⟩:=Kwf (l:=ks) (by rw [← hk]; exact (Kug h1).2)
 simp only at h2
 rw [Kw9,Kw9,Kw9,Bool.and_eq_true,Bool.and_eq_true,Bool.and_eq_true] at h2
 rw [Kwe] at hm
 exact ⟨a,b,c,rfl,⟨h2.1,by omega⟩,⟨h2.2.1,by omega⟩,⟨h2.2.2.1,by omega⟩⟩
theorem Kyu {s:K00} {n:Nat} {t:K01} (h:tOk (gN s.fSize true) (yN s.fSize true) n t=true) (hg:Kti t.fOp=true):gN s.fSize true t.fN=true:=by
 have h1:=(Kue h).1
 unfold Ktx Ktv at h1
 simp only [Bool.and_eq_true] at h1
 have h2:=h1.1.2
 have hop:(t.fOp == 0)=false∧(t.fOp == 1)=false:=by
  simp only [Kti,Bool.or_eq_true,beq_iff_eq] at hg
  constructor <;> rw [beq_eq_false_iff_ne] <;> omega
 rw [hop.1,hop.2,hg] at h2
 simpa using h2
theorem Kyv {s:K00} {n:Nat} {t:K01} (h:tOk (gN s.fSize true) (yN s.fSize true) n t=true) (hg:Ktj t.fOp=true):TyS s t.fType:=by
 have h1:=(Kue h).1
 unfold Ktx Ktw at h1
 simp only [Bool.and_eq_true] at h1
 have h2:=h1.2
 rw [hg] at h2
 show yN s.fSize true t.fType=true
 simpa using h2
theorem Kyw {s:K00} {n:Nat} {t:K01} (h:tOk (gN s.fSize true) (yN s.fSize true) n t=true) (hg:t.fOp=0):∃ i:Nat,t.fN=(i:Int)∧i < n∧t.fKids=[]:=by
 have h1:=(Kue h).1
 have hl:=(Kug h1).2
 unfold Ktx Ktv at h1
 simp only [Bool.and_eq_true] at h1
 have h2:=h1.1.2
 rw [hg] at h2 hl
 simp [inB] at h2
 refine ⟨t.fN.toNat,by omega,by omega,?_⟩
 have:(t.fKids.length:Int)=0:=hl
 exact List.eq_nil_of_length_eq_zero (by omega)
theorem Kyx {s:K00} {n:Nat} {t:K01} (h:tOk (gN s.fSize true) (yN s.fSize true) n t=true) (hg:t.fOp=1):t.fKids=[]:=by
 have h1:=(Kue h).1
 have hl:=(Kug h1).2
 rw [hg] at hl
 have:(t.fKids.length:Int)=0:=hl
 exact List.eq_nil_of_length_eq_zero (by omega)
theorem Kyy {α:Type} {l:List α} {m:Nat} (h:m ≤ l.length):cut l none (some (m:Int)) none=some (l.take m):=by
 unfold cut
 simp only [Option.getD_none,Option.getD_some,Int.toNat_natCast,Int.toNat_zero,List.drop_zero]
 rw [if_pos (by omega)]
theorem Kyz {α:Type} {l:List α} {m:Nat} (h:m ≤ l.length):cut l (some (m:Int)) none none=some (l.drop m):=by
 unfold cut
 simp only [Option.getD_none,Option.getD_some,Int.toNat_natCast]
 rw [if_pos (by omega),List.take_length]
section
variable {s:K00} {n:Nat} (hs:Kx8 s n) {N:Int} {ty:List Int} {ks:List K01} {w:Nat} {c:Int} {r:List Int}
theorem Kz0 {op:Int} (h:(op=4∨op=6∨op=7∨op=9∨op=11)∨(w ≠ 0∧(op=3∨op=5∨op=8∨op=10∨op=12))):Kmj (⟨s⟩,⟨op,N,ty,ks⟩,(w:Int),c :: r)=some 0:=by
 have hw:∀ hw:w ≠ 0,((w:Int) == 0)=false:=fun hw=>by rw [beq_eq_false_iff_ne]; omega
 unfold Kmj
 rcases h with (rfl | rfl | rfl | rfl | rfl) | ⟨h0,(rfl | rfl | rfl | rfl | rfl)⟩
 all_goals first | simp [Kvo,Ksn,hw h0] | (by_cases h0:w=0 <;> simp [Kvo,Ksn,h0])
theorem Kz1:Kmj (⟨s⟩,⟨2,N,ty,ks⟩,(w:Int),c :: r)=some (if (Ksm c).1=0 then 0 else 2):=by
 unfold Kmj
 by_cases h:(Ksm c).1=0 <;> simp [Kvo,Ksn,h]
theorem Kz2:Kmj (⟨s⟩,⟨3,N,ty,ks⟩,((0:Nat):Int),c :: r)=some (if (Ksm c).1=0 then 0 else 2):=by
 unfold Kmj
 by_cases h:(Ksm c).1=0 <;> simp [Kvo,Ksn,h]
theorem Kz3:Kmj (⟨s⟩,⟨10,N,ty,ks⟩,((0:Nat):Int),c :: r)=some (if (Ksm c).1=3 then 0 else 6):=by
 unfold Kmj
 by_cases h:(Ksm c).1=3 <;> simp [Kvo,Ksn,h]
include hs
theorem Kz4 {g:Nat} (hg:g < n):Kmj (⟨s⟩,⟨5,(g:Int),ty,ks⟩,((0:Nat):Int),c :: r)=some (if (Ksm c).1=1 then (if le s n 1 g then 0 else 8) else 4):=by
 have hl:=iLe hs.tab (Kxa hs) hg
 unfold Kmj
 by_cases h:(Ksm c).1=1 <;> cases hle:le s n 1 g <;> simp [Kvo,Ksn,h,show Kio (s,1,(g:Int))=some (le s n 1 g) from hl,hle]
theorem Kz5 {g:Nat} (hg:g < n):Kmj (⟨s⟩,⟨8,(g:Int),ty,ks⟩,((0:Nat):Int),c :: r)=some (if (Ksm c).1=2 then (if le s n 1 g then 0 else 8) else 5):=by
 have hl:=iLe hs.tab (Kxa hs) hg
 unfold Kmj
 by_cases h:(Ksm c).1=2 <;> cases hle:le s n 1 g <;> simp [Kvo,Ksn,h,show Kio (s,1,(g:Int))=some (le s n 1 g) from hl,hle]
theorem Kz6 {g:Nat} (hg:g < n):Kmj (⟨s⟩,⟨12,(g:Int),ty,ks⟩,((0:Nat):Int),c :: r)=some (if (Ksm c).1=4 then (if le s n 1 g then 0 else 8) else 7):=by
 have hl:=iLe hs.tab (Kxa hs) hg
 unfold Kmj
 by_cases h:(Ksm c).1=4 <;> cases hle:le s n 1 g <;> simp [Kvo,Ksn,h,show Kio (s,1,(g:Int))=some (le s n 1 g) from hl,hle]
end
def Kz7 (ty:List Int) (ns:List Nat) (kids:List K05):Int × K05:=(if ty.length > 40 then 3 else 0,⟨ty,Kx3 ns,kids,0,[]⟩)
theorem Kz8 {α:Type} (x:α) (l:List α):idx (x :: l) 0=some x:=rfl
theorem Kz9 {α:Type} (x y:α) (l:List α):idx (x :: y :: l) 1=some y:=rfl
theorem Kza {α:Type} (x y z:α) (l:List α):idx (x :: y :: z :: l) 2=some z:=rfl
section
variable {s:K00} {n:Nat} (hs:Kx8 s n) {N:Int} {ty:List Int} {ks:List K01} {ctx us:List (List Int)} {z:List Int} {y0 y1 y2:K05} {a b d:List Nat}
theorem Kzb {i:Nat} {q:List Int} {zs:List Nat} (hi:ctx[i]?=some q) (hz:i < zs.length) (hq:q.length ≤ 40):Kox (⟨s⟩,⟨[],Kx3 zs,[],0,[]⟩,ctx,⟨0,(i:Int),ty,ks⟩,[],[])=some (Kz7 q (zs.set i 1) []):=by
 obtain ⟨h1,h2⟩:=List.getElem?_eq_some_iff.1 hi
 have e1:idx ctx (i:Int)=some q:=by rw [Kqx h1,h2]
 have e2:idx (Kx3 zs) (i:Int)=some ((zs[i]:Nat):Int):=by rw [Kqx (by rw [Kx4]; exact hz)]; simp [Kx3]
 have e3:List.set (Kx3 zs) i 1=Kx3 (zs.set i 1):=by unfold Kx3; rw [List.map_set]; rfl
 have h40:¬ ((q.length:Int) > 40):=by omega
 unfold Kox Kod Kz7
 simp [e1,e2,e3,Kui q (by omega),show ¬ (40 < (q.length:Int)) by omega,show ¬ (40 < q.length) by omega]
theorem Kzc {zs:List Nat}:Kox (⟨s⟩,⟨[],Kx3 zs,[],0,[]⟩,ctx,⟨1,N,ty,ks⟩,[],[])=some (Kz7 [0] zs []):=by
 unfold Kox Kod Kz7
 simp
theorem Kzd (hy:y0.fty.length ≤ 1000) (ht:ty.length ≤ 1000):Kox (⟨s⟩,⟨[],z,[y0],0,[]⟩,ctx,⟨6,N,ty,ks⟩,[Kx3 a],us)=some (Kz7 (2 :: (y0.fty ++ ty)) a [y0]):=by
 have hc:=Kyd [[2],y0.fty,ty] (by simp) (by simp; omega)
 unfold Kox Kod Kz7 Kmz
 simp only [List.flatten_cons,List.flatten_nil,List.append_nil,List.singleton_append,List.cons_append,List.nil_append] at hc
 simp [Kz8,Kz9,hc]
 split <;> rename_i q40
 ·rw [if_pos (by omega)]
 ·rw [if_neg (by omega)]
theorem Kze (hy:y0.fty.length ≤ 1000) (ht:ty.length ≤ 1000):Kox (⟨s⟩,⟨[],z,[y0],0,[]⟩,ctx,⟨7,N,ty,ks⟩,[Kx3 a],us)=some (Kz7 (2 :: (ty ++ y0.fty)) a [y0]):=by
 have hc:=Kyd [[2],ty,y0.fty] (by simp) (by simp; omega)
 unfold Kox Kod Kz7 Kmz
 simp only [List.flatten_cons,List.flatten_nil,List.append_nil,List.singleton_append,List.cons_append,List.nil_append] at hc
 simp [Kz8,Kz9,hc]
 split <;> rename_i q40
 ·rw [if_pos (by omega)]
 ·rw [if_neg (by omega)]
include hs
theorem Kzf (ha:Kxj n a) (hb:Kxj n b) (hl:a.length ≤ 1000000) (hab:a.length=b.length):Kox (⟨s⟩,⟨[],z,[y0,y1],0,[]⟩,ctx,⟨2,N,ty,ks⟩,[Kx3 a,Kx3 b],us)=some (Kz7 [0] (Kxg s n a b) [y0,y1]):=by
 have h:=Kxz hs a b ha hb (by omega) hab
 unfold Kox Kod Kz7
 simp [Kz8,Kz9,h]
theorem Kzg (ha:Kxj n a) (hb:Kxj n b) (hd:Kxj n d) (hl:a.length ≤ 1000000) (hab:a.length=b.length) (had:a.length=d.length) (h2:y2.fty.length ≤ 1000) (h1:y1.fty.length ≤ 40) :
  Kox (⟨s⟩,⟨[],z,[y0,y1,y2],0,[]⟩,ctx,⟨3,N,ty,ks⟩,[Kx3 a,Kx3 b,Kx3 d],us)=some (if y1.fty=y2.fty then Kz7 y1.fty (Kxg s n a (Kxi s n b d)) [y0,y1,y2] else (3,⟨[],z,[y0,y1,y2],0,[]⟩)):=by
 have hj:=Ky1 hs b d hb hd (by omega) (by omega)
 have hlj:(Kxi s n b d).length=a.length:=by unfold Kxi; rw [List.length_zipWith]; omega
 have h:=Kxz hs a (Kxi s n b d) ha (Kxp hs hb hd) (by omega) hlj.symm
 have he:=Kw8 y1.fty y2.fty (by omega)
 unfold Kox Kod Kz7 Kmz
 by_cases hq:y1.fty=y2.fty
 ·rw [show (y1.fty == y2.fty)=true from beq_iff_eq.2 hq] at he
  rw [if_pos hq]
  simp [Kz8,Kz9,Kza,he,hj,h,show ¬ (40 < (y1.fty.length:Int)) by omega,show ¬ (40 < y1.fty.length) by omega]
 ·rw [show (y1.fty == y2.fty)=false from beq_eq_false_iff_ne.2 hq] at he
  rw [if_neg hq]
  simp [Kz8,Kz9,Kza,he]
theorem Kzh (ha:Kxj n a) (hb:Kxj n b) (hl:a.length ≤ 1000000) (hab:a.length=b.length) (h0:y0.fty.length ≤ 1000) (h1:y1.fty.length ≤ 1000) :
  Kox (⟨s⟩,⟨[],z,[y0,y1],0,[]⟩,ctx,⟨4,N,ty,ks⟩,[Kx3 a,Kx3 b],us)=some (Kz7 (1 :: (y0.fty ++ y1.fty)) (Kxg s n a b) [y0,y1]):=by
 have h:=Kxz hs a b ha hb (by omega) hab
 have hc:=Kyd [[1],y0.fty,y1.fty] (by simp) (by simp; omega)
 unfold Kox Kod Kz7 Kmz
 simp only [List.flatten_cons,List.flatten_nil,List.append_nil,List.singleton_append,List.cons_append,List.nil_append] at hc
 simp [Kz8,Kz9,hc,h]
 split <;> rename_i q40
 ·rw [if_pos (by omega)]
 ·rw [if_neg (by omega)]
theorem Kzi {g:Nat} (hg:g < n) {u:List Nat} (hu:Kxj n u) (hul:u.length ≤ 1000000) (hy:y0.fty.length ≤ 1000) (ht:ty.length ≤ 1000) :
  Kox (⟨s⟩,⟨[],z,[y0],0,[]⟩,ctx,⟨9,(g:Int),ty,ks⟩,[Kx3 a],[Kx3 u])=some (if (u.all fun x=>le s n x g)=true then Kz7 ((3 + (g:Int)) :: (ty ++ y0.fty)) a [y0] else (9,⟨[],z,[y0],0,[]⟩)):=by
 have hn:=hs.tab.hi
 have e:=Ky5 hs g hg u hu (by omega)
 have hw:wr (3 + (g:Int))=3 + (g:Int):=Kqw (by omega) (by omega)
 have hc:=Kyd [[3 + (g:Int)],ty,y0.fty] (by simp) (by simp; omega)
 unfold Kox Kod Kz7 Kmz
 simp only [List.flatten_cons,List.flatten_nil,List.append_nil,List.singleton_append,List.cons_append,List.nil_append] at hc
 cases hq:(u.all fun x=>le s n x g) with
 | true =>
  rw [hq] at e
  simp [Kz8,Kz9,e,hc,hw]
  split <;> rename_i q40
  ·rw [if_pos (by omega)]
  ·rw [if_neg (by omega)]
 | false =>
  rw [hq] at e
  simp [Kz8,Kz9,e]
theorem Kzj {g:Nat} (hg:g < n) (ha:Kxj n a) (hl:a.length ≤ 1000000) (hy:y0.fty.length ≤ 1000) :
  Kox (⟨s⟩,⟨[],z,[y0],0,[]⟩,ctx,⟨11,(g:Int),ty,ks⟩,[Kx3 a],us)=some (Kz7 ((19 + (g:Int)) :: y0.fty) (Kxh s n g a) [y0]):=by
 have hn:=hs.tab.hi
 have e:=Ky3 hs g hg a ha (by omega)
 have hw:wr (19 + (g:Int))=19 + (g:Int):=Kqw (by omega) (by omega)
 have hc:=Kyd [[19 + (g:Int)],y0.fty] (by simp) (by simp; omega)
 unfold Kox Kod Kz7 Kmz
 simp only [List.flatten_cons,List.flatten_nil,List.append_nil,List.singleton_append,List.cons_append,List.nil_append] at hc
 simp [Kz8,Kz9,hc,hw,e]
 split <;> rename_i q40
 ·rw [if_pos (by omega)]
 ·rw [if_neg (by omega)]
theorem Kzk {g:Nat} (hg:g < n) {p q:List Int} (hty:y0.fty=(3 + (g:Int)) :: (p ++ q)) (hP:Kym s (3 + (g:Int)) p q) (ha:Kxj n a) (hb:Kxj n b) (hl:a.length ≤ 1000000) (hab:a.length=b.length) :
  Kox (⟨s⟩,⟨[],z,[y0,y1],0,[]⟩,ctx,⟨10,N,ty,ks⟩,[Kx3 a,Kx3 b],us)=some (Kz7 q (Kxg s n a (Kxh s n g b)) [y0,y1]):=by
 have hn:=hs.tab.hi
 have e:=Ky3 hs g hg b hb (by omega)
 have hlj:(Kxh s n g b).length=a.length:=by unfold Kxh; rw [List.length_map]; omega
 have h:=Kxz hs a (Kxh s n g b) ha (Kxo hs hg hb) (by omega) hlj.symm
 have hsh:Ksm (3 + (g:Int))=(3,(g:Int)):=by
  rcases Kso (3 + (g:Int)) with h | h | h | h | h | h | h | h <;> first | omega | (obtain ⟨_,e⟩:=h; rw [e]; congr 1; omega)
 have hq:=Kyj hP.yb
 have pp:=hP.pp
 rw [← hty] at pp
 have i0:idx y0.fty 0=some (3 + (g:Int)):=by rw [hty]; rfl
 unfold Kox Kod Kz7 Kmz
 simp [Kz8,Kz9,i0,Ksn,hsh,pp,e,h,show ¬ (40 < (q.length:Int)) by omega,show ¬ (40 < q.length) by omega]
theorem Kzl {g:Nat} (hg:g < n) {u:List Nat} {us':List Int} (hu:Kxj n u) (hul:u.length ≤ 1000000) (ha:Kxj n a) (hb:Kxj n b) (hl:a.length ≤ 1000000) (hab:a.length=b.length) (h1:y1.fty.length ≤ 40) :
  Kox (⟨s⟩,⟨[],z,[y0,y1],0,[]⟩,ctx,⟨5,(g:Int),ty,ks⟩,[Kx3 a,Kx3 b],[us',Kx3 u])=some (if (u.all fun x=>le s n x g)=true then Kz7 y1.fty (Kxg s n (Kxh s n g a) b) [y0,y1] else (9,⟨[],z,[y0,y1],0,[]⟩)):=by
 have e:=Ky5 hs g hg u hu (by omega)
 have e2:=Ky3 hs g hg a ha (by omega)
 have hlj:(Kxh s n g a).length=a.length:=by unfold Kxh; rw [List.length_map]
 have h:=Kxz hs (Kxh s n g a) b (Kxo hs hg ha) hb (by omega) (by omega)
 unfold Kox Kod Kz7 Kmz
 cases hq:(u.all fun x=>le s n x g) with
 | true =>
  rw [hq] at e
  simp [Kz8,Kz9,e,e2,h,show ¬ (40 < (y1.fty.length:Int)) by omega,show ¬ (40 < y1.fty.length) by omega]
 | false =>
  rw [hq] at e
  simp [Kz8,Kz9,e]
theorem Kzm {g m:Nat} (hg:g < n) (hm:m < n) {p:List Int} (hty:y0.fty=(19 + (m:Int)) :: p) {u:List Nat} {us':List Int} (hu:Kxj n u) (hul:u.length ≤ 1000000) (ha:Kxj n a) (hb:Kxj n b) (hl:a.length ≤ 1000000) (hab:a.length=b.length) (h1:y1.fty.length ≤ 40) :
  Kox (⟨s⟩,⟨[],z,[y0,y1],0,[]⟩,ctx,⟨12,(g:Int),ty,ks⟩,[Kx3 a,Kx3 b],[us',Kx3 u])=some (if (u.all fun x=>le s n x (ti s n g m))=true then Kz7 y1.fty (Kxg s n (Kxh s n g a) b) [y0,y1] else (9,⟨[],z,[y0,y1],0,[]⟩)):=by
 have hn:=hs.tab.hi
 have e0:=Krn hs.tab hg hm
 have e:=Ky5 hs (ti s n g m) (Krg hs.tab hg hm) u hu (by omega)
 have e2:=Ky3 hs g hg a ha (by omega)
 have hlj:(Kxh s n g a).length=a.length:=by unfold Kxh; rw [List.length_map]
 have h:=Kxz hs (Kxh s n g a) b (Kxo hs hg ha) hb (by omega) (by omega)
 have hsh:Ksm (19 + (m:Int))=(4,(m:Int)):=by
  rcases Kso (19 + (m:Int)) with h | h | h | h | h | h | h | h <;> first | omega | (obtain ⟨_,e⟩:=h; rw [e]; congr 1; omega)
 have i0:idx y0.fty 0=some (19 + (m:Int)):=by rw [hty]; rfl
 unfold Kox Kod Kz7 Kmz
 cases hq:(u.all fun x=>le s n x (ti s n g m)) with
 | true =>
  rw [hq] at e
  simp [Kz8,Kz9,i0,Ksn,hsh,e0,e,e2,h,show ¬ (40 < (y1.fty.length:Int)) by omega,show ¬ (40 < y1.fty.length) by omega]
 | false =>
  rw [hq] at e
  simp [Kz8,Kz9,i0,Ksn,hsh,e0,e]
theorem Kzn {g:Nat} (hg:g < n) {u v:List Nat} {us':List Int} (hu:Kxj n u) (hul:u.length ≤ 1000000) (hv:Kxj n v) (hvl:v.length ≤ 1000000) (ha:Kxj n a) (hb:Kxj n b) (hd:Kxj n d) (hl:a.length ≤ 1000000) (hab:a.length=b.length) (had:a.length=d.length) (h2:y2.fty.length ≤ 1000) (h1:y1.fty.length ≤ 40) :
  Kox (⟨s⟩,⟨[],z,[y0,y1,y2],0,[]⟩,ctx,⟨8,(g:Int),ty,ks⟩,[Kx3 a,Kx3 b,Kx3 d],[us',Kx3 u,Kx3 v]) =
   some (if y1.fty=y2.fty then (if (u.all fun x=>le s n x g)=true∧(v.all fun x=>le s n x g)=true then Kz7 y1.fty (Kxg s n (Kxh s n g a) (Kxi s n b d)) [y0,y1,y2] else (9,⟨[],z,[y0,y1,y2],0,[]⟩)) else (3,⟨[],z,[y0,y1,y2],0,[]⟩)):=by
 have e:=Ky5 hs g hg u hu (by omega)
 have e':=Ky5 hs g hg v hv (by omega)
 have e2:=Ky3 hs g hg a ha (by omega)
 have hj:=Ky1 hs b d hb hd (by omega) (by omega)
 have hlj:(Kxi s n b d).length=a.length:=by unfold Kxi; rw [List.length_zipWith]; omega
 have hls:(Kxh s n g a).length=a.length:=by unfold Kxh; rw [List.length_map]
 have h:=Kxz hs (Kxh s n g a) (Kxi s n b d) (Kxo hs hg ha) (Kxp hs hb hd) (by omega) (by omega)
 have he:=Kw8 y1.fty y2.fty (by omega)
 unfold Kox Kod Kz7 Kmz
 by_cases hq:y1.fty=y2.fty
 ·rw [show (y1.fty == y2.fty)=true from beq_iff_eq.2 hq] at he
  rw [if_pos hq]
  cases hu':(u.all fun x=>le s n x g) with
  | false =>
   rw [hu'] at e
   simp [Kz8,Kz9,Kza,he,e]
  | true =>
   rw [hu'] at e
   cases hv':(v.all fun x=>le s n x g) with
   | false =>
    rw [hv'] at e'
    simp [Kz8,Kz9,Kza,he,e,e']
   | true =>
    rw [hv'] at e'
    simp [Kz8,Kz9,Kza,he,e,e',e2,hj,h,show ¬ (40 < (y1.fty.length:Int)) by omega,show ¬ (40 < y1.fty.length) by omega]
 ·rw [show (y1.fty == y2.fty)=false from beq_eq_false_iff_ne.2 hq] at he
  rw [if_neg hq]
  simp [Kz8,Kz9,Kza,he]
end
theorem Kzo {op N:Int} {ty:List Int} {ks:List K01} {i:Nat} {q:List Int} (h9:op ≠ 9) (h:Ktr op (i:Int)=0):Klo (⟨op,N,ty,ks⟩,(i:Int),q)=some []:=by
 unfold Klo
 simp only
 rw [if_neg (by simpa using h9),Ktu,bs,h]
 rfl
theorem Kzp {N:Int} {ty:List Int} {ks:List K01} {i:Nat} {q:List Int}:Klo (⟨9,N,ty,ks⟩,(i:Int),q)=some [ty]:=by
 unfold Klo
 simp only
 rw [if_pos (by decide)]
theorem Kzq {s:K00} {N:Int} {ty:List Int} {ks:List K01} {p q:List Int} (h:Kym s 1 p q):Klo (⟨5,N,ty,ks⟩,((1:Nat):Int),1 :: (p ++ q))=some [q,p]:=by
 unfold Klo
 simp only
 rw [if_neg (by decide),Ktu,bs,show Ktr 5 ((1:Nat):Int)=2 from rfl,if_neg (by decide),h.pp,bs,if_pos (by decide)]
 rfl
theorem Kzr {s:K00} {N:Int} {ty:List Int} {ks:List K01} {p q:List Int} (h:Kym s 2 p q):Klo (⟨8,N,ty,ks⟩,((1:Nat):Int),2 :: (p ++ q))=some [p]:=by
 unfold Klo
 simp only
 rw [if_neg (by decide),Ktu,bs,show Ktr 8 ((1:Nat):Int)=1 from rfl,if_neg (by decide),h.pp,bs,if_neg (by decide),if_pos (by decide)]
 rfl
theorem Kzs {s:K00} {N:Int} {ty:List Int} {ks:List K01} {p q:List Int} (h:Kym s 2 p q):Klo (⟨8,N,ty,ks⟩,((2:Nat):Int),2 :: (p ++ q))=some [q]:=by
 unfold Klo
 simp only
 rw [if_neg (by decide),Ktu,bs,show Ktr 8 ((2:Nat):Int)=1 from rfl,if_neg (by decide),h.pp,bs,if_neg (by decide),if_pos (by decide)]
 rfl
theorem Kzt {s:K00} {N c:Int} {ty:List Int} {ks:List K01} {p:List Int} (h:Kyn s c p):Klo (⟨12,N,ty,ks⟩,((1:Nat):Int),c :: p)=some [p]:=by
 unfold Klo
 simp only
 rw [if_neg (by decide),Ktu,bs,show Ktr 12 ((1:Nat):Int)=1 from rfl,if_neg (by decide),h.pp,bs,if_neg (by decide),if_neg (by decide)]
theorem Kzu (q ns:List Int):Kgs (q,ns)=if q.length > 40 then some ⟨[],[],3,[]⟩ else some ⟨q,ns,0,[]⟩:=by
 unfold Kgs Kgb
 simp only
 by_cases h:q.length > 40
 ·rw [decide_eq_true (by omega),if_pos rfl,if_pos h]; rfl
 ·rw [decide_eq_false (by omega),if_neg (by decide),if_neg h]
section
variable {s:K00} {n:Nat} (hs:Kx8 s n) {ctx:List (List Int)} {N:Int} {ty:List Int} {ks:List K01}
include hs
theorem Kzv {q:List Int} (hq:TyS s q):∃ c r,q=c :: r∧((Ksm c).1=0 ↔ c=0)∧(c=0→q=[0]):=by
 rcases Kyr hs hq with rfl | ⟨a,b,rfl,_⟩ | ⟨a,b,rfl,_⟩ | ⟨g,a,b,hg,h15,rfl,_⟩ | ⟨g,a,hg,h15,rfl,_⟩
 ·exact ⟨0,[],rfl,by decide,fun _=>rfl⟩
 ·exact ⟨1,_,rfl,by decide,fun h=>absurd h (by decide)⟩
 ·exact ⟨2,_,rfl,by decide,fun h=>absurd h (by decide)⟩
 ·refine ⟨_,_,rfl,?_,fun h=>by omega⟩
  rcases Kso (3 + (g:Int)) with h | h | h | h | h | h | h | h <;> first | omega | (obtain ⟨_,e⟩:=h; rw [e]; simp; omega)
 ·refine ⟨_,_,rfl,?_,fun h=>by omega⟩
  rcases Kso (19 + (g:Int)) with h | h | h | h | h | h | h | h <;> first | omega | (obtain ⟨_,e⟩:=h; rw [e]; simp; omega)
end
theorem Kzw (g:Nat) (h:g ≤ 15):Ksm (3 + (g:Int))=(3,(g:Int)):=by
 rcases Kso (3 + (g:Int)) with h | h | h | h | h | h | h | h <;> first | omega | (obtain ⟨_,e⟩:=h; rw [e]; congr 1; omega)
theorem Kzx (g:Nat) (h:g ≤ 15):Ksm (19 + (g:Int))=(4,(g:Int)):=by
 rcases Kso (19 + (g:Int)) with h | h | h | h | h | h | h | h <;> first | omega | (obtain ⟨_,e⟩:=h; rw [e]; congr 1; omega)
theorem Kzy (g:Nat) (h:g ≤ 15):Ksf (3 + (g:Int))=true:=by unfold Ksf inB; simp; omega
theorem Kzz (g:Nat) (h:g ≤ 15):Ksf (19 + (g:Int))=false:=by unfold Ksf inB; simp; omega
theorem V00 (g:Nat) (h:g ≤ 15):Ksg (3 + (g:Int))=false:=by unfold Ksg inB; simp; omega
theorem V01 (g:Nat) (h:g ≤ 15):Ksg (19 + (g:Int))=true:=by unfold Ksg inB; simp; omega
theorem V02 (g:Nat) (h:g ≤ 15):Kdq (3 + (g:Int))=some (g:Int):=by
 rw [Kt4 (by rcases Ksl (3 + (g:Int)) with h | h | h | h <;> omega)]
 unfold Kt2
 rw [if_neg (by omega),if_neg (by omega)]
 congr 1; omega
theorem V03 (g:Nat) (h:g ≤ 15):Kdq (19 + (g:Int))=some (g:Int):=by
 rw [Kt4 (by rcases Ksl (19 + (g:Int)) with h | h | h | h <;> omega)]
 unfold Kt2
 rw [if_neg (by omega),if_pos (by omega)]
 congr 1; omega
section
variable {s:K00} {n:Nat} (hs:Kx8 s n) {ctx:List (List Int)} {N:Int} {ty:List Int} {ks:List K01}
include hs
structure V04 (s:K00) (n:Nat) (q:List Int) (c:Int):Prop where
 arr:(Ksm c).1=3→∃ (g:Nat) (a b:List Int),g < n∧g ≤ 15∧c=3 + (g:Int)∧q=c :: (a ++ b)∧Kym s (3 + (g:Int)) a b
 pair:(Ksm c).1=1→∃ (a b:List Int),c=1∧q=c :: (a ++ b)∧Kym s 1 a b
 sum:(Ksm c).1=2→∃ (a b:List Int),c=2∧q=c :: (a ++ b)∧Kym s 2 a b
 box:(Ksm c).1=4→∃ (g:Nat) (a:List Int),g < n∧g ≤ 15∧c=19 + (g:Int)∧q=c :: a∧Kyn s (19 + (g:Int)) a
 arrB:Ksf c=true ↔ (Ksm c).1=3
 boxB:Ksg c=true ↔ (Ksm c).1=4
 one:c=1 ↔ (Ksm c).1=1
 two:c=2 ↔ (Ksm c).1=2
theorem V05 {q:List Int} (hq:TyS s q) {c:Int} {r:List Int} (e:q=c :: r):V04 s n q c:=by
 rcases Kyr hs hq with rfl | ⟨a,b,rfl,P⟩ | ⟨a,b,rfl,P⟩ | ⟨g,a,b,hg,h15,rfl,P⟩ | ⟨g,a,hg,h15,rfl,P⟩
 ·cases e
  refine ⟨fun h=>?_,fun h=>?_,fun h=>?_,fun h=>?_,by decide,by decide,by decide,by decide⟩ <;> exact absurd h (by decide)
 ·cases e
  refine ⟨fun h=>absurd h (by decide),fun _=>⟨a,b,rfl,rfl,P⟩,fun h=>absurd h (by decide),fun h=>absurd h (by decide),by decide,by decide,by decide,by decide⟩
 ·cases e
  refine ⟨fun h=>absurd h (by decide),fun h=>absurd h (by decide),fun _=>⟨a,b,rfl,rfl,P⟩,fun h=>absurd h (by decide),by decide,by decide,by decide,by decide⟩
 ·cases e
  have hsh:=Kzw g h15
  refine ⟨fun _=>⟨g,a,b,hg,h15,rfl,rfl,P⟩,fun h=>?_,fun h=>?_,fun h=>?_,?_,?_,?_,?_⟩
  ·rw [hsh] at h; simp at h
  ·rw [hsh] at h; simp at h
  ·rw [hsh] at h; simp at h
  ·rw [hsh,Kzy g h15]; simp
  ·rw [hsh,V00 g h15]; simp
  ·rw [hsh]; simp; omega
  ·rw [hsh]; simp; omega
 ·cases e
  have hsh:=Kzx g h15
  refine ⟨fun h=>?_,fun h=>?_,fun h=>?_,fun _=>⟨g,_,hg,h15,rfl,rfl,P⟩,?_,?_,?_,?_⟩
  ·rw [hsh] at h; simp at h
  ·rw [hsh] at h; simp at h
  ·rw [hsh] at h; simp at h
  ·rw [hsh,Kzz g h15]; simp
  ·rw [hsh,V01 g h15]; simp
  ·rw [hsh]; simp; omega
  ·rw [hsh]; simp; omega
end
def V06 (s:K00) (n:Nat) (x:Nat) (g:Int):Bool:=Kvd s g && le s n x g.toNat
def V07 (s:K00) (n:Nat) (a:List Nat) (b:List Int):Bool:=(List.zipWith (V06 s n) a b).all id
section
variable {s:K00} {n:Nat} (hs:Kx8 s n)
include hs
theorem V08 {g:Int} (h:Kvd s g=true):∃ k:Nat,g=(k:Int)∧k < n:=Kys hs (by rw [← Kyi hs.tab]; exact h)
theorem V09 (a:List Nat) (b:List Int) (ha:Kxj n a) (hl:a.length ≤ 1048576):∀ (al:List Nat) (bl:List Int) (i:Nat),a.drop i=al→b.drop i=bl→al.length=bl.length →
  Khz (s,Kx3 a,b,(i:Int))=some (if V07 s n al bl then .inl () else .inr false):=by
 intro al
 induction al with
 | nil =>
  intro bl i hd hd2 he
  rw [Khz.eq_def]
  simp only
  rw [Kx4,Kr0 (Kse hd)]
  rfl
 | cons x al ih =>
  intro bl i hd hd2 he
  obtain ⟨h1,h2,h3⟩:=Kx7 hd
  have hx:x < n:=Kxm ha i x (by rw [hd]; exact List.mem_cons_self)
  match bl,he,hd2 with
  | g :: bl,he,hd2 =>
  obtain ⟨k1,k2,k3⟩:=Ksd hd2
  rw [Khz.eq_def]
  simp only
  rw [Kx4,Kqz h1,if_pos rfl,k2,bs,sIn,bs]
  have e:V07 s n (x :: al) (g :: bl)=(V06 s n x g && V07 s n al bl):=rfl
  rw [e]
  unfold V06
  cases hg:Kvd s g with
  | false =>
   unfold Kvd at hg
   rw [hg]
   rfl
  | true =>
   obtain ⟨k,rfl,hk⟩:=V08 hs hg
   have hg':=hg
   unfold Kvd at hg
   rw [hg,if_pos rfl,h2,bs,bs,sLe hs.tab hx hk,bs,bs,Int.toNat_natCast,Bool.true_and]
   cases hle:le s n x k with
   | false=>rfl
   | true =>
    rw [if_neg (by decide),Kqy (by omega),ih bl (i + 1) h3 k3 (by simpa using he),Bool.true_and]
theorem V0a (a:List Nat) (b:List Int) (ha:Kxj n a) (hl:a.length ≤ 1048576):Ki2 (s,Kx3 a,b)=some (decide (a.length=b.length) && V07 s n a b):=by
 unfold Ki2
 simp only
 rw [Kx4]
 by_cases h:a.length=b.length
 ·rw [if_neg (by simp [h]),show (0:Int)=((0:Nat):Int) from rfl,V09 hs a b ha hl a b 0 rfl rfl h,bs,decide_eq_true h,Bool.true_and]
  cases V07 s n a b <;> rfl
 ·rw [if_pos (bne_iff_ne.2 (by omega)),decide_eq_false h,Bool.false_and]
end
mutual
theorem V0b:∀ (a b:K01),tms a ≤ 1099511627776→tms b ≤ 1099511627776→Kl7 (a,b)=some (tEq a b)
 | ⟨o,N,t,k⟩,⟨o',N',t',k'⟩,ha,hb=>by
  rw [tms] at ha hb
  rw [Kl7.eq_def,tEq]
  simp only
  rw [Kw8 t t' (by omega)]
  have hk:Kl8 (k,k')=some (k.length == k'.length && Kx0 k k'):=by
   rw [Kl8.eq_def]
   simp only
   by_cases h4:k.length=k'.length
   ·have hl:=V0c k k' k k' 0 rfl rfl h4 (by omega) (by omega) (by omega)
    rw [show ((0:Nat):Int)=0 from rfl] at hl
    rw [show ((k.length:Int) != (k'.length:Int))=false by rw [h4]; exact Kr6,if_neg (by decide),hl,bs,beq_iff_eq.2 h4]
    cases Kx0 k k' <;> rfl
   ·rw [bne_iff_ne.2 (by omega),if_pos rfl,beq_eq_false_iff_ne.2 h4]; rfl
  rw [hk]
  cases o == o' <;> cases N == N' <;> cases t == t' <;> rfl
theorem V0c:∀ (ks js a b:List K01) (i:Nat),a.drop i=ks→b.drop i=js→ks.length=js.length→a.length ≤ 1099511627776→Kt9 ks ≤ 1099511627776→Kt9 js ≤ 1099511627776→Kl9 (a,b,(i:Int))=some (if Kx0 ks js then .inl () else .inr false)
 | [],js,a,b,i,h1,h2,hl,hk,m1,m2=>by
  rw [Kl9.eq_def,Kx0]
  simp only
  rw [Kr0 (Kse h1)]; rfl
 | x :: ks,[],a,b,i,h1,h2,hl,hk,m1,m2=>by simp at hl
 | x :: ks,y :: js,a,b,i,h1,h2,hl,hk,m1,m2=>by
  obtain ⟨hi,hx,hd⟩:=Ksd h1
  obtain ⟨_,hy,hd2⟩:=Ksd h2
  rw [Kt9] at m1 m2
  rw [Kl9.eq_def,Kx0]
  simp only
  rw [Kqz hi,if_pos rfl,hx,bs,hy,bs,V0b x y (by omega) (by omega),bs,Kqy (by omega),V0c ks js a b (i + 1) hd hd2 (by simpa using hl) hk (by omega) (by omega)]
  cases tEq x y <;> rfl
end
theorem V0d (a b:List (List Int)) (ha:a.length ≤ 1099511627776) (hb:∀ q ∈ b,q.length ≤ 1099511627776):∀ (al bl:List (List Int)) (i:Nat),a.drop i=al→b.drop i=bl→al.length=bl.length →
  Kg2 (a,b,(i:Int))=some (if al=bl then .inl () else .inr false)∧Km9 (a,b,(i:Int))=some (if al=bl then .inl () else .inr false):=by
 intro al
 induction al with
 | nil =>
  intro bl i h1 h2 hl
  match bl,hl,h2 with
  | [],hl,h2 =>
  rw [Kg2.eq_def,Km9.eq_def]
  simp only
  rw [Kr0 (Kse h1)]
  exact ⟨rfl,rfl⟩
 | cons x al ih =>
  intro bl i h1 h2 hl
  match bl,hl,h2 with
  | y :: bl,hl,h2 =>
  obtain ⟨hi,hx,hd⟩:=Ksd h1
  obtain ⟨_,hy,hd2⟩:=Ksd h2
  have hm:y ∈ b:=List.mem_of_mem_drop (i:=i) (by rw [h2]; exact List.mem_cons_self)
  obtain ⟨r1,r2⟩:=ih bl (i + 1) hd hd2 (by simpa using hl)
  rw [Kg2.eq_def,Km9.eq_def]
  unfold Km5
  simp only
  rw [Kqz hi,if_pos rfl,if_pos rfl,hx,bs,bs,hy,bs,bs,Kw6 x y (hb y hm),Kw8 x y (hb y hm),bs,bs,bs,Kqy (by omega),r1,r2]
  by_cases he:x=y
  ·subst he
   rw [if_pos (beq_self_eq_true _)]
   simp
  ·rw [if_neg (by simpa using he),if_neg (by simp [he])]
   exact ⟨rfl,rfl⟩
theorem V0e (a b:List (List Int)) (ha:a.length ≤ 1099511627776) (hb:∀ q ∈ b,q.length ≤ 1099511627776):Kg5 (a,b)=some (decide (a=b))∧Kmf (a,b)=some (decide (a=b)):=by
 unfold Kg5 Kmf Kmc
 simp only
 by_cases h:a.length=b.length
 ·obtain ⟨r1,r2⟩:=V0d a b ha hb a b 0 rfl rfl h
  rw [show ((0:Nat):Int)=0 from rfl] at r1 r2
  rw [show ((a.length:Int) != (b.length:Int))=false by rw [h]; exact Kr6,if_neg (by decide),if_neg (by decide),r1,r2]
  by_cases e:a=b
  ·rw [if_pos e,decide_eq_true e]; exact ⟨rfl,rfl⟩
  ·rw [if_neg e,decide_eq_false e]; exact ⟨rfl,rfl⟩
 ·have:¬ a=b:=fun e=>h (by rw [e])
  rw [bne_iff_ne.2 (by omega),if_pos rfl,if_pos rfl,decide_eq_false this]
  exact ⟨rfl,rfl⟩
structure V0f (s:K00) (n:Nat) (j:K02) (ns:List Nat):Prop where
 cl:j.fCtx.length ≤ 400
 cx:∀ q ∈ j.fCtx,TyS s q
 bu:j.fBudgets=Kx3 ns
 bl:ns.length=j.fCtx.length
 bb:Kxj n ns
 ty:TyS s j.fType
 ok:tOk (gN s.fSize true) (yN s.fSize true) j.fCtx.length j.fTerm=true
 sz:tsz j.fTerm ≤ 400
section
variable {s:K00} {n:Nat} (hs:Kx8 s n)
include hs
theorem V0g:∀ (cs:List (List Int)) (bs:List Int),bs.length=cs.length→Kwu s cs bs=true→(∀ q ∈ cs,TyS s q)∧∃ ns:List Nat,bs=Kx3 ns∧Kxj n ns
 | [],[],_,_=>⟨fun _ h=>(by cases h),[],rfl,Kxk n⟩
 | c :: cs,b :: bs,hl,h=>by
  rw [Kwu,Bool.and_eq_true,Bool.and_eq_true] at h
  obtain ⟨h1,ns,h2,h3⟩:=V0g cs bs (by simpa using hl) h.2
  obtain ⟨k,rfl,hk⟩:=V08 hs (g:=b) h.1.1
  refine ⟨fun q hq=>?_,k :: ns,by rw [h2]; rfl,fun x hx=>?_⟩
  ·rcases List.mem_cons.1 hq with rfl | hq
   ·unfold TyS; rw [← Kvl hs.tab]; exact h.1.2
   ·exact h1 q hq
  ·rcases List.mem_cons.1 hx with rfl | hx
   ·exact hk
   ·exact h3 x hx
 | [],b :: bs,hl,_=>by simp at hl
 | c :: cs,[],hl,_=>by simp at hl
theorem V0h {j:K02} (h:Kwx s j=true):∃ ns,V0f s n j ns:=by
 unfold Kwx at h
 simp only [Bool.and_eq_true,decide_eq_true_eq,beq_iff_eq] at h
 obtain ⟨⟨⟨⟨h1,h2⟩,h3⟩,h4⟩,h5,h6⟩:=h
 obtain ⟨a,ns,b,c⟩:=V0g hs j.fCtx j.fBudgets h2 h4
 rw [Kyi hs.tab,show Kvg s=yN s.fSize true from funext fun ty=>Kvl hs.tab ty] at h5
 refine ⟨ns,h1,a,b,?_,c,?_,h5,h6⟩
 ·rw [← h2,b,Kx4]
 ·unfold TyS; rw [← Kvl hs.tab]; exact h3
end
theorem V0i (s:K00) (j:K02) (hj:jms j ≤ 1048576):Kf7 (s,j)=some (Kut s && Kwx s j):=by
 have hj':=hj
 unfold jms lms at hj'
 unfold Kf7
 simp only
 rw [Kvn s _ (by omega)]
 unfold Kvm
 cases hs:Kut s
 ·rfl
 ·have T:=Kuu hs
  unfold Kwx
  simp only [bs,Bool.true_and]
  rw [show Kvd s=gN s.fSize true from Kwt T,show Kvg s=yN s.fSize true from funext fun ty=>Kvl T ty]
  cases hty:yN s.fSize true j.fType
  ·rw [if_neg (by decide),bs,if_pos rfl,Bool.and_false,Bool.false_and,Bool.false_and]
  ·rw [if_pos rfl]
   by_cases h1:j.fCtx.length ≤ 400
   ·rw [decide_eq_false (by omega),decide_eq_true h1,if_neg (by decide)]
    by_cases h2:j.fBudgets.length=j.fCtx.length
    ·have hlft:=Ktf j.fTerm 400 (by omega) (by decide)
     rw [show ((400:Nat):Int)=400 from rfl] at hlft
     have hl0:=Kwv s T j h2 ⟨by omega,by omega⟩ j.fCtx j.fBudgets 0 rfl rfl
     rw [show ((0:Nat):Int)=0 from rfl] at hl0
     rw [hlft,hl0,Ku1 s.fSize true j.fTerm j.fCtx.length (by omega) (by omega),h2,Kr6,if_neg (by decide),beq_self_eq_true]
     simp only [bs]
     by_cases h3:tsz j.fTerm ≤ 400
     ·rw [Ktc h3,decide_eq_false (by omega),decide_eq_true h3]
      cases tOk (gN s.fSize true) (yN s.fSize true) j.fCtx.length j.fTerm <;> cases Kwu s j.fCtx j.fBudgets <;> rfl
     ·rw [Ktd h3,decide_eq_false h3]
      cases tOk (gN s.fSize true) (yN s.fSize true) j.fCtx.length j.fTerm <;> cases Kwu s j.fCtx j.fBudgets <;> rfl
    ·rw [bne_iff_ne.2 (by omega),beq_eq_false_iff_ne.2 h2]; rfl
   ·rw [decide_eq_true (by omega),decide_eq_false h1]; rfl
theorem V0j {s:K00} (h:Kut s=true) (j:K02) (hj:jms j ≤ 1048576):Kf7 (s,j)=some (Kwx s j):=by
 rw [V0i s j hj,h,Bool.true_and]
structure V0k (s:K00) (n:Nat) (l:List K02) (i:Nat) (J:K02) (ns:List Nat):Prop where
 hs:Kx8 s n
 sy:Kut s=true
 hz:sms s ≤ 1048576
 hl:∀ r ∈ l,jms r ≤ 1048576∧jln r
 ln:l.length ≤ 1048576
 hi:i < l.length
 hJ:idx l (i:Int)=some J
 jd:V0f s n J ns
 fr:J.fFrom.length=J.fTerm.fKids.length
 tm:tms J.fTerm ≤ 1048576
def V0l (r:K02):K03:=⟨r.fType,r.fBudgets,0,[]⟩
def V0m (r:K02):K05:=⟨r.fType,[],[],0,[]⟩
def sC (s:K00) (l:List K02) (i:Int) (J:K02) (K:List K03) (w:Int) (r:K02):Option ((List K03) ⊕ Bool) :=
 (Qd6 (K.length + [V0l r].length) 80) >>= fun _=>(idx (K ++ [V0l r]) 0) >>= fun e=>(Kfv (J.fTerm,e.fty,w)) >>= fun (q:(List (List Int)) × Bool) =>
 ((if q.2=true then Kfy (J.fCtx,q.1) >>= fun c=>Kg5 (r.fCtx,c) >>= fun b=>some (!b) else some true):Option Bool) >>= fun v =>
 if v=true then some (.inr false) else Ki6 (s,l,i,J,K ++ [V0l r],wr (w + 1))
def V0n (t:K01) (o:List K05) (w:Int) (r:K02):Option Bool :=
 if (t.fOp == 10)=true then
  if (w == 1)=true then (idx (o ++ [V0m r]) 0) >>= fun e=>(Kll e.fty) >>= fun q=>(idx q 0) >>= fun p=>(Kl3 (r.fType,p)) >>= fun b=>some (!b) else some false
 else some false
def iC (s:K00) (l:List K02) (i:Int) (J:K02) (o:List K05) (nd us:List (List Int)) (w:Int) (r:K02):Option ((List K05 × List (List Int) × List (List Int)) ⊕ Bool) :=
 ((if decide (w > 0)=true then (idx o 0) >>= fun e=>some e.fty else some []):Option (List Int)) >>= fun first =>
 (Klo (J.fTerm,w,first)) >>= fun more =>
 ((Km2 [more,J.fCtx] >>= fun c=>Kmf (r.fCtx,c) >>= fun b=>if b=true then Kmj (⟨s⟩,J.fTerm,w,r.fType) >>= fun f=>some (f != 0) else some true):Option Bool) >>= fun v =>
 if v=true then some (.inr false) else
 (Qd6 (o.length + [V0m r].length) 8) >>= fun _ =>
 (V0n J.fTerm o w r) >>= fun v =>
 if v=true then some (.inr false) else
 (cut r.fBudgets none (some (more.length:Int)) none) >>= fun c1=>(Qd6 (us.length + [c1].length) 24) >>= fun _=>(cut r.fBudgets (some (more.length:Int)) none none) >>= fun c2=>(Qd6 (nd.length + [c2].length) 24) >>= fun _ =>
 Kp5 (s,l,i,J,o ++ [V0m r],nd ++ [c2],us ++ [c1],wr (w + 1))
theorem V0o (i:Nat) (h:i ≤ 1048576):wr ((i:Int) - 1)=(i:Int) - 1:=by
 exact Kqw (by omega) (by omega)
section
variable {s:K00} {n:Nat} {l:List K02} {i:Nat} {J:K02} {nj:List Nat} (E:V0k s n l i J nj)
include E
theorem V0p {w:Nat} {j:Int} {k:K01} (hw:w < J.fFrom.length) (hj:idx J.fFrom (w:Int)=some j) (hk:idx J.fTerm.fKids (w:Int)=some k) (hm:tms k ≤ 1048576) :
  ((∀ K,Ki6 (s,l,(i:Int),J,K,(w:Int))=some (.inr false))∧(∀ o nd us,Kp5 (s,l,(i:Int),J,o,nd,us,(w:Int))=some (.inr false))) ∨
  ∃ r ns,V0f s n r ns∧r.fType.length ≤ 1048576∧(∀ K,Ki6 (s,l,(i:Int),J,K,(w:Int))=sC s l i J K w r)∧(∀ o nd us,Kp5 (s,l,(i:Int),J,o,nd,us,(w:Int))=iC s l i J o nd us w r):=by
 have hi:=E.hi
 have hn:=E.ln
 cases hb:inB j 0 (wr ((i:Int) - 1)) with
 | false =>
  refine .inl ⟨fun K=>?_,fun o nd us=>?_⟩
  ·rw [Ki6.eq_def]
   simp only
   rw [Kqz hw,if_pos rfl,hj,bs,sIn,bs,hb,if_neg (by decide)]
  ·rw [Kp5.eq_def]
   simp only
   rw [Kqz hw,if_pos rfl,hj,bs,iIn,bs,hb,if_neg (by decide),bs,if_pos rfl]
 | true =>
  have hb':=hb
  rw [V0o i (by omega)] at hb'
  unfold inB at hb'
  simp only [Bool.and_eq_true,decide_eq_true_eq] at hb'
  obtain ⟨c,rfl⟩:∃ c:Nat,j=(c:Int):=⟨j.toNat,by omega⟩
  have hc:c < l.length:=by omega
  have hr:idx l (c:Int)=some l[c]:=Kqx hc
  have hmem:l[c] ∈ l:=List.getElem_mem hc
  generalize l[c]=r at hr hmem
  obtain ⟨m1,m2⟩:=E.hl r hmem
  have s1:=V0j E.sy r m1
  have i1:=Kwz s r (by omega)
  have m1':=m1
  unfold jms at m1'
  cases hg:Kwx s r with
  | false =>
   rw [hg] at s1 i1
   refine .inl ⟨fun K=>?_,fun o nd us=>?_⟩
   ·rw [Ki6.eq_def]
    simp only
    rw [Kqz hw,if_pos rfl]
    simp only [hj,bs,sIn,hb,if_true,hr,s1,Bool.false_eq_true,if_false]
   ·rw [Kp5.eq_def]
    simp only
    rw [Kqz hw,if_pos rfl]
    simp only [hj,bs,iIn,hb,if_true,hr,i1,Bool.false_eq_true,if_false]
  | true =>
   rw [hg] at s1 i1
   have s2:=Kx1 r.fTerm k (by omega) (by omega)
   have i2:=V0b r.fTerm k (by omega) (by omega)
   cases hq:tEq r.fTerm k with
   | false =>
    rw [hq] at s2 i2
    refine .inl ⟨fun K=>?_,fun o nd us=>?_⟩
    ·rw [Ki6.eq_def]
     simp only
     rw [Kqz hw,if_pos rfl]
     simp only [hj,bs,sIn,hb,if_true,hr,s1,hk,s2,Bool.not_false]
    ·rw [Kp5.eq_def]
     simp only
     rw [Kqz hw,if_pos rfl]
     simp only [hj,bs,iIn,hb,if_true,hr,i1,hk,i2,Bool.not_false]
   | true =>
    rw [hq] at s2 i2
    obtain ⟨ns,hR⟩:=V0h E.hs hg
    refine .inr ⟨r,ns,hR,by omega,fun K=>?_,fun o nd us=>?_⟩
    ·rw [Ki6.eq_def]
     simp only
     rw [Kqz hw,if_pos rfl]
     simp only [hj,bs,sIn,hb,if_true,hr,s1,hk,s2,Bool.not_true,Bool.false_eq_true,if_false]
     rfl
    ·rw [Kp5.eq_def]
     simp only
     rw [Kqz hw,if_pos rfl]
     simp only [hj,bs,iIn,hb,if_true,hr,i1,hk,i2,Bool.not_true,Bool.false_eq_true,if_false]
     rfl
theorem V0q {w:Nat} {r:K02} {K:List K03} {e:K03} {m:List (List Int)} {ok:Bool} {ns:List Nat} (hR:V0f s n r ns) (hw:w ≤ 1000) (hK:K.length ≤ 1000) (he:idx (K ++ [V0l r]) 0=some e) (hf:Kfv (J.fTerm,e.fty,(w:Int))=some (m,ok)) (hm:m.length ≤ 2) (hq:∀ q ∈ m,TyS s q) :
  sC s l i J K w r=if (ok && decide (r.fCtx=m ++ J.fCtx))=true then Ki6 (s,l,(i:Int),J,K ++ [V0l r],((w + 1:Nat):Int)) else some (.inr false):=by
 have h1:=E.jd.cl
 have h2:=hR.cl
 unfold sC
 rw [Kuf (by simp; omega),bs,he,bs,hf,bs]
 cases ok with
 | false=>rfl
 | true =>
  have hc:=(V0e r.fCtx (m ++ J.fCtx) (by omega) (fun q hqq=>by
   rcases List.mem_append.1 hqq with h | h
   ·have:=Kyj (hq q h); omega
   ·have:=Kyj (E.jd.cx q h); omega)).1
  simp only [if_true]
  rw [Ky7 J.fCtx m (by omega),bs,hc,bs,bs,Bool.true_and,Kqy (by omega)]
  cases decide (r.fCtx=m ++ J.fCtx) <;> rfl
theorem V0r {w:Nat} {r:K02} {o:List K05} {nd us:List (List Int)} {first:List Int} {m:List (List Int)} {f:Int} {ab:Bool} {ns:List Nat} (hR:V0f s n r ns) (hw:w ≤ 1000) (ho:o.length ≤ 1000) (hnd:nd.length ≤ 1000) (hus:us.length ≤ 1000)
  (h1:((if decide ((w:Int) > 0)=true then (idx o 0) >>= fun e=>some e.fty else some []):Option (List Int))=some first) (ha:Klo (J.fTerm,(w:Int),first)=some m) (hm:m.length ≤ 2) (hq:∀ q ∈ m,TyS s q)
  (hf:Kmj (⟨s⟩,J.fTerm,(w:Int),r.fType)=some f) (hab:f=0→r.fCtx=m ++ J.fCtx→V0n J.fTerm o w r=some ab) :
  iC s l i J o nd us w r=if (decide (r.fCtx=m ++ J.fCtx) && f == 0 && !ab)=true then Kp5 (s,l,(i:Int),J,o ++ [V0m r],nd ++ [Kx3 (ns.drop m.length)],us ++ [Kx3 (ns.take m.length)],((w + 1:Nat):Int)) else some (.inr false):=by
 have k1:=E.jd.cl
 have k2:=hR.cl
 have hc:=(V0e r.fCtx (m ++ J.fCtx) (by omega) (fun q hqq=>by
  rcases List.mem_append.1 hqq with h | h
  ·have:=Kyj (hq q h); omega
  ·have:=Kyj (E.jd.cx q h); omega)).2
 unfold iC
 rw [h1,bs,ha,bs,Kyh [m,J.fCtx] (by simp) (by simp; omega),show [m,J.fCtx].flatten=m ++ J.fCtx by simp,bs,hc,bs]
 by_cases hx:r.fCtx=m ++ J.fCtx
 ·rw [decide_eq_true hx,if_pos rfl,hf,bs,bs,Bool.true_and]
  by_cases h0:f=0
  ·subst h0
   have hlen:m.length ≤ ns.length:=by rw [hR.bl,hx,List.length_append]; omega
   rw [if_neg (by decide),Kuf (by simp; omega),bs,hab rfl hx,bs]
   cases ab with
   | true=>rfl
   | false =>
    rw [if_neg (by decide),hR.bu,Kyy (by rw [Kx4]; exact hlen),bs,Kuf (by simp; omega),bs,Kyz (by rw [Kx4]; exact hlen),bs,Kuf (by simp; omega),bs,Kqy (by omega),Kx6,Kx5]
    rfl
  ·rw [if_pos (by simpa using h0),show (f == 0)=false from by simpa using h0]; rfl
 ·rw [decide_eq_false hx]; rfl
end
section
variable {s:K00} {N:Int} {ty:List Int} {ks:List K01} {q:List Int}
theorem V0s {op:Int} {w:Nat} (h:Ktr op (w:Int)=0):Kfv (⟨op,N,ty,ks⟩,q,(w:Int))=some ([],true):=by
 unfold Kfv
 simp only
 rw [Ktt,bs,h]; rfl
theorem V0t {w:Nat}:Kfv (⟨9,N,ty,ks⟩,q,(w:Int))=some ([ty],true):=by
 unfold Kfv
 simp only
 rw [Ktt,bs,show Ktr 9 (w:Int)=1 from rfl]; rfl
theorem V0u {a b:List Int} (h:Kym s 1 a b):Kfv (⟨5,N,ty,ks⟩,1 :: (a ++ b),((1:Nat):Int))=some ([b,a],true):=by
 unfold Kfv
 simp only
 rw [Ktt,bs,show Ktr 5 ((1:Nat):Int)=2 from rfl,if_neg (by decide),if_neg (by decide),if_pos (by decide),Kz8,bs,bs,if_pos (by decide),h.p1,bs,h.p0,bs]
theorem V0v {c:Int} {r:List Int} (h:c ≠ 1):Kfv (⟨5,N,ty,ks⟩,c :: r,((1:Nat):Int))=some ([],false):=by
 unfold Kfv
 simp only
 rw [Ktt,bs,show Ktr 5 ((1:Nat):Int)=2 from rfl,if_neg (by decide),if_neg (by decide),if_pos (by decide),Kz8,bs,bs,if_neg (by simpa using h)]
 rfl
theorem V0w {a b:List Int} (h:Kym s 2 a b):Kfv (⟨8,N,ty,ks⟩,2 :: (a ++ b),((1:Nat):Int))=some ([a],true)∧Kfv (⟨8,N,ty,ks⟩,2 :: (a ++ b),((2:Nat):Int))=some ([b],true):=by
 unfold Kfv
 simp only
 constructor
 ·rw [Ktt,bs,show Ktr 8 ((1:Nat):Int)=1 from rfl,if_neg (by decide),if_neg (by decide),if_neg (by decide),bs,if_neg (by decide),if_pos (by decide),Kz8,bs,bs,if_pos (by decide),show wr (((1:Nat):Int) - 1)=0 from by decide,h.p0,bs]
 ·rw [Ktt,bs,show Ktr 8 ((2:Nat):Int)=1 from rfl,if_neg (by decide),if_neg (by decide),if_neg (by decide),bs,if_neg (by decide),if_pos (by decide),Kz8,bs,bs,if_pos (by decide),show wr (((2:Nat):Int) - 1)=1 from by decide,h.p1,bs]
theorem V0x {c:Int} {r:List Int} (h:c ≠ 2):Kfv (⟨8,N,ty,ks⟩,c :: r,((1:Nat):Int))=some ([],false):=by
 unfold Kfv
 simp only
 rw [Ktt,bs,show Ktr 8 ((1:Nat):Int)=1 from rfl,if_neg (by decide),if_neg (by decide),if_neg (by decide),bs,if_neg (by decide),if_pos (by decide),Kz8,bs,bs,if_neg (by simpa using h)]
 rfl
theorem V0y {c:Int} {a:List Int} (hb:Ksg c=true) (h:Kyn s c a):Kfv (⟨12,N,ty,ks⟩,c :: a,((1:Nat):Int))=some ([a],true):=by
 unfold Kfv
 simp only
 rw [Ktt,bs,show Ktr 12 ((1:Nat):Int)=1 from rfl,if_neg (by decide),if_neg (by decide),if_neg (by decide),bs,if_neg (by decide),if_neg (by decide),bs,if_neg (by decide),if_pos (by decide),Kz8,bs,Ksj,bs,bs,hb,if_pos rfl,h.p0,bs]
theorem V0z {c:Int} {r:List Int} (hb:Ksg c=false):Kfv (⟨12,N,ty,ks⟩,c :: r,((1:Nat):Int))=some ([],false):=by
 unfold Kfv
 simp only
 rw [Ktt,bs,show Ktr 12 ((1:Nat):Int)=1 from rfl,if_neg (by decide),if_neg (by decide),if_neg (by decide),bs,if_neg (by decide),if_neg (by decide),bs,if_neg (by decide),if_pos (by decide),Kz8,bs,Ksj,bs,bs,hb,if_neg (by decide)]
end
def V10 (s:K00) (J:K02) (fl:(List K03) ⊕ Bool):Option Bool:=match fl with
 | .inl K=>(Khr (s,J.fCtx,J.fTerm,K)) >>= fun r=>((if (r.ffault == 0)=true then (Kfe (r.fty,J.fType)) >>= fun b=>if b=true then (Ki2 (s,r.fneeds,J.fBudgets)) >>= fun q=>some (q) else some (false) else some (false)):Option Bool) >>= fun v=>some v
 | .inr r=>some r
def V11 (s:K00) (J:K02) (fl:(List K05 × List (List Int) × List (List Int)) ⊕ Bool):Option Bool:=match fl with
 | .inl (o,nd,us) =>
  ((Kox ((K06.mk s),(K05.mk [] (List.replicate (Int.toNat (J.fCtx.length:Int)) 0) o 0 []),J.fCtx,J.fTerm,nd,us)) >>= fun (r,g)=>if (r != 0)=true then some ((g.fty,g.fneeds,g.fkids,g.ffault,g.fpath,true)) else (Kl3 (g.fty,J.fType)) >>= fun b=>some ((g.fty,g.fneeds,g.fkids,g.ffault,g.fpath,(!b))):Option ((List Int) × (List Int) × (List K05) × Int × (List Int) × Bool)) >>= fun (a0,a1,a2,a3,a4,v) =>
  if v=true then some false else (Kp9 (s,J,a1,0)) >>= fun fl=>match fl with
   | .inl ()=>some true
   | .inr r=>some r
 | .inr r=>some r
def V12 (s:K00) (J:K02) (a:Option ((List K03) ⊕ Bool)) (b:Option ((List K05 × List (List Int) × List (List Int)) ⊕ Bool)):Prop:=∃ v,(a >>= V10 s J)=some v∧(b >>= V11 s J)=some v
def SNo (s:K00) (J:K02) (a:Option ((List K03) ⊕ Bool)):Prop:=(a >>= V10 s J)=some false
theorem V13 (s:K00) (J:K02):V12 s J (some (.inr false)) (some (.inr false)):=⟨false,rfl,rfl⟩
theorem V14 {s:K00} {J:K02} {a:Option ((List K03) ⊕ Bool)} (h:SNo s J a):V12 s J a (some (.inr false)):=⟨false,h,rfl⟩
section
variable {s:K00} {l:List K02} {i:Nat} {J:K02}
theorem V15 {K:List K03} {o:List K05} {nd us:List (List Int)} {x:K03} {f:Int} {g:K05} (hr:Khr (s,J.fCtx,J.fTerm,K)=some x) (hx:x.ffault ≠ 0) (hf:Kox (⟨s⟩,⟨[],List.replicate (Int.toNat (J.fCtx.length:Int)) 0,o,0,[]⟩,J.fCtx,J.fTerm,nd,us)=some (f,g)) (h0:f ≠ 0):V12 s J (some (.inl K)) (some (.inl (o,nd,us))):=by
 unfold V12
 rw [bs,bs]
 unfold V10 V11
 simp only
 rw [hr,hf,bs,if_neg (by simpa using hx),bs]
 refine ⟨false,rfl,?_⟩
 rw [bs]
 simp only
 rw [if_pos (by simpa using h0)]
 rfl
theorem V16 {K:List K03} {x:K03} (hr:Khr (s,J.fCtx,J.fTerm,K)=some x) (hx:x.ffault ≠ 0):SNo s J (some (.inl K)):=by
 unfold SNo
 rw [bs]
 unfold V10
 simp only
 rw [hr,bs,if_neg (by simpa using hx),bs]
theorem V17 {w:Nat} {K:List K03} (hw:J.fFrom.length ≤ w):Ki6 (s,l,(i:Int),J,K,(w:Int))=some (.inl K):=by
 rw [Ki6.eq_def]
 simp only
 rw [Kr0 hw]; rfl
theorem V18 {w:Nat} {o:List K05} {nd us:List (List Int)} (hw:J.fFrom.length ≤ w):Kp5 (s,l,(i:Int),J,o,nd,us,(w:Int))=some (.inl (o,nd,us)):=by
 rw [Kp5.eq_def]
 simp only
 rw [Kr0 hw]; rfl
end
section
variable {s:K00} {n:Nat} {l:List K02} {i:Nat} {J:K02} {nj:List Nat} (E:V0k s n l i J nj)
include E
theorem V19 (a:List Nat) (ha:Kxj n a) (hal:a.length ≤ 1048576):∀ (al bl:List Nat) (w:Nat),a.drop w=al→nj.drop w=bl→al.length=bl.length→Kp9 (s,J,Kx3 a,(w:Int))=some (if V07 s n al (Kx3 bl) then .inl () else .inr false):=by
 intro al
 induction al with
 | nil =>
  intro bl w h1 h2 hl
  rw [Kp9.eq_def]
  simp only
  rw [Kx4,Kr0 (Kse h1)]
  rfl
 | cons x al ih =>
  intro bl w h1 h2 hl
  match bl,hl,h2 with
  | g :: bl,hl,h2 =>
  obtain ⟨k1,k2,k3⟩:=Kx7 h1
  obtain ⟨j1,j2,j3⟩:=Kx7 h2
  have hx:x < n:=Kxm ha w x (by rw [h1]; exact List.mem_cons_self)
  have hg:g < n:=Kxm E.jd.bb w g (by rw [h2]; exact List.mem_cons_self)
  have e:V07 s n (x :: al) (Kx3 (g :: bl))=(V06 s n x (g:Int) && V07 s n al (Kx3 bl)):=rfl
  have hh:Kvd s (g:Int)=true:=by
   rw [Kyi E.hs.tab]
   unfold gN
   rw [E.hs.tab.size]
   simp
   omega
  rw [Kp9.eq_def]
  simp only
  rw [Kx4,Kqz k1,if_pos rfl,k2,bs,E.jd.bu,j2,bs,iLe E.hs.tab hx hg,bs,e]
  unfold V06
  rw [hh,Int.toNat_natCast,Bool.true_and]
  cases le s n x g with
  | false=>rfl
  | true=>rw [if_pos rfl,Kqy (by omega),ih bl (w + 1) k3 j3 (by simpa using hl),Bool.true_and]
theorem V1a {K:List K03} {o:List K05} {nd us:List (List Int)} {q:List Int} {a:List Nat} (hr:Khr (s,J.fCtx,J.fTerm,K)=Kgs (q,Kx3 a)) (hf:Kox (⟨s⟩,⟨[],List.replicate (Int.toNat (J.fCtx.length:Int)) 0,o,0,[]⟩,J.fCtx,J.fTerm,nd,us)=some (Kz7 q a o))
  (ha:Kxj n a) (hl:a.length=J.fCtx.length):V12 s J (some (.inl K)) (some (.inl (o,nd,us))):=by
 have k1:=E.jd.cl
 have k2:=E.jd.bl
 have k3:=Kyj E.jd.ty
 have hb:=V0a E.hs a J.fBudgets ha (by omega)
 have hi:=V19 E a ha (by omega) a nj 0 rfl rfl (by omega)
 unfold V12
 rw [bs,bs]
 unfold V10 V11
 simp only
 rw [hr,hf,Kzu,bs]
 unfold Kz7
 by_cases h:q.length > 40
 ·rw [if_pos h,if_pos h]
  exact ⟨false,rfl,rfl⟩
 ·rw [if_neg h,if_neg h,bs]
  simp only
  rw [if_pos (by decide),if_neg (by decide),Kw6 q J.fType (by omega),Kw8 q J.fType (by omega),bs,bs]
  cases q == J.fType with
  | false=>exact ⟨false,rfl,rfl⟩
  | true =>
   rw [if_pos rfl,hb,bs,bs]
   simp only [bs]
   rw [show ((0:Nat):Int)=0 from rfl] at hi
   rw [if_neg (by decide),hi,E.jd.bu,Kx4,decide_eq_true (by omega),Bool.true_and]
   refine ⟨_,rfl,?_⟩
   rw [bs]
   cases V07 s n a (Kx3 nj) <;> rfl
theorem V1b {w:Nat} {j:Int} {k:K01} {K:List K03} {o:List K05} {nd us m:List (List Int)} (hw:w < J.fFrom.length) (hj:idx J.fFrom (w:Int)=some j) (hk:idx J.fTerm.fKids (w:Int)=some k)
  (hm:m.length ≤ 2) (hq:∀ q ∈ m,TyS s q) (hK:K.length ≤ 1000) (ho:o.length ≤ 1000) (hnd:nd.length ≤ 1000) (hus:us.length ≤ 1000) (hw3:w ≤ 1000)
  (h:∀ r ns,V0f s n r ns→∃ e first f ab,idx (K ++ [V0l r]) 0=some e∧Kfv (J.fTerm,e.fty,(w:Int))=some (m,true) ∧
   ((if decide ((w:Int) > 0)=true then (idx o 0) >>= fun e=>some e.fty else some []):Option (List Int))=some first∧Klo (J.fTerm,(w:Int),first)=some m ∧
   Kmj (⟨s⟩,J.fTerm,(w:Int),r.fType)=some f∧(f=0→r.fCtx=m ++ J.fCtx→V0n J.fTerm o w r=some ab) ∧
   (f=0→ab=false→ns.length=m.length + J.fCtx.length→V12 s J (Ki6 (s,l,(i:Int),J,K ++ [V0l r],((w + 1:Nat):Int))) (Kp5 (s,l,(i:Int),J,o ++ [V0m r],nd ++ [Kx3 (ns.drop m.length)],us ++ [Kx3 (ns.take m.length)],((w + 1:Nat):Int)))) ∧
   (¬ (f=0∧ab=false)→ns.length=m.length + J.fCtx.length→SNo s J (Ki6 (s,l,(i:Int),J,K ++ [V0l r],((w + 1:Nat):Int))))) :
  V12 s J (Ki6 (s,l,(i:Int),J,K,(w:Int))) (Kp5 (s,l,(i:Int),J,o,nd,us,(w:Int))):=by
 have hkm:tms k ≤ 1048576:=by
  have h1:k ∈ J.fTerm.fKids:=by
   unfold idx at hk
   split at hk
   ·exact List.mem_of_getElem? hk
   ·cases hk
  have:=Kvv h1
  have:=E.tm
  omega
 rcases V0p E hw hj hk hkm with ⟨h1,h2⟩ | ⟨r,ns,hR,_,h1,h2⟩
 ·rw [h1,h2]; exact V13 s J
 ·obtain ⟨e,first,f,ab,a1,a2,a3,a4,a5,a6,a7,a8⟩:=h r ns hR
  rw [h1,h2,V0q E hR hw3 hK a1 a2 hm hq,V0r E hR hw3 ho hnd hus a3 a4 hm hq a5 a6]
  by_cases hc:r.fCtx=m ++ J.fCtx
  ·have hl:ns.length=m.length + J.fCtx.length:=by rw [hR.bl,hc,List.length_append]
   rw [decide_eq_true hc]
   by_cases hf:f=0∧ab=false
   ·rw [hf.1,hf.2]; exact a7 hf.1 hf.2 hl
   ·have:(true && f == 0 && !ab)=false:=by
     cases ab <;> simp at hf ⊢
     exact hf
    rw [this]
    exact V14 (a8 hf hl)
  ·rw [decide_eq_false hc]; exact V13 s J
theorem V1c {w:Nat} {j:Int} {k:K01} {K:List K03} (hw:w < J.fFrom.length) (hj:idx J.fFrom (w:Int)=some j) (hk:idx J.fTerm.fKids (w:Int)=some k) (hK:K.length ≤ 1000) (hw3:w ≤ 1000)
  (h:∀ r ns,V0f s n r ns→∃ e m ok,idx (K ++ [V0l r]) 0=some e∧Kfv (J.fTerm,e.fty,(w:Int))=some (m,ok)∧m.length ≤ 2∧(∀ q ∈ m,TyS s q) ∧
   (ok=true→ns.length=m.length + J.fCtx.length→SNo s J (Ki6 (s,l,(i:Int),J,K ++ [V0l r],((w + 1:Nat):Int))))) :
  SNo s J (Ki6 (s,l,(i:Int),J,K,(w:Int))):=by
 have hkm:tms k ≤ 1048576:=by
  have h1:k ∈ J.fTerm.fKids:=by
   unfold idx at hk
   split at hk
   ·exact List.mem_of_getElem? hk
   ·cases hk
  have:=Kvv h1
  have:=E.tm
  omega
 rcases V0p E hw hj hk hkm with ⟨h1,h2⟩ | ⟨r,ns,hR,_,h1,h2⟩
 ·rw [h1]; rfl
 ·obtain ⟨e,m,ok,a1,a2,a3,a4,a5⟩:=h r ns hR
  rw [h1,V0q E hR hw3 hK a1 a2 a3 a4]
  by_cases hc:ok=true∧r.fCtx=m ++ J.fCtx
  ·have hl:ns.length=m.length + J.fCtx.length:=by rw [hR.bl,hc.2,List.length_append]
   rw [decide_eq_true hc.2,hc.1]
   exact a5 hc.1 hl
  ·have:(ok && decide (r.fCtx=m ++ J.fCtx))=false:=by
    cases ok
    ·rfl
    ·rw [decide_eq_false (fun q=>hc ⟨rfl,q⟩)]; rfl
   rw [this]; rfl
end
theorem V1d {α:Type} (x:α):idx [x] (wr ((([x]:List α).length:Int) - 1))=some x:=rfl
theorem V1e {α:Type} (x y:α):idx [x,y] (wr ((([x,y]:List α).length:Int) - 1))=some y:=rfl
theorem V1f {α:Type} (x y z:α):idx [x,y,z] (wr ((([x,y,z]:List α).length:Int) - 1))=some z:=rfl
section
variable {s:K00} {n:Nat} {N:Int} {ty:List Int} {ks:List K01} {ctx:List (List Int)} {r0 r1:K02} {a:List Nat}
theorem V1g (R0:V0f s n r0 a) (hc:ctx.length ≤ 400) (ht:ty.length ≤ 1000):Khr (s,ctx,⟨6,N,ty,ks⟩,[V0l r0])=Kgs (2 :: (r0.fType ++ ty),Kx3 a):=by
 have h0:=Kyj R0.ty
 have hg:=Ky9 2 [r0.fType,ty] (by simp) (by simp; omega)
 unfold Khr
 simp only
 rw [V1d]
 simp [Kz8,Ky6 ctx.length (by omega),hg,V0l,R0.bu]
theorem V1h (R0:V0f s n r0 a) (hc:ctx.length ≤ 400) (ht:ty.length ≤ 1000):Khr (s,ctx,⟨7,N,ty,ks⟩,[V0l r0])=Kgs (2 :: (ty ++ r0.fType),Kx3 a):=by
 have h0:=Kyj R0.ty
 have hg:=Ky9 2 [ty,r0.fType] (by simp) (by simp; omega)
 unfold Khr
 simp only
 rw [V1d]
 simp [Kz8,Ky6 ctx.length (by omega),hg,V0l,R0.bu]
theorem V1i {c:Int} {t0:List Int} (hq:r0.fType=c :: t0) (hn:Ksf c=false) (hc:ctx.length ≤ 400):Khr (s,ctx,⟨10,N,ty,ks⟩,[V0l r0,V0l r1])=some ⟨[],[],3,[]⟩:=by
 have i0:idx r0.fType 0=some c:=by rw [hq]; rfl
 unfold Khr
 simp only
 rw [V1e]
 simp [Kz8,Ky6 ctx.length (by omega),V0l,i0,Ksi,hn,Kgb]
theorem V1j {u:Nat} {l:List Int} {b:List Nat} (h:l=Kx3 b) (hu:u ≤ b.length):cut l (some (u:Int)) none none=some (Kx3 (b.drop u)):=by
 rw [h,Kyz (by rw [Kx4]; exact hu),Kx5]
end
section
variable {s:K00} {n:Nat} (hs:Kx8 s n) {N:Int} {ty:List Int} {ks:List K01} {ctx:List (List Int)} {r0 r1 r2:K02} {a b d:List Nat}
include hs
theorem V1k (R0:V0f s n r0 a) (R1:V0f s n r1 b) (hc:ctx.length ≤ 400) (hab:a.length=b.length):Khr (s,ctx,⟨4,N,ty,ks⟩,[V0l r0,V0l r1])=Kgs (1 :: (r0.fType ++ r1.fType),Kx3 (Kxg s n a b)):=by
 have h0:=Kyj R0.ty
 have h1:=Kyj R1.ty
 have hl:=R0.cl
 have hl2:=R0.bl
 have hg:=Ky9 1 [r0.fType,r1.fType] (by simp) (by simp; omega)
 have hsum:=Kxu hs a b R0.bb R1.bb (by omega) hab
 unfold Khr
 simp only
 rw [V1e]
 simp [Kz8,Ky6 ctx.length (by omega),hg,V0l,R0.bu,R1.bu,hsum]
theorem V1l (R0:V0f s n r0 a) (R1:V0f s n r1 b) (hc:ctx.length ≤ 400) (hab:a.length=b.length):Khr (s,ctx,⟨2,N,ty,ks⟩,[V0l r0,V0l r1])=if r0.fType=[0]∧r1.fType=[0] then Kgs ([0],Kx3 (Kxg s n a b)) else some ⟨[],[],2,[]⟩:=by
 obtain ⟨c0,t0,e0,_,z0⟩:=Kzv hs R0.ty
 obtain ⟨c1,t1,e1,_,z1⟩:=Kzv hs R1.ty
 have hl:=R0.cl
 have hl2:=R0.bl
 have hsum:=Kxu hs a b R0.bb R1.bb (by omega) hab
 have i0:idx r0.fType 0=some c0:=by rw [e0]; rfl
 have i1:idx r1.fType 0=some c1:=by rw [e1]; rfl
 by_cases q0:c0=0
 ·have u0:=z0 q0
  by_cases q1:c1=0
  ·have u1:=z1 q1
   rw [if_pos ⟨u0,u1⟩,Kzu]
   unfold Khr
   simp only
   rw [V1e]
   simp [Kz8,Ky6 ctx.length (by omega),V0l,R0.bu,R1.bu,hsum,i0,i1,q0,q1,u0,u1]
  ·have:¬ r1.fType=[0]:=by rw [e1]; intro h; cases h; exact q1 rfl
   rw [if_neg (fun h=>this h.2)]
   unfold Khr
   simp only
   rw [V1e]
   simp [Kz8,Ky6 ctx.length (by omega),V0l,R0.bu,R1.bu,hsum,i0,i1,q0,q1,Kgb]
 ·have:¬ r0.fType=[0]:=by rw [e0]; intro h; cases h; exact q0 rfl
  rw [if_neg (fun h=>this h.1)]
  unfold Khr
  simp only
  rw [V1e]
  simp [Kz8,Ky6 ctx.length (by omega),V0l,R0.bu,R1.bu,hsum,i0,i1,q0,Kgb]
theorem V1m (R0:V0f s n r0 a) (R1:V0f s n r1 b) (R2:V0f s n r2 d) (hc:ctx.length ≤ 400) (hab:a.length=b.length) (had:a.length=d.length):Khr (s,ctx,⟨3,N,ty,ks⟩,[V0l r0,V0l r1,V0l r2])=if r0.fType=[0]∧r1.fType=r2.fType then Kgs (r1.fType,Kx3 (Kxg s n a (Kxi s n b d))) else some ⟨[],[],3,[]⟩:=by
 obtain ⟨c0,t0,e0,_,z0⟩:=Kzv hs R0.ty
 have h1:=Kyj R1.ty
 have h2:=Kyj R2.ty
 have hl:=R0.cl
 have hl2:=R0.bl
 have hj:=Kxw hs b d R1.bb R2.bb (by omega) (by omega)
 have hjl:(Kxi s n b d).length=b.length:=by unfold Kxi; rw [List.length_zipWith]; omega
 have hsum:=Kxu hs a (Kxi s n b d) R0.bb (Kxp hs R1.bb R2.bb) (by omega) (by omega)
 have hsame:=Kw6 r1.fType r2.fType (by omega)
 have i0:idx r0.fType 0=some c0:=by rw [e0]; rfl
 by_cases q0:c0=0
 ·have u0:=z0 q0
  by_cases q1:r1.fType=r2.fType
  ·rw [if_pos ⟨u0,q1⟩,Kzu]
   unfold Khr
   simp only
   rw [V1f]
   rw [show (r1.fType == r2.fType)=true from beq_iff_eq.2 q1] at hsame
   rw [← q1] at hsame
   simp [Kz8,Kz9,Ky6 ctx.length (by omega),V0l,R0.bu,R1.bu,R2.bu,hsum,hj,i0,q0,← q1,hsame,show ¬ 40 < r1.fType.length by omega]
  ·rw [if_neg (fun h=>q1 h.2)]
   unfold Khr
   simp only
   rw [V1f]
   rw [show (r1.fType == r2.fType)=false from beq_eq_false_iff_ne.2 q1] at hsame
   simp [Kz8,Kz9,Ky6 ctx.length (by omega),V0l,R0.bu,R1.bu,R2.bu,i0,q0,hsame,Kgb]
 ·have:¬ r0.fType=[0]:=by rw [e0]; intro h; cases h; exact q0 rfl
  rw [if_neg (fun h=>this h.1)]
  unfold Khr
  simp only
  rw [V1f]
  simp [Kz8,Kz9,Ky6 ctx.length (by omega),V0l,i0,q0,Kgb]
theorem V1n {g:Nat} (hg:g < n) {u:Nat} {v:List Nat} (R0:V0f s n r0 a) (hc:ctx.length ≤ 400) (ht:ty.length ≤ 1000) (hu:a=u :: v):Khr (s,ctx,⟨9,(g:Int),ty,ks⟩,[V0l r0])=if le s n u g=true then Kgs ((3 + (g:Int)) :: (ty ++ r0.fType),Kx3 v) else some ⟨[],[],9,[]⟩:=by
 have h0:=Kyj R0.ty
 have hn:=hs.tab.hi
 subst hu
 have hl2:=R0.bl
 have hcl:=R0.cl
 have e1:idx r0.fBudgets 0=some (u:Int):=by rw [R0.bu]; rfl
 have hle:=sLe hs.tab (R0.bb u List.mem_cons_self) hg
 have hw:wr (3 + (g:Int))=3 + (g:Int):=Kqw (by omega) (by omega)
 have hgl:=Ky9 (3 + (g:Int)) [ty,r0.fType] (by simp) (by simp; omega)
 have hcut:cut r0.fBudgets (some 1) none none=some (Kx3 v):=by
  have:=Kyz (l:=r0.fBudgets) (m:=1) (by rw [R0.bu]; simp [Kx3])
  rw [show ((1:Nat):Int)=1 from rfl,R0.bu] at this
  rw [R0.bu,this]; rfl
 unfold Khr
 simp only
 rw [V1d]
 cases h:le s n u g with
 | true=>rw [h] at hle; simp [Kz8,Ky6 ctx.length (by omega),V0l,e1,hle,hw,hgl,hcut]
 | false=>rw [h] at hle; simp [Kz8,Ky6 ctx.length (by omega),V0l,e1,hle,Kgb]
theorem V1o {g:Nat} (hg:g < n) (R0:V0f s n r0 a) (hc:ctx.length ≤ 400) (hac:a.length=ctx.length):Khr (s,ctx,⟨11,(g:Int),ty,ks⟩,[V0l r0])=Kgs ((19 + (g:Int)) :: r0.fType,Kx3 (Kxh s n g a)):=by
 have h0:=Kyj R0.ty
 have hn:=hs.tab.hi
 have hw:wr (19 + (g:Int))=19 + (g:Int):=Kqw (by omega) (by omega)
 have hgl:=Ky9 (19 + (g:Int)) [r0.fType] (by simp) (by simp; omega)
 have hz:=Kxb hs
 have hsum:=Kxt hs g hg (List.replicate ctx.length 0) a (fun x hx=>by rw [List.eq_of_mem_replicate hx]; exact hz) R0.bb (by simp; omega) (by simp; omega)
 have hss:Kxg s n (List.replicate ctx.length 0) (Kxh s n g a)=Kxh s n g a:=by
  have e:=Kxr hs (a:=Kxh s n g a) (Kxo hs hg R0.bb)
  rw [show (Kxh s n g a).length=ctx.length by unfold Kxh; rw [List.length_map,hac]] at e
  exact e
 rw [hss] at hsum
 unfold Khr
 simp only
 rw [V1d]
 simp [Kz8,Ky6 ctx.length (by omega),V0l,R0.bu,hw,hgl,hsum]
theorem V1p {g:Nat} {p q:List Int} (hg:g < n) (h15:g ≤ 15) (hq:r0.fType=(3 + (g:Int)) :: (p ++ q)) (P:Kym s (3 + (g:Int)) p q) (R0:V0f s n r0 a) (R1:V0f s n r1 b) (hc:ctx.length ≤ 400) (hab:a.length=b.length) :
  Khr (s,ctx,⟨10,N,ty,ks⟩,[V0l r0,V0l r1])=if r1.fType=p then Kgs (q,Kx3 (Kxg s n a (Kxh s n g b))) else some ⟨[],[],3,[]⟩:=by
 have hl:=R0.cl
 have hl2:=R0.bl
 have hp:=Kyj P.ya
 have hq2:=Kyj P.yb
 have i0:idx r0.fType 0=some (3 + (g:Int)):=by rw [hq]; rfl
 have hp0:Kfs (r0.fType,0)=some p:=by rw [hq]; exact P.p0
 have hp1:Kfs (r0.fType,1)=some q:=by rw [hq]; exact P.p1
 have hsame:=Kw6 r1.fType p (by omega)
 have hgr:=V02 g h15
 have hsum:=Kxt hs g hg a b R0.bb R1.bb (by omega) hab
 by_cases e:r1.fType=p
 ·rw [if_pos e,Kzu]
  rw [show (r1.fType == p)=true from beq_iff_eq.2 e] at hsame
  unfold Khr
  simp only
  rw [V1e]
  simp [Kz8,Ky6 ctx.length (by omega),V0l,R0.bu,R1.bu,i0,Ksi,Kzy g h15,hp0,hp1,hsame,hgr,hsum,show ¬ 40 < q.length by omega]
 ·rw [if_neg e]
  rw [show (r1.fType == p)=false from beq_eq_false_iff_ne.2 e] at hsame
  unfold Khr
  simp only
  rw [V1e]
  simp [Kz8,Ky6 ctx.length (by omega),V0l,i0,Ksi,Kzy g h15,hp0,hsame,Kgb]
theorem V1q {g:Nat} (hg:g < n) {v:List Nat} (ha:Kxj n a) (hv:Kxj n v) (hc:ctx.length ≤ 400) (hac:a.length=ctx.length) (hvc:v.length=ctx.length) :
  Kg8 (ctx.length:Int)=some (Kx3 (List.replicate ctx.length 0))∧Kgp (s,Kx3 (List.replicate ctx.length 0),(g:Int),Kx3 a)=some (Kx3 (Kxh s n g a))∧Kgp (s,Kx3 (Kxh s n g a),1,Kx3 v)=some (Kx3 (Kxg s n (Kxh s n g a) v)):=by
 have hz:=Kxb hs
 have hscl:=Kxo hs hg ha
 have hlen:(Kxh s n g a).length=ctx.length:=by unfold Kxh; rw [List.length_map,hac]
 have h1:=Kxt hs g hg (List.replicate ctx.length 0) a (fun x hx=>by rw [List.eq_of_mem_replicate hx]; exact hz) ha (by simp; omega) (by simp; omega)
 have e:=Kxr hs (a:=Kxh s n g a) hscl
 rw [hlen] at e
 rw [e] at h1
 exact ⟨Ky6 ctx.length (by omega),h1,Kxu hs (Kxh s n g a) v hscl hv (by omega) (by omega)⟩
theorem V1r {g u0 u1:Nat} {v:List Nat} (hg:g < n) (R0:V0f s n r0 a) (R1:V0f s n r1 b) (hc:ctx.length ≤ 400) (hac:a.length=ctx.length) (hb:b=u0 :: u1 :: v) (hv:v.length=ctx.length) :
  Khr (s,ctx,⟨5,(g:Int),ty,ks⟩,[V0l r0,V0l r1])=if le s n 1 g=true∧le s n u0 g=true∧le s n u1 g=true then Kgs (r1.fType,Kx3 (Kxg s n (Kxh s n g a) v)) else some ⟨[],[],9,[]⟩:=by
 have hbb:=R1.bb
 have hbu:=R1.bu
 subst hb
 have h1:=Kyj R1.ty
 have hvb:Kxj n v:=fun x hx=>hbb x (by simp [hx])
 obtain ⟨z0,z1,z2⟩:=V1q hs (ctx:=ctx) hg R0.bb hvb hc hac hv
 have hcut:=V1j (u:=2) hbu (by simp)
 have i0:idx r1.fBudgets 0=some (u0:Int):=by rw [hbu]; rfl
 have i1:idx r1.fBudgets 1=some (u1:Int):=by rw [hbu]; rfl
 have l0:=sLe hs.tab (Kxa hs) hg
 have l1:=sLe hs.tab (hbb u0 (by simp)) hg
 have l2:=sLe hs.tab (hbb u1 (by simp)) hg
 have ad:=Ktt 5 1
 rw [show Ktr 5 1=2 from rfl] at ad
 rw [show ((1:Nat):Int)=1 from rfl] at l0
 simp only [List.drop_succ_cons,List.drop_zero] at hcut
 rw [show ((2:Nat):Int)=2 from rfl] at ad hcut
 have w1:wr 1=1:=by decide
 have key:Khr (s,ctx,⟨5,(g:Int),ty,ks⟩,[V0l r0,V0l r1])=if (le s n 1 g && le s n u0 g && le s n u1 g)=true then some ⟨r1.fType,Kx3 (Kxg s n (Kxh s n g a) v),0,[]⟩ else some ⟨[],[],9,[]⟩:=by
  unfold Khr
  simp only
  rw [V1e]
  cases q0:le s n 1 g <;> cases q1:le s n u0 g <;> cases q2:le s n u1 g <;> (rw [q0] at l0; rw [q1] at l1; rw [q2] at l2; simp [Kz8,Kz9,z0,z1,z2,V0l,R0.bu,i0,i1,l0,l1,l2,ad,hcut,w1,Kgb])
 rw [key,Kzu,if_neg (show ¬ r1.fType.length > 40 by omega)]
 cases le s n 1 g <;> cases le s n u0 g <;> cases le s n u1 g <;> simp
theorem V1s {g m u0:Nat} {p:List Int} {v:List Nat} (hg:g < n) (hm:m < n) (h15:m ≤ 15) (hq:r0.fType=(19 + (m:Int)) :: p) (R0:V0f s n r0 a) (R1:V0f s n r1 b) (hc:ctx.length ≤ 400) (hac:a.length=ctx.length) (hb:b=u0 :: v) (hv:v.length=ctx.length) :
  Khr (s,ctx,⟨12,(g:Int),ty,ks⟩,[V0l r0,V0l r1])=if le s n 1 g=true∧le s n u0 (ti s n g m)=true then Kgs (r1.fType,Kx3 (Kxg s n (Kxh s n g a) v)) else some ⟨[],[],9,[]⟩:=by
 have hbb:=R1.bb
 have hbu:=R1.bu
 subst hb
 have h1:=Kyj R1.ty
 have hvb:Kxj n v:=fun x hx=>hbb x (by simp [hx])
 obtain ⟨z0,z1,z2⟩:=V1q hs (ctx:=ctx) hg R0.bb hvb hc hac hv
 have hcut:=V1j (u:=1) hbu (by simp)
 have i0:idx r1.fBudgets 0=some (u0:Int):=by rw [hbu]; rfl
 have iq:idx r0.fType 0=some (19 + (m:Int)):=by rw [hq]; rfl
 have hgr:=V03 m h15
 have hmul:=Krl hs.tab hg hm
 have hti:=Krg hs.tab hg hm
 have l0:=sLe hs.tab (Kxa hs) hg
 have l1:=sLe hs.tab (hbb u0 (by simp)) hti
 have ad:=Ktt 12 1
 rw [show Ktr 12 1=1 from rfl] at ad
 rw [show ((1:Nat):Int)=1 from rfl] at l0 ad hcut
 simp only [List.drop_succ_cons,List.drop_zero] at hcut
 have w1:wr 0=0:=by decide
 have key:Khr (s,ctx,⟨12,(g:Int),ty,ks⟩,[V0l r0,V0l r1])=if (le s n 1 g && le s n u0 (ti s n g m))=true then some ⟨r1.fType,Kx3 (Kxg s n (Kxh s n g a) v),0,[]⟩ else some ⟨[],[],9,[]⟩:=by
  unfold Khr
  simp only
  rw [V1e]
  cases q0:le s n 1 g <;> cases q1:le s n u0 (ti s n g m) <;> (rw [q0] at l0; rw [q1] at l1; simp [Kz8,Kz9,z0,z1,z2,V0l,R0.bu,i0,iq,hgr,hmul,l0,l1,ad,hcut,w1,Kgb])
 rw [key,Kzu,if_neg (show ¬ r1.fType.length > 40 by omega)]
 cases le s n 1 g <;> cases le s n u0 (ti s n g m) <;> simp
theorem V1t {g u0 v0:Nat} {u v:List Nat} (hg:g < n) (R0:V0f s n r0 a) (R1:V0f s n r1 b) (R2:V0f s n r2 d) (hc:ctx.length ≤ 400) (hac:a.length=ctx.length) (hb:b=u0 :: u) (hd:d=v0 :: v) (hu:u.length=ctx.length) (hv:v.length=ctx.length) :
  Khr (s,ctx,⟨8,(g:Int),ty,ks⟩,[V0l r0,V0l r1,V0l r2])=if r1.fType=r2.fType∧le s n v0 g=true then (if le s n 1 g=true∧le s n u0 g=true then Kgs (r2.fType,Kx3 (Kxg s n (Kxh s n g a) (Kxi s n u v))) else some ⟨[],[],9,[]⟩) else some ⟨[],[],3,[]⟩:=by
 have hbb:=R1.bb
 have hbu:=R1.bu
 have hdb:=R2.bb
 have hdu:=R2.bu
 subst hb; subst hd
 have h2:=Kyj R2.ty
 have hub:Kxj n u:=fun x hx=>hbb x (by simp [hx])
 have hvb:Kxj n v:=fun x hx=>hdb x (by simp [hx])
 have hjb:=Kxp hs hub hvb
 have hjl:(Kxi s n u v).length=ctx.length:=by unfold Kxi; rw [List.length_zipWith]; omega
 obtain ⟨z0,z1,z2⟩:=V1q hs (ctx:=ctx) hg R0.bb hjb hc hac hjl
 have hj:=Kxw hs u v hub hvb (by omega) (by omega)
 have hcut:=V1j (u:=1) hbu (by simp)
 have hcut2:=V1j (u:=1) hdu (by simp)
 have i0:idx r1.fBudgets 0=some (u0:Int):=by rw [hbu]; rfl
 have j0:idx r2.fBudgets 0=some (v0:Int):=by rw [hdu]; rfl
 have l0:=sLe hs.tab (Kxa hs) hg
 have l1:=sLe hs.tab (hbb u0 (by simp)) hg
 have l2:=sLe hs.tab (hdb v0 (by simp)) hg
 have hsame:=Kw6 r1.fType r2.fType (by omega)
 have ad:=Ktt 8 1
 rw [show Ktr 8 1=1 from rfl] at ad
 rw [show ((1:Nat):Int)=1 from rfl] at l0 ad hcut hcut2
 simp only [List.drop_succ_cons,List.drop_zero] at hcut hcut2
 have w1:wr 0=0:=by decide
 have key:Khr (s,ctx,⟨8,(g:Int),ty,ks⟩,[V0l r0,V0l r1,V0l r2])=if ((r1.fType == r2.fType) && le s n v0 g)=true then (if (le s n 1 g && le s n u0 g)=true then some ⟨r2.fType,Kx3 (Kxg s n (Kxh s n g a) (Kxi s n u v)),0,[]⟩ else some ⟨[],[],9,[]⟩) else some ⟨[],[],3,[]⟩:=by
  unfold Khr
  simp only
  rw [V1f]
  cases q3:r1.fType == r2.fType <;> cases q0:le s n 1 g <;> cases q1:le s n u0 g <;> cases q2:le s n v0 g <;> (rw [q3] at hsame; rw [q0] at l0; rw [q1] at l1; rw [q2] at l2; simp [Kz8,Kz9,z0,z1,z2,V0l,R0.bu,i0,j0,l0,l1,l2,ad,hcut,hcut2,w1,hsame,hj,Kgb])
 rw [key,Kzu,if_neg (show ¬ r2.fType.length > 40 by omega)]
 by_cases e:r1.fType=r2.fType
 ·rw [show (r1.fType == r2.fType)=true from beq_iff_eq.2 e]
  cases le s n 1 g <;> cases le s n u0 g <;> cases le s n v0 g <;> simp [e]
 ·rw [show (r1.fType == r2.fType)=false from beq_eq_false_iff_ne.2 e]
  simp [e]
end
theorem V1u {α β:Type} {l:List α} {k:β} (h:l.length=[k].length):∃ a,l=[a]:=by
 match l,h with
 | [a],_=>exact ⟨a,rfl⟩
theorem V1v {α β:Type} {l:List α} {x y:β} (h:l.length=[x,y].length):∃ a b,l=[a,b]:=by
 match l,h with
 | [a,b],_=>exact ⟨a,b,rfl⟩
theorem V1w {α β:Type} {l:List α} {x y z:β} (h:l.length=[x,y,z].length):∃ a b c,l=[a,b,c]:=by
 match l,h with
 | [a,b,c],_=>exact ⟨a,b,c,rfl⟩
theorem V1x {α:Type} (K:List α) (x:α):∃ e,idx (K ++ [x]) 0=some e:=by
 cases K with
 | nil=>exact ⟨x,rfl⟩
 | cons y K=>exact ⟨y,rfl⟩
section
variable {s:K00} {n:Nat} {l:List K02} {i:Nat} {J:K02} {nj:List Nat} (E:V0k s n l i J nj) {op N:Int} {ty:List Int} {ks:List K01}
include E
theorem V1y {w:Nat} {j:Int} {k:K01} {K:List K03} {o:List K05} {nd us:List (List Int)} (hT:J.fTerm=⟨op,N,ty,ks⟩) (hw:w < J.fFrom.length) (hj:idx J.fFrom (w:Int)=some j) (hk:idx ks (w:Int)=some k)
  (hw3:w ≤ 2) (hK:K.length=w) (ho:o.length=w) (hnd:nd.length=w) (hus:us.length=w) (h9:op ≠ 9) (ha:Ktr op (w:Int)=0) (h10:op ≠ 10) (hf:∀ c r,Kmj (⟨s⟩,⟨op,N,ty,ks⟩,(w:Int),c :: r)=some 0)
  (h:∀ r ns,V0f s n r ns→ns.length=J.fCtx.length→V12 s J (Ki6 (s,l,(i:Int),J,K ++ [V0l r],((w + 1:Nat):Int))) (Kp5 (s,l,(i:Int),J,o ++ [V0m r],nd ++ [Kx3 ns],us ++ [Kx3 []],((w + 1:Nat):Int)))) :
  V12 s J (Ki6 (s,l,(i:Int),J,K,(w:Int))) (Kp5 (s,l,(i:Int),J,o,nd,us,(w:Int))):=by
 refine V1b E (m:=[]) hw hj (k:=k) (by rw [hT]; exact hk) (by simp) (fun _ h=>by cases h) (by omega) (by omega) (by omega) (by omega) (by omega) fun r ns R=>?_
 obtain ⟨e,he⟩:=V1x K (V0l r)
 have hfst:∃ first,((if decide ((w:Int) > 0)=true then (idx o 0) >>= fun e=>some e.fty else some []):Option (List Int))=some first:=by
  by_cases h0:w=0
  ·subst h0; exact ⟨[],rfl⟩
  ·rw [decide_eq_true (by omega),if_pos rfl]
   match o,ho with
   | [],ho=>simp at ho; omega
   | y :: o,_=>exact ⟨y.fty,rfl⟩
 obtain ⟨first,h1⟩:=hfst
 obtain ⟨c,t,hc,_,_⟩:=Kzv E.hs R.ty
 refine ⟨e,first,0,false,he,by rw [hT]; exact V0s ha,h1,by rw [hT]; exact Kzo h9 ha,by rw [hT,hc]; exact hf c t,fun _ _=>?_,fun _ _ hl=>?_,fun q=>absurd ⟨rfl,rfl⟩ q⟩
 ·unfold V0n
  rw [hT]
  simp [h10]
 ·have:=h r ns R (by simpa using hl)
  simpa using this
theorem V1z (hT:J.fTerm=⟨4,N,ty,ks⟩):V12 s J (Ki6 (s,l,(i:Int),J,[],((0:Nat):Int))) (Kp5 (s,l,(i:Int),J,[],[],[],((0:Nat):Int))):=by
 have hok:=E.jd.ok
 have hfr:=E.fr
 rw [hT] at hok hfr
 obtain ⟨k0,k1,rfl,_,_⟩:=nd2 hok (Nat.le_refl _) rfl
 obtain ⟨j0,j1,hF⟩:=V1v hfr
 have hc:=E.jd.cl
 refine V1y E hT (j:=j0) (k:=k0) (by rw [hF]; simp) (by rw [hF]; rfl) rfl (by omega) rfl rfl rfl rfl (by decide) rfl (by decide) (fun c r=>Kz0 (.inl (by decide))) fun r0 a R0 la=>?_
 refine V1y E hT (j:=j1) (k:=k1) (by rw [hF]; simp) (by rw [hF]; rfl) rfl (by omega) rfl rfl rfl rfl (by decide) rfl (by decide) (fun c r=>Kz0 (.inl (by decide))) fun r1 b R1 lb=>?_
 rw [V17 (by rw [hF]; simp),V18 (by rw [hF]; simp)]
 have h0:=Kyj R0.ty
 have h1:=Kyj R1.ty
 refine V1a E (by rw [hT]; exact V1k E.hs R0 R1 hc (by omega)) (by rw [hT]; exact Kzh E.hs R0.bb R1.bb (by omega) (by omega) (by unfold V0m; simp only; omega) (by unfold V0m; simp only; omega)) (Kxn E.hs R0.bb R1.bb) (by unfold Kxg; rw [List.length_zipWith]; omega)
theorem V20 (hT:J.fTerm=⟨6,N,ty,ks⟩):V12 s J (Ki6 (s,l,(i:Int),J,[],((0:Nat):Int))) (Kp5 (s,l,(i:Int),J,[],[],[],((0:Nat):Int))):=by
 have hok:=E.jd.ok
 have hfr:=E.fr
 rw [hT] at hok hfr
 obtain ⟨k0,rfl,_⟩:=nd1 hok (Nat.le_refl _) rfl
 obtain ⟨j0,hF⟩:=V1u hfr
 have hc:=E.jd.cl
 have hy:=Kyj (Kyv hok rfl)
 simp only at hy
 refine V1y E hT (j:=j0) (k:=k0) (by rw [hF]; simp) (by rw [hF]; rfl) rfl (by omega) rfl rfl rfl rfl (by decide) rfl (by decide) (fun c r=>Kz0 (.inl (by decide))) fun r0 a R0 la=>?_
 rw [V17 (by rw [hF]; simp),V18 (by rw [hF]; simp)]
 have h0:=Kyj R0.ty
 refine V1a E (by rw [hT]; exact V1g R0 hc (by omega)) (by rw [hT]; exact Kzd (by unfold V0m; simp only; omega) (by omega)) R0.bb la
theorem V21 (hT:J.fTerm=⟨7,N,ty,ks⟩):V12 s J (Ki6 (s,l,(i:Int),J,[],((0:Nat):Int))) (Kp5 (s,l,(i:Int),J,[],[],[],((0:Nat):Int))):=by
 have hok:=E.jd.ok
 have hfr:=E.fr
 rw [hT] at hok hfr
 obtain ⟨k0,rfl,_⟩:=nd1 hok (Nat.le_refl _) rfl
 obtain ⟨j0,hF⟩:=V1u hfr
 have hc:=E.jd.cl
 have hy:=Kyj (Kyv hok rfl)
 simp only at hy
 refine V1y E hT (j:=j0) (k:=k0) (by rw [hF]; simp) (by rw [hF]; rfl) rfl (by omega) rfl rfl rfl rfl (by decide) rfl (by decide) (fun c r=>Kz0 (.inl (by decide))) fun r0 a R0 la=>?_
 rw [V17 (by rw [hF]; simp),V18 (by rw [hF]; simp)]
 have h0:=Kyj R0.ty
 refine V1a E (by rw [hT]; exact V1h R0 hc (by omega)) (by rw [hT]; exact Kze (by unfold V0m; simp only; omega) (by omega)) R0.bb la
theorem V22 (hT:J.fTerm=⟨11,N,ty,ks⟩):V12 s J (Ki6 (s,l,(i:Int),J,[],((0:Nat):Int))) (Kp5 (s,l,(i:Int),J,[],[],[],((0:Nat):Int))):=by
 have hok:=E.jd.ok
 have hfr:=E.fr
 rw [hT] at hok hfr
 obtain ⟨k0,rfl,_⟩:=nd1 hok (Nat.le_refl _) rfl
 obtain ⟨j0,hF⟩:=V1u hfr
 obtain ⟨g,hN,hg⟩:=Kys E.hs (Kyu hok rfl)
 simp only at hN
 subst hN
 have hc:=E.jd.cl
 refine V1y E hT (j:=j0) (k:=k0) (by rw [hF]; simp) (by rw [hF]; rfl) rfl (by omega) rfl rfl rfl rfl (by decide) rfl (by decide) (fun c r=>Kz0 (.inl (by decide))) fun r0 a R0 la=>?_
 rw [V17 (by rw [hF]; simp),V18 (by rw [hF]; simp)]
 have h0:=Kyj R0.ty
 refine V1a E (by rw [hT]; exact V1o E.hs hg R0 hc la) (by rw [hT]; exact Kzj E.hs hg R0.bb (by omega) (by unfold V0m; simp only; omega)) (Kxo E.hs hg R0.bb) (by unfold Kxh; rw [List.length_map]; exact la)
theorem V23 {w:Nat} {j:Int} {k:K01} {K:List K03} {o:List K05} {nd us:List (List Int)} (hT:J.fTerm=⟨op,N,ty,ks⟩) (hw:w < J.fFrom.length) (hj:idx J.fFrom (w:Int)=some j) (hk:idx ks (w:Int)=some k)
  (hw3:w ≤ 2) (hK:K.length=w) (ho:o.length=w) (hnd:nd.length=w) (hus:us.length=w) (h9:op ≠ 9) (ha:Ktr op (w:Int)=0) (h10:op ≠ 10∨w=0)
  (h:∀ r ns,V0f s n r ns→∃ f,Kmj (⟨s⟩,⟨op,N,ty,ks⟩,(w:Int),r.fType)=some f ∧
   (f=0→ns.length=J.fCtx.length→V12 s J (Ki6 (s,l,(i:Int),J,K ++ [V0l r],((w + 1:Nat):Int))) (Kp5 (s,l,(i:Int),J,o ++ [V0m r],nd ++ [Kx3 ns],us ++ [Kx3 []],((w + 1:Nat):Int)))) ∧
   (f ≠ 0→ns.length=J.fCtx.length→SNo s J (Ki6 (s,l,(i:Int),J,K ++ [V0l r],((w + 1:Nat):Int))))) :
  V12 s J (Ki6 (s,l,(i:Int),J,K,(w:Int))) (Kp5 (s,l,(i:Int),J,o,nd,us,(w:Int))):=by
 refine V1b E (m:=[]) hw hj (k:=k) (by rw [hT]; exact hk) (by simp) (fun _ h=>by cases h) (by omega) (by omega) (by omega) (by omega) (by omega) fun r ns R=>?_
 obtain ⟨e,he⟩:=V1x K (V0l r)
 have hfst:∃ first,((if decide ((w:Int) > 0)=true then (idx o 0) >>= fun e=>some e.fty else some []):Option (List Int))=some first:=by
  by_cases h0:w=0
  ·subst h0; exact ⟨[],rfl⟩
  ·rw [decide_eq_true (by omega),if_pos rfl]
   match o,ho with
   | [],ho=>simp at ho; omega
   | y :: o,_=>exact ⟨y.fty,rfl⟩
 obtain ⟨first,h1⟩:=hfst
 obtain ⟨f,hf,g1,g2⟩:=h r ns R
 refine ⟨e,first,f,false,he,by rw [hT]; exact V0s ha,h1,by rw [hT]; exact Kzo h9 ha,by rw [hT]; exact hf,fun _ _=>?_,fun h0 _ hl=>?_,fun q hl=>g2 (fun h0=>q ⟨h0,rfl⟩) (by simpa using hl)⟩
 ·unfold V0n
  rw [hT]
  rcases h10 with h10 | rfl
  ·simp [h10]
  ·simp
 ·have:=g1 h0 (by simpa using hl)
  simpa using this
theorem V24 {w:Nat} {j:Int} {k:K01} {K:List K03} (hT:J.fTerm=⟨op,N,ty,ks⟩) (hw:w < J.fFrom.length) (hj:idx J.fFrom (w:Int)=some j) (hk:idx ks (w:Int)=some k) (hw3:w ≤ 2) (hK:K.length=w) (ha:Ktr op (w:Int)=0)
  (h:∀ r ns,V0f s n r ns→ns.length=J.fCtx.length→SNo s J (Ki6 (s,l,(i:Int),J,K ++ [V0l r],((w + 1:Nat):Int)))):SNo s J (Ki6 (s,l,(i:Int),J,K,(w:Int))):=by
 refine V1c E hw hj (k:=k) (by rw [hT]; exact hk) (by omega) (by omega) fun r ns R=>?_
 obtain ⟨e,he⟩:=V1x K (V0l r)
 exact ⟨e,[],true,he,by rw [hT]; exact V0s ha,by simp,fun _ h=>(by cases h),fun _ hl=>h r ns R (by simpa using hl)⟩
theorem V25 (hT:J.fTerm=⟨9,N,ty,ks⟩):V12 s J (Ki6 (s,l,(i:Int),J,[],((0:Nat):Int))) (Kp5 (s,l,(i:Int),J,[],[],[],((0:Nat):Int))):=by
 have hok:=E.jd.ok
 have hfr:=E.fr
 rw [hT] at hok hfr
 obtain ⟨k0,rfl,_⟩:=nd1 hok (Nat.le_refl _) rfl
 obtain ⟨j0,hF⟩:=V1u hfr
 obtain ⟨g,hN,hg⟩:=Kys E.hs (Kyu hok rfl)
 simp only at hN
 subst hN
 have hc:=E.jd.cl
 have hY:=Kyv hok rfl
 simp only at hY
 have hy:=Kyj hY
 refine V1b E (m:=[ty]) (j:=j0) (k:=k0) (by rw [hF]; simp) (by rw [hF]; rfl) (by rw [hT]; rfl) (by simp) (fun q h=>by rw [List.mem_singleton.1 h]; exact hY) (by simp) (by simp) (by simp) (by simp) (by omega) fun r0 a R0=>?_
 obtain ⟨c,t,hq,_,_⟩:=Kzv E.hs R0.ty
 refine ⟨V0l r0,[],0,false,rfl,by rw [hT]; exact V0t,rfl,by rw [hT]; exact Kzp,by rw [hT,hq]; exact Kz0 (.inl (by decide)),fun _ _=>by unfold V0n; rw [hT]; rfl,fun _ _ hl=>?_,fun q=>absurd ⟨rfl,rfl⟩ q⟩
 match a,hl,R0 with
 | [],hl,_=>simp at hl; omega
 | u :: v,hl,R0 =>
 rw [V17 (by rw [hF]; simp),V18 (by rw [hF]; simp)]
 have h0:=Kyj R0.ty
 have hub:=R0.bb u (by simp)
 have hvb:Kxj n v:=fun x hx=>R0.bb x (by simp [hx])
 have hvl:v.length=J.fCtx.length:=by simp at hl; omega
 have sr:=V1n (ty:=ty) (ks:=[k0]) (ctx:=J.fCtx) E.hs hg R0 hc (by omega) rfl
 have fi:=Kzi (s:=s) (ty:=ty) (ks:=[k0]) (ctx:=J.fCtx) (z:=List.replicate (Int.toNat (J.fCtx.length:Int)) 0) (y0:=V0m r0) (a:=v) E.hs hg (u:=[u]) (fun x hx=>by rw [List.mem_singleton.1 hx]; exact hub) (by simp) (by unfold V0m; simp only; omega) (by omega)
 rw [show ([u].all fun x=>le s n x g)=le s n u g by simp] at fi
 cases hle:le s n u g with
 | true =>
  rw [hle,if_pos rfl] at sr fi
  exact V1a E (by rw [hT]; exact sr) (by rw [hT]; exact fi) hvb hvl
 | false =>
  rw [hle,if_neg (by decide)] at sr fi
  exact V15 (by rw [hT]; exact sr) (by decide) (by rw [hT]; exact fi) (by decide)
theorem V26 (hT:J.fTerm=⟨2,N,ty,ks⟩):V12 s J (Ki6 (s,l,(i:Int),J,[],((0:Nat):Int))) (Kp5 (s,l,(i:Int),J,[],[],[],((0:Nat):Int))):=by
 have hok:=E.jd.ok
 have hfr:=E.fr
 rw [hT] at hok hfr
 obtain ⟨k0,k1,rfl,_,_⟩:=nd2 hok (Nat.le_refl _) rfl
 obtain ⟨j0,j1,hF⟩:=V1v hfr
 have hc:=E.jd.cl
 refine V23 E hT (j:=j0) (k:=k0) (by rw [hF]; simp) (by rw [hF]; rfl) rfl (by omega) rfl rfl rfl rfl (by decide) rfl (.inr rfl) fun r0 a R0=>?_
 obtain ⟨c0,t0,e0,s0,z0⟩:=Kzv E.hs R0.ty
 refine ⟨_,by rw [e0]; exact Kz1,fun hf la=>?_,fun hf la=>?_⟩
 ·have q0:r0.fType=[0]:=by
   split at hf
   ·rename_i h; exact z0 (s0.1 h)
   ·cases hf
  refine V23 E hT (j:=j1) (k:=k1) (by rw [hF]; simp) (by rw [hF]; rfl) rfl (by omega) rfl rfl rfl rfl (by decide) rfl (.inl (by decide)) fun r1 b R1=>?_
  obtain ⟨c1,t1,e1,s1,z1⟩:=Kzv E.hs R1.ty
  refine ⟨_,by rw [e1]; exact Kz1,fun hf lb=>?_,fun hf lb=>?_⟩
  ·have q1:r1.fType=[0]:=by
    split at hf
    ·rename_i h; exact z1 (s1.1 h)
    ·cases hf
   rw [V17 (by rw [hF]; simp),V18 (by rw [hF]; simp)]
   refine V1a E (q:=[0]) (a:=Kxg s n a b) ?_ (by rw [hT]; exact Kzf E.hs R0.bb R1.bb (by omega) (by omega)) (Kxn E.hs R0.bb R1.bb) (by unfold Kxg; rw [List.length_zipWith]; omega)
   rw [hT]
   exact (V1l E.hs R0 R1 hc (by omega)).trans (if_pos ⟨q0,q1⟩)
  ·have q1:¬ r1.fType=[0]:=by
    intro q
    rw [e1] at q
    cases q
    exact hf (if_pos (s1.2 rfl))
   rw [V17 (by rw [hF]; simp)]
   refine V16 (x:=⟨[],[],2,[]⟩) ?_ (by decide)
   rw [hT]
   exact (V1l E.hs R0 R1 hc (by omega)).trans (if_neg fun h=>q1 h.2)
 ·have q0:¬ r0.fType=[0]:=by
   intro q
   rw [e0] at q
   cases q
   exact hf (if_pos (s0.2 rfl))
  refine V24 E hT (j:=j1) (k:=k1) (by rw [hF]; simp) (by rw [hF]; rfl) rfl (by omega) rfl rfl fun r1 b R1 lb=>?_
  rw [V17 (by rw [hF]; simp)]
  refine V16 (x:=⟨[],[],2,[]⟩) ?_ (by decide)
  rw [hT]
  exact (V1l E.hs R0 R1 hc (by omega)).trans (if_neg fun h=>q0 h.1)
theorem V27 (hT:J.fTerm=⟨3,N,ty,ks⟩):V12 s J (Ki6 (s,l,(i:Int),J,[],((0:Nat):Int))) (Kp5 (s,l,(i:Int),J,[],[],[],((0:Nat):Int))):=by
 have hok:=E.jd.ok
 have hfr:=E.fr
 rw [hT] at hok hfr
 obtain ⟨k0,k1,k2,rfl,_,_,_⟩:=nd3 hok (Nat.le_refl _) rfl
 obtain ⟨j0,j1,j2,hF⟩:=V1w hfr
 have hc:=E.jd.cl
 refine V23 E hT (j:=j0) (k:=k0) (by rw [hF]; simp) (by rw [hF]; rfl) rfl (by omega) rfl rfl rfl rfl (by decide) rfl (.inr rfl) fun r0 a R0=>?_
 obtain ⟨c0,t0,e0,s0,z0⟩:=Kzv E.hs R0.ty
 refine ⟨_,by rw [e0]; exact Kz2,fun hf la=>?_,fun hf la=>?_⟩
 ·have q0:r0.fType=[0]:=by
   split at hf
   ·rename_i h; exact z0 (s0.1 h)
   ·cases hf
  refine V1y E hT (j:=j1) (k:=k1) (by rw [hF]; simp) (by rw [hF]; rfl) rfl (by omega) rfl rfl rfl rfl (by decide) rfl (by decide) (fun c r=>Kz0 (.inr (by decide))) fun r1 b R1 lb=>?_
  refine V1y E hT (j:=j2) (k:=k2) (by rw [hF]; simp) (by rw [hF]; rfl) rfl (by omega) rfl rfl rfl rfl (by decide) rfl (by decide) (fun c r=>Kz0 (.inr (by decide))) fun r2 d R2 ld=>?_
  rw [V17 (by rw [hF]; simp),V18 (by rw [hF]; simp)]
  have h1:=Kyj R1.ty
  have h2:=Kyj R2.ty
  have sr:=V1m (N:=N) (ty:=ty) (ks:=[k0,k1,k2]) (ctx:=J.fCtx) E.hs R0 R1 R2 hc (by omega) (by omega)
  have fi:=Kzg (N:=N) (ty:=ty) (ks:=[k0,k1,k2]) (ctx:=J.fCtx) (us:=[Kx3 [],Kx3 [],Kx3 []]) (z:=List.replicate (Int.toNat (J.fCtx.length:Int)) 0) (y0:=V0m r0) (y1:=V0m r1) (y2:=V0m r2) E.hs R0.bb R1.bb R2.bb (by omega) (by omega) (by omega) (by unfold V0m; simp only; omega) (by unfold V0m; simp only; omega)
  have hjb:=Kxp E.hs R1.bb R2.bb
  have hjl:(Kxi s n b d).length=J.fCtx.length:=by unfold Kxi; rw [List.length_zipWith]; omega
  by_cases q1:r1.fType=r2.fType
  ·rw [if_pos ⟨q0,q1⟩] at sr
   rw [if_pos (show (V0m r1).fty=(V0m r2).fty from q1)] at fi
   exact V1a E (by rw [hT]; exact sr) (by rw [hT]; exact fi) (Kxn E.hs R0.bb hjb) (by unfold Kxg; rw [List.length_zipWith]; omega)
  ·rw [if_neg fun h=>q1 h.2] at sr
   rw [if_neg (show ¬ (V0m r1).fty=(V0m r2).fty from q1)] at fi
   exact V15 (by rw [hT]; exact sr) (by decide) (by rw [hT]; exact fi) (by decide)
 ·have q0:¬ r0.fType=[0]:=by
   intro q
   rw [e0] at q
   cases q
   exact hf (if_pos (s0.2 rfl))
  refine V24 E hT (j:=j1) (k:=k1) (by rw [hF]; simp) (by rw [hF]; rfl) rfl (by omega) rfl rfl fun r1 b R1 lb=>?_
  refine V24 E hT (j:=j2) (k:=k2) (by rw [hF]; simp) (by rw [hF]; rfl) rfl (by omega) rfl rfl fun r2 d R2 ld=>?_
  rw [V17 (by rw [hF]; simp)]
  refine V16 (x:=⟨[],[],3,[]⟩) ?_ (by decide)
  rw [hT]
  exact (V1m E.hs R0 R1 R2 hc (by omega) (by omega)).trans (if_neg fun h=>q0 h.1)
end
theorem V28 {l:List Nat} {m:Nat} (h:l.length=2 + m):∃ a b r,l=a :: b :: r∧r.length=m:=by
 match l,h with
 | [],h=>simp at h; omega
 | [x],h=>simp at h; omega
 | a :: b :: r,h=>exact ⟨a,b,r,rfl,by simp at h; omega⟩
theorem V29 {l:List Nat} {m:Nat} (h:l.length=1 + m):∃ a r,l=a :: r∧r.length=m:=by
 match l,h with
 | [],h=>simp at h; omega
 | a :: r,h=>exact ⟨a,r,rfl,by simp at h; omega⟩
section
variable {s:K00} {n:Nat} {l:List K02} {i:Nat} {J:K02} {nj:List Nat} (E:V0k s n l i J nj) {op N:Int} {ty:List Int} {ks:List K01}
include E
theorem V2a (hT:J.fTerm=⟨10,N,ty,ks⟩):V12 s J (Ki6 (s,l,(i:Int),J,[],((0:Nat):Int))) (Kp5 (s,l,(i:Int),J,[],[],[],((0:Nat):Int))):=by
 have hok:=E.jd.ok
 have hfr:=E.fr
 rw [hT] at hok hfr
 obtain ⟨k0,k1,rfl,_,_⟩:=nd2 hok (Nat.le_refl _) rfl
 obtain ⟨j0,j1,hF⟩:=V1v hfr
 have hc:=E.jd.cl
 refine V23 E hT (j:=j0) (k:=k0) (by rw [hF]; simp) (by rw [hF]; rfl) rfl (by omega) rfl rfl rfl rfl (by decide) rfl (.inr rfl) fun r0 a R0=>?_
 obtain ⟨c0,t0,e0,_,_⟩:=Kzv E.hs R0.ty
 have C:=V05 E.hs R0.ty e0
 refine ⟨_,by rw [e0]; exact Kz3,fun hf la=>?_,fun hf la=>?_⟩
 ·have z0:(Ksm c0).1=3:=by
   split at hf
   ·assumption
   ·cases hf
  obtain ⟨g,p,q,hg,h15,hcg,hq,P⟩:=C.arr z0
  subst hcg
  refine V1b E (m:=[]) (j:=j1) (k:=k1) (by rw [hF]; simp) (by rw [hF]; rfl) (by rw [hT]; rfl) (by simp) (fun _ h=>by cases h) (by simp) (by simp) (by simp) (by simp) (by omega) fun r1 b R1=>?_
  obtain ⟨c1,t1,e1,_,_⟩:=Kzv E.hs R1.ty
  have hp:=Kyj P.ya
  have hsame:=Kw8 r1.fType p (by omega)
  have sr:=V1p (N:=N) (ty:=ty) (ks:=[k0,k1]) (ctx:=J.fCtx) E.hs hg h15 hq P R0 R1 hc
  refine ⟨V0l r0,r0.fType,0,!(r1.fType == p),rfl,by rw [hT]; exact V0s rfl,rfl,by rw [hT]; exact Kzo (by decide) rfl,by rw [hT,e1]; exact Kz0 (.inr (by decide)),fun _ _=>?_,fun _ hab lb=>?_,fun hn lb=>?_⟩
  ·unfold V0n
   rw [hT,if_pos (show ((10:Int) == 10)=true by decide),if_pos (by decide),show idx (([] ++ [V0m r0]) ++ [V0m r1]) 0=some (V0m r0) from rfl,bs,show (V0m r0).fty=r0.fType from rfl,hq,P.pp,bs,Kz8,bs,hsame,bs]
  ·have he:r1.fType=p:=by simpa using hab
   have lb':b.length=J.fCtx.length:=by simpa using lb
   have sr:=sr (by omega)
   rw [if_pos he] at sr
   rw [V17 (by rw [hF]; simp),V18 (by rw [hF]; simp)]
   have fi:=Kzk (N:=N) (ty:=ty) (ks:=[k0,k1]) (ctx:=J.fCtx) (us:=[Kx3 [],Kx3 []]) (z:=List.replicate (Int.toNat (J.fCtx.length:Int)) 0) (y0:=V0m r0) (y1:=V0m r1) (a:=a) (b:=b) E.hs hg (p:=p) (q:=q) hq P R0.bb R1.bb (by omega) (by omega)
   refine V1a E (by rw [hT]; exact sr) (by rw [hT]; exact fi) (Kxn E.hs R0.bb (Kxo E.hs hg R1.bb)) ?_
   have:(Kxh s n g b).length=b.length:=by unfold Kxh; rw [List.length_map]
   unfold Kxg; rw [List.length_zipWith]; omega
  ·have he:¬ r1.fType=p:=by
    intro h
    exact hn ⟨rfl,by rw [h]; simp⟩
   have lb':b.length=J.fCtx.length:=by simpa using lb
   have sr:=sr (by omega)
   rw [if_neg he] at sr
   rw [V17 (by rw [hF]; simp)]
   exact V16 (by rw [hT]; exact sr) (by decide)
 ·have w0:Ksf c0=false:=by
   cases h:Ksf c0 with
   | false=>rfl
   | true=>exact absurd (if_pos (C.arrB.1 h)) hf
  refine V24 E hT (j:=j1) (k:=k1) (by rw [hF]; simp) (by rw [hF]; rfl) rfl (by omega) rfl rfl fun r1 b R1 lb=>?_
  rw [V17 (by rw [hF]; simp)]
  refine V16 (x:=⟨[],[],3,[]⟩) ?_ (by decide)
  rw [hT]
  exact V1i e0 w0 hc
theorem V2b (hT:J.fTerm=⟨5,N,ty,ks⟩):V12 s J (Ki6 (s,l,(i:Int),J,[],((0:Nat):Int))) (Kp5 (s,l,(i:Int),J,[],[],[],((0:Nat):Int))):=by
 have hok:=E.jd.ok
 have hfr:=E.fr
 rw [hT] at hok hfr
 obtain ⟨k0,k1,rfl,_,_⟩:=nd2 hok (Nat.le_refl _) rfl
 obtain ⟨j0,j1,hF⟩:=V1v hfr
 obtain ⟨g,hN,hg⟩:=Kys E.hs (Kyu hok rfl)
 simp only at hN
 subst hN
 have hc:=E.jd.cl
 refine V23 E hT (j:=j0) (k:=k0) (by rw [hF]; simp) (by rw [hF]; rfl) rfl (by omega) rfl rfl rfl rfl (by decide) rfl (.inr rfl) fun r0 a R0=>?_
 obtain ⟨c0,t0,e0,_,_⟩:=Kzv E.hs R0.ty
 have C:=V05 E.hs R0.ty e0
 refine ⟨_,by rw [e0]; exact Kz4 E.hs hg,fun hf la=>?_,fun hf la=>?_⟩
 ·have z0:(Ksm c0).1=1∧le s n 1 g=true:=by
   split at hf
   ·split at hf
    ·exact ⟨by assumption,by assumption⟩
    ·cases hf
   ·cases hf
  obtain ⟨p,q,hcg,hq,P⟩:=C.pair z0.1
  subst hcg
  refine V1b E (m:=[q,p]) (j:=j1) (k:=k1) (by rw [hF]; simp) (by rw [hF]; rfl) (by rw [hT]; rfl) (by simp) (fun x h=>by
   rcases List.mem_cons.1 h with rfl | h
   ·exact P.yb
   ·rw [List.mem_singleton.1 h]; exact P.ya) (by simp) (by simp) (by simp) (by simp) (by omega) fun r1 b R1=>?_
  obtain ⟨c1,t1,e1,_,_⟩:=Kzv E.hs R1.ty
  refine ⟨V0l r0,r0.fType,0,false,rfl,by rw [hT,show (V0l r0).fty=r0.fType from rfl,hq]; exact V0u P,rfl,by rw [hT,hq]; exact Kzq P,by rw [hT,e1]; exact Kz0 (.inr (by decide)),fun _ _=>by unfold V0n; rw [hT]; rfl,fun _ _ lb=>?_,fun q=>absurd ⟨rfl,rfl⟩ q⟩
  obtain ⟨u0,u1,v,rfl,hv⟩:=V28 (by simpa using lb)
  have h1:=Kyj R1.ty
  have hvb:Kxj n v:=fun x hx=>R1.bb x (by simp [hx])
  have sr:=V1r (ty:=ty) (ks:=[k0,k1]) (ctx:=J.fCtx) E.hs hg R0 R1 hc la rfl hv
  have fi:=Kzl (ty:=ty) (ks:=[k0,k1]) (ctx:=J.fCtx) (z:=List.replicate (Int.toNat (J.fCtx.length:Int)) 0) (y0:=V0m r0) (y1:=V0m r1) (us':=Kx3 []) (a:=a) (b:=v) E.hs hg (u:=[u0,u1]) (fun x hx=>R1.bb x (by simp at hx ⊢; rcases hx with h | h <;> simp [h])) (by simp) R0.bb hvb (by omega) (by omega) (by unfold V0m; simp only; omega)
  have hal:([u0,u1].all fun x=>le s n x g)=(le s n u0 g && le s n u1 g):=by simp
  rw [hal] at fi
  rw [V17 (by rw [hF]; simp),V18 (by rw [hF]; simp)]
  by_cases hle:(le s n u0 g && le s n u1 g)=true
  ·rw [if_pos hle] at fi
   rw [Bool.and_eq_true] at hle
   rw [if_pos ⟨z0.2,hle.1,hle.2⟩] at sr
   refine V1a E (by rw [hT]; exact sr) (by rw [hT]; exact fi) (Kxn E.hs (Kxo E.hs hg R0.bb) hvb) ?_
   have:(Kxh s n g a).length=a.length:=by unfold Kxh; rw [List.length_map]
   unfold Kxg; rw [List.length_zipWith]; omega
  ·rw [if_neg hle] at fi
   rw [if_neg fun h=>hle (by rw [h.2.1,h.2.2]; rfl)] at sr
   exact V15 (by rw [hT]; exact sr) (by decide) (by rw [hT]; exact fi) (by decide)
 ·by_cases z0:(Ksm c0).1=1
  ·obtain ⟨p,q,hcg,hq,P⟩:=C.pair z0
   have z1:¬ le s n 1 g=true:=fun h=>hf (by rw [if_pos z0,if_pos h])
   subst hcg
   refine V1c E (j:=j1) (k:=k1) (by rw [hF]; simp) (by rw [hF]; rfl) (by rw [hT]; rfl) (by simp) (by omega) fun r1 b R1=>?_
   refine ⟨V0l r0,[q,p],true,rfl,by rw [hT,show (V0l r0).fty=r0.fType from rfl,hq]; exact V0u P,by simp,(fun x h=>by
    rcases List.mem_cons.1 h with rfl | h
    ·exact P.yb
    ·rw [List.mem_singleton.1 h]; exact P.ya),fun _ lb=>?_⟩
   obtain ⟨u0,u1,v,rfl,hv⟩:=V28 (by simpa using lb)
   rw [V17 (by rw [hF]; simp)]
   refine V16 (x:=⟨[],[],9,[]⟩) ?_ (by decide)
   rw [hT]
   exact (V1r E.hs hg R0 R1 hc la rfl hv).trans (if_neg fun h=>z1 h.1)
  ·have h1:c0 ≠ 1:=fun h=>z0 (by rw [h]; decide)
   refine V1c E (j:=j1) (k:=k1) (by rw [hF]; simp) (by rw [hF]; rfl) (by rw [hT]; rfl) (by simp) (by omega) fun r1 b R1=>?_
   exact ⟨V0l r0,[],false,rfl,by rw [hT,show (V0l r0).fty=r0.fType from rfl,e0]; exact V0v h1,by simp,(fun _ h=>by cases h),fun h=>by cases h⟩
theorem V2c (hT:J.fTerm=⟨12,N,ty,ks⟩):V12 s J (Ki6 (s,l,(i:Int),J,[],((0:Nat):Int))) (Kp5 (s,l,(i:Int),J,[],[],[],((0:Nat):Int))):=by
 have hok:=E.jd.ok
 have hfr:=E.fr
 rw [hT] at hok hfr
 obtain ⟨k0,k1,rfl,_,_⟩:=nd2 hok (Nat.le_refl _) rfl
 obtain ⟨j0,j1,hF⟩:=V1v hfr
 obtain ⟨g,hN,hg⟩:=Kys E.hs (Kyu hok rfl)
 simp only at hN
 subst hN
 have hc:=E.jd.cl
 refine V23 E hT (j:=j0) (k:=k0) (by rw [hF]; simp) (by rw [hF]; rfl) rfl (by omega) rfl rfl rfl rfl (by decide) rfl (.inr rfl) fun r0 a R0=>?_
 obtain ⟨c0,t0,e0,_,_⟩:=Kzv E.hs R0.ty
 have C:=V05 E.hs R0.ty e0
 refine ⟨_,by rw [e0]; exact Kz6 E.hs hg,fun hf la=>?_,fun hf la=>?_⟩
 ·have z0:(Ksm c0).1=4∧le s n 1 g=true:=by
   split at hf
   ·split at hf
    ·exact ⟨by assumption,by assumption⟩
    ·cases hf
   ·cases hf
  obtain ⟨m,p,hm,h15,hcg,hq,P⟩:=C.box z0.1
  subst hcg
  refine V1b E (m:=[p]) (j:=j1) (k:=k1) (by rw [hF]; simp) (by rw [hF]; rfl) (by rw [hT]; rfl) (by simp) (fun x h=>by rw [List.mem_singleton.1 h]; exact P.ya) (by simp) (by simp) (by simp) (by simp) (by omega) fun r1 b R1=>?_
  obtain ⟨c1,t1,e1,_,_⟩:=Kzv E.hs R1.ty
  refine ⟨V0l r0,r0.fType,0,false,rfl,by rw [hT,show (V0l r0).fty=r0.fType from rfl,hq]; exact V0y (V01 m h15) P,rfl,by rw [hT,hq]; exact Kzt P,by rw [hT,e1]; exact Kz0 (.inr (by decide)),fun _ _=>by unfold V0n; rw [hT]; rfl,fun _ _ lb=>?_,fun q=>absurd ⟨rfl,rfl⟩ q⟩
  obtain ⟨u0,v,rfl,hv⟩:=V29 (by simpa using lb)
  have h1:=Kyj R1.ty
  have hvb:Kxj n v:=fun x hx=>R1.bb x (by simp [hx])
  have sr:=V1s (ty:=ty) (ks:=[k0,k1]) (ctx:=J.fCtx) E.hs hg hm h15 hq R0 R1 hc la rfl hv
  have fi:=Kzm (ty:=ty) (ks:=[k0,k1]) (ctx:=J.fCtx) (z:=List.replicate (Int.toNat (J.fCtx.length:Int)) 0) (y0:=V0m r0) (y1:=V0m r1) (us':=Kx3 []) (a:=a) (b:=v) E.hs hg hm hq (u:=[u0]) (fun x hx=>R1.bb x (by simp at hx ⊢; simp [hx])) (by simp) R0.bb hvb (by omega) (by omega) (by unfold V0m; simp only; omega)
  have hal:([u0].all fun x=>le s n x (ti s n g m))=le s n u0 (ti s n g m):=by simp
  rw [hal] at fi
  rw [V17 (by rw [hF]; simp),V18 (by rw [hF]; simp)]
  by_cases hle:le s n u0 (ti s n g m)=true
  ·rw [if_pos hle] at fi
   rw [if_pos ⟨z0.2,hle⟩] at sr
   refine V1a E (by rw [hT]; exact sr) (by rw [hT]; exact fi) (Kxn E.hs (Kxo E.hs hg R0.bb) hvb) ?_
   have:(Kxh s n g a).length=a.length:=by unfold Kxh; rw [List.length_map]
   unfold Kxg; rw [List.length_zipWith]; omega
  ·rw [if_neg hle] at fi
   rw [if_neg fun h=>hle h.2] at sr
   exact V15 (by rw [hT]; exact sr) (by decide) (by rw [hT]; exact fi) (by decide)
 ·by_cases z0:(Ksm c0).1=4
  ·obtain ⟨m,p,hm,h15,hcg,hq,P⟩:=C.box z0
   have z1:¬ le s n 1 g=true:=fun h=>hf (by rw [if_pos z0,if_pos h])
   subst hcg
   refine V1c E (j:=j1) (k:=k1) (by rw [hF]; simp) (by rw [hF]; rfl) (by rw [hT]; rfl) (by simp) (by omega) fun r1 b R1=>?_
   refine ⟨V0l r0,[p],true,rfl,by rw [hT,show (V0l r0).fty=r0.fType from rfl,hq]; exact V0y (V01 m h15) P,by simp,(fun x h=>by rw [List.mem_singleton.1 h]; exact P.ya),fun _ lb=>?_⟩
   obtain ⟨u0,v,rfl,hv⟩:=V29 (by simpa using lb)
   rw [V17 (by rw [hF]; simp)]
   refine V16 (x:=⟨[],[],9,[]⟩) ?_ (by decide)
   rw [hT]
   exact (V1s E.hs hg hm h15 hq R0 R1 hc la rfl hv).trans (if_neg fun h=>z1 h.1)
  ·have h1:Ksg c0=false:=by
    cases h:Ksg c0 with
    | false=>rfl
    | true=>exact absurd (C.boxB.1 h) z0
   refine V1c E (j:=j1) (k:=k1) (by rw [hF]; simp) (by rw [hF]; rfl) (by rw [hT]; rfl) (by simp) (by omega) fun r1 b R1=>?_
   exact ⟨V0l r0,[],false,rfl,by rw [hT,show (V0l r0).fty=r0.fType from rfl,e0]; exact V0z h1,by simp,(fun _ h=>by cases h),fun h=>by cases h⟩
theorem V2d (hT:J.fTerm=⟨8,N,ty,ks⟩):V12 s J (Ki6 (s,l,(i:Int),J,[],((0:Nat):Int))) (Kp5 (s,l,(i:Int),J,[],[],[],((0:Nat):Int))):=by
 have hok:=E.jd.ok
 have hfr:=E.fr
 rw [hT] at hok hfr
 obtain ⟨k0,k1,k2,rfl,_,_,_⟩:=nd3 hok (Nat.le_refl _) rfl
 obtain ⟨j0,j1,j2,hF⟩:=V1w hfr
 obtain ⟨g,hN,hg⟩:=Kys E.hs (Kyu hok rfl)
 simp only at hN
 subst hN
 have hc:=E.jd.cl
 refine V23 E hT (j:=j0) (k:=k0) (by rw [hF]; simp) (by rw [hF]; rfl) rfl (by omega) rfl rfl rfl rfl (by decide) rfl (.inr rfl) fun r0 a R0=>?_
 obtain ⟨c0,t0,e0,_,_⟩:=Kzv E.hs R0.ty
 have C:=V05 E.hs R0.ty e0
 refine ⟨_,by rw [e0]; exact Kz5 E.hs hg,fun hf la=>?_,fun hf la=>?_⟩
 ·have z0:(Ksm c0).1=2∧le s n 1 g=true:=by
   split at hf
   ·split at hf
    ·exact ⟨by assumption,by assumption⟩
    ·cases hf
   ·cases hf
  obtain ⟨p,q,hcg,hq,P⟩:=C.sum z0.1
  subst hcg
  refine V1b E (m:=[p]) (j:=j1) (k:=k1) (by rw [hF]; simp) (by rw [hF]; rfl) (by rw [hT]; rfl) (by simp) (fun x h=>by rw [List.mem_singleton.1 h]; exact P.ya) (by simp) (by simp) (by simp) (by simp) (by omega) fun r1 b R1=>?_
  obtain ⟨c1,t1,e1,_,_⟩:=Kzv E.hs R1.ty
  refine ⟨V0l r0,r0.fType,0,false,rfl,by rw [hT,show (V0l r0).fty=r0.fType from rfl,hq]; exact (V0w P).1,rfl,by rw [hT,hq]; exact Kzr P,by rw [hT,e1]; exact Kz0 (.inr (by decide)),fun _ _=>by unfold V0n; rw [hT]; rfl,fun _ _ lb=>?_,fun q=>absurd ⟨rfl,rfl⟩ q⟩
  obtain ⟨u0,u,rfl,hu⟩:=V29 (by simpa using lb)
  refine V1b E (m:=[q]) (j:=j2) (k:=k2) (by rw [hF]; simp) (by rw [hF]; rfl) (by rw [hT]; rfl) (by simp) (fun x h=>by rw [List.mem_singleton.1 h]; exact P.yb) (by simp) (by simp) (by simp) (by simp) (by omega) fun r2 d R2=>?_
  obtain ⟨c2,t2,e2,_,_⟩:=Kzv E.hs R2.ty
  refine ⟨V0l r0,r0.fType,0,false,rfl,by rw [hT,show (V0l r0).fty=r0.fType from rfl,hq]; exact (V0w P).2,rfl,by rw [hT,hq]; exact Kzs P,by rw [hT,e2]; exact Kz0 (.inr (by decide)),fun _ _=>by unfold V0n; rw [hT]; rfl,fun _ _ ld=>?_,fun q=>absurd ⟨rfl,rfl⟩ q⟩
  obtain ⟨v0,v,rfl,hv⟩:=V29 (by simpa using ld)
  have h1:=Kyj R1.ty
  have h2:=Kyj R2.ty
  have hub:Kxj n u:=fun x hx=>R1.bb x (by simp [hx])
  have hvb:Kxj n v:=fun x hx=>R2.bb x (by simp [hx])
  have hjb:=Kxp E.hs hub hvb
  have hjl:(Kxi s n u v).length=J.fCtx.length:=by unfold Kxi; rw [List.length_zipWith]; omega
  have sr:=V1t (ty:=ty) (ks:=[k0,k1,k2]) (ctx:=J.fCtx) E.hs hg R0 R1 R2 hc la rfl rfl hu hv
  have fi:=Kzn (ty:=ty) (ks:=[k0,k1,k2]) (ctx:=J.fCtx) (z:=List.replicate (Int.toNat (J.fCtx.length:Int)) 0) (y0:=V0m r0) (y1:=V0m r1) (y2:=V0m r2) (us':=Kx3 []) (a:=a) (b:=u) (d:=v) E.hs hg (u:=[u0]) (v:=[v0]) (fun x hx=>R1.bb x (by simp at hx ⊢; simp [hx])) (by simp) (fun x hx=>R2.bb x (by simp at hx ⊢; simp [hx])) (by simp) R0.bb hub hvb (by omega) (by omega) (by omega) (by unfold V0m; simp only; omega) (by unfold V0m; simp only; omega)
  have hal:([u0].all fun x=>le s n x g)=le s n u0 g:=by simp
  have hal2:([v0].all fun x=>le s n x g)=le s n v0 g:=by simp
  rw [hal,hal2] at fi
  rw [V17 (by rw [hF]; simp),V18 (by rw [hF]; simp)]
  by_cases he:r1.fType=r2.fType
  ·rw [if_pos (show (V0m r1).fty=(V0m r2).fty from he)] at fi
   by_cases hle:le s n u0 g=true∧le s n v0 g=true
   ·rw [if_pos hle] at fi
    rw [if_pos ⟨he,hle.2⟩,if_pos ⟨z0.2,hle.1⟩,← he] at sr
    refine V1a E (by rw [hT]; exact sr) (by rw [hT]; exact fi) (Kxn E.hs (Kxo E.hs hg R0.bb) hjb) ?_
    have:(Kxh s n g a).length=a.length:=by unfold Kxh; rw [List.length_map]
    unfold Kxg; rw [List.length_zipWith]; omega
   ·rw [if_neg hle] at fi
    by_cases hv0:le s n v0 g=true
    ·rw [if_pos ⟨he,hv0⟩,if_neg fun h=>hle ⟨h.2,hv0⟩] at sr
     exact V15 (by rw [hT]; exact sr) (by decide) (by rw [hT]; exact fi) (by decide)
    ·rw [if_neg fun h=>hv0 h.2] at sr
     exact V15 (by rw [hT]; exact sr) (by decide) (by rw [hT]; exact fi) (by decide)
  ·rw [if_neg (show ¬ (V0m r1).fty=(V0m r2).fty from he)] at fi
   rw [if_neg fun h=>he h.1] at sr
   exact V15 (by rw [hT]; exact sr) (by decide) (by rw [hT]; exact fi) (by decide)
 ·by_cases z0:(Ksm c0).1=2
  ·obtain ⟨p,q,hcg,hq,P⟩:=C.sum z0
   have z1:¬ le s n 1 g=true:=fun h=>hf (by rw [if_pos z0,if_pos h])
   subst hcg
   refine V1c E (j:=j1) (k:=k1) (by rw [hF]; simp) (by rw [hF]; rfl) (by rw [hT]; rfl) (by simp) (by omega) fun r1 b R1=>?_
   refine ⟨V0l r0,[p],true,rfl,by rw [hT,show (V0l r0).fty=r0.fType from rfl,hq]; exact (V0w P).1,by simp,(fun x h=>by rw [List.mem_singleton.1 h]; exact P.ya),fun _ lb=>?_⟩
   obtain ⟨u0,u,rfl,hu⟩:=V29 (by simpa using lb)
   refine V1c E (j:=j2) (k:=k2) (by rw [hF]; simp) (by rw [hF]; rfl) (by rw [hT]; rfl) (by simp) (by omega) fun r2 d R2=>?_
   refine ⟨V0l r0,[q],true,rfl,by rw [hT,show (V0l r0).fty=r0.fType from rfl,hq]; exact (V0w P).2,by simp,(fun x h=>by rw [List.mem_singleton.1 h]; exact P.yb),fun _ ld=>?_⟩
   obtain ⟨v0,v,rfl,hv⟩:=V29 (by simpa using ld)
   rw [V17 (by rw [hF]; simp)]
   have sr:=V1t (ty:=ty) (ks:=[k0,k1,k2]) (ctx:=J.fCtx) E.hs hg R0 R1 R2 hc la rfl rfl hu hv
   by_cases h:r1.fType=r2.fType∧le s n v0 g=true
   ·rw [if_pos h,if_neg fun h=>z1 h.1] at sr
    exact V16 (by rw [hT]; exact sr) (by decide)
   ·rw [if_neg h] at sr
    exact V16 (by rw [hT]; exact sr) (by decide)
  ·have h1:c0 ≠ 2:=fun h=>z0 (by rw [h]; decide)
   refine V1c E (j:=j1) (k:=k1) (by rw [hF]; simp) (by rw [hF]; rfl) (by rw [hT]; rfl) (by simp) (by omega) fun r1 b R1=>?_
   exact ⟨V0l r0,[],false,rfl,by rw [hT,show (V0l r0).fty=r0.fType from rfl,e0]; exact V0x h1,by simp,(fun _ h=>by cases h),fun h=>by cases h⟩
theorem V2e (hT:J.fTerm=⟨0,N,ty,ks⟩):V12 s J (Ki6 (s,l,(i:Int),J,[],((0:Nat):Int))) (Kp5 (s,l,(i:Int),J,[],[],[],((0:Nat):Int))):=by
 have hok:=E.jd.ok
 have hfr:=E.fr
 rw [hT] at hok hfr
 obtain ⟨v,hN,hl,hk⟩:=Kyw hok rfl
 simp only at hN hk
 subst hN; subst hk
 have hc:=E.jd.cl
 have hq:J.fCtx[v]?=some J.fCtx[v]:=List.getElem?_eq_getElem hl
 have hy:=Kyj (E.jd.cx J.fCtx[v] (List.getElem_mem hl))
 have e1:idx J.fCtx (v:Int)=some J.fCtx[v]:=Kqx hl
 have hz:=Ky6 J.fCtx.length (by omega)
 have e2:idx (Kx3 (List.replicate J.fCtx.length 0)) (v:Int)=some (((List.replicate J.fCtx.length (0:Nat))[v]'(by simpa using hl):Nat):Int):=by
  rw [Kqx (by rw [Kx4]; simpa using hl)]; simp [Kx3]
 have e3:List.set (Kx3 (List.replicate J.fCtx.length 0)) v 1=Kx3 ((List.replicate J.fCtx.length 0).set v 1):=by unfold Kx3; rw [List.map_set]; rfl
 have e4:List.replicate (Int.toNat (J.fCtx.length:Int)) (0:Int)=Kx3 (List.replicate J.fCtx.length 0):=by simp [Kx3]
 have hn:J.fFrom.length=0:=by simpa using hfr
 rw [V17 (by omega),V18 (by omega)]
 refine V1a E (q:=J.fCtx[v]) (a:=(List.replicate J.fCtx.length 0).set v 1) ?_ ?_ ?_ (by simp)
 ·rw [hT,Kzu,if_neg (by omega)]
  unfold Khr
  simp only
  rw [Kh8.eq_def]
  simp [hz,e1,e2,Kuh J.fCtx[v] (by omega),e3]
 ·rw [hT,e4]
  exact Kzb hq (by simpa using hl) hy
 ·intro x hx
  have h1:=Kxa E.hs
  rcases List.mem_or_eq_of_mem_set hx with h | rfl
  ·rw [List.eq_of_mem_replicate h]; omega
  ·exact h1
theorem V2f (hT:J.fTerm=⟨1,N,ty,ks⟩):V12 s J (Ki6 (s,l,(i:Int),J,[],((0:Nat):Int))) (Kp5 (s,l,(i:Int),J,[],[],[],((0:Nat):Int))):=by
 have hok:=E.jd.ok
 have hfr:=E.fr
 rw [hT] at hok hfr
 have hk:=Kyx hok rfl
 simp only at hk
 subst hk
 have hc:=E.jd.cl
 have hz:=Ky6 J.fCtx.length (by omega)
 have e4:List.replicate (Int.toNat (J.fCtx.length:Int)) (0:Int)=Kx3 (List.replicate J.fCtx.length 0):=by simp [Kx3]
 have hn:J.fFrom.length=0:=by simpa using hfr
 rw [V17 (by omega),V18 (by omega)]
 refine V1a E (q:=[0]) (a:=List.replicate J.fCtx.length 0) ?_ ?_ ?_ (by simp)
 ·rw [hT,Kzu,if_neg (by decide)]
  unfold Khr
  simp only
  rw [Kh8.eq_def]
  simp [hz]
 ·rw [hT,e4]
  exact Kzc
 ·intro x hx
  rw [List.eq_of_mem_replicate hx]
  exact Kxb E.hs
theorem V2g:V12 s J (Ki6 (s,l,(i:Int),J,[],((0:Nat):Int))) (Kp5 (s,l,(i:Int),J,[],[],[],((0:Nat):Int))):=by
 have hop:=(Kug (Kue E.jd.ok).1).1
 generalize hT:J.fTerm=t at hop
 obtain ⟨op,N,ty,ks⟩:=t
 simp only at hop
 rcases Ktl hop with rfl | rfl | rfl | rfl | rfl | rfl | rfl | rfl | rfl | rfl | rfl | rfl | rfl
 ·exact V2e E hT
 ·exact V2f E hT
 ·exact V26 E hT
 ·exact V27 E hT
 ·exact V1z E hT
 ·exact V2b E hT
 ·exact V20 E hT
 ·exact V21 E hT
 ·exact V2d E hT
 ·exact V25 E hT
 ·exact V2a E hT
 ·exact V22 E hT
 ·exact V2c E hT
end
def jct:List K02→Nat
 | []=>0
 | x :: l=>jms x + jct l
def V2h (l:List K02):Nat:=l.length + jct l
theorem V2i {l:List K02} {r:K02} (h:r ∈ l):jms r ≤ jct l:=by
 induction l with
 | nil=>cases h
 | cons x l ih =>
  rw [jct]
  rcases List.mem_cons.1 h with rfl | h
  ·omega
  ·have:=ih h; omega
theorem V2j:∀ (l a:List K02) (i left:Nat),a.drop i=l→a.length ≤ 9223372036854775807→(∀ v ∈ l,jln v)→left ≤ 1048576→Ka5 (a,(left:Int),(i:Int))=some (if left < jct l then .inr (-1) else .inl ((left - jct l:Nat):Int)):=by
 intro l
 induction l with
 | nil =>
  intro a i left hd ha hl hf
  rw [Ka5.eq_def]
  simp only
  rw [Kr0 (Kse hd)]; simp [jct]
 | cons x l ih =>
  intro a i left hd ha hl hf
  obtain ⟨hi,hx,hd'⟩:=Ksd hd
  rw [Ka5.eq_def]
  simp only
  rw [Kqz hi,if_pos rfl,hx,bs,Kwn x _ (hl x List.mem_cons_self) (by omega) (by omega),bs,jct,Kqy (by omega)]
  rcases Ku4 left (jms x) with ⟨e,q⟩ | ⟨e,q⟩
  ·rw [e,decide_eq_true (by decide),if_pos rfl,if_pos (by omega)]
  ·rw [e,decide_eq_false (by omega),if_neg (by decide),show (left:Int) - (jms x:Int)=((left - jms x:Nat):Int) by omega,ih a (i + 1) (left - jms x) hd' ha (fun v hv=>hl v (List.mem_cons_of_mem _ hv)) (by omega)]
   by_cases q2:left - jms x < jct l
   ·rw [if_pos q2,if_pos (by omega)]
   ·rw [if_neg q2,if_neg (by omega)]; congr 3; omega
theorem V2k (a:List K02) (left:Int) (ha:a.length ≤ 9223372036854775807∧∀ v ∈ a,jln v) (h1:0 ≤ left) (h2:left ≤ 1048576):Ka8 (a,left)=some (szB left (V2h a)):=by
 have hl:=ha.1
 unfold Ka8 V2h
 simp only
 rw [Kqw (by omega) (by omega)]
 by_cases h3:left - (a.length:Int) < 0
 ·rw [decide_eq_true h3,if_pos rfl]; unfold szB; rw [if_pos (by omega)]
 ·obtain ⟨m,hm⟩:∃ m:Nat,left - (a.length:Int)=(m:Int):=⟨(left - (a.length:Int)).toNat,by omega⟩
  have h:=V2j a a 0 m rfl hl ha.2 (by omega)
  rw [show ((0:Nat):Int)=0 from rfl] at h
  rw [decide_eq_false h3,if_neg (by decide),hm,h,bs]
  unfold szB
  by_cases q:m < jct a
  ·rw [if_pos q,if_pos (by omega)]
  ·rw [if_neg q,if_neg (by omega)]; simp only; congr 1; omega
theorem V2l:∀ (l a out:List K02) (i:Nat),a.drop i=l→a.length ≤ 1099511627776→jct l ≤ 1099511627776→out.length=a.length→out.take i=a.take i→Kbe (a,out,(i:Int))=some a:=by
 intro l
 induction l with
 | nil =>
  intro a out i hd ha hl ho ht
  rw [Kbe.eq_def]
  simp only
  have hle:=Kse hd
  rw [Kr0 hle]
  rw [List.take_of_length_le (by omega),List.take_of_length_le (by omega)] at ht
  simp [ht]
 | cons x l ih =>
  intro a out i hd ha hl ho ht
  obtain ⟨hi,hx,hd'⟩:=Ksd hd
  have hk:a[i]=x:=by rw [Kqx hi] at hx; exact Option.some.inj hx
  rw [jct] at hl
  rw [Kbe.eq_def]
  simp only
  rw [Kqz hi,if_pos rfl,hx,bs,Kwo x (by omega),bs,Kqx (by omega),bs,Kqy (by omega),Int.toNat_natCast]
  exact ih a _ (i + 1) hd' ha (by omega) (by simpa using ho) (by rw [← hk]; exact Kr1 ho hi ht)
theorem V2m (a:List K02) (h:V2h a ≤ 137438953472):Kbj a=some a:=by
 unfold V2h at h
 unfold Kbj
 have:chk (0 ≤ (a.length:Int)∧(Int.toNat (a.length:Int)) * 160 ≤ 140737488355328)=some ():=by
  unfold chk; rw [if_pos]; refine ⟨by omega,?_⟩; rw [Int.toNat_natCast]; omega
 have h0:=V2l a a (List.replicate a.length ⟨[],[],⟨0,0,[],[]⟩,[],[]⟩) 0 rfl (by omega) (by omega) (by simp) rfl
 rw [show ((0:Nat):Int)=0 from rfl] at h0
 rw [this,bs,Int.toNat_natCast,h0,bs]
theorem V2n:∀ (l a:List K02) (i:Nat),a.drop i=l→a.length ≤ 1099511627776→jct l ≤ 1099511627776→Kqn (a,a,(i:Int))=some (.inl ()):=by
 intro l
 induction l with
 | nil =>
  intro a i hd ha hl
  rw [Kqn.eq_def]
  simp only
  rw [Kr0 (Kse hd)]; rfl
 | cons x l ih =>
  intro a i hd ha hl
  obtain ⟨hi,hx,hd'⟩:=Ksd hd
  rw [jct] at hl
  rw [Kqn.eq_def]
  simp only
  rw [Kqz hi,if_pos rfl,hx,bs,bs,Kwp x (by omega),bs,if_pos rfl,Kqy (by omega)]
  exact ih a (i + 1) hd' ha (by omega)
theorem V2o (a:List K02) (h:V2h a ≤ 1099511627776):Kqq (a,a)=some true:=by
 unfold V2h at h
 unfold Kqq
 simp only
 have h0:=V2n a a 0 rfl (by omega) (by omega)
 rw [show ((0:Nat):Int)=0 from rfl] at h0
 rw [Kr6,if_neg (by decide),h0,bs]
theorem V2p {s:K00} {l:List K02} (sy:Kut s=true) (hz:sms s ≤ 1048576) (hl:V2h l ≤ 1048576) (hj:∀ v ∈ l,jln v) {i:Nat} (hi:i < l.length):∃ b,Ki9 (s,l,(i:Int))=some b∧Kpc (s,l,(i:Int))=some b:=by
 unfold V2h at hl
 have hr:idx l (i:Int)=some l[i]:=Kqx hi
 have hmem:l[i] ∈ l:=List.getElem_mem hi
 generalize l[i]=J at hr hmem
 have m1:=V2i hmem
 have m1':=m1
 unfold jms at m1'
 have s1:=V0j sy J (by omega)
 have i1:=Kwz s J (by omega)
 have hw:wr ((l.length:Int) - 1)=(l.length:Int) - 1:=Kqw (by omega) (by omega)
 have hb:inB (i:Int) 0 (wr ((l.length:Int) - 1))=true:=by
  rw [hw]; unfold inB
  rw [decide_eq_true (by omega),decide_eq_true (by omega)]; rfl
 unfold Ki9 Kpc
 simp only [sIn,bs,hb,if_true,hr,s1,i1]
 cases hg:Kwx s J with
 | false=>exact ⟨false,rfl,rfl⟩
 | true =>
  simp only [if_true,bs]
  by_cases hf:J.fFrom.length=J.fTerm.fKids.length
  ·obtain ⟨ns,R⟩:=V0h (Kx9 sy) hg
   have E:V0k s s.fSize.toNat l i J ns:={ hs:=Kx9 sy,sy:=sy,hz:=hz,hl:=fun r h=>⟨by have:=V2i h; omega,hj r h⟩,ln:=by omega,hi:=hi,hJ:=hr,jd:=R,fr:=hf,tm:=by omega }
   obtain ⟨v,h1,h2⟩:=V2g E
   have hc:=R.cl
   refine ⟨v,?_,?_⟩
   ·rw [show ((J.fFrom.length:Int) != (J.fTerm.fKids.length:Int))=false by rw [hf]; exact Kr6,if_neg (by decide)]
    exact h1
   ·rw [show ((J.fFrom.length:Int) != (J.fTerm.fKids.length:Int))=false by rw [hf]; exact Kr6,if_neg (by decide),Kw3 ⟨by omega,by rw [Int.toNat_natCast]; omega⟩,bs]
    exact h2
  ·rw [bne_iff_ne.2 (by omega)]
   exact ⟨false,rfl,rfl⟩
theorem V2q {s:K00} {l:List K02} (sy:Kut s=false) (hz:sms s ≤ 1048576) (hl:V2h l ≤ 1048576) (hj:∀ v ∈ l,jln v) {i:Nat} (hi:i < l.length):Ki9 (s,l,(i:Int))=some false:=by
 unfold V2h at hl
 have hr:idx l (i:Int)=some l[i]:=Kqx hi
 have hmem:l[i] ∈ l:=List.getElem_mem hi
 generalize l[i]=J at hr hmem
 have m1:=V2i hmem
 have w1:=V0i s J (by omega)
 rw [sy,Bool.false_and] at w1
 have hw:wr ((l.length:Int) - 1)=(l.length:Int) - 1:=Kqw (by omega) (by omega)
 have hb:inB (i:Int) 0 (wr ((l.length:Int) - 1))=true:=by
  rw [hw]; unfold inB
  rw [decide_eq_true (by omega),decide_eq_true (by omega)]; rfl
 unfold Ki9
 simp only [sIn,bs,hb,if_true,hr,w1]
 rfl
theorem V2r (x0:K00) (x1:List K02) (x2:Int) (b0:sms x0 ≤ 1048576) (b1:V2h x1 ≤ 1048576) (h1:x1.length ≤ 9223372036854775807∧∀ v ∈ x1,jln v) (h2:-9223372036854775808 ≤ x2∧x2 ≤ 9223372036854775807) :
  ∃ w0,Ki9 (x0,x1,x2)=some w0∧Kpf (x0,x1,x2)=some w0:=by
 have b1':=b1
 unfold V2h at b1'
 have hw:wr ((x1.length:Int) - 1)=(x1.length:Int) - 1:=Kqw (by omega) (by omega)
 cases hb:inB x2 0 (wr ((x1.length:Int) - 1)) with
 | false =>
  unfold Ki9 Kpf
  simp only [sIn,iIn,bs,hb]
  exact ⟨false,rfl,rfl⟩
 | true =>
  have hb':=hb
  rw [hw] at hb'
  unfold inB at hb'
  simp only [Bool.and_eq_true,decide_eq_true_eq] at hb'
  obtain ⟨i,rfl⟩:∃ i:Nat,x2=(i:Int):=⟨x2.toNat,by omega⟩
  cases sy:Kut x0 with
  | false =>
   refine ⟨false,V2q sy b0 b1 h1.2 (by omega),?_⟩
   unfold Kpf
   simp only [iIn,bs,hb,Kuw,sy]
   rfl
  | true =>
   obtain ⟨b,q1,q2⟩:=V2p sy b0 b1 h1.2 (i:=i) (by omega)
   refine ⟨b,q1,?_⟩
   unfold Kpf
   simp only [iIn,bs,hb,Kuw,sy,if_true,q2]
theorem V2s (x0:K00) (x1:List K02) (x2:Int) (hx0:sln x0) (hx1:(x1.length ≤ 9223372036854775807∧∀ v ∈ x1,jln v)) (hx2:(-9223372036854775808 ≤ x2∧x2 ≤ 9223372036854775807)):Kqt (x0,x1,x2)=some true:=by
 unfold Kqt
 simp only
 rw [Kvr x0 (1048576) hx0 (by omega) (by omega),bs]
 rcases Ku4 (1048576) (sms x0) with ⟨e0,l0⟩ | ⟨e0,l0⟩
 ·rw [e0]; rfl
 ·rw [e0,decide_eq_false (by omega),if_neg (by decide)]
  rw [V2k x1 (1048576 - (sms x0:Int)) hx1 (by omega) (by omega),bs]
  rcases Ku4 (1048576 - (sms x0:Int)) (V2h x1) with ⟨e1,l1⟩ | ⟨e1,l1⟩
  ·rw [e1]; rfl
  ·rw [e1,decide_eq_false (by omega),if_neg (by decide)]
   have bx0:sms x0 ≤ 1048576:=by omega
   have bx1:V2h x1 ≤ 1048576:=by omega
   obtain ⟨w0,s1,s2⟩:=V2r x0 x1 x2 bx0 bx1 hx1 hx2
   simp only [s1,s2,bs,Kvs (s:=x0) (by omega),Kvt (s:=x0) (by omega),V2m x1 (by omega),V2o x1 (by omega),Kvw,if_true,if_false,Bool.false_eq_true,Kr6,Bool.not_true,Bool.not_false,Kw0,beq_self_eq_true]
end Go.Am
