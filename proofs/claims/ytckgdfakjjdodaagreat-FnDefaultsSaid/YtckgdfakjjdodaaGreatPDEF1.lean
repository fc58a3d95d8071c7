/- Plain laws of the printed functions. -/
import Derived.Test.YtckgdfakjjdodaaGreatPDEF0
set_option linter.unusedSimpArgs false
set_option linter.unusedVariables false
namespace Go.Am
def Kte (l:List Nat):List Int:=l.map fun x:Nat=>(x:Int)
theorem Ktf (l:List Nat):(Kte l).length=l.length:=List.length_map ..
theorem Ktg (l:List Nat) (i:Nat):(Kte l).drop i=Kte (l.drop i):=(List.map_drop ..).symm
theorem Kth (l:List Nat) (i:Nat):(Kte l).take i=Kte (l.take i):=(List.map_take ..).symm
theorem Kti {l r:List Nat} {x i:Nat} (h:l.drop i=x :: r):i < l.length∧idx (Kte l) (i:Int)=some (x:Int)∧l.drop (i + 1)=r:=by
 have h2:(Kte l).drop i=(x:Int) :: Kte r:=by rw [Ktg,h]; rfl
 obtain ⟨q1,q2,q3⟩:=Ko5 h2
 rw [Ktf] at q1
 refine ⟨q1,q2,?_⟩
 rw [← List.drop_drop,h]
 rfl
structure Ktj (s:K00) (n:Nat):Prop where
 tab:Tab s n
 one:∀ a,a < n→Kni s n a=true
 two:∀ a b,a < n→b < n→Knv s n a b=true
theorem Ktk {s:K00} (h:Kqc s=true):Ktj s s.fSize.toNat:=by
 have ht:=Kqd h
 unfold Kqc at h
 simp only [Bool.and_eq_true] at h
 have hm:=h.2
 unfold Kny at hm
 rw [List.all_eq_true] at hm
 refine ⟨ht,fun a ha=>?_,fun a b ha hb=>?_⟩
 ·have:=hm a (by rw [List.mem_range'_1]; omega)
  simp only [Bool.and_eq_true] at this
  exact this.1
 ·have:=hm a (by rw [List.mem_range'_1]; omega)
  simp only [Bool.and_eq_true,List.all_eq_true] at this
  exact (this.2 b (by rw [List.mem_range'_1]; omega)).1
section
variable {s:K00} {n:Nat} (hs:Ktj s n)
include hs
theorem Ktl:1 < n:=by have:=hs.tab.lo; omega
theorem Ktm:0 < n:=by have:=hs.tab.lo; omega
theorem Ktn {a:Nat} (ha:a < n):pl s n 0 a=a:=by
 have:=hs.one a ha
 simp only [Kni,Bool.and_eq_true,beq_iff_eq] at this
 exact this.1.1.1.1.1
theorem Kto {a:Nat} (ha:a < n):ti s n 1 a=a:=by
 have:=hs.one a ha
 simp only [Kni,Bool.and_eq_true,beq_iff_eq] at this
 exact this.1.1.1.1.2
def Ktp (s:K00) (n a b:Nat):Nat:=(Kno s n a b).toNat
theorem Ktq {a b:Nat} (ha:a < n) (hb:b < n):Kno s n a b=((Ktp s n a b:Nat):Int)∧Ktp s n a b < n:=by
 have h:=hs.two a b ha hb
 simp only [Knv,Bool.and_eq_true,decide_eq_true_eq] at h
 have h0:=h.2
 unfold Ktp
 refine ⟨by omega,?_⟩
 unfold Kno at h0 ⊢
 cases hf:(List.range' 0 n).find? (jok s n a b) with
 | none=>rw [hf] at h0; exact absurd h0 (by decide)
 | some g =>
  have:=List.mem_of_find?_eq_some hf
  rw [List.mem_range'_1] at this
  simp only [Int.toNat_natCast]
  omega
end
def Ktr (s:K00) (n:Nat) (a b:List Nat):List Nat:=List.zipWith (pl s n) a b
def Kts (s:K00) (n g:Nat) (a:List Nat):List Nat:=a.map (ti s n g)
def Ktt (s:K00) (n:Nat) (a b:List Nat):List Nat:=List.zipWith (Ktp s n) a b
def Ktu (n:Nat) (l:List Nat):Prop:=∀ x ∈ l,x < n
theorem Ktv {n x:Nat} {l:List Nat} (h:Ktu n (x :: l)):x < n∧Ktu n l:=⟨h x List.mem_cons_self,fun y hy=>h y (List.mem_cons_of_mem _ hy)⟩
theorem Ktw {n:Nat} {l:List Nat} (h:Ktu n l) (i:Nat):Ktu n (l.drop i):=fun x hx=>h x (List.mem_of_mem_drop hx)
section
variable {s:K00} {n:Nat} (hs:Ktj s n)
include hs
theorem Ktx:∀ {a b:List Nat},Ktu n a→Ktu n b→Ktu n (Ktr s n a b)
 | [],_,_,_=>fun x hx=>by cases hx
 | _ :: _,[],_,_=>fun x hx=>by cases hx
 | x :: a,y :: b,ha,hb=>fun z hz=>by
  obtain ⟨h1,h2⟩:=Ktv ha
  obtain ⟨h3,h4⟩:=Ktv hb
  rcases List.mem_cons.1 hz with rfl | hz
  ·exact Kn7 hs.tab h1 h3
  ·exact Ktx h2 h4 z hz
theorem Kty {g:Nat} (hg:g < n) {a:List Nat} (ha:Ktu n a):Ktu n (Kts s n g a):=fun x hx=>by
 obtain ⟨y,hy,rfl⟩:=List.mem_map.1 hx
 exact Kn8 hs.tab hg (ha y hy)
theorem Ktz:∀ {a b:List Nat},Ktu n a→Ktu n b→Ktu n (Ktt s n a b)
 | [],_,_,_=>fun x hx=>by cases hx
 | _ :: _,[],_,_=>fun x hx=>by cases hx
 | x :: a,y :: b,ha,hb=>fun z hz=>by
  obtain ⟨h1,h2⟩:=Ktv ha
  obtain ⟨h3,h4⟩:=Ktv hb
  rcases List.mem_cons.1 hz with rfl | hz
  ·exact (Ktq hs h1 h3).2
  ·exact Ktz h2 h4 z hz
theorem Ku0 {a:List Nat} (ha:Ktu n a):Kts s n 1 a=a:=by
 induction a with
 | nil=>rfl
 | cons x a ih =>
  obtain ⟨h1,h2⟩:=Ktv ha
  show ti s n 1 x :: Kts s n 1 a=_
  rw [Kto hs h1,ih h2]
theorem Ku1 {a:List Nat} (ha:Ktu n a):Ktr s n (List.replicate a.length 0) a=a:=by
 induction a with
 | nil=>rfl
 | cons x a ih =>
  obtain ⟨h1,h2⟩:=Ktv ha
  show pl s n 0 x :: Ktr s n (List.replicate a.length 0) a=_
  rw [Ktn hs h1,ih h2]
theorem Ku2 (g:Nat) (hg:g < n) (a b:List Nat) (ha:Ktu n a) (hb:Ktu n b) (hl:a.length ≤ 1099511627776):∀ (al bl:List Nat) (i:Nat) (out:List Int),a.drop i=al→b.drop i=bl→al.length=bl.length→out.length + al.length ≤ 1099511627776 →
  Kmp (s,Kte a,(g:Int),Kte b,out,(i:Int))=some (out ++ Kte (Ktr s n al (Kts s n g bl))):=by
 intro al
 induction al with
 | nil =>
  intro bl i out hd _ _ _
  rw [Kmp.eq_def]
  simp only
  rw [Ktf,Kn3 (Ko6 hd)]
  simp [Ktr,Kte]
 | cons x al ih =>
  intro bl i out hd hd2 hll ho
  cases bl with
  | nil=>simp at hll
  | cons y bl =>
   obtain ⟨h1,h2,h3⟩:=Kti hd
   obtain ⟨k1,k2,k3⟩:=Kti hd2
   have hx:x < n:=Ktw ha i x (by rw [hd]; exact List.mem_cons_self)
   have hy:y < n:=Ktw hb i y (by rw [hd2]; exact List.mem_cons_self)
   rw [Kmp.eq_def]
   simp only
   simp only [List.length_cons] at ho hll
   rw [Ktf,Kn2 h1,if_pos rfl,h2,bs,k2,bs,Knd hs.tab hg hy,bs,Knc hs.tab hx (Kn8 hs.tab hg hy),bs,Kpy (by simp; omega),bs,Kn1 (by omega),ih bl (i + 1) _ h3 k3 (by omega) (by simp; omega)]
   rw [List.append_assoc]
   rfl
theorem Ku3 (g:Nat) (hg:g < n) (a b:List Nat) (ha:Ktu n a) (hb:Ktu n b) (hl:a.length ≤ 1048576) (hab:a.length=b.length):Kmq (s,Kte a,(g:Int),Kte b)=some (Kte (Ktr s n a (Kts s n g b))):=by
 unfold Kmq
 simp only
 rw [show (0:Int)=((0:Nat):Int) from rfl,Ku2 hs g hg a b ha hb (by omega) a b 0 [] rfl rfl hab (by simp; omega)]
 rfl
theorem Ku4 (a b:List Nat) (ha:Ktu n a) (hb:Ktu n b) (hl:a.length ≤ 1048576) (hab:a.length=b.length):Kmq (s,Kte a,1,Kte b)=some (Kte (Ktr s n a b)):=by
 have:=Ku3 hs 1 (Ktl hs) a b ha hb hl hab
 rw [Ku0 hs hb] at this
 exact this
theorem Ku5 (a b:List Nat) (ha:Ktu n a) (hb:Ktu n b) (hl:a.length ≤ 1099511627776):∀ (al bl:List Nat) (i:Nat) (out:List Int),a.drop i=al→b.drop i=bl→al.length=bl.length→out.length + al.length ≤ 1099511627776 →
  Kms (s,Kte a,Kte b,out,(i:Int))=some (out ++ Kte (Ktt s n al bl)):=by
 intro al
 induction al with
 | nil =>
  intro bl i out hd _ _ _
  rw [Kms.eq_def]
  simp only
  rw [Ktf,Kn3 (Ko6 hd)]
  simp [Ktt,Kte]
 | cons x al ih =>
  intro bl i out hd hd2 hll ho
  cases bl with
  | nil=>simp at hll
  | cons y bl =>
   obtain ⟨h1,h2,h3⟩:=Kti hd
   obtain ⟨k1,k2,k3⟩:=Kti hd2
   have hx:x < n:=Ktw ha i x (by rw [hd]; exact List.mem_cons_self)
   have hy:y < n:=Ktw hb i y (by rw [hd2]; exact List.mem_cons_self)
   rw [Kms.eq_def]
   simp only
   simp only [List.length_cons] at ho hll
   rw [Ktf,Kn2 h1,if_pos rfl,h2,bs,k2,bs,Knt hs.tab hx hy,bs,(Ktq hs hx hy).1,Kpy (by simp; omega),bs,Kn1 (by omega),ih bl (i + 1) _ h3 k3 (by omega) (by simp; omega)]
   rw [List.append_assoc]
   rfl
theorem Ku6 (a b:List Nat) (ha:Ktu n a) (hb:Ktu n b) (hl:a.length ≤ 1048576) (hab:a.length=b.length):Kmt (s,Kte a,Kte b)=some (Kte (Ktt s n a b)):=by
 unfold Kmt
 simp only
 rw [show (0:Int)=((0:Nat):Int) from rfl,Ku5 hs a b ha hb (by omega) a b 0 [] rfl rfl hab (by simp; omega)]
 rfl
end
theorem Ku7 {α:Type} {out:List α} {i:Nat} (h:i < out.length) (x:α):(out.set i x).take (i + 1)=out.take i ++ [x]:=by
 rw [List.take_set,List.take_succ_eq_append_getElem h,List.set_append_right _ _ (by simp; omega)]
 simp [Nat.min_eq_left (Nat.le_of_lt h)]
section
variable {s:K00} {n:Nat} (hs:Ktj s n)
include hs
theorem Ku8 (a b:List Nat) (ha:Ktu n a) (hb:Ktu n b) (hl:a.length ≤ 1099511627776):∀ (al bl:List Nat) (i:Nat) (out:List Int),a.drop i=al→b.drop i=bl→al.length=bl.length→out.length=a.length →
  Khq (s,Kte a,Kte b,out,(i:Int))=some (out.take i ++ Kte (Ktr s n al bl)):=by
 intro al
 induction al with
 | nil =>
  intro bl i out hd _ _ ho
  rw [Khq.eq_def]
  simp only
  have:=Ko6 hd
  rw [Ktf,Kn3 this]
  simp [Ktr,Kte,List.take_of_length_le (show out.length ≤ i by omega)]
 | cons x al ih =>
  intro bl i out hd hd2 hll ho
  cases bl with
  | nil=>simp at hll
  | cons y bl =>
   obtain ⟨h1,h2,h3⟩:=Kti hd
   obtain ⟨k1,k2,k3⟩:=Kti hd2
   have hx:x < n:=Ktw ha i x (by rw [hd]; exact List.mem_cons_self)
   have hy:y < n:=Ktw hb i y (by rw [hd2]; exact List.mem_cons_self)
   rw [Khq.eq_def]
   simp only
   simp only [List.length_cons] at hll
   have hio:i < out.length:=by omega
   rw [Ktf,Kn2 h1,if_pos rfl,h2,bs,k2,bs,Kne hs.tab hx hy,bs,Kn0 hio,bs,Kn1 (by omega),Int.toNat_natCast,ih bl (i + 1) _ h3 k3 (by omega) (by rw [List.length_set]; exact ho)]
   rw [Ku7 hio,List.append_assoc]
   rfl
theorem Ku9 (a b:List Nat) (ha:Ktu n a) (hb:Ktu n b) (hl:a.length ≤ 1048576) (hab:a.length=b.length):Khw (⟨s⟩,Kte a,Kte b)=some (Kte (Ktr s n a b)):=by
 unfold Khw Kht
 simp only
 rw [Ktf,Ks9 (by simp; omega),bs,Int.toNat_natCast,show (0:Int)=((0:Nat):Int) from rfl]
 rw [show (List.replicate a.length (((0:Nat):Int)))=List.replicate a.length (0:Int) from rfl,Ku8 hs a b ha hb (by omega) a b 0 _ rfl rfl hab (by simp)]
 rfl
theorem Kua (a b:List Nat) (ha:Ktu n a) (hb:Ktu n b) (hl:a.length ≤ 1099511627776):∀ (al bl:List Nat) (i:Nat) (out:List Int),a.drop i=al→b.drop i=bl→al.length=bl.length→out.length=a.length →
  Ki3 (s,Kte a,Kte b,out,(i:Int))=some (out.take i ++ Kte (Ktt s n al bl)):=by
 intro al
 induction al with
 | nil =>
  intro bl i out hd _ _ ho
  rw [Ki3.eq_def]
  simp only
  have:=Ko6 hd
  rw [Ktf,Kn3 this]
  simp [Ktt,Kte,List.take_of_length_le (show out.length ≤ i by omega)]
 | cons x al ih =>
  intro bl i out hd hd2 hll ho
  cases bl with
  | nil=>simp at hll
  | cons y bl =>
   obtain ⟨h1,h2,h3⟩:=Kti hd
   obtain ⟨k1,k2,k3⟩:=Kti hd2
   have hx:x < n:=Ktw ha i x (by rw [hd]; exact List.mem_cons_self)
   have hy:y < n:=Ktw hb i y (by rw [hd2]; exact List.mem_cons_self)
   rw [Ki3.eq_def]
   simp only
   simp only [List.length_cons] at hll
   have hio:i < out.length:=by omega
   rw [Ktf,Kn2 h1,if_pos rfl,h2,bs,k2,bs,Knu hs.tab hx hy,bs,(Ktq hs hx hy).1,Kn0 hio,bs,Kn1 (by omega),Int.toNat_natCast,ih bl (i + 1) _ h3 k3 (by omega) (by rw [List.length_set]; exact ho)]
   rw [Ku7 hio,List.append_assoc]
   rfl
theorem Kub (a b:List Nat) (ha:Ktu n a) (hb:Ktu n b) (hl:a.length ≤ 1048576) (hab:a.length=b.length):Ki9 (⟨s⟩,Kte a,Kte b)=some (Kte (Ktt s n a b)):=by
 unfold Ki9 Ki6
 simp only
 rw [Ktf,Ks9 (by simp; omega),bs,Int.toNat_natCast,show (0:Int)=((0:Nat):Int) from rfl]
 rw [show (List.replicate a.length (((0:Nat):Int)))=List.replicate a.length (0:Int) from rfl,Kua hs a b ha hb (by omega) a b 0 _ rfl rfl hab (by simp)]
 rfl
theorem Kuc (g:Nat) (hg:g < n) (a:List Nat) (ha:Ktu n a) (hl:a.length ≤ 1099511627776):∀ (al:List Nat) (i:Nat) (out:List Int),a.drop i=al→out.length=a.length →
  Kj7 (⟨s⟩,(g:Int),Kte a,out,(i:Int))=some (out.take i ++ Kte (Kts s n g al)):=by
 intro al
 induction al with
 | nil =>
  intro i out hd ho
  rw [Kj7.eq_def]
  simp only
  have:=Ko6 hd
  rw [Ktf,Kn3 this]
  simp [Kts,Kte,List.take_of_length_le (show out.length ≤ i by omega)]
 | cons x al ih =>
  intro i out hd ho
  obtain ⟨h1,h2,h3⟩:=Kti hd
  have hx:x < n:=Ktw ha i x (by rw [hd]; exact List.mem_cons_self)
  rw [Kj7.eq_def]
  simp only
  have hio:i < out.length:=by omega
  rw [Ktf,Kn2 h1,if_pos rfl,h2,bs,Knf hs.tab hg hx,bs,Kn0 hio,bs,Kn1 (by omega),Int.toNat_natCast,ih (i + 1) _ h3 (by rw [List.length_set]; exact ho)]
  rw [Ku7 hio,List.append_assoc]
  rfl
theorem Kud (g:Nat) (hg:g < n) (a:List Nat) (ha:Ktu n a) (hl:a.length ≤ 1048576):Kja (⟨s⟩,(g:Int),Kte a)=some (Kte (Kts s n g a)):=by
 unfold Kja
 simp only
 rw [Ktf,Ks9 (by simp; omega),bs,Int.toNat_natCast,show (0:Int)=((0:Nat):Int) from rfl]
 rw [show (List.replicate a.length (((0:Nat):Int)))=List.replicate a.length (0:Int) from rfl,Kuc hs g hg a ha (by omega) a 0 _ rfl (by simp)]
 rfl
theorem Kue (g:Nat) (hg:g < n) (a:List Nat) (ha:Ktu n a) (hl:a.length ≤ 1099511627776):∀ (al:List Nat) (i:Nat),a.drop i=al →
  ∃ r,Kiu (Kte a,⟨s⟩,(g:Int),(i:Int))=some r∧(match r with | .inl _=>(al.all fun x=>le s n x g)=true | .inr j=>(al.all fun x=>le s n x g)=false∧0 ≤ j):=by
 intro al
 induction al with
 | nil =>
  intro i hd
  rw [Kiu.eq_def]
  simp only
  rw [Ktf,Kn3 (Ko6 hd)]
  exact ⟨_,rfl,rfl⟩
 | cons x al ih =>
  intro i hd
  obtain ⟨h1,h2,h3⟩:=Kti hd
  have hx:x < n:=Ktw ha i x (by rw [hd]; exact List.mem_cons_self)
  rw [Kiu.eq_def]
  simp only
  rw [Ktf,Kn2 h1,if_pos rfl,h2,bs]
  unfold Kiq
  simp only
  rw [iLe hs.tab hx hg]
  simp only [bs]
  cases hle:le s n x g with
  | true =>
   obtain ⟨r,hr,hm⟩:=ih (i + 1) h3
   refine ⟨r,?_,?_⟩
   ·rw [if_neg (by simp),Kn1 (by omega)]; exact hr
   ·rw [List.all_cons,hle,Bool.true_and]; exact hm
  | false =>
   exact ⟨_,if_pos rfl,by simp [List.all_cons,hle]⟩
theorem Kuf (g:Nat) (hg:g < n) (a:List Nat) (ha:Ktu n a) (hl:a.length ≤ 1048576):Kj3 (⟨s⟩,Kte a,(g:Int))=some (a.all fun x=>le s n x g):=by
 obtain ⟨r,hr,hm⟩:=Kue hs g hg a ha (by omega) a 0 rfl
 unfold Kj3 Kj0 Kix
 simp only
 rw [show (0:Int)=((0:Nat):Int) from rfl,hr]
 cases r with
 | inl _=>simp only [bs] at hm ⊢; rw [hm]; rfl
 | inr j =>
  simp only [bs] at hm ⊢
  rw [hm.1,decide_eq_true (by omega)]; rfl
end
theorem Kug (k:Nat) (h:k ≤ 1048576):Kmm (k:Int)=some (Kte (List.replicate k 0)):=by
 unfold Kmm
 rw [Int.toNat_natCast,Ks9 (by constructor <;> omega),bs]
 unfold Kte
 rw [List.map_replicate]
 rfl
theorem Kuh (ctx front:List (List Int)) (h:ctx.length + front.length ≤ 1048576):Kmn (ctx,front)=some (front ++ ctx):=by
 unfold Kmn
 simp only
 rw [Kpy (by simp; omega),bs,Kpy (by omega),bs]
theorem Kui (ps:List (List Int)) (hp:ps.length ≤ 1099511627776):∀ (l:List (List Int)) (i:Nat) (out:List Int),ps.drop i=l→out.length + l.flatten.length ≤ 1099511627776→Kbr (ps,out,(i:Int))=some (out ++ l.flatten):=by
 intro l
 induction l with
 | nil =>
  intro i out hd _
  rw [Kbr.eq_def]
  simp only
  rw [Kn3 (Ko6 hd)]
  simp
 | cons x l ih =>
  intro i out hd ho
  obtain ⟨h1,h2,h3⟩:=Ko5 hd
  rw [List.flatten_cons,List.length_append] at ho
  rw [Kbr.eq_def]
  simp only
  rw [Kn2 h1,if_pos rfl,h2,bs,Kpy (by omega),bs,Kn1 (by omega),ih (i + 1) _ h3 (by rw [List.length_append]; omega),List.flatten_cons,List.append_assoc]
theorem Kuj (c:Int) (ps:List (List Int)) (hp:ps.length ≤ 1048576) (h:ps.flatten.length ≤ 1048576):Kbu (c,ps)=some (c :: ps.flatten):=by
 unfold Kbu
 simp only
 rw [show (0:Int)=((0:Nat):Int) from rfl,Kui ps (by omega) ps 0 [c] rfl (by rw [List.length_singleton]; omega)]
 rfl
theorem Kuk (ps:List (List (Int))) (hp:ps.length ≤ 1099511627776):∀ (l:List (List (Int))) (i sz:Nat),ps.drop i=l→sz + l.flatten.length ≤ 1099511627776→Kig (ps,(sz:Int),(i:Int))=some (((sz + l.flatten.length:Nat)):Int):=by
 intro l
 induction l with
 | nil =>
  intro i sz hd _
  rw [Kig.eq_def]
  simp only
  rw [Kn3 (Ko6 hd)]
  simp
 | cons x l ih =>
  intro i sz hd ho
  obtain ⟨h1,h2,h3⟩:=Ko5 hd
  rw [List.flatten_cons,List.length_append] at ho
  have e:wr ((sz:Int) + (x.length:Int))=((sz + x.length:Nat):Int):=Krn (by omega) (by omega)
  rw [Kig.eq_def]
  simp only
  rw [Kn2 h1,if_pos rfl,h2,bs,e,decide_eq_false (by omega),if_neg (by decide),bs,Kn1 (by omega),ih (i + 1) _ h3 (by omega),List.flatten_cons,List.length_append,Nat.add_assoc]
theorem Kul (ps:List (List (Int))) (hp:ps.length ≤ 1099511627776):∀ (l:List (List (Int))) (i:Nat) (out:List (Int)),ps.drop i=l→out.length + l.flatten.length ≤ 1099511627776→Kik (ps,out,(i:Int))=some (out ++ l.flatten):=by
 intro l
 induction l with
 | nil =>
  intro i out hd _
  rw [Kik.eq_def]
  simp only
  rw [Kn3 (Ko6 hd)]
  simp
 | cons x l ih =>
  intro i out hd ho
  obtain ⟨h1,h2,h3⟩:=Ko5 hd
  rw [List.flatten_cons,List.length_append] at ho
  rw [Kik.eq_def]
  simp only
  rw [Kn2 h1,if_pos rfl,h2,bs,Kpy (by omega),bs,Kn1 (by omega),ih (i + 1) _ h3 (by rw [List.length_append]; omega),List.flatten_cons,List.append_assoc]
theorem Kum (k:Nat) (h:k ≤ 1048576):Kic (k:Int)=some ():=by
 unfold Kic
 have e:wr ((k:Int) - wr (0 - 0))=(k:Int):=by rw [Kmz (x:=0 - 0) (by decide) (by decide),Kmz (by omega) (by omega)]; omega
 rw [decide_eq_false (by omega),if_neg (by decide),e]
 by_cases hk:k=0
 ·subst hk; rfl
 ·rw [decide_eq_true (by omega),if_pos rfl,Int.toNat_natCast,Ks9 (by constructor <;> omega),bs]
theorem Kun (ps:List (List (Int))) (hp:ps.length ≤ 1048576) (h:ps.flatten.length ≤ 1048576):Kin ps=some ps.flatten:=by
 unfold Kin
 have h0:=Kuk ps (by omega) ps 0 0 rfl (by omega)
 rw [Nat.zero_add] at h0
 rw [show (0:Int)=((0:Nat):Int) from rfl,h0,bs,Kum _ h,bs,Kul ps (by omega) ps 0 [] rfl (by rw [List.length_nil]; omega)]
 rfl
theorem Kuo (ps:List (List (List Int))) (hp:ps.length ≤ 1099511627776):∀ (l:List (List (List Int))) (i sz:Nat),ps.drop i=l→sz + l.flatten.length ≤ 1099511627776→Khb (ps,(sz:Int),(i:Int))=some (((sz + l.flatten.length:Nat)):Int):=by
 intro l
 induction l with
 | nil =>
  intro i sz hd _
  rw [Khb.eq_def]
  simp only
  rw [Kn3 (Ko6 hd)]
  simp
 | cons x l ih =>
  intro i sz hd ho
  obtain ⟨h1,h2,h3⟩:=Ko5 hd
  rw [List.flatten_cons,List.length_append] at ho
  have e:wr ((sz:Int) + (x.length:Int))=((sz + x.length:Nat):Int):=Krn (by omega) (by omega)
  rw [Khb.eq_def]
  simp only
  rw [Kn2 h1,if_pos rfl,h2,bs,e,decide_eq_false (by omega),if_neg (by decide),bs,Kn1 (by omega),ih (i + 1) _ h3 (by omega),List.flatten_cons,List.length_append,Nat.add_assoc]
theorem Kup (ps:List (List (List Int))) (hp:ps.length ≤ 1099511627776):∀ (l:List (List (List Int))) (i:Nat) (out:List (List Int)),ps.drop i=l→out.length + l.flatten.length ≤ 1099511627776→Khf (ps,out,(i:Int))=some (out ++ l.flatten):=by
 intro l
 induction l with
 | nil =>
  intro i out hd _
  rw [Khf.eq_def]
  simp only
  rw [Kn3 (Ko6 hd)]
  simp
 | cons x l ih =>
  intro i out hd ho
  obtain ⟨h1,h2,h3⟩:=Ko5 hd
  rw [List.flatten_cons,List.length_append] at ho
  rw [Khf.eq_def]
  simp only
  rw [Kn2 h1,if_pos rfl,h2,bs,Kpy (by omega),bs,Kn1 (by omega),ih (i + 1) _ h3 (by rw [List.length_append]; omega),List.flatten_cons,List.append_assoc]
theorem Kuq (k:Nat) (h:k ≤ 1048576):Kh7 (k:Int)=some ():=by
 unfold Kh7
 have e:wr ((k:Int) - wr (0 - 0))=(k:Int):=by rw [Kmz (x:=0 - 0) (by decide) (by decide),Kmz (by omega) (by omega)]; omega
 rw [decide_eq_false (by omega),if_neg (by decide),e]
 by_cases hk:k=0
 ·subst hk; rfl
 ·rw [decide_eq_true (by omega),if_pos rfl,Int.toNat_natCast,Ks9 (by constructor <;> omega),bs]
theorem Kur (ps:List (List (List Int))) (hp:ps.length ≤ 1048576) (h:ps.flatten.length ≤ 1048576):Khi ps=some ps.flatten:=by
 unfold Khi
 have h0:=Kuo ps (by omega) ps 0 0 rfl (by omega)
 rw [Nat.zero_add] at h0
 rw [show (0:Int)=((0:Nat):Int) from rfl,h0,bs,Kuq _ h,bs,Kup ps (by omega) ps 0 [] rfl (by rw [List.length_nil]; omega)]
 rfl
def Kus (s:K00) (ctx:List (List Int)):Bool:=decide (ctx.length ≤ 8) && ctx.all (yN s.fSize true)
theorem sYn {s:K00} {ty:List Int} (h:ty.length ≤ 1099511627776):(Kld ty >>= fun r=>if r=true then Klo (ty,s.fSize,true) >>= fun q=>some (!q) else some true)=some (!yN s.fSize true ty):=by
 rw [Kos ty h,bs]
 unfold yN
 cases wtB ty with
 | false=>rfl
 | true=>rw [if_pos rfl,Koy ty h,bs]; rfl
theorem Kut (s:K00) (ctx:List (List Int)) (hc:ctx.length ≤ 1048576) (hl:∀ ty ∈ ctx,ty.length ≤ 1099511627776):∀ (l:List (List Int)) (i:Nat),ctx.drop i=l→Kmj (s,ctx,(i:Int))=some (if l.all (yN s.fSize true) then .inl () else .inr false):=by
 intro l
 induction l with
 | nil =>
  intro i hd
  rw [Kmj.eq_def]
  simp only
  rw [Kn3 (Ko6 hd)]; rfl
 | cons x l ih =>
  intro i hd
  obtain ⟨h1,h2,h3⟩:=Ko5 hd
  have hx:x ∈ ctx:=List.mem_of_mem_drop (i:=i) (by rw [hd]; exact List.mem_cons_self)
  rw [Kmj.eq_def]
  simp only
  rw [Kn2 h1,if_pos rfl]
  simp only [h2,bs]
  rw [sYn (hl x hx),bs,Kn1 (by omega),ih (i + 1) h3,List.all_cons]
  cases yN s.fSize true x <;> cases l.all (yN s.fSize true) <;> rfl
theorem Kuu (s:K00) (ctx:List (List Int)) (hc:ctx.length ≤ 1048576) (hl:∀ ty ∈ ctx,ty.length ≤ 1099511627776):Kmk (s,ctx)=some (Kus s ctx):=by
 unfold Kmk Kus
 simp only
 by_cases h:ctx.length ≤ 8
 ·rw [decide_eq_false (by omega),decide_eq_true h,if_neg (by decide),show (0:Int)=((0:Nat):Int) from rfl,Kut s ctx hc hl ctx 0 rfl,bs]
  cases ctx.all (yN s.fSize true) <;> rfl
 ·rw [decide_eq_true (by omega),decide_eq_false h,if_pos rfl]; rfl
theorem Kuv (s:K00) (ctx:List (List Int)) (hc:ctx.length ≤ 1048576) (hl:∀ ty ∈ ctx,ty.length ≤ 1099511627776):∀ (l:List (List Int)) (i:Nat),ctx.drop i=l→∃ r,Kg8 (ctx,s,(i:Int))=some r∧(match r with | .inl _=>l.all (Kr7 s)=true | .inr j=>l.all (Kr7 s)=false∧0 ≤ j):=by
 intro l
 induction l with
 | nil =>
  intro i hd
  rw [Kg8.eq_def]
  simp only
  rw [Kn3 (Ko6 hd)]
  exact ⟨_,rfl,rfl⟩
 | cons x l ih =>
  intro i hd
  obtain ⟨h1,h2,h3⟩:=Ko5 hd
  have hx:x ∈ ctx:=List.mem_of_mem_drop (i:=i) (by rw [hd]; exact List.mem_cons_self)
  rw [Kg8.eq_def]
  simp only
  rw [Kn2 h1,if_pos rfl,h2,bs]
  unfold Kg4
  simp only
  rw [Kr9 s x (hl x hx)]
  simp only [bs]
  cases hle:Kr7 s x with
  | true =>
   obtain ⟨r,hr,hm⟩:=ih (i + 1) h3
   refine ⟨r,?_,?_⟩
   ·rw [if_neg (by simp),Kn1 (by omega)]; exact hr
   ·rw [List.all_cons,hle,Bool.true_and]; exact hm
  | false=>exact ⟨_,if_pos rfl,by simp [List.all_cons,hle]⟩
theorem Kuw (s:K00) (hs:Kqc s=true) (ctx:List (List Int)) (hc:ctx.length ≤ 1048576) (hl:∀ ty ∈ ctx,ty.length ≤ 1099511627776):Kgh (s,ctx)=some (Kus s ctx):=by
 have e:ctx.all (Kr7 s)=ctx.all (yN s.fSize true):=by
  congr 1
  funext ty
  exact Krc (Kqd hs) ty
 unfold Kgh Kus
 simp only
 by_cases h:ctx.length ≤ 8
 ·rw [decide_eq_true (by omega:(ctx.length:Int) ≤ 8),decide_eq_true h,if_pos rfl]
  obtain ⟨r,hr,hm⟩:=Kuv s ctx hc hl ctx 0 rfl
  unfold Kge Kgb
  simp only
  rw [show (0:Int)=((0:Nat):Int) from rfl,hr]
  rw [e] at hm
  cases r with
  | inl _=>simp only [bs] at hm ⊢; rw [hm]; rfl
  | inr j =>
   simp only [bs] at hm ⊢
   rw [hm.1,decide_eq_true (by omega)]; rfl
 ·rw [decide_eq_false (by omega),decide_eq_false h,if_neg (by decide)]; rfl
theorem Kux {s:K00} (ty:List Int) (h:ty.length ≤ 1099511627776):Kgn (ty,s)=some (Kr7 s ty):=by
 unfold Kgn
 simp only
 rw [Kr9 s ty h,bs]
mutual
theorem Kuy (s:K00):∀ (t:K02) (n nodes:Nat),tms t ≤ 1099511627776→n + 2 * tms t ≤ 35184372088832→nodes ≤ 400→Kgu (t,(n:Int),s,s,(nodes:Int))=some (Kpv (tOk (Kr4 s) (Kr7 s) n t) nodes (tsz t))
 | ⟨op,N,ty,ks⟩,n,nodes,ht,hn,hd=>by
  rw [tms] at ht hn
  rw [Kgu.eq_def,tOk,tsz]
  simp only
  rw [Kpi,bs]
  unfold Kph
  cases hop:inB op 0 12
  ·simp [Kpp,hop,Kpv]
  ·simp only [if_true]
   rw [Kn1 (by omega)]
   by_cases h4:nodes + 1 ≤ 400
   ·rw [decide_eq_false (by omega:¬ ((nodes + 1:Nat):Int) > 400)]
    by_cases hk:(ks.length:Int)=Kp9 op
    ·rw [show ((ks.length:Int) != Kp9 op)=false by rw [hk]; exact Kn4]
     simp only [Bool.false_eq_true,if_false,bs]
     refine (Koz (x:=Kpn (Kr4 s) (n:Int) ⟨op,N,ty,ks⟩) ?_).trans ?_
     ·unfold Kpn
      simp only [iIn,Kmz (x:=(n:Int) - 1) (by omega) (by omega),Kr5,bs]
      cases op == 0 <;> cases op == 1 <;> cases Kpa op <;> rfl
     refine (Koz (x:=Kpn (Kr4 s) (n:Int) ⟨op,N,ty,ks⟩ && Kpo (Kr7 s) ⟨op,N,ty,ks⟩) ?_).trans ?_
     ·unfold Kpo
      simp only [Kux ty (by omega),bs]
      cases Kpb op <;> cases Kpn (Kr4 s) (n:Int) ⟨op,N,ty,ks⟩ <;> rfl
     have e:Kpp (Kr4 s) (Kr7 s) (n:Int) ⟨op,N,ty,ks⟩=(Kpn (Kr4 s) (n:Int) ⟨op,N,ty,ks⟩ && Kpo (Kr7 s) ⟨op,N,ty,ks⟩):=by
      unfold Kpp
      simp only
      rw [hop,hk]; simp
     rw [e]
     cases Kpn (Kr4 s) (n:Int) ⟨op,N,ty,ks⟩ && Kpo (Kr7 s) ⟨op,N,ty,ks⟩
     ·simp [Kpv]
     ·have h:=Kuz s ks ⟨op,N,ty,ks⟩ n (nodes + 1) 0 rfl (by simp only; omega) (by omega) (by omega) h4
      rw [if_pos rfl,show (0:Int)=((0:Nat):Int) from rfl,h]
      simp only [Bool.true_and]
      unfold Kpv
      rw [show nodes + (1 + Kp0 ks)=nodes + 1 + Kp0 ks by omega]
      cases Kpq (Kr4 s) (Kr7 s) op n 0 ks && decide (nodes + 1 + Kp0 ks ≤ 400) <;> rfl
    ·rw [show ((ks.length:Int) != Kp9 op)=true by simpa using hk]
     have e:Kpp (Kr4 s) (Kr7 s) (n:Int) ⟨op,N,ty,ks⟩=false:=by
      unfold Kpp
      simp only
      rw [show ((ks.length:Int) == Kp9 op)=false by simpa using hk]; simp
     simp [e,Kpv]
   ·rw [decide_eq_true (by omega:((nodes + 1:Nat):Int) > 400)]
    have:¬ nodes + (1 + Kp0 ks) ≤ 400:=by omega
    simp [Kpv,this]
theorem Kuz (s:K00):∀ (ks:List K02) (t:K02) (n nodes i:Nat),t.fKids.drop i=ks→t.fKids.length ≤ 1099511627776→Kp1 ks ≤ 1099511627776→n + 2 * (ks.length + Kp1 ks) ≤ 35184372088832→nodes ≤ 400 →
  Kgv (t,(n:Int),s,s,(nodes:Int),(i:Int))=some (if Kpq (Kr4 s) (Kr7 s) t.fOp n i ks && decide (nodes + Kp0 ks ≤ 400) then .inl ((nodes + Kp0 ks:Nat):Int) else .inr 401)
 | [],t,n,nodes,i,hd,hk,ht,hn,h4=>by
  rw [Kgv.eq_def,Kpq,Kp0]
  simp only
  rw [Kn3 (Ko6 hd)]
  simp [h4]
 | k :: ks,t,n,nodes,i,hd,hk,ht,hn,h4=>by
  obtain ⟨hi,hx,hd'⟩:=Ko5 hd
  rw [Kp1] at ht hn
  rw [List.length_cons] at hn
  have ha:=Kpk t.fOp (i:Int)
  rw [Kgv.eq_def,Kpq,Kp0]
  simp only
  rw [Kn2 hi,if_pos rfl,hx,bs,Kpm,bs,Kmz (by omega) (by omega),show (n:Int) + ((Kpj t.fOp (i:Int):Nat):Int)=((n + Kpj t.fOp (i:Int):Nat):Int) by omega]
  rw [Kuy s k (n + Kpj t.fOp (i:Int)) nodes (by omega) (by omega) h4,bs,Kn1 (by omega)]
  unfold Kpv
  cases tOk (Kr4 s) (Kr7 s) (n + Kpj t.fOp (i:Int)) k
  ·rfl
  ·by_cases q:nodes + tsz k ≤ 400
   ·rw [decide_eq_true q,Bool.true_and,if_pos rfl,decide_eq_false (by omega:¬ ((nodes + tsz k:Nat):Int) > 400),if_neg (by decide),Kuz s ks t n (nodes + tsz k) (i + 1) hd' hk (by omega) (by omega) q,Nat.add_assoc,Bool.true_and]
   ·rw [decide_eq_false q,decide_eq_false (by omega:¬ nodes + (tsz k + Kp0 ks) ≤ 400)]
    simp
end
theorem Kv0 {s:K00} {n:Nat} (h:Tab s n):Kr4 s=gN s.fSize true:=by
 funext g
 rw [Kra h]
 unfold gN inB
 rw [h.size]
 rw [Bool.eq_iff_iff]
 simp
 omega
theorem Kv1 (s:K00) (hs:Kqc s=true) (t:K02) (n:Nat) (hn:n ≤ 8) (ht:tms t ≤ 1099511627776):Kh1 (s,t,(n:Int))=some (Ksv s t n):=by
 have hy:Kr7 s=yN s.fSize true:=funext fun ty=>Krc (Kqd hs) ty
 unfold Kh1 Ksv
 simp only
 rw [iIn,bs,hs]
 have:inB (n:Int) 0 8=true:=by unfold inB; rw [decide_eq_true (by omega),decide_eq_true (by omega)]; rfl
 have hc:=Kuy s t n 0 ht (by omega) (by omega)
 rw [Kv0 (Kqd hs),hy] at hc
 rw [this,if_pos rfl,show (0:Int)=((0:Nat):Int) from rfl,hc,bs]
 unfold Kpv
 rw [Nat.zero_add]
 cases tOk (gN s.fSize true) (yN s.fSize true) n t
 ·simp [bs]
 ·by_cases h:tsz t ≤ 400
  ·simp [bs,h]; omega
  ·simp [bs,h]
def Kv2 (s:K00) (ctx:List (List Int)) (t:K02):Bool:=Kqc s && Kus s ctx && Ksv s t ctx.length
theorem Kv3 (s:K00) (ctx:List (List Int)) (t:K02) (hc:ctx.length ≤ 1048576) (hl:∀ ty ∈ ctx,ty.length ≤ 1099511627776) (ht:tms t ≤ 1099511627776):Kml (s,ctx,t)=some (Kv2 s ctx t):=by
 unfold Kml Kv2
 simp only
 rw [Kqe,bs]
 cases hs:Kqc s
 ·rfl
 ·rw [if_pos rfl,Kuu s ctx hc hl,bs]
  cases h2:Kus s ctx
  ·rfl
  ·have h8:ctx.length ≤ 8:=by
    unfold Kus at h2
    simp only [Bool.and_eq_true,decide_eq_true_eq] at h2
    exact h2.1
   rw [if_pos rfl,Ksw s t _ h8 ht]
   rfl
theorem Kv4 (s:K00) (ctx:List (List Int)) (t:K02) (hc:ctx.length ≤ 1048576) (hl:∀ ty ∈ ctx,ty.length ≤ 1099511627776) (ht:tms t ≤ 1099511627776) :
  Kk9 (s,ctx,t)=if Kv2 s ctx t then (Kk2 (⟨s⟩,ctx,t) >>= fun r=>some (some r)) else some none:=by
 unfold Kk9 Kv2
 simp only
 rw [Kqf,bs]
 cases hs:Kqc s
 ·rfl
 ·rw [if_pos rfl,Kuw s hs ctx hc hl,bs]
  cases h2:Kus s ctx
  ·rfl
  ·have h8:ctx.length ≤ 8:=by
    unfold Kus at h2
    simp only [Bool.and_eq_true,decide_eq_true_eq] at h2
    exact h2.1
   rw [if_pos rfl,Kv1 s hs t _ h8 ht,bs]
   cases Ksv s t ctx.length <;> rfl
def TyS (s:K00) (ty:List Int):Prop:=yN s.fSize true ty=true
theorem Kv5 {s:K00} {ty:List Int} (h:TyS s ty):ty.length ≤ 40:=by
 unfold TyS yN at h
 rw [Bool.and_eq_true] at h
 exact Kpw h.1
theorem Kv6 {s:K00} {ty:List Int} (h:TyS s ty):∃ T:Ty,T.ok∧ty=T.code∧T.code.length ≤ 40∧T.code.all (Kov s.fSize true)=true:=by
 have hl:=Kv5 h
 unfold TyS yN at h
 rw [Bool.and_eq_true] at h
 obtain ⟨T,h1,rfl,_⟩:=Kqm h.1
 exact ⟨T,h1,rfl,hl,h.2⟩
theorem Kv7 {s:K00} {T:Ty} (h:T.ok) (hl:T.code.length ≤ 40) (hc:T.code.all (Kov s.fSize true)=true):TyS s T.code:=by
 unfold TyS yN
 rw [Kqn h hl,hc]; rfl
structure Kv8 (s:K00) (c:Int) (a b:List Int):Prop where
 ya:TyS s a
 yb:TyS s b
 p0:Kma (c :: (a ++ b),0)=some a
 p1:Kma (c :: (a ++ b),1)=some b
 pp:Keg (c :: (a ++ b))=some [a,b]
structure Kv9 (s:K00) (c:Int) (a:List Int):Prop where
 ya:TyS s a
 p0:Kma (c :: a,0)=some a
 pp:Keg (c :: a)=some [a]
theorem Kva {s:K00} {c:Int} (hc:c=35∨c=36):Kov s.fSize true c=false:=by
 rcases hc with rfl | rfl
 ·unfold Kov Kou
  rw [show Ko9 35=2 from rfl]; simp
 ·unfold Kov Kou
  rw [show Ko9 36=1 from rfl]; simp
theorem Kvb {s:K00}:TyS s [0]:=Kv7 (T:=.num) trivial (by decide) (by
 show (Kov s.fSize true 0 && true)=true
 unfold Kov
 rw [show Ko9 0=0 from rfl]; simp)
section
variable {s:K00} {n:Nat} (hs:Ktj s n)
include hs
theorem Kvc {c:Int} (hc:3 ≤ c∧c ≤ 18):Kov s.fSize true c=true ↔ c - 3 < (n:Int):=by
 have hk:Ko9 c=2:=by rcases Kod c with h | h | h | h <;> omega
 unfold Kov Kou
 rw [hk,hs.tab.size,if_neg (by omega),if_neg (by omega)]
 simp
 omega
theorem Kvd {c:Int} (hc:19 ≤ c∧c ≤ 34):Kov s.fSize true c=true ↔ c - 19 < (n:Int):=by
 have hk:Ko9 c=1:=by rcases Kod c with h | h | h | h <;> omega
 unfold Kov Kou
 rw [hk,hs.tab.size,if_neg (by omega),if_pos (by omega)]
 simp
 omega
theorem Kve {ty:List Int} (h:TyS s ty):ty=[0]∨(∃ a b,ty=1 :: (a ++ b)∧Kv8 s 1 a b)∨(∃ a b,ty=2 :: (a ++ b)∧Kv8 s 2 a b) ∨
  (∃ (g:Nat) (a b:List Int),g < n∧g ≤ 15∧ty=(3 + (g:Int)) :: (a ++ b)∧Kv8 s (3 + (g:Int)) a b)∨(∃ (g:Nat) (a:List Int),g < n∧g ≤ 15∧ty=(19 + (g:Int)) :: a∧Kv9 s (19 + (g:Int)) a):=by
 obtain ⟨T,hT,rfl,hl,hc⟩:=Kv6 h
 cases T with
 | num=>exact .inl rfl
 | bin c a b =>
  have B:=Ks3 hT (by omega)
  have hl':=hl
  rw [Ty.code,List.length_cons,List.length_append] at hl'
  rw [Ty.code,List.all_cons,List.all_append,Bool.and_eq_true,Bool.and_eq_true] at hc
  have hP:Kv8 s c a.code b.code:=⟨Kv7 B.ok.1 (by omega) hc.2.1,Kv7 B.ok.2 (by omega) hc.2.2,B.p0,B.p1,B.pp⟩
  have hk:=hT.1
  rcases Kod c with ⟨q,e⟩ | ⟨q,e⟩ | ⟨q,e⟩ | ⟨q,e⟩
  ·rw [e] at hk; exact absurd hk (by decide)
  ·rcases q with rfl | rfl | q | rfl
   ·exact .inr (.inl ⟨_,_,rfl,hP⟩)
   ·exact .inr (.inr (.inl ⟨_,_,rfl,hP⟩))
   ·have:=(Kvc hs q).1 hc.1
    obtain ⟨g,hg⟩:∃ g:Nat,c=3 + (g:Int):=⟨(c - 3).toNat,by omega⟩
    subst hg
    exact .inr (.inr (.inr (.inl ⟨g,_,_,by omega,by omega,rfl,hP⟩)))
   ·rw [Kva (s:=s) (.inl rfl)] at hc; exact absurd hc.1 (by decide)
  ·rw [e] at hk; exact absurd hk (by decide)
  ·rw [e] at hk; exact absurd hk (by decide)
 | un c a =>
  have B:=unP hT (by omega)
  have hl':=hl
  rw [Ty.code,List.length_cons] at hl'
  rw [Ty.code,List.all_cons,Bool.and_eq_true] at hc
  have hP:Kv9 s c a.code:=⟨Kv7 B.ok (by omega) hc.2,B.p0,B.pp⟩
  have hk:=hT.1
  rcases Kod c with ⟨q,e⟩ | ⟨q,e⟩ | ⟨q,e⟩ | ⟨q,e⟩
  ·rw [e] at hk; exact absurd hk (by decide)
  ·rw [e] at hk; exact absurd hk (by decide)
  ·rcases q with q | rfl
   ·have:=(Kvd hs q).1 hc.1
    obtain ⟨g,hg⟩:∃ g:Nat,c=19 + (g:Int):=⟨(c - 19).toNat,by omega⟩
    subst hg
    exact .inr (.inr (.inr (.inr ⟨g,_,by omega,by omega,rfl,hP⟩)))
   ·rw [Kva (s:=s) (.inr rfl)] at hc; exact absurd hc.1 (by decide)
  ·rw [e] at hk; exact absurd hk (by decide)
theorem Kvf {c:Int} {a b:List Int} (ha:TyS s a) (hb:TyS s b) (hc:c=1∨c=2∨∃ g:Nat,g < n∧c=3 + (g:Int)) (hl:(c :: (a ++ b)).length ≤ 40):TyS s (c :: (a ++ b)):=by
 obtain ⟨A,hA,rfl,_,hAc⟩:=Kv6 ha
 obtain ⟨B,hB,rfl,_,hBc⟩:=Kv6 hb
 have hn:=hs.tab.hi
 have hk:Ko9 c=2∧Kov s.fSize true c=true:=by
  rcases hc with rfl | rfl | ⟨g,hg,rfl⟩
  ·exact ⟨rfl,by unfold Kov; rw [show Ko9 1=2 from rfl]; simp⟩
  ·exact ⟨rfl,by unfold Kov; rw [show Ko9 2=2 from rfl]; simp⟩
  ·refine ⟨by rcases Kod (3 + (g:Int)) with h | h | h | h <;> omega,(Kvc hs (by omega)).2 (by omega)⟩
 have:TyS s (Ty.bin c A B).code:=Kv7 ⟨hk.1,hA,hB⟩ hl (by rw [Ty.code,List.all_cons,List.all_append,hk.2,hAc,hBc]; rfl)
 exact this
theorem Kvg {g:Nat} (hg:g < n) {a:List Int} (ha:TyS s a) (hl:((19 + (g:Int)) :: a).length ≤ 40):TyS s ((19 + (g:Int)) :: a):=by
 obtain ⟨A,hA,rfl,_,hAc⟩:=Kv6 ha
 have hn:=hs.tab.hi
 have hk:Ko9 (19 + (g:Int))=1:=by rcases Kod (19 + (g:Int)) with h | h | h | h <;> omega
 have:TyS s (Ty.un (19 + (g:Int)) A).code:=Kv7 ⟨hk,hA⟩ hl (by rw [Ty.code,List.all_cons,(Kvd hs (by omega)).2 (by omega),hAc]; rfl)
 exact this
theorem Kvh {x:Int} (h:gN s.fSize true x=true):∃ g:Nat,x=(g:Int)∧g < n:=by
 unfold gN at h
 rw [hs.tab.size] at h
 simp at h
 exact ⟨x.toNat,by omega,by omega⟩
end
structure Kvi (s:K00) (n:Nat) (k:K02) (m:Nat):Prop where
 ok:tOk (gN s.fSize true) (yN s.fSize true) n k=true
 sz:tsz k + 1 ≤ m
theorem nd1 {s:K00} {n m:Nat} {op N:Int} {ty:List Int} {ks:List K02} (h:tOk (gN s.fSize true) (yN s.fSize true) n ⟨op,N,ty,ks⟩=true) (hm:tsz ⟨op,N,ty,ks⟩ ≤ m) (hk:Kp9 op=1):∃ a,ks=[a]∧Kvi s (n + Kpj op 0) a m:=by
 obtain ⟨h1,h2⟩:=Kpx h
 obtain ⟨a,rfl⟩:=Kss (l:=ks) (beq_iff_eq.2 (by rw [← hk]; exact (Kpz h1).2))
 simp only at h2
 rw [Ksl,Bool.and_eq_true] at h2
 rw [Ksy] at hm
 exact ⟨a,rfl,h2.1,by omega⟩
theorem nd2 {s:K00} {n m:Nat} {op N:Int} {ty:List Int} {ks:List K02} (h:tOk (gN s.fSize true) (yN s.fSize true) n ⟨op,N,ty,ks⟩=true) (hm:tsz ⟨op,N,ty,ks⟩ ≤ m) (hk:Kp9 op=2):∃ a b,ks=[a,b]∧Kvi s (n + Kpj op 0) a m∧Kvi s (n + Kpj op 1) b m:=by
 obtain ⟨h1,h2⟩:=Kpx h
 obtain ⟨a,b,rfl⟩:=Kst (l:=ks) (beq_iff_eq.2 (by rw [← hk]; exact (Kpz h1).2))
 simp only at h2
 rw [Ksl,Ksl,Bool.and_eq_true,Bool.and_eq_true] at h2
 rw [Ksz] at hm
 exact ⟨a,b,rfl,⟨h2.1,by omega⟩,⟨h2.2.1,by omega⟩⟩
theorem nd3 {s:K00} {n m:Nat} {op N:Int} {ty:List Int} {ks:List K02} (h:tOk (gN s.fSize true) (yN s.fSize true) n ⟨op,N,ty,ks⟩=true) (hm:tsz ⟨op,N,ty,ks⟩ ≤ m) (hk:Kp9 op=3):∃ a b c,ks=[a,b,c]∧Kvi s (n + Kpj op 0) a m∧Kvi s (n + Kpj op 1) b m∧Kvi s (n + Kpj op 2) c m:=by
 obtain ⟨h1,h2⟩:=Kpx h
 obtain ⟨a,b,c,rfl⟩:=Kt1 (l:=ks) (by rw [← hk]; exact (Kpz h1).2)
 simp only at h2
 rw [Ksl,Ksl,Ksl,Bool.and_eq_true,Bool.and_eq_true,Bool.and_eq_true] at h2
 rw [Kt0] at hm
 exact ⟨a,b,c,rfl,⟨h2.1,by omega⟩,⟨h2.2.1,by omega⟩,⟨h2.2.2.1,by omega⟩⟩
theorem Kvj {s:K00} {n:Nat} {t:K02} (h:tOk (gN s.fSize true) (yN s.fSize true) n t=true) (hg:Kpa t.fOp=true):gN s.fSize true t.fN=true:=by
 have h1:=(Kpx h).1
 unfold Kpp Kpn at h1
 simp only [Bool.and_eq_true] at h1
 have h2:=h1.1.2
 have hop:(t.fOp == 0)=false∧(t.fOp == 1)=false:=by
  simp only [Kpa,Bool.or_eq_true,beq_iff_eq] at hg
  constructor <;> rw [beq_eq_false_iff_ne] <;> omega
 rw [hop.1,hop.2,hg] at h2
 simpa using h2
theorem Kvk {s:K00} {n:Nat} {t:K02} (h:tOk (gN s.fSize true) (yN s.fSize true) n t=true) (hg:Kpb t.fOp=true):TyS s t.fType:=by
 have h1:=(Kpx h).1
 unfold Kpp Kpo at h1
 simp only [Bool.and_eq_true] at h1
 have h2:=h1.2
 rw [hg] at h2
 show yN s.fSize true t.fType=true
 simpa using h2
theorem Kvl {s:K00} {n:Nat} {t:K02} (h:tOk (gN s.fSize true) (yN s.fSize true) n t=true) (hg:t.fOp=0):∃ i:Nat,t.fN=(i:Int)∧i < n∧t.fKids=[]:=by
 have h1:=(Kpx h).1
 have hl:=(Kpz h1).2
 unfold Kpp Kpn at h1
 simp only [Bool.and_eq_true] at h1
 have h2:=h1.1.2
 rw [hg] at h2 hl
 simp [inB] at h2
 refine ⟨t.fN.toNat,by omega,by omega,?_⟩
 have:(t.fKids.length:Int)=0:=hl
 exact List.eq_nil_of_length_eq_zero (by omega)
theorem Kvm {s:K00} {n:Nat} {t:K02} (h:tOk (gN s.fSize true) (yN s.fSize true) n t=true) (hg:t.fOp=1):t.fKids=[]:=by
 have h1:=(Kpx h).1
 have hl:=(Kpz h1).2
 rw [hg] at hl
 have:(t.fKids.length:Int)=0:=hl
 exact List.eq_nil_of_length_eq_zero (by omega)
def Kvn (t:K02) (out:List K03) (w:Nat):Option (List (List Int)) :=
 (if (decide ((w:Int) > 0))=true then some (true) else some ((t.fOp == 9))) >>= fun v =>
 if v=true then
  (if (decide ((w:Int) > 0))=true then (idx out 0) >>= fun e=>some (e.fty) else some ([])) >>= fun first=>(Kh4 (t,(w:Int),first)) >>= fun r=>some (r)
 else some ([])
def Kvo (p0:K05) (ctx:List (List Int)) (t:K02) (out:List K03) (needs used:List (List Int)) (w:Nat) (more:List (List Int)) (y:K03):Option (((List K03) × (List (List Int)) × (List (List Int))) ⊕ (K03)) :=
 if (y.ffault != 0)=true then
  (Qdq ([(w:Int)].length + y.fpath.length) 8) >>= fun _=>some (.inr (K03.mk [] [] [] y.ffault ([(w:Int)] ++ y.fpath)))
 else
  (Khm (p0,t,(w:Int),y.fty)) >>= fun f =>
  if (f != 0)=true then some (.inr (K03.mk [] [] [] f []))
  else
   (if (t.fOp == 10)=true then
    if ((w:Int) == 1)=true then
     (idx out 0) >>= fun e=>(Keg e.fty) >>= fun r=>(idx r 0) >>= fun q=>(Kfj (y.fty,q)) >>= fun b=>some ((!b))
    else some (false)
   else some (false)) >>= fun v =>
   if v=true then some (.inr (K03.mk [] [] [] 3 []))
   else
    (Qdq (out.length + [y].length) 8) >>= fun _ =>
    (cut y.fneeds none (some (more.length:Int)) none) >>= fun c1 =>
    (Qdq (used.length + [c1].length) 24) >>= fun _ =>
    (cut y.fneeds (some (more.length:Int)) none none) >>= fun c2 =>
    (Qdq (needs.length + [c2].length) 24) >>= fun _ =>
    Kk3 (p0,ctx,t,(out ++ [y]),(needs ++ [c2]),(used ++ [c1]),(wr ((w:Int) + 1)))
theorem Kvp {p0:K05} {ctx:List (List Int)} {t:K02} {out:List K03} {needs used:List (List Int)} {w:Nat} {k:K02} {more:List (List Int)} {y:K03} (hw:w < t.fKids.length) (hk:idx t.fKids (w:Int)=some k) (hm:Kvn t out w=some more)
  (hc:ctx.length + more.length ≤ 1000000) (hy:Kk2 (p0,more ++ ctx,k)=some y):Kk3 (p0,ctx,t,out,needs,used,(w:Int))=Kvo p0 ctx t out needs used w more y:=by
 rw [Kk3.eq_def]
 simp only
 rw [Kn2 hw,if_pos rfl,hk,bs]
 have key:∀ {β:Type} (R:List (List Int)→Option β),((if (decide ((w:Int) > 0))=true then some (true) else some ((t.fOp == 9))) >>= fun v =>
   (if v=true then (if (decide ((w:Int) > 0))=true then (idx out 0) >>= fun e=>some (e.fty) else some ([])) >>= fun first=>(Kh4 (t,(w:Int),first)) >>= fun r=>some (r) else some ([])) >>= R)=(Kvn t out w >>= R):=fun R=>by
  unfold Kvn
  simp only [Option.bind_eq_bind,Option.bind_assoc]
 refine (key _).trans ?_
 rw [hm,bs,Kur [more,ctx] (by simp) (by simp; omega),bs]
 simp only [List.flatten_cons,List.flatten_nil,List.append_nil]
 rw [hy,bs]
 rfl
theorem Kvq {p0:K05} {ctx:List (List Int)} {t:K02} {out:List K03} {needs used:List (List Int)} {w:Nat} (hw:t.fKids.length ≤ w):Kk3 (p0,ctx,t,out,needs,used,(w:Int))=some (.inl (out,needs,used)):=by
 rw [Kk3.eq_def]
 simp only
 rw [Kn3 hw]; rfl
theorem Kvr {α:Type} {l:List α} {m:Nat} (h:m ≤ l.length):cut l none (some (m:Int)) none=some (l.take m):=by
 unfold cut
 simp only [Option.getD_none,Option.getD_some,Int.toNat_natCast,Int.toNat_zero,List.drop_zero]
 rw [if_pos (by omega)]
theorem Kvs {α:Type} {l:List α} {m:Nat} (h:m ≤ l.length):cut l (some (m:Int)) none none=some (l.drop m):=by
 unfold cut
 simp only [Option.getD_none,Option.getD_some,Int.toNat_natCast]
 rw [if_pos (by omega),List.take_length]
def Kvt (t:K02) (out:List K03) (w:Nat) (y:K03):Option Bool :=
 if (t.fOp == 10)=true then
  if ((w:Int) == 1)=true then
   (idx out 0) >>= fun e=>(Keg e.fty) >>= fun r=>(idx r 0) >>= fun q=>(Kfj (y.fty,q)) >>= fun b=>some ((!b))
  else some (false)
 else some (false)
section
variable {p0:K05} {ctx:List (List Int)} {t:K02} {out:List K03} {needs used:List (List Int)} {w:Nat} {more:List (List Int)} {y:K03}
theorem Kvu (h:y.ffault ≠ 0) (hp:y.fpath.length ≤ 1000000):Kvo p0 ctx t out needs used w more y=some (.inr ⟨[],[],[],y.ffault,(w:Int) :: y.fpath⟩):=by
 unfold Kvo
 rw [if_pos (bne_iff_ne.2 h),Kpy (by simp; omega),bs]
 rfl
theorem Kvv {f:Int} (h:y.ffault=0) (hf:Khm (p0,t,(w:Int),y.fty)=some f) (hf0:f ≠ 0):Kvo p0 ctx t out needs used w more y=some (.inr ⟨[],[],[],f,[]⟩):=by
 unfold Kvo
 rw [if_neg (by simp [h]),hf,bs,if_pos (bne_iff_ne.2 hf0)]
theorem Kvw (h:y.ffault=0) (hf:Khm (p0,t,(w:Int),y.fty)=some 0) (ha:Kvt t out w y=some true):Kvo p0 ctx t out needs used w more y=some (.inr ⟨[],[],[],3,[]⟩):=by
 unfold Kvo
 rw [if_neg (by simp [h]),hf,bs,if_neg (by simp)]
 refine (congrArg (· >>= _) (show _=some true from ha)).trans ?_
 rw [bs,if_pos rfl]
theorem Kvx {ns:List Nat} (h:y.ffault=0) (hf:Khm (p0,t,(w:Int),y.fty)=some 0) (ha:Kvt t out w y=some false) (hn:y.fneeds=Kte ns) (hl:more.length ≤ ns.length)
  (h1:out.length ≤ 1000000) (h2:needs.length ≤ 1000000) (h3:used.length ≤ 1000000) (h4:w ≤ 1000000) :
  Kvo p0 ctx t out needs used w more y=Kk3 (p0,ctx,t,(out ++ [y]),(needs ++ [Kte (ns.drop more.length)]),(used ++ [Kte (ns.take more.length)]),((w + 1:Nat):Int)):=by
 unfold Kvo
 rw [if_neg (by simp [h]),hf,bs,if_neg (by simp)]
 refine (congrArg (· >>= _) (show _=some false from ha)).trans ?_
 rw [bs,if_neg (by simp),Kpy (by simp; omega),bs,hn,Kvr (by rw [Ktf]; exact hl),bs,Kpy (by simp; omega),bs,Kvs (by rw [Ktf]; exact hl),bs,Kpy (by simp; omega),bs,Kn1 (by omega),Kth,Ktg]
theorem Kvy {r:K03} (hc:ctx.length ≤ 1000000) (h:Kk3 (p0,ctx,t,[],[],[],((0:Nat):Int))=some (.inr r)):Kk2 (p0,ctx,t)=some r:=by
 rw [Kk2.eq_def]
 simp only
 rw [Ks9 (by simp; omega),bs,show (0:Int)=((0:Nat):Int) from rfl,h]
 rfl
theorem Kvz {o:List K03} {nd us:List (List Int)} {f:Int} {g:K03} (hc:ctx.length ≤ 1000000) (h:Kk3 (p0,ctx,t,[],[],[],((0:Nat):Int))=some (.inl (o,nd,us)))
  (hf:Kjx (p0,⟨[],Kte (List.replicate ctx.length 0),o,0,[]⟩,ctx,t,nd,us)=some (f,g)) (hg:g.fpath=[]:=by rfl):Kk2 (p0,ctx,t)=some (if f=0 then ⟨g.fty,g.fneeds,g.fkids,0,g.fpath⟩ else ⟨[],[],[],f,[]⟩):=by
 have e:Kte (List.replicate ctx.length 0)=List.replicate (Int.toNat (ctx.length:Int)) (0:Int):=by
  unfold Kte; rw [List.map_replicate,Int.toNat_natCast]; rfl
 rw [e] at hf
 rw [Kk2.eq_def]
 simp only
 rw [Ks9 (by simp; omega),bs,show Kk3 (p0,ctx,t,[],[],[],0)=some (.inl (o,nd,us)) from h,bs]
 simp only
 rw [hf,bs]
 simp only
 by_cases hz:f=0
 ·subst hz; first | (rw [if_neg (by simp),if_pos rfl]; done) | rw [if_neg (by simp),if_pos rfl,hg]
 ·rw [if_pos (bne_iff_ne.2 hz),if_neg hz]
theorem Kw0 (h:t.fOp ≠ 10):Kvt t out w y=some false:=by
 unfold Kvt
 rw [if_neg (by simpa using h)]
theorem Kw1 (h:w ≠ 1):Kvt t out w y=some false:=by
 unfold Kvt
 have:((w:Int) == 1)=false:=by rw [beq_eq_false_iff_ne]; omega
 rw [this]
 simp
end
section
variable {s:K00} {n:Nat} (hs:Ktj s n) {N:Int} {ty:List Int} {ks:List K02} {w:Nat} {c:Int} {r:List Int}
theorem Kw2 {op:Int} (h:(op=4∨op=6∨op=7∨op=9∨op=11)∨(w ≠ 0∧(op=3∨op=5∨op=8∨op=10∨op=12))):Khm (⟨s⟩,⟨op,N,ty,ks⟩,(w:Int),c :: r)=some 0:=by
 have hw:∀ hw:w ≠ 0,((w:Int) == 0)=false:=fun hw=>by rw [beq_eq_false_iff_ne]; omega
 unfold Khm
 rcases h with (rfl | rfl | rfl | rfl | rfl) | ⟨h0,(rfl | rfl | rfl | rfl | rfl)⟩
 all_goals first | simp [Krk,Kof,hw h0] | (by_cases h0:w=0 <;> simp [Krk,Kof,h0])
theorem Kw3:Khm (⟨s⟩,⟨2,N,ty,ks⟩,(w:Int),c :: r)=some (if (Koe c).1=0 then 0 else 2):=by
 unfold Khm
 by_cases h:(Koe c).1=0 <;> simp [Krk,Kof,h]
theorem Kw4:Khm (⟨s⟩,⟨3,N,ty,ks⟩,((0:Nat):Int),c :: r)=some (if (Koe c).1=0 then 0 else 2):=by
 unfold Khm
 by_cases h:(Koe c).1=0 <;> simp [Krk,Kof,h]
theorem Kw5:Khm (⟨s⟩,⟨10,N,ty,ks⟩,((0:Nat):Int),c :: r)=some (if (Koe c).1=3 then 0 else 6):=by
 unfold Khm
 by_cases h:(Koe c).1=3 <;> simp [Krk,Kof,h]
include hs
theorem Kw6 {g:Nat} (hg:g < n):Khm (⟨s⟩,⟨5,(g:Int),ty,ks⟩,((0:Nat):Int),c :: r)=some (if (Koe c).1=1 then (if le s n 1 g then 0 else 8) else 4):=by
 have hl:=iLe hs.tab (Ktl hs) hg
 unfold Khm
 by_cases h:(Koe c).1=1 <;> cases hle:le s n 1 g <;> simp [Krk,Kof,h,show Kd6 (s,1,(g:Int))=some (le s n 1 g) from hl,hle]
theorem Kw7 {g:Nat} (hg:g < n):Khm (⟨s⟩,⟨8,(g:Int),ty,ks⟩,((0:Nat):Int),c :: r)=some (if (Koe c).1=2 then (if le s n 1 g then 0 else 8) else 5):=by
 have hl:=iLe hs.tab (Ktl hs) hg
 unfold Khm
 by_cases h:(Koe c).1=2 <;> cases hle:le s n 1 g <;> simp [Krk,Kof,h,show Kd6 (s,1,(g:Int))=some (le s n 1 g) from hl,hle]
theorem Kw8 {g:Nat} (hg:g < n):Khm (⟨s⟩,⟨12,(g:Int),ty,ks⟩,((0:Nat):Int),c :: r)=some (if (Koe c).1=4 then (if le s n 1 g then 0 else 8) else 7):=by
 have hl:=iLe hs.tab (Ktl hs) hg
 unfold Khm
 by_cases h:(Koe c).1=4 <;> cases hle:le s n 1 g <;> simp [Krk,Kof,h,show Kd6 (s,1,(g:Int))=some (le s n 1 g) from hl,hle]
end
def Kw9 (ty:List Int) (ns:List Nat) (kids:List K03):Int × K03:=(if ty.length > 40 then 3 else 0,⟨ty,Kte ns,kids,0,[]⟩)
theorem Kwa {α:Type} (x:α) (l:List α):idx (x :: l) 0=some x:=rfl
theorem Kwb {α:Type} (x y:α) (l:List α):idx (x :: y :: l) 1=some y:=rfl
theorem Kwc {α:Type} (x y z:α) (l:List α):idx (x :: y :: z :: l) 2=some z:=rfl
section
variable {s:K00} {n:Nat} (hs:Ktj s n) {N:Int} {ty:List Int} {ks:List K02} {ctx us:List (List Int)} {z:List Int} {y0 y1 y2:K03} {a b d:List Nat}
theorem Kwd {i:Nat} {q:List Int} {zs:List Nat} (hi:ctx[i]?=some q) (hz:i < zs.length) (hq:q.length ≤ 40):Kjx (⟨s⟩,⟨[],Kte zs,[],0,[]⟩,ctx,⟨0,(i:Int),ty,ks⟩,[],[])=some (Kw9 q (zs.set i 1) []):=by
 obtain ⟨h1,h2⟩:=List.getElem?_eq_some_iff.1 hi
 have e1:idx ctx (i:Int)=some q:=by rw [Kn0 h1,h2]
 have e2:idx (Kte zs) (i:Int)=some ((zs[i]:Nat):Int):=by rw [Kn0 (by rw [Ktf]; exact hz)]; simp [Kte]
 have e3:List.set (Kte zs) i 1=Kte (zs.set i 1):=by unfold Kte; rw [List.map_set]; rfl
 have h40:¬ ((q.length:Int) > 40):=by omega
 unfold Kjx Kjd Kw9
 simp [e1,e2,e3,Kq1 q (by omega),show ¬ (40 < (q.length:Int)) by omega,show ¬ (40 < q.length) by omega]
theorem Kwe {zs:List Nat}:Kjx (⟨s⟩,⟨[],Kte zs,[],0,[]⟩,ctx,⟨1,N,ty,ks⟩,[],[])=some (Kw9 [0] zs []):=by
 unfold Kjx Kjd Kw9
 simp
theorem Kwf (hy:y0.fty.length ≤ 1000) (ht:ty.length ≤ 1000):Kjx (⟨s⟩,⟨[],z,[y0],0,[]⟩,ctx,⟨6,N,ty,ks⟩,[Kte a],us)=some (Kw9 (2 :: (y0.fty ++ ty)) a [y0]):=by
 have hc:=Kun [[2],y0.fty,ty] (by simp) (by simp; omega)
 unfold Kjx Kjd Kw9 Khz
 simp only [List.flatten_cons,List.flatten_nil,List.append_nil,List.singleton_append,List.cons_append,List.nil_append] at hc
 simp [Kwa,Kwb,hc]
 split <;> rename_i q40
 ·rw [if_pos (by omega)]
 ·rw [if_neg (by omega)]
theorem Kwg (hy:y0.fty.length ≤ 1000) (ht:ty.length ≤ 1000):Kjx (⟨s⟩,⟨[],z,[y0],0,[]⟩,ctx,⟨7,N,ty,ks⟩,[Kte a],us)=some (Kw9 (2 :: (ty ++ y0.fty)) a [y0]):=by
 have hc:=Kun [[2],ty,y0.fty] (by simp) (by simp; omega)
 unfold Kjx Kjd Kw9 Khz
 simp only [List.flatten_cons,List.flatten_nil,List.append_nil,List.singleton_append,List.cons_append,List.nil_append] at hc
 simp [Kwa,Kwb,hc]
 split <;> rename_i q40
 ·rw [if_pos (by omega)]
 ·rw [if_neg (by omega)]
include hs
theorem Kwh (ha:Ktu n a) (hb:Ktu n b) (hl:a.length ≤ 1000000) (hab:a.length=b.length):Kjx (⟨s⟩,⟨[],z,[y0,y1],0,[]⟩,ctx,⟨2,N,ty,ks⟩,[Kte a,Kte b],us)=some (Kw9 [0] (Ktr s n a b) [y0,y1]):=by
 have h:=Ku9 hs a b ha hb (by omega) hab
 unfold Kjx Kjd Kw9
 simp [Kwa,Kwb,h]
theorem Kwi (ha:Ktu n a) (hb:Ktu n b) (hd:Ktu n d) (hl:a.length ≤ 1000000) (hab:a.length=b.length) (had:a.length=d.length) (h2:y2.fty.length ≤ 1000) (h1:y1.fty.length ≤ 40) :
  Kjx (⟨s⟩,⟨[],z,[y0,y1,y2],0,[]⟩,ctx,⟨3,N,ty,ks⟩,[Kte a,Kte b,Kte d],us)=some (if y1.fty=y2.fty then Kw9 y1.fty (Ktr s n a (Ktt s n b d)) [y0,y1,y2] else (3,⟨[],z,[y0,y1,y2],0,[]⟩)):=by
 have hj:=Kub hs b d hb hd (by omega) (by omega)
 have hlj:(Ktt s n b d).length=a.length:=by unfold Ktt; rw [List.length_zipWith]; omega
 have h:=Ku9 hs a (Ktt s n b d) ha (Ktz hs hb hd) (by omega) hlj.symm
 have he:=Kse y1.fty y2.fty (by omega)
 unfold Kjx Kjd Kw9 Khz
 by_cases hq:y1.fty=y2.fty
 ·rw [show (y1.fty == y2.fty)=true from beq_iff_eq.2 hq] at he
  rw [if_pos hq]
  simp [Kwa,Kwb,Kwc,he,hj,h,show ¬ (40 < (y1.fty.length:Int)) by omega,show ¬ (40 < y1.fty.length) by omega]
 ·rw [show (y1.fty == y2.fty)=false from beq_eq_false_iff_ne.2 hq] at he
  rw [if_neg hq]
  simp [Kwa,Kwb,Kwc,he]
theorem Kwj (ha:Ktu n a) (hb:Ktu n b) (hl:a.length ≤ 1000000) (hab:a.length=b.length) (h0:y0.fty.length ≤ 1000) (h1:y1.fty.length ≤ 1000) :
  Kjx (⟨s⟩,⟨[],z,[y0,y1],0,[]⟩,ctx,⟨4,N,ty,ks⟩,[Kte a,Kte b],us)=some (Kw9 (1 :: (y0.fty ++ y1.fty)) (Ktr s n a b) [y0,y1]):=by
 have h:=Ku9 hs a b ha hb (by omega) hab
 have hc:=Kun [[1],y0.fty,y1.fty] (by simp) (by simp; omega)
 unfold Kjx Kjd Kw9 Khz
 simp only [List.flatten_cons,List.flatten_nil,List.append_nil,List.singleton_append,List.cons_append,List.nil_append] at hc
 simp [Kwa,Kwb,hc,h]
 split <;> rename_i q40
 ·rw [if_pos (by omega)]
 ·rw [if_neg (by omega)]
theorem Kwk {g:Nat} (hg:g < n) {u:List Nat} (hu:Ktu n u) (hul:u.length ≤ 1000000) (hy:y0.fty.length ≤ 1000) (ht:ty.length ≤ 1000) :
  Kjx (⟨s⟩,⟨[],z,[y0],0,[]⟩,ctx,⟨9,(g:Int),ty,ks⟩,[Kte a],[Kte u])=some (if (u.all fun x=>le s n x g)=true then Kw9 ((3 + (g:Int)) :: (ty ++ y0.fty)) a [y0] else (9,⟨[],z,[y0],0,[]⟩)):=by
 have hn:=hs.tab.hi
 have e:=Kuf hs g hg u hu (by omega)
 have hw:wr (3 + (g:Int))=3 + (g:Int):=Kmz (by omega) (by omega)
 have hc:=Kun [[3 + (g:Int)],ty,y0.fty] (by simp) (by simp; omega)
 unfold Kjx Kjd Kw9 Khz
 simp only [List.flatten_cons,List.flatten_nil,List.append_nil,List.singleton_append,List.cons_append,List.nil_append] at hc
 cases hq:(u.all fun x=>le s n x g) with
 | true =>
  rw [hq] at e
  simp [Kwa,Kwb,e,hc,hw]
  split <;> rename_i q40
  ·rw [if_pos (by omega)]
  ·rw [if_neg (by omega)]
 | false =>
  rw [hq] at e
  simp [Kwa,Kwb,e]
theorem Kwl {g:Nat} (hg:g < n) (ha:Ktu n a) (hl:a.length ≤ 1000000) (hy:y0.fty.length ≤ 1000) :
  Kjx (⟨s⟩,⟨[],z,[y0],0,[]⟩,ctx,⟨11,(g:Int),ty,ks⟩,[Kte a],us)=some (Kw9 ((19 + (g:Int)) :: y0.fty) (Kts s n g a) [y0]):=by
 have hn:=hs.tab.hi
 have e:=Kud hs g hg a ha (by omega)
 have hw:wr (19 + (g:Int))=19 + (g:Int):=Kmz (by omega) (by omega)
 have hc:=Kun [[19 + (g:Int)],y0.fty] (by simp) (by simp; omega)
 unfold Kjx Kjd Kw9 Khz
 simp only [List.flatten_cons,List.flatten_nil,List.append_nil,List.singleton_append,List.cons_append,List.nil_append] at hc
 simp [Kwa,Kwb,hc,hw,e]
 split <;> rename_i q40
 ·rw [if_pos (by omega)]
 ·rw [if_neg (by omega)]
theorem Kwm {g:Nat} (hg:g < n) {p q:List Int} (hty:y0.fty=(3 + (g:Int)) :: (p ++ q)) (hP:Kv8 s (3 + (g:Int)) p q) (ha:Ktu n a) (hb:Ktu n b) (hl:a.length ≤ 1000000) (hab:a.length=b.length) :
  Kjx (⟨s⟩,⟨[],z,[y0,y1],0,[]⟩,ctx,⟨10,N,ty,ks⟩,[Kte a,Kte b],us)=some (Kw9 q (Ktr s n a (Kts s n g b)) [y0,y1]):=by
 have hn:=hs.tab.hi
 have e:=Kud hs g hg b hb (by omega)
 have hlj:(Kts s n g b).length=a.length:=by unfold Kts; rw [List.length_map]; omega
 have h:=Ku9 hs a (Kts s n g b) ha (Kty hs hg hb) (by omega) hlj.symm
 have hsh:Koe (3 + (g:Int))=(3,(g:Int)):=by
  rcases Kog (3 + (g:Int)) with h | h | h | h | h | h | h | h <;> first | omega | (obtain ⟨_,e⟩:=h; rw [e]; congr 1; omega)
 have hq:=Kv5 hP.yb
 have pp:=hP.pp
 rw [← hty] at pp
 have i0:idx y0.fty 0=some (3 + (g:Int)):=by rw [hty]; rfl
 unfold Kjx Kjd Kw9 Khz
 simp [Kwa,Kwb,i0,Kof,hsh,pp,e,h,show ¬ (40 < (q.length:Int)) by omega,show ¬ (40 < q.length) by omega]
theorem Kwn {g:Nat} (hg:g < n) {u:List Nat} {us':List Int} (hu:Ktu n u) (hul:u.length ≤ 1000000) (ha:Ktu n a) (hb:Ktu n b) (hl:a.length ≤ 1000000) (hab:a.length=b.length) (h1:y1.fty.length ≤ 40) :
  Kjx (⟨s⟩,⟨[],z,[y0,y1],0,[]⟩,ctx,⟨5,(g:Int),ty,ks⟩,[Kte a,Kte b],[us',Kte u])=some (if (u.all fun x=>le s n x g)=true then Kw9 y1.fty (Ktr s n (Kts s n g a) b) [y0,y1] else (9,⟨[],z,[y0,y1],0,[]⟩)):=by
 have e:=Kuf hs g hg u hu (by omega)
 have e2:=Kud hs g hg a ha (by omega)
 have hlj:(Kts s n g a).length=a.length:=by unfold Kts; rw [List.length_map]
 have h:=Ku9 hs (Kts s n g a) b (Kty hs hg ha) hb (by omega) (by omega)
 unfold Kjx Kjd Kw9 Khz
 cases hq:(u.all fun x=>le s n x g) with
 | true =>
  rw [hq] at e
  simp [Kwa,Kwb,e,e2,h,show ¬ (40 < (y1.fty.length:Int)) by omega,show ¬ (40 < y1.fty.length) by omega]
 | false =>
  rw [hq] at e
  simp [Kwa,Kwb,e]
theorem Kwo {g m:Nat} (hg:g < n) (hm:m < n) {p:List Int} (hty:y0.fty=(19 + (m:Int)) :: p) {u:List Nat} {us':List Int} (hu:Ktu n u) (hul:u.length ≤ 1000000) (ha:Ktu n a) (hb:Ktu n b) (hl:a.length ≤ 1000000) (hab:a.length=b.length) (h1:y1.fty.length ≤ 40) :
  Kjx (⟨s⟩,⟨[],z,[y0,y1],0,[]⟩,ctx,⟨12,(g:Int),ty,ks⟩,[Kte a,Kte b],[us',Kte u])=some (if (u.all fun x=>le s n x (ti s n g m))=true then Kw9 y1.fty (Ktr s n (Kts s n g a) b) [y0,y1] else (9,⟨[],z,[y0,y1],0,[]⟩)):=by
 have hn:=hs.tab.hi
 have e0:=Knf hs.tab hg hm
 have e:=Kuf hs (ti s n g m) (Kn8 hs.tab hg hm) u hu (by omega)
 have e2:=Kud hs g hg a ha (by omega)
 have hlj:(Kts s n g a).length=a.length:=by unfold Kts; rw [List.length_map]
 have h:=Ku9 hs (Kts s n g a) b (Kty hs hg ha) hb (by omega) (by omega)
 have hsh:Koe (19 + (m:Int))=(4,(m:Int)):=by
  rcases Kog (19 + (m:Int)) with h | h | h | h | h | h | h | h <;> first | omega | (obtain ⟨_,e⟩:=h; rw [e]; congr 1; omega)
 have i0:idx y0.fty 0=some (19 + (m:Int)):=by rw [hty]; rfl
 unfold Kjx Kjd Kw9 Khz
 cases hq:(u.all fun x=>le s n x (ti s n g m)) with
 | true =>
  rw [hq] at e
  simp [Kwa,Kwb,i0,Kof,hsh,e0,e,e2,h,show ¬ (40 < (y1.fty.length:Int)) by omega,show ¬ (40 < y1.fty.length) by omega]
 | false =>
  rw [hq] at e
  simp [Kwa,Kwb,i0,Kof,hsh,e0,e]
theorem Kwp {g:Nat} (hg:g < n) {u v:List Nat} {us':List Int} (hu:Ktu n u) (hul:u.length ≤ 1000000) (hv:Ktu n v) (hvl:v.length ≤ 1000000) (ha:Ktu n a) (hb:Ktu n b) (hd:Ktu n d) (hl:a.length ≤ 1000000) (hab:a.length=b.length) (had:a.length=d.length) (h2:y2.fty.length ≤ 1000) (h1:y1.fty.length ≤ 40) :
  Kjx (⟨s⟩,⟨[],z,[y0,y1,y2],0,[]⟩,ctx,⟨8,(g:Int),ty,ks⟩,[Kte a,Kte b,Kte d],[us',Kte u,Kte v]) =
   some (if y1.fty=y2.fty then (if (u.all fun x=>le s n x g)=true∧(v.all fun x=>le s n x g)=true then Kw9 y1.fty (Ktr s n (Kts s n g a) (Ktt s n b d)) [y0,y1,y2] else (9,⟨[],z,[y0,y1,y2],0,[]⟩)) else (3,⟨[],z,[y0,y1,y2],0,[]⟩)):=by
 have e:=Kuf hs g hg u hu (by omega)
 have e':=Kuf hs g hg v hv (by omega)
 have e2:=Kud hs g hg a ha (by omega)
 have hj:=Kub hs b d hb hd (by omega) (by omega)
 have hlj:(Ktt s n b d).length=a.length:=by unfold Ktt; rw [List.length_zipWith]; omega
 have hls:(Kts s n g a).length=a.length:=by unfold Kts; rw [List.length_map]
 have h:=Ku9 hs (Kts s n g a) (Ktt s n b d) (Kty hs hg ha) (Ktz hs hb hd) (by omega) (by omega)
 have he:=Kse y1.fty y2.fty (by omega)
 unfold Kjx Kjd Kw9 Khz
 by_cases hq:y1.fty=y2.fty
 ·rw [show (y1.fty == y2.fty)=true from beq_iff_eq.2 hq] at he
  rw [if_pos hq]
  cases hu':(u.all fun x=>le s n x g) with
  | false =>
   rw [hu'] at e
   simp [Kwa,Kwb,Kwc,he,e]
  | true =>
   rw [hu'] at e
   cases hv':(v.all fun x=>le s n x g) with
   | false =>
    rw [hv'] at e'
    simp [Kwa,Kwb,Kwc,he,e,e']
   | true =>
    rw [hv'] at e'
    simp [Kwa,Kwb,Kwc,he,e,e',e2,hj,h,show ¬ (40 < (y1.fty.length:Int)) by omega,show ¬ (40 < y1.fty.length) by omega]
 ·rw [show (y1.fty == y2.fty)=false from beq_eq_false_iff_ne.2 hq] at he
  rw [if_neg hq]
  simp [Kwa,Kwb,Kwc,he]
end
def Kwq (t:K02) (i:Nat) (kids:List K03):List (List Int):=(Kh4 (t,(i:Int),(match kids with | []=>[] | y :: _=>y.fty))).getD []
structure Kwr (s:K00) (ctx:List (List Int)) (t:K02) (kids:List K03) (i:Nat) (k:K02) (y:K03):Prop where
 im:Kk2 (⟨s⟩,Kwq t i kids ++ ctx,k)=some y
 fa:y.ffault=0
 ty:∀ q ∈ Kwq t i kids,TyS s q
 ln:(Kwq t i kids).length=Kpj t.fOp i
structure Kws (s:K00) (n:Nat) (ctx:List (List Int)) (t:K02) (x:Kmi) (y:K03):Prop where
 sp:Kmu (s,ctx,t)=some x
 im:Kk2 (⟨s⟩,ctx,t)=some y
 ty:y.fty=x.fty
 ne:y.fneeds=x.fneeds
 fa:y.ffault=x.ffault
 pa:y.fpath=x.fpath
 pl:x.fpath.length + 1 ≤ tsz t
 bd:x.ffault ≠ 0→x.fty=[]∧x.fneeds=[]
 gd:x.ffault=0→TyS s x.fty∧x.fpath=[]∧∃ ns:List Nat,x.fneeds=Kte ns∧ns.length=ctx.length∧Ktu n ns
 kd:x.ffault=0→y.fkids.length=t.fKids.length∧∀ (i:Nat) (k:K02),t.fKids[i]?=some k→∃ yk,y.fkids[i]?=some yk∧Kwr s ctx t y.fkids i k yk
section
variable {s:K00} {n:Nat} {ctx:List (List Int)} {t:K02}
theorem Kws.bad {f:Int} {p:List Int} (sp:Kmu (s,ctx,t)=some ⟨[],[],f,p⟩) (im:Kk2 (⟨s⟩,ctx,t)=some ⟨[],[],[],f,p⟩) (hf:f ≠ 0) (hp:p.length + 1 ≤ tsz t):∃ x y,Kws s n ctx t x y :=
 ⟨_,_,{ sp:=sp,im:=im,ty:=rfl,ne:=rfl,fa:=rfl,pa:=rfl,pl:=hp,bd:=fun _=>⟨rfl,rfl⟩,gd:=fun h=>absurd h hf,kd:=fun h=>absurd h hf }⟩
theorem Kws.good {q:List Int} {ns:List Nat} {kids:List K03} (sp:Kmu (s,ctx,t)=some ⟨q,Kte ns,0,[]⟩) (im:Kk2 (⟨s⟩,ctx,t)=some ⟨q,Kte ns,kids,0,[]⟩) (hp:1 ≤ tsz t) (hq:TyS s q) (hl:ns.length=ctx.length) (hb:Ktu n ns)
  (kl:kids.length=t.fKids.length) (kd:∀ (i:Nat) (k:K02),t.fKids[i]?=some k→∃ yk,kids[i]?=some yk∧Kwr s ctx t kids i k yk):∃ x y,Kws s n ctx t x y :=
 ⟨_,_,{ sp:=sp,im:=im,ty:=rfl,ne:=rfl,fa:=rfl,pa:=rfl,pl:=by simpa using hp,bd:=fun h=>absurd rfl h,gd:=fun _=>⟨hq,rfl,ns,rfl,hl,hb⟩,kd:=fun _=>⟨kl,kd⟩ }⟩
theorem Kws.done {q:List Int} {ns:List Nat} {kids:List K03} (sp:Kmu (s,ctx,t)=Kmr (q,Kte ns)) (im:Kk2 (⟨s⟩,ctx,t)=some (if (Kw9 q ns kids).1=0 then ⟨(Kw9 q ns kids).2.fty,(Kw9 q ns kids).2.fneeds,(Kw9 q ns kids).2.fkids,0,(Kw9 q ns kids).2.fpath⟩ else ⟨[],[],[],(Kw9 q ns kids).1,[]⟩)) (hp:1 ≤ tsz t)
  (hq:q.length ≤ 40→TyS s q) (hl:ns.length=ctx.length) (hb:Ktu n ns) (kl:kids.length=t.fKids.length) (kd:∀ (i:Nat) (k:K02),t.fKids[i]?=some k→∃ yk,kids[i]?=some yk∧Kwr s ctx t kids i k yk):∃ x y,Kws s n ctx t x y:=by
 unfold Kmr Kmo at sp
 simp only at sp
 unfold Kw9 at im
 by_cases h:q.length > 40
 ·rw [decide_eq_true (by omega),if_pos rfl,bs] at sp
  rw [if_pos h,if_neg (by simp)] at im
  exact Kws.bad sp im (by decide) (by simpa using hp)
 ·rw [decide_eq_false (by omega),if_neg (by decide)] at sp
  rw [if_neg h,if_pos rfl] at im
  exact Kws.good sp im hp (hq (by omega)) hl hb kl kd
theorem Kwt {i:Nat} {k:K02} {x:Kmi} {y:K03} {c:List (List Int)} (hk:t.fKids[i]?=some k) (h:Kws s n c k x y) (hf:x.ffault=0):Kmw (s,c,t,(i:Int))=some x:=by
 obtain ⟨h1,h2⟩:=List.getElem?_eq_some_iff.1 hk
 rw [Kmw.eq_def]
 simp only
 rw [Kn0 h1,h2,bs,h.sp,bs,if_neg (by simp [hf]),bs]
theorem Kwu {i:Nat} {k:K02} {x:Kmi} {y:K03} {c:List (List Int)} (hk:t.fKids[i]?=some k) (h:Kws s n c k x y) (hz:tsz k ≤ 1000000) (hf:x.ffault ≠ 0):Kmw (s,c,t,(i:Int))=some ⟨[],[],x.ffault,(i:Int) :: x.fpath⟩:=by
 obtain ⟨h1,h2⟩:=List.getElem?_eq_some_iff.1 hk
 have hp:=h.pl
 obtain ⟨q1,q2⟩:=h.bd hf
 rw [Kmw.eq_def]
 simp only
 rw [Kn0 h1,h2,bs,h.sp,bs,if_pos (bne_iff_ne.2 hf),Kpy (by simp; omega),bs,bs,q1,q2]
 rfl
variable {out:List K03} {nd us:List (List Int)} {w:Nat} {k:K02} {m:List (List Int)} {x:Kmi} {y:K03}
theorem Kwv (hk:t.fKids[w]?=some k) (hm:Kvn t out w=some m) (r:Kws s n (m ++ ctx) k x y) (hz:tsz k ≤ 1000000) (hc:ctx.length + m.length ≤ 1000000) (hf:x.ffault ≠ 0) :
  Kk3 (⟨s⟩,ctx,t,out,nd,us,(w:Int))=some (.inr ⟨[],[],[],x.ffault,(w:Int) :: x.fpath⟩):=by
 obtain ⟨h1,h2⟩:=List.getElem?_eq_some_iff.1 hk
 have hp:=r.pl
 rw [Kvp h1 (by rw [Kn0 h1,h2]) hm hc r.im,Kvu (by rw [r.fa]; exact hf) (by rw [r.pa]; omega),r.fa,r.pa]
theorem Kww {f:Int} (hk:t.fKids[w]?=some k) (hm:Kvn t out w=some m) (r:Kws s n (m ++ ctx) k x y) (hc:ctx.length + m.length ≤ 1000000) (hf:x.ffault=0) (h:Khm (⟨s⟩,t,(w:Int),x.fty)=some f) (hf0:f ≠ 0) :
  Kk3 (⟨s⟩,ctx,t,out,nd,us,(w:Int))=some (.inr ⟨[],[],[],f,[]⟩):=by
 obtain ⟨h1,h2⟩:=List.getElem?_eq_some_iff.1 hk
 rw [Kvp h1 (by rw [Kn0 h1,h2]) hm hc r.im,Kvv (by rw [r.fa]; exact hf) (by rw [r.ty]; exact h) hf0]
theorem Kwx (hk:t.fKids[w]?=some k) (hm:Kvn t out w=some m) (r:Kws s n (m ++ ctx) k x y) (hc:ctx.length + m.length ≤ 1000000) (hf:x.ffault=0) (h:Khm (⟨s⟩,t,(w:Int),x.fty)=some 0) (ha:Kvt t out w y=some true) :
  Kk3 (⟨s⟩,ctx,t,out,nd,us,(w:Int))=some (.inr ⟨[],[],[],3,[]⟩):=by
 obtain ⟨h1,h2⟩:=List.getElem?_eq_some_iff.1 hk
 rw [Kvp h1 (by rw [Kn0 h1,h2]) hm hc r.im,Kvw (by rw [r.fa]; exact hf) (by rw [r.ty]; exact h) ha]
theorem Kwy {ns:List Nat} (hk:t.fKids[w]?=some k) (hm:Kvn t out w=some m) (r:Kws s n (m ++ ctx) k x y) (hc:ctx.length + m.length ≤ 1000000) (hf:x.ffault=0) (h:Khm (⟨s⟩,t,(w:Int),x.fty)=some 0) (ha:Kvt t out w y=some false)
  (hn:x.fneeds=Kte ns) (hl:m.length ≤ ns.length) (h1':out.length ≤ 1000000) (h2':nd.length ≤ 1000000) (h3':us.length ≤ 1000000) (h4':w ≤ 1000000) :
  Kk3 (⟨s⟩,ctx,t,out,nd,us,(w:Int))=Kk3 (⟨s⟩,ctx,t,(out ++ [y]),(nd ++ [Kte (ns.drop m.length)]),(us ++ [Kte (ns.take m.length)]),((w + 1:Nat):Int)):=by
 obtain ⟨h1,h2⟩:=List.getElem?_eq_some_iff.1 hk
 rw [Kvp h1 (by rw [Kn0 h1,h2]) hm hc r.im,Kvx (by rw [r.fa]; exact hf) (by rw [r.ty]; exact h) ha (by rw [r.ne]; exact hn) hl h1' h2' h3' h4']
end
theorem Kwz {op N:Int} {ty:List Int} {ks:List K02} {i:Nat} {q:List Int} (h9:op ≠ 9) (h:Kpj op (i:Int)=0):Kh4 (⟨op,N,ty,ks⟩,(i:Int),q)=some []:=by
 unfold Kh4
 simp only
 rw [if_neg (by simpa using h9),Kpm,bs,h]
 rfl
theorem Kx0 {N:Int} {ty:List Int} {ks:List K02} {i:Nat} {q:List Int}:Kh4 (⟨9,N,ty,ks⟩,(i:Int),q)=some [ty]:=by
 unfold Kh4
 simp only
 rw [if_pos (by decide)]
theorem Kx1 {s:K00} {N:Int} {ty:List Int} {ks:List K02} {p q:List Int} (h:Kv8 s 1 p q):Kh4 (⟨5,N,ty,ks⟩,((1:Nat):Int),1 :: (p ++ q))=some [q,p]:=by
 unfold Kh4
 simp only
 rw [if_neg (by decide),Kpm,bs,show Kpj 5 ((1:Nat):Int)=2 from rfl,if_neg (by decide),h.pp,bs,if_pos (by decide)]
 rfl
theorem Kx2 {s:K00} {N:Int} {ty:List Int} {ks:List K02} {p q:List Int} (h:Kv8 s 2 p q):Kh4 (⟨8,N,ty,ks⟩,((1:Nat):Int),2 :: (p ++ q))=some [p]:=by
 unfold Kh4
 simp only
 rw [if_neg (by decide),Kpm,bs,show Kpj 8 ((1:Nat):Int)=1 from rfl,if_neg (by decide),h.pp,bs,if_neg (by decide),if_pos (by decide)]
 rfl
theorem Kx3 {s:K00} {N:Int} {ty:List Int} {ks:List K02} {p q:List Int} (h:Kv8 s 2 p q):Kh4 (⟨8,N,ty,ks⟩,((2:Nat):Int),2 :: (p ++ q))=some [q]:=by
 unfold Kh4
 simp only
 rw [if_neg (by decide),Kpm,bs,show Kpj 8 ((2:Nat):Int)=1 from rfl,if_neg (by decide),h.pp,bs,if_neg (by decide),if_pos (by decide)]
 rfl
theorem Kx4 {s:K00} {N c:Int} {ty:List Int} {ks:List K02} {p:List Int} (h:Kv9 s c p):Kh4 (⟨12,N,ty,ks⟩,((1:Nat):Int),c :: p)=some [p]:=by
 unfold Kh4
 simp only
 rw [if_neg (by decide),Kpm,bs,show Kpj 12 ((1:Nat):Int)=1 from rfl,if_neg (by decide),h.pp,bs,if_neg (by decide),if_neg (by decide)]
theorem Kx5 {op N:Int} {ty:List Int} {ks:List K02} (h9:op ≠ 9):Kvn ⟨op,N,ty,ks⟩ [] 0=some []:=by
 unfold Kvn
 simp [h9]
theorem Kx6 {N:Int} {ty:List Int} {ks:List K02}:Kvn ⟨9,N,ty,ks⟩ [] 0=some [ty]:=by
 unfold Kvn
 have:=@Kx0 N ty ks 0 []
 simp at this ⊢
 rw [this]
theorem Kx7 {t:K02} {w:Nat} {y0:K03} {l:List K03} {m:List (List Int)} (hw:0 < w) (h:Kh4 (t,(w:Int),y0.fty)=some m):Kvn t (y0 :: l) w=some m:=by
 unfold Kvn
 rw [show decide ((w:Int) > 0)=true from decide_eq_true (by omega),if_pos rfl,bs,if_pos rfl,if_pos rfl,Kwa,bs,bs,h,bs]
theorem Kx8 {t:K02} {i:Nat} {y0:K03} {l:List K03} {m:List (List Int)} (h:Kh4 (t,(i:Int),y0.fty)=some m):Kwq t i (y0 :: l)=m:=by
 unfold Kwq
 simp only
 rw [h]; rfl
theorem kd1 {s:K00} {ctx:List (List Int)} {op N:Int} {ty:List Int} {k0:K02} {y0:K03} (h0:Kwr s ctx ⟨op,N,ty,[k0]⟩ [y0] 0 k0 y0) :
  ∀ (i:Nat) (k:K02),(⟨op,N,ty,[k0]⟩:K02).fKids[i]?=some k→∃ yk,[y0][i]?=some yk∧Kwr s ctx ⟨op,N,ty,[k0]⟩ [y0] i k yk:=by
 intro i k hk
 match i,hk with
 | 0,hk=>cases hk; exact ⟨y0,rfl,h0⟩
 | i + 1,hk=>simp at hk
theorem kd2 {s:K00} {ctx:List (List Int)} {op N:Int} {ty:List Int} {k0 k1:K02} {y0 y1:K03} (h0:Kwr s ctx ⟨op,N,ty,[k0,k1]⟩ [y0,y1] 0 k0 y0) (h1:Kwr s ctx ⟨op,N,ty,[k0,k1]⟩ [y0,y1] 1 k1 y1) :
  ∀ (i:Nat) (k:K02),(⟨op,N,ty,[k0,k1]⟩:K02).fKids[i]?=some k→∃ yk,[y0,y1][i]?=some yk∧Kwr s ctx ⟨op,N,ty,[k0,k1]⟩ [y0,y1] i k yk:=by
 intro i k hk
 match i,hk with
 | 0,hk=>cases hk; exact ⟨y0,rfl,h0⟩
 | 1,hk=>cases hk; exact ⟨y1,rfl,h1⟩
 | i + 2,hk=>simp at hk
theorem kd3 {s:K00} {ctx:List (List Int)} {op N:Int} {ty:List Int} {k0 k1 k2:K02} {y0 y1 y2:K03} (h0:Kwr s ctx ⟨op,N,ty,[k0,k1,k2]⟩ [y0,y1,y2] 0 k0 y0) (h1:Kwr s ctx ⟨op,N,ty,[k0,k1,k2]⟩ [y0,y1,y2] 1 k1 y1) (h2:Kwr s ctx ⟨op,N,ty,[k0,k1,k2]⟩ [y0,y1,y2] 2 k2 y2) :
  ∀ (i:Nat) (k:K02),(⟨op,N,ty,[k0,k1,k2]⟩:K02).fKids[i]?=some k→∃ yk,[y0,y1,y2][i]?=some yk∧Kwr s ctx ⟨op,N,ty,[k0,k1,k2]⟩ [y0,y1,y2] i k yk:=by
 intro i k hk
 match i,hk with
 | 0,hk=>cases hk; exact ⟨y0,rfl,h0⟩
 | 1,hk=>cases hk; exact ⟨y1,rfl,h1⟩
 | 2,hk=>cases hk; exact ⟨y2,rfl,h2⟩
 | i + 3,hk=>simp at hk
theorem Kwr.mk' {s:K00} {n:Nat} {ctx m:List (List Int)} {t k:K02} {y0:K03} {l:List K03} {i:Nat} {x:Kmi} {y:K03} (ha:Kh4 (t,(i:Int),y0.fty)=some m) (r:Kws s n (m ++ ctx) k x y) (hf:x.ffault=0) (hm:∀ q ∈ m,TyS s q) (hl:m.length=Kpj t.fOp i):Kwr s ctx t (y0 :: l) i k y:=by
 have e:=Kx8 (l:=l) ha
 exact ⟨by rw [e]; exact r.im,by rw [r.fa]; exact hf,by rw [e]; exact hm,by rw [e]; exact hl⟩
def Kx9 (s:K00) (n sz:Nat):Prop:=∀ (k:K02) (c:List (List Int)),Kvi s c.length k sz→(∀ q ∈ c,TyS s q)→c.length + 2 * tsz k ≤ 1000000→∃ x y,Kws s n c k x y
theorem Kxa {X:Option K03} {q:List Int} {ns:List Nat} {kids:List K03} (h:q.length ≤ 40) (im:X=some (if (Kw9 q ns kids).1=0 then (⟨(Kw9 q ns kids).2.fty,(Kw9 q ns kids).2.fneeds,(Kw9 q ns kids).2.fkids,0,(Kw9 q ns kids).2.fpath⟩:K03) else ⟨[],[],[],(Kw9 q ns kids).1,[]⟩)):X=some ⟨q,Kte ns,kids,0,[]⟩:=by
 rw [im]
 unfold Kw9
 simp only
 rw [show (if q.length > 40 then (3:Int) else 0)=0 from if_neg (by omega),if_pos rfl]
section
variable {s:K00} {n:Nat} (hs:Ktj s n) {ctx:List (List Int)} {N:Int} {ty:List Int} {ks:List K02}
theorem Kxb {op:Int} {k0:K02} {l:List K02} {x0:Kmi} {y0:K03} (h0:op ≠ 0) (h1:op ≠ 1) (h9:op ≠ 9) (hb:ctx.length + 2 * tsz (⟨op,N,ty,k0 :: l⟩:K02) ≤ 1000000) (r0:Kws s n ctx k0 x0 y0) (f0:x0.ffault ≠ 0) :
  ∃ x y,Kws s n ctx ⟨op,N,ty,k0 :: l⟩ x y:=by
 have hz:tsz k0 + 1 ≤ tsz (⟨op,N,ty,k0 :: l⟩:K02):=by rw [tsz,Kp0]; omega
 have e0:Kmw (s,ctx,⟨op,N,ty,k0 :: l⟩,0)=some ⟨[],[],x0.ffault,0 :: x0.fpath⟩:=Kwu (i:=0) rfl r0 (by omega) f0
 refine Kws.bad (f:=x0.ffault) (p:=0 :: x0.fpath) ?_ (Kvy (by omega) (Kwv (m:=[]) rfl (Kx5 h9) r0 (by omega) (by simp; omega) f0)) f0 (by have:=r0.pl; simp; omega)
 rw [Kmu.eq_def]
 simp [h0,h1,h9,e0,f0]
include hs
theorem Kxc {t:K02} (ht:t.fOp=0) (h:tOk (gN s.fSize true) (yN s.fSize true) ctx.length t=true) (hc:∀ q ∈ ctx,TyS s q) (hb:ctx.length + 2 * tsz t ≤ 1000000):∃ x y,Kws s n ctx t x y:=by
 obtain ⟨i,hi,hl,hk⟩:=Kvl h ht
 obtain ⟨op,N,ty,ks⟩:=t
 simp only at ht hi hk
 subst ht; subst hi; subst hk
 have hq:ctx[i]?=some ctx[i]:=List.getElem?_eq_getElem hl
 have hy:=hc ctx[i] (List.getElem_mem hl)
 have e1:idx ctx (i:Int)=some ctx[i]:=Kn0 hl
 have hz:=Kug ctx.length (by omega)
 have e2:idx (Kte (List.replicate ctx.length 0)) (i:Int)=some (((List.replicate ctx.length (0:Nat))[i]'(by simpa using hl):Nat):Int):=by
  rw [Kn0 (by rw [Ktf]; simpa using hl)]; simp [Kte]
 have e3:List.set (Kte (List.replicate ctx.length 0)) i 1=Kte ((List.replicate ctx.length 0).set i 1):=by unfold Kte; rw [List.map_set]; rfl
 have hf:=Kwd (s:=s) (ty:=ty) (ks:=[]) (zs:=List.replicate ctx.length 0) hq (by simpa using hl) (Kv5 hy)
 have im:=Kvz (p0:=⟨s⟩) (t:=⟨0,(i:Int),ty,[]⟩) (by omega) (Kvq (Nat.le_refl _)) hf
 refine Kws.good (q:=ctx[i]) (ns:=(List.replicate ctx.length 0).set i 1) (kids:=[]) ?_ ?_ (by rw [tsz]; omega) hy (by simp) ?_ rfl (fun i k hk=>by simp at hk)
 ·rw [Kmu.eq_def]
  simp [hz,e1,e2,Kq0 ctx[i] (by have:=Kv5 hy; omega),e3]
 ·exact Kxa (Kv5 hy) im
 ·intro x hx
  have h1:=Ktl hs
  rcases List.mem_or_eq_of_mem_set hx with h | rfl
  ·rw [List.eq_of_mem_replicate h]; omega
  ·exact h1
theorem Kxd {t:K02} (ht:t.fOp=1) (h:tOk (gN s.fSize true) (yN s.fSize true) ctx.length t=true) (hb:ctx.length + 2 * tsz t ≤ 1000000):∃ x y,Kws s n ctx t x y:=by
 have hk:=Kvm h ht
 obtain ⟨op,N,ty,ks⟩:=t
 simp only at ht hk
 subst ht; subst hk
 have hz:=Kug ctx.length (by omega)
 have hf:=Kwe (s:=s) (N:=N) (ty:=ty) (ks:=[]) (ctx:=ctx) (zs:=List.replicate ctx.length 0)
 have im:=Kvz (p0:=⟨s⟩) (t:=⟨1,N,ty,[]⟩) (by omega) (Kvq (Nat.le_refl _)) hf
 refine Kws.good (q:=[0]) (ns:=List.replicate ctx.length 0) (kids:=[]) ?_ ?_ (by rw [tsz]; omega) Kvb (by simp) ?_ rfl (fun i k hk=>by simp at hk)
 ·rw [Kmu.eq_def]
  simp [hz]
 ·exact Kxa (by decide) im
 ·intro x hx
  rw [List.eq_of_mem_replicate hx]
  exact Ktm hs
theorem Kxe {q:List Int} (hq:TyS s q):∃ c r,q=c :: r∧((Koe c).1=0 ↔ c=0)∧(c=0→q=[0]):=by
 rcases Kve hs hq with rfl | ⟨a,b,rfl,_⟩ | ⟨a,b,rfl,_⟩ | ⟨g,a,b,hg,h15,rfl,_⟩ | ⟨g,a,hg,h15,rfl,_⟩
 ·exact ⟨0,[],rfl,by decide,fun _=>rfl⟩
 ·exact ⟨1,_,rfl,by decide,fun h=>absurd h (by decide)⟩
 ·exact ⟨2,_,rfl,by decide,fun h=>absurd h (by decide)⟩
 ·refine ⟨_,_,rfl,?_,fun h=>by omega⟩
  rcases Kog (3 + (g:Int)) with h | h | h | h | h | h | h | h <;> first | omega | (obtain ⟨_,e⟩:=h; rw [e]; simp; omega)
 ·refine ⟨_,_,rfl,?_,fun h=>by omega⟩
  rcases Kog (19 + (g:Int)) with h | h | h | h | h | h | h | h <;> first | omega | (obtain ⟨_,e⟩:=h; rw [e]; simp; omega)
theorem Kxf (ih:Kx9 s n (tsz (⟨6,N,ty,ks⟩:K02))) (h:tOk (gN s.fSize true) (yN s.fSize true) ctx.length ⟨6,N,ty,ks⟩=true) (hc:∀ q ∈ ctx,TyS s q) (hb:ctx.length + 2 * tsz (⟨6,N,ty,ks⟩:K02) ≤ 1000000):∃ x y,Kws s n ctx ⟨6,N,ty,ks⟩ x y:=by
 obtain ⟨k0,rfl,p0⟩:=nd1 h (Nat.le_refl _) rfl
 have hz:=Ksy 6 N ty k0
 have hy:TyS s ty:=Kvk h rfl
 have ly:=Kv5 hy
 obtain ⟨x0,y0,r0⟩:=ih k0 ctx p0 hc (by omega)
 by_cases f0:x0.ffault=0
 rotate_left
 ·exact Kxb (by decide) (by decide) (by decide) hb r0 f0
 obtain ⟨g0,q0,a,na,la,ba⟩:=r0.gd f0
 obtain ⟨c0,t0,ht0,hn0,hz0⟩:=Kxe hs g0
 have L0:=Kv5 g0
 have e0:Kmw (s,ctx,⟨6,N,ty,[k0]⟩,0)=some x0:=Kwt (i:=0) rfl r0 f0
 have o0:=Kwy (out:=[]) (nd:=[]) (us:=[]) (w:=0) (t:=⟨6,N,ty,[k0]⟩) (m:=[]) rfl (Kx5 (by decide)) r0 (by simp; omega) f0 (by rw [ht0]; exact Kw2 (.inl (by decide))) (Kw0 (show (6:Int) ≠ 10 by decide)) na (by simp <;> omega) (by simp) (by simp) (by simp) (by simp)
 have hf:=Kwf (s:=s) (N:=N) (ty:=ty) (ks:=[k0]) (ctx:=ctx) (us:=[Kte []]) (z:=Kte (List.replicate ctx.length 0)) (y0:=y0) (a:=a) (by rw [r0.ty]; omega) (by omega)
 have im:=Kvz (p0:=⟨s⟩) (t:=⟨6,N,ty,[k0]⟩) (ctx:=ctx) (by omega) (o0.trans (Kvq (Nat.le_refl _))) hf
 rw [r0.ty] at im
 refine Kws.done (q:=2 :: (x0.fty ++ ty)) (ns:=a) (kids:=[y0]) ?_ im (by omega) (fun hl=>Kvf hs g0 hy (.inr (.inl rfl)) hl) la ba rfl (kd1 (Kwr.mk' (Kwz (by decide) rfl) r0 f0 (fun _ h=>by cases h) rfl))
 have hg:=Kuj 2 [x0.fty,ty] (by simp) (by simp; omega)
 simp only [List.flatten_cons,List.flatten_nil,List.append_nil] at hg
 rw [Kmu.eq_def]
 simp [e0,f0,hg,na]
theorem Kxg (ih:Kx9 s n (tsz (⟨7,N,ty,ks⟩:K02))) (h:tOk (gN s.fSize true) (yN s.fSize true) ctx.length ⟨7,N,ty,ks⟩=true) (hc:∀ q ∈ ctx,TyS s q) (hb:ctx.length + 2 * tsz (⟨7,N,ty,ks⟩:K02) ≤ 1000000):∃ x y,Kws s n ctx ⟨7,N,ty,ks⟩ x y:=by
 obtain ⟨k0,rfl,p0⟩:=nd1 h (Nat.le_refl _) rfl
 have hz:=Ksy 7 N ty k0
 have hy:TyS s ty:=Kvk h rfl
 have ly:=Kv5 hy
 obtain ⟨x0,y0,r0⟩:=ih k0 ctx p0 hc (by omega)
 by_cases f0:x0.ffault=0
 rotate_left
 ·exact Kxb (by decide) (by decide) (by decide) hb r0 f0
 obtain ⟨g0,q0,a,na,la,ba⟩:=r0.gd f0
 obtain ⟨c0,t0,ht0,hn0,hz0⟩:=Kxe hs g0
 have L0:=Kv5 g0
 have e0:Kmw (s,ctx,⟨7,N,ty,[k0]⟩,0)=some x0:=Kwt (i:=0) rfl r0 f0
 have o0:=Kwy (out:=[]) (nd:=[]) (us:=[]) (w:=0) (t:=⟨7,N,ty,[k0]⟩) (m:=[]) rfl (Kx5 (by decide)) r0 (by simp; omega) f0 (by rw [ht0]; exact Kw2 (.inl (by decide))) (Kw0 (show (7:Int) ≠ 10 by decide)) na (by simp <;> omega) (by simp) (by simp) (by simp) (by simp)
 have hf:=Kwg (s:=s) (N:=N) (ty:=ty) (ks:=[k0]) (ctx:=ctx) (us:=[Kte []]) (z:=Kte (List.replicate ctx.length 0)) (y0:=y0) (a:=a) (by rw [r0.ty]; omega) (by omega)
 have im:=Kvz (p0:=⟨s⟩) (t:=⟨7,N,ty,[k0]⟩) (ctx:=ctx) (by omega) (o0.trans (Kvq (Nat.le_refl _))) hf
 rw [r0.ty] at im
 refine Kws.done (q:=2 :: (ty ++ x0.fty)) (ns:=a) (kids:=[y0]) ?_ im (by omega) (fun hl=>Kvf hs hy g0 (.inr (.inl rfl)) hl) la ba rfl (kd1 (Kwr.mk' (Kwz (by decide) rfl) r0 f0 (fun _ h=>by cases h) rfl))
 have hg:=Kuj 2 [ty,x0.fty] (by simp) (by simp; omega)
 simp only [List.flatten_cons,List.flatten_nil,List.append_nil] at hg
 rw [Kmu.eq_def]
 simp [e0,f0,hg,na]
theorem Kxh (ih:Kx9 s n (tsz (⟨11,N,ty,ks⟩:K02))) (h:tOk (gN s.fSize true) (yN s.fSize true) ctx.length ⟨11,N,ty,ks⟩=true) (hc:∀ q ∈ ctx,TyS s q) (hb:ctx.length + 2 * tsz (⟨11,N,ty,ks⟩:K02) ≤ 1000000):∃ x y,Kws s n ctx ⟨11,N,ty,ks⟩ x y:=by
 obtain ⟨k0,rfl,p0⟩:=nd1 h (Nat.le_refl _) rfl
 have hz:=Ksy 11 N ty k0
 obtain ⟨g,hN,hg'⟩:=Kvh hs (Kvj h rfl)
 simp only at hN
 subst hN
 obtain ⟨x0,y0,r0⟩:=ih k0 ctx p0 hc (by omega)
 by_cases f0:x0.ffault=0
 rotate_left
 ·exact Kxb (by decide) (by decide) (by decide) hb r0 f0
 obtain ⟨g0,q0,a,na,la,ba⟩:=r0.gd f0
 obtain ⟨c0,t0,ht0,hn0,hz0⟩:=Kxe hs g0
 have L0:=Kv5 g0
 have e0:Kmw (s,ctx,⟨11,(g:Int),ty,[k0]⟩,0)=some x0:=Kwt (i:=0) rfl r0 f0
 have o0:=Kwy (out:=[]) (nd:=[]) (us:=[]) (w:=0) (t:=⟨11,(g:Int),ty,[k0]⟩) (m:=[]) rfl (Kx5 (by decide)) r0 (by simp; omega) f0 (by rw [ht0]; exact Kw2 (.inl (by decide))) (Kw0 (show (11:Int) ≠ 10 by decide)) na (by simp <;> omega) (by simp) (by simp) (by simp) (by simp)
 have hf:=Kwl (ty:=ty) (ks:=[k0]) (ctx:=ctx) (us:=[Kte []]) (z:=Kte (List.replicate ctx.length 0)) (y0:=y0) (a:=a) hs hg' ba (by omega) (by rw [r0.ty]; omega)
 have im:=Kvz (p0:=⟨s⟩) (t:=⟨11,(g:Int),ty,[k0]⟩) (ctx:=ctx) (by omega) (o0.trans (Kvq (Nat.le_refl _))) hf
 rw [r0.ty] at im
 have hn:=hs.tab.hi
 refine Kws.done (q:=(19 + (g:Int)) :: x0.fty) (ns:=Kts s n g a) (kids:=[y0]) ?_ im (by omega) (fun hl=>Kvg hs hg' g0 hl) (by unfold Kts; rw [List.length_map]; exact la) (Kty hs hg' ba) rfl (kd1 (Kwr.mk' (Kwz (by decide) rfl) r0 f0 (fun _ h=>by cases h) rfl))
 have hg:=Kuj (19 + (g:Int)) [x0.fty] (by simp) (by simp; omega)
 simp only [List.flatten_cons,List.flatten_nil,List.append_nil] at hg
 have hsc:=Kty hs hg' ba
 have hz0:=Ku1 hs hsc
 rw [show (Kts s n g a).length=ctx.length by unfold Kts; rw [List.length_map]; exact la] at hz0
 have hsum:=Ku3 hs g hg' (List.replicate ctx.length 0) a (fun x hx=>by rw [List.eq_of_mem_replicate hx]; exact Ktm hs) ba (by simp; omega) (by simp [la])
 rw [hz0] at hsum
 have hw:wr (19 + (g:Int))=19 + (g:Int):=Kmz (by omega) (by omega)
 rw [Kmu.eq_def]
 simp [e0,f0,hg,na,hw,Kug ctx.length (by omega),hsum]
theorem Kxi (ih:Kx9 s n (tsz (⟨9,N,ty,ks⟩:K02))) (h:tOk (gN s.fSize true) (yN s.fSize true) ctx.length ⟨9,N,ty,ks⟩=true) (hc:∀ q ∈ ctx,TyS s q) (hb:ctx.length + 2 * tsz (⟨9,N,ty,ks⟩:K02) ≤ 1000000):∃ x y,Kws s n ctx ⟨9,N,ty,ks⟩ x y:=by
 obtain ⟨k0,rfl,p0⟩:=nd1 h (Nat.le_refl _) rfl
 have hz:=Ksy 9 N ty k0
 obtain ⟨g,hN,hg'⟩:=Kvh hs (Kvj h rfl)
 simp only at hN
 subst hN
 have hy:TyS s ty:=Kvk h rfl
 have ly:=Kv5 hy
 have hn:=hs.tab.hi
 have p0':Kvi s ([ty] ++ ctx).length k0 (tsz (⟨9,(g:Int),ty,[k0]⟩:K02)):=by
  have e:([ty] ++ ctx).length=ctx.length + Kpj 9 0:=by simp [Kpj]
  rw [e]; exact p0
 obtain ⟨x0,y0,r0⟩:=ih k0 ([ty] ++ ctx) p0' (fun q hq=>by rcases List.mem_cons.1 hq with rfl | hq; exact hy; exact hc q hq) (by simp; omega)
 have hw9:=Kuh ctx [ty] (by simp; omega)
 by_cases f0:x0.ffault=0
 rotate_left
 ·have e0:Kmw (s,ty :: ctx,⟨9,(g:Int),ty,[k0]⟩,0)=some ⟨[],[],x0.ffault,0 :: x0.fpath⟩:=Kwu (i:=0) rfl r0 (by omega) f0
  refine Kws.bad (f:=x0.ffault) (p:=0 :: x0.fpath) ?_ (Kvy (by omega) (Kwv (m:=[ty]) rfl Kx6 r0 (by omega) (by simp; omega) f0)) f0 (by have:=r0.pl; simp; omega)
  rw [Kmu.eq_def]
  simp [hw9,e0,f0]
 obtain ⟨g0,q0,a,na,la,ba⟩:=r0.gd f0
 obtain ⟨c0,t0,ht0,hn0,hz0⟩:=Kxe hs g0
 have L0:=Kv5 g0
 have e0:Kmw (s,ty :: ctx,⟨9,(g:Int),ty,[k0]⟩,0)=some x0:=Kwt (i:=0) rfl r0 f0
 have la':a.length=ctx.length + 1:=by rw [la]; simp
 obtain ⟨u0,a',rfl⟩:∃ u0 a',a=u0 :: a':=by cases a with | nil=>simp at la' | cons u a'=>exact ⟨u,a',rfl⟩
 obtain ⟨hu0,ba'⟩:=Ktv ba
 have o0:=Kwy (out:=[]) (nd:=[]) (us:=[]) (w:=0) (t:=⟨9,(g:Int),ty,[k0]⟩) (m:=[ty]) rfl Kx6 r0 (by simp; omega) f0 (by rw [ht0]; exact Kw2 (.inl (by decide))) (Kw0 (show (9:Int) ≠ 10 by decide)) na (by simp <;> omega) (by simp) (by simp) (by simp) (by simp)
 simp only [List.length_cons,List.length_nil,Nat.zero_add,List.drop_succ_cons,List.drop_zero,List.take_succ_cons,List.take_zero,List.nil_append] at o0
 have hf:=Kwk (ty:=ty) (ks:=[k0]) (ctx:=ctx) (z:=Kte (List.replicate ctx.length 0)) (y0:=y0) (a:=a') (u:=[u0]) hs hg' (fun x hx=>by simp at hx; rw [hx]; exact hu0) (by simp) (by rw [r0.ty]; omega) (by omega)
 have hl0:=o0.trans (Kvq (Nat.le_refl _))
 have hle:=sLe hs.tab hu0 hg'
 have hw:wr (3 + (g:Int))=3 + (g:Int):=Kmz (by omega) (by omega)
 have hi0:idx x0.fneeds 0=some (u0:Int):=by rw [na]; rfl
 simp only [List.all_cons,List.all_nil,Bool.and_true] at hf
 cases hl:le s n u0 g with
 | false =>
  rw [hl,if_neg (by decide)] at hf
  refine Kws.bad (f:=9) (p:=[]) ?_ (Kvz (by omega) hl0 hf) (by decide) (by simp; omega)
  rw [Kmu.eq_def]
  simp [hw9,e0,f0,hi0,hle,hl,Kmo]
 | true =>
  rw [hl,if_pos rfl] at hf
  have im:=Kvz (by omega) hl0 hf
  rw [r0.ty] at im
  refine Kws.done (q:=(3 + (g:Int)) :: (ty ++ x0.fty)) (ns:=a') (kids:=[y0]) ?_ im (by omega) (fun hl=>Kvf hs hy g0 (.inr (.inr ⟨g,hg',rfl⟩)) hl) (by simpa using la') ba' rfl (kd1 (Kwr.mk' (m:=[ty]) Kx0 r0 f0 (fun q hq=>by simp at hq; rw [hq]; exact hy) rfl))
  have hg:=Kuj (3 + (g:Int)) [ty,x0.fty] (by simp) (by simp; omega)
  simp only [List.flatten_cons,List.flatten_nil,List.append_nil] at hg
  have hcut:cut x0.fneeds (some 1) none none=some (Kte a'):=by rw [na]; exact Kry _ _
  rw [Kmu.eq_def]
  simp [hw9,e0,f0,hi0,hle,hl,hg,hw,hcut,Kq0 (Kte a') (by rw [Ktf]; simp at la'; omega)]
theorem Kxj (ih:Kx9 s n (tsz (⟨4,N,ty,ks⟩:K02))) (h:tOk (gN s.fSize true) (yN s.fSize true) ctx.length ⟨4,N,ty,ks⟩=true) (hc:∀ q ∈ ctx,TyS s q) (hb:ctx.length + 2 * tsz (⟨4,N,ty,ks⟩:K02) ≤ 1000000):∃ x y,Kws s n ctx ⟨4,N,ty,ks⟩ x y:=by
 obtain ⟨k0,k1,rfl,p0,p1⟩:=nd2 h (Nat.le_refl _) rfl
 have hz:=Ksz 4 N ty k0 k1
 obtain ⟨x0,y0,r0⟩:=ih k0 ctx p0 hc (by omega)
 obtain ⟨x1,y1,r1⟩:=ih k1 ctx p1 hc (by omega)
 by_cases f0:x0.ffault=0
 rotate_left
 ·exact Kxb (by decide) (by decide) (by decide) hb r0 f0
 obtain ⟨g0,q0,a,na,la,ba⟩:=r0.gd f0
 obtain ⟨c0,t0,ht0,hn0,hz0⟩:=Kxe hs g0
 have L0:=Kv5 g0
 have e0:Kmw (s,ctx,⟨4,N,ty,[k0,k1]⟩,0)=some x0:=Kwt (i:=0) rfl r0 f0
 have o0:=Kwy (out:=[]) (nd:=[]) (us:=[]) (w:=0) (t:=⟨4,N,ty,[k0,k1]⟩) (m:=[]) rfl (Kx5 (by decide)) r0 (by simp; omega) f0 (by rw [ht0]; exact Kw2 (.inl (by decide))) (Kw0 (show (4:Int) ≠ 10 by decide)) na (by simp <;> omega) (by simp) (by simp) (by simp) (by simp)
 have m1:Kvn ⟨4,N,ty,[k0,k1]⟩ [y0] 1=some []:=Kx7 (by decide) (Kwz (by decide) rfl)
 by_cases f1:x1.ffault=0
 rotate_left
 ·have e1:Kmw (s,ctx,⟨4,N,ty,[k0,k1]⟩,1)=some ⟨[],[],x1.ffault,1 :: x1.fpath⟩:=Kwu (i:=1) rfl r1 (by omega) f1
  refine Kws.bad (f:=x1.ffault) (p:=1 :: x1.fpath) ?_ (Kvy (by omega) (o0.trans (Kwv (m:=[]) rfl m1 r1 (by omega) (by simp; omega) f1))) f1 (by have:=r1.pl; simp; omega)
  rw [Kmu.eq_def]
  simp [e0,f0,e1,f1]
 obtain ⟨g1,q1,b,nb,lb,bb⟩:=r1.gd f1
 obtain ⟨c1,t1,ht1,hn1,hz1⟩:=Kxe hs g1
 have L1:=Kv5 g1
 have e1:Kmw (s,ctx,⟨4,N,ty,[k0,k1]⟩,1)=some x1:=Kwt (i:=1) rfl r1 f1
 have o1:=Kwy (out:=[y0]) (nd:=[Kte a]) (us:=[Kte []]) (w:=1) (t:=⟨4,N,ty,[k0,k1]⟩) (m:=[]) rfl m1 r1 (by simp; omega) f1 (by rw [ht1]; exact Kw2 (.inl (by decide))) (Kw0 (show (4:Int) ≠ 10 by decide)) nb (by simp <;> omega) (by simp) (by simp) (by simp) (by simp)
 have hf:=Kwj (N:=N) (ty:=ty) (ks:=[k0,k1]) (ctx:=ctx) (us:=[Kte [],Kte []]) (z:=Kte (List.replicate ctx.length 0)) (y0:=y0) (y1:=y1) hs ba bb (by omega) (by omega) (by rw [r0.ty]; omega) (by rw [r1.ty]; omega)
 have im:=Kvz (p0:=⟨s⟩) (t:=⟨4,N,ty,[k0,k1]⟩) (ctx:=ctx) (by omega) (o0.trans (o1.trans (Kvq (Nat.le_refl _)))) hf
 rw [r0.ty,r1.ty] at im
 refine Kws.done (q:=1 :: (x0.fty ++ x1.fty)) (ns:=Ktr s n a b) (kids:=[y0,y1]) ?_ im (by omega) (fun hl=>Kvf hs g0 g1 (.inl rfl) hl) (by unfold Ktr; rw [List.length_zipWith]; omega) (Ktx hs ba bb) rfl (kd2 (Kwr.mk' (Kwz (by decide) rfl) r0 f0 (fun _ h=>by cases h) rfl) (Kwr.mk' (Kwz (by decide) rfl) r1 f1 (fun _ h=>by cases h) rfl))
 have hg:=Kuj 1 [x0.fty,x1.fty] (by simp) (by simp; omega)
 simp only [List.flatten_cons,List.flatten_nil,List.append_nil] at hg
 rw [Kmu.eq_def]
 simp [e0,f0,e1,f1,hg,na,nb,Ku4 hs a b ba bb (by omega) (by omega)]
theorem Kxk (ih:Kx9 s n (tsz (⟨2,N,ty,ks⟩:K02))) (h:tOk (gN s.fSize true) (yN s.fSize true) ctx.length ⟨2,N,ty,ks⟩=true) (hc:∀ q ∈ ctx,TyS s q) (hb:ctx.length + 2 * tsz (⟨2,N,ty,ks⟩:K02) ≤ 1000000):∃ x y,Kws s n ctx ⟨2,N,ty,ks⟩ x y:=by
 obtain ⟨k0,k1,rfl,p0,p1⟩:=nd2 h (Nat.le_refl _) rfl
 have hz:=Ksz 2 N ty k0 k1
 obtain ⟨x0,y0,r0⟩:=ih k0 ctx p0 hc (by omega)
 obtain ⟨x1,y1,r1⟩:=ih k1 ctx p1 hc (by omega)
 by_cases f0:x0.ffault=0
 rotate_left
 ·exact Kxb (by decide) (by decide) (by decide) hb r0 f0
 obtain ⟨g0,q0,a,na,la,ba⟩:=r0.gd f0
 obtain ⟨c0,t0,ht0,hn0,hz0⟩:=Kxe hs g0
 have L0:=Kv5 g0
 have e0:Kmw (s,ctx,⟨2,N,ty,[k0,k1]⟩,0)=some x0:=Kwt (i:=0) rfl r0 f0
 have i0:idx x0.fty 0=some c0:=by rw [ht0]; rfl
 by_cases z0:c0=0
 rotate_left
 ·refine Kws.bad (f:=2) (p:=[]) ?_ (Kvy (by omega) (Kww (m:=[]) rfl (Kx5 (by decide)) r0 (by simp; omega) f0 (by rw [ht0,Kw3,if_neg (by rw [hn0]; exact z0)]) (by decide))) (by decide) (by simp; omega)
  rw [Kmu.eq_def]
  simp [e0,f0,i0,z0,Kmo]
 have u0:=hz0 z0
 have s0:(Koe c0).1=0:=hn0.2 z0
 have o0:=Kwy (out:=[]) (nd:=[]) (us:=[]) (w:=0) (t:=⟨2,N,ty,[k0,k1]⟩) (m:=[]) rfl (Kx5 (by decide)) r0 (by simp; omega) f0 (by rw [ht0,Kw3,if_pos s0]) (Kw0 (show (2:Int) ≠ 10 by decide)) na (by simp <;> omega) (by simp) (by simp) (by simp) (by simp)
 have m1:Kvn ⟨2,N,ty,[k0,k1]⟩ [y0] 1=some []:=Kx7 (by decide) (Kwz (by decide) rfl)
 by_cases f1:x1.ffault=0
 rotate_left
 ·have e1:Kmw (s,ctx,⟨2,N,ty,[k0,k1]⟩,1)=some ⟨[],[],x1.ffault,1 :: x1.fpath⟩:=Kwu (i:=1) rfl r1 (by omega) f1
  refine Kws.bad (f:=x1.ffault) (p:=1 :: x1.fpath) ?_ (Kvy (by omega) (o0.trans (Kwv (m:=[]) rfl m1 r1 (by omega) (by simp; omega) f1))) f1 (by have:=r1.pl; simp; omega)
  rw [Kmu.eq_def]
  simp [e0,f0,i0,z0,Kmx.eq_def,e1,f1]
 obtain ⟨g1,q1,b,nb,lb,bb⟩:=r1.gd f1
 obtain ⟨c1,t1,ht1,hn1,hz1⟩:=Kxe hs g1
 have L1:=Kv5 g1
 have e1:Kmw (s,ctx,⟨2,N,ty,[k0,k1]⟩,1)=some x1:=Kwt (i:=1) rfl r1 f1
 have i1:idx x1.fty 0=some c1:=by rw [ht1]; rfl
 by_cases z1:c1=0
 rotate_left
 ·refine Kws.bad (f:=2) (p:=[]) ?_ (Kvy (by omega) (o0.trans (Kww (m:=[]) rfl m1 r1 (by simp; omega) f1 (by rw [ht1,Kw3,if_neg (by rw [hn1]; exact z1)]) (by decide)))) (by decide) (by simp; omega)
  rw [Kmu.eq_def]
  simp [e0,f0,i0,z0,e1,f1,i1,z1,Kmo,Kmx.eq_def]
 have u1:=hz1 z1
 have s1:(Koe c1).1=0:=hn1.2 z1
 have o1:=Kwy (out:=[y0]) (nd:=[Kte a]) (us:=[Kte []]) (w:=1) (t:=⟨2,N,ty,[k0,k1]⟩) (m:=[]) rfl m1 r1 (by simp; omega) f1 (by rw [ht1,Kw3,if_pos s1]) (Kw0 (show (2:Int) ≠ 10 by decide)) nb (by simp <;> omega) (by simp) (by simp) (by simp) (by simp)
 have hf:=Kwh (N:=N) (ty:=ty) (ks:=[k0,k1]) (ctx:=ctx) (us:=[Kte [],Kte []]) (z:=Kte (List.replicate ctx.length 0)) (y0:=y0) (y1:=y1) hs ba bb (by omega) (by omega)
 have im:=Kvz (p0:=⟨s⟩) (t:=⟨2,N,ty,[k0,k1]⟩) (ctx:=ctx) (by omega) (o0.trans (o1.trans (Kvq (Nat.le_refl _)))) hf
 replace im:=Kxa (q:=[0]) (ns:=Ktr s n a b) (kids:=[y0,y1]) (by decide) im
 refine Kws.good (q:=[0]) (ns:=Ktr s n a b) (kids:=[y0,y1]) ?_ im (by omega) Kvb (by unfold Ktr; rw [List.length_zipWith]; omega) (Ktx hs ba bb) rfl (kd2 (Kwr.mk' (Kwz (by decide) rfl) r0 f0 (fun _ h=>by cases h) rfl) (Kwr.mk' (Kwz (by decide) rfl) r1 f1 (fun _ h=>by cases h) rfl))
 rw [Kmu.eq_def]
 simp [e0,f0,i0,z0,e1,f1,i1,z1,na,nb,u1,Kwa,Ku4 hs a b ba bb (by omega) (by omega),Kmx.eq_def]
theorem Kxl (ih:Kx9 s n (tsz (⟨3,N,ty,ks⟩:K02))) (h:tOk (gN s.fSize true) (yN s.fSize true) ctx.length ⟨3,N,ty,ks⟩=true) (hc:∀ q ∈ ctx,TyS s q) (hb:ctx.length + 2 * tsz (⟨3,N,ty,ks⟩:K02) ≤ 1000000):∃ x y,Kws s n ctx ⟨3,N,ty,ks⟩ x y:=by
 obtain ⟨k0,k1,k2,rfl,p0,p1,p2⟩:=nd3 h (Nat.le_refl _) rfl
 have hz:=Kt0 3 N ty k0 k1 k2
 obtain ⟨x0,y0,r0⟩:=ih k0 ctx p0 hc (by omega)
 obtain ⟨x1,y1,r1⟩:=ih k1 ctx p1 hc (by omega)
 obtain ⟨x2,y2,r2⟩:=ih k2 ctx p2 hc (by omega)
 by_cases f0:x0.ffault=0
 rotate_left
 ·exact Kxb (by decide) (by decide) (by decide) hb r0 f0
 obtain ⟨g0,q0,a,na,la,ba⟩:=r0.gd f0
 obtain ⟨c0,t0,ht0,hn0,hz0⟩:=Kxe hs g0
 have L0:=Kv5 g0
 have e0:Kmw (s,ctx,⟨3,N,ty,[k0,k1,k2]⟩,0)=some x0:=Kwt (i:=0) rfl r0 f0
 have i0:idx x0.fty 0=some c0:=by rw [ht0]; rfl
 by_cases z0:c0=0
 rotate_left
 ·refine Kws.bad (f:=2) (p:=[]) ?_ (Kvy (by omega) (Kww (m:=[]) rfl (Kx5 (by decide)) r0 (by simp; omega) f0 (by rw [ht0,Kw4,if_neg (by rw [hn0]; exact z0)]) (by decide))) (by decide) (by simp; omega)
  rw [Kmu.eq_def]
  simp [e0,f0,i0,z0,Kmo]
 have u0:=hz0 z0
 have s0:(Koe c0).1=0:=hn0.2 z0
 have o0:=Kwy (out:=[]) (nd:=[]) (us:=[]) (w:=0) (t:=⟨3,N,ty,[k0,k1,k2]⟩) (m:=[]) rfl (Kx5 (by decide)) r0 (by simp; omega) f0 (by rw [ht0,Kw4,if_pos s0]) (Kw0 (show (3:Int) ≠ 10 by decide)) na (by simp <;> omega) (by simp) (by simp) (by simp) (by simp)
 have m1:Kvn ⟨3,N,ty,[k0,k1,k2]⟩ [y0] 1=some []:=Kx7 (by decide) (Kwz (by decide) rfl)
 by_cases f1:x1.ffault=0
 rotate_left
 ·have e1:Kmw (s,ctx,⟨3,N,ty,[k0,k1,k2]⟩,1)=some ⟨[],[],x1.ffault,1 :: x1.fpath⟩:=Kwu (i:=1) rfl r1 (by omega) f1
  refine Kws.bad (f:=x1.ffault) (p:=1 :: x1.fpath) ?_ (Kvy (by omega) (o0.trans (Kwv (m:=[]) rfl m1 r1 (by omega) (by simp; omega) f1))) f1 (by have:=r1.pl; simp; omega)
  rw [Kmu.eq_def]
  simp [e0,f0,i0,z0,Kmx.eq_def,e1,f1]
 obtain ⟨g1,q1,b,nb,lb,bb⟩:=r1.gd f1
 obtain ⟨c1,t1,ht1,hn1,hz1⟩:=Kxe hs g1
 have L1:=Kv5 g1
 have e1:Kmw (s,ctx,⟨3,N,ty,[k0,k1,k2]⟩,1)=some x1:=Kwt (i:=1) rfl r1 f1
 have o1:=Kwy (out:=[y0]) (nd:=[Kte a]) (us:=[Kte []]) (w:=1) (t:=⟨3,N,ty,[k0,k1,k2]⟩) (m:=[]) rfl m1 r1 (by simp; omega) f1 (by rw [ht1]; exact Kw2 (.inr (by decide))) (Kw0 (show (3:Int) ≠ 10 by decide)) nb (by simp <;> omega) (by simp) (by simp) (by simp) (by simp)
 have m2:Kvn ⟨3,N,ty,[k0,k1,k2]⟩ [y0,y1] 2=some []:=Kx7 (by decide) (Kwz (by decide) rfl)
 by_cases f2:x2.ffault=0
 rotate_left
 ·have e2:Kmw (s,ctx,⟨3,N,ty,[k0,k1,k2]⟩,2)=some ⟨[],[],x2.ffault,2 :: x2.fpath⟩:=Kwu (i:=2) rfl r2 (by omega) f2
  refine Kws.bad (f:=x2.ffault) (p:=2 :: x2.fpath) ?_ (Kvy (by omega) (o0.trans (o1.trans (Kwv (m:=[]) rfl m2 r2 (by omega) (by simp; omega) f2)))) f2 (by have:=r2.pl; simp; omega)
  rw [Kmu.eq_def]
  simp [e0,f0,i0,z0,e1,f1,Kmx.eq_def,e2,f2]
 obtain ⟨g2,q2,d,nd,ld,bd⟩:=r2.gd f2
 obtain ⟨c2,t2,ht2,hn2,hz2⟩:=Kxe hs g2
 have L2:=Kv5 g2
 have e2:Kmw (s,ctx,⟨3,N,ty,[k0,k1,k2]⟩,2)=some x2:=Kwt (i:=2) rfl r2 f2
 have o2:=Kwy (out:=[y0,y1]) (nd:=[Kte a,Kte b]) (us:=[Kte [],Kte []]) (w:=2) (t:=⟨3,N,ty,[k0,k1,k2]⟩) (m:=[]) rfl m2 r2 (by simp; omega) f2 (by rw [ht2]; exact Kw2 (.inr (by decide))) (Kw0 (show (3:Int) ≠ 10 by decide)) nd (by simp <;> omega) (by simp) (by simp) (by simp) (by simp)
 have hf:=Kwi (N:=N) (ty:=ty) (ks:=[k0,k1,k2]) (ctx:=ctx) (us:=[Kte [],Kte [],Kte []]) (z:=Kte (List.replicate ctx.length 0)) (y0:=y0) (y1:=y1) (y2:=y2) hs ba bb bd (by omega) (by omega) (by omega) (by rw [r2.ty]; omega) (by rw [r1.ty]; omega)
 have hl0:=o0.trans (o1.trans (o2.trans (Kvq (Nat.le_refl _))))
 
 have hsm:=Ksc x1.fty x2.fty (by omega)
 have lj:(Ktt s n b d).length=ctx.length:=by unfold Ktt; rw [List.length_zipWith]; omega
 rw [r1.ty,r2.ty] at hf
 by_cases hq:x1.fty=x2.fty
 ·rw [if_pos hq] at hf
  have im:=Kvz (by omega) hl0 hf
  replace im:=Kxa (q:=x1.fty) (ns:=Ktr s n a (Ktt s n b d)) (kids:=[y0,y1,y2]) (by omega) im
  refine Kws.good (q:=x1.fty) (ns:=Ktr s n a (Ktt s n b d)) (kids:=[y0,y1,y2]) ?_ im (by omega) g1 (by unfold Ktr; rw [List.length_zipWith]; omega) (Ktx hs ba (Ktz hs bb bd)) rfl (kd3 (Kwr.mk' (Kwz (by decide) rfl) r0 f0 (fun _ h=>by cases h) rfl) (Kwr.mk' (Kwz (by decide) rfl) r1 f1 (fun _ h=>by cases h) rfl) (Kwr.mk' (Kwz (by decide) rfl) r2 f2 (fun _ h=>by cases h) rfl))
  rw [show (x1.fty == x2.fty)=true from beq_iff_eq.2 hq] at hsm
  rw [Kmu.eq_def]
  simp [e0,f0,i0,z0,e1,f1,e2,f2,hsm,na,nb,nd,Ku6 hs b d bb bd (by omega) (by omega),Ku4 hs a (Ktt s n b d) ba (Ktz hs bb bd) (by omega) (by omega),Kmx.eq_def]
 ·rw [if_neg hq] at hf
  refine Kws.bad (f:=3) (p:=[]) ?_ (Kvz (by omega) hl0 hf) (by decide) (by simp; omega)
  rw [show (x1.fty == x2.fty)=false from beq_eq_false_iff_ne.2 hq] at hsm
  rw [Kmu.eq_def]
  simp [e0,f0,i0,z0,e1,f1,e2,f2,hsm,Kmx.eq_def,Kmo]
end
end Go.Am
