/- Plain laws of the printed functions. -/
import Derived.Test.YtmcpomoofkjfcaaGreatPCT0
set_option linter.unusedSimpArgs false
set_option linter.unusedVariables false
namespace Go.Am
def Ky3 (l:List Nat):List Int:=l.map fun x:Nat=>(x:Int)
theorem Ky4 (l:List Nat):(Ky3 l).length=l.length:=List.length_map ..
theorem Ky5 (l:List Nat) (i:Nat):(Ky3 l).drop i=Ky3 (l.drop i):=(List.map_drop ..).symm
theorem Ky6 (l:List Nat) (i:Nat):(Ky3 l).take i=Ky3 (l.take i):=(List.map_take ..).symm
theorem Ky7 {l r:List Nat} {x i:Nat} (h:l.drop i=x :: r):i < l.length∧idx (Ky3 l) (i:Int)=some (x:Int)∧l.drop (i + 1)=r:=by
 have h2:(Ky3 l).drop i=(x:Int) :: Ky3 r:=by rw [Ky5,h]; rfl
 obtain ⟨q1,q2,q3⟩:=Ksr h2
 rw [Ky4] at q1
 refine ⟨q1,q2,?_⟩
 rw [← List.drop_drop,h]
 rfl
structure Ky8 (s:K00) (n:Nat):Prop where
 tab:Tab s n
 one:∀ a,a < n→Ks4 s n a=true
 two:∀ a b,a < n→b < n→Ksh s n a b=true
theorem Ky9 {s:K00} (h:Kve s=true):Ky8 s s.fSize.toNat:=by
 have ht:=Kvf h
 unfold Kve at h
 simp only [Bool.and_eq_true] at h
 have hm:=h.2
 unfold Ksk at hm
 rw [List.all_eq_true] at hm
 refine ⟨ht,fun a ha=>?_,fun a b ha hb=>?_⟩
 ·have:=hm a (by rw [List.mem_range'_1]; omega)
  simp only [Bool.and_eq_true] at this
  exact this.1
 ·have:=hm a (by rw [List.mem_range'_1]; omega)
  simp only [Bool.and_eq_true,List.all_eq_true] at this
  exact (this.2 b (by rw [List.mem_range'_1]; omega)).1
section
variable {s:K00} {n:Nat} (hs:Ky8 s n)
include hs
theorem Kya:1 < n:=by have:=hs.tab.lo; omega
theorem Kyb:0 < n:=by have:=hs.tab.lo; omega
theorem Kyc {a:Nat} (ha:a < n):pl s n 0 a=a:=by
 have:=hs.one a ha
 simp only [Ks4,Bool.and_eq_true,beq_iff_eq] at this
 exact this.1.1.1.1.1
theorem Kyd {a:Nat} (ha:a < n):ti s n 1 a=a:=by
 have:=hs.one a ha
 simp only [Ks4,Bool.and_eq_true,beq_iff_eq] at this
 exact this.1.1.1.1.2
def Kye (s:K00) (n a b:Nat):Nat:=(Ksa s n a b).toNat
theorem Kyf {a b:Nat} (ha:a < n) (hb:b < n):Ksa s n a b=((Kye s n a b:Nat):Int)∧Kye s n a b < n:=by
 have h:=hs.two a b ha hb
 simp only [Ksh,Bool.and_eq_true,decide_eq_true_eq] at h
 have h0:=h.2
 unfold Kye
 refine ⟨by omega,?_⟩
 unfold Ksa at h0 ⊢
 cases hf:(List.range' 0 n).find? (jok s n a b) with
 | none=>rw [hf] at h0; exact absurd h0 (by decide)
 | some g =>
  have:=List.mem_of_find?_eq_some hf
  rw [List.mem_range'_1] at this
  simp only [Int.toNat_natCast]
  omega
end
def Kyg (s:K00) (n:Nat) (a b:List Nat):List Nat:=List.zipWith (pl s n) a b
def Kyh (s:K00) (n g:Nat) (a:List Nat):List Nat:=a.map (ti s n g)
def Kyi (s:K00) (n:Nat) (a b:List Nat):List Nat:=List.zipWith (Kye s n) a b
def Kyj (n:Nat) (l:List Nat):Prop:=∀ x ∈ l,x < n
theorem Kyk {n x:Nat} {l:List Nat} (h:Kyj n (x :: l)):x < n∧Kyj n l:=⟨h x List.mem_cons_self,fun y hy=>h y (List.mem_cons_of_mem _ hy)⟩
theorem Kyl {n:Nat} {l:List Nat} (h:Kyj n l) (i:Nat):Kyj n (l.drop i):=fun x hx=>h x (List.mem_of_mem_drop hx)
section
variable {s:K00} {n:Nat} (hs:Ky8 s n)
include hs
theorem Kym:∀ {a b:List Nat},Kyj n a→Kyj n b→Kyj n (Kyg s n a b)
 | [],_,_,_=>fun x hx=>by cases hx
 | _ :: _,[],_,_=>fun x hx=>by cases hx
 | x :: a,y :: b,ha,hb=>fun z hz=>by
  obtain ⟨h1,h2⟩:=Kyk ha
  obtain ⟨h3,h4⟩:=Kyk hb
  rcases List.mem_cons.1 hz with rfl | hz
  ·exact Krt hs.tab h1 h3
  ·exact Kym h2 h4 z hz
theorem Kyn {g:Nat} (hg:g < n) {a:List Nat} (ha:Kyj n a):Kyj n (Kyh s n g a):=fun x hx=>by
 obtain ⟨y,hy,rfl⟩:=List.mem_map.1 hx
 exact Kru hs.tab hg (ha y hy)
theorem Kyo:∀ {a b:List Nat},Kyj n a→Kyj n b→Kyj n (Kyi s n a b)
 | [],_,_,_=>fun x hx=>by cases hx
 | _ :: _,[],_,_=>fun x hx=>by cases hx
 | x :: a,y :: b,ha,hb=>fun z hz=>by
  obtain ⟨h1,h2⟩:=Kyk ha
  obtain ⟨h3,h4⟩:=Kyk hb
  rcases List.mem_cons.1 hz with rfl | hz
  ·exact (Kyf hs h1 h3).2
  ·exact Kyo h2 h4 z hz
theorem Kyp {a:List Nat} (ha:Kyj n a):Kyh s n 1 a=a:=by
 induction a with
 | nil=>rfl
 | cons x a ih =>
  obtain ⟨h1,h2⟩:=Kyk ha
  show ti s n 1 x :: Kyh s n 1 a=_
  rw [Kyd hs h1,ih h2]
theorem Kyq {a:List Nat} (ha:Kyj n a):Kyg s n (List.replicate a.length 0) a=a:=by
 induction a with
 | nil=>rfl
 | cons x a ih =>
  obtain ⟨h1,h2⟩:=Kyk ha
  show pl s n 0 x :: Kyg s n (List.replicate a.length 0) a=_
  rw [Kyc hs h1,ih h2]
theorem Kyr (g:Nat) (hg:g < n) (a b:List Nat) (ha:Kyj n a) (hb:Kyj n b) (hl:a.length ≤ 1099511627776):∀ (al bl:List Nat) (i:Nat) (out:List Int),a.drop i=al→b.drop i=bl→al.length=bl.length→out.length + al.length ≤ 1099511627776 →
  Keo (s,Ky3 a,(g:Int),Ky3 b,out,(i:Int))=some (out ++ Ky3 (Kyg s n al (Kyh s n g bl))):=by
 intro al
 induction al with
 | nil =>
  intro bl i out hd _ _ _
  rw [Keo.eq_def]
  simp only
  rw [Ky4,Kre (Kss hd)]
  simp [Kyg,Ky3]
 | cons x al ih =>
  intro bl i out hd hd2 hll ho
  cases bl with
  | nil=>simp at hll
  | cons y bl =>
   obtain ⟨h1,h2,h3⟩:=Ky7 hd
   obtain ⟨k1,k2,k3⟩:=Ky7 hd2
   have hx:x < n:=Kyl ha i x (by rw [hd]; exact List.mem_cons_self)
   have hy:y < n:=Kyl hb i y (by rw [hd2]; exact List.mem_cons_self)
   rw [Keo.eq_def]
   simp only
   simp only [List.length_cons] at ho hll
   rw [Ky4,Krd h1,if_pos rfl,h2,bs,k2,bs,Krz hs.tab hg hy,bs,Kry hs.tab hx (Kru hs.tab hg hy),bs,Kv0 (by simp; omega),bs,Krc (by omega),ih bl (i + 1) _ h3 k3 (by omega) (by simp; omega)]
   rw [List.append_assoc]
   rfl
theorem Kys (g:Nat) (hg:g < n) (a b:List Nat) (ha:Kyj n a) (hb:Kyj n b) (hl:a.length ≤ 1048576) (hab:a.length=b.length):Ker (s,Ky3 a,(g:Int),Ky3 b)=some (Ky3 (Kyg s n a (Kyh s n g b))):=by
 unfold Ker
 simp only
 rw [show (0:Int)=((0:Nat):Int) from rfl,Kyr hs g hg a b ha hb (by omega) a b 0 [] rfl rfl hab (by simp; omega)]
 rfl
theorem Kyt (a b:List Nat) (ha:Kyj n a) (hb:Kyj n b) (hl:a.length ≤ 1048576) (hab:a.length=b.length):Ker (s,Ky3 a,1,Ky3 b)=some (Ky3 (Kyg s n a b)):=by
 have:=Kys hs 1 (Kya hs) a b ha hb hl hab
 rw [Kyp hs hb] at this
 exact this
theorem Kyu (a b:List Nat) (ha:Kyj n a) (hb:Kyj n b) (hl:a.length ≤ 1099511627776):∀ (al bl:List Nat) (i:Nat) (out:List Int),a.drop i=al→b.drop i=bl→al.length=bl.length→out.length + al.length ≤ 1099511627776 →
  Kf8 (s,Ky3 a,Ky3 b,out,(i:Int))=some (out ++ Ky3 (Kyi s n al bl)):=by
 intro al
 induction al with
 | nil =>
  intro bl i out hd _ _ _
  rw [Kf8.eq_def]
  simp only
  rw [Ky4,Kre (Kss hd)]
  simp [Kyi,Ky3]
 | cons x al ih =>
  intro bl i out hd hd2 hll ho
  cases bl with
  | nil=>simp at hll
  | cons y bl =>
   obtain ⟨h1,h2,h3⟩:=Ky7 hd
   obtain ⟨k1,k2,k3⟩:=Ky7 hd2
   have hx:x < n:=Kyl ha i x (by rw [hd]; exact List.mem_cons_self)
   have hy:y < n:=Kyl hb i y (by rw [hd2]; exact List.mem_cons_self)
   rw [Kf8.eq_def]
   simp only
   simp only [List.length_cons] at ho hll
   rw [Ky4,Krd h1,if_pos rfl,h2,bs,k2,bs,Ksf hs.tab hx hy,bs,(Kyf hs hx hy).1,Kv0 (by simp; omega),bs,Krc (by omega),ih bl (i + 1) _ h3 k3 (by omega) (by simp; omega)]
   rw [List.append_assoc]
   rfl
theorem Kyv (a b:List Nat) (ha:Kyj n a) (hb:Kyj n b) (hl:a.length ≤ 1048576) (hab:a.length=b.length):Kfb (s,Ky3 a,Ky3 b)=some (Ky3 (Kyi s n a b)):=by
 unfold Kfb
 simp only
 rw [show (0:Int)=((0:Nat):Int) from rfl,Kyu hs a b ha hb (by omega) a b 0 [] rfl rfl hab (by simp; omega)]
 rfl
end
theorem Kyw {α:Type} {out:List α} {i:Nat} (h:i < out.length) (x:α):(out.set i x).take (i + 1)=out.take i ++ [x]:=by
 rw [List.take_set,List.take_succ_eq_append_getElem h,List.set_append_right _ _ (by simp; omega)]
 simp [Nat.min_eq_left (Nat.le_of_lt h)]
section
variable {s:K00} {n:Nat} (hs:Ky8 s n)
include hs
theorem Kyx (a b:List Nat) (ha:Kyj n a) (hb:Kyj n b) (hl:a.length ≤ 1099511627776):∀ (al bl:List Nat) (i:Nat) (out:List Int),a.drop i=al→b.drop i=bl→al.length=bl.length→out.length=a.length →
  Kku (s,Ky3 a,Ky3 b,out,(i:Int))=some (out.take i ++ Ky3 (Kyg s n al bl)):=by
 intro al
 induction al with
 | nil =>
  intro bl i out hd _ _ ho
  rw [Kku.eq_def]
  simp only
  have:=Kss hd
  rw [Ky4,Kre this]
  simp [Kyg,Ky3,List.take_of_length_le (show out.length ≤ i by omega)]
 | cons x al ih =>
  intro bl i out hd hd2 hll ho
  cases bl with
  | nil=>simp at hll
  | cons y bl =>
   obtain ⟨h1,h2,h3⟩:=Ky7 hd
   obtain ⟨k1,k2,k3⟩:=Ky7 hd2
   have hx:x < n:=Kyl ha i x (by rw [hd]; exact List.mem_cons_self)
   have hy:y < n:=Kyl hb i y (by rw [hd2]; exact List.mem_cons_self)
   rw [Kku.eq_def]
   simp only
   simp only [List.length_cons] at hll
   have hio:i < out.length:=by omega
   rw [Ky4,Krd h1,if_pos rfl,h2,bs,k2,bs,Ks0 hs.tab hx hy,bs,Krb hio,bs,Krc (by omega),Int.toNat_natCast,ih bl (i + 1) _ h3 k3 (by omega) (by rw [List.length_set]; exact ho)]
   rw [Kyw hio,List.append_assoc]
   rfl
theorem Kyy (a b:List Nat) (ha:Kyj n a) (hb:Kyj n b) (hl:a.length ≤ 1048576) (hab:a.length=b.length):Kl0 (⟨s⟩,Ky3 a,Ky3 b)=some (Ky3 (Kyg s n a b)):=by
 unfold Kl0 Kkx
 simp only
 rw [Ky4,Kxj (by simp; omega),bs,Int.toNat_natCast,show (0:Int)=((0:Nat):Int) from rfl]
 rw [show (List.replicate a.length (((0:Nat):Int)))=List.replicate a.length (0:Int) from rfl,Kyx hs a b ha hb (by omega) a b 0 _ rfl rfl hab (by simp)]
 rfl
theorem Kyz (a b:List Nat) (ha:Kyj n a) (hb:Kyj n b) (hl:a.length ≤ 1099511627776):∀ (al bl:List Nat) (i:Nat) (out:List Int),a.drop i=al→b.drop i=bl→al.length=bl.length→out.length=a.length →
  Kl7 (s,Ky3 a,Ky3 b,out,(i:Int))=some (out.take i ++ Ky3 (Kyi s n al bl)):=by
 intro al
 induction al with
 | nil =>
  intro bl i out hd _ _ ho
  rw [Kl7.eq_def]
  simp only
  have:=Kss hd
  rw [Ky4,Kre this]
  simp [Kyi,Ky3,List.take_of_length_le (show out.length ≤ i by omega)]
 | cons x al ih =>
  intro bl i out hd hd2 hll ho
  cases bl with
  | nil=>simp at hll
  | cons y bl =>
   obtain ⟨h1,h2,h3⟩:=Ky7 hd
   obtain ⟨k1,k2,k3⟩:=Ky7 hd2
   have hx:x < n:=Kyl ha i x (by rw [hd]; exact List.mem_cons_self)
   have hy:y < n:=Kyl hb i y (by rw [hd2]; exact List.mem_cons_self)
   rw [Kl7.eq_def]
   simp only
   simp only [List.length_cons] at hll
   have hio:i < out.length:=by omega
   rw [Ky4,Krd h1,if_pos rfl,h2,bs,k2,bs,Ksg hs.tab hx hy,bs,(Kyf hs hx hy).1,Krb hio,bs,Krc (by omega),Int.toNat_natCast,ih bl (i + 1) _ h3 k3 (by omega) (by rw [List.length_set]; exact ho)]
   rw [Kyw hio,List.append_assoc]
   rfl
theorem Kz0 (a b:List Nat) (ha:Kyj n a) (hb:Kyj n b) (hl:a.length ≤ 1048576) (hab:a.length=b.length):Kld (⟨s⟩,Ky3 a,Ky3 b)=some (Ky3 (Kyi s n a b)):=by
 unfold Kld Kla
 simp only
 rw [Ky4,Kxj (by simp; omega),bs,Int.toNat_natCast,show (0:Int)=((0:Nat):Int) from rfl]
 rw [show (List.replicate a.length (((0:Nat):Int)))=List.replicate a.length (0:Int) from rfl,Kyz hs a b ha hb (by omega) a b 0 _ rfl rfl hab (by simp)]
 rfl
theorem Kz1 (g:Nat) (hg:g < n) (a:List Nat) (ha:Kyj n a) (hl:a.length ≤ 1099511627776):∀ (al:List Nat) (i:Nat) (out:List Int),a.drop i=al→out.length=a.length →
  Kmb (⟨s⟩,(g:Int),Ky3 a,out,(i:Int))=some (out.take i ++ Ky3 (Kyh s n g al)):=by
 intro al
 induction al with
 | nil =>
  intro i out hd ho
  rw [Kmb.eq_def]
  simp only
  have:=Kss hd
  rw [Ky4,Kre this]
  simp [Kyh,Ky3,List.take_of_length_le (show out.length ≤ i by omega)]
 | cons x al ih =>
  intro i out hd ho
  obtain ⟨h1,h2,h3⟩:=Ky7 hd
  have hx:x < n:=Kyl ha i x (by rw [hd]; exact List.mem_cons_self)
  rw [Kmb.eq_def]
  simp only
  have hio:i < out.length:=by omega
  rw [Ky4,Krd h1,if_pos rfl,h2,bs,Ks1 hs.tab hg hx,bs,Krb hio,bs,Krc (by omega),Int.toNat_natCast,ih (i + 1) _ h3 (by rw [List.length_set]; exact ho)]
  rw [Kyw hio,List.append_assoc]
  rfl
theorem Kz2 (g:Nat) (hg:g < n) (a:List Nat) (ha:Kyj n a) (hl:a.length ≤ 1048576):Kme (⟨s⟩,(g:Int),Ky3 a)=some (Ky3 (Kyh s n g a)):=by
 unfold Kme
 simp only
 rw [Ky4,Kxj (by simp; omega),bs,Int.toNat_natCast,show (0:Int)=((0:Nat):Int) from rfl]
 rw [show (List.replicate a.length (((0:Nat):Int)))=List.replicate a.length (0:Int) from rfl,Kz1 hs g hg a ha (by omega) a 0 _ rfl (by simp)]
 rfl
theorem Kz3 (g:Nat) (hg:g < n) (a:List Nat) (ha:Kyj n a) (hl:a.length ≤ 1099511627776):∀ (al:List Nat) (i:Nat),a.drop i=al →
  ∃ r,Kly (Ky3 a,⟨s⟩,(g:Int),(i:Int))=some r∧(match r with | .inl _=>(al.all fun x=>le s n x g)=true | .inr j=>(al.all fun x=>le s n x g)=false∧0 ≤ j):=by
 intro al
 induction al with
 | nil =>
  intro i hd
  rw [Kly.eq_def]
  simp only
  rw [Ky4,Kre (Kss hd)]
  exact ⟨_,rfl,rfl⟩
 | cons x al ih =>
  intro i hd
  obtain ⟨h1,h2,h3⟩:=Ky7 hd
  have hx:x < n:=Kyl ha i x (by rw [hd]; exact List.mem_cons_self)
  rw [Kly.eq_def]
  simp only
  rw [Ky4,Krd h1,if_pos rfl,h2,bs]
  unfold Klu
  simp only
  rw [iLe hs.tab hx hg]
  simp only [bs]
  cases hle:le s n x g with
  | true =>
   obtain ⟨r,hr,hm⟩:=ih (i + 1) h3
   refine ⟨r,?_,?_⟩
   ·rw [if_neg (by simp),Krc (by omega)]; exact hr
   ·rw [List.all_cons,hle,Bool.true_and]; exact hm
  | false =>
   exact ⟨_,if_pos rfl,by simp [List.all_cons,hle]⟩
theorem Kz4 (g:Nat) (hg:g < n) (a:List Nat) (ha:Kyj n a) (hl:a.length ≤ 1048576):Km7 (⟨s⟩,Ky3 a,(g:Int))=some (a.all fun x=>le s n x g):=by
 obtain ⟨r,hr,hm⟩:=Kz3 hs g hg a ha (by omega) a 0 rfl
 unfold Km7 Km4 Km1
 simp only
 rw [show (0:Int)=((0:Nat):Int) from rfl,hr]
 cases r with
 | inl _=>simp only [bs] at hm ⊢; rw [hm]; rfl
 | inr j =>
  simp only [bs] at hm ⊢
  rw [hm.1,decide_eq_true (by omega)]; rfl
end
theorem Kz5 (k:Nat) (h:k ≤ 1048576):Ke4 (k:Int)=some (Ky3 (List.replicate k 0)):=by
 unfold Ke4
 rw [Int.toNat_natCast,Kxj (by constructor <;> omega),bs]
 unfold Ky3
 rw [List.map_replicate]
 rfl
theorem Kz6 (ctx front:List (List Int)) (h:ctx.length + front.length ≤ 1048576):Kea (ctx,front)=some (front ++ ctx):=by
 unfold Kea
 simp only
 rw [Kv0 (by simp; omega),bs,Kv0 (by omega),bs]
theorem Kz7 (ps:List (List Int)) (hp:ps.length ≤ 1099511627776):∀ (l:List (List Int)) (i:Nat) (out:List Int),ps.drop i=l→out.length + l.flatten.length ≤ 1099511627776→Keh (ps,out,(i:Int))=some (out ++ l.flatten):=by
 intro l
 induction l with
 | nil =>
  intro i out hd _
  rw [Keh.eq_def]
  simp only
  rw [Kre (Kss hd)]
  simp
 | cons x l ih =>
  intro i out hd ho
  obtain ⟨h1,h2,h3⟩:=Ksr hd
  rw [List.flatten_cons,List.length_append] at ho
  rw [Keh.eq_def]
  simp only
  rw [Krd h1,if_pos rfl,h2,bs,Kv0 (by omega),bs,Krc (by omega),ih (i + 1) _ h3 (by rw [List.length_append]; omega),List.flatten_cons,List.append_assoc]
theorem Kz8 (c:Int) (ps:List (List Int)) (hp:ps.length ≤ 1048576) (h:ps.flatten.length ≤ 1048576):Kek (c,ps)=some (c :: ps.flatten):=by
 unfold Kek
 simp only
 rw [show (0:Int)=((0:Nat):Int) from rfl,Kz7 ps (by omega) ps 0 [c] rfl (by rw [List.length_singleton]; omega)]
 rfl
theorem Kz9 (ps:List (List (Int))) (hp:ps.length ≤ 1099511627776):∀ (l:List (List (Int))) (i sz:Nat),ps.drop i=l→sz + l.flatten.length ≤ 1099511627776→Klk (ps,(sz:Int),(i:Int))=some (((sz + l.flatten.length:Nat)):Int):=by
 intro l
 induction l with
 | nil =>
  intro i sz hd _
  rw [Klk.eq_def]
  simp only
  rw [Kre (Kss hd)]
  simp
 | cons x l ih =>
  intro i sz hd ho
  obtain ⟨h1,h2,h3⟩:=Ksr hd
  rw [List.flatten_cons,List.length_append] at ho
  have e:wr ((sz:Int) + (x.length:Int))=((sz + x.length:Nat):Int):=Kw8 (by omega) (by omega)
  rw [Klk.eq_def]
  simp only
  rw [Krd h1,if_pos rfl,h2,bs,e,decide_eq_false (by omega),if_neg (by decide),bs,Krc (by omega),ih (i + 1) _ h3 (by omega),List.flatten_cons,List.length_append,Nat.add_assoc]
theorem Kza (ps:List (List (Int))) (hp:ps.length ≤ 1099511627776):∀ (l:List (List (Int))) (i:Nat) (out:List (Int)),ps.drop i=l→out.length + l.flatten.length ≤ 1099511627776→Klo (ps,out,(i:Int))=some (out ++ l.flatten):=by
 intro l
 induction l with
 | nil =>
  intro i out hd _
  rw [Klo.eq_def]
  simp only
  rw [Kre (Kss hd)]
  simp
 | cons x l ih =>
  intro i out hd ho
  obtain ⟨h1,h2,h3⟩:=Ksr hd
  rw [List.flatten_cons,List.length_append] at ho
  rw [Klo.eq_def]
  simp only
  rw [Krd h1,if_pos rfl,h2,bs,Kv0 (by omega),bs,Krc (by omega),ih (i + 1) _ h3 (by rw [List.length_append]; omega),List.flatten_cons,List.append_assoc]
theorem Kzb (k:Nat) (h:k ≤ 1048576):Klg (k:Int)=some ():=by
 unfold Klg
 have e:wr ((k:Int) - wr (0 - 0))=(k:Int):=by rw [Kra (x:=0 - 0) (by decide) (by decide),Kra (by omega) (by omega)]; omega
 rw [decide_eq_false (by omega),if_neg (by decide),e]
 by_cases hk:k=0
 ·subst hk; rfl
 ·rw [decide_eq_true (by omega),if_pos rfl,Int.toNat_natCast,Kxj (by constructor <;> omega),bs]
theorem Kzc (ps:List (List (Int))) (hp:ps.length ≤ 1048576) (h:ps.flatten.length ≤ 1048576):Klr ps=some ps.flatten:=by
 unfold Klr
 have h0:=Kz9 ps (by omega) ps 0 0 rfl (by omega)
 rw [Nat.zero_add] at h0
 rw [show (0:Int)=((0:Nat):Int) from rfl,h0,bs,Kzb _ h,bs,Kza ps (by omega) ps 0 [] rfl (by rw [List.length_nil]; omega)]
 rfl
theorem Kzd (ps:List (List (List Int))) (hp:ps.length ≤ 1099511627776):∀ (l:List (List (List Int))) (i sz:Nat),ps.drop i=l→sz + l.flatten.length ≤ 1099511627776→Kk5 (ps,(sz:Int),(i:Int))=some (((sz + l.flatten.length:Nat)):Int):=by
 intro l
 induction l with
 | nil =>
  intro i sz hd _
  rw [Kk5.eq_def]
  simp only
  rw [Kre (Kss hd)]
  simp
 | cons x l ih =>
  intro i sz hd ho
  obtain ⟨h1,h2,h3⟩:=Ksr hd
  rw [List.flatten_cons,List.length_append] at ho
  have e:wr ((sz:Int) + (x.length:Int))=((sz + x.length:Nat):Int):=Kw8 (by omega) (by omega)
  rw [Kk5.eq_def]
  simp only
  rw [Krd h1,if_pos rfl,h2,bs,e,decide_eq_false (by omega),if_neg (by decide),bs,Krc (by omega),ih (i + 1) _ h3 (by omega),List.flatten_cons,List.length_append,Nat.add_assoc]
theorem Kze (ps:List (List (List Int))) (hp:ps.length ≤ 1099511627776):∀ (l:List (List (List Int))) (i:Nat) (out:List (List Int)),ps.drop i=l→out.length + l.flatten.length ≤ 1099511627776→Kk9 (ps,out,(i:Int))=some (out ++ l.flatten):=by
 intro l
 induction l with
 | nil =>
  intro i out hd _
  rw [Kk9.eq_def]
  simp only
  rw [Kre (Kss hd)]
  simp
 | cons x l ih =>
  intro i out hd ho
  obtain ⟨h1,h2,h3⟩:=Ksr hd
  rw [List.flatten_cons,List.length_append] at ho
  rw [Kk9.eq_def]
  simp only
  rw [Krd h1,if_pos rfl,h2,bs,Kv0 (by omega),bs,Krc (by omega),ih (i + 1) _ h3 (by rw [List.length_append]; omega),List.flatten_cons,List.append_assoc]
theorem Kzf (k:Nat) (h:k ≤ 1048576):Kk1 (k:Int)=some ():=by
 unfold Kk1
 have e:wr ((k:Int) - wr (0 - 0))=(k:Int):=by rw [Kra (x:=0 - 0) (by decide) (by decide),Kra (by omega) (by omega)]; omega
 rw [decide_eq_false (by omega),if_neg (by decide),e]
 by_cases hk:k=0
 ·subst hk; rfl
 ·rw [decide_eq_true (by omega),if_pos rfl,Int.toNat_natCast,Kxj (by constructor <;> omega),bs]
theorem Kzg (ps:List (List (List Int))) (hp:ps.length ≤ 1048576) (h:ps.flatten.length ≤ 1048576):Kkc ps=some ps.flatten:=by
 unfold Kkc
 have h0:=Kzd ps (by omega) ps 0 0 rfl (by omega)
 rw [Nat.zero_add] at h0
 rw [show (0:Int)=((0:Nat):Int) from rfl,h0,bs,Kzf _ h,bs,Kze ps (by omega) ps 0 [] rfl (by rw [List.length_nil]; omega)]
 rfl
def Kzh (s:K00) (ctx:List (List Int)):Bool:=decide (ctx.length ≤ 8) && ctx.all (yN s.fSize true)
theorem sYn {s:K00} {ty:List Int} (h:ty.length ≤ 1099511627776):(Kcf ty >>= fun r=>if r=true then Kcq (ty,s.fSize,true) >>= fun q=>some (!q) else some true)=some (!yN s.fSize true ty):=by
 rw [Kte ty h,bs]
 unfold yN
 cases wtB ty with
 | false=>rfl
 | true=>rw [if_pos rfl,Ktk ty h,bs]; rfl
theorem Kzi (s:K00) (ctx:List (List Int)) (hc:ctx.length ≤ 1048576) (hl:∀ ty ∈ ctx,ty.length ≤ 1099511627776):∀ (l:List (List Int)) (i:Nat),ctx.drop i=l→Kcu (s,ctx,(i:Int))=some (if l.all (yN s.fSize true) then .inl () else .inr false):=by
 intro l
 induction l with
 | nil =>
  intro i hd
  rw [Kcu.eq_def]
  simp only
  rw [Kre (Kss hd)]; rfl
 | cons x l ih =>
  intro i hd
  obtain ⟨h1,h2,h3⟩:=Ksr hd
  have hx:x ∈ ctx:=List.mem_of_mem_drop (i:=i) (by rw [hd]; exact List.mem_cons_self)
  rw [Kcu.eq_def]
  simp only
  rw [Krd h1,if_pos rfl]
  simp only [h2,bs]
  rw [sYn (hl x hx),bs,Krc (by omega),ih (i + 1) h3,List.all_cons]
  cases yN s.fSize true x <;> cases l.all (yN s.fSize true) <;> rfl
theorem Kzj (s:K00) (ctx:List (List Int)) (hc:ctx.length ≤ 1048576) (hl:∀ ty ∈ ctx,ty.length ≤ 1099511627776):Kcx (s,ctx)=some (Kzh s ctx):=by
 unfold Kcx Kzh
 simp only
 by_cases h:ctx.length ≤ 8
 ·rw [decide_eq_false (by omega),decide_eq_true h,if_neg (by decide),show (0:Int)=((0:Nat):Int) from rfl,Kzi s ctx hc hl ctx 0 rfl,bs]
  cases ctx.all (yN s.fSize true) <;> rfl
 ·rw [decide_eq_true (by omega),decide_eq_false h,if_pos rfl]; rfl
theorem Kzk (s:K00) (ctx:List (List Int)) (hc:ctx.length ≤ 1048576) (hl:∀ ty ∈ ctx,ty.length ≤ 1099511627776):∀ (l:List (List Int)) (i:Nat),ctx.drop i=l→∃ r,Kiv (ctx,s,(i:Int))=some r∧(match r with | .inl _=>l.all (Kw1 s)=true | .inr j=>l.all (Kw1 s)=false∧0 ≤ j):=by
 intro l
 induction l with
 | nil =>
  intro i hd
  rw [Kiv.eq_def]
  simp only
  rw [Kre (Kss hd)]
  exact ⟨_,rfl,rfl⟩
 | cons x l ih =>
  intro i hd
  obtain ⟨h1,h2,h3⟩:=Ksr hd
  have hx:x ∈ ctx:=List.mem_of_mem_drop (i:=i) (by rw [hd]; exact List.mem_cons_self)
  rw [Kiv.eq_def]
  simp only
  rw [Krd h1,if_pos rfl,h2,bs]
  unfold Kir
  simp only
  rw [Kw3 s x (hl x hx)]
  simp only [bs]
  cases hle:Kw1 s x with
  | true =>
   obtain ⟨r,hr,hm⟩:=ih (i + 1) h3
   refine ⟨r,?_,?_⟩
   ·rw [if_neg (by simp),Krc (by omega)]; exact hr
   ·rw [List.all_cons,hle,Bool.true_and]; exact hm
  | false=>exact ⟨_,if_pos rfl,by simp [List.all_cons,hle]⟩
theorem Kzl (s:K00) (hs:Kve s=true) (ctx:List (List Int)) (hc:ctx.length ≤ 1048576) (hl:∀ ty ∈ ctx,ty.length ≤ 1099511627776):Kj4 (s,ctx)=some (Kzh s ctx):=by
 have e:ctx.all (Kw1 s)=ctx.all (yN s.fSize true):=by
  congr 1
  funext ty
  exact Kw6 (Kvf hs) ty
 unfold Kj4 Kzh
 simp only
 by_cases h:ctx.length ≤ 8
 ·rw [decide_eq_true (by omega:(ctx.length:Int) ≤ 8),decide_eq_true h,if_pos rfl]
  obtain ⟨r,hr,hm⟩:=Kzk s ctx hc hl ctx 0 rfl
  unfold Kj1 Kiy
  simp only
  rw [show (0:Int)=((0:Nat):Int) from rfl,hr]
  rw [e] at hm
  cases r with
  | inl _=>simp only [bs] at hm ⊢; rw [hm]; rfl
  | inr j =>
   simp only [bs] at hm ⊢
   rw [hm.1,decide_eq_true (by omega)]; rfl
 ·rw [decide_eq_false (by omega),decide_eq_false h,if_neg (by decide)]; rfl
theorem Kzm {s:K00} (ty:List Int) (h:ty.length ≤ 1099511627776):Kja (ty,s)=some (Kw1 s ty):=by
 unfold Kja
 simp only
 rw [Kw3 s ty h,bs]
mutual
theorem Kzn (s:K00):∀ (t:K01) (n nodes:Nat),tms t ≤ 1099511627776→n + 2 * tms t ≤ 35184372088832→nodes ≤ 400→Kjh (t,(n:Int),s,s,(nodes:Int))=some (Kui (tOk (Kvy s) (Kw1 s) n t) nodes (tsz t))
 | ⟨op,N,ty,ks⟩,n,nodes,ht,hn,hd=>by
  rw [tms] at ht hn
  rw [Kjh.eq_def,tOk,tsz]
  simp only
  rw [Ku5,bs]
  unfold Ku4
  cases hop:inB op 0 12
  ·simp [Kuc,hop,Kui]
  ·simp only [if_true]
   rw [Krc (by omega)]
   by_cases h4:nodes + 1 ≤ 400
   ·rw [decide_eq_false (by omega:¬ ((nodes + 1:Nat):Int) > 400)]
    by_cases hk:(ks.length:Int)=Ktw op
    ·rw [show ((ks.length:Int) != Ktw op)=false by rw [hk]; exact Krk]
     simp only [Bool.false_eq_true,if_false,bs]
     refine (Ktm (x:=Kua (Kvy s) (n:Int) ⟨op,N,ty,ks⟩) ?_).trans ?_
     ·unfold Kua
      simp only [iIn,Kra (x:=(n:Int) - 1) (by omega) (by omega),Kvz,bs]
      cases op == 0 <;> cases op == 1 <;> cases Ktx op <;> rfl
     refine (Ktm (x:=Kua (Kvy s) (n:Int) ⟨op,N,ty,ks⟩ && Kub (Kw1 s) ⟨op,N,ty,ks⟩) ?_).trans ?_
     ·unfold Kub
      simp only [Kzm ty (by omega),bs]
      cases Kty op <;> cases Kua (Kvy s) (n:Int) ⟨op,N,ty,ks⟩ <;> rfl
     have e:Kuc (Kvy s) (Kw1 s) (n:Int) ⟨op,N,ty,ks⟩=(Kua (Kvy s) (n:Int) ⟨op,N,ty,ks⟩ && Kub (Kw1 s) ⟨op,N,ty,ks⟩):=by
      unfold Kuc
      simp only
      rw [hop,hk]; simp
     rw [e]
     cases Kua (Kvy s) (n:Int) ⟨op,N,ty,ks⟩ && Kub (Kw1 s) ⟨op,N,ty,ks⟩
     ·simp [Kui]
     ·have h:=Kzo s ks ⟨op,N,ty,ks⟩ n (nodes + 1) 0 rfl (by simp only; omega) (by omega) (by omega) h4
      rw [if_pos rfl,show (0:Int)=((0:Nat):Int) from rfl,h]
      simp only [Bool.true_and]
      unfold Kui
      rw [show nodes + (1 + Ktn ks)=nodes + 1 + Ktn ks by omega]
      cases Kud (Kvy s) (Kw1 s) op n 0 ks && decide (nodes + 1 + Ktn ks ≤ 400) <;> rfl
    ·rw [show ((ks.length:Int) != Ktw op)=true by simpa using hk]
     have e:Kuc (Kvy s) (Kw1 s) (n:Int) ⟨op,N,ty,ks⟩=false:=by
      unfold Kuc
      simp only
      rw [show ((ks.length:Int) == Ktw op)=false by simpa using hk]; simp
     simp [e,Kui]
   ·rw [decide_eq_true (by omega:((nodes + 1:Nat):Int) > 400)]
    have:¬ nodes + (1 + Ktn ks) ≤ 400:=by omega
    simp [Kui,this]
theorem Kzo (s:K00):∀ (ks:List K01) (t:K01) (n nodes i:Nat),t.fKids.drop i=ks→t.fKids.length ≤ 1099511627776→Kto ks ≤ 1099511627776→n + 2 * (ks.length + Kto ks) ≤ 35184372088832→nodes ≤ 400 →
  Kji (t,(n:Int),s,s,(nodes:Int),(i:Int))=some (if Kud (Kvy s) (Kw1 s) t.fOp n i ks && decide (nodes + Ktn ks ≤ 400) then .inl ((nodes + Ktn ks:Nat):Int) else .inr 401)
 | [],t,n,nodes,i,hd,hk,ht,hn,h4=>by
  rw [Kji.eq_def,Kud,Ktn]
  simp only
  rw [Kre (Kss hd)]
  simp [h4]
 | k :: ks,t,n,nodes,i,hd,hk,ht,hn,h4=>by
  obtain ⟨hi,hx,hd'⟩:=Ksr hd
  rw [Kto] at ht hn
  rw [List.length_cons] at hn
  have ha:=Ku7 t.fOp (i:Int)
  rw [Kji.eq_def,Kud,Ktn]
  simp only
  rw [Krd hi,if_pos rfl,hx,bs,Ku9,bs,Kra (by omega) (by omega),show (n:Int) + ((Ku6 t.fOp (i:Int):Nat):Int)=((n + Ku6 t.fOp (i:Int):Nat):Int) by omega]
  rw [Kzn s k (n + Ku6 t.fOp (i:Int)) nodes (by omega) (by omega) h4,bs,Krc (by omega)]
  unfold Kui
  cases tOk (Kvy s) (Kw1 s) (n + Ku6 t.fOp (i:Int)) k
  ·rfl
  ·by_cases q:nodes + tsz k ≤ 400
   ·rw [decide_eq_true q,Bool.true_and,if_pos rfl,decide_eq_false (by omega:¬ ((nodes + tsz k:Nat):Int) > 400),if_neg (by decide),Kzo s ks t n (nodes + tsz k) (i + 1) hd' hk (by omega) (by omega) q,Nat.add_assoc,Bool.true_and]
   ·rw [decide_eq_false q,decide_eq_false (by omega:¬ nodes + (tsz k + Ktn ks) ≤ 400)]
    simp
end
theorem Kzp {s:K00} {n:Nat} (h:Tab s n):Kvy s=gN s.fSize true:=by
 funext g
 rw [Kw4 h]
 unfold gN inB
 rw [h.size]
 rw [Bool.eq_iff_iff]
 simp
 omega
theorem Kzq (s:K00) (hs:Kve s=true) (t:K01) (n:Nat) (hn:n ≤ 8) (ht:tms t ≤ 1099511627776):Kjo (s,t,(n:Int))=some (Kxs s t n):=by
 have hy:Kw1 s=yN s.fSize true:=funext fun ty=>Kw6 (Kvf hs) ty
 unfold Kjo Kxs
 simp only
 rw [iIn,bs,hs]
 have:inB (n:Int) 0 8=true:=by unfold inB; rw [decide_eq_true (by omega),decide_eq_true (by omega)]; rfl
 have hc:=Kzn s t n 0 ht (by omega) (by omega)
 rw [Kzp (Kvf hs),hy] at hc
 rw [this,if_pos rfl,show (0:Int)=((0:Nat):Int) from rfl,hc,bs]
 unfold Kui
 rw [Nat.zero_add]
 cases tOk (gN s.fSize true) (yN s.fSize true) n t
 ·simp [bs]
 ·by_cases h:tsz t ≤ 400
  ·simp [bs,h]; omega
  ·simp [bs,h]
def Kzr (s:K00) (ctx:List (List Int)) (t:K01):Bool:=Kve s && Kzh s ctx && Kxs s t ctx.length
theorem Kzs (s:K00) (ctx:List (List Int)) (t:K01) (hc:ctx.length ≤ 1048576) (hl:∀ ty ∈ ctx,ty.length ≤ 1099511627776) (ht:tms t ≤ 1099511627776):Ke1 (s,ctx,t)=some (Kzr s ctx t):=by
 unfold Ke1 Kzr
 simp only
 rw [Kvg,bs]
 cases hs:Kve s
 ·rfl
 ·rw [if_pos rfl,Kzj s ctx hc hl,bs]
  cases h2:Kzh s ctx
  ·rfl
  ·have h8:ctx.length ≤ 8:=by
    unfold Kzh at h2
    simp only [Bool.and_eq_true,decide_eq_true_eq] at h2
    exact h2.1
   rw [if_pos rfl,Kxt s t _ h8 ht]
   rfl
theorem Kzt (s:K00) (ctx:List (List Int)) (t:K01) (hc:ctx.length ≤ 1048576) (hl:∀ ty ∈ ctx,ty.length ≤ 1099511627776) (ht:tms t ≤ 1099511627776) :
  Kne (s,ctx,t)=if Kzr s ctx t then (Kn7 (⟨s⟩,ctx,t) >>= fun r=>some (some r)) else some none:=by
 unfold Kne Kzr
 simp only
 rw [Kvh,bs]
 cases hs:Kve s
 ·rfl
 ·rw [if_pos rfl,Kzl s hs ctx hc hl,bs]
  cases h2:Kzh s ctx
  ·rfl
  ·have h8:ctx.length ≤ 8:=by
    unfold Kzh at h2
    simp only [Bool.and_eq_true,decide_eq_true_eq] at h2
    exact h2.1
   rw [if_pos rfl,Kzq s hs t _ h8 ht,bs]
   cases Kxs s t ctx.length <;> rfl
def TyS (s:K00) (ty:List Int):Prop:=yN s.fSize true ty=true
theorem Kzu {s:K00} {ty:List Int} (h:TyS s ty):ty.length ≤ 40:=by
 unfold TyS yN at h
 rw [Bool.and_eq_true] at h
 exact Kuy h.1
theorem Kzv {s:K00} {ty:List Int} (h:TyS s ty):∃ T:Ty,T.ok∧ty=T.code∧T.code.length ≤ 40∧T.code.all (Kth s.fSize true)=true:=by
 have hl:=Kzu h
 unfold TyS yN at h
 rw [Bool.and_eq_true] at h
 obtain ⟨T,h1,rfl,_⟩:=Kvo h.1
 exact ⟨T,h1,rfl,hl,h.2⟩
theorem Kzw {s:K00} {T:Ty} (h:T.ok) (hl:T.code.length ≤ 40) (hc:T.code.all (Kth s.fSize true)=true):TyS s T.code:=by
 unfold TyS yN
 rw [Kvp h hl,hc]; rfl
structure Kzx (s:K00) (c:Int) (a b:List Int):Prop where
 ya:TyS s a
 yb:TyS s b
 p0:Kex (c :: (a ++ b),0)=some a
 p1:Kex (c :: (a ++ b),1)=some b
 pp:Kjv (c :: (a ++ b))=some [a,b]
structure Kzy (s:K00) (c:Int) (a:List Int):Prop where
 ya:TyS s a
 p0:Kex (c :: a,0)=some a
 pp:Kjv (c :: a)=some [a]
theorem Kzz {s:K00} {c:Int} (hc:c=35∨c=36):Kth s.fSize true c=false:=by
 rcases hc with rfl | rfl
 ·unfold Kth Ktg
  rw [show Ksv 35=2 from rfl]; simp
 ·unfold Kth Ktg
  rw [show Ksv 36=1 from rfl]; simp
theorem V00 {s:K00}:TyS s [0]:=Kzw (T:=.num) trivial (by decide) (by
 show (Kth s.fSize true 0 && true)=true
 unfold Kth
 rw [show Ksv 0=0 from rfl]; simp)
section
variable {s:K00} {n:Nat} (hs:Ky8 s n)
include hs
theorem V01 {c:Int} (hc:3 ≤ c∧c ≤ 18):Kth s.fSize true c=true ↔ c - 3 < (n:Int):=by
 have hk:Ksv c=2:=by rcases Ksz c with h | h | h | h <;> omega
 unfold Kth Ktg
 rw [hk,hs.tab.size,if_neg (by omega),if_neg (by omega)]
 simp
 omega
theorem V02 {c:Int} (hc:19 ≤ c∧c ≤ 34):Kth s.fSize true c=true ↔ c - 19 < (n:Int):=by
 have hk:Ksv c=1:=by rcases Ksz c with h | h | h | h <;> omega
 unfold Kth Ktg
 rw [hk,hs.tab.size,if_neg (by omega),if_pos (by omega)]
 simp
 omega
theorem V03 {ty:List Int} (h:TyS s ty):ty=[0]∨(∃ a b,ty=1 :: (a ++ b)∧Kzx s 1 a b)∨(∃ a b,ty=2 :: (a ++ b)∧Kzx s 2 a b) ∨
  (∃ (g:Nat) (a b:List Int),g < n∧g ≤ 15∧ty=(3 + (g:Int)) :: (a ++ b)∧Kzx s (3 + (g:Int)) a b)∨(∃ (g:Nat) (a:List Int),g < n∧g ≤ 15∧ty=(19 + (g:Int)) :: a∧Kzy s (19 + (g:Int)) a):=by
 obtain ⟨T,hT,rfl,hl,hc⟩:=Kzv h
 cases T with
 | num=>exact .inl rfl
 | bin c a b =>
  have B:=Kxg hT (by omega)
  have hl':=hl
  rw [Ty.code,List.length_cons,List.length_append] at hl'
  rw [Ty.code,List.all_cons,List.all_append,Bool.and_eq_true,Bool.and_eq_true] at hc
  have hP:Kzx s c a.code b.code:=⟨Kzw B.ok.1 (by omega) hc.2.1,Kzw B.ok.2 (by omega) hc.2.2,B.p0,B.p1,B.pp⟩
  have hk:=hT.1
  rcases Ksz c with ⟨q,e⟩ | ⟨q,e⟩ | ⟨q,e⟩ | ⟨q,e⟩
  ·rw [e] at hk; exact absurd hk (by decide)
  ·rcases q with rfl | rfl | q | rfl
   ·exact .inr (.inl ⟨_,_,rfl,hP⟩)
   ·exact .inr (.inr (.inl ⟨_,_,rfl,hP⟩))
   ·have:=(V01 hs q).1 hc.1
    obtain ⟨g,hg⟩:∃ g:Nat,c=3 + (g:Int):=⟨(c - 3).toNat,by omega⟩
    subst hg
    exact .inr (.inr (.inr (.inl ⟨g,_,_,by omega,by omega,rfl,hP⟩)))
   ·rw [Kzz (s:=s) (.inl rfl)] at hc; exact absurd hc.1 (by decide)
  ·rw [e] at hk; exact absurd hk (by decide)
  ·rw [e] at hk; exact absurd hk (by decide)
 | un c a =>
  have B:=unP hT (by omega)
  have hl':=hl
  rw [Ty.code,List.length_cons] at hl'
  rw [Ty.code,List.all_cons,Bool.and_eq_true] at hc
  have hP:Kzy s c a.code:=⟨Kzw B.ok (by omega) hc.2,B.p0,B.pp⟩
  have hk:=hT.1
  rcases Ksz c with ⟨q,e⟩ | ⟨q,e⟩ | ⟨q,e⟩ | ⟨q,e⟩
  ·rw [e] at hk; exact absurd hk (by decide)
  ·rw [e] at hk; exact absurd hk (by decide)
  ·rcases q with q | rfl
   ·have:=(V02 hs q).1 hc.1
    obtain ⟨g,hg⟩:∃ g:Nat,c=19 + (g:Int):=⟨(c - 19).toNat,by omega⟩
    subst hg
    exact .inr (.inr (.inr (.inr ⟨g,_,by omega,by omega,rfl,hP⟩)))
   ·rw [Kzz (s:=s) (.inr rfl)] at hc; exact absurd hc.1 (by decide)
  ·rw [e] at hk; exact absurd hk (by decide)
theorem V04 {c:Int} {a b:List Int} (ha:TyS s a) (hb:TyS s b) (hc:c=1∨c=2∨∃ g:Nat,g < n∧c=3 + (g:Int)) (hl:(c :: (a ++ b)).length ≤ 40):TyS s (c :: (a ++ b)):=by
 obtain ⟨A,hA,rfl,_,hAc⟩:=Kzv ha
 obtain ⟨B,hB,rfl,_,hBc⟩:=Kzv hb
 have hn:=hs.tab.hi
 have hk:Ksv c=2∧Kth s.fSize true c=true:=by
  rcases hc with rfl | rfl | ⟨g,hg,rfl⟩
  ·exact ⟨rfl,by unfold Kth; rw [show Ksv 1=2 from rfl]; simp⟩
  ·exact ⟨rfl,by unfold Kth; rw [show Ksv 2=2 from rfl]; simp⟩
  ·refine ⟨by rcases Ksz (3 + (g:Int)) with h | h | h | h <;> omega,(V01 hs (by omega)).2 (by omega)⟩
 have:TyS s (Ty.bin c A B).code:=Kzw ⟨hk.1,hA,hB⟩ hl (by rw [Ty.code,List.all_cons,List.all_append,hk.2,hAc,hBc]; rfl)
 exact this
theorem V05 {g:Nat} (hg:g < n) {a:List Int} (ha:TyS s a) (hl:((19 + (g:Int)) :: a).length ≤ 40):TyS s ((19 + (g:Int)) :: a):=by
 obtain ⟨A,hA,rfl,_,hAc⟩:=Kzv ha
 have hn:=hs.tab.hi
 have hk:Ksv (19 + (g:Int))=1:=by rcases Ksz (19 + (g:Int)) with h | h | h | h <;> omega
 have:TyS s (Ty.un (19 + (g:Int)) A).code:=Kzw ⟨hk,hA⟩ hl (by rw [Ty.code,List.all_cons,(V02 hs (by omega)).2 (by omega),hAc]; rfl)
 exact this
theorem V06 {x:Int} (h:gN s.fSize true x=true):∃ g:Nat,x=(g:Int)∧g < n:=by
 unfold gN at h
 rw [hs.tab.size] at h
 simp at h
 exact ⟨x.toNat,by omega,by omega⟩
end
structure V07 (s:K00) (n:Nat) (k:K01) (m:Nat):Prop where
 ok:tOk (gN s.fSize true) (yN s.fSize true) n k=true
 sz:tsz k + 1 ≤ m
theorem nd1 {s:K00} {n m:Nat} {op N:Int} {ty:List Int} {ks:List K01} (h:tOk (gN s.fSize true) (yN s.fSize true) n ⟨op,N,ty,ks⟩=true) (hm:tsz ⟨op,N,ty,ks⟩ ≤ m) (hk:Ktw op=1):∃ a,ks=[a]∧V07 s (n + Ku6 op 0) a m:=by
 obtain ⟨h1,h2⟩:=Kuz h
 obtain ⟨a,rfl⟩:=Kxq (l:=ks) (beq_iff_eq.2 (by rw [← hk]; exact (Kv1 h1).2))
 simp only at h2
 rw [Kxp,Bool.and_eq_true] at h2
 rw [Kxu] at hm
 exact ⟨a,rfl,h2.1,by omega⟩
theorem nd2 {s:K00} {n m:Nat} {op N:Int} {ty:List Int} {ks:List K01} (h:tOk (gN s.fSize true) (yN s.fSize true) n ⟨op,N,ty,ks⟩=true) (hm:tsz ⟨op,N,ty,ks⟩ ≤ m) (hk:Ktw op=2):∃ a b,ks=[a,b]∧V07 s (n + Ku6 op 0) a m∧V07 s (n + Ku6 op 1) b m:=by
 obtain ⟨h1,h2⟩:=Kuz h
 obtain ⟨a,b,rfl⟩:=Kxr (l:=ks) (beq_iff_eq.2 (by rw [← hk]; exact (Kv1 h1).2))
 simp only at h2
 rw [Kxp,Kxp,Bool.and_eq_true,Bool.and_eq_true] at h2
 rw [Kxv] at hm
 exact ⟨a,b,rfl,⟨h2.1,by omega⟩,⟨h2.2.1,by omega⟩⟩
theorem nd3 {s:K00} {n m:Nat} {op N:Int} {ty:List Int} {ks:List K01} (h:tOk (gN s.fSize true) (yN s.fSize true) n ⟨op,N,ty,ks⟩=true) (hm:tsz ⟨op,N,ty,ks⟩ ≤ m) (hk:Ktw op=3):∃ a b c,ks=[a,b,c]∧V07 s (n + Ku6 op 0) a m∧V07 s (n + Ku6 op 1) b m∧V07 s (n + Ku6 op 2) c m:=by
 obtain ⟨h1,h2⟩:=Kuz h
 obtain ⟨a,b,c,rfl⟩:=Kxx (l:=ks) (by rw [← hk]; exact (Kv1 h1).2)
 simp only at h2
 rw [Kxp,Kxp,Kxp,Bool.and_eq_true,Bool.and_eq_true,Bool.and_eq_true] at h2
 rw [Kxw] at hm
 exact ⟨a,b,c,rfl,⟨h2.1,by omega⟩,⟨h2.2.1,by omega⟩,⟨h2.2.2.1,by omega⟩⟩
theorem V08 {s:K00} {n:Nat} {t:K01} (h:tOk (gN s.fSize true) (yN s.fSize true) n t=true) (hg:Ktx t.fOp=true):gN s.fSize true t.fN=true:=by
 have h1:=(Kuz h).1
 unfold Kuc Kua at h1
 simp only [Bool.and_eq_true] at h1
 have h2:=h1.1.2
 have hop:(t.fOp == 0)=false∧(t.fOp == 1)=false:=by
  simp only [Ktx,Bool.or_eq_true,beq_iff_eq] at hg
  constructor <;> rw [beq_eq_false_iff_ne] <;> omega
 rw [hop.1,hop.2,hg] at h2
 simpa using h2
theorem V09 {s:K00} {n:Nat} {t:K01} (h:tOk (gN s.fSize true) (yN s.fSize true) n t=true) (hg:Kty t.fOp=true):TyS s t.fType:=by
 have h1:=(Kuz h).1
 unfold Kuc Kub at h1
 simp only [Bool.and_eq_true] at h1
 have h2:=h1.2
 rw [hg] at h2
 show yN s.fSize true t.fType=true
 simpa using h2
theorem V0a {s:K00} {n:Nat} {t:K01} (h:tOk (gN s.fSize true) (yN s.fSize true) n t=true) (hg:t.fOp=0):∃ i:Nat,t.fN=(i:Int)∧i < n∧t.fKids=[]:=by
 have h1:=(Kuz h).1
 have hl:=(Kv1 h1).2
 unfold Kuc Kua at h1
 simp only [Bool.and_eq_true] at h1
 have h2:=h1.1.2
 rw [hg] at h2 hl
 simp [inB] at h2
 refine ⟨t.fN.toNat,by omega,by omega,?_⟩
 have:(t.fKids.length:Int)=0:=hl
 exact List.eq_nil_of_length_eq_zero (by omega)
theorem V0b {s:K00} {n:Nat} {t:K01} (h:tOk (gN s.fSize true) (yN s.fSize true) n t=true) (hg:t.fOp=1):t.fKids=[]:=by
 have h1:=(Kuz h).1
 have hl:=(Kv1 h1).2
 rw [hg] at hl
 have:(t.fKids.length:Int)=0:=hl
 exact List.eq_nil_of_length_eq_zero (by omega)
def V0c (t:K01) (out:List K03) (w:Nat):Option (List (List Int)) :=
 (if (decide ((w:Int) > 0))=true then some (true) else some ((t.fOp == 9))) >>= fun v =>
 if v=true then
  (if (decide ((w:Int) > 0))=true then (idx out 0) >>= fun e=>some (e.fty) else some ([])) >>= fun first=>(Kjy (t,(w:Int),first)) >>= fun r=>some (r)
 else some ([])
def V0d (p0:K05) (ctx:List (List Int)) (t:K01) (out:List K03) (needs used:List (List Int)) (w:Nat) (more:List (List Int)) (y:K03):Option (((List K03) × (List (List Int)) × (List (List Int))) ⊕ (K03)) :=
 if (y.ffault != 0)=true then
  (Qd6 ([(w:Int)].length + y.fpath.length) 8) >>= fun _=>some (.inr (K03.mk [] [] [] y.ffault ([(w:Int)] ++ y.fpath)))
 else
  (Kkg (p0,t,(w:Int),y.fty)) >>= fun f =>
  if (f != 0)=true then some (.inr (K03.mk [] [] [] f []))
  else
   (if (t.fOp == 10)=true then
    if ((w:Int) == 1)=true then
     (idx out 0) >>= fun e=>(Kjv e.fty) >>= fun r=>(idx r 0) >>= fun q=>(Kkn (y.fty,q)) >>= fun b=>some ((!b))
    else some (false)
   else some (false)) >>= fun v =>
   if v=true then some (.inr (K03.mk [] [] [] 3 []))
   else
    (Qd6 (out.length + [y].length) 8) >>= fun _ =>
    (cut y.fneeds none (some (more.length:Int)) none) >>= fun c1 =>
    (Qd6 (used.length + [c1].length) 24) >>= fun _ =>
    (cut y.fneeds (some (more.length:Int)) none none) >>= fun c2 =>
    (Qd6 (needs.length + [c2].length) 24) >>= fun _ =>
    Kn8 (p0,ctx,t,(out ++ [y]),(needs ++ [c2]),(used ++ [c1]),(wr ((w:Int) + 1)))
theorem V0e {p0:K05} {ctx:List (List Int)} {t:K01} {out:List K03} {needs used:List (List Int)} {w:Nat} {k:K01} {more:List (List Int)} {y:K03} (hw:w < t.fKids.length) (hk:idx t.fKids (w:Int)=some k) (hm:V0c t out w=some more)
  (hc:ctx.length + more.length ≤ 1000000) (hy:Kn7 (p0,more ++ ctx,k)=some y):Kn8 (p0,ctx,t,out,needs,used,(w:Int))=V0d p0 ctx t out needs used w more y:=by
 rw [Kn8.eq_def]
 simp only
 rw [Krd hw,if_pos rfl,hk,bs]
 have key:∀ {β:Type} (R:List (List Int)→Option β),((if (decide ((w:Int) > 0))=true then some (true) else some ((t.fOp == 9))) >>= fun v =>
   (if v=true then (if (decide ((w:Int) > 0))=true then (idx out 0) >>= fun e=>some (e.fty) else some ([])) >>= fun first=>(Kjy (t,(w:Int),first)) >>= fun r=>some (r) else some ([])) >>= R)=(V0c t out w >>= R):=fun R=>by
  unfold V0c
  simp only [Option.bind_eq_bind,Option.bind_assoc]
 refine (key _).trans ?_
 rw [hm,bs,Kzg [more,ctx] (by simp) (by simp; omega),bs]
 simp only [List.flatten_cons,List.flatten_nil,List.append_nil]
 rw [hy,bs]
 rfl
theorem V0f {p0:K05} {ctx:List (List Int)} {t:K01} {out:List K03} {needs used:List (List Int)} {w:Nat} (hw:t.fKids.length ≤ w):Kn8 (p0,ctx,t,out,needs,used,(w:Int))=some (.inl (out,needs,used)):=by
 rw [Kn8.eq_def]
 simp only
 rw [Kre hw]; rfl
theorem V0g {α:Type} {l:List α} {m:Nat} (h:m ≤ l.length):cut l none (some (m:Int)) none=some (l.take m):=by
 unfold cut
 simp only [Option.getD_none,Option.getD_some,Int.toNat_natCast,Int.toNat_zero,List.drop_zero]
 rw [if_pos (by omega)]
theorem V0h {α:Type} {l:List α} {m:Nat} (h:m ≤ l.length):cut l (some (m:Int)) none none=some (l.drop m):=by
 unfold cut
 simp only [Option.getD_none,Option.getD_some,Int.toNat_natCast]
 rw [if_pos (by omega),List.take_length]
def V0i (t:K01) (out:List K03) (w:Nat) (y:K03):Option Bool :=
 if (t.fOp == 10)=true then
  if ((w:Int) == 1)=true then
   (idx out 0) >>= fun e=>(Kjv e.fty) >>= fun r=>(idx r 0) >>= fun q=>(Kkn (y.fty,q)) >>= fun b=>some ((!b))
  else some (false)
 else some (false)
section
variable {p0:K05} {ctx:List (List Int)} {t:K01} {out:List K03} {needs used:List (List Int)} {w:Nat} {more:List (List Int)} {y:K03}
theorem V0j (h:y.ffault ≠ 0) (hp:y.fpath.length ≤ 1000000):V0d p0 ctx t out needs used w more y=some (.inr ⟨[],[],[],y.ffault,(w:Int) :: y.fpath⟩):=by
 unfold V0d
 rw [if_pos (bne_iff_ne.2 h),Kv0 (by simp; omega),bs]
 rfl
theorem V0k {f:Int} (h:y.ffault=0) (hf:Kkg (p0,t,(w:Int),y.fty)=some f) (hf0:f ≠ 0):V0d p0 ctx t out needs used w more y=some (.inr ⟨[],[],[],f,[]⟩):=by
 unfold V0d
 rw [if_neg (by simp [h]),hf,bs,if_pos (bne_iff_ne.2 hf0)]
theorem V0l (h:y.ffault=0) (hf:Kkg (p0,t,(w:Int),y.fty)=some 0) (ha:V0i t out w y=some true):V0d p0 ctx t out needs used w more y=some (.inr ⟨[],[],[],3,[]⟩):=by
 unfold V0d
 rw [if_neg (by simp [h]),hf,bs,if_neg (by simp)]
 refine (congrArg (· >>= _) (show _=some true from ha)).trans ?_
 rw [bs,if_pos rfl]
theorem V0m {ns:List Nat} (h:y.ffault=0) (hf:Kkg (p0,t,(w:Int),y.fty)=some 0) (ha:V0i t out w y=some false) (hn:y.fneeds=Ky3 ns) (hl:more.length ≤ ns.length)
  (h1:out.length ≤ 1000000) (h2:needs.length ≤ 1000000) (h3:used.length ≤ 1000000) (h4:w ≤ 1000000) :
  V0d p0 ctx t out needs used w more y=Kn8 (p0,ctx,t,(out ++ [y]),(needs ++ [Ky3 (ns.drop more.length)]),(used ++ [Ky3 (ns.take more.length)]),((w + 1:Nat):Int)):=by
 unfold V0d
 rw [if_neg (by simp [h]),hf,bs,if_neg (by simp)]
 refine (congrArg (· >>= _) (show _=some false from ha)).trans ?_
 rw [bs,if_neg (by simp),Kv0 (by simp; omega),bs,hn,V0g (by rw [Ky4]; exact hl),bs,Kv0 (by simp; omega),bs,V0h (by rw [Ky4]; exact hl),bs,Kv0 (by simp; omega),bs,Krc (by omega),Ky6,Ky5]
theorem V0n {r:K03} (hc:ctx.length ≤ 1000000) (h:Kn8 (p0,ctx,t,[],[],[],((0:Nat):Int))=some (.inr r)):Kn7 (p0,ctx,t)=some r:=by
 rw [Kn7.eq_def]
 simp only
 rw [Kxj (by simp; omega),bs,show (0:Int)=((0:Nat):Int) from rfl,h]
 rfl
theorem V0o {o:List K03} {nd us:List (List Int)} {f:Int} {g:K03} (hc:ctx.length ≤ 1000000) (h:Kn8 (p0,ctx,t,[],[],[],((0:Nat):Int))=some (.inl (o,nd,us)))
  (hf:Kn1 (p0,⟨[],Ky3 (List.replicate ctx.length 0),o,0,[]⟩,ctx,t,nd,us)=some (f,g)):Kn7 (p0,ctx,t)=some (if f=0 then ⟨g.fty,g.fneeds,g.fkids,0,g.fpath⟩ else ⟨[],[],[],f,[]⟩):=by
 have e:Ky3 (List.replicate ctx.length 0)=List.replicate (Int.toNat (ctx.length:Int)) (0:Int):=by
  unfold Ky3; rw [List.map_replicate,Int.toNat_natCast]; rfl
 rw [e] at hf
 rw [Kn7.eq_def]
 simp only
 rw [Kxj (by simp; omega),bs,show Kn8 (p0,ctx,t,[],[],[],0)=some (.inl (o,nd,us)) from h,bs]
 simp only
 rw [hf,bs]
 simp only
 by_cases hz:f=0
 ·subst hz; rw [if_neg (by simp),if_pos rfl]
 ·rw [if_pos (bne_iff_ne.2 hz),if_neg hz]
theorem V0p (h:t.fOp ≠ 10):V0i t out w y=some false:=by
 unfold V0i
 rw [if_neg (by simpa using h)]
theorem V0q (h:w ≠ 1):V0i t out w y=some false:=by
 unfold V0i
 have:((w:Int) == 1)=false:=by rw [beq_eq_false_iff_ne]; omega
 rw [this]
 simp
end
section
variable {s:K00} {n:Nat} (hs:Ky8 s n) {N:Int} {ty:List Int} {ks:List K01} {w:Nat} {c:Int} {r:List Int}
theorem V0r {op:Int} (h:(op=4∨op=6∨op=7∨op=9∨op=11)∨(w ≠ 0∧(op=3∨op=5∨op=8∨op=10∨op=12))):Kkg (⟨s⟩,⟨op,N,ty,ks⟩,(w:Int),c :: r)=some 0:=by
 have hw:∀ hw:w ≠ 0,((w:Int) == 0)=false:=fun hw=>by rw [beq_eq_false_iff_ne]; omega
 unfold Kkg
 rcases h with (rfl | rfl | rfl | rfl | rfl) | ⟨h0,(rfl | rfl | rfl | rfl | rfl)⟩
 all_goals first | simp [Kw7,Kt1,hw h0] | (by_cases h0:w=0 <;> simp [Kw7,Kt1,h0])
theorem V0s:Kkg (⟨s⟩,⟨2,N,ty,ks⟩,(w:Int),c :: r)=some (if (Kt0 c).1=0 then 0 else 2):=by
 unfold Kkg
 by_cases h:(Kt0 c).1=0 <;> simp [Kw7,Kt1,h]
theorem V0t:Kkg (⟨s⟩,⟨3,N,ty,ks⟩,((0:Nat):Int),c :: r)=some (if (Kt0 c).1=0 then 0 else 2):=by
 unfold Kkg
 by_cases h:(Kt0 c).1=0 <;> simp [Kw7,Kt1,h]
theorem V0u:Kkg (⟨s⟩,⟨10,N,ty,ks⟩,((0:Nat):Int),c :: r)=some (if (Kt0 c).1=3 then 0 else 6):=by
 unfold Kkg
 by_cases h:(Kt0 c).1=3 <;> simp [Kw7,Kt1,h]
include hs
theorem V0v {g:Nat} (hg:g < n):Kkg (⟨s⟩,⟨5,(g:Int),ty,ks⟩,((0:Nat):Int),c :: r)=some (if (Kt0 c).1=1 then (if le s n 1 g then 0 else 8) else 4):=by
 have hl:=iLe hs.tab (Kya hs) hg
 unfold Kkg
 by_cases h:(Kt0 c).1=1 <;> cases hle:le s n 1 g <;> simp [Kw7,Kt1,h,show Kh5 (s,1,(g:Int))=some (le s n 1 g) from hl,hle]
theorem V0w {g:Nat} (hg:g < n):Kkg (⟨s⟩,⟨8,(g:Int),ty,ks⟩,((0:Nat):Int),c :: r)=some (if (Kt0 c).1=2 then (if le s n 1 g then 0 else 8) else 5):=by
 have hl:=iLe hs.tab (Kya hs) hg
 unfold Kkg
 by_cases h:(Kt0 c).1=2 <;> cases hle:le s n 1 g <;> simp [Kw7,Kt1,h,show Kh5 (s,1,(g:Int))=some (le s n 1 g) from hl,hle]
theorem V0x {g:Nat} (hg:g < n):Kkg (⟨s⟩,⟨12,(g:Int),ty,ks⟩,((0:Nat):Int),c :: r)=some (if (Kt0 c).1=4 then (if le s n 1 g then 0 else 8) else 7):=by
 have hl:=iLe hs.tab (Kya hs) hg
 unfold Kkg
 by_cases h:(Kt0 c).1=4 <;> cases hle:le s n 1 g <;> simp [Kw7,Kt1,h,show Kh5 (s,1,(g:Int))=some (le s n 1 g) from hl,hle]
end
def V0y (ty:List Int) (ns:List Nat) (kids:List K03):Int × K03:=(if ty.length > 40 then 3 else 0,⟨ty,Ky3 ns,kids,0,[]⟩)
theorem V0z {α:Type} (x:α) (l:List α):idx (x :: l) 0=some x:=rfl
theorem V10 {α:Type} (x y:α) (l:List α):idx (x :: y :: l) 1=some y:=rfl
theorem V11 {α:Type} (x y z:α) (l:List α):idx (x :: y :: z :: l) 2=some z:=rfl
section
variable {s:K00} {n:Nat} (hs:Ky8 s n) {N:Int} {ty:List Int} {ks:List K01} {ctx us:List (List Int)} {z:List Int} {y0 y1 y2:K03} {a b d:List Nat}
theorem V12 {i:Nat} {q:List Int} {zs:List Nat} (hi:ctx[i]?=some q) (hz:i < zs.length) (hq:q.length ≤ 40):Kn1 (⟨s⟩,⟨[],Ky3 zs,[],0,[]⟩,ctx,⟨0,(i:Int),ty,ks⟩,[],[])=some (V0y q (zs.set i 1) []):=by
 obtain ⟨h1,h2⟩:=List.getElem?_eq_some_iff.1 hi
 have e1:idx ctx (i:Int)=some q:=by rw [Krb h1,h2]
 have e2:idx (Ky3 zs) (i:Int)=some ((zs[i]:Nat):Int):=by rw [Krb (by rw [Ky4]; exact hz)]; simp [Ky3]
 have e3:List.set (Ky3 zs) i 1=Ky3 (zs.set i 1):=by unfold Ky3; rw [List.map_set]; rfl
 have h40:¬ ((q.length:Int) > 40):=by omega
 unfold Kn1 Kmh V0y
 simp [e1,e2,e3,Kv3 q (by omega),show ¬ (40 < (q.length:Int)) by omega,show ¬ (40 < q.length) by omega]
theorem V13 {zs:List Nat}:Kn1 (⟨s⟩,⟨[],Ky3 zs,[],0,[]⟩,ctx,⟨1,N,ty,ks⟩,[],[])=some (V0y [0] zs []):=by
 unfold Kn1 Kmh V0y
 simp
theorem V14 (hy:y0.fty.length ≤ 1000) (ht:ty.length ≤ 1000):Kn1 (⟨s⟩,⟨[],z,[y0],0,[]⟩,ctx,⟨6,N,ty,ks⟩,[Ky3 a],us)=some (V0y (2 :: (y0.fty ++ ty)) a [y0]):=by
 have hc:=Kzc [[2],y0.fty,ty] (by simp) (by simp; omega)
 unfold Kn1 Kmh V0y Kl3
 simp only [List.flatten_cons,List.flatten_nil,List.append_nil,List.singleton_append,List.cons_append,List.nil_append] at hc
 simp [V0z,V10,hc]
 split <;> rename_i q40
 ·rw [if_pos (by omega)]
 ·rw [if_neg (by omega)]
theorem V15 (hy:y0.fty.length ≤ 1000) (ht:ty.length ≤ 1000):Kn1 (⟨s⟩,⟨[],z,[y0],0,[]⟩,ctx,⟨7,N,ty,ks⟩,[Ky3 a],us)=some (V0y (2 :: (ty ++ y0.fty)) a [y0]):=by
 have hc:=Kzc [[2],ty,y0.fty] (by simp) (by simp; omega)
 unfold Kn1 Kmh V0y Kl3
 simp only [List.flatten_cons,List.flatten_nil,List.append_nil,List.singleton_append,List.cons_append,List.nil_append] at hc
 simp [V0z,V10,hc]
 split <;> rename_i q40
 ·rw [if_pos (by omega)]
 ·rw [if_neg (by omega)]
include hs
theorem V16 (ha:Kyj n a) (hb:Kyj n b) (hl:a.length ≤ 1000000) (hab:a.length=b.length):Kn1 (⟨s⟩,⟨[],z,[y0,y1],0,[]⟩,ctx,⟨2,N,ty,ks⟩,[Ky3 a,Ky3 b],us)=some (V0y [0] (Kyg s n a b) [y0,y1]):=by
 have h:=Kyy hs a b ha hb (by omega) hab
 unfold Kn1 Kmh V0y
 simp [V0z,V10,h]
theorem V17 (ha:Kyj n a) (hb:Kyj n b) (hd:Kyj n d) (hl:a.length ≤ 1000000) (hab:a.length=b.length) (had:a.length=d.length) (h2:y2.fty.length ≤ 1000) (h1:y1.fty.length ≤ 40) :
  Kn1 (⟨s⟩,⟨[],z,[y0,y1,y2],0,[]⟩,ctx,⟨3,N,ty,ks⟩,[Ky3 a,Ky3 b,Ky3 d],us)=some (if y1.fty=y2.fty then V0y y1.fty (Kyg s n a (Kyi s n b d)) [y0,y1,y2] else (3,⟨[],z,[y0,y1,y2],0,[]⟩)):=by
 have hj:=Kz0 hs b d hb hd (by omega) (by omega)
 have hlj:(Kyi s n b d).length=a.length:=by unfold Kyi; rw [List.length_zipWith]; omega
 have h:=Kyy hs a (Kyi s n b d) ha (Kyo hs hb hd) (by omega) hlj.symm
 have he:=Kxo y1.fty y2.fty (by omega)
 unfold Kn1 Kmh V0y Kl3
 by_cases hq:y1.fty=y2.fty
 ·rw [show (y1.fty == y2.fty)=true from beq_iff_eq.2 hq] at he
  rw [if_pos hq]
  simp [V0z,V10,V11,he,hj,h,show ¬ (40 < (y1.fty.length:Int)) by omega,show ¬ (40 < y1.fty.length) by omega]
 ·rw [show (y1.fty == y2.fty)=false from beq_eq_false_iff_ne.2 hq] at he
  rw [if_neg hq]
  simp [V0z,V10,V11,he]
theorem V18 (ha:Kyj n a) (hb:Kyj n b) (hl:a.length ≤ 1000000) (hab:a.length=b.length) (h0:y0.fty.length ≤ 1000) (h1:y1.fty.length ≤ 1000) :
  Kn1 (⟨s⟩,⟨[],z,[y0,y1],0,[]⟩,ctx,⟨4,N,ty,ks⟩,[Ky3 a,Ky3 b],us)=some (V0y (1 :: (y0.fty ++ y1.fty)) (Kyg s n a b) [y0,y1]):=by
 have h:=Kyy hs a b ha hb (by omega) hab
 have hc:=Kzc [[1],y0.fty,y1.fty] (by simp) (by simp; omega)
 unfold Kn1 Kmh V0y Kl3
 simp only [List.flatten_cons,List.flatten_nil,List.append_nil,List.singleton_append,List.cons_append,List.nil_append] at hc
 simp [V0z,V10,hc,h]
 split <;> rename_i q40
 ·rw [if_pos (by omega)]
 ·rw [if_neg (by omega)]
theorem V19 {g:Nat} (hg:g < n) {u:List Nat} (hu:Kyj n u) (hul:u.length ≤ 1000000) (hy:y0.fty.length ≤ 1000) (ht:ty.length ≤ 1000) :
  Kn1 (⟨s⟩,⟨[],z,[y0],0,[]⟩,ctx,⟨9,(g:Int),ty,ks⟩,[Ky3 a],[Ky3 u])=some (if (u.all fun x=>le s n x g)=true then V0y ((3 + (g:Int)) :: (ty ++ y0.fty)) a [y0] else (9,⟨[],z,[y0],0,[]⟩)):=by
 have hn:=hs.tab.hi
 have e:=Kz4 hs g hg u hu (by omega)
 have hw:wr (3 + (g:Int))=3 + (g:Int):=Kra (by omega) (by omega)
 have hc:=Kzc [[3 + (g:Int)],ty,y0.fty] (by simp) (by simp; omega)
 unfold Kn1 Kmh V0y Kl3
 simp only [List.flatten_cons,List.flatten_nil,List.append_nil,List.singleton_append,List.cons_append,List.nil_append] at hc
 cases hq:(u.all fun x=>le s n x g) with
 | true =>
  rw [hq] at e
  simp [V0z,V10,e,hc,hw]
  split <;> rename_i q40
  ·rw [if_pos (by omega)]
  ·rw [if_neg (by omega)]
 | false =>
  rw [hq] at e
  simp [V0z,V10,e]
theorem V1a {g:Nat} (hg:g < n) (ha:Kyj n a) (hl:a.length ≤ 1000000) (hy:y0.fty.length ≤ 1000) :
  Kn1 (⟨s⟩,⟨[],z,[y0],0,[]⟩,ctx,⟨11,(g:Int),ty,ks⟩,[Ky3 a],us)=some (V0y ((19 + (g:Int)) :: y0.fty) (Kyh s n g a) [y0]):=by
 have hn:=hs.tab.hi
 have e:=Kz2 hs g hg a ha (by omega)
 have hw:wr (19 + (g:Int))=19 + (g:Int):=Kra (by omega) (by omega)
 have hc:=Kzc [[19 + (g:Int)],y0.fty] (by simp) (by simp; omega)
 unfold Kn1 Kmh V0y Kl3
 simp only [List.flatten_cons,List.flatten_nil,List.append_nil,List.singleton_append,List.cons_append,List.nil_append] at hc
 simp [V0z,V10,hc,hw,e]
 split <;> rename_i q40
 ·rw [if_pos (by omega)]
 ·rw [if_neg (by omega)]
theorem V1b {g:Nat} (hg:g < n) {p q:List Int} (hty:y0.fty=(3 + (g:Int)) :: (p ++ q)) (hP:Kzx s (3 + (g:Int)) p q) (ha:Kyj n a) (hb:Kyj n b) (hl:a.length ≤ 1000000) (hab:a.length=b.length) :
  Kn1 (⟨s⟩,⟨[],z,[y0,y1],0,[]⟩,ctx,⟨10,N,ty,ks⟩,[Ky3 a,Ky3 b],us)=some (V0y q (Kyg s n a (Kyh s n g b)) [y0,y1]):=by
 have hn:=hs.tab.hi
 have e:=Kz2 hs g hg b hb (by omega)
 have hlj:(Kyh s n g b).length=a.length:=by unfold Kyh; rw [List.length_map]; omega
 have h:=Kyy hs a (Kyh s n g b) ha (Kyn hs hg hb) (by omega) hlj.symm
 have hsh:Kt0 (3 + (g:Int))=(3,(g:Int)):=by
  rcases Kt2 (3 + (g:Int)) with h | h | h | h | h | h | h | h <;> first | omega | (obtain ⟨_,e⟩:=h; rw [e]; congr 1; omega)
 have hq:=Kzu hP.yb
 have pp:=hP.pp
 rw [← hty] at pp
 have i0:idx y0.fty 0=some (3 + (g:Int)):=by rw [hty]; rfl
 unfold Kn1 Kmh V0y Kl3
 simp [V0z,V10,i0,Kt1,hsh,pp,e,h,show ¬ (40 < (q.length:Int)) by omega,show ¬ (40 < q.length) by omega]
theorem V1c {g:Nat} (hg:g < n) {u:List Nat} {us':List Int} (hu:Kyj n u) (hul:u.length ≤ 1000000) (ha:Kyj n a) (hb:Kyj n b) (hl:a.length ≤ 1000000) (hab:a.length=b.length) (h1:y1.fty.length ≤ 40) :
  Kn1 (⟨s⟩,⟨[],z,[y0,y1],0,[]⟩,ctx,⟨5,(g:Int),ty,ks⟩,[Ky3 a,Ky3 b],[us',Ky3 u])=some (if (u.all fun x=>le s n x g)=true then V0y y1.fty (Kyg s n (Kyh s n g a) b) [y0,y1] else (9,⟨[],z,[y0,y1],0,[]⟩)):=by
 have e:=Kz4 hs g hg u hu (by omega)
 have e2:=Kz2 hs g hg a ha (by omega)
 have hlj:(Kyh s n g a).length=a.length:=by unfold Kyh; rw [List.length_map]
 have h:=Kyy hs (Kyh s n g a) b (Kyn hs hg ha) hb (by omega) (by omega)
 unfold Kn1 Kmh V0y Kl3
 cases hq:(u.all fun x=>le s n x g) with
 | true =>
  rw [hq] at e
  simp [V0z,V10,e,e2,h,show ¬ (40 < (y1.fty.length:Int)) by omega,show ¬ (40 < y1.fty.length) by omega]
 | false =>
  rw [hq] at e
  simp [V0z,V10,e]
theorem V1d {g m:Nat} (hg:g < n) (hm:m < n) {p:List Int} (hty:y0.fty=(19 + (m:Int)) :: p) {u:List Nat} {us':List Int} (hu:Kyj n u) (hul:u.length ≤ 1000000) (ha:Kyj n a) (hb:Kyj n b) (hl:a.length ≤ 1000000) (hab:a.length=b.length) (h1:y1.fty.length ≤ 40) :
  Kn1 (⟨s⟩,⟨[],z,[y0,y1],0,[]⟩,ctx,⟨12,(g:Int),ty,ks⟩,[Ky3 a,Ky3 b],[us',Ky3 u])=some (if (u.all fun x=>le s n x (ti s n g m))=true then V0y y1.fty (Kyg s n (Kyh s n g a) b) [y0,y1] else (9,⟨[],z,[y0,y1],0,[]⟩)):=by
 have hn:=hs.tab.hi
 have e0:=Ks1 hs.tab hg hm
 have e:=Kz4 hs (ti s n g m) (Kru hs.tab hg hm) u hu (by omega)
 have e2:=Kz2 hs g hg a ha (by omega)
 have hlj:(Kyh s n g a).length=a.length:=by unfold Kyh; rw [List.length_map]
 have h:=Kyy hs (Kyh s n g a) b (Kyn hs hg ha) hb (by omega) (by omega)
 have hsh:Kt0 (19 + (m:Int))=(4,(m:Int)):=by
  rcases Kt2 (19 + (m:Int)) with h | h | h | h | h | h | h | h <;> first | omega | (obtain ⟨_,e⟩:=h; rw [e]; congr 1; omega)
 have i0:idx y0.fty 0=some (19 + (m:Int)):=by rw [hty]; rfl
 unfold Kn1 Kmh V0y Kl3
 cases hq:(u.all fun x=>le s n x (ti s n g m)) with
 | true =>
  rw [hq] at e
  simp [V0z,V10,i0,Kt1,hsh,e0,e,e2,h,show ¬ (40 < (y1.fty.length:Int)) by omega,show ¬ (40 < y1.fty.length) by omega]
 | false =>
  rw [hq] at e
  simp [V0z,V10,i0,Kt1,hsh,e0,e]
theorem V1e {g:Nat} (hg:g < n) {u v:List Nat} {us':List Int} (hu:Kyj n u) (hul:u.length ≤ 1000000) (hv:Kyj n v) (hvl:v.length ≤ 1000000) (ha:Kyj n a) (hb:Kyj n b) (hd:Kyj n d) (hl:a.length ≤ 1000000) (hab:a.length=b.length) (had:a.length=d.length) (h2:y2.fty.length ≤ 1000) (h1:y1.fty.length ≤ 40) :
  Kn1 (⟨s⟩,⟨[],z,[y0,y1,y2],0,[]⟩,ctx,⟨8,(g:Int),ty,ks⟩,[Ky3 a,Ky3 b,Ky3 d],[us',Ky3 u,Ky3 v]) =
   some (if y1.fty=y2.fty then (if (u.all fun x=>le s n x g)=true∧(v.all fun x=>le s n x g)=true then V0y y1.fty (Kyg s n (Kyh s n g a) (Kyi s n b d)) [y0,y1,y2] else (9,⟨[],z,[y0,y1,y2],0,[]⟩)) else (3,⟨[],z,[y0,y1,y2],0,[]⟩)):=by
 have e:=Kz4 hs g hg u hu (by omega)
 have e':=Kz4 hs g hg v hv (by omega)
 have e2:=Kz2 hs g hg a ha (by omega)
 have hj:=Kz0 hs b d hb hd (by omega) (by omega)
 have hlj:(Kyi s n b d).length=a.length:=by unfold Kyi; rw [List.length_zipWith]; omega
 have hls:(Kyh s n g a).length=a.length:=by unfold Kyh; rw [List.length_map]
 have h:=Kyy hs (Kyh s n g a) (Kyi s n b d) (Kyn hs hg ha) (Kyo hs hb hd) (by omega) (by omega)
 have he:=Kxo y1.fty y2.fty (by omega)
 unfold Kn1 Kmh V0y Kl3
 by_cases hq:y1.fty=y2.fty
 ·rw [show (y1.fty == y2.fty)=true from beq_iff_eq.2 hq] at he
  rw [if_pos hq]
  cases hu':(u.all fun x=>le s n x g) with
  | false =>
   rw [hu'] at e
   simp [V0z,V10,V11,he,e]
  | true =>
   rw [hu'] at e
   cases hv':(v.all fun x=>le s n x g) with
   | false =>
    rw [hv'] at e'
    simp [V0z,V10,V11,he,e,e']
   | true =>
    rw [hv'] at e'
    simp [V0z,V10,V11,he,e,e',e2,hj,h,show ¬ (40 < (y1.fty.length:Int)) by omega,show ¬ (40 < y1.fty.length) by omega]
 ·rw [show (y1.fty == y2.fty)=false from beq_eq_false_iff_ne.2 hq] at he
  rw [if_neg hq]
  simp [V0z,V10,V11,he]
end
def V1f (t:K01) (i:Nat) (kids:List K03):List (List Int):=(Kjy (t,(i:Int),(match kids with | []=>[] | y :: _=>y.fty))).getD []
structure V1g (s:K00) (ctx:List (List Int)) (t:K01) (kids:List K03) (i:Nat) (k:K01) (y:K03):Prop where
 im:Kn7 (⟨s⟩,V1f t i kids ++ ctx,k)=some y
 fa:y.ffault=0
 ty:∀ q ∈ V1f t i kids,TyS s q
 ln:(V1f t i kids).length=Ku6 t.fOp i
structure V1h (s:K00) (n:Nat) (ctx:List (List Int)) (t:K01) (x:K02) (y:K03):Prop where
 sp:Kfk (s,ctx,t)=some x
 im:Kn7 (⟨s⟩,ctx,t)=some y
 ty:y.fty=x.fty
 ne:y.fneeds=x.fneeds
 fa:y.ffault=x.ffault
 pa:y.fpath=x.fpath
 pl:x.fpath.length + 1 ≤ tsz t
 bd:x.ffault ≠ 0→x.fty=[]∧x.fneeds=[]
 gd:x.ffault=0→TyS s x.fty∧x.fpath=[]∧∃ ns:List Nat,x.fneeds=Ky3 ns∧ns.length=ctx.length∧Kyj n ns
 kd:x.ffault=0→y.fkids.length=t.fKids.length∧∀ (i:Nat) (k:K01),t.fKids[i]?=some k→∃ yk,y.fkids[i]?=some yk∧V1g s ctx t y.fkids i k yk
section
variable {s:K00} {n:Nat} {ctx:List (List Int)} {t:K01}
theorem V1h.bad {f:Int} {p:List Int} (sp:Kfk (s,ctx,t)=some ⟨[],[],f,p⟩) (im:Kn7 (⟨s⟩,ctx,t)=some ⟨[],[],[],f,p⟩) (hf:f ≠ 0) (hp:p.length + 1 ≤ tsz t):∃ x y,V1h s n ctx t x y :=
 ⟨_,_,{ sp:=sp,im:=im,ty:=rfl,ne:=rfl,fa:=rfl,pa:=rfl,pl:=hp,bd:=fun _=>⟨rfl,rfl⟩,gd:=fun h=>absurd h hf,kd:=fun h=>absurd h hf }⟩
theorem V1h.good {q:List Int} {ns:List Nat} {kids:List K03} (sp:Kfk (s,ctx,t)=some ⟨q,Ky3 ns,0,[]⟩) (im:Kn7 (⟨s⟩,ctx,t)=some ⟨q,Ky3 ns,kids,0,[]⟩) (hp:1 ≤ tsz t) (hq:TyS s q) (hl:ns.length=ctx.length) (hb:Kyj n ns)
  (kl:kids.length=t.fKids.length) (kd:∀ (i:Nat) (k:K01),t.fKids[i]?=some k→∃ yk,kids[i]?=some yk∧V1g s ctx t kids i k yk):∃ x y,V1h s n ctx t x y :=
 ⟨_,_,{ sp:=sp,im:=im,ty:=rfl,ne:=rfl,fa:=rfl,pa:=rfl,pl:=by simpa using hp,bd:=fun h=>absurd rfl h,gd:=fun _=>⟨hq,rfl,ns,rfl,hl,hb⟩,kd:=fun _=>⟨kl,kd⟩ }⟩
theorem V1h.done {q:List Int} {ns:List Nat} {kids:List K03} (sp:Kfk (s,ctx,t)=Keu (q,Ky3 ns)) (im:Kn7 (⟨s⟩,ctx,t)=some (if (V0y q ns kids).1=0 then ⟨(V0y q ns kids).2.fty,(V0y q ns kids).2.fneeds,(V0y q ns kids).2.fkids,0,(V0y q ns kids).2.fpath⟩ else ⟨[],[],[],(V0y q ns kids).1,[]⟩)) (hp:1 ≤ tsz t)
  (hq:q.length ≤ 40→TyS s q) (hl:ns.length=ctx.length) (hb:Kyj n ns) (kl:kids.length=t.fKids.length) (kd:∀ (i:Nat) (k:K01),t.fKids[i]?=some k→∃ yk,kids[i]?=some yk∧V1g s ctx t kids i k yk):∃ x y,V1h s n ctx t x y:=by
 unfold Keu Ked at sp
 simp only at sp
 unfold V0y at im
 by_cases h:q.length > 40
 ·rw [decide_eq_true (by omega),if_pos rfl,bs] at sp
  rw [if_pos h,if_neg (by simp)] at im
  exact V1h.bad sp im (by decide) (by simpa using hp)
 ·rw [decide_eq_false (by omega),if_neg (by decide)] at sp
  rw [if_neg h,if_pos rfl] at im
  exact V1h.good sp im hp (hq (by omega)) hl hb kl kd
theorem V1i {i:Nat} {k:K01} {x:K02} {y:K03} {c:List (List Int)} (hk:t.fKids[i]?=some k) (h:V1h s n c k x y) (hf:x.ffault=0):Kfm (s,c,t,(i:Int))=some x:=by
 obtain ⟨h1,h2⟩:=List.getElem?_eq_some_iff.1 hk
 rw [Kfm.eq_def]
 simp only
 rw [Krb h1,h2,bs,h.sp,bs,if_neg (by simp [hf]),bs]
theorem V1j {i:Nat} {k:K01} {x:K02} {y:K03} {c:List (List Int)} (hk:t.fKids[i]?=some k) (h:V1h s n c k x y) (hz:tsz k ≤ 1000000) (hf:x.ffault ≠ 0):Kfm (s,c,t,(i:Int))=some ⟨[],[],x.ffault,(i:Int) :: x.fpath⟩:=by
 obtain ⟨h1,h2⟩:=List.getElem?_eq_some_iff.1 hk
 have hp:=h.pl
 obtain ⟨q1,q2⟩:=h.bd hf
 rw [Kfm.eq_def]
 simp only
 rw [Krb h1,h2,bs,h.sp,bs,if_pos (bne_iff_ne.2 hf),Kv0 (by simp; omega),bs,bs,q1,q2]
 rfl
variable {out:List K03} {nd us:List (List Int)} {w:Nat} {k:K01} {m:List (List Int)} {x:K02} {y:K03}
theorem V1k (hk:t.fKids[w]?=some k) (hm:V0c t out w=some m) (r:V1h s n (m ++ ctx) k x y) (hz:tsz k ≤ 1000000) (hc:ctx.length + m.length ≤ 1000000) (hf:x.ffault ≠ 0) :
  Kn8 (⟨s⟩,ctx,t,out,nd,us,(w:Int))=some (.inr ⟨[],[],[],x.ffault,(w:Int) :: x.fpath⟩):=by
 obtain ⟨h1,h2⟩:=List.getElem?_eq_some_iff.1 hk
 have hp:=r.pl
 rw [V0e h1 (by rw [Krb h1,h2]) hm hc r.im,V0j (by rw [r.fa]; exact hf) (by rw [r.pa]; omega),r.fa,r.pa]
theorem V1l {f:Int} (hk:t.fKids[w]?=some k) (hm:V0c t out w=some m) (r:V1h s n (m ++ ctx) k x y) (hc:ctx.length + m.length ≤ 1000000) (hf:x.ffault=0) (h:Kkg (⟨s⟩,t,(w:Int),x.fty)=some f) (hf0:f ≠ 0) :
  Kn8 (⟨s⟩,ctx,t,out,nd,us,(w:Int))=some (.inr ⟨[],[],[],f,[]⟩):=by
 obtain ⟨h1,h2⟩:=List.getElem?_eq_some_iff.1 hk
 rw [V0e h1 (by rw [Krb h1,h2]) hm hc r.im,V0k (by rw [r.fa]; exact hf) (by rw [r.ty]; exact h) hf0]
theorem V1m (hk:t.fKids[w]?=some k) (hm:V0c t out w=some m) (r:V1h s n (m ++ ctx) k x y) (hc:ctx.length + m.length ≤ 1000000) (hf:x.ffault=0) (h:Kkg (⟨s⟩,t,(w:Int),x.fty)=some 0) (ha:V0i t out w y=some true) :
  Kn8 (⟨s⟩,ctx,t,out,nd,us,(w:Int))=some (.inr ⟨[],[],[],3,[]⟩):=by
 obtain ⟨h1,h2⟩:=List.getElem?_eq_some_iff.1 hk
 rw [V0e h1 (by rw [Krb h1,h2]) hm hc r.im,V0l (by rw [r.fa]; exact hf) (by rw [r.ty]; exact h) ha]
theorem V1n {ns:List Nat} (hk:t.fKids[w]?=some k) (hm:V0c t out w=some m) (r:V1h s n (m ++ ctx) k x y) (hc:ctx.length + m.length ≤ 1000000) (hf:x.ffault=0) (h:Kkg (⟨s⟩,t,(w:Int),x.fty)=some 0) (ha:V0i t out w y=some false)
  (hn:x.fneeds=Ky3 ns) (hl:m.length ≤ ns.length) (h1':out.length ≤ 1000000) (h2':nd.length ≤ 1000000) (h3':us.length ≤ 1000000) (h4':w ≤ 1000000) :
  Kn8 (⟨s⟩,ctx,t,out,nd,us,(w:Int))=Kn8 (⟨s⟩,ctx,t,(out ++ [y]),(nd ++ [Ky3 (ns.drop m.length)]),(us ++ [Ky3 (ns.take m.length)]),((w + 1:Nat):Int)):=by
 obtain ⟨h1,h2⟩:=List.getElem?_eq_some_iff.1 hk
 rw [V0e h1 (by rw [Krb h1,h2]) hm hc r.im,V0m (by rw [r.fa]; exact hf) (by rw [r.ty]; exact h) ha (by rw [r.ne]; exact hn) hl h1' h2' h3' h4']
end
theorem V1o {op N:Int} {ty:List Int} {ks:List K01} {i:Nat} {q:List Int} (h9:op ≠ 9) (h:Ku6 op (i:Int)=0):Kjy (⟨op,N,ty,ks⟩,(i:Int),q)=some []:=by
 unfold Kjy
 simp only
 rw [if_neg (by simpa using h9),Ku9,bs,h]
 rfl
theorem V1p {N:Int} {ty:List Int} {ks:List K01} {i:Nat} {q:List Int}:Kjy (⟨9,N,ty,ks⟩,(i:Int),q)=some [ty]:=by
 unfold Kjy
 simp only
 rw [if_pos (by decide)]
theorem V1q {s:K00} {N:Int} {ty:List Int} {ks:List K01} {p q:List Int} (h:Kzx s 1 p q):Kjy (⟨5,N,ty,ks⟩,((1:Nat):Int),1 :: (p ++ q))=some [q,p]:=by
 unfold Kjy
 simp only
 rw [if_neg (by decide),Ku9,bs,show Ku6 5 ((1:Nat):Int)=2 from rfl,if_neg (by decide),h.pp,bs,if_pos (by decide)]
 rfl
theorem V1r {s:K00} {N:Int} {ty:List Int} {ks:List K01} {p q:List Int} (h:Kzx s 2 p q):Kjy (⟨8,N,ty,ks⟩,((1:Nat):Int),2 :: (p ++ q))=some [p]:=by
 unfold Kjy
 simp only
 rw [if_neg (by decide),Ku9,bs,show Ku6 8 ((1:Nat):Int)=1 from rfl,if_neg (by decide),h.pp,bs,if_neg (by decide),if_pos (by decide)]
 rfl
theorem V1s {s:K00} {N:Int} {ty:List Int} {ks:List K01} {p q:List Int} (h:Kzx s 2 p q):Kjy (⟨8,N,ty,ks⟩,((2:Nat):Int),2 :: (p ++ q))=some [q]:=by
 unfold Kjy
 simp only
 rw [if_neg (by decide),Ku9,bs,show Ku6 8 ((2:Nat):Int)=1 from rfl,if_neg (by decide),h.pp,bs,if_neg (by decide),if_pos (by decide)]
 rfl
theorem V1t {s:K00} {N c:Int} {ty:List Int} {ks:List K01} {p:List Int} (h:Kzy s c p):Kjy (⟨12,N,ty,ks⟩,((1:Nat):Int),c :: p)=some [p]:=by
 unfold Kjy
 simp only
 rw [if_neg (by decide),Ku9,bs,show Ku6 12 ((1:Nat):Int)=1 from rfl,if_neg (by decide),h.pp,bs,if_neg (by decide),if_neg (by decide)]
theorem V1u {op N:Int} {ty:List Int} {ks:List K01} (h9:op ≠ 9):V0c ⟨op,N,ty,ks⟩ [] 0=some []:=by
 unfold V0c
 simp [h9]
theorem V1v {N:Int} {ty:List Int} {ks:List K01}:V0c ⟨9,N,ty,ks⟩ [] 0=some [ty]:=by
 unfold V0c
 have:=@V1p N ty ks 0 []
 simp at this ⊢
 rw [this]
theorem V1w {t:K01} {w:Nat} {y0:K03} {l:List K03} {m:List (List Int)} (hw:0 < w) (h:Kjy (t,(w:Int),y0.fty)=some m):V0c t (y0 :: l) w=some m:=by
 unfold V0c
 rw [show decide ((w:Int) > 0)=true from decide_eq_true (by omega),if_pos rfl,bs,if_pos rfl,if_pos rfl,V0z,bs,bs,h,bs]
theorem V1x {t:K01} {i:Nat} {y0:K03} {l:List K03} {m:List (List Int)} (h:Kjy (t,(i:Int),y0.fty)=some m):V1f t i (y0 :: l)=m:=by
 unfold V1f
 simp only
 rw [h]; rfl
theorem kd1 {s:K00} {ctx:List (List Int)} {op N:Int} {ty:List Int} {k0:K01} {y0:K03} (h0:V1g s ctx ⟨op,N,ty,[k0]⟩ [y0] 0 k0 y0) :
  ∀ (i:Nat) (k:K01),(⟨op,N,ty,[k0]⟩:K01).fKids[i]?=some k→∃ yk,[y0][i]?=some yk∧V1g s ctx ⟨op,N,ty,[k0]⟩ [y0] i k yk:=by
 intro i k hk
 match i,hk with
 | 0,hk=>cases hk; exact ⟨y0,rfl,h0⟩
 | i + 1,hk=>simp at hk
theorem kd2 {s:K00} {ctx:List (List Int)} {op N:Int} {ty:List Int} {k0 k1:K01} {y0 y1:K03} (h0:V1g s ctx ⟨op,N,ty,[k0,k1]⟩ [y0,y1] 0 k0 y0) (h1:V1g s ctx ⟨op,N,ty,[k0,k1]⟩ [y0,y1] 1 k1 y1) :
  ∀ (i:Nat) (k:K01),(⟨op,N,ty,[k0,k1]⟩:K01).fKids[i]?=some k→∃ yk,[y0,y1][i]?=some yk∧V1g s ctx ⟨op,N,ty,[k0,k1]⟩ [y0,y1] i k yk:=by
 intro i k hk
 match i,hk with
 | 0,hk=>cases hk; exact ⟨y0,rfl,h0⟩
 | 1,hk=>cases hk; exact ⟨y1,rfl,h1⟩
 | i + 2,hk=>simp at hk
theorem kd3 {s:K00} {ctx:List (List Int)} {op N:Int} {ty:List Int} {k0 k1 k2:K01} {y0 y1 y2:K03} (h0:V1g s ctx ⟨op,N,ty,[k0,k1,k2]⟩ [y0,y1,y2] 0 k0 y0) (h1:V1g s ctx ⟨op,N,ty,[k0,k1,k2]⟩ [y0,y1,y2] 1 k1 y1) (h2:V1g s ctx ⟨op,N,ty,[k0,k1,k2]⟩ [y0,y1,y2] 2 k2 y2) :
  ∀ (i:Nat) (k:K01),(⟨op,N,ty,[k0,k1,k2]⟩:K01).fKids[i]?=some k→∃ yk,[y0,y1,y2][i]?=some yk∧V1g s ctx ⟨op,N,ty,[k0,k1,k2]⟩ [y0,y1,y2] i k yk:=by
 intro i k hk
 match i,hk with
 | 0,hk=>cases hk; exact ⟨y0,rfl,h0⟩
 | 1,hk=>cases hk; exact ⟨y1,rfl,h1⟩
 | 2,hk=>cases hk; exact ⟨y2,rfl,h2⟩
 | i + 3,hk=>simp at hk
theorem V1g.mk' {s:K00} {n:Nat} {ctx m:List (List Int)} {t k:K01} {y0:K03} {l:List K03} {i:Nat} {x:K02} {y:K03} (ha:Kjy (t,(i:Int),y0.fty)=some m) (r:V1h s n (m ++ ctx) k x y) (hf:x.ffault=0) (hm:∀ q ∈ m,TyS s q) (hl:m.length=Ku6 t.fOp i):V1g s ctx t (y0 :: l) i k y:=by
 have e:=V1x (l:=l) ha
 exact ⟨by rw [e]; exact r.im,by rw [r.fa]; exact hf,by rw [e]; exact hm,by rw [e]; exact hl⟩
def V1y (s:K00) (n sz:Nat):Prop:=∀ (k:K01) (c:List (List Int)),V07 s c.length k sz→(∀ q ∈ c,TyS s q)→c.length + 2 * tsz k ≤ 1000000→∃ x y,V1h s n c k x y
theorem V1z {X:Option K03} {q:List Int} {ns:List Nat} {kids:List K03} (h:q.length ≤ 40) (im:X=some (if (V0y q ns kids).1=0 then (⟨(V0y q ns kids).2.fty,(V0y q ns kids).2.fneeds,(V0y q ns kids).2.fkids,0,(V0y q ns kids).2.fpath⟩:K03) else ⟨[],[],[],(V0y q ns kids).1,[]⟩)):X=some ⟨q,Ky3 ns,kids,0,[]⟩:=by
 rw [im]
 unfold V0y
 simp only
 rw [show (if q.length > 40 then (3:Int) else 0)=0 from if_neg (by omega),if_pos rfl]
section
variable {s:K00} {n:Nat} (hs:Ky8 s n) {ctx:List (List Int)} {N:Int} {ty:List Int} {ks:List K01}
theorem V20 {op:Int} {k0:K01} {l:List K01} {x0:K02} {y0:K03} (h0:op ≠ 0) (h1:op ≠ 1) (h9:op ≠ 9) (hb:ctx.length + 2 * tsz (⟨op,N,ty,k0 :: l⟩:K01) ≤ 1000000) (r0:V1h s n ctx k0 x0 y0) (f0:x0.ffault ≠ 0) :
  ∃ x y,V1h s n ctx ⟨op,N,ty,k0 :: l⟩ x y:=by
 have hz:tsz k0 + 1 ≤ tsz (⟨op,N,ty,k0 :: l⟩:K01):=by rw [tsz,Ktn]; omega
 have e0:Kfm (s,ctx,⟨op,N,ty,k0 :: l⟩,0)=some ⟨[],[],x0.ffault,0 :: x0.fpath⟩:=V1j (i:=0) rfl r0 (by omega) f0
 refine V1h.bad (f:=x0.ffault) (p:=0 :: x0.fpath) ?_ (V0n (by omega) (V1k (m:=[]) rfl (V1u h9) r0 (by omega) (by simp; omega) f0)) f0 (by have:=r0.pl; simp; omega)
 rw [Kfk.eq_def]
 simp [h0,h1,h9,e0,f0]
include hs
theorem V21 {t:K01} (ht:t.fOp=0) (h:tOk (gN s.fSize true) (yN s.fSize true) ctx.length t=true) (hc:∀ q ∈ ctx,TyS s q) (hb:ctx.length + 2 * tsz t ≤ 1000000):∃ x y,V1h s n ctx t x y:=by
 obtain ⟨i,hi,hl,hk⟩:=V0a h ht
 obtain ⟨op,N,ty,ks⟩:=t
 simp only at ht hi hk
 subst ht; subst hi; subst hk
 have hq:ctx[i]?=some ctx[i]:=List.getElem?_eq_getElem hl
 have hy:=hc ctx[i] (List.getElem_mem hl)
 have e1:idx ctx (i:Int)=some ctx[i]:=Krb hl
 have hz:=Kz5 ctx.length (by omega)
 have e2:idx (Ky3 (List.replicate ctx.length 0)) (i:Int)=some (((List.replicate ctx.length (0:Nat))[i]'(by simpa using hl):Nat):Int):=by
  rw [Krb (by rw [Ky4]; simpa using hl)]; simp [Ky3]
 have e3:List.set (Ky3 (List.replicate ctx.length 0)) i 1=Ky3 ((List.replicate ctx.length 0).set i 1):=by unfold Ky3; rw [List.map_set]; rfl
 have hf:=V12 (s:=s) (ty:=ty) (ks:=[]) (zs:=List.replicate ctx.length 0) hq (by simpa using hl) (Kzu hy)
 have im:=V0o (p0:=⟨s⟩) (t:=⟨0,(i:Int),ty,[]⟩) (by omega) (V0f (Nat.le_refl _)) hf
 refine V1h.good (q:=ctx[i]) (ns:=(List.replicate ctx.length 0).set i 1) (kids:=[]) ?_ ?_ (by rw [tsz]; omega) hy (by simp) ?_ rfl (fun i k hk=>by simp at hk)
 ·rw [Kfk.eq_def]
  simp [hz,e1,e2,Kv2 ctx[i] (by have:=Kzu hy; omega),e3]
 ·exact V1z (Kzu hy) im
 ·intro x hx
  have h1:=Kya hs
  rcases List.mem_or_eq_of_mem_set hx with h | rfl
  ·rw [List.eq_of_mem_replicate h]; omega
  ·exact h1
theorem V22 {t:K01} (ht:t.fOp=1) (h:tOk (gN s.fSize true) (yN s.fSize true) ctx.length t=true) (hb:ctx.length + 2 * tsz t ≤ 1000000):∃ x y,V1h s n ctx t x y:=by
 have hk:=V0b h ht
 obtain ⟨op,N,ty,ks⟩:=t
 simp only at ht hk
 subst ht; subst hk
 have hz:=Kz5 ctx.length (by omega)
 have hf:=V13 (s:=s) (N:=N) (ty:=ty) (ks:=[]) (ctx:=ctx) (zs:=List.replicate ctx.length 0)
 have im:=V0o (p0:=⟨s⟩) (t:=⟨1,N,ty,[]⟩) (by omega) (V0f (Nat.le_refl _)) hf
 refine V1h.good (q:=[0]) (ns:=List.replicate ctx.length 0) (kids:=[]) ?_ ?_ (by rw [tsz]; omega) V00 (by simp) ?_ rfl (fun i k hk=>by simp at hk)
 ·rw [Kfk.eq_def]
  simp [hz]
 ·exact V1z (by decide) im
 ·intro x hx
  rw [List.eq_of_mem_replicate hx]
  exact Kyb hs
theorem V23 {q:List Int} (hq:TyS s q):∃ c r,q=c :: r∧((Kt0 c).1=0 ↔ c=0)∧(c=0→q=[0]):=by
 rcases V03 hs hq with rfl | ⟨a,b,rfl,_⟩ | ⟨a,b,rfl,_⟩ | ⟨g,a,b,hg,h15,rfl,_⟩ | ⟨g,a,hg,h15,rfl,_⟩
 ·exact ⟨0,[],rfl,by decide,fun _=>rfl⟩
 ·exact ⟨1,_,rfl,by decide,fun h=>absurd h (by decide)⟩
 ·exact ⟨2,_,rfl,by decide,fun h=>absurd h (by decide)⟩
 ·refine ⟨_,_,rfl,?_,fun h=>by omega⟩
  rcases Kt2 (3 + (g:Int)) with h | h | h | h | h | h | h | h <;> first | omega | (obtain ⟨_,e⟩:=h; rw [e]; simp; omega)
 ·refine ⟨_,_,rfl,?_,fun h=>by omega⟩
  rcases Kt2 (19 + (g:Int)) with h | h | h | h | h | h | h | h <;> first | omega | (obtain ⟨_,e⟩:=h; rw [e]; simp; omega)
theorem V24 (ih:V1y s n (tsz (⟨6,N,ty,ks⟩:K01))) (h:tOk (gN s.fSize true) (yN s.fSize true) ctx.length ⟨6,N,ty,ks⟩=true) (hc:∀ q ∈ ctx,TyS s q) (hb:ctx.length + 2 * tsz (⟨6,N,ty,ks⟩:K01) ≤ 1000000):∃ x y,V1h s n ctx ⟨6,N,ty,ks⟩ x y:=by
 obtain ⟨k0,rfl,p0⟩:=nd1 h (Nat.le_refl _) rfl
 have hz:=Kxu 6 N ty k0
 have hy:TyS s ty:=V09 h rfl
 have ly:=Kzu hy
 obtain ⟨x0,y0,r0⟩:=ih k0 ctx p0 hc (by omega)
 by_cases f0:x0.ffault=0
 rotate_left
 ·exact V20 (by decide) (by decide) (by decide) hb r0 f0
 obtain ⟨g0,q0,a,na,la,ba⟩:=r0.gd f0
 obtain ⟨c0,t0,ht0,hn0,hz0⟩:=V23 hs g0
 have L0:=Kzu g0
 have e0:Kfm (s,ctx,⟨6,N,ty,[k0]⟩,0)=some x0:=V1i (i:=0) rfl r0 f0
 have o0:=V1n (out:=[]) (nd:=[]) (us:=[]) (w:=0) (t:=⟨6,N,ty,[k0]⟩) (m:=[]) rfl (V1u (by decide)) r0 (by simp; omega) f0 (by rw [ht0]; exact V0r (.inl (by decide))) (V0p (show (6:Int) ≠ 10 by decide)) na (by simp <;> omega) (by simp) (by simp) (by simp) (by simp)
 have hf:=V14 (s:=s) (N:=N) (ty:=ty) (ks:=[k0]) (ctx:=ctx) (us:=[Ky3 []]) (z:=Ky3 (List.replicate ctx.length 0)) (y0:=y0) (a:=a) (by rw [r0.ty]; omega) (by omega)
 have im:=V0o (p0:=⟨s⟩) (t:=⟨6,N,ty,[k0]⟩) (ctx:=ctx) (by omega) (o0.trans (V0f (Nat.le_refl _))) hf
 rw [r0.ty] at im
 refine V1h.done (q:=2 :: (x0.fty ++ ty)) (ns:=a) (kids:=[y0]) ?_ im (by omega) (fun hl=>V04 hs g0 hy (.inr (.inl rfl)) hl) la ba rfl (kd1 (V1g.mk' (V1o (by decide) rfl) r0 f0 (fun _ h=>by cases h) rfl))
 have hg:=Kz8 2 [x0.fty,ty] (by simp) (by simp; omega)
 simp only [List.flatten_cons,List.flatten_nil,List.append_nil] at hg
 rw [Kfk.eq_def]
 simp [e0,f0,hg,na]
theorem V25 (ih:V1y s n (tsz (⟨7,N,ty,ks⟩:K01))) (h:tOk (gN s.fSize true) (yN s.fSize true) ctx.length ⟨7,N,ty,ks⟩=true) (hc:∀ q ∈ ctx,TyS s q) (hb:ctx.length + 2 * tsz (⟨7,N,ty,ks⟩:K01) ≤ 1000000):∃ x y,V1h s n ctx ⟨7,N,ty,ks⟩ x y:=by
 obtain ⟨k0,rfl,p0⟩:=nd1 h (Nat.le_refl _) rfl
 have hz:=Kxu 7 N ty k0
 have hy:TyS s ty:=V09 h rfl
 have ly:=Kzu hy
 obtain ⟨x0,y0,r0⟩:=ih k0 ctx p0 hc (by omega)
 by_cases f0:x0.ffault=0
 rotate_left
 ·exact V20 (by decide) (by decide) (by decide) hb r0 f0
 obtain ⟨g0,q0,a,na,la,ba⟩:=r0.gd f0
 obtain ⟨c0,t0,ht0,hn0,hz0⟩:=V23 hs g0
 have L0:=Kzu g0
 have e0:Kfm (s,ctx,⟨7,N,ty,[k0]⟩,0)=some x0:=V1i (i:=0) rfl r0 f0
 have o0:=V1n (out:=[]) (nd:=[]) (us:=[]) (w:=0) (t:=⟨7,N,ty,[k0]⟩) (m:=[]) rfl (V1u (by decide)) r0 (by simp; omega) f0 (by rw [ht0]; exact V0r (.inl (by decide))) (V0p (show (7:Int) ≠ 10 by decide)) na (by simp <;> omega) (by simp) (by simp) (by simp) (by simp)
 have hf:=V15 (s:=s) (N:=N) (ty:=ty) (ks:=[k0]) (ctx:=ctx) (us:=[Ky3 []]) (z:=Ky3 (List.replicate ctx.length 0)) (y0:=y0) (a:=a) (by rw [r0.ty]; omega) (by omega)
 have im:=V0o (p0:=⟨s⟩) (t:=⟨7,N,ty,[k0]⟩) (ctx:=ctx) (by omega) (o0.trans (V0f (Nat.le_refl _))) hf
 rw [r0.ty] at im
 refine V1h.done (q:=2 :: (ty ++ x0.fty)) (ns:=a) (kids:=[y0]) ?_ im (by omega) (fun hl=>V04 hs hy g0 (.inr (.inl rfl)) hl) la ba rfl (kd1 (V1g.mk' (V1o (by decide) rfl) r0 f0 (fun _ h=>by cases h) rfl))
 have hg:=Kz8 2 [ty,x0.fty] (by simp) (by simp; omega)
 simp only [List.flatten_cons,List.flatten_nil,List.append_nil] at hg
 rw [Kfk.eq_def]
 simp [e0,f0,hg,na]
theorem V26 (ih:V1y s n (tsz (⟨11,N,ty,ks⟩:K01))) (h:tOk (gN s.fSize true) (yN s.fSize true) ctx.length ⟨11,N,ty,ks⟩=true) (hc:∀ q ∈ ctx,TyS s q) (hb:ctx.length + 2 * tsz (⟨11,N,ty,ks⟩:K01) ≤ 1000000):∃ x y,V1h s n ctx ⟨11,N,ty,ks⟩ x y:=by
 obtain ⟨k0,rfl,p0⟩:=nd1 h (Nat.le_refl _) rfl
 have hz:=Kxu 11 N ty k0
 obtain ⟨g,hN,hg'⟩:=V06 hs (V08 h rfl)
 simp only at hN
 subst hN
 obtain ⟨x0,y0,r0⟩:=ih k0 ctx p0 hc (by omega)
 by_cases f0:x0.ffault=0
 rotate_left
 ·exact V20 (by decide) (by decide) (by decide) hb r0 f0
 obtain ⟨g0,q0,a,na,la,ba⟩:=r0.gd f0
 obtain ⟨c0,t0,ht0,hn0,hz0⟩:=V23 hs g0
 have L0:=Kzu g0
 have e0:Kfm (s,ctx,⟨11,(g:Int),ty,[k0]⟩,0)=some x0:=V1i (i:=0) rfl r0 f0
 have o0:=V1n (out:=[]) (nd:=[]) (us:=[]) (w:=0) (t:=⟨11,(g:Int),ty,[k0]⟩) (m:=[]) rfl (V1u (by decide)) r0 (by simp; omega) f0 (by rw [ht0]; exact V0r (.inl (by decide))) (V0p (show (11:Int) ≠ 10 by decide)) na (by simp <;> omega) (by simp) (by simp) (by simp) (by simp)
 have hf:=V1a (ty:=ty) (ks:=[k0]) (ctx:=ctx) (us:=[Ky3 []]) (z:=Ky3 (List.replicate ctx.length 0)) (y0:=y0) (a:=a) hs hg' ba (by omega) (by rw [r0.ty]; omega)
 have im:=V0o (p0:=⟨s⟩) (t:=⟨11,(g:Int),ty,[k0]⟩) (ctx:=ctx) (by omega) (o0.trans (V0f (Nat.le_refl _))) hf
 rw [r0.ty] at im
 have hn:=hs.tab.hi
 refine V1h.done (q:=(19 + (g:Int)) :: x0.fty) (ns:=Kyh s n g a) (kids:=[y0]) ?_ im (by omega) (fun hl=>V05 hs hg' g0 hl) (by unfold Kyh; rw [List.length_map]; exact la) (Kyn hs hg' ba) rfl (kd1 (V1g.mk' (V1o (by decide) rfl) r0 f0 (fun _ h=>by cases h) rfl))
 have hg:=Kz8 (19 + (g:Int)) [x0.fty] (by simp) (by simp; omega)
 simp only [List.flatten_cons,List.flatten_nil,List.append_nil] at hg
 have hsc:=Kyn hs hg' ba
 have hz0:=Kyq hs hsc
 rw [show (Kyh s n g a).length=ctx.length by unfold Kyh; rw [List.length_map]; exact la] at hz0
 have hsum:=Kys hs g hg' (List.replicate ctx.length 0) a (fun x hx=>by rw [List.eq_of_mem_replicate hx]; exact Kyb hs) ba (by simp; omega) (by simp [la])
 rw [hz0] at hsum
 have hw:wr (19 + (g:Int))=19 + (g:Int):=Kra (by omega) (by omega)
 rw [Kfk.eq_def]
 simp [e0,f0,hg,na,hw,Kz5 ctx.length (by omega),hsum]
theorem V27 (ih:V1y s n (tsz (⟨9,N,ty,ks⟩:K01))) (h:tOk (gN s.fSize true) (yN s.fSize true) ctx.length ⟨9,N,ty,ks⟩=true) (hc:∀ q ∈ ctx,TyS s q) (hb:ctx.length + 2 * tsz (⟨9,N,ty,ks⟩:K01) ≤ 1000000):∃ x y,V1h s n ctx ⟨9,N,ty,ks⟩ x y:=by
 obtain ⟨k0,rfl,p0⟩:=nd1 h (Nat.le_refl _) rfl
 have hz:=Kxu 9 N ty k0
 obtain ⟨g,hN,hg'⟩:=V06 hs (V08 h rfl)
 simp only at hN
 subst hN
 have hy:TyS s ty:=V09 h rfl
 have ly:=Kzu hy
 have hn:=hs.tab.hi
 have p0':V07 s ([ty] ++ ctx).length k0 (tsz (⟨9,(g:Int),ty,[k0]⟩:K01)):=by
  have e:([ty] ++ ctx).length=ctx.length + Ku6 9 0:=by simp [Ku6]
  rw [e]; exact p0
 obtain ⟨x0,y0,r0⟩:=ih k0 ([ty] ++ ctx) p0' (fun q hq=>by rcases List.mem_cons.1 hq with rfl | hq; exact hy; exact hc q hq) (by simp; omega)
 have hw9:=Kz6 ctx [ty] (by simp; omega)
 by_cases f0:x0.ffault=0
 rotate_left
 ·have e0:Kfm (s,ty :: ctx,⟨9,(g:Int),ty,[k0]⟩,0)=some ⟨[],[],x0.ffault,0 :: x0.fpath⟩:=V1j (i:=0) rfl r0 (by omega) f0
  refine V1h.bad (f:=x0.ffault) (p:=0 :: x0.fpath) ?_ (V0n (by omega) (V1k (m:=[ty]) rfl V1v r0 (by omega) (by simp; omega) f0)) f0 (by have:=r0.pl; simp; omega)
  rw [Kfk.eq_def]
  simp [hw9,e0,f0]
 obtain ⟨g0,q0,a,na,la,ba⟩:=r0.gd f0
 obtain ⟨c0,t0,ht0,hn0,hz0⟩:=V23 hs g0
 have L0:=Kzu g0
 have e0:Kfm (s,ty :: ctx,⟨9,(g:Int),ty,[k0]⟩,0)=some x0:=V1i (i:=0) rfl r0 f0
 have la':a.length=ctx.length + 1:=by rw [la]; simp
 obtain ⟨u0,a',rfl⟩:∃ u0 a',a=u0 :: a':=by cases a with | nil=>simp at la' | cons u a'=>exact ⟨u,a',rfl⟩
 obtain ⟨hu0,ba'⟩:=Kyk ba
 have o0:=V1n (out:=[]) (nd:=[]) (us:=[]) (w:=0) (t:=⟨9,(g:Int),ty,[k0]⟩) (m:=[ty]) rfl V1v r0 (by simp; omega) f0 (by rw [ht0]; exact V0r (.inl (by decide))) (V0p (show (9:Int) ≠ 10 by decide)) na (by simp <;> omega) (by simp) (by simp) (by simp) (by simp)
 simp only [List.length_cons,List.length_nil,Nat.zero_add,List.drop_succ_cons,List.drop_zero,List.take_succ_cons,List.take_zero,List.nil_append] at o0
 have hf:=V19 (ty:=ty) (ks:=[k0]) (ctx:=ctx) (z:=Ky3 (List.replicate ctx.length 0)) (y0:=y0) (a:=a') (u:=[u0]) hs hg' (fun x hx=>by simp at hx; rw [hx]; exact hu0) (by simp) (by rw [r0.ty]; omega) (by omega)
 have hl0:=o0.trans (V0f (Nat.le_refl _))
 have hle:=sLe hs.tab hu0 hg'
 have hw:wr (3 + (g:Int))=3 + (g:Int):=Kra (by omega) (by omega)
 have hi0:idx x0.fneeds 0=some (u0:Int):=by rw [na]; rfl
 simp only [List.all_cons,List.all_nil,Bool.and_true] at hf
 cases hl:le s n u0 g with
 | false =>
  rw [hl,if_neg (by decide)] at hf
  refine V1h.bad (f:=9) (p:=[]) ?_ (V0o (by omega) hl0 hf) (by decide) (by simp; omega)
  rw [Kfk.eq_def]
  simp [hw9,e0,f0,hi0,hle,hl,Ked]
 | true =>
  rw [hl,if_pos rfl] at hf
  have im:=V0o (by omega) hl0 hf
  rw [r0.ty] at im
  refine V1h.done (q:=(3 + (g:Int)) :: (ty ++ x0.fty)) (ns:=a') (kids:=[y0]) ?_ im (by omega) (fun hl=>V04 hs hy g0 (.inr (.inr ⟨g,hg',rfl⟩)) hl) (by simpa using la') ba' rfl (kd1 (V1g.mk' (m:=[ty]) V1p r0 f0 (fun q hq=>by simp at hq; rw [hq]; exact hy) rfl))
  have hg:=Kz8 (3 + (g:Int)) [ty,x0.fty] (by simp) (by simp; omega)
  simp only [List.flatten_cons,List.flatten_nil,List.append_nil] at hg
  have hcut:cut x0.fneeds (some 1) none none=some (Ky3 a'):=by rw [na]; exact Kxd _ _
  rw [Kfk.eq_def]
  simp [hw9,e0,f0,hi0,hle,hl,hg,hw,hcut,Kv2 (Ky3 a') (by rw [Ky4]; simp at la'; omega)]
theorem V28 (ih:V1y s n (tsz (⟨4,N,ty,ks⟩:K01))) (h:tOk (gN s.fSize true) (yN s.fSize true) ctx.length ⟨4,N,ty,ks⟩=true) (hc:∀ q ∈ ctx,TyS s q) (hb:ctx.length + 2 * tsz (⟨4,N,ty,ks⟩:K01) ≤ 1000000):∃ x y,V1h s n ctx ⟨4,N,ty,ks⟩ x y:=by
 obtain ⟨k0,k1,rfl,p0,p1⟩:=nd2 h (Nat.le_refl _) rfl
 have hz:=Kxv 4 N ty k0 k1
 obtain ⟨x0,y0,r0⟩:=ih k0 ctx p0 hc (by omega)
 obtain ⟨x1,y1,r1⟩:=ih k1 ctx p1 hc (by omega)
 by_cases f0:x0.ffault=0
 rotate_left
 ·exact V20 (by decide) (by decide) (by decide) hb r0 f0
 obtain ⟨g0,q0,a,na,la,ba⟩:=r0.gd f0
 obtain ⟨c0,t0,ht0,hn0,hz0⟩:=V23 hs g0
 have L0:=Kzu g0
 have e0:Kfm (s,ctx,⟨4,N,ty,[k0,k1]⟩,0)=some x0:=V1i (i:=0) rfl r0 f0
 have o0:=V1n (out:=[]) (nd:=[]) (us:=[]) (w:=0) (t:=⟨4,N,ty,[k0,k1]⟩) (m:=[]) rfl (V1u (by decide)) r0 (by simp; omega) f0 (by rw [ht0]; exact V0r (.inl (by decide))) (V0p (show (4:Int) ≠ 10 by decide)) na (by simp <;> omega) (by simp) (by simp) (by simp) (by simp)
 have m1:V0c ⟨4,N,ty,[k0,k1]⟩ [y0] 1=some []:=V1w (by decide) (V1o (by decide) rfl)
 by_cases f1:x1.ffault=0
 rotate_left
 ·have e1:Kfm (s,ctx,⟨4,N,ty,[k0,k1]⟩,1)=some ⟨[],[],x1.ffault,1 :: x1.fpath⟩:=V1j (i:=1) rfl r1 (by omega) f1
  refine V1h.bad (f:=x1.ffault) (p:=1 :: x1.fpath) ?_ (V0n (by omega) (o0.trans (V1k (m:=[]) rfl m1 r1 (by omega) (by simp; omega) f1))) f1 (by have:=r1.pl; simp; omega)
  rw [Kfk.eq_def]
  simp [e0,f0,e1,f1]
 obtain ⟨g1,q1,b,nb,lb,bb⟩:=r1.gd f1
 obtain ⟨c1,t1,ht1,hn1,hz1⟩:=V23 hs g1
 have L1:=Kzu g1
 have e1:Kfm (s,ctx,⟨4,N,ty,[k0,k1]⟩,1)=some x1:=V1i (i:=1) rfl r1 f1
 have o1:=V1n (out:=[y0]) (nd:=[Ky3 a]) (us:=[Ky3 []]) (w:=1) (t:=⟨4,N,ty,[k0,k1]⟩) (m:=[]) rfl m1 r1 (by simp; omega) f1 (by rw [ht1]; exact V0r (.inl (by decide))) (V0p (show (4:Int) ≠ 10 by decide)) nb (by simp <;> omega) (by simp) (by simp) (by simp) (by simp)
 have hf:=V18 (N:=N) (ty:=ty) (ks:=[k0,k1]) (ctx:=ctx) (us:=[Ky3 [],Ky3 []]) (z:=Ky3 (List.replicate ctx.length 0)) (y0:=y0) (y1:=y1) hs ba bb (by omega) (by omega) (by rw [r0.ty]; omega) (by rw [r1.ty]; omega)
 have im:=V0o (p0:=⟨s⟩) (t:=⟨4,N,ty,[k0,k1]⟩) (ctx:=ctx) (by omega) (o0.trans (o1.trans (V0f (Nat.le_refl _)))) hf
 rw [r0.ty,r1.ty] at im
 refine V1h.done (q:=1 :: (x0.fty ++ x1.fty)) (ns:=Kyg s n a b) (kids:=[y0,y1]) ?_ im (by omega) (fun hl=>V04 hs g0 g1 (.inl rfl) hl) (by unfold Kyg; rw [List.length_zipWith]; omega) (Kym hs ba bb) rfl (kd2 (V1g.mk' (V1o (by decide) rfl) r0 f0 (fun _ h=>by cases h) rfl) (V1g.mk' (V1o (by decide) rfl) r1 f1 (fun _ h=>by cases h) rfl))
 have hg:=Kz8 1 [x0.fty,x1.fty] (by simp) (by simp; omega)
 simp only [List.flatten_cons,List.flatten_nil,List.append_nil] at hg
 rw [Kfk.eq_def]
 simp [e0,f0,e1,f1,hg,na,nb,Kyt hs a b ba bb (by omega) (by omega)]
theorem V29 (ih:V1y s n (tsz (⟨2,N,ty,ks⟩:K01))) (h:tOk (gN s.fSize true) (yN s.fSize true) ctx.length ⟨2,N,ty,ks⟩=true) (hc:∀ q ∈ ctx,TyS s q) (hb:ctx.length + 2 * tsz (⟨2,N,ty,ks⟩:K01) ≤ 1000000):∃ x y,V1h s n ctx ⟨2,N,ty,ks⟩ x y:=by
 obtain ⟨k0,k1,rfl,p0,p1⟩:=nd2 h (Nat.le_refl _) rfl
 have hz:=Kxv 2 N ty k0 k1
 obtain ⟨x0,y0,r0⟩:=ih k0 ctx p0 hc (by omega)
 obtain ⟨x1,y1,r1⟩:=ih k1 ctx p1 hc (by omega)
 by_cases f0:x0.ffault=0
 rotate_left
 ·exact V20 (by decide) (by decide) (by decide) hb r0 f0
 obtain ⟨g0,q0,a,na,la,ba⟩:=r0.gd f0
 obtain ⟨c0,t0,ht0,hn0,hz0⟩:=V23 hs g0
 have L0:=Kzu g0
 have e0:Kfm (s,ctx,⟨2,N,ty,[k0,k1]⟩,0)=some x0:=V1i (i:=0) rfl r0 f0
 have i0:idx x0.fty 0=some c0:=by rw [ht0]; rfl
 by_cases z0:c0=0
 rotate_left
 ·refine V1h.bad (f:=2) (p:=[]) ?_ (V0n (by omega) (V1l (m:=[]) rfl (V1u (by decide)) r0 (by simp; omega) f0 (by rw [ht0,V0s,if_neg (by rw [hn0]; exact z0)]) (by decide))) (by decide) (by simp; omega)
  rw [Kfk.eq_def]
  simp [e0,f0,i0,z0,Ked]
 have u0:=hz0 z0
 have s0:(Kt0 c0).1=0:=hn0.2 z0
 have o0:=V1n (out:=[]) (nd:=[]) (us:=[]) (w:=0) (t:=⟨2,N,ty,[k0,k1]⟩) (m:=[]) rfl (V1u (by decide)) r0 (by simp; omega) f0 (by rw [ht0,V0s,if_pos s0]) (V0p (show (2:Int) ≠ 10 by decide)) na (by simp <;> omega) (by simp) (by simp) (by simp) (by simp)
 have m1:V0c ⟨2,N,ty,[k0,k1]⟩ [y0] 1=some []:=V1w (by decide) (V1o (by decide) rfl)
 by_cases f1:x1.ffault=0
 rotate_left
 ·have e1:Kfm (s,ctx,⟨2,N,ty,[k0,k1]⟩,1)=some ⟨[],[],x1.ffault,1 :: x1.fpath⟩:=V1j (i:=1) rfl r1 (by omega) f1
  refine V1h.bad (f:=x1.ffault) (p:=1 :: x1.fpath) ?_ (V0n (by omega) (o0.trans (V1k (m:=[]) rfl m1 r1 (by omega) (by simp; omega) f1))) f1 (by have:=r1.pl; simp; omega)
  rw [Kfk.eq_def]
  simp [e0,f0,i0,z0,Kfn.eq_def,e1,f1]
 obtain ⟨g1,q1,b,nb,lb,bb⟩:=r1.gd f1
 obtain ⟨c1,t1,ht1,hn1,hz1⟩:=V23 hs g1
 have L1:=Kzu g1
 have e1:Kfm (s,ctx,⟨2,N,ty,[k0,k1]⟩,1)=some x1:=V1i (i:=1) rfl r1 f1
 have i1:idx x1.fty 0=some c1:=by rw [ht1]; rfl
 by_cases z1:c1=0
 rotate_left
 ·refine V1h.bad (f:=2) (p:=[]) ?_ (V0n (by omega) (o0.trans (V1l (m:=[]) rfl m1 r1 (by simp; omega) f1 (by rw [ht1,V0s,if_neg (by rw [hn1]; exact z1)]) (by decide)))) (by decide) (by simp; omega)
  rw [Kfk.eq_def]
  simp [e0,f0,i0,z0,e1,f1,i1,z1,Ked,Kfn.eq_def]
 have u1:=hz1 z1
 have s1:(Kt0 c1).1=0:=hn1.2 z1
 have o1:=V1n (out:=[y0]) (nd:=[Ky3 a]) (us:=[Ky3 []]) (w:=1) (t:=⟨2,N,ty,[k0,k1]⟩) (m:=[]) rfl m1 r1 (by simp; omega) f1 (by rw [ht1,V0s,if_pos s1]) (V0p (show (2:Int) ≠ 10 by decide)) nb (by simp <;> omega) (by simp) (by simp) (by simp) (by simp)
 have hf:=V16 (N:=N) (ty:=ty) (ks:=[k0,k1]) (ctx:=ctx) (us:=[Ky3 [],Ky3 []]) (z:=Ky3 (List.replicate ctx.length 0)) (y0:=y0) (y1:=y1) hs ba bb (by omega) (by omega)
 have im:=V0o (p0:=⟨s⟩) (t:=⟨2,N,ty,[k0,k1]⟩) (ctx:=ctx) (by omega) (o0.trans (o1.trans (V0f (Nat.le_refl _)))) hf
 replace im:=V1z (q:=[0]) (ns:=Kyg s n a b) (kids:=[y0,y1]) (by decide) im
 refine V1h.good (q:=[0]) (ns:=Kyg s n a b) (kids:=[y0,y1]) ?_ im (by omega) V00 (by unfold Kyg; rw [List.length_zipWith]; omega) (Kym hs ba bb) rfl (kd2 (V1g.mk' (V1o (by decide) rfl) r0 f0 (fun _ h=>by cases h) rfl) (V1g.mk' (V1o (by decide) rfl) r1 f1 (fun _ h=>by cases h) rfl))
 rw [Kfk.eq_def]
 simp [e0,f0,i0,z0,e1,f1,i1,z1,na,nb,u1,V0z,Kyt hs a b ba bb (by omega) (by omega),Kfn.eq_def]
theorem V2a (ih:V1y s n (tsz (⟨3,N,ty,ks⟩:K01))) (h:tOk (gN s.fSize true) (yN s.fSize true) ctx.length ⟨3,N,ty,ks⟩=true) (hc:∀ q ∈ ctx,TyS s q) (hb:ctx.length + 2 * tsz (⟨3,N,ty,ks⟩:K01) ≤ 1000000):∃ x y,V1h s n ctx ⟨3,N,ty,ks⟩ x y:=by
 obtain ⟨k0,k1,k2,rfl,p0,p1,p2⟩:=nd3 h (Nat.le_refl _) rfl
 have hz:=Kxw 3 N ty k0 k1 k2
 obtain ⟨x0,y0,r0⟩:=ih k0 ctx p0 hc (by omega)
 obtain ⟨x1,y1,r1⟩:=ih k1 ctx p1 hc (by omega)
 obtain ⟨x2,y2,r2⟩:=ih k2 ctx p2 hc (by omega)
 by_cases f0:x0.ffault=0
 rotate_left
 ·exact V20 (by decide) (by decide) (by decide) hb r0 f0
 obtain ⟨g0,q0,a,na,la,ba⟩:=r0.gd f0
 obtain ⟨c0,t0,ht0,hn0,hz0⟩:=V23 hs g0
 have L0:=Kzu g0
 have e0:Kfm (s,ctx,⟨3,N,ty,[k0,k1,k2]⟩,0)=some x0:=V1i (i:=0) rfl r0 f0
 have i0:idx x0.fty 0=some c0:=by rw [ht0]; rfl
 by_cases z0:c0=0
 rotate_left
 ·refine V1h.bad (f:=2) (p:=[]) ?_ (V0n (by omega) (V1l (m:=[]) rfl (V1u (by decide)) r0 (by simp; omega) f0 (by rw [ht0,V0t,if_neg (by rw [hn0]; exact z0)]) (by decide))) (by decide) (by simp; omega)
  rw [Kfk.eq_def]
  simp [e0,f0,i0,z0,Ked]
 have u0:=hz0 z0
 have s0:(Kt0 c0).1=0:=hn0.2 z0
 have o0:=V1n (out:=[]) (nd:=[]) (us:=[]) (w:=0) (t:=⟨3,N,ty,[k0,k1,k2]⟩) (m:=[]) rfl (V1u (by decide)) r0 (by simp; omega) f0 (by rw [ht0,V0t,if_pos s0]) (V0p (show (3:Int) ≠ 10 by decide)) na (by simp <;> omega) (by simp) (by simp) (by simp) (by simp)
 have m1:V0c ⟨3,N,ty,[k0,k1,k2]⟩ [y0] 1=some []:=V1w (by decide) (V1o (by decide) rfl)
 by_cases f1:x1.ffault=0
 rotate_left
 ·have e1:Kfm (s,ctx,⟨3,N,ty,[k0,k1,k2]⟩,1)=some ⟨[],[],x1.ffault,1 :: x1.fpath⟩:=V1j (i:=1) rfl r1 (by omega) f1
  refine V1h.bad (f:=x1.ffault) (p:=1 :: x1.fpath) ?_ (V0n (by omega) (o0.trans (V1k (m:=[]) rfl m1 r1 (by omega) (by simp; omega) f1))) f1 (by have:=r1.pl; simp; omega)
  rw [Kfk.eq_def]
  simp [e0,f0,i0,z0,Kfn.eq_def,e1,f1]
 obtain ⟨g1,q1,b,nb,lb,bb⟩:=r1.gd f1
 obtain ⟨c1,t1,ht1,hn1,hz1⟩:=V23 hs g1
 have L1:=Kzu g1
 have e1:Kfm (s,ctx,⟨3,N,ty,[k0,k1,k2]⟩,1)=some x1:=V1i (i:=1) rfl r1 f1
 have o1:=V1n (out:=[y0]) (nd:=[Ky3 a]) (us:=[Ky3 []]) (w:=1) (t:=⟨3,N,ty,[k0,k1,k2]⟩) (m:=[]) rfl m1 r1 (by simp; omega) f1 (by rw [ht1]; exact V0r (.inr (by decide))) (V0p (show (3:Int) ≠ 10 by decide)) nb (by simp <;> omega) (by simp) (by simp) (by simp) (by simp)
 have m2:V0c ⟨3,N,ty,[k0,k1,k2]⟩ [y0,y1] 2=some []:=V1w (by decide) (V1o (by decide) rfl)
 by_cases f2:x2.ffault=0
 rotate_left
 ·have e2:Kfm (s,ctx,⟨3,N,ty,[k0,k1,k2]⟩,2)=some ⟨[],[],x2.ffault,2 :: x2.fpath⟩:=V1j (i:=2) rfl r2 (by omega) f2
  refine V1h.bad (f:=x2.ffault) (p:=2 :: x2.fpath) ?_ (V0n (by omega) (o0.trans (o1.trans (V1k (m:=[]) rfl m2 r2 (by omega) (by simp; omega) f2)))) f2 (by have:=r2.pl; simp; omega)
  rw [Kfk.eq_def]
  simp [e0,f0,i0,z0,e1,f1,Kfn.eq_def,e2,f2]
 obtain ⟨g2,q2,d,nd,ld,bd⟩:=r2.gd f2
 obtain ⟨c2,t2,ht2,hn2,hz2⟩:=V23 hs g2
 have L2:=Kzu g2
 have e2:Kfm (s,ctx,⟨3,N,ty,[k0,k1,k2]⟩,2)=some x2:=V1i (i:=2) rfl r2 f2
 have o2:=V1n (out:=[y0,y1]) (nd:=[Ky3 a,Ky3 b]) (us:=[Ky3 [],Ky3 []]) (w:=2) (t:=⟨3,N,ty,[k0,k1,k2]⟩) (m:=[]) rfl m2 r2 (by simp; omega) f2 (by rw [ht2]; exact V0r (.inr (by decide))) (V0p (show (3:Int) ≠ 10 by decide)) nd (by simp <;> omega) (by simp) (by simp) (by simp) (by simp)
 have hf:=V17 (N:=N) (ty:=ty) (ks:=[k0,k1,k2]) (ctx:=ctx) (us:=[Ky3 [],Ky3 [],Ky3 []]) (z:=Ky3 (List.replicate ctx.length 0)) (y0:=y0) (y1:=y1) (y2:=y2) hs ba bb bd (by omega) (by omega) (by omega) (by rw [r2.ty]; omega) (by rw [r1.ty]; omega)
 have hl0:=o0.trans (o1.trans (o2.trans (V0f (Nat.le_refl _))))
 
 have hsm:=Kxm x1.fty x2.fty (by omega)
 have lj:(Kyi s n b d).length=ctx.length:=by unfold Kyi; rw [List.length_zipWith]; omega
 rw [r1.ty,r2.ty] at hf
 by_cases hq:x1.fty=x2.fty
 ·rw [if_pos hq] at hf
  have im:=V0o (by omega) hl0 hf
  replace im:=V1z (q:=x1.fty) (ns:=Kyg s n a (Kyi s n b d)) (kids:=[y0,y1,y2]) (by omega) im
  refine V1h.good (q:=x1.fty) (ns:=Kyg s n a (Kyi s n b d)) (kids:=[y0,y1,y2]) ?_ im (by omega) g1 (by unfold Kyg; rw [List.length_zipWith]; omega) (Kym hs ba (Kyo hs bb bd)) rfl (kd3 (V1g.mk' (V1o (by decide) rfl) r0 f0 (fun _ h=>by cases h) rfl) (V1g.mk' (V1o (by decide) rfl) r1 f1 (fun _ h=>by cases h) rfl) (V1g.mk' (V1o (by decide) rfl) r2 f2 (fun _ h=>by cases h) rfl))
  rw [show (x1.fty == x2.fty)=true from beq_iff_eq.2 hq] at hsm
  rw [Kfk.eq_def]
  simp [e0,f0,i0,z0,e1,f1,e2,f2,hsm,na,nb,nd,Kyv hs b d bb bd (by omega) (by omega),Kyt hs a (Kyi s n b d) ba (Kyo hs bb bd) (by omega) (by omega),Kfn.eq_def]
 ·rw [if_neg hq] at hf
  refine V1h.bad (f:=3) (p:=[]) ?_ (V0o (by omega) hl0 hf) (by decide) (by simp; omega)
  rw [show (x1.fty == x2.fty)=false from beq_eq_false_iff_ne.2 hq] at hsm
  rw [Kfk.eq_def]
  simp [e0,f0,i0,z0,e1,f1,e2,f2,hsm,Kfn.eq_def,Ked]
end
end Go.Am
