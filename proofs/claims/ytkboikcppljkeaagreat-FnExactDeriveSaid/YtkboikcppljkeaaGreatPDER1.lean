/- Plain laws of the printed functions. -/
import Derived.Test.YtkboikcppljkeaaGreatPDER0
set_option linter.unusedSimpArgs false
set_option linter.unusedVariables false
namespace Go.Am
def Kxw (l:List Nat):List Int:=l.map fun x:Nat=>(x:Int)
theorem Kxx (l:List Nat):(Kxw l).length=l.length:=List.length_map ..
theorem Kxy (l:List Nat) (i:Nat):(Kxw l).drop i=Kxw (l.drop i):=(List.map_drop ..).symm
theorem Kxz (l:List Nat) (i:Nat):(Kxw l).take i=Kxw (l.take i):=(List.map_take ..).symm
theorem Ky0 {l r:List Nat} {x i:Nat} (h:l.drop i=x :: r):i < l.length∧idx (Kxw l) (i:Int)=some (x:Int)∧l.drop (i + 1)=r:=by
 have h2:(Kxw l).drop i=(x:Int) :: Kxw r:=by rw [Kxy,h]; rfl
 obtain ⟨q1,q2,q3⟩:=Ksk h2
 rw [Kxx] at q1
 refine ⟨q1,q2,?_⟩
 rw [← List.drop_drop,h]
 rfl
structure Ky1 (s:K00) (n:Nat):Prop where
 tab:Tab s n
 one:∀ a,a < n→Krx s n a=true
 two:∀ a b,a < n→b < n→Ksa s n a b=true
theorem Ky2 {s:K00} (h:Kv1 s=true):Ky1 s s.fSize.toNat:=by
 have ht:=Kv2 h
 unfold Kv1 at h
 simp only [Bool.and_eq_true] at h
 have hm:=h.2
 unfold Ksd at hm
 rw [List.all_eq_true] at hm
 refine ⟨ht,fun a ha=>?_,fun a b ha hb=>?_⟩
 ·have:=hm a (by rw [List.mem_range'_1]; omega)
  simp only [Bool.and_eq_true] at this
  exact this.1
 ·have:=hm a (by rw [List.mem_range'_1]; omega)
  simp only [Bool.and_eq_true,List.all_eq_true] at this
  exact (this.2 b (by rw [List.mem_range'_1]; omega)).1
section
variable {s:K00} {n:Nat} (hs:Ky1 s n)
include hs
theorem Ky3:1 < n:=by have:=hs.tab.lo; omega
theorem Ky4:0 < n:=by have:=hs.tab.lo; omega
theorem Ky5 {a:Nat} (ha:a < n):pl s n 0 a=a:=by
 have:=hs.one a ha
 simp only [Krx,Bool.and_eq_true,beq_iff_eq] at this
 exact this.1.1.1.1.1
theorem Ky6 {a:Nat} (ha:a < n):ti s n 1 a=a:=by
 have:=hs.one a ha
 simp only [Krx,Bool.and_eq_true,beq_iff_eq] at this
 exact this.1.1.1.1.2
def Ky7 (s:K00) (n a b:Nat):Nat:=(Ks3 s n a b).toNat
theorem Ky8 {a b:Nat} (ha:a < n) (hb:b < n):Ks3 s n a b=((Ky7 s n a b:Nat):Int)∧Ky7 s n a b < n:=by
 have h:=hs.two a b ha hb
 simp only [Ksa,Bool.and_eq_true,decide_eq_true_eq] at h
 have h0:=h.2
 unfold Ky7
 refine ⟨by omega,?_⟩
 unfold Ks3 at h0 ⊢
 cases hf:(List.range' 0 n).find? (jok s n a b) with
 | none=>rw [hf] at h0; exact absurd h0 (by decide)
 | some g =>
  have:=List.mem_of_find?_eq_some hf
  rw [List.mem_range'_1] at this
  simp only [Int.toNat_natCast]
  omega
end
def Ky9 (s:K00) (n:Nat) (a b:List Nat):List Nat:=List.zipWith (pl s n) a b
def Kya (s:K00) (n g:Nat) (a:List Nat):List Nat:=a.map (ti s n g)
def Kyb (s:K00) (n:Nat) (a b:List Nat):List Nat:=List.zipWith (Ky7 s n) a b
def Kyc (n:Nat) (l:List Nat):Prop:=∀ x ∈ l,x < n
theorem Kyd {n x:Nat} {l:List Nat} (h:Kyc n (x :: l)):x < n∧Kyc n l:=⟨h x List.mem_cons_self,fun y hy=>h y (List.mem_cons_of_mem _ hy)⟩
theorem Kye {n:Nat} {l:List Nat} (h:Kyc n l) (i:Nat):Kyc n (l.drop i):=fun x hx=>h x (List.mem_of_mem_drop hx)
section
variable {s:K00} {n:Nat} (hs:Ky1 s n)
include hs
theorem Kyf:∀ {a b:List Nat},Kyc n a→Kyc n b→Kyc n (Ky9 s n a b)
 | [],_,_,_=>fun x hx=>by cases hx
 | _ :: _,[],_,_=>fun x hx=>by cases hx
 | x :: a,y :: b,ha,hb=>fun z hz=>by
  obtain ⟨h1,h2⟩:=Kyd ha
  obtain ⟨h3,h4⟩:=Kyd hb
  rcases List.mem_cons.1 hz with rfl | hz
  ·exact Krm hs.tab h1 h3
  ·exact Kyf h2 h4 z hz
theorem Kyg {g:Nat} (hg:g < n) {a:List Nat} (ha:Kyc n a):Kyc n (Kya s n g a):=fun x hx=>by
 obtain ⟨y,hy,rfl⟩:=List.mem_map.1 hx
 exact Krn hs.tab hg (ha y hy)
theorem Kyh:∀ {a b:List Nat},Kyc n a→Kyc n b→Kyc n (Kyb s n a b)
 | [],_,_,_=>fun x hx=>by cases hx
 | _ :: _,[],_,_=>fun x hx=>by cases hx
 | x :: a,y :: b,ha,hb=>fun z hz=>by
  obtain ⟨h1,h2⟩:=Kyd ha
  obtain ⟨h3,h4⟩:=Kyd hb
  rcases List.mem_cons.1 hz with rfl | hz
  ·exact (Ky8 hs h1 h3).2
  ·exact Kyh h2 h4 z hz
theorem Kyi {a:List Nat} (ha:Kyc n a):Kya s n 1 a=a:=by
 induction a with
 | nil=>rfl
 | cons x a ih =>
  obtain ⟨h1,h2⟩:=Kyd ha
  show ti s n 1 x :: Kya s n 1 a=_
  rw [Ky6 hs h1,ih h2]
theorem Kyj {a:List Nat} (ha:Kyc n a):Ky9 s n (List.replicate a.length 0) a=a:=by
 induction a with
 | nil=>rfl
 | cons x a ih =>
  obtain ⟨h1,h2⟩:=Kyd ha
  show pl s n 0 x :: Ky9 s n (List.replicate a.length 0) a=_
  rw [Ky5 hs h1,ih h2]
theorem Kyk (g:Nat) (hg:g < n) (a b:List Nat) (ha:Kyc n a) (hb:Kyc n b) (hl:a.length ≤ 1099511627776):∀ (al bl:List Nat) (i:Nat) (out:List Int),a.drop i=al→b.drop i=bl→al.length=bl.length→out.length + al.length ≤ 1099511627776 →
  Kec (s,Kxw a,(g:Int),Kxw b,out,(i:Int))=some (out ++ Kxw (Ky9 s n al (Kya s n g bl))):=by
 intro al
 induction al with
 | nil =>
  intro bl i out hd _ _ _
  rw [Kec.eq_def]
  simp only
  rw [Kxx,Kr7 (Ksl hd)]
  simp [Ky9,Kxw]
 | cons x al ih =>
  intro bl i out hd hd2 hll ho
  cases bl with
  | nil=>simp at hll
  | cons y bl =>
   obtain ⟨h1,h2,h3⟩:=Ky0 hd
   obtain ⟨k1,k2,k3⟩:=Ky0 hd2
   have hx:x < n:=Kye ha i x (by rw [hd]; exact List.mem_cons_self)
   have hy:y < n:=Kye hb i y (by rw [hd2]; exact List.mem_cons_self)
   rw [Kec.eq_def]
   simp only
   simp only [List.length_cons] at ho hll
   rw [Kxx,Kr6 h1,if_pos rfl,h2,bs,k2,bs,Krs hs.tab hg hy,bs,Krr hs.tab hx (Krn hs.tab hg hy),bs,Kun (by simp; omega),bs,Kr5 (by omega),ih bl (i + 1) _ h3 k3 (by omega) (by simp; omega)]
   rw [List.append_assoc]
   rfl
theorem Kyl (g:Nat) (hg:g < n) (a b:List Nat) (ha:Kyc n a) (hb:Kyc n b) (hl:a.length ≤ 1048576) (hab:a.length=b.length):Kef (s,Kxw a,(g:Int),Kxw b)=some (Kxw (Ky9 s n a (Kya s n g b))):=by
 unfold Kef
 simp only
 rw [show (0:Int)=((0:Nat):Int) from rfl,Kyk hs g hg a b ha hb (by omega) a b 0 [] rfl rfl hab (by simp; omega)]
 rfl
theorem Kym (a b:List Nat) (ha:Kyc n a) (hb:Kyc n b) (hl:a.length ≤ 1048576) (hab:a.length=b.length):Kef (s,Kxw a,1,Kxw b)=some (Kxw (Ky9 s n a b)):=by
 have:=Kyl hs 1 (Ky3 hs) a b ha hb hl hab
 rw [Kyi hs hb] at this
 exact this
theorem Kyn (a b:List Nat) (ha:Kyc n a) (hb:Kyc n b) (hl:a.length ≤ 1099511627776):∀ (al bl:List Nat) (i:Nat) (out:List Int),a.drop i=al→b.drop i=bl→al.length=bl.length→out.length + al.length ≤ 1099511627776 →
  Kew (s,Kxw a,Kxw b,out,(i:Int))=some (out ++ Kxw (Kyb s n al bl)):=by
 intro al
 induction al with
 | nil =>
  intro bl i out hd _ _ _
  rw [Kew.eq_def]
  simp only
  rw [Kxx,Kr7 (Ksl hd)]
  simp [Kyb,Kxw]
 | cons x al ih =>
  intro bl i out hd hd2 hll ho
  cases bl with
  | nil=>simp at hll
  | cons y bl =>
   obtain ⟨h1,h2,h3⟩:=Ky0 hd
   obtain ⟨k1,k2,k3⟩:=Ky0 hd2
   have hx:x < n:=Kye ha i x (by rw [hd]; exact List.mem_cons_self)
   have hy:y < n:=Kye hb i y (by rw [hd2]; exact List.mem_cons_self)
   rw [Kew.eq_def]
   simp only
   simp only [List.length_cons] at ho hll
   rw [Kxx,Kr6 h1,if_pos rfl,h2,bs,k2,bs,Ks8 hs.tab hx hy,bs,(Ky8 hs hx hy).1,Kun (by simp; omega),bs,Kr5 (by omega),ih bl (i + 1) _ h3 k3 (by omega) (by simp; omega)]
   rw [List.append_assoc]
   rfl
theorem Kyo (a b:List Nat) (ha:Kyc n a) (hb:Kyc n b) (hl:a.length ≤ 1048576) (hab:a.length=b.length):Kez (s,Kxw a,Kxw b)=some (Kxw (Kyb s n a b)):=by
 unfold Kez
 simp only
 rw [show (0:Int)=((0:Nat):Int) from rfl,Kyn hs a b ha hb (by omega) a b 0 [] rfl rfl hab (by simp; omega)]
 rfl
end
theorem Kyp {α:Type} {out:List α} {i:Nat} (h:i < out.length) (x:α):(out.set i x).take (i + 1)=out.take i ++ [x]:=by
 rw [List.take_set,List.take_succ_eq_append_getElem h,List.set_append_right _ _ (by simp; omega)]
 simp [Nat.min_eq_left (Nat.le_of_lt h)]
section
variable {s:K00} {n:Nat} (hs:Ky1 s n)
include hs
theorem Kyq (a b:List Nat) (ha:Kyc n a) (hb:Kyc n b) (hl:a.length ≤ 1099511627776):∀ (al bl:List Nat) (i:Nat) (out:List Int),a.drop i=al→b.drop i=bl→al.length=bl.length→out.length=a.length →
  Kkf (s,Kxw a,Kxw b,out,(i:Int))=some (out.take i ++ Kxw (Ky9 s n al bl)):=by
 intro al
 induction al with
 | nil =>
  intro bl i out hd _ _ ho
  rw [Kkf.eq_def]
  simp only
  have:=Ksl hd
  rw [Kxx,Kr7 this]
  simp [Ky9,Kxw,List.take_of_length_le (show out.length ≤ i by omega)]
 | cons x al ih =>
  intro bl i out hd hd2 hll ho
  cases bl with
  | nil=>simp at hll
  | cons y bl =>
   obtain ⟨h1,h2,h3⟩:=Ky0 hd
   obtain ⟨k1,k2,k3⟩:=Ky0 hd2
   have hx:x < n:=Kye ha i x (by rw [hd]; exact List.mem_cons_self)
   have hy:y < n:=Kye hb i y (by rw [hd2]; exact List.mem_cons_self)
   rw [Kkf.eq_def]
   simp only
   simp only [List.length_cons] at hll
   have hio:i < out.length:=by omega
   rw [Kxx,Kr6 h1,if_pos rfl,h2,bs,k2,bs,Krt hs.tab hx hy,bs,Kr4 hio,bs,Kr5 (by omega),Int.toNat_natCast,ih bl (i + 1) _ h3 k3 (by omega) (by rw [List.length_set]; exact ho)]
   rw [Kyp hio,List.append_assoc]
   rfl
theorem Kyr (a b:List Nat) (ha:Kyc n a) (hb:Kyc n b) (hl:a.length ≤ 1048576) (hab:a.length=b.length):Kkl (⟨s⟩,Kxw a,Kxw b)=some (Kxw (Ky9 s n a b)):=by
 unfold Kkl Kki
 simp only
 rw [Kxx,Kxb (by simp; omega),bs,Int.toNat_natCast,show (0:Int)=((0:Nat):Int) from rfl]
 rw [show (List.replicate a.length (((0:Nat):Int)))=List.replicate a.length (0:Int) from rfl,Kyq hs a b ha hb (by omega) a b 0 _ rfl rfl hab (by simp)]
 rfl
theorem Kys (a b:List Nat) (ha:Kyc n a) (hb:Kyc n b) (hl:a.length ≤ 1099511627776):∀ (al bl:List Nat) (i:Nat) (out:List Int),a.drop i=al→b.drop i=bl→al.length=bl.length→out.length=a.length →
  Kks (s,Kxw a,Kxw b,out,(i:Int))=some (out.take i ++ Kxw (Kyb s n al bl)):=by
 intro al
 induction al with
 | nil =>
  intro bl i out hd _ _ ho
  rw [Kks.eq_def]
  simp only
  have:=Ksl hd
  rw [Kxx,Kr7 this]
  simp [Kyb,Kxw,List.take_of_length_le (show out.length ≤ i by omega)]
 | cons x al ih =>
  intro bl i out hd hd2 hll ho
  cases bl with
  | nil=>simp at hll
  | cons y bl =>
   obtain ⟨h1,h2,h3⟩:=Ky0 hd
   obtain ⟨k1,k2,k3⟩:=Ky0 hd2
   have hx:x < n:=Kye ha i x (by rw [hd]; exact List.mem_cons_self)
   have hy:y < n:=Kye hb i y (by rw [hd2]; exact List.mem_cons_self)
   rw [Kks.eq_def]
   simp only
   simp only [List.length_cons] at hll
   have hio:i < out.length:=by omega
   rw [Kxx,Kr6 h1,if_pos rfl,h2,bs,k2,bs,Ks9 hs.tab hx hy,bs,(Ky8 hs hx hy).1,Kr4 hio,bs,Kr5 (by omega),Int.toNat_natCast,ih bl (i + 1) _ h3 k3 (by omega) (by rw [List.length_set]; exact ho)]
   rw [Kyp hio,List.append_assoc]
   rfl
theorem Kyt (a b:List Nat) (ha:Kyc n a) (hb:Kyc n b) (hl:a.length ≤ 1048576) (hab:a.length=b.length):Kky (⟨s⟩,Kxw a,Kxw b)=some (Kxw (Kyb s n a b)):=by
 unfold Kky Kkv
 simp only
 rw [Kxx,Kxb (by simp; omega),bs,Int.toNat_natCast,show (0:Int)=((0:Nat):Int) from rfl]
 rw [show (List.replicate a.length (((0:Nat):Int)))=List.replicate a.length (0:Int) from rfl,Kys hs a b ha hb (by omega) a b 0 _ rfl rfl hab (by simp)]
 rfl
theorem Kyu (g:Nat) (hg:g < n) (a:List Nat) (ha:Kyc n a) (hl:a.length ≤ 1099511627776):∀ (al:List Nat) (i:Nat) (out:List Int),a.drop i=al→out.length=a.length →
  Klw (⟨s⟩,(g:Int),Kxw a,out,(i:Int))=some (out.take i ++ Kxw (Kya s n g al)):=by
 intro al
 induction al with
 | nil =>
  intro i out hd ho
  rw [Klw.eq_def]
  simp only
  have:=Ksl hd
  rw [Kxx,Kr7 this]
  simp [Kya,Kxw,List.take_of_length_le (show out.length ≤ i by omega)]
 | cons x al ih =>
  intro i out hd ho
  obtain ⟨h1,h2,h3⟩:=Ky0 hd
  have hx:x < n:=Kye ha i x (by rw [hd]; exact List.mem_cons_self)
  rw [Klw.eq_def]
  simp only
  have hio:i < out.length:=by omega
  rw [Kxx,Kr6 h1,if_pos rfl,h2,bs,Kru hs.tab hg hx,bs,Kr4 hio,bs,Kr5 (by omega),Int.toNat_natCast,ih (i + 1) _ h3 (by rw [List.length_set]; exact ho)]
  rw [Kyp hio,List.append_assoc]
  rfl
theorem Kyv (g:Nat) (hg:g < n) (a:List Nat) (ha:Kyc n a) (hl:a.length ≤ 1048576):Klz (⟨s⟩,(g:Int),Kxw a)=some (Kxw (Kya s n g a)):=by
 unfold Klz
 simp only
 rw [Kxx,Kxb (by simp; omega),bs,Int.toNat_natCast,show (0:Int)=((0:Nat):Int) from rfl]
 rw [show (List.replicate a.length (((0:Nat):Int)))=List.replicate a.length (0:Int) from rfl,Kyu hs g hg a ha (by omega) a 0 _ rfl (by simp)]
 rfl
theorem Kyw (g:Nat) (hg:g < n) (a:List Nat) (ha:Kyc n a) (hl:a.length ≤ 1099511627776):∀ (al:List Nat) (i:Nat),a.drop i=al →
  ∃ r,Klj (Kxw a,⟨s⟩,(g:Int),(i:Int))=some r∧(match r with | .inl _=>(al.all fun x=>le s n x g)=true | .inr j=>(al.all fun x=>le s n x g)=false∧0 ≤ j):=by
 intro al
 induction al with
 | nil =>
  intro i hd
  rw [Klj.eq_def]
  simp only
  rw [Kxx,Kr7 (Ksl hd)]
  exact ⟨_,rfl,rfl⟩
 | cons x al ih =>
  intro i hd
  obtain ⟨h1,h2,h3⟩:=Ky0 hd
  have hx:x < n:=Kye ha i x (by rw [hd]; exact List.mem_cons_self)
  rw [Klj.eq_def]
  simp only
  rw [Kxx,Kr6 h1,if_pos rfl,h2,bs]
  unfold Klf
  simp only
  rw [iLe hs.tab hx hg]
  simp only [bs]
  cases hle:le s n x g with
  | true =>
   obtain ⟨r,hr,hm⟩:=ih (i + 1) h3
   refine ⟨r,?_,?_⟩
   ·rw [if_neg (by simp),Kr5 (by omega)]; exact hr
   ·rw [List.all_cons,hle,Bool.true_and]; exact hm
  | false =>
   exact ⟨_,if_pos rfl,by simp [List.all_cons,hle]⟩
theorem Kyx (g:Nat) (hg:g < n) (a:List Nat) (ha:Kyc n a) (hl:a.length ≤ 1048576):Kls (⟨s⟩,Kxw a,(g:Int))=some (a.all fun x=>le s n x g):=by
 obtain ⟨r,hr,hm⟩:=Kyw hs g hg a ha (by omega) a 0 rfl
 unfold Kls Klp Klm
 simp only
 rw [show (0:Int)=((0:Nat):Int) from rfl,hr]
 cases r with
 | inl _=>simp only [bs] at hm ⊢; rw [hm]; rfl
 | inr j =>
  simp only [bs] at hm ⊢
  rw [hm.1,decide_eq_true (by omega)]; rfl
end
theorem Kyy (k:Nat) (h:k ≤ 1048576):Kds (k:Int)=some (Kxw (List.replicate k 0)):=by
 unfold Kds
 rw [Int.toNat_natCast,Kxb (by constructor <;> omega),bs]
 unfold Kxw
 rw [List.map_replicate]
 rfl
theorem Kyz (ctx front:List (List Int)) (h:ctx.length + front.length ≤ 1048576):Kdy (ctx,front)=some (front ++ ctx):=by
 unfold Kdy
 simp only
 rw [Kun (by simp; omega),bs,Kun (by omega),bs]
theorem Kz0 (ps:List (List Int)) (hp:ps.length ≤ 1099511627776):∀ (l:List (List Int)) (i:Nat) (out:List Int),ps.drop i=l→out.length + l.flatten.length ≤ 1099511627776→Ke5 (ps,out,(i:Int))=some (out ++ l.flatten):=by
 intro l
 induction l with
 | nil =>
  intro i out hd _
  rw [Ke5.eq_def]
  simp only
  rw [Kr7 (Ksl hd)]
  simp
 | cons x l ih =>
  intro i out hd ho
  obtain ⟨h1,h2,h3⟩:=Ksk hd
  rw [List.flatten_cons,List.length_append] at ho
  rw [Ke5.eq_def]
  simp only
  rw [Kr6 h1,if_pos rfl,h2,bs,Kun (by omega),bs,Kr5 (by omega),ih (i + 1) _ h3 (by rw [List.length_append]; omega),List.flatten_cons,List.append_assoc]
theorem Kz1 (c:Int) (ps:List (List Int)) (hp:ps.length ≤ 1048576) (h:ps.flatten.length ≤ 1048576):Ke8 (c,ps)=some (c :: ps.flatten):=by
 unfold Ke8
 simp only
 rw [show (0:Int)=((0:Nat):Int) from rfl,Kz0 ps (by omega) ps 0 [c] rfl (by rw [List.length_singleton]; omega)]
 rfl
theorem Kz2 (ps:List (List (Int))) (hp:ps.length ≤ 1099511627776):∀ (l:List (List (Int))) (i sz:Nat),ps.drop i=l→sz + l.flatten.length ≤ 1099511627776→Kl5 (ps,(sz:Int),(i:Int))=some (((sz + l.flatten.length:Nat)):Int):=by
 intro l
 induction l with
 | nil =>
  intro i sz hd _
  rw [Kl5.eq_def]
  simp only
  rw [Kr7 (Ksl hd)]
  simp
 | cons x l ih =>
  intro i sz hd ho
  obtain ⟨h1,h2,h3⟩:=Ksk hd
  rw [List.flatten_cons,List.length_append] at ho
  have e:wr ((sz:Int) + (x.length:Int))=((sz + x.length:Nat):Int):=Kvv (by omega) (by omega)
  rw [Kl5.eq_def]
  simp only
  rw [Kr6 h1,if_pos rfl,h2,bs,e,decide_eq_false (by omega),if_neg (by decide),bs,Kr5 (by omega),ih (i + 1) _ h3 (by omega),List.flatten_cons,List.length_append,Nat.add_assoc]
theorem Kz3 (ps:List (List (Int))) (hp:ps.length ≤ 1099511627776):∀ (l:List (List (Int))) (i:Nat) (out:List (Int)),ps.drop i=l→out.length + l.flatten.length ≤ 1099511627776→Kl9 (ps,out,(i:Int))=some (out ++ l.flatten):=by
 intro l
 induction l with
 | nil =>
  intro i out hd _
  rw [Kl9.eq_def]
  simp only
  rw [Kr7 (Ksl hd)]
  simp
 | cons x l ih =>
  intro i out hd ho
  obtain ⟨h1,h2,h3⟩:=Ksk hd
  rw [List.flatten_cons,List.length_append] at ho
  rw [Kl9.eq_def]
  simp only
  rw [Kr6 h1,if_pos rfl,h2,bs,Kun (by omega),bs,Kr5 (by omega),ih (i + 1) _ h3 (by rw [List.length_append]; omega),List.flatten_cons,List.append_assoc]
theorem Kz4 (k:Nat) (h:k ≤ 1048576):Kl1 (k:Int)=some ():=by
 unfold Kl1
 have e:wr ((k:Int) - wr (0 - 0))=(k:Int):=by rw [Kr3 (x:=0 - 0) (by decide) (by decide),Kr3 (by omega) (by omega)]; omega
 rw [decide_eq_false (by omega),if_neg (by decide),e]
 by_cases hk:k=0
 ·subst hk; rfl
 ·rw [decide_eq_true (by omega),if_pos rfl,Int.toNat_natCast,Kxb (by constructor <;> omega),bs]
theorem Kz5 (ps:List (List (Int))) (hp:ps.length ≤ 1048576) (h:ps.flatten.length ≤ 1048576):Klc ps=some ps.flatten:=by
 unfold Klc
 have h0:=Kz2 ps (by omega) ps 0 0 rfl (by omega)
 rw [Nat.zero_add] at h0
 rw [show (0:Int)=((0:Nat):Int) from rfl,h0,bs,Kz4 _ h,bs,Kz3 ps (by omega) ps 0 [] rfl (by rw [List.length_nil]; omega)]
 rfl
theorem Kz6 (ps:List (List (List Int))) (hp:ps.length ≤ 1099511627776):∀ (l:List (List (List Int))) (i sz:Nat),ps.drop i=l→sz + l.flatten.length ≤ 1099511627776→Kjq (ps,(sz:Int),(i:Int))=some (((sz + l.flatten.length:Nat)):Int):=by
 intro l
 induction l with
 | nil =>
  intro i sz hd _
  rw [Kjq.eq_def]
  simp only
  rw [Kr7 (Ksl hd)]
  simp
 | cons x l ih =>
  intro i sz hd ho
  obtain ⟨h1,h2,h3⟩:=Ksk hd
  rw [List.flatten_cons,List.length_append] at ho
  have e:wr ((sz:Int) + (x.length:Int))=((sz + x.length:Nat):Int):=Kvv (by omega) (by omega)
  rw [Kjq.eq_def]
  simp only
  rw [Kr6 h1,if_pos rfl,h2,bs,e,decide_eq_false (by omega),if_neg (by decide),bs,Kr5 (by omega),ih (i + 1) _ h3 (by omega),List.flatten_cons,List.length_append,Nat.add_assoc]
theorem Kz7 (ps:List (List (List Int))) (hp:ps.length ≤ 1099511627776):∀ (l:List (List (List Int))) (i:Nat) (out:List (List Int)),ps.drop i=l→out.length + l.flatten.length ≤ 1099511627776→Kju (ps,out,(i:Int))=some (out ++ l.flatten):=by
 intro l
 induction l with
 | nil =>
  intro i out hd _
  rw [Kju.eq_def]
  simp only
  rw [Kr7 (Ksl hd)]
  simp
 | cons x l ih =>
  intro i out hd ho
  obtain ⟨h1,h2,h3⟩:=Ksk hd
  rw [List.flatten_cons,List.length_append] at ho
  rw [Kju.eq_def]
  simp only
  rw [Kr6 h1,if_pos rfl,h2,bs,Kun (by omega),bs,Kr5 (by omega),ih (i + 1) _ h3 (by rw [List.length_append]; omega),List.flatten_cons,List.append_assoc]
theorem Kz8 (k:Nat) (h:k ≤ 1048576):Kjm (k:Int)=some ():=by
 unfold Kjm
 have e:wr ((k:Int) - wr (0 - 0))=(k:Int):=by rw [Kr3 (x:=0 - 0) (by decide) (by decide),Kr3 (by omega) (by omega)]; omega
 rw [decide_eq_false (by omega),if_neg (by decide),e]
 by_cases hk:k=0
 ·subst hk; rfl
 ·rw [decide_eq_true (by omega),if_pos rfl,Int.toNat_natCast,Kxb (by constructor <;> omega),bs]
theorem Kz9 (ps:List (List (List Int))) (hp:ps.length ≤ 1048576) (h:ps.flatten.length ≤ 1048576):Kjx ps=some ps.flatten:=by
 unfold Kjx
 have h0:=Kz6 ps (by omega) ps 0 0 rfl (by omega)
 rw [Nat.zero_add] at h0
 rw [show (0:Int)=((0:Nat):Int) from rfl,h0,bs,Kz8 _ h,bs,Kz7 ps (by omega) ps 0 [] rfl (by rw [List.length_nil]; omega)]
 rfl
def Kza (s:K00) (ctx:List (List Int)):Bool:=decide (ctx.length ≤ 8) && ctx.all (yN s.fSize true)
theorem sYn {s:K00} {ty:List Int} (h:ty.length ≤ 1099511627776):(Kc3 ty >>= fun r=>if r=true then Kce (ty,s.fSize,true) >>= fun q=>some (!q) else some true)=some (!yN s.fSize true ty):=by
 rw [Kt7 ty h,bs]
 unfold yN
 cases wtB ty with
 | false=>rfl
 | true=>rw [if_pos rfl,Ktd ty h,bs]; rfl
theorem Kzb (s:K00) (ctx:List (List Int)) (hc:ctx.length ≤ 1048576) (hl:∀ ty ∈ ctx,ty.length ≤ 1099511627776):∀ (l:List (List Int)) (i:Nat),ctx.drop i=l→Kci (s,ctx,(i:Int))=some (if l.all (yN s.fSize true) then .inl () else .inr false):=by
 intro l
 induction l with
 | nil =>
  intro i hd
  rw [Kci.eq_def]
  simp only
  rw [Kr7 (Ksl hd)]; rfl
 | cons x l ih =>
  intro i hd
  obtain ⟨h1,h2,h3⟩:=Ksk hd
  have hx:x ∈ ctx:=List.mem_of_mem_drop (i:=i) (by rw [hd]; exact List.mem_cons_self)
  rw [Kci.eq_def]
  simp only
  rw [Kr6 h1,if_pos rfl]
  simp only [h2,bs]
  rw [sYn (hl x hx),bs,Kr5 (by omega),ih (i + 1) h3,List.all_cons]
  cases yN s.fSize true x <;> cases l.all (yN s.fSize true) <;> rfl
theorem Kzc (s:K00) (ctx:List (List Int)) (hc:ctx.length ≤ 1048576) (hl:∀ ty ∈ ctx,ty.length ≤ 1099511627776):Kcl (s,ctx)=some (Kza s ctx):=by
 unfold Kcl Kza
 simp only
 by_cases h:ctx.length ≤ 8
 ·rw [decide_eq_false (by omega),decide_eq_true h,if_neg (by decide),show (0:Int)=((0:Nat):Int) from rfl,Kzb s ctx hc hl ctx 0 rfl,bs]
  cases ctx.all (yN s.fSize true) <;> rfl
 ·rw [decide_eq_true (by omega),decide_eq_false h,if_pos rfl]; rfl
theorem Kzd (s:K00) (ctx:List (List Int)) (hc:ctx.length ≤ 1048576) (hl:∀ ty ∈ ctx,ty.length ≤ 1099511627776):∀ (l:List (List Int)) (i:Nat),ctx.drop i=l→∃ r,Kig (ctx,s,(i:Int))=some r∧(match r with | .inl _=>l.all (Kvo s)=true | .inr j=>l.all (Kvo s)=false∧0 ≤ j):=by
 intro l
 induction l with
 | nil =>
  intro i hd
  rw [Kig.eq_def]
  simp only
  rw [Kr7 (Ksl hd)]
  exact ⟨_,rfl,rfl⟩
 | cons x l ih =>
  intro i hd
  obtain ⟨h1,h2,h3⟩:=Ksk hd
  have hx:x ∈ ctx:=List.mem_of_mem_drop (i:=i) (by rw [hd]; exact List.mem_cons_self)
  rw [Kig.eq_def]
  simp only
  rw [Kr6 h1,if_pos rfl,h2,bs]
  unfold Kic
  simp only
  rw [Kvq s x (hl x hx)]
  simp only [bs]
  cases hle:Kvo s x with
  | true =>
   obtain ⟨r,hr,hm⟩:=ih (i + 1) h3
   refine ⟨r,?_,?_⟩
   ·rw [if_neg (by simp),Kr5 (by omega)]; exact hr
   ·rw [List.all_cons,hle,Bool.true_and]; exact hm
  | false=>exact ⟨_,if_pos rfl,by simp [List.all_cons,hle]⟩
theorem Kze (s:K00) (hs:Kv1 s=true) (ctx:List (List Int)) (hc:ctx.length ≤ 1048576) (hl:∀ ty ∈ ctx,ty.length ≤ 1099511627776):Kip (s,ctx)=some (Kza s ctx):=by
 have e:ctx.all (Kvo s)=ctx.all (yN s.fSize true):=by
  congr 1
  funext ty
  exact Kvt (Kv2 hs) ty
 unfold Kip Kza
 simp only
 by_cases h:ctx.length ≤ 8
 ·rw [decide_eq_true (by omega:(ctx.length:Int) ≤ 8),decide_eq_true h,if_pos rfl]
  obtain ⟨r,hr,hm⟩:=Kzd s ctx hc hl ctx 0 rfl
  unfold Kim Kij
  simp only
  rw [show (0:Int)=((0:Nat):Int) from rfl,hr]
  rw [e] at hm
  cases r with
  | inl _=>simp only [bs] at hm ⊢; rw [hm]; rfl
  | inr j =>
   simp only [bs] at hm ⊢
   rw [hm.1,decide_eq_true (by omega)]; rfl
 ·rw [decide_eq_false (by omega),decide_eq_false h,if_neg (by decide)]; rfl
theorem Kzf {s:K00} (ty:List Int) (h:ty.length ≤ 1099511627776):Kiv (ty,s)=some (Kvo s ty):=by
 unfold Kiv
 simp only
 rw [Kvq s ty h,bs]
mutual
theorem Kzg (s:K00):∀ (t:K01) (n nodes:Nat),tms t ≤ 1099511627776→n + 2 * tms t ≤ 35184372088832→nodes ≤ 400→Kj2 (t,(n:Int),s,s,(nodes:Int))=some (Kub (tOk (Kvl s) (Kvo s) n t) nodes (tsz t))
 | ⟨op,N,ty,ks⟩,n,nodes,ht,hn,hd=>by
  rw [tms] at ht hn
  rw [Kj2.eq_def,tOk,tsz]
  simp only
  rw [Kty,bs]
  unfold Ktx
  cases hop:inB op 0 12
  ·simp [Ku5,hop,Kub]
  ·simp only [if_true]
   rw [Kr5 (by omega)]
   by_cases h4:nodes + 1 ≤ 400
   ·rw [decide_eq_false (by omega:¬ ((nodes + 1:Nat):Int) > 400)]
    by_cases hk:(ks.length:Int)=Ktp op
    ·rw [show ((ks.length:Int) != Ktp op)=false by rw [hk]; exact Krd]
     simp only [Bool.false_eq_true,if_false,bs]
     refine (Kte (x:=Ku3 (Kvl s) (n:Int) ⟨op,N,ty,ks⟩) ?_).trans ?_
     ·unfold Ku3
      simp only [iIn,Kr3 (x:=(n:Int) - 1) (by omega) (by omega),Kvm,bs]
      cases op == 0 <;> cases op == 1 <;> cases Ktq op <;> rfl
     refine (Kte (x:=Ku3 (Kvl s) (n:Int) ⟨op,N,ty,ks⟩ && Ku4 (Kvo s) ⟨op,N,ty,ks⟩) ?_).trans ?_
     ·unfold Ku4
      simp only [Kzf ty (by omega),bs]
      cases Ktr op <;> cases Ku3 (Kvl s) (n:Int) ⟨op,N,ty,ks⟩ <;> rfl
     have e:Ku5 (Kvl s) (Kvo s) (n:Int) ⟨op,N,ty,ks⟩=(Ku3 (Kvl s) (n:Int) ⟨op,N,ty,ks⟩ && Ku4 (Kvo s) ⟨op,N,ty,ks⟩):=by
      unfold Ku5
      simp only
      rw [hop,hk]; simp
     rw [e]
     cases Ku3 (Kvl s) (n:Int) ⟨op,N,ty,ks⟩ && Ku4 (Kvo s) ⟨op,N,ty,ks⟩
     ·simp [Kub]
     ·have h:=Kzh s ks ⟨op,N,ty,ks⟩ n (nodes + 1) 0 rfl (by simp only; omega) (by omega) (by omega) h4
      rw [if_pos rfl,show (0:Int)=((0:Nat):Int) from rfl,h]
      simp only [Bool.true_and]
      unfold Kub
      rw [show nodes + (1 + Ktf ks)=nodes + 1 + Ktf ks by omega]
      cases Ku6 (Kvl s) (Kvo s) op n 0 ks && decide (nodes + 1 + Ktf ks ≤ 400) <;> rfl
    ·rw [show ((ks.length:Int) != Ktp op)=true by simpa using hk]
     have e:Ku5 (Kvl s) (Kvo s) (n:Int) ⟨op,N,ty,ks⟩=false:=by
      unfold Ku5
      simp only
      rw [show ((ks.length:Int) == Ktp op)=false by simpa using hk]; simp
     simp [e,Kub]
   ·rw [decide_eq_true (by omega:((nodes + 1:Nat):Int) > 400)]
    have:¬ nodes + (1 + Ktf ks) ≤ 400:=by omega
    simp [Kub,this]
theorem Kzh (s:K00):∀ (ks:List K01) (t:K01) (n nodes i:Nat),t.fKids.drop i=ks→t.fKids.length ≤ 1099511627776→Ktg ks ≤ 1099511627776→n + 2 * (ks.length + Ktg ks) ≤ 35184372088832→nodes ≤ 400 →
  Kj3 (t,(n:Int),s,s,(nodes:Int),(i:Int))=some (if Ku6 (Kvl s) (Kvo s) t.fOp n i ks && decide (nodes + Ktf ks ≤ 400) then .inl ((nodes + Ktf ks:Nat):Int) else .inr 401)
 | [],t,n,nodes,i,hd,hk,ht,hn,h4=>by
  rw [Kj3.eq_def,Ku6,Ktf]
  simp only
  rw [Kr7 (Ksl hd)]
  simp [h4]
 | k :: ks,t,n,nodes,i,hd,hk,ht,hn,h4=>by
  obtain ⟨hi,hx,hd'⟩:=Ksk hd
  rw [Ktg] at ht hn
  rw [List.length_cons] at hn
  have ha:=Ku0 t.fOp (i:Int)
  rw [Kj3.eq_def,Ku6,Ktf]
  simp only
  rw [Kr6 hi,if_pos rfl,hx,bs,Ku2,bs,Kr3 (by omega) (by omega),show (n:Int) + ((Ktz t.fOp (i:Int):Nat):Int)=((n + Ktz t.fOp (i:Int):Nat):Int) by omega]
  rw [Kzg s k (n + Ktz t.fOp (i:Int)) nodes (by omega) (by omega) h4,bs,Kr5 (by omega)]
  unfold Kub
  cases tOk (Kvl s) (Kvo s) (n + Ktz t.fOp (i:Int)) k
  ·rfl
  ·by_cases q:nodes + tsz k ≤ 400
   ·rw [decide_eq_true q,Bool.true_and,if_pos rfl,decide_eq_false (by omega:¬ ((nodes + tsz k:Nat):Int) > 400),if_neg (by decide),Kzh s ks t n (nodes + tsz k) (i + 1) hd' hk (by omega) (by omega) q,Nat.add_assoc,Bool.true_and]
   ·rw [decide_eq_false q,decide_eq_false (by omega:¬ nodes + (tsz k + Ktf ks) ≤ 400)]
    simp
end
theorem Kzi {s:K00} {n:Nat} (h:Tab s n):Kvl s=gN s.fSize true:=by
 funext g
 rw [Kvr h]
 unfold gN inB
 rw [h.size]
 rw [Bool.eq_iff_iff]
 simp
 omega
theorem Kzj (s:K00) (hs:Kv1 s=true) (t:K01) (n:Nat) (hn:n ≤ 8) (ht:tms t ≤ 1099511627776):Kj9 (s,t,(n:Int))=some (Kxk s t n):=by
 have hy:Kvo s=yN s.fSize true:=funext fun ty=>Kvt (Kv2 hs) ty
 unfold Kj9 Kxk
 simp only
 rw [iIn,bs,hs]
 have:inB (n:Int) 0 8=true:=by unfold inB; rw [decide_eq_true (by omega),decide_eq_true (by omega)]; rfl
 have hc:=Kzg s t n 0 ht (by omega) (by omega)
 rw [Kzi (Kv2 hs),hy] at hc
 rw [this,if_pos rfl,show (0:Int)=((0:Nat):Int) from rfl,hc,bs]
 unfold Kub
 rw [Nat.zero_add]
 cases tOk (gN s.fSize true) (yN s.fSize true) n t
 ·simp [bs]
 ·by_cases h:tsz t ≤ 400
  ·simp [bs,h]; omega
  ·simp [bs,h]
def Kzk (s:K00) (ctx:List (List Int)) (t:K01):Bool:=Kv1 s && Kza s ctx && Kxk s t ctx.length
theorem Kzl (s:K00) (ctx:List (List Int)) (t:K01) (hc:ctx.length ≤ 1048576) (hl:∀ ty ∈ ctx,ty.length ≤ 1099511627776) (ht:tms t ≤ 1099511627776):Kdp (s,ctx,t)=some (Kzk s ctx t):=by
 unfold Kdp Kzk
 simp only
 rw [Kv3,bs]
 cases hs:Kv1 s
 ·rfl
 ·rw [if_pos rfl,Kzc s ctx hc hl,bs]
  cases h2:Kza s ctx
  ·rfl
  ·have h8:ctx.length ≤ 8:=by
    unfold Kza at h2
    simp only [Bool.and_eq_true,decide_eq_true_eq] at h2
    exact h2.1
   rw [if_pos rfl,Kxl s t _ h8 ht]
   rfl
theorem Kzm (s:K00) (ctx:List (List Int)) (t:K01) (hc:ctx.length ≤ 1048576) (hl:∀ ty ∈ ctx,ty.length ≤ 1099511627776) (ht:tms t ≤ 1099511627776) :
  Kmy (s,ctx,t)=if Kzk s ctx t then (Kmr (⟨s⟩,ctx,t) >>= fun r=>some (some r)) else some none:=by
 unfold Kmy Kzk
 simp only
 rw [Kv4,bs]
 cases hs:Kv1 s
 ·rfl
 ·rw [if_pos rfl,Kze s hs ctx hc hl,bs]
  cases h2:Kza s ctx
  ·rfl
  ·have h8:ctx.length ≤ 8:=by
    unfold Kza at h2
    simp only [Bool.and_eq_true,decide_eq_true_eq] at h2
    exact h2.1
   rw [if_pos rfl,Kzj s hs t _ h8 ht,bs]
   cases Kxk s t ctx.length <;> rfl
def TyS (s:K00) (ty:List Int):Prop:=yN s.fSize true ty=true
theorem Kzn {s:K00} {ty:List Int} (h:TyS s ty):ty.length ≤ 40:=by
 unfold TyS yN at h
 rw [Bool.and_eq_true] at h
 exact Kul h.1
theorem Kzo {s:K00} {ty:List Int} (h:TyS s ty):∃ T:Ty,T.ok∧ty=T.code∧T.code.length ≤ 40∧T.code.all (Kta s.fSize true)=true:=by
 have hl:=Kzn h
 unfold TyS yN at h
 rw [Bool.and_eq_true] at h
 obtain ⟨T,h1,rfl,_⟩:=Kvb h.1
 exact ⟨T,h1,rfl,hl,h.2⟩
theorem Kzp {s:K00} {T:Ty} (h:T.ok) (hl:T.code.length ≤ 40) (hc:T.code.all (Kta s.fSize true)=true):TyS s T.code:=by
 unfold TyS yN
 rw [Kvc h hl,hc]; rfl
structure Kzq (s:K00) (c:Int) (a b:List Int):Prop where
 ya:TyS s a
 yb:TyS s b
 p0:Kel (c :: (a ++ b),0)=some a
 p1:Kel (c :: (a ++ b),1)=some b
 pp:Kjg (c :: (a ++ b))=some [a,b]
structure Kzr (s:K00) (c:Int) (a:List Int):Prop where
 ya:TyS s a
 p0:Kel (c :: a,0)=some a
 pp:Kjg (c :: a)=some [a]
theorem Kzs {s:K00} {c:Int} (hc:c=35∨c=36):Kta s.fSize true c=false:=by
 rcases hc with rfl | rfl
 ·unfold Kta Kt9
  rw [show Kso 35=2 from rfl]; simp
 ·unfold Kta Kt9
  rw [show Kso 36=1 from rfl]; simp
theorem Kzt {s:K00}:TyS s [0]:=Kzp (T:=.num) trivial (by decide) (by
 show (Kta s.fSize true 0 && true)=true
 unfold Kta
 rw [show Kso 0=0 from rfl]; simp)
section
variable {s:K00} {n:Nat} (hs:Ky1 s n)
include hs
theorem Kzu {c:Int} (hc:3 ≤ c∧c ≤ 18):Kta s.fSize true c=true ↔ c - 3 < (n:Int):=by
 have hk:Kso c=2:=by rcases Kss c with h | h | h | h <;> omega
 unfold Kta Kt9
 rw [hk,hs.tab.size,if_neg (by omega),if_neg (by omega)]
 simp
 omega
theorem Kzv {c:Int} (hc:19 ≤ c∧c ≤ 34):Kta s.fSize true c=true ↔ c - 19 < (n:Int):=by
 have hk:Kso c=1:=by rcases Kss c with h | h | h | h <;> omega
 unfold Kta Kt9
 rw [hk,hs.tab.size,if_neg (by omega),if_pos (by omega)]
 simp
 omega
theorem Kzw {ty:List Int} (h:TyS s ty):ty=[0]∨(∃ a b,ty=1 :: (a ++ b)∧Kzq s 1 a b)∨(∃ a b,ty=2 :: (a ++ b)∧Kzq s 2 a b) ∨
  (∃ (g:Nat) (a b:List Int),g < n∧g ≤ 15∧ty=(3 + (g:Int)) :: (a ++ b)∧Kzq s (3 + (g:Int)) a b)∨(∃ (g:Nat) (a:List Int),g < n∧g ≤ 15∧ty=(19 + (g:Int)) :: a∧Kzr s (19 + (g:Int)) a):=by
 obtain ⟨T,hT,rfl,hl,hc⟩:=Kzo h
 cases T with
 | num=>exact .inl rfl
 | bin c a b =>
  have B:=Kx7 hT (by omega)
  have hl':=hl
  rw [Ty.code,List.length_cons,List.length_append] at hl'
  rw [Ty.code,List.all_cons,List.all_append,Bool.and_eq_true,Bool.and_eq_true] at hc
  have hP:Kzq s c a.code b.code:=⟨Kzp B.ok.1 (by omega) hc.2.1,Kzp B.ok.2 (by omega) hc.2.2,B.p0,B.p1,B.pp⟩
  have hk:=hT.1
  rcases Kss c with ⟨q,e⟩ | ⟨q,e⟩ | ⟨q,e⟩ | ⟨q,e⟩
  ·rw [e] at hk; exact absurd hk (by decide)
  ·rcases q with rfl | rfl | q | rfl
   ·exact .inr (.inl ⟨_,_,rfl,hP⟩)
   ·exact .inr (.inr (.inl ⟨_,_,rfl,hP⟩))
   ·have:=(Kzu hs q).1 hc.1
    obtain ⟨g,hg⟩:∃ g:Nat,c=3 + (g:Int):=⟨(c - 3).toNat,by omega⟩
    subst hg
    exact .inr (.inr (.inr (.inl ⟨g,_,_,by omega,by omega,rfl,hP⟩)))
   ·rw [Kzs (s:=s) (.inl rfl)] at hc; exact absurd hc.1 (by decide)
  ·rw [e] at hk; exact absurd hk (by decide)
  ·rw [e] at hk; exact absurd hk (by decide)
 | un c a =>
  have B:=unP hT (by omega)
  have hl':=hl
  rw [Ty.code,List.length_cons] at hl'
  rw [Ty.code,List.all_cons,Bool.and_eq_true] at hc
  have hP:Kzr s c a.code:=⟨Kzp B.ok (by omega) hc.2,B.p0,B.pp⟩
  have hk:=hT.1
  rcases Kss c with ⟨q,e⟩ | ⟨q,e⟩ | ⟨q,e⟩ | ⟨q,e⟩
  ·rw [e] at hk; exact absurd hk (by decide)
  ·rw [e] at hk; exact absurd hk (by decide)
  ·rcases q with q | rfl
   ·have:=(Kzv hs q).1 hc.1
    obtain ⟨g,hg⟩:∃ g:Nat,c=19 + (g:Int):=⟨(c - 19).toNat,by omega⟩
    subst hg
    exact .inr (.inr (.inr (.inr ⟨g,_,by omega,by omega,rfl,hP⟩)))
   ·rw [Kzs (s:=s) (.inr rfl)] at hc; exact absurd hc.1 (by decide)
  ·rw [e] at hk; exact absurd hk (by decide)
theorem Kzx {c:Int} {a b:List Int} (ha:TyS s a) (hb:TyS s b) (hc:c=1∨c=2∨∃ g:Nat,g < n∧c=3 + (g:Int)) (hl:(c :: (a ++ b)).length ≤ 40):TyS s (c :: (a ++ b)):=by
 obtain ⟨A,hA,rfl,_,hAc⟩:=Kzo ha
 obtain ⟨B,hB,rfl,_,hBc⟩:=Kzo hb
 have hn:=hs.tab.hi
 have hk:Kso c=2∧Kta s.fSize true c=true:=by
  rcases hc with rfl | rfl | ⟨g,hg,rfl⟩
  ·exact ⟨rfl,by unfold Kta; rw [show Kso 1=2 from rfl]; simp⟩
  ·exact ⟨rfl,by unfold Kta; rw [show Kso 2=2 from rfl]; simp⟩
  ·refine ⟨by rcases Kss (3 + (g:Int)) with h | h | h | h <;> omega,(Kzu hs (by omega)).2 (by omega)⟩
 have:TyS s (Ty.bin c A B).code:=Kzp ⟨hk.1,hA,hB⟩ hl (by rw [Ty.code,List.all_cons,List.all_append,hk.2,hAc,hBc]; rfl)
 exact this
theorem Kzy {g:Nat} (hg:g < n) {a:List Int} (ha:TyS s a) (hl:((19 + (g:Int)) :: a).length ≤ 40):TyS s ((19 + (g:Int)) :: a):=by
 obtain ⟨A,hA,rfl,_,hAc⟩:=Kzo ha
 have hn:=hs.tab.hi
 have hk:Kso (19 + (g:Int))=1:=by rcases Kss (19 + (g:Int)) with h | h | h | h <;> omega
 have:TyS s (Ty.un (19 + (g:Int)) A).code:=Kzp ⟨hk,hA⟩ hl (by rw [Ty.code,List.all_cons,(Kzv hs (by omega)).2 (by omega),hAc]; rfl)
 exact this
theorem Kzz {x:Int} (h:gN s.fSize true x=true):∃ g:Nat,x=(g:Int)∧g < n:=by
 unfold gN at h
 rw [hs.tab.size] at h
 simp at h
 exact ⟨x.toNat,by omega,by omega⟩
end
structure V00 (s:K00) (n:Nat) (k:K01) (m:Nat):Prop where
 ok:tOk (gN s.fSize true) (yN s.fSize true) n k=true
 sz:tsz k + 1 ≤ m
theorem nd1 {s:K00} {n m:Nat} {op N:Int} {ty:List Int} {ks:List K01} (h:tOk (gN s.fSize true) (yN s.fSize true) n ⟨op,N,ty,ks⟩=true) (hm:tsz ⟨op,N,ty,ks⟩ ≤ m) (hk:Ktp op=1):∃ a,ks=[a]∧V00 s (n + Ktz op 0) a m:=by
 obtain ⟨h1,h2⟩:=Kum h
 obtain ⟨a,rfl⟩:=Kxi (l:=ks) (beq_iff_eq.2 (by rw [← hk]; exact (Kuo h1).2))
 simp only at h2
 rw [Kxh,Bool.and_eq_true] at h2
 rw [Kxm] at hm
 exact ⟨a,rfl,h2.1,by omega⟩
theorem nd2 {s:K00} {n m:Nat} {op N:Int} {ty:List Int} {ks:List K01} (h:tOk (gN s.fSize true) (yN s.fSize true) n ⟨op,N,ty,ks⟩=true) (hm:tsz ⟨op,N,ty,ks⟩ ≤ m) (hk:Ktp op=2):∃ a b,ks=[a,b]∧V00 s (n + Ktz op 0) a m∧V00 s (n + Ktz op 1) b m:=by
 obtain ⟨h1,h2⟩:=Kum h
 obtain ⟨a,b,rfl⟩:=Kxj (l:=ks) (beq_iff_eq.2 (by rw [← hk]; exact (Kuo h1).2))
 simp only at h2
 rw [Kxh,Kxh,Bool.and_eq_true,Bool.and_eq_true] at h2
 rw [Kxn] at hm
 exact ⟨a,b,rfl,⟨h2.1,by omega⟩,⟨h2.2.1,by omega⟩⟩
theorem nd3 {s:K00} {n m:Nat} {op N:Int} {ty:List Int} {ks:List K01} (h:tOk (gN s.fSize true) (yN s.fSize true) n ⟨op,N,ty,ks⟩=true) (hm:tsz ⟨op,N,ty,ks⟩ ≤ m) (hk:Ktp op=3):∃ a b c,ks=[a,b,c]∧V00 s (n + Ktz op 0) a m∧V00 s (n + Ktz op 1) b m∧V00 s (n + Ktz op 2) c m:=by
 obtain ⟨h1,h2⟩:=Kum h
 obtain ⟨a,b,c,rfl⟩:=Kxp (l:=ks) (by rw [← hk]; exact (Kuo h1).2)
 simp only at h2
 rw [Kxh,Kxh,Kxh,Bool.and_eq_true,Bool.and_eq_true,Bool.and_eq_true] at h2
 rw [Kxo] at hm
 exact ⟨a,b,c,rfl,⟨h2.1,by omega⟩,⟨h2.2.1,by omega⟩,⟨h2.2.2.1,by omega⟩⟩
theorem V01 {s:K00} {n:Nat} {t:K01} (h:tOk (gN s.fSize true) (yN s.fSize true) n t=true) (hg:Ktq t.fOp=true):gN s.fSize true t.fN=true:=by
 have h1:=(Kum h).1
 unfold Ku5 Ku3 at h1
 simp only [Bool.and_eq_true] at h1
 have h2:=h1.1.2
 have hop:(t.fOp == 0)=false∧(t.fOp == 1)=false:=by
  simp only [Ktq,Bool.or_eq_true,beq_iff_eq] at hg
  constructor <;> rw [beq_eq_false_iff_ne] <;> omega
 rw [hop.1,hop.2,hg] at h2
 simpa using h2
theorem V02 {s:K00} {n:Nat} {t:K01} (h:tOk (gN s.fSize true) (yN s.fSize true) n t=true) (hg:Ktr t.fOp=true):TyS s t.fType:=by
 have h1:=(Kum h).1
 unfold Ku5 Ku4 at h1
 simp only [Bool.and_eq_true] at h1
 have h2:=h1.2
 rw [hg] at h2
 show yN s.fSize true t.fType=true
 simpa using h2
theorem V03 {s:K00} {n:Nat} {t:K01} (h:tOk (gN s.fSize true) (yN s.fSize true) n t=true) (hg:t.fOp=0):∃ i:Nat,t.fN=(i:Int)∧i < n∧t.fKids=[]:=by
 have h1:=(Kum h).1
 have hl:=(Kuo h1).2
 unfold Ku5 Ku3 at h1
 simp only [Bool.and_eq_true] at h1
 have h2:=h1.1.2
 rw [hg] at h2 hl
 simp [inB] at h2
 refine ⟨t.fN.toNat,by omega,by omega,?_⟩
 have:(t.fKids.length:Int)=0:=hl
 exact List.eq_nil_of_length_eq_zero (by omega)
theorem V04 {s:K00} {n:Nat} {t:K01} (h:tOk (gN s.fSize true) (yN s.fSize true) n t=true) (hg:t.fOp=1):t.fKids=[]:=by
 have h1:=(Kum h).1
 have hl:=(Kuo h1).2
 rw [hg] at hl
 have:(t.fKids.length:Int)=0:=hl
 exact List.eq_nil_of_length_eq_zero (by omega)
def V05 (t:K01) (out:List K04) (w:Nat):Option (List (List Int)) :=
 (if (decide ((w:Int) > 0))=true then some (true) else some ((t.fOp == 9))) >>= fun v =>
 if v=true then
  (if (decide ((w:Int) > 0))=true then (idx out 0) >>= fun e=>some (e.fty) else some ([])) >>= fun first=>(Kjj (t,(w:Int),first)) >>= fun r=>some (r)
 else some ([])
def V06 (p0:K06) (ctx:List (List Int)) (t:K01) (out:List K04) (needs used:List (List Int)) (w:Nat) (more:List (List Int)) (y:K04):Option (((List K04) × (List (List Int)) × (List (List Int))) ⊕ (K04)) :=
 if (y.ffault != 0)=true then
  (Qdq ([(w:Int)].length + y.fpath.length) 8) >>= fun _=>some (.inr (K04.mk [] [] [] y.ffault ([(w:Int)] ++ y.fpath)))
 else
  (Kk1 (p0,t,(w:Int),y.fty)) >>= fun f =>
  if (f != 0)=true then some (.inr (K04.mk [] [] [] f []))
  else
   (if (t.fOp == 10)=true then
    if ((w:Int) == 1)=true then
     (idx out 0) >>= fun e=>(Kjg e.fty) >>= fun r=>(idx r 0) >>= fun q=>(Kk8 (y.fty,q)) >>= fun b=>some ((!b))
    else some (false)
   else some (false)) >>= fun v =>
   if v=true then some (.inr (K04.mk [] [] [] 3 []))
   else
    (Qdq (out.length + [y].length) 8) >>= fun _ =>
    (cut y.fneeds none (some (more.length:Int)) none) >>= fun c1 =>
    (Qdq (used.length + [c1].length) 24) >>= fun _ =>
    (cut y.fneeds (some (more.length:Int)) none none) >>= fun c2 =>
    (Qdq (needs.length + [c2].length) 24) >>= fun _ =>
    Kms (p0,ctx,t,(out ++ [y]),(needs ++ [c2]),(used ++ [c1]),(wr ((w:Int) + 1)))
theorem V07 {p0:K06} {ctx:List (List Int)} {t:K01} {out:List K04} {needs used:List (List Int)} {w:Nat} {k:K01} {more:List (List Int)} {y:K04} (hw:w < t.fKids.length) (hk:idx t.fKids (w:Int)=some k) (hm:V05 t out w=some more)
  (hc:ctx.length + more.length ≤ 1000000) (hy:Kmr (p0,more ++ ctx,k)=some y):Kms (p0,ctx,t,out,needs,used,(w:Int))=V06 p0 ctx t out needs used w more y:=by
 rw [Kms.eq_def]
 simp only
 rw [Kr6 hw,if_pos rfl,hk,bs]
 have key:∀ {β:Type} (R:List (List Int)→Option β),((if (decide ((w:Int) > 0))=true then some (true) else some ((t.fOp == 9))) >>= fun v =>
   (if v=true then (if (decide ((w:Int) > 0))=true then (idx out 0) >>= fun e=>some (e.fty) else some ([])) >>= fun first=>(Kjj (t,(w:Int),first)) >>= fun r=>some (r) else some ([])) >>= R)=(V05 t out w >>= R):=fun R=>by
  unfold V05
  simp only [Option.bind_eq_bind,Option.bind_assoc]
 refine (key _).trans ?_
 rw [hm,bs,Kz9 [more,ctx] (by simp) (by simp; omega),bs]
 simp only [List.flatten_cons,List.flatten_nil,List.append_nil]
 rw [hy,bs]
 rfl
theorem V08 {p0:K06} {ctx:List (List Int)} {t:K01} {out:List K04} {needs used:List (List Int)} {w:Nat} (hw:t.fKids.length ≤ w):Kms (p0,ctx,t,out,needs,used,(w:Int))=some (.inl (out,needs,used)):=by
 rw [Kms.eq_def]
 simp only
 rw [Kr7 hw]; rfl
theorem V09 {α:Type} {l:List α} {m:Nat} (h:m ≤ l.length):cut l none (some (m:Int)) none=some (l.take m):=by
 unfold cut
 simp only [Option.getD_none,Option.getD_some,Int.toNat_natCast,Int.toNat_zero,List.drop_zero]
 rw [if_pos (by omega)]
theorem V0a {α:Type} {l:List α} {m:Nat} (h:m ≤ l.length):cut l (some (m:Int)) none none=some (l.drop m):=by
 unfold cut
 simp only [Option.getD_none,Option.getD_some,Int.toNat_natCast]
 rw [if_pos (by omega),List.take_length]
def V0b (t:K01) (out:List K04) (w:Nat) (y:K04):Option Bool :=
 if (t.fOp == 10)=true then
  if ((w:Int) == 1)=true then
   (idx out 0) >>= fun e=>(Kjg e.fty) >>= fun r=>(idx r 0) >>= fun q=>(Kk8 (y.fty,q)) >>= fun b=>some ((!b))
  else some (false)
 else some (false)
section
variable {p0:K06} {ctx:List (List Int)} {t:K01} {out:List K04} {needs used:List (List Int)} {w:Nat} {more:List (List Int)} {y:K04}
theorem V0c (h:y.ffault ≠ 0) (hp:y.fpath.length ≤ 1000000):V06 p0 ctx t out needs used w more y=some (.inr ⟨[],[],[],y.ffault,(w:Int) :: y.fpath⟩):=by
 unfold V06
 rw [if_pos (bne_iff_ne.2 h),Kun (by simp; omega),bs]
 rfl
theorem V0d {f:Int} (h:y.ffault=0) (hf:Kk1 (p0,t,(w:Int),y.fty)=some f) (hf0:f ≠ 0):V06 p0 ctx t out needs used w more y=some (.inr ⟨[],[],[],f,[]⟩):=by
 unfold V06
 rw [if_neg (by simp [h]),hf,bs,if_pos (bne_iff_ne.2 hf0)]
theorem V0e (h:y.ffault=0) (hf:Kk1 (p0,t,(w:Int),y.fty)=some 0) (ha:V0b t out w y=some true):V06 p0 ctx t out needs used w more y=some (.inr ⟨[],[],[],3,[]⟩):=by
 unfold V06
 rw [if_neg (by simp [h]),hf,bs,if_neg (by simp)]
 refine (congrArg (· >>= _) (show _=some true from ha)).trans ?_
 rw [bs,if_pos rfl]
theorem V0f {ns:List Nat} (h:y.ffault=0) (hf:Kk1 (p0,t,(w:Int),y.fty)=some 0) (ha:V0b t out w y=some false) (hn:y.fneeds=Kxw ns) (hl:more.length ≤ ns.length)
  (h1:out.length ≤ 1000000) (h2:needs.length ≤ 1000000) (h3:used.length ≤ 1000000) (h4:w ≤ 1000000) :
  V06 p0 ctx t out needs used w more y=Kms (p0,ctx,t,(out ++ [y]),(needs ++ [Kxw (ns.drop more.length)]),(used ++ [Kxw (ns.take more.length)]),((w + 1:Nat):Int)):=by
 unfold V06
 rw [if_neg (by simp [h]),hf,bs,if_neg (by simp)]
 refine (congrArg (· >>= _) (show _=some false from ha)).trans ?_
 rw [bs,if_neg (by simp),Kun (by simp; omega),bs,hn,V09 (by rw [Kxx]; exact hl),bs,Kun (by simp; omega),bs,V0a (by rw [Kxx]; exact hl),bs,Kun (by simp; omega),bs,Kr5 (by omega),Kxz,Kxy]
theorem V0g {r:K04} (hc:ctx.length ≤ 1000000) (h:Kms (p0,ctx,t,[],[],[],((0:Nat):Int))=some (.inr r)):Kmr (p0,ctx,t)=some r:=by
 rw [Kmr.eq_def]
 simp only
 rw [Kxb (by simp; omega),bs,show (0:Int)=((0:Nat):Int) from rfl,h]
 rfl
theorem V0h {o:List K04} {nd us:List (List Int)} {f:Int} {g:K04} (hc:ctx.length ≤ 1000000) (h:Kms (p0,ctx,t,[],[],[],((0:Nat):Int))=some (.inl (o,nd,us)))
  (hf:Kmm (p0,⟨[],Kxw (List.replicate ctx.length 0),o,0,[]⟩,ctx,t,nd,us)=some (f,g)) (hg:g.fpath=[]:=by rfl):Kmr (p0,ctx,t)=some (if f=0 then ⟨g.fty,g.fneeds,g.fkids,0,g.fpath⟩ else ⟨[],[],[],f,[]⟩):=by
 have e:Kxw (List.replicate ctx.length 0)=List.replicate (Int.toNat (ctx.length:Int)) (0:Int):=by
  unfold Kxw; rw [List.map_replicate,Int.toNat_natCast]; rfl
 rw [e] at hf
 rw [Kmr.eq_def]
 simp only
 rw [Kxb (by simp; omega),bs,show Kms (p0,ctx,t,[],[],[],0)=some (.inl (o,nd,us)) from h,bs]
 simp only
 rw [hf,bs]
 simp only
 by_cases hz:f=0
 ·subst hz; first | (rw [if_neg (by simp),if_pos rfl]; done) | rw [if_neg (by simp),if_pos rfl,hg]
 ·rw [if_pos (bne_iff_ne.2 hz),if_neg hz]
theorem V0i (h:t.fOp ≠ 10):V0b t out w y=some false:=by
 unfold V0b
 rw [if_neg (by simpa using h)]
theorem V0j (h:w ≠ 1):V0b t out w y=some false:=by
 unfold V0b
 have:((w:Int) == 1)=false:=by rw [beq_eq_false_iff_ne]; omega
 rw [this]
 simp
end
section
variable {s:K00} {n:Nat} (hs:Ky1 s n) {N:Int} {ty:List Int} {ks:List K01} {w:Nat} {c:Int} {r:List Int}
theorem V0k {op:Int} (h:(op=4∨op=6∨op=7∨op=9∨op=11)∨(w ≠ 0∧(op=3∨op=5∨op=8∨op=10∨op=12))):Kk1 (⟨s⟩,⟨op,N,ty,ks⟩,(w:Int),c :: r)=some 0:=by
 have hw:∀ hw:w ≠ 0,((w:Int) == 0)=false:=fun hw=>by rw [beq_eq_false_iff_ne]; omega
 unfold Kk1
 rcases h with (rfl | rfl | rfl | rfl | rfl) | ⟨h0,(rfl | rfl | rfl | rfl | rfl)⟩
 all_goals first | simp [Kvu,Ksu,hw h0] | (by_cases h0:w=0 <;> simp [Kvu,Ksu,h0])
theorem V0l:Kk1 (⟨s⟩,⟨2,N,ty,ks⟩,(w:Int),c :: r)=some (if (Kst c).1=0 then 0 else 2):=by
 unfold Kk1
 by_cases h:(Kst c).1=0 <;> simp [Kvu,Ksu,h]
theorem V0m:Kk1 (⟨s⟩,⟨3,N,ty,ks⟩,((0:Nat):Int),c :: r)=some (if (Kst c).1=0 then 0 else 2):=by
 unfold Kk1
 by_cases h:(Kst c).1=0 <;> simp [Kvu,Ksu,h]
theorem V0n:Kk1 (⟨s⟩,⟨10,N,ty,ks⟩,((0:Nat):Int),c :: r)=some (if (Kst c).1=3 then 0 else 6):=by
 unfold Kk1
 by_cases h:(Kst c).1=3 <;> simp [Kvu,Ksu,h]
include hs
theorem V0o {g:Nat} (hg:g < n):Kk1 (⟨s⟩,⟨5,(g:Int),ty,ks⟩,((0:Nat):Int),c :: r)=some (if (Kst c).1=1 then (if le s n 1 g then 0 else 8) else 4):=by
 have hl:=iLe hs.tab (Ky3 hs) hg
 unfold Kk1
 by_cases h:(Kst c).1=1 <;> cases hle:le s n 1 g <;> simp [Kvu,Ksu,h,show Kgq (s,1,(g:Int))=some (le s n 1 g) from hl,hle]
theorem V0p {g:Nat} (hg:g < n):Kk1 (⟨s⟩,⟨8,(g:Int),ty,ks⟩,((0:Nat):Int),c :: r)=some (if (Kst c).1=2 then (if le s n 1 g then 0 else 8) else 5):=by
 have hl:=iLe hs.tab (Ky3 hs) hg
 unfold Kk1
 by_cases h:(Kst c).1=2 <;> cases hle:le s n 1 g <;> simp [Kvu,Ksu,h,show Kgq (s,1,(g:Int))=some (le s n 1 g) from hl,hle]
theorem V0q {g:Nat} (hg:g < n):Kk1 (⟨s⟩,⟨12,(g:Int),ty,ks⟩,((0:Nat):Int),c :: r)=some (if (Kst c).1=4 then (if le s n 1 g then 0 else 8) else 7):=by
 have hl:=iLe hs.tab (Ky3 hs) hg
 unfold Kk1
 by_cases h:(Kst c).1=4 <;> cases hle:le s n 1 g <;> simp [Kvu,Ksu,h,show Kgq (s,1,(g:Int))=some (le s n 1 g) from hl,hle]
end
def V0r (ty:List Int) (ns:List Nat) (kids:List K04):Int × K04:=(if ty.length > 40 then 3 else 0,⟨ty,Kxw ns,kids,0,[]⟩)
theorem V0s {α:Type} (x:α) (l:List α):idx (x :: l) 0=some x:=rfl
theorem V0t {α:Type} (x y:α) (l:List α):idx (x :: y :: l) 1=some y:=rfl
theorem V0u {α:Type} (x y z:α) (l:List α):idx (x :: y :: z :: l) 2=some z:=rfl
section
variable {s:K00} {n:Nat} (hs:Ky1 s n) {N:Int} {ty:List Int} {ks:List K01} {ctx us:List (List Int)} {z:List Int} {y0 y1 y2:K04} {a b d:List Nat}
theorem V0v {i:Nat} {q:List Int} {zs:List Nat} (hi:ctx[i]?=some q) (hz:i < zs.length) (hq:q.length ≤ 40):Kmm (⟨s⟩,⟨[],Kxw zs,[],0,[]⟩,ctx,⟨0,(i:Int),ty,ks⟩,[],[])=some (V0r q (zs.set i 1) []):=by
 obtain ⟨h1,h2⟩:=List.getElem?_eq_some_iff.1 hi
 have e1:idx ctx (i:Int)=some q:=by rw [Kr4 h1,h2]
 have e2:idx (Kxw zs) (i:Int)=some ((zs[i]:Nat):Int):=by rw [Kr4 (by rw [Kxx]; exact hz)]; simp [Kxw]
 have e3:List.set (Kxw zs) i 1=Kxw (zs.set i 1):=by unfold Kxw; rw [List.map_set]; rfl
 have h40:¬ ((q.length:Int) > 40):=by omega
 unfold Kmm Km2 V0r
 simp [e1,e2,e3,Kuq q (by omega),show ¬ (40 < (q.length:Int)) by omega,show ¬ (40 < q.length) by omega]
theorem V0w {zs:List Nat}:Kmm (⟨s⟩,⟨[],Kxw zs,[],0,[]⟩,ctx,⟨1,N,ty,ks⟩,[],[])=some (V0r [0] zs []):=by
 unfold Kmm Km2 V0r
 simp
theorem V0x (hy:y0.fty.length ≤ 1000) (ht:ty.length ≤ 1000):Kmm (⟨s⟩,⟨[],z,[y0],0,[]⟩,ctx,⟨6,N,ty,ks⟩,[Kxw a],us)=some (V0r (2 :: (y0.fty ++ ty)) a [y0]):=by
 have hc:=Kz5 [[2],y0.fty,ty] (by simp) (by simp; omega)
 unfold Kmm Km2 V0r Kko
 simp only [List.flatten_cons,List.flatten_nil,List.append_nil,List.singleton_append,List.cons_append,List.nil_append] at hc
 simp [V0s,V0t,hc]
 split <;> rename_i q40
 ·rw [if_pos (by omega)]
 ·rw [if_neg (by omega)]
theorem V0y (hy:y0.fty.length ≤ 1000) (ht:ty.length ≤ 1000):Kmm (⟨s⟩,⟨[],z,[y0],0,[]⟩,ctx,⟨7,N,ty,ks⟩,[Kxw a],us)=some (V0r (2 :: (ty ++ y0.fty)) a [y0]):=by
 have hc:=Kz5 [[2],ty,y0.fty] (by simp) (by simp; omega)
 unfold Kmm Km2 V0r Kko
 simp only [List.flatten_cons,List.flatten_nil,List.append_nil,List.singleton_append,List.cons_append,List.nil_append] at hc
 simp [V0s,V0t,hc]
 split <;> rename_i q40
 ·rw [if_pos (by omega)]
 ·rw [if_neg (by omega)]
include hs
theorem V0z (ha:Kyc n a) (hb:Kyc n b) (hl:a.length ≤ 1000000) (hab:a.length=b.length):Kmm (⟨s⟩,⟨[],z,[y0,y1],0,[]⟩,ctx,⟨2,N,ty,ks⟩,[Kxw a,Kxw b],us)=some (V0r [0] (Ky9 s n a b) [y0,y1]):=by
 have h:=Kyr hs a b ha hb (by omega) hab
 unfold Kmm Km2 V0r
 simp [V0s,V0t,h]
theorem V10 (ha:Kyc n a) (hb:Kyc n b) (hd:Kyc n d) (hl:a.length ≤ 1000000) (hab:a.length=b.length) (had:a.length=d.length) (h2:y2.fty.length ≤ 1000) (h1:y1.fty.length ≤ 40) :
  Kmm (⟨s⟩,⟨[],z,[y0,y1,y2],0,[]⟩,ctx,⟨3,N,ty,ks⟩,[Kxw a,Kxw b,Kxw d],us)=some (if y1.fty=y2.fty then V0r y1.fty (Ky9 s n a (Kyb s n b d)) [y0,y1,y2] else (3,⟨[],z,[y0,y1,y2],0,[]⟩)):=by
 have hj:=Kyt hs b d hb hd (by omega) (by omega)
 have hlj:(Kyb s n b d).length=a.length:=by unfold Kyb; rw [List.length_zipWith]; omega
 have h:=Kyr hs a (Kyb s n b d) ha (Kyh hs hb hd) (by omega) hlj.symm
 have he:=Kxg y1.fty y2.fty (by omega)
 unfold Kmm Km2 V0r Kko
 by_cases hq:y1.fty=y2.fty
 ·rw [show (y1.fty == y2.fty)=true from beq_iff_eq.2 hq] at he
  rw [if_pos hq]
  simp [V0s,V0t,V0u,he,hj,h,show ¬ (40 < (y1.fty.length:Int)) by omega,show ¬ (40 < y1.fty.length) by omega]
 ·rw [show (y1.fty == y2.fty)=false from beq_eq_false_iff_ne.2 hq] at he
  rw [if_neg hq]
  simp [V0s,V0t,V0u,he]
theorem V11 (ha:Kyc n a) (hb:Kyc n b) (hl:a.length ≤ 1000000) (hab:a.length=b.length) (h0:y0.fty.length ≤ 1000) (h1:y1.fty.length ≤ 1000) :
  Kmm (⟨s⟩,⟨[],z,[y0,y1],0,[]⟩,ctx,⟨4,N,ty,ks⟩,[Kxw a,Kxw b],us)=some (V0r (1 :: (y0.fty ++ y1.fty)) (Ky9 s n a b) [y0,y1]):=by
 have h:=Kyr hs a b ha hb (by omega) hab
 have hc:=Kz5 [[1],y0.fty,y1.fty] (by simp) (by simp; omega)
 unfold Kmm Km2 V0r Kko
 simp only [List.flatten_cons,List.flatten_nil,List.append_nil,List.singleton_append,List.cons_append,List.nil_append] at hc
 simp [V0s,V0t,hc,h]
 split <;> rename_i q40
 ·rw [if_pos (by omega)]
 ·rw [if_neg (by omega)]
theorem V12 {g:Nat} (hg:g < n) {u:List Nat} (hu:Kyc n u) (hul:u.length ≤ 1000000) (hy:y0.fty.length ≤ 1000) (ht:ty.length ≤ 1000) :
  Kmm (⟨s⟩,⟨[],z,[y0],0,[]⟩,ctx,⟨9,(g:Int),ty,ks⟩,[Kxw a],[Kxw u])=some (if (u.all fun x=>le s n x g)=true then V0r ((3 + (g:Int)) :: (ty ++ y0.fty)) a [y0] else (9,⟨[],z,[y0],0,[]⟩)):=by
 have hn:=hs.tab.hi
 have e:=Kyx hs g hg u hu (by omega)
 have hw:wr (3 + (g:Int))=3 + (g:Int):=Kr3 (by omega) (by omega)
 have hc:=Kz5 [[3 + (g:Int)],ty,y0.fty] (by simp) (by simp; omega)
 unfold Kmm Km2 V0r Kko
 simp only [List.flatten_cons,List.flatten_nil,List.append_nil,List.singleton_append,List.cons_append,List.nil_append] at hc
 cases hq:(u.all fun x=>le s n x g) with
 | true =>
  rw [hq] at e
  simp [V0s,V0t,e,hc,hw]
  split <;> rename_i q40
  ·rw [if_pos (by omega)]
  ·rw [if_neg (by omega)]
 | false =>
  rw [hq] at e
  simp [V0s,V0t,e]
theorem V13 {g:Nat} (hg:g < n) (ha:Kyc n a) (hl:a.length ≤ 1000000) (hy:y0.fty.length ≤ 1000) :
  Kmm (⟨s⟩,⟨[],z,[y0],0,[]⟩,ctx,⟨11,(g:Int),ty,ks⟩,[Kxw a],us)=some (V0r ((19 + (g:Int)) :: y0.fty) (Kya s n g a) [y0]):=by
 have hn:=hs.tab.hi
 have e:=Kyv hs g hg a ha (by omega)
 have hw:wr (19 + (g:Int))=19 + (g:Int):=Kr3 (by omega) (by omega)
 have hc:=Kz5 [[19 + (g:Int)],y0.fty] (by simp) (by simp; omega)
 unfold Kmm Km2 V0r Kko
 simp only [List.flatten_cons,List.flatten_nil,List.append_nil,List.singleton_append,List.cons_append,List.nil_append] at hc
 simp [V0s,V0t,hc,hw,e]
 split <;> rename_i q40
 ·rw [if_pos (by omega)]
 ·rw [if_neg (by omega)]
theorem V14 {g:Nat} (hg:g < n) {p q:List Int} (hty:y0.fty=(3 + (g:Int)) :: (p ++ q)) (hP:Kzq s (3 + (g:Int)) p q) (ha:Kyc n a) (hb:Kyc n b) (hl:a.length ≤ 1000000) (hab:a.length=b.length) :
  Kmm (⟨s⟩,⟨[],z,[y0,y1],0,[]⟩,ctx,⟨10,N,ty,ks⟩,[Kxw a,Kxw b],us)=some (V0r q (Ky9 s n a (Kya s n g b)) [y0,y1]):=by
 have hn:=hs.tab.hi
 have e:=Kyv hs g hg b hb (by omega)
 have hlj:(Kya s n g b).length=a.length:=by unfold Kya; rw [List.length_map]; omega
 have h:=Kyr hs a (Kya s n g b) ha (Kyg hs hg hb) (by omega) hlj.symm
 have hsh:Kst (3 + (g:Int))=(3,(g:Int)):=by
  rcases Ksv (3 + (g:Int)) with h | h | h | h | h | h | h | h <;> first | omega | (obtain ⟨_,e⟩:=h; rw [e]; congr 1; omega)
 have hq:=Kzn hP.yb
 have pp:=hP.pp
 rw [← hty] at pp
 have i0:idx y0.fty 0=some (3 + (g:Int)):=by rw [hty]; rfl
 unfold Kmm Km2 V0r Kko
 simp [V0s,V0t,i0,Ksu,hsh,pp,e,h,show ¬ (40 < (q.length:Int)) by omega,show ¬ (40 < q.length) by omega]
theorem V15 {g:Nat} (hg:g < n) {u:List Nat} {us':List Int} (hu:Kyc n u) (hul:u.length ≤ 1000000) (ha:Kyc n a) (hb:Kyc n b) (hl:a.length ≤ 1000000) (hab:a.length=b.length) (h1:y1.fty.length ≤ 40) :
  Kmm (⟨s⟩,⟨[],z,[y0,y1],0,[]⟩,ctx,⟨5,(g:Int),ty,ks⟩,[Kxw a,Kxw b],[us',Kxw u])=some (if (u.all fun x=>le s n x g)=true then V0r y1.fty (Ky9 s n (Kya s n g a) b) [y0,y1] else (9,⟨[],z,[y0,y1],0,[]⟩)):=by
 have e:=Kyx hs g hg u hu (by omega)
 have e2:=Kyv hs g hg a ha (by omega)
 have hlj:(Kya s n g a).length=a.length:=by unfold Kya; rw [List.length_map]
 have h:=Kyr hs (Kya s n g a) b (Kyg hs hg ha) hb (by omega) (by omega)
 unfold Kmm Km2 V0r Kko
 cases hq:(u.all fun x=>le s n x g) with
 | true =>
  rw [hq] at e
  simp [V0s,V0t,e,e2,h,show ¬ (40 < (y1.fty.length:Int)) by omega,show ¬ (40 < y1.fty.length) by omega]
 | false =>
  rw [hq] at e
  simp [V0s,V0t,e]
theorem V16 {g m:Nat} (hg:g < n) (hm:m < n) {p:List Int} (hty:y0.fty=(19 + (m:Int)) :: p) {u:List Nat} {us':List Int} (hu:Kyc n u) (hul:u.length ≤ 1000000) (ha:Kyc n a) (hb:Kyc n b) (hl:a.length ≤ 1000000) (hab:a.length=b.length) (h1:y1.fty.length ≤ 40) :
  Kmm (⟨s⟩,⟨[],z,[y0,y1],0,[]⟩,ctx,⟨12,(g:Int),ty,ks⟩,[Kxw a,Kxw b],[us',Kxw u])=some (if (u.all fun x=>le s n x (ti s n g m))=true then V0r y1.fty (Ky9 s n (Kya s n g a) b) [y0,y1] else (9,⟨[],z,[y0,y1],0,[]⟩)):=by
 have hn:=hs.tab.hi
 have e0:=Kru hs.tab hg hm
 have e:=Kyx hs (ti s n g m) (Krn hs.tab hg hm) u hu (by omega)
 have e2:=Kyv hs g hg a ha (by omega)
 have hlj:(Kya s n g a).length=a.length:=by unfold Kya; rw [List.length_map]
 have h:=Kyr hs (Kya s n g a) b (Kyg hs hg ha) hb (by omega) (by omega)
 have hsh:Kst (19 + (m:Int))=(4,(m:Int)):=by
  rcases Ksv (19 + (m:Int)) with h | h | h | h | h | h | h | h <;> first | omega | (obtain ⟨_,e⟩:=h; rw [e]; congr 1; omega)
 have i0:idx y0.fty 0=some (19 + (m:Int)):=by rw [hty]; rfl
 unfold Kmm Km2 V0r Kko
 cases hq:(u.all fun x=>le s n x (ti s n g m)) with
 | true =>
  rw [hq] at e
  simp [V0s,V0t,i0,Ksu,hsh,e0,e,e2,h,show ¬ (40 < (y1.fty.length:Int)) by omega,show ¬ (40 < y1.fty.length) by omega]
 | false =>
  rw [hq] at e
  simp [V0s,V0t,i0,Ksu,hsh,e0,e]
theorem V17 {g:Nat} (hg:g < n) {u v:List Nat} {us':List Int} (hu:Kyc n u) (hul:u.length ≤ 1000000) (hv:Kyc n v) (hvl:v.length ≤ 1000000) (ha:Kyc n a) (hb:Kyc n b) (hd:Kyc n d) (hl:a.length ≤ 1000000) (hab:a.length=b.length) (had:a.length=d.length) (h2:y2.fty.length ≤ 1000) (h1:y1.fty.length ≤ 40) :
  Kmm (⟨s⟩,⟨[],z,[y0,y1,y2],0,[]⟩,ctx,⟨8,(g:Int),ty,ks⟩,[Kxw a,Kxw b,Kxw d],[us',Kxw u,Kxw v]) =
   some (if y1.fty=y2.fty then (if (u.all fun x=>le s n x g)=true∧(v.all fun x=>le s n x g)=true then V0r y1.fty (Ky9 s n (Kya s n g a) (Kyb s n b d)) [y0,y1,y2] else (9,⟨[],z,[y0,y1,y2],0,[]⟩)) else (3,⟨[],z,[y0,y1,y2],0,[]⟩)):=by
 have e:=Kyx hs g hg u hu (by omega)
 have e':=Kyx hs g hg v hv (by omega)
 have e2:=Kyv hs g hg a ha (by omega)
 have hj:=Kyt hs b d hb hd (by omega) (by omega)
 have hlj:(Kyb s n b d).length=a.length:=by unfold Kyb; rw [List.length_zipWith]; omega
 have hls:(Kya s n g a).length=a.length:=by unfold Kya; rw [List.length_map]
 have h:=Kyr hs (Kya s n g a) (Kyb s n b d) (Kyg hs hg ha) (Kyh hs hb hd) (by omega) (by omega)
 have he:=Kxg y1.fty y2.fty (by omega)
 unfold Kmm Km2 V0r Kko
 by_cases hq:y1.fty=y2.fty
 ·rw [show (y1.fty == y2.fty)=true from beq_iff_eq.2 hq] at he
  rw [if_pos hq]
  cases hu':(u.all fun x=>le s n x g) with
  | false =>
   rw [hu'] at e
   simp [V0s,V0t,V0u,he,e]
  | true =>
   rw [hu'] at e
   cases hv':(v.all fun x=>le s n x g) with
   | false =>
    rw [hv'] at e'
    simp [V0s,V0t,V0u,he,e,e']
   | true =>
    rw [hv'] at e'
    simp [V0s,V0t,V0u,he,e,e',e2,hj,h,show ¬ (40 < (y1.fty.length:Int)) by omega,show ¬ (40 < y1.fty.length) by omega]
 ·rw [show (y1.fty == y2.fty)=false from beq_eq_false_iff_ne.2 hq] at he
  rw [if_neg hq]
  simp [V0s,V0t,V0u,he]
end
def V18 (t:K01) (i:Nat) (kids:List K04):List (List Int):=(Kjj (t,(i:Int),(match kids with | []=>[] | y :: _=>y.fty))).getD []
structure V19 (s:K00) (ctx:List (List Int)) (t:K01) (kids:List K04) (i:Nat) (k:K01) (y:K04):Prop where
 im:Kmr (⟨s⟩,V18 t i kids ++ ctx,k)=some y
 fa:y.ffault=0
 ty:∀ q ∈ V18 t i kids,TyS s q
 ln:(V18 t i kids).length=Ktz t.fOp i
structure V1a (s:K00) (n:Nat) (ctx:List (List Int)) (t:K01) (x:K03) (y:K04):Prop where
 sp:Kf8 (s,ctx,t)=some x
 im:Kmr (⟨s⟩,ctx,t)=some y
 ty:y.fty=x.fty
 ne:y.fneeds=x.fneeds
 fa:y.ffault=x.ffault
 pa:y.fpath=x.fpath
 pl:x.fpath.length + 1 ≤ tsz t
 bd:x.ffault ≠ 0→x.fty=[]∧x.fneeds=[]
 gd:x.ffault=0→TyS s x.fty∧x.fpath=[]∧∃ ns:List Nat,x.fneeds=Kxw ns∧ns.length=ctx.length∧Kyc n ns
 kd:x.ffault=0→y.fkids.length=t.fKids.length∧∀ (i:Nat) (k:K01),t.fKids[i]?=some k→∃ yk,y.fkids[i]?=some yk∧V19 s ctx t y.fkids i k yk
section
variable {s:K00} {n:Nat} {ctx:List (List Int)} {t:K01}
theorem V1a.bad {f:Int} {p:List Int} (sp:Kf8 (s,ctx,t)=some ⟨[],[],f,p⟩) (im:Kmr (⟨s⟩,ctx,t)=some ⟨[],[],[],f,p⟩) (hf:f ≠ 0) (hp:p.length + 1 ≤ tsz t):∃ x y,V1a s n ctx t x y :=
 ⟨_,_,{ sp:=sp,im:=im,ty:=rfl,ne:=rfl,fa:=rfl,pa:=rfl,pl:=hp,bd:=fun _=>⟨rfl,rfl⟩,gd:=fun h=>absurd h hf,kd:=fun h=>absurd h hf }⟩
theorem V1a.good {q:List Int} {ns:List Nat} {kids:List K04} (sp:Kf8 (s,ctx,t)=some ⟨q,Kxw ns,0,[]⟩) (im:Kmr (⟨s⟩,ctx,t)=some ⟨q,Kxw ns,kids,0,[]⟩) (hp:1 ≤ tsz t) (hq:TyS s q) (hl:ns.length=ctx.length) (hb:Kyc n ns)
  (kl:kids.length=t.fKids.length) (kd:∀ (i:Nat) (k:K01),t.fKids[i]?=some k→∃ yk,kids[i]?=some yk∧V19 s ctx t kids i k yk):∃ x y,V1a s n ctx t x y :=
 ⟨_,_,{ sp:=sp,im:=im,ty:=rfl,ne:=rfl,fa:=rfl,pa:=rfl,pl:=by simpa using hp,bd:=fun h=>absurd rfl h,gd:=fun _=>⟨hq,rfl,ns,rfl,hl,hb⟩,kd:=fun _=>⟨kl,kd⟩ }⟩
theorem V1a.done {q:List Int} {ns:List Nat} {kids:List K04} (sp:Kf8 (s,ctx,t)=Kei (q,Kxw ns)) (im:Kmr (⟨s⟩,ctx,t)=some (if (V0r q ns kids).1=0 then ⟨(V0r q ns kids).2.fty,(V0r q ns kids).2.fneeds,(V0r q ns kids).2.fkids,0,(V0r q ns kids).2.fpath⟩ else ⟨[],[],[],(V0r q ns kids).1,[]⟩)) (hp:1 ≤ tsz t)
  (hq:q.length ≤ 40→TyS s q) (hl:ns.length=ctx.length) (hb:Kyc n ns) (kl:kids.length=t.fKids.length) (kd:∀ (i:Nat) (k:K01),t.fKids[i]?=some k→∃ yk,kids[i]?=some yk∧V19 s ctx t kids i k yk):∃ x y,V1a s n ctx t x y:=by
 unfold Kei Ke1 at sp
 simp only at sp
 unfold V0r at im
 by_cases h:q.length > 40
 ·rw [decide_eq_true (by omega),if_pos rfl,bs] at sp
  rw [if_pos h,if_neg (by simp)] at im
  exact V1a.bad sp im (by decide) (by simpa using hp)
 ·rw [decide_eq_false (by omega),if_neg (by decide)] at sp
  rw [if_neg h,if_pos rfl] at im
  exact V1a.good sp im hp (hq (by omega)) hl hb kl kd
theorem V1b {i:Nat} {k:K01} {x:K03} {y:K04} {c:List (List Int)} (hk:t.fKids[i]?=some k) (h:V1a s n c k x y) (hf:x.ffault=0):Kfa (s,c,t,(i:Int))=some x:=by
 obtain ⟨h1,h2⟩:=List.getElem?_eq_some_iff.1 hk
 rw [Kfa.eq_def]
 simp only
 rw [Kr4 h1,h2,bs,h.sp,bs,if_neg (by simp [hf]),bs]
theorem V1c {i:Nat} {k:K01} {x:K03} {y:K04} {c:List (List Int)} (hk:t.fKids[i]?=some k) (h:V1a s n c k x y) (hz:tsz k ≤ 1000000) (hf:x.ffault ≠ 0):Kfa (s,c,t,(i:Int))=some ⟨[],[],x.ffault,(i:Int) :: x.fpath⟩:=by
 obtain ⟨h1,h2⟩:=List.getElem?_eq_some_iff.1 hk
 have hp:=h.pl
 obtain ⟨q1,q2⟩:=h.bd hf
 rw [Kfa.eq_def]
 simp only
 rw [Kr4 h1,h2,bs,h.sp,bs,if_pos (bne_iff_ne.2 hf),Kun (by simp; omega),bs,bs,q1,q2]
 rfl
variable {out:List K04} {nd us:List (List Int)} {w:Nat} {k:K01} {m:List (List Int)} {x:K03} {y:K04}
theorem V1d (hk:t.fKids[w]?=some k) (hm:V05 t out w=some m) (r:V1a s n (m ++ ctx) k x y) (hz:tsz k ≤ 1000000) (hc:ctx.length + m.length ≤ 1000000) (hf:x.ffault ≠ 0) :
  Kms (⟨s⟩,ctx,t,out,nd,us,(w:Int))=some (.inr ⟨[],[],[],x.ffault,(w:Int) :: x.fpath⟩):=by
 obtain ⟨h1,h2⟩:=List.getElem?_eq_some_iff.1 hk
 have hp:=r.pl
 rw [V07 h1 (by rw [Kr4 h1,h2]) hm hc r.im,V0c (by rw [r.fa]; exact hf) (by rw [r.pa]; omega),r.fa,r.pa]
theorem V1e {f:Int} (hk:t.fKids[w]?=some k) (hm:V05 t out w=some m) (r:V1a s n (m ++ ctx) k x y) (hc:ctx.length + m.length ≤ 1000000) (hf:x.ffault=0) (h:Kk1 (⟨s⟩,t,(w:Int),x.fty)=some f) (hf0:f ≠ 0) :
  Kms (⟨s⟩,ctx,t,out,nd,us,(w:Int))=some (.inr ⟨[],[],[],f,[]⟩):=by
 obtain ⟨h1,h2⟩:=List.getElem?_eq_some_iff.1 hk
 rw [V07 h1 (by rw [Kr4 h1,h2]) hm hc r.im,V0d (by rw [r.fa]; exact hf) (by rw [r.ty]; exact h) hf0]
theorem V1f (hk:t.fKids[w]?=some k) (hm:V05 t out w=some m) (r:V1a s n (m ++ ctx) k x y) (hc:ctx.length + m.length ≤ 1000000) (hf:x.ffault=0) (h:Kk1 (⟨s⟩,t,(w:Int),x.fty)=some 0) (ha:V0b t out w y=some true) :
  Kms (⟨s⟩,ctx,t,out,nd,us,(w:Int))=some (.inr ⟨[],[],[],3,[]⟩):=by
 obtain ⟨h1,h2⟩:=List.getElem?_eq_some_iff.1 hk
 rw [V07 h1 (by rw [Kr4 h1,h2]) hm hc r.im,V0e (by rw [r.fa]; exact hf) (by rw [r.ty]; exact h) ha]
theorem V1g {ns:List Nat} (hk:t.fKids[w]?=some k) (hm:V05 t out w=some m) (r:V1a s n (m ++ ctx) k x y) (hc:ctx.length + m.length ≤ 1000000) (hf:x.ffault=0) (h:Kk1 (⟨s⟩,t,(w:Int),x.fty)=some 0) (ha:V0b t out w y=some false)
  (hn:x.fneeds=Kxw ns) (hl:m.length ≤ ns.length) (h1':out.length ≤ 1000000) (h2':nd.length ≤ 1000000) (h3':us.length ≤ 1000000) (h4':w ≤ 1000000) :
  Kms (⟨s⟩,ctx,t,out,nd,us,(w:Int))=Kms (⟨s⟩,ctx,t,(out ++ [y]),(nd ++ [Kxw (ns.drop m.length)]),(us ++ [Kxw (ns.take m.length)]),((w + 1:Nat):Int)):=by
 obtain ⟨h1,h2⟩:=List.getElem?_eq_some_iff.1 hk
 rw [V07 h1 (by rw [Kr4 h1,h2]) hm hc r.im,V0f (by rw [r.fa]; exact hf) (by rw [r.ty]; exact h) ha (by rw [r.ne]; exact hn) hl h1' h2' h3' h4']
end
theorem V1h {op N:Int} {ty:List Int} {ks:List K01} {i:Nat} {q:List Int} (h9:op ≠ 9) (h:Ktz op (i:Int)=0):Kjj (⟨op,N,ty,ks⟩,(i:Int),q)=some []:=by
 unfold Kjj
 simp only
 rw [if_neg (by simpa using h9),Ku2,bs,h]
 rfl
theorem V1i {N:Int} {ty:List Int} {ks:List K01} {i:Nat} {q:List Int}:Kjj (⟨9,N,ty,ks⟩,(i:Int),q)=some [ty]:=by
 unfold Kjj
 simp only
 rw [if_pos (by decide)]
theorem V1j {s:K00} {N:Int} {ty:List Int} {ks:List K01} {p q:List Int} (h:Kzq s 1 p q):Kjj (⟨5,N,ty,ks⟩,((1:Nat):Int),1 :: (p ++ q))=some [q,p]:=by
 unfold Kjj
 simp only
 rw [if_neg (by decide),Ku2,bs,show Ktz 5 ((1:Nat):Int)=2 from rfl,if_neg (by decide),h.pp,bs,if_pos (by decide)]
 rfl
theorem V1k {s:K00} {N:Int} {ty:List Int} {ks:List K01} {p q:List Int} (h:Kzq s 2 p q):Kjj (⟨8,N,ty,ks⟩,((1:Nat):Int),2 :: (p ++ q))=some [p]:=by
 unfold Kjj
 simp only
 rw [if_neg (by decide),Ku2,bs,show Ktz 8 ((1:Nat):Int)=1 from rfl,if_neg (by decide),h.pp,bs,if_neg (by decide),if_pos (by decide)]
 rfl
theorem V1l {s:K00} {N:Int} {ty:List Int} {ks:List K01} {p q:List Int} (h:Kzq s 2 p q):Kjj (⟨8,N,ty,ks⟩,((2:Nat):Int),2 :: (p ++ q))=some [q]:=by
 unfold Kjj
 simp only
 rw [if_neg (by decide),Ku2,bs,show Ktz 8 ((2:Nat):Int)=1 from rfl,if_neg (by decide),h.pp,bs,if_neg (by decide),if_pos (by decide)]
 rfl
theorem V1m {s:K00} {N c:Int} {ty:List Int} {ks:List K01} {p:List Int} (h:Kzr s c p):Kjj (⟨12,N,ty,ks⟩,((1:Nat):Int),c :: p)=some [p]:=by
 unfold Kjj
 simp only
 rw [if_neg (by decide),Ku2,bs,show Ktz 12 ((1:Nat):Int)=1 from rfl,if_neg (by decide),h.pp,bs,if_neg (by decide),if_neg (by decide)]
theorem V1n {op N:Int} {ty:List Int} {ks:List K01} (h9:op ≠ 9):V05 ⟨op,N,ty,ks⟩ [] 0=some []:=by
 unfold V05
 simp [h9]
theorem V1o {N:Int} {ty:List Int} {ks:List K01}:V05 ⟨9,N,ty,ks⟩ [] 0=some [ty]:=by
 unfold V05
 have:=@V1i N ty ks 0 []
 simp at this ⊢
 rw [this]
theorem V1p {t:K01} {w:Nat} {y0:K04} {l:List K04} {m:List (List Int)} (hw:0 < w) (h:Kjj (t,(w:Int),y0.fty)=some m):V05 t (y0 :: l) w=some m:=by
 unfold V05
 rw [show decide ((w:Int) > 0)=true from decide_eq_true (by omega),if_pos rfl,bs,if_pos rfl,if_pos rfl,V0s,bs,bs,h,bs]
theorem V1q {t:K01} {i:Nat} {y0:K04} {l:List K04} {m:List (List Int)} (h:Kjj (t,(i:Int),y0.fty)=some m):V18 t i (y0 :: l)=m:=by
 unfold V18
 simp only
 rw [h]; rfl
theorem kd1 {s:K00} {ctx:List (List Int)} {op N:Int} {ty:List Int} {k0:K01} {y0:K04} (h0:V19 s ctx ⟨op,N,ty,[k0]⟩ [y0] 0 k0 y0) :
  ∀ (i:Nat) (k:K01),(⟨op,N,ty,[k0]⟩:K01).fKids[i]?=some k→∃ yk,[y0][i]?=some yk∧V19 s ctx ⟨op,N,ty,[k0]⟩ [y0] i k yk:=by
 intro i k hk
 match i,hk with
 | 0,hk=>cases hk; exact ⟨y0,rfl,h0⟩
 | i + 1,hk=>simp at hk
theorem kd2 {s:K00} {ctx:List (List Int)} {op N:Int} {ty:List Int} {k0 k1:K01} {y0 y1:K04} (h0:V19 s ctx ⟨op,N,ty,[k0,k1]⟩ [y0,y1] 0 k0 y0) (h1:V19 s ctx ⟨op,N,ty,[k0,k1]⟩ [y0,y1] 1 k1 y1) :
  ∀ (i:Nat) (k:K01),(⟨op,N,ty,[k0,k1]⟩:K01).fKids[i]?=some k→∃ yk,[y0,y1][i]?=some yk∧V19 s ctx ⟨op,N,ty,[k0,k1]⟩ [y0,y1] i k yk:=by
 intro i k hk
 match i,hk with
 | 0,hk=>cases hk; exact ⟨y0,rfl,h0⟩
 | 1,hk=>cases hk; exact ⟨y1,rfl,h1⟩
 | i + 2,hk=>simp at hk
theorem kd3 {s:K00} {ctx:List (List Int)} {op N:Int} {ty:List Int} {k0 k1 k2:K01} {y0 y1 y2:K04} (h0:V19 s ctx ⟨op,N,ty,[k0,k1,k2]⟩ [y0,y1,y2] 0 k0 y0) (h1:V19 s ctx ⟨op,N,ty,[k0,k1,k2]⟩ [y0,y1,y2] 1 k1 y1) (h2:V19 s ctx ⟨op,N,ty,[k0,k1,k2]⟩ [y0,y1,y2] 2 k2 y2) :
  ∀ (i:Nat) (k:K01),(⟨op,N,ty,[k0,k1,k2]⟩:K01).fKids[i]?=some k→∃ yk,[y0,y1,y2][i]?=some yk∧V19 s ctx ⟨op,N,ty,[k0,k1,k2]⟩ [y0,y1,y2] i k yk:=by
 intro i k hk
 match i,hk with
 | 0,hk=>cases hk; exact ⟨y0,rfl,h0⟩
 | 1,hk=>cases hk; exact ⟨y1,rfl,h1⟩
 | 2,hk=>cases hk; exact ⟨y2,rfl,h2⟩
 | i + 3,hk=>simp at hk
theorem V19.mk' {s:K00} {n:Nat} {ctx m:List (List Int)} {t k:K01} {y0:K04} {l:List K04} {i:Nat} {x:K03} {y:K04} (ha:Kjj (t,(i:Int),y0.fty)=some m) (r:V1a s n (m ++ ctx) k x y) (hf:x.ffault=0) (hm:∀ q ∈ m,TyS s q) (hl:m.length=Ktz t.fOp i):V19 s ctx t (y0 :: l) i k y:=by
 have e:=V1q (l:=l) ha
 exact ⟨by rw [e]; exact r.im,by rw [r.fa]; exact hf,by rw [e]; exact hm,by rw [e]; exact hl⟩
def V1r (s:K00) (n sz:Nat):Prop:=∀ (k:K01) (c:List (List Int)),V00 s c.length k sz→(∀ q ∈ c,TyS s q)→c.length + 2 * tsz k ≤ 1000000→∃ x y,V1a s n c k x y
theorem V1s {X:Option K04} {q:List Int} {ns:List Nat} {kids:List K04} (h:q.length ≤ 40) (im:X=some (if (V0r q ns kids).1=0 then (⟨(V0r q ns kids).2.fty,(V0r q ns kids).2.fneeds,(V0r q ns kids).2.fkids,0,(V0r q ns kids).2.fpath⟩:K04) else ⟨[],[],[],(V0r q ns kids).1,[]⟩)):X=some ⟨q,Kxw ns,kids,0,[]⟩:=by
 rw [im]
 unfold V0r
 simp only
 rw [show (if q.length > 40 then (3:Int) else 0)=0 from if_neg (by omega),if_pos rfl]
section
variable {s:K00} {n:Nat} (hs:Ky1 s n) {ctx:List (List Int)} {N:Int} {ty:List Int} {ks:List K01}
theorem V1t {op:Int} {k0:K01} {l:List K01} {x0:K03} {y0:K04} (h0:op ≠ 0) (h1:op ≠ 1) (h9:op ≠ 9) (hb:ctx.length + 2 * tsz (⟨op,N,ty,k0 :: l⟩:K01) ≤ 1000000) (r0:V1a s n ctx k0 x0 y0) (f0:x0.ffault ≠ 0) :
  ∃ x y,V1a s n ctx ⟨op,N,ty,k0 :: l⟩ x y:=by
 have hz:tsz k0 + 1 ≤ tsz (⟨op,N,ty,k0 :: l⟩:K01):=by rw [tsz,Ktf]; omega
 have e0:Kfa (s,ctx,⟨op,N,ty,k0 :: l⟩,0)=some ⟨[],[],x0.ffault,0 :: x0.fpath⟩:=V1c (i:=0) rfl r0 (by omega) f0
 refine V1a.bad (f:=x0.ffault) (p:=0 :: x0.fpath) ?_ (V0g (by omega) (V1d (m:=[]) rfl (V1n h9) r0 (by omega) (by simp; omega) f0)) f0 (by have:=r0.pl; simp; omega)
 rw [Kf8.eq_def]
 simp [h0,h1,h9,e0,f0]
include hs
theorem V1u {t:K01} (ht:t.fOp=0) (h:tOk (gN s.fSize true) (yN s.fSize true) ctx.length t=true) (hc:∀ q ∈ ctx,TyS s q) (hb:ctx.length + 2 * tsz t ≤ 1000000):∃ x y,V1a s n ctx t x y:=by
 obtain ⟨i,hi,hl,hk⟩:=V03 h ht
 obtain ⟨op,N,ty,ks⟩:=t
 simp only at ht hi hk
 subst ht; subst hi; subst hk
 have hq:ctx[i]?=some ctx[i]:=List.getElem?_eq_getElem hl
 have hy:=hc ctx[i] (List.getElem_mem hl)
 have e1:idx ctx (i:Int)=some ctx[i]:=Kr4 hl
 have hz:=Kyy ctx.length (by omega)
 have e2:idx (Kxw (List.replicate ctx.length 0)) (i:Int)=some (((List.replicate ctx.length (0:Nat))[i]'(by simpa using hl):Nat):Int):=by
  rw [Kr4 (by rw [Kxx]; simpa using hl)]; simp [Kxw]
 have e3:List.set (Kxw (List.replicate ctx.length 0)) i 1=Kxw ((List.replicate ctx.length 0).set i 1):=by unfold Kxw; rw [List.map_set]; rfl
 have hf:=V0v (s:=s) (ty:=ty) (ks:=[]) (zs:=List.replicate ctx.length 0) hq (by simpa using hl) (Kzn hy)
 have im:=V0h (p0:=⟨s⟩) (t:=⟨0,(i:Int),ty,[]⟩) (by omega) (V08 (Nat.le_refl _)) hf
 refine V1a.good (q:=ctx[i]) (ns:=(List.replicate ctx.length 0).set i 1) (kids:=[]) ?_ ?_ (by rw [tsz]; omega) hy (by simp) ?_ rfl (fun i k hk=>by simp at hk)
 ·rw [Kf8.eq_def]
  simp [hz,e1,e2,Kup ctx[i] (by have:=Kzn hy; omega),e3]
 ·exact V1s (Kzn hy) im
 ·intro x hx
  have h1:=Ky3 hs
  rcases List.mem_or_eq_of_mem_set hx with h | rfl
  ·rw [List.eq_of_mem_replicate h]; omega
  ·exact h1
theorem V1v {t:K01} (ht:t.fOp=1) (h:tOk (gN s.fSize true) (yN s.fSize true) ctx.length t=true) (hb:ctx.length + 2 * tsz t ≤ 1000000):∃ x y,V1a s n ctx t x y:=by
 have hk:=V04 h ht
 obtain ⟨op,N,ty,ks⟩:=t
 simp only at ht hk
 subst ht; subst hk
 have hz:=Kyy ctx.length (by omega)
 have hf:=V0w (s:=s) (N:=N) (ty:=ty) (ks:=[]) (ctx:=ctx) (zs:=List.replicate ctx.length 0)
 have im:=V0h (p0:=⟨s⟩) (t:=⟨1,N,ty,[]⟩) (by omega) (V08 (Nat.le_refl _)) hf
 refine V1a.good (q:=[0]) (ns:=List.replicate ctx.length 0) (kids:=[]) ?_ ?_ (by rw [tsz]; omega) Kzt (by simp) ?_ rfl (fun i k hk=>by simp at hk)
 ·rw [Kf8.eq_def]
  simp [hz]
 ·exact V1s (by decide) im
 ·intro x hx
  rw [List.eq_of_mem_replicate hx]
  exact Ky4 hs
theorem V1w {q:List Int} (hq:TyS s q):∃ c r,q=c :: r∧((Kst c).1=0 ↔ c=0)∧(c=0→q=[0]):=by
 rcases Kzw hs hq with rfl | ⟨a,b,rfl,_⟩ | ⟨a,b,rfl,_⟩ | ⟨g,a,b,hg,h15,rfl,_⟩ | ⟨g,a,hg,h15,rfl,_⟩
 ·exact ⟨0,[],rfl,by decide,fun _=>rfl⟩
 ·exact ⟨1,_,rfl,by decide,fun h=>absurd h (by decide)⟩
 ·exact ⟨2,_,rfl,by decide,fun h=>absurd h (by decide)⟩
 ·refine ⟨_,_,rfl,?_,fun h=>by omega⟩
  rcases Ksv (3 + (g:Int)) with h | h | h | h | h | h | h | h <;> first | omega | (obtain ⟨_,e⟩:=h; rw [e]; simp; omega)
 ·refine ⟨_,_,rfl,?_,fun h=>by omega⟩
  rcases Ksv (19 + (g:Int)) with h | h | h | h | h | h | h | h <;> first | omega | (obtain ⟨_,e⟩:=h; rw [e]; simp; omega)
theorem V1x (ih:V1r s n (tsz (⟨6,N,ty,ks⟩:K01))) (h:tOk (gN s.fSize true) (yN s.fSize true) ctx.length ⟨6,N,ty,ks⟩=true) (hc:∀ q ∈ ctx,TyS s q) (hb:ctx.length + 2 * tsz (⟨6,N,ty,ks⟩:K01) ≤ 1000000):∃ x y,V1a s n ctx ⟨6,N,ty,ks⟩ x y:=by
 obtain ⟨k0,rfl,p0⟩:=nd1 h (Nat.le_refl _) rfl
 have hz:=Kxm 6 N ty k0
 have hy:TyS s ty:=V02 h rfl
 have ly:=Kzn hy
 obtain ⟨x0,y0,r0⟩:=ih k0 ctx p0 hc (by omega)
 by_cases f0:x0.ffault=0
 rotate_left
 ·exact V1t (by decide) (by decide) (by decide) hb r0 f0
 obtain ⟨g0,q0,a,na,la,ba⟩:=r0.gd f0
 obtain ⟨c0,t0,ht0,hn0,hz0⟩:=V1w hs g0
 have L0:=Kzn g0
 have e0:Kfa (s,ctx,⟨6,N,ty,[k0]⟩,0)=some x0:=V1b (i:=0) rfl r0 f0
 have o0:=V1g (out:=[]) (nd:=[]) (us:=[]) (w:=0) (t:=⟨6,N,ty,[k0]⟩) (m:=[]) rfl (V1n (by decide)) r0 (by simp; omega) f0 (by rw [ht0]; exact V0k (.inl (by decide))) (V0i (show (6:Int) ≠ 10 by decide)) na (by simp <;> omega) (by simp) (by simp) (by simp) (by simp)
 have hf:=V0x (s:=s) (N:=N) (ty:=ty) (ks:=[k0]) (ctx:=ctx) (us:=[Kxw []]) (z:=Kxw (List.replicate ctx.length 0)) (y0:=y0) (a:=a) (by rw [r0.ty]; omega) (by omega)
 have im:=V0h (p0:=⟨s⟩) (t:=⟨6,N,ty,[k0]⟩) (ctx:=ctx) (by omega) (o0.trans (V08 (Nat.le_refl _))) hf
 rw [r0.ty] at im
 refine V1a.done (q:=2 :: (x0.fty ++ ty)) (ns:=a) (kids:=[y0]) ?_ im (by omega) (fun hl=>Kzx hs g0 hy (.inr (.inl rfl)) hl) la ba rfl (kd1 (V19.mk' (V1h (by decide) rfl) r0 f0 (fun _ h=>by cases h) rfl))
 have hg:=Kz1 2 [x0.fty,ty] (by simp) (by simp; omega)
 simp only [List.flatten_cons,List.flatten_nil,List.append_nil] at hg
 rw [Kf8.eq_def]
 simp [e0,f0,hg,na]
theorem V1y (ih:V1r s n (tsz (⟨7,N,ty,ks⟩:K01))) (h:tOk (gN s.fSize true) (yN s.fSize true) ctx.length ⟨7,N,ty,ks⟩=true) (hc:∀ q ∈ ctx,TyS s q) (hb:ctx.length + 2 * tsz (⟨7,N,ty,ks⟩:K01) ≤ 1000000):∃ x y,V1a s n ctx ⟨7,N,ty,ks⟩ x y:=by
 obtain ⟨k0,rfl,p0⟩:=nd1 h (Nat.le_refl _) rfl
 have hz:=Kxm 7 N ty k0
 have hy:TyS s ty:=V02 h rfl
 have ly:=Kzn hy
 obtain ⟨x0,y0,r0⟩:=ih k0 ctx p0 hc (by omega)
 by_cases f0:x0.ffault=0
 rotate_left
 ·exact V1t (by decide) (by decide) (by decide) hb r0 f0
 obtain ⟨g0,q0,a,na,la,ba⟩:=r0.gd f0
 obtain ⟨c0,t0,ht0,hn0,hz0⟩:=V1w hs g0
 have L0:=Kzn g0
 have e0:Kfa (s,ctx,⟨7,N,ty,[k0]⟩,0)=some x0:=V1b (i:=0) rfl r0 f0
 have o0:=V1g (out:=[]) (nd:=[]) (us:=[]) (w:=0) (t:=⟨7,N,ty,[k0]⟩) (m:=[]) rfl (V1n (by decide)) r0 (by simp; omega) f0 (by rw [ht0]; exact V0k (.inl (by decide))) (V0i (show (7:Int) ≠ 10 by decide)) na (by simp <;> omega) (by simp) (by simp) (by simp) (by simp)
 have hf:=V0y (s:=s) (N:=N) (ty:=ty) (ks:=[k0]) (ctx:=ctx) (us:=[Kxw []]) (z:=Kxw (List.replicate ctx.length 0)) (y0:=y0) (a:=a) (by rw [r0.ty]; omega) (by omega)
 have im:=V0h (p0:=⟨s⟩) (t:=⟨7,N,ty,[k0]⟩) (ctx:=ctx) (by omega) (o0.trans (V08 (Nat.le_refl _))) hf
 rw [r0.ty] at im
 refine V1a.done (q:=2 :: (ty ++ x0.fty)) (ns:=a) (kids:=[y0]) ?_ im (by omega) (fun hl=>Kzx hs hy g0 (.inr (.inl rfl)) hl) la ba rfl (kd1 (V19.mk' (V1h (by decide) rfl) r0 f0 (fun _ h=>by cases h) rfl))
 have hg:=Kz1 2 [ty,x0.fty] (by simp) (by simp; omega)
 simp only [List.flatten_cons,List.flatten_nil,List.append_nil] at hg
 rw [Kf8.eq_def]
 simp [e0,f0,hg,na]
theorem V1z (ih:V1r s n (tsz (⟨11,N,ty,ks⟩:K01))) (h:tOk (gN s.fSize true) (yN s.fSize true) ctx.length ⟨11,N,ty,ks⟩=true) (hc:∀ q ∈ ctx,TyS s q) (hb:ctx.length + 2 * tsz (⟨11,N,ty,ks⟩:K01) ≤ 1000000):∃ x y,V1a s n ctx ⟨11,N,ty,ks⟩ x y:=by
 obtain ⟨k0,rfl,p0⟩:=nd1 h (Nat.le_refl _) rfl
 have hz:=Kxm 11 N ty k0
 obtain ⟨g,hN,hg'⟩:=Kzz hs (V01 h rfl)
 simp only at hN
 subst hN
 obtain ⟨x0,y0,r0⟩:=ih k0 ctx p0 hc (by omega)
 by_cases f0:x0.ffault=0
 rotate_left
 ·exact V1t (by decide) (by decide) (by decide) hb r0 f0
 obtain ⟨g0,q0,a,na,la,ba⟩:=r0.gd f0
 obtain ⟨c0,t0,ht0,hn0,hz0⟩:=V1w hs g0
 have L0:=Kzn g0
 have e0:Kfa (s,ctx,⟨11,(g:Int),ty,[k0]⟩,0)=some x0:=V1b (i:=0) rfl r0 f0
 have o0:=V1g (out:=[]) (nd:=[]) (us:=[]) (w:=0) (t:=⟨11,(g:Int),ty,[k0]⟩) (m:=[]) rfl (V1n (by decide)) r0 (by simp; omega) f0 (by rw [ht0]; exact V0k (.inl (by decide))) (V0i (show (11:Int) ≠ 10 by decide)) na (by simp <;> omega) (by simp) (by simp) (by simp) (by simp)
 have hf:=V13 (ty:=ty) (ks:=[k0]) (ctx:=ctx) (us:=[Kxw []]) (z:=Kxw (List.replicate ctx.length 0)) (y0:=y0) (a:=a) hs hg' ba (by omega) (by rw [r0.ty]; omega)
 have im:=V0h (p0:=⟨s⟩) (t:=⟨11,(g:Int),ty,[k0]⟩) (ctx:=ctx) (by omega) (o0.trans (V08 (Nat.le_refl _))) hf
 rw [r0.ty] at im
 have hn:=hs.tab.hi
 refine V1a.done (q:=(19 + (g:Int)) :: x0.fty) (ns:=Kya s n g a) (kids:=[y0]) ?_ im (by omega) (fun hl=>Kzy hs hg' g0 hl) (by unfold Kya; rw [List.length_map]; exact la) (Kyg hs hg' ba) rfl (kd1 (V19.mk' (V1h (by decide) rfl) r0 f0 (fun _ h=>by cases h) rfl))
 have hg:=Kz1 (19 + (g:Int)) [x0.fty] (by simp) (by simp; omega)
 simp only [List.flatten_cons,List.flatten_nil,List.append_nil] at hg
 have hsc:=Kyg hs hg' ba
 have hz0:=Kyj hs hsc
 rw [show (Kya s n g a).length=ctx.length by unfold Kya; rw [List.length_map]; exact la] at hz0
 have hsum:=Kyl hs g hg' (List.replicate ctx.length 0) a (fun x hx=>by rw [List.eq_of_mem_replicate hx]; exact Ky4 hs) ba (by simp; omega) (by simp [la])
 rw [hz0] at hsum
 have hw:wr (19 + (g:Int))=19 + (g:Int):=Kr3 (by omega) (by omega)
 rw [Kf8.eq_def]
 simp [e0,f0,hg,na,hw,Kyy ctx.length (by omega),hsum]
theorem V20 (ih:V1r s n (tsz (⟨9,N,ty,ks⟩:K01))) (h:tOk (gN s.fSize true) (yN s.fSize true) ctx.length ⟨9,N,ty,ks⟩=true) (hc:∀ q ∈ ctx,TyS s q) (hb:ctx.length + 2 * tsz (⟨9,N,ty,ks⟩:K01) ≤ 1000000):∃ x y,V1a s n ctx ⟨9,N,ty,ks⟩ x y:=by
 obtain ⟨k0,rfl,p0⟩:=nd1 h (Nat.le_refl _) rfl
 have hz:=Kxm 9 N ty k0
 obtain ⟨g,hN,hg'⟩:=Kzz hs (V01 h rfl)
 simp only at hN
 subst hN
 have hy:TyS s ty:=V02 h rfl
 have ly:=Kzn hy
 have hn:=hs.tab.hi
 have p0':V00 s ([ty] ++ ctx).length k0 (tsz (⟨9,(g:Int),ty,[k0]⟩:K01)):=by
  have e:([ty] ++ ctx).length=ctx.length + Ktz 9 0:=by simp [Ktz]
  rw [e]; exact p0
 obtain ⟨x0,y0,r0⟩:=ih k0 ([ty] ++ ctx) p0' (fun q hq=>by rcases List.mem_cons.1 hq with rfl | hq; exact hy; exact hc q hq) (by simp; omega)
 have hw9:=Kyz ctx [ty] (by simp; omega)
 by_cases f0:x0.ffault=0
 rotate_left
 ·have e0:Kfa (s,ty :: ctx,⟨9,(g:Int),ty,[k0]⟩,0)=some ⟨[],[],x0.ffault,0 :: x0.fpath⟩:=V1c (i:=0) rfl r0 (by omega) f0
  refine V1a.bad (f:=x0.ffault) (p:=0 :: x0.fpath) ?_ (V0g (by omega) (V1d (m:=[ty]) rfl V1o r0 (by omega) (by simp; omega) f0)) f0 (by have:=r0.pl; simp; omega)
  rw [Kf8.eq_def]
  simp [hw9,e0,f0]
 obtain ⟨g0,q0,a,na,la,ba⟩:=r0.gd f0
 obtain ⟨c0,t0,ht0,hn0,hz0⟩:=V1w hs g0
 have L0:=Kzn g0
 have e0:Kfa (s,ty :: ctx,⟨9,(g:Int),ty,[k0]⟩,0)=some x0:=V1b (i:=0) rfl r0 f0
 have la':a.length=ctx.length + 1:=by rw [la]; simp
 obtain ⟨u0,a',rfl⟩:∃ u0 a',a=u0 :: a':=by cases a with | nil=>simp at la' | cons u a'=>exact ⟨u,a',rfl⟩
 obtain ⟨hu0,ba'⟩:=Kyd ba
 have o0:=V1g (out:=[]) (nd:=[]) (us:=[]) (w:=0) (t:=⟨9,(g:Int),ty,[k0]⟩) (m:=[ty]) rfl V1o r0 (by simp; omega) f0 (by rw [ht0]; exact V0k (.inl (by decide))) (V0i (show (9:Int) ≠ 10 by decide)) na (by simp <;> omega) (by simp) (by simp) (by simp) (by simp)
 simp only [List.length_cons,List.length_nil,Nat.zero_add,List.drop_succ_cons,List.drop_zero,List.take_succ_cons,List.take_zero,List.nil_append] at o0
 have hf:=V12 (ty:=ty) (ks:=[k0]) (ctx:=ctx) (z:=Kxw (List.replicate ctx.length 0)) (y0:=y0) (a:=a') (u:=[u0]) hs hg' (fun x hx=>by simp at hx; rw [hx]; exact hu0) (by simp) (by rw [r0.ty]; omega) (by omega)
 have hl0:=o0.trans (V08 (Nat.le_refl _))
 have hle:=sLe hs.tab hu0 hg'
 have hw:wr (3 + (g:Int))=3 + (g:Int):=Kr3 (by omega) (by omega)
 have hi0:idx x0.fneeds 0=some (u0:Int):=by rw [na]; rfl
 simp only [List.all_cons,List.all_nil,Bool.and_true] at hf
 cases hl:le s n u0 g with
 | false =>
  rw [hl,if_neg (by decide)] at hf
  refine V1a.bad (f:=9) (p:=[]) ?_ (V0h (by omega) hl0 hf) (by decide) (by simp; omega)
  rw [Kf8.eq_def]
  simp [hw9,e0,f0,hi0,hle,hl,Ke1]
 | true =>
  rw [hl,if_pos rfl] at hf
  have im:=V0h (by omega) hl0 hf
  rw [r0.ty] at im
  refine V1a.done (q:=(3 + (g:Int)) :: (ty ++ x0.fty)) (ns:=a') (kids:=[y0]) ?_ im (by omega) (fun hl=>Kzx hs hy g0 (.inr (.inr ⟨g,hg',rfl⟩)) hl) (by simpa using la') ba' rfl (kd1 (V19.mk' (m:=[ty]) V1i r0 f0 (fun q hq=>by simp at hq; rw [hq]; exact hy) rfl))
  have hg:=Kz1 (3 + (g:Int)) [ty,x0.fty] (by simp) (by simp; omega)
  simp only [List.flatten_cons,List.flatten_nil,List.append_nil] at hg
  have hcut:cut x0.fneeds (some 1) none none=some (Kxw a'):=by rw [na]; exact Kx3 _ _
  rw [Kf8.eq_def]
  simp [hw9,e0,f0,hi0,hle,hl,hg,hw,hcut,Kup (Kxw a') (by rw [Kxx]; simp at la'; omega)]
theorem V21 (ih:V1r s n (tsz (⟨4,N,ty,ks⟩:K01))) (h:tOk (gN s.fSize true) (yN s.fSize true) ctx.length ⟨4,N,ty,ks⟩=true) (hc:∀ q ∈ ctx,TyS s q) (hb:ctx.length + 2 * tsz (⟨4,N,ty,ks⟩:K01) ≤ 1000000):∃ x y,V1a s n ctx ⟨4,N,ty,ks⟩ x y:=by
 obtain ⟨k0,k1,rfl,p0,p1⟩:=nd2 h (Nat.le_refl _) rfl
 have hz:=Kxn 4 N ty k0 k1
 obtain ⟨x0,y0,r0⟩:=ih k0 ctx p0 hc (by omega)
 obtain ⟨x1,y1,r1⟩:=ih k1 ctx p1 hc (by omega)
 by_cases f0:x0.ffault=0
 rotate_left
 ·exact V1t (by decide) (by decide) (by decide) hb r0 f0
 obtain ⟨g0,q0,a,na,la,ba⟩:=r0.gd f0
 obtain ⟨c0,t0,ht0,hn0,hz0⟩:=V1w hs g0
 have L0:=Kzn g0
 have e0:Kfa (s,ctx,⟨4,N,ty,[k0,k1]⟩,0)=some x0:=V1b (i:=0) rfl r0 f0
 have o0:=V1g (out:=[]) (nd:=[]) (us:=[]) (w:=0) (t:=⟨4,N,ty,[k0,k1]⟩) (m:=[]) rfl (V1n (by decide)) r0 (by simp; omega) f0 (by rw [ht0]; exact V0k (.inl (by decide))) (V0i (show (4:Int) ≠ 10 by decide)) na (by simp <;> omega) (by simp) (by simp) (by simp) (by simp)
 have m1:V05 ⟨4,N,ty,[k0,k1]⟩ [y0] 1=some []:=V1p (by decide) (V1h (by decide) rfl)
 by_cases f1:x1.ffault=0
 rotate_left
 ·have e1:Kfa (s,ctx,⟨4,N,ty,[k0,k1]⟩,1)=some ⟨[],[],x1.ffault,1 :: x1.fpath⟩:=V1c (i:=1) rfl r1 (by omega) f1
  refine V1a.bad (f:=x1.ffault) (p:=1 :: x1.fpath) ?_ (V0g (by omega) (o0.trans (V1d (m:=[]) rfl m1 r1 (by omega) (by simp; omega) f1))) f1 (by have:=r1.pl; simp; omega)
  rw [Kf8.eq_def]
  simp [e0,f0,e1,f1]
 obtain ⟨g1,q1,b,nb,lb,bb⟩:=r1.gd f1
 obtain ⟨c1,t1,ht1,hn1,hz1⟩:=V1w hs g1
 have L1:=Kzn g1
 have e1:Kfa (s,ctx,⟨4,N,ty,[k0,k1]⟩,1)=some x1:=V1b (i:=1) rfl r1 f1
 have o1:=V1g (out:=[y0]) (nd:=[Kxw a]) (us:=[Kxw []]) (w:=1) (t:=⟨4,N,ty,[k0,k1]⟩) (m:=[]) rfl m1 r1 (by simp; omega) f1 (by rw [ht1]; exact V0k (.inl (by decide))) (V0i (show (4:Int) ≠ 10 by decide)) nb (by simp <;> omega) (by simp) (by simp) (by simp) (by simp)
 have hf:=V11 (N:=N) (ty:=ty) (ks:=[k0,k1]) (ctx:=ctx) (us:=[Kxw [],Kxw []]) (z:=Kxw (List.replicate ctx.length 0)) (y0:=y0) (y1:=y1) hs ba bb (by omega) (by omega) (by rw [r0.ty]; omega) (by rw [r1.ty]; omega)
 have im:=V0h (p0:=⟨s⟩) (t:=⟨4,N,ty,[k0,k1]⟩) (ctx:=ctx) (by omega) (o0.trans (o1.trans (V08 (Nat.le_refl _)))) hf
 rw [r0.ty,r1.ty] at im
 refine V1a.done (q:=1 :: (x0.fty ++ x1.fty)) (ns:=Ky9 s n a b) (kids:=[y0,y1]) ?_ im (by omega) (fun hl=>Kzx hs g0 g1 (.inl rfl) hl) (by unfold Ky9; rw [List.length_zipWith]; omega) (Kyf hs ba bb) rfl (kd2 (V19.mk' (V1h (by decide) rfl) r0 f0 (fun _ h=>by cases h) rfl) (V19.mk' (V1h (by decide) rfl) r1 f1 (fun _ h=>by cases h) rfl))
 have hg:=Kz1 1 [x0.fty,x1.fty] (by simp) (by simp; omega)
 simp only [List.flatten_cons,List.flatten_nil,List.append_nil] at hg
 rw [Kf8.eq_def]
 simp [e0,f0,e1,f1,hg,na,nb,Kym hs a b ba bb (by omega) (by omega)]
theorem V22 (ih:V1r s n (tsz (⟨2,N,ty,ks⟩:K01))) (h:tOk (gN s.fSize true) (yN s.fSize true) ctx.length ⟨2,N,ty,ks⟩=true) (hc:∀ q ∈ ctx,TyS s q) (hb:ctx.length + 2 * tsz (⟨2,N,ty,ks⟩:K01) ≤ 1000000):∃ x y,V1a s n ctx ⟨2,N,ty,ks⟩ x y:=by
 obtain ⟨k0,k1,rfl,p0,p1⟩:=nd2 h (Nat.le_refl _) rfl
 have hz:=Kxn 2 N ty k0 k1
 obtain ⟨x0,y0,r0⟩:=ih k0 ctx p0 hc (by omega)
 obtain ⟨x1,y1,r1⟩:=ih k1 ctx p1 hc (by omega)
 by_cases f0:x0.ffault=0
 rotate_left
 ·exact V1t (by decide) (by decide) (by decide) hb r0 f0
 obtain ⟨g0,q0,a,na,la,ba⟩:=r0.gd f0
 obtain ⟨c0,t0,ht0,hn0,hz0⟩:=V1w hs g0
 have L0:=Kzn g0
 have e0:Kfa (s,ctx,⟨2,N,ty,[k0,k1]⟩,0)=some x0:=V1b (i:=0) rfl r0 f0
 have i0:idx x0.fty 0=some c0:=by rw [ht0]; rfl
 by_cases z0:c0=0
 rotate_left
 ·refine V1a.bad (f:=2) (p:=[]) ?_ (V0g (by omega) (V1e (m:=[]) rfl (V1n (by decide)) r0 (by simp; omega) f0 (by rw [ht0,V0l,if_neg (by rw [hn0]; exact z0)]) (by decide))) (by decide) (by simp; omega)
  rw [Kf8.eq_def]
  simp [e0,f0,i0,z0,Ke1]
 have u0:=hz0 z0
 have s0:(Kst c0).1=0:=hn0.2 z0
 have o0:=V1g (out:=[]) (nd:=[]) (us:=[]) (w:=0) (t:=⟨2,N,ty,[k0,k1]⟩) (m:=[]) rfl (V1n (by decide)) r0 (by simp; omega) f0 (by rw [ht0,V0l,if_pos s0]) (V0i (show (2:Int) ≠ 10 by decide)) na (by simp <;> omega) (by simp) (by simp) (by simp) (by simp)
 have m1:V05 ⟨2,N,ty,[k0,k1]⟩ [y0] 1=some []:=V1p (by decide) (V1h (by decide) rfl)
 by_cases f1:x1.ffault=0
 rotate_left
 ·have e1:Kfa (s,ctx,⟨2,N,ty,[k0,k1]⟩,1)=some ⟨[],[],x1.ffault,1 :: x1.fpath⟩:=V1c (i:=1) rfl r1 (by omega) f1
  refine V1a.bad (f:=x1.ffault) (p:=1 :: x1.fpath) ?_ (V0g (by omega) (o0.trans (V1d (m:=[]) rfl m1 r1 (by omega) (by simp; omega) f1))) f1 (by have:=r1.pl; simp; omega)
  rw [Kf8.eq_def]
  simp [e0,f0,i0,z0,Kfb.eq_def,e1,f1]
 obtain ⟨g1,q1,b,nb,lb,bb⟩:=r1.gd f1
 obtain ⟨c1,t1,ht1,hn1,hz1⟩:=V1w hs g1
 have L1:=Kzn g1
 have e1:Kfa (s,ctx,⟨2,N,ty,[k0,k1]⟩,1)=some x1:=V1b (i:=1) rfl r1 f1
 have i1:idx x1.fty 0=some c1:=by rw [ht1]; rfl
 by_cases z1:c1=0
 rotate_left
 ·refine V1a.bad (f:=2) (p:=[]) ?_ (V0g (by omega) (o0.trans (V1e (m:=[]) rfl m1 r1 (by simp; omega) f1 (by rw [ht1,V0l,if_neg (by rw [hn1]; exact z1)]) (by decide)))) (by decide) (by simp; omega)
  rw [Kf8.eq_def]
  simp [e0,f0,i0,z0,e1,f1,i1,z1,Ke1,Kfb.eq_def]
 have u1:=hz1 z1
 have s1:(Kst c1).1=0:=hn1.2 z1
 have o1:=V1g (out:=[y0]) (nd:=[Kxw a]) (us:=[Kxw []]) (w:=1) (t:=⟨2,N,ty,[k0,k1]⟩) (m:=[]) rfl m1 r1 (by simp; omega) f1 (by rw [ht1,V0l,if_pos s1]) (V0i (show (2:Int) ≠ 10 by decide)) nb (by simp <;> omega) (by simp) (by simp) (by simp) (by simp)
 have hf:=V0z (N:=N) (ty:=ty) (ks:=[k0,k1]) (ctx:=ctx) (us:=[Kxw [],Kxw []]) (z:=Kxw (List.replicate ctx.length 0)) (y0:=y0) (y1:=y1) hs ba bb (by omega) (by omega)
 have im:=V0h (p0:=⟨s⟩) (t:=⟨2,N,ty,[k0,k1]⟩) (ctx:=ctx) (by omega) (o0.trans (o1.trans (V08 (Nat.le_refl _)))) hf
 replace im:=V1s (q:=[0]) (ns:=Ky9 s n a b) (kids:=[y0,y1]) (by decide) im
 refine V1a.good (q:=[0]) (ns:=Ky9 s n a b) (kids:=[y0,y1]) ?_ im (by omega) Kzt (by unfold Ky9; rw [List.length_zipWith]; omega) (Kyf hs ba bb) rfl (kd2 (V19.mk' (V1h (by decide) rfl) r0 f0 (fun _ h=>by cases h) rfl) (V19.mk' (V1h (by decide) rfl) r1 f1 (fun _ h=>by cases h) rfl))
 rw [Kf8.eq_def]
 simp [e0,f0,i0,z0,e1,f1,i1,z1,na,nb,u1,V0s,Kym hs a b ba bb (by omega) (by omega),Kfb.eq_def]
theorem V23 (ih:V1r s n (tsz (⟨3,N,ty,ks⟩:K01))) (h:tOk (gN s.fSize true) (yN s.fSize true) ctx.length ⟨3,N,ty,ks⟩=true) (hc:∀ q ∈ ctx,TyS s q) (hb:ctx.length + 2 * tsz (⟨3,N,ty,ks⟩:K01) ≤ 1000000):∃ x y,V1a s n ctx ⟨3,N,ty,ks⟩ x y:=by
 obtain ⟨k0,k1,k2,rfl,p0,p1,p2⟩:=nd3 h (Nat.le_refl _) rfl
 have hz:=Kxo 3 N ty k0 k1 k2
 obtain ⟨x0,y0,r0⟩:=ih k0 ctx p0 hc (by omega)
 obtain ⟨x1,y1,r1⟩:=ih k1 ctx p1 hc (by omega)
 obtain ⟨x2,y2,r2⟩:=ih k2 ctx p2 hc (by omega)
 by_cases f0:x0.ffault=0
 rotate_left
 ·exact V1t (by decide) (by decide) (by decide) hb r0 f0
 obtain ⟨g0,q0,a,na,la,ba⟩:=r0.gd f0
 obtain ⟨c0,t0,ht0,hn0,hz0⟩:=V1w hs g0
 have L0:=Kzn g0
 have e0:Kfa (s,ctx,⟨3,N,ty,[k0,k1,k2]⟩,0)=some x0:=V1b (i:=0) rfl r0 f0
 have i0:idx x0.fty 0=some c0:=by rw [ht0]; rfl
 by_cases z0:c0=0
 rotate_left
 ·refine V1a.bad (f:=2) (p:=[]) ?_ (V0g (by omega) (V1e (m:=[]) rfl (V1n (by decide)) r0 (by simp; omega) f0 (by rw [ht0,V0m,if_neg (by rw [hn0]; exact z0)]) (by decide))) (by decide) (by simp; omega)
  rw [Kf8.eq_def]
  simp [e0,f0,i0,z0,Ke1]
 have u0:=hz0 z0
 have s0:(Kst c0).1=0:=hn0.2 z0
 have o0:=V1g (out:=[]) (nd:=[]) (us:=[]) (w:=0) (t:=⟨3,N,ty,[k0,k1,k2]⟩) (m:=[]) rfl (V1n (by decide)) r0 (by simp; omega) f0 (by rw [ht0,V0m,if_pos s0]) (V0i (show (3:Int) ≠ 10 by decide)) na (by simp <;> omega) (by simp) (by simp) (by simp) (by simp)
 have m1:V05 ⟨3,N,ty,[k0,k1,k2]⟩ [y0] 1=some []:=V1p (by decide) (V1h (by decide) rfl)
 by_cases f1:x1.ffault=0
 rotate_left
 ·have e1:Kfa (s,ctx,⟨3,N,ty,[k0,k1,k2]⟩,1)=some ⟨[],[],x1.ffault,1 :: x1.fpath⟩:=V1c (i:=1) rfl r1 (by omega) f1
  refine V1a.bad (f:=x1.ffault) (p:=1 :: x1.fpath) ?_ (V0g (by omega) (o0.trans (V1d (m:=[]) rfl m1 r1 (by omega) (by simp; omega) f1))) f1 (by have:=r1.pl; simp; omega)
  rw [Kf8.eq_def]
  simp [e0,f0,i0,z0,Kfb.eq_def,e1,f1]
 obtain ⟨g1,q1,b,nb,lb,bb⟩:=r1.gd f1
 obtain ⟨c1,t1,ht1,hn1,hz1⟩:=V1w hs g1
 have L1:=Kzn g1
 have e1:Kfa (s,ctx,⟨3,N,ty,[k0,k1,k2]⟩,1)=some x1:=V1b (i:=1) rfl r1 f1
 have o1:=V1g (out:=[y0]) (nd:=[Kxw a]) (us:=[Kxw []]) (w:=1) (t:=⟨3,N,ty,[k0,k1,k2]⟩) (m:=[]) rfl m1 r1 (by simp; omega) f1 (by rw [ht1]; exact V0k (.inr (by decide))) (V0i (show (3:Int) ≠ 10 by decide)) nb (by simp <;> omega) (by simp) (by simp) (by simp) (by simp)
 have m2:V05 ⟨3,N,ty,[k0,k1,k2]⟩ [y0,y1] 2=some []:=V1p (by decide) (V1h (by decide) rfl)
 by_cases f2:x2.ffault=0
 rotate_left
 ·have e2:Kfa (s,ctx,⟨3,N,ty,[k0,k1,k2]⟩,2)=some ⟨[],[],x2.ffault,2 :: x2.fpath⟩:=V1c (i:=2) rfl r2 (by omega) f2
  refine V1a.bad (f:=x2.ffault) (p:=2 :: x2.fpath) ?_ (V0g (by omega) (o0.trans (o1.trans (V1d (m:=[]) rfl m2 r2 (by omega) (by simp; omega) f2)))) f2 (by have:=r2.pl; simp; omega)
  rw [Kf8.eq_def]
  simp [e0,f0,i0,z0,e1,f1,Kfb.eq_def,e2,f2]
 obtain ⟨g2,q2,d,nd,ld,bd⟩:=r2.gd f2
 obtain ⟨c2,t2,ht2,hn2,hz2⟩:=V1w hs g2
 have L2:=Kzn g2
 have e2:Kfa (s,ctx,⟨3,N,ty,[k0,k1,k2]⟩,2)=some x2:=V1b (i:=2) rfl r2 f2
 have o2:=V1g (out:=[y0,y1]) (nd:=[Kxw a,Kxw b]) (us:=[Kxw [],Kxw []]) (w:=2) (t:=⟨3,N,ty,[k0,k1,k2]⟩) (m:=[]) rfl m2 r2 (by simp; omega) f2 (by rw [ht2]; exact V0k (.inr (by decide))) (V0i (show (3:Int) ≠ 10 by decide)) nd (by simp <;> omega) (by simp) (by simp) (by simp) (by simp)
 have hf:=V10 (N:=N) (ty:=ty) (ks:=[k0,k1,k2]) (ctx:=ctx) (us:=[Kxw [],Kxw [],Kxw []]) (z:=Kxw (List.replicate ctx.length 0)) (y0:=y0) (y1:=y1) (y2:=y2) hs ba bb bd (by omega) (by omega) (by omega) (by rw [r2.ty]; omega) (by rw [r1.ty]; omega)
 have hl0:=o0.trans (o1.trans (o2.trans (V08 (Nat.le_refl _))))
 
 have hsm:=Kxe x1.fty x2.fty (by omega)
 have lj:(Kyb s n b d).length=ctx.length:=by unfold Kyb; rw [List.length_zipWith]; omega
 rw [r1.ty,r2.ty] at hf
 by_cases hq:x1.fty=x2.fty
 ·rw [if_pos hq] at hf
  have im:=V0h (by omega) hl0 hf
  replace im:=V1s (q:=x1.fty) (ns:=Ky9 s n a (Kyb s n b d)) (kids:=[y0,y1,y2]) (by omega) im
  refine V1a.good (q:=x1.fty) (ns:=Ky9 s n a (Kyb s n b d)) (kids:=[y0,y1,y2]) ?_ im (by omega) g1 (by unfold Ky9; rw [List.length_zipWith]; omega) (Kyf hs ba (Kyh hs bb bd)) rfl (kd3 (V19.mk' (V1h (by decide) rfl) r0 f0 (fun _ h=>by cases h) rfl) (V19.mk' (V1h (by decide) rfl) r1 f1 (fun _ h=>by cases h) rfl) (V19.mk' (V1h (by decide) rfl) r2 f2 (fun _ h=>by cases h) rfl))
  rw [show (x1.fty == x2.fty)=true from beq_iff_eq.2 hq] at hsm
  rw [Kf8.eq_def]
  simp [e0,f0,i0,z0,e1,f1,e2,f2,hsm,na,nb,nd,Kyo hs b d bb bd (by omega) (by omega),Kym hs a (Kyb s n b d) ba (Kyh hs bb bd) (by omega) (by omega),Kfb.eq_def]
 ·rw [if_neg hq] at hf
  refine V1a.bad (f:=3) (p:=[]) ?_ (V0h (by omega) hl0 hf) (by decide) (by simp; omega)
  rw [show (x1.fty == x2.fty)=false from beq_eq_false_iff_ne.2 hq] at hsm
  rw [Kf8.eq_def]
  simp [e0,f0,i0,z0,e1,f1,e2,f2,hsm,Kfb.eq_def,Ke1]
end
end Go.Am
