/- Plain laws of the printed functions. -/
import Derived.Test.YtmcpomoofkjfcaaGreatPSV0
set_option linter.unusedSimpArgs false
set_option linter.unusedVariables false
namespace Go.Am
def Kxk (l:List Nat):List Int:=l.map fun x:Nat=>(x:Int)
theorem Kxl (l:List Nat):(Kxk l).length=l.length:=List.length_map ..
theorem Kxm (l:List Nat) (i:Nat):(Kxk l).drop i=Kxk (l.drop i):=(List.map_drop ..).symm
theorem Kxn (l:List Nat) (i:Nat):(Kxk l).take i=Kxk (l.take i):=(List.map_take ..).symm
theorem Kxo {l r:List Nat} {x i:Nat} (h:l.drop i=x :: r):i < l.length∧idx (Kxk l) (i:Int)=some (x:Int)∧l.drop (i + 1)=r:=by
 have h2:(Kxk l).drop i=(x:Int) :: Kxk r:=by rw [Kxm,h]; rfl
 obtain ⟨q1,q2,q3⟩:=Kse h2
 rw [Kxl] at q1
 refine ⟨q1,q2,?_⟩
 rw [← List.drop_drop,h]
 rfl
structure Kxp (s:K00) (n:Nat):Prop where
 tab:Tab s n
 one:∀ a,a < n→Krr s n a=true
 two:∀ a b,a < n→b < n→Ks4 s n a b=true
theorem Kxq {s:K00} (h:Kuu s=true):Kxp s s.fSize.toNat:=by
 have ht:=Kuv h
 unfold Kuu at h
 simp only [Bool.and_eq_true] at h
 have hm:=h.2
 unfold Ks7 at hm
 rw [List.all_eq_true] at hm
 refine ⟨ht,fun a ha=>?_,fun a b ha hb=>?_⟩
 ·have:=hm a (by rw [List.mem_range'_1]; omega)
  simp only [Bool.and_eq_true] at this
  exact this.1
 ·have:=hm a (by rw [List.mem_range'_1]; omega)
  simp only [Bool.and_eq_true,List.all_eq_true] at this
  exact (this.2 b (by rw [List.mem_range'_1]; omega)).1
section
variable {s:K00} {n:Nat} (hs:Kxp s n)
include hs
theorem Kxr:1 < n:=by have:=hs.tab.lo; omega
theorem Kxs:0 < n:=by have:=hs.tab.lo; omega
theorem Kxt {a:Nat} (ha:a < n):pl s n 0 a=a:=by
 have:=hs.one a ha
 simp only [Krr,Bool.and_eq_true,beq_iff_eq] at this
 exact this.1.1.1.1.1
theorem Kxu {a:Nat} (ha:a < n):ti s n 1 a=a:=by
 have:=hs.one a ha
 simp only [Krr,Bool.and_eq_true,beq_iff_eq] at this
 exact this.1.1.1.1.2
def Kxv (s:K00) (n a b:Nat):Nat:=(Krx s n a b).toNat
theorem Kxw {a b:Nat} (ha:a < n) (hb:b < n):Krx s n a b=((Kxv s n a b:Nat):Int)∧Kxv s n a b < n:=by
 have h:=hs.two a b ha hb
 simp only [Ks4,Bool.and_eq_true,decide_eq_true_eq] at h
 have h0:=h.2
 unfold Kxv
 refine ⟨by omega,?_⟩
 unfold Krx at h0 ⊢
 cases hf:(List.range' 0 n).find? (jok s n a b) with
 | none=>rw [hf] at h0; exact absurd h0 (by decide)
 | some g =>
  have:=List.mem_of_find?_eq_some hf
  rw [List.mem_range'_1] at this
  simp only [Int.toNat_natCast]
  omega
end
def Kxx (s:K00) (n:Nat) (a b:List Nat):List Nat:=List.zipWith (pl s n) a b
def Kxy (s:K00) (n g:Nat) (a:List Nat):List Nat:=a.map (ti s n g)
def Kxz (s:K00) (n:Nat) (a b:List Nat):List Nat:=List.zipWith (Kxv s n) a b
def Ky0 (n:Nat) (l:List Nat):Prop:=∀ x ∈ l,x < n
theorem Ky1 {n x:Nat} {l:List Nat} (h:Ky0 n (x :: l)):x < n∧Ky0 n l:=⟨h x List.mem_cons_self,fun y hy=>h y (List.mem_cons_of_mem _ hy)⟩
theorem Ky2 {n:Nat} {l:List Nat} (h:Ky0 n l) (i:Nat):Ky0 n (l.drop i):=fun x hx=>h x (List.mem_of_mem_drop hx)
section
variable {s:K00} {n:Nat} (hs:Kxp s n)
include hs
theorem Ky3:∀ {a b:List Nat},Ky0 n a→Ky0 n b→Ky0 n (Kxx s n a b)
 | [],_,_,_=>fun x hx=>by cases hx
 | _ :: _,[],_,_=>fun x hx=>by cases hx
 | x :: a,y :: b,ha,hb=>fun z hz=>by
  obtain ⟨h1,h2⟩:=Ky1 ha
  obtain ⟨h3,h4⟩:=Ky1 hb
  rcases List.mem_cons.1 hz with rfl | hz
  ·exact Krg hs.tab h1 h3
  ·exact Ky3 h2 h4 z hz
theorem Ky4 {g:Nat} (hg:g < n) {a:List Nat} (ha:Ky0 n a):Ky0 n (Kxy s n g a):=fun x hx=>by
 obtain ⟨y,hy,rfl⟩:=List.mem_map.1 hx
 exact Krh hs.tab hg (ha y hy)
theorem Ky5:∀ {a b:List Nat},Ky0 n a→Ky0 n b→Ky0 n (Kxz s n a b)
 | [],_,_,_=>fun x hx=>by cases hx
 | _ :: _,[],_,_=>fun x hx=>by cases hx
 | x :: a,y :: b,ha,hb=>fun z hz=>by
  obtain ⟨h1,h2⟩:=Ky1 ha
  obtain ⟨h3,h4⟩:=Ky1 hb
  rcases List.mem_cons.1 hz with rfl | hz
  ·exact (Kxw hs h1 h3).2
  ·exact Ky5 h2 h4 z hz
theorem Ky6 {a:List Nat} (ha:Ky0 n a):Kxy s n 1 a=a:=by
 induction a with
 | nil=>rfl
 | cons x a ih =>
  obtain ⟨h1,h2⟩:=Ky1 ha
  show ti s n 1 x :: Kxy s n 1 a=_
  rw [Kxu hs h1,ih h2]
theorem Ky7 {a:List Nat} (ha:Ky0 n a):Kxx s n (List.replicate a.length 0) a=a:=by
 induction a with
 | nil=>rfl
 | cons x a ih =>
  obtain ⟨h1,h2⟩:=Ky1 ha
  show pl s n 0 x :: Kxx s n (List.replicate a.length 0) a=_
  rw [Kxt hs h1,ih h2]
theorem Ky8 (g:Nat) (hg:g < n) (a b:List Nat) (ha:Ky0 n a) (hb:Ky0 n b) (hl:a.length ≤ 1099511627776):∀ (al bl:List Nat) (i:Nat) (out:List Int),a.drop i=al→b.drop i=bl→al.length=bl.length→out.length + al.length ≤ 1099511627776 →
  Kel (s,Kxk a,(g:Int),Kxk b,out,(i:Int))=some (out ++ Kxk (Kxx s n al (Kxy s n g bl))):=by
 intro al
 induction al with
 | nil =>
  intro bl i out hd _ _ _
  rw [Kel.eq_def]
  simp only
  rw [Kxl,Kr1 (Ksf hd)]
  simp [Kxx,Kxk]
 | cons x al ih =>
  intro bl i out hd hd2 hll ho
  cases bl with
  | nil=>simp at hll
  | cons y bl =>
   obtain ⟨h1,h2,h3⟩:=Kxo hd
   obtain ⟨k1,k2,k3⟩:=Kxo hd2
   have hx:x < n:=Ky2 ha i x (by rw [hd]; exact List.mem_cons_self)
   have hy:y < n:=Ky2 hb i y (by rw [hd2]; exact List.mem_cons_self)
   rw [Kel.eq_def]
   simp only
   simp only [List.length_cons] at ho hll
   rw [Kxl,Kr0 h1,if_pos rfl,h2,bs,k2,bs,Krm hs.tab hg hy,bs,Krl hs.tab hx (Krh hs.tab hg hy),bs,Kug (by simp; omega),bs,Kqz (by omega),ih bl (i + 1) _ h3 k3 (by omega) (by simp; omega)]
   rw [List.append_assoc]
   rfl
theorem Ky9 (g:Nat) (hg:g < n) (a b:List Nat) (ha:Ky0 n a) (hb:Ky0 n b) (hl:a.length ≤ 1048576) (hab:a.length=b.length):Keo (s,Kxk a,(g:Int),Kxk b)=some (Kxk (Kxx s n a (Kxy s n g b))):=by
 unfold Keo
 simp only
 rw [show (0:Int)=((0:Nat):Int) from rfl,Ky8 hs g hg a b ha hb (by omega) a b 0 [] rfl rfl hab (by simp; omega)]
 rfl
theorem Kya (a b:List Nat) (ha:Ky0 n a) (hb:Ky0 n b) (hl:a.length ≤ 1048576) (hab:a.length=b.length):Keo (s,Kxk a,1,Kxk b)=some (Kxk (Kxx s n a b)):=by
 have:=Ky9 hs 1 (Kxr hs) a b ha hb hl hab
 rw [Ky6 hs hb] at this
 exact this
theorem Kyb (a b:List Nat) (ha:Ky0 n a) (hb:Ky0 n b) (hl:a.length ≤ 1099511627776):∀ (al bl:List Nat) (i:Nat) (out:List Int),a.drop i=al→b.drop i=bl→al.length=bl.length→out.length + al.length ≤ 1099511627776 →
  Kf5 (s,Kxk a,Kxk b,out,(i:Int))=some (out ++ Kxk (Kxz s n al bl)):=by
 intro al
 induction al with
 | nil =>
  intro bl i out hd _ _ _
  rw [Kf5.eq_def]
  simp only
  rw [Kxl,Kr1 (Ksf hd)]
  simp [Kxz,Kxk]
 | cons x al ih =>
  intro bl i out hd hd2 hll ho
  cases bl with
  | nil=>simp at hll
  | cons y bl =>
   obtain ⟨h1,h2,h3⟩:=Kxo hd
   obtain ⟨k1,k2,k3⟩:=Kxo hd2
   have hx:x < n:=Ky2 ha i x (by rw [hd]; exact List.mem_cons_self)
   have hy:y < n:=Ky2 hb i y (by rw [hd2]; exact List.mem_cons_self)
   rw [Kf5.eq_def]
   simp only
   simp only [List.length_cons] at ho hll
   rw [Kxl,Kr0 h1,if_pos rfl,h2,bs,k2,bs,Ks2 hs.tab hx hy,bs,(Kxw hs hx hy).1,Kug (by simp; omega),bs,Kqz (by omega),ih bl (i + 1) _ h3 k3 (by omega) (by simp; omega)]
   rw [List.append_assoc]
   rfl
theorem Kyc (a b:List Nat) (ha:Ky0 n a) (hb:Ky0 n b) (hl:a.length ≤ 1048576) (hab:a.length=b.length):Kf8 (s,Kxk a,Kxk b)=some (Kxk (Kxz s n a b)):=by
 unfold Kf8
 simp only
 rw [show (0:Int)=((0:Nat):Int) from rfl,Kyb hs a b ha hb (by omega) a b 0 [] rfl rfl hab (by simp; omega)]
 rfl
end
theorem Kyd {α:Type} {out:List α} {i:Nat} (h:i < out.length) (x:α):(out.set i x).take (i + 1)=out.take i ++ [x]:=by
 rw [List.take_set,List.take_succ_eq_append_getElem h,List.set_append_right _ _ (by simp; omega)]
 simp [Nat.min_eq_left (Nat.le_of_lt h)]
section
variable {s:K00} {n:Nat} (hs:Kxp s n)
include hs
theorem Kye (a b:List Nat) (ha:Ky0 n a) (hb:Ky0 n b) (hl:a.length ≤ 1099511627776):∀ (al bl:List Nat) (i:Nat) (out:List Int),a.drop i=al→b.drop i=bl→al.length=bl.length→out.length=a.length →
  Kkw (s,Kxk a,Kxk b,out,(i:Int))=some (out.take i ++ Kxk (Kxx s n al bl)):=by
 intro al
 induction al with
 | nil =>
  intro bl i out hd _ _ ho
  rw [Kkw.eq_def]
  simp only
  have:=Ksf hd
  rw [Kxl,Kr1 this]
  simp [Kxx,Kxk,List.take_of_length_le (show out.length ≤ i by omega)]
 | cons x al ih =>
  intro bl i out hd hd2 hll ho
  cases bl with
  | nil=>simp at hll
  | cons y bl =>
   obtain ⟨h1,h2,h3⟩:=Kxo hd
   obtain ⟨k1,k2,k3⟩:=Kxo hd2
   have hx:x < n:=Ky2 ha i x (by rw [hd]; exact List.mem_cons_self)
   have hy:y < n:=Ky2 hb i y (by rw [hd2]; exact List.mem_cons_self)
   rw [Kkw.eq_def]
   simp only
   simp only [List.length_cons] at hll
   have hio:i < out.length:=by omega
   rw [Kxl,Kr0 h1,if_pos rfl,h2,bs,k2,bs,Krn hs.tab hx hy,bs,Kqy hio,bs,Kqz (by omega),Int.toNat_natCast,ih bl (i + 1) _ h3 k3 (by omega) (by rw [List.length_set]; exact ho)]
   rw [Kyd hio,List.append_assoc]
   rfl
theorem Kyf (a b:List Nat) (ha:Ky0 n a) (hb:Ky0 n b) (hl:a.length ≤ 1048576) (hab:a.length=b.length):Kl2 (⟨s⟩,Kxk a,Kxk b)=some (Kxk (Kxx s n a b)):=by
 unfold Kl2 Kkz
 simp only
 rw [Kxl,Kwi (by simp; omega),bs,Int.toNat_natCast,show (0:Int)=((0:Nat):Int) from rfl]
 rw [show (List.replicate a.length (((0:Nat):Int)))=List.replicate a.length (0:Int) from rfl,Kye hs a b ha hb (by omega) a b 0 _ rfl rfl hab (by simp)]
 rfl
theorem Kyg (a b:List Nat) (ha:Ky0 n a) (hb:Ky0 n b) (hl:a.length ≤ 1099511627776):∀ (al bl:List Nat) (i:Nat) (out:List Int),a.drop i=al→b.drop i=bl→al.length=bl.length→out.length=a.length →
  Kl9 (s,Kxk a,Kxk b,out,(i:Int))=some (out.take i ++ Kxk (Kxz s n al bl)):=by
 intro al
 induction al with
 | nil =>
  intro bl i out hd _ _ ho
  rw [Kl9.eq_def]
  simp only
  have:=Ksf hd
  rw [Kxl,Kr1 this]
  simp [Kxz,Kxk,List.take_of_length_le (show out.length ≤ i by omega)]
 | cons x al ih =>
  intro bl i out hd hd2 hll ho
  cases bl with
  | nil=>simp at hll
  | cons y bl =>
   obtain ⟨h1,h2,h3⟩:=Kxo hd
   obtain ⟨k1,k2,k3⟩:=Kxo hd2
   have hx:x < n:=Ky2 ha i x (by rw [hd]; exact List.mem_cons_self)
   have hy:y < n:=Ky2 hb i y (by rw [hd2]; exact List.mem_cons_self)
   rw [Kl9.eq_def]
   simp only
   simp only [List.length_cons] at hll
   have hio:i < out.length:=by omega
   rw [Kxl,Kr0 h1,if_pos rfl,h2,bs,k2,bs,Ks3 hs.tab hx hy,bs,(Kxw hs hx hy).1,Kqy hio,bs,Kqz (by omega),Int.toNat_natCast,ih bl (i + 1) _ h3 k3 (by omega) (by rw [List.length_set]; exact ho)]
   rw [Kyd hio,List.append_assoc]
   rfl
theorem Kyh (a b:List Nat) (ha:Ky0 n a) (hb:Ky0 n b) (hl:a.length ≤ 1048576) (hab:a.length=b.length):Klf (⟨s⟩,Kxk a,Kxk b)=some (Kxk (Kxz s n a b)):=by
 unfold Klf Klc
 simp only
 rw [Kxl,Kwi (by simp; omega),bs,Int.toNat_natCast,show (0:Int)=((0:Nat):Int) from rfl]
 rw [show (List.replicate a.length (((0:Nat):Int)))=List.replicate a.length (0:Int) from rfl,Kyg hs a b ha hb (by omega) a b 0 _ rfl rfl hab (by simp)]
 rfl
theorem Kyi (g:Nat) (hg:g < n) (a:List Nat) (ha:Ky0 n a) (hl:a.length ≤ 1099511627776):∀ (al:List Nat) (i:Nat) (out:List Int),a.drop i=al→out.length=a.length →
  Kmd (⟨s⟩,(g:Int),Kxk a,out,(i:Int))=some (out.take i ++ Kxk (Kxy s n g al)):=by
 intro al
 induction al with
 | nil =>
  intro i out hd ho
  rw [Kmd.eq_def]
  simp only
  have:=Ksf hd
  rw [Kxl,Kr1 this]
  simp [Kxy,Kxk,List.take_of_length_le (show out.length ≤ i by omega)]
 | cons x al ih =>
  intro i out hd ho
  obtain ⟨h1,h2,h3⟩:=Kxo hd
  have hx:x < n:=Ky2 ha i x (by rw [hd]; exact List.mem_cons_self)
  rw [Kmd.eq_def]
  simp only
  have hio:i < out.length:=by omega
  rw [Kxl,Kr0 h1,if_pos rfl,h2,bs,Kro hs.tab hg hx,bs,Kqy hio,bs,Kqz (by omega),Int.toNat_natCast,ih (i + 1) _ h3 (by rw [List.length_set]; exact ho)]
  rw [Kyd hio,List.append_assoc]
  rfl
theorem Kyj (g:Nat) (hg:g < n) (a:List Nat) (ha:Ky0 n a) (hl:a.length ≤ 1048576):Kmg (⟨s⟩,(g:Int),Kxk a)=some (Kxk (Kxy s n g a)):=by
 unfold Kmg
 simp only
 rw [Kxl,Kwi (by simp; omega),bs,Int.toNat_natCast,show (0:Int)=((0:Nat):Int) from rfl]
 rw [show (List.replicate a.length (((0:Nat):Int)))=List.replicate a.length (0:Int) from rfl,Kyi hs g hg a ha (by omega) a 0 _ rfl (by simp)]
 rfl
theorem Kyk (g:Nat) (hg:g < n) (a:List Nat) (ha:Ky0 n a) (hl:a.length ≤ 1099511627776):∀ (al:List Nat) (i:Nat),a.drop i=al →
  ∃ r,Km0 (Kxk a,⟨s⟩,(g:Int),(i:Int))=some r∧(match r with | .inl _=>(al.all fun x=>le s n x g)=true | .inr j=>(al.all fun x=>le s n x g)=false∧0 ≤ j):=by
 intro al
 induction al with
 | nil =>
  intro i hd
  rw [Km0.eq_def]
  simp only
  rw [Kxl,Kr1 (Ksf hd)]
  exact ⟨_,rfl,rfl⟩
 | cons x al ih =>
  intro i hd
  obtain ⟨h1,h2,h3⟩:=Kxo hd
  have hx:x < n:=Ky2 ha i x (by rw [hd]; exact List.mem_cons_self)
  rw [Km0.eq_def]
  simp only
  rw [Kxl,Kr0 h1,if_pos rfl,h2,bs]
  unfold Klw
  simp only
  rw [iLe hs.tab hx hg]
  simp only [bs]
  cases hle:le s n x g with
  | true =>
   obtain ⟨r,hr,hm⟩:=ih (i + 1) h3
   refine ⟨r,?_,?_⟩
   ·rw [if_neg (by simp),Kqz (by omega)]; exact hr
   ·rw [List.all_cons,hle,Bool.true_and]; exact hm
  | false =>
   exact ⟨_,if_pos rfl,by simp [List.all_cons,hle]⟩
theorem Kyl (g:Nat) (hg:g < n) (a:List Nat) (ha:Ky0 n a) (hl:a.length ≤ 1048576):Km9 (⟨s⟩,Kxk a,(g:Int))=some (a.all fun x=>le s n x g):=by
 obtain ⟨r,hr,hm⟩:=Kyk hs g hg a ha (by omega) a 0 rfl
 unfold Km9 Km6 Km3
 simp only
 rw [show (0:Int)=((0:Nat):Int) from rfl,hr]
 cases r with
 | inl _=>simp only [bs] at hm ⊢; rw [hm]; rfl
 | inr j =>
  simp only [bs] at hm ⊢
  rw [hm.1,decide_eq_true (by omega)]; rfl
end
theorem Kym (k:Nat) (h:k ≤ 1048576):Ke1 (k:Int)=some (Kxk (List.replicate k 0)):=by
 unfold Ke1
 rw [Int.toNat_natCast,Kwi (by constructor <;> omega),bs]
 unfold Kxk
 rw [List.map_replicate]
 rfl
theorem Kyn (ctx front:List (List Int)) (h:ctx.length + front.length ≤ 1048576):Ke7 (ctx,front)=some (front ++ ctx):=by
 unfold Ke7
 simp only
 rw [Kug (by simp; omega),bs,Kug (by omega),bs]
theorem Kyo (ps:List (List Int)) (hp:ps.length ≤ 1099511627776):∀ (l:List (List Int)) (i:Nat) (out:List Int),ps.drop i=l→out.length + l.flatten.length ≤ 1099511627776→Kee (ps,out,(i:Int))=some (out ++ l.flatten):=by
 intro l
 induction l with
 | nil =>
  intro i out hd _
  rw [Kee.eq_def]
  simp only
  rw [Kr1 (Ksf hd)]
  simp
 | cons x l ih =>
  intro i out hd ho
  obtain ⟨h1,h2,h3⟩:=Kse hd
  rw [List.flatten_cons,List.length_append] at ho
  rw [Kee.eq_def]
  simp only
  rw [Kr0 h1,if_pos rfl,h2,bs,Kug (by omega),bs,Kqz (by omega),ih (i + 1) _ h3 (by rw [List.length_append]; omega),List.flatten_cons,List.append_assoc]
theorem Kyp (c:Int) (ps:List (List Int)) (hp:ps.length ≤ 1048576) (h:ps.flatten.length ≤ 1048576):Keh (c,ps)=some (c :: ps.flatten):=by
 unfold Keh
 simp only
 rw [show (0:Int)=((0:Nat):Int) from rfl,Kyo ps (by omega) ps 0 [c] rfl (by rw [List.length_singleton]; omega)]
 rfl
theorem Kyq (ps:List (List (Int))) (hp:ps.length ≤ 1099511627776):∀ (l:List (List (Int))) (i sz:Nat),ps.drop i=l→sz + l.flatten.length ≤ 1099511627776→Klm (ps,(sz:Int),(i:Int))=some (((sz + l.flatten.length:Nat)):Int):=by
 intro l
 induction l with
 | nil =>
  intro i sz hd _
  rw [Klm.eq_def]
  simp only
  rw [Kr1 (Ksf hd)]
  simp
 | cons x l ih =>
  intro i sz hd ho
  obtain ⟨h1,h2,h3⟩:=Kse hd
  rw [List.flatten_cons,List.length_append] at ho
  have e:wr ((sz:Int) + (x.length:Int))=((sz + x.length:Nat):Int):=Kvp (by omega) (by omega)
  rw [Klm.eq_def]
  simp only
  rw [Kr0 h1,if_pos rfl,h2,bs,e,decide_eq_false (by omega),if_neg (by decide),bs,Kqz (by omega),ih (i + 1) _ h3 (by omega),List.flatten_cons,List.length_append,Nat.add_assoc]
theorem Kyr (ps:List (List (Int))) (hp:ps.length ≤ 1099511627776):∀ (l:List (List (Int))) (i:Nat) (out:List (Int)),ps.drop i=l→out.length + l.flatten.length ≤ 1099511627776→Klq (ps,out,(i:Int))=some (out ++ l.flatten):=by
 intro l
 induction l with
 | nil =>
  intro i out hd _
  rw [Klq.eq_def]
  simp only
  rw [Kr1 (Ksf hd)]
  simp
 | cons x l ih =>
  intro i out hd ho
  obtain ⟨h1,h2,h3⟩:=Kse hd
  rw [List.flatten_cons,List.length_append] at ho
  rw [Klq.eq_def]
  simp only
  rw [Kr0 h1,if_pos rfl,h2,bs,Kug (by omega),bs,Kqz (by omega),ih (i + 1) _ h3 (by rw [List.length_append]; omega),List.flatten_cons,List.append_assoc]
theorem Kys (k:Nat) (h:k ≤ 1048576):Kli (k:Int)=some ():=by
 unfold Kli
 have e:wr ((k:Int) - wr (0 - 0))=(k:Int):=by rw [Kqx (x:=0 - 0) (by decide) (by decide),Kqx (by omega) (by omega)]; omega
 rw [decide_eq_false (by omega),if_neg (by decide),e]
 by_cases hk:k=0
 ·subst hk; rfl
 ·rw [decide_eq_true (by omega),if_pos rfl,Int.toNat_natCast,Kwi (by constructor <;> omega),bs]
theorem Kyt (ps:List (List (Int))) (hp:ps.length ≤ 1048576) (h:ps.flatten.length ≤ 1048576):Klt ps=some ps.flatten:=by
 unfold Klt
 have h0:=Kyq ps (by omega) ps 0 0 rfl (by omega)
 rw [Nat.zero_add] at h0
 rw [show (0:Int)=((0:Nat):Int) from rfl,h0,bs,Kys _ h,bs,Kyr ps (by omega) ps 0 [] rfl (by rw [List.length_nil]; omega)]
 rfl
theorem Kyu (ps:List (List (List Int))) (hp:ps.length ≤ 1099511627776):∀ (l:List (List (List Int))) (i sz:Nat),ps.drop i=l→sz + l.flatten.length ≤ 1099511627776→Kk7 (ps,(sz:Int),(i:Int))=some (((sz + l.flatten.length:Nat)):Int):=by
 intro l
 induction l with
 | nil =>
  intro i sz hd _
  rw [Kk7.eq_def]
  simp only
  rw [Kr1 (Ksf hd)]
  simp
 | cons x l ih =>
  intro i sz hd ho
  obtain ⟨h1,h2,h3⟩:=Kse hd
  rw [List.flatten_cons,List.length_append] at ho
  have e:wr ((sz:Int) + (x.length:Int))=((sz + x.length:Nat):Int):=Kvp (by omega) (by omega)
  rw [Kk7.eq_def]
  simp only
  rw [Kr0 h1,if_pos rfl,h2,bs,e,decide_eq_false (by omega),if_neg (by decide),bs,Kqz (by omega),ih (i + 1) _ h3 (by omega),List.flatten_cons,List.length_append,Nat.add_assoc]
theorem Kyv (ps:List (List (List Int))) (hp:ps.length ≤ 1099511627776):∀ (l:List (List (List Int))) (i:Nat) (out:List (List Int)),ps.drop i=l→out.length + l.flatten.length ≤ 1099511627776→Kkb (ps,out,(i:Int))=some (out ++ l.flatten):=by
 intro l
 induction l with
 | nil =>
  intro i out hd _
  rw [Kkb.eq_def]
  simp only
  rw [Kr1 (Ksf hd)]
  simp
 | cons x l ih =>
  intro i out hd ho
  obtain ⟨h1,h2,h3⟩:=Kse hd
  rw [List.flatten_cons,List.length_append] at ho
  rw [Kkb.eq_def]
  simp only
  rw [Kr0 h1,if_pos rfl,h2,bs,Kug (by omega),bs,Kqz (by omega),ih (i + 1) _ h3 (by rw [List.length_append]; omega),List.flatten_cons,List.append_assoc]
theorem Kyw (k:Nat) (h:k ≤ 1048576):Kk3 (k:Int)=some ():=by
 unfold Kk3
 have e:wr ((k:Int) - wr (0 - 0))=(k:Int):=by rw [Kqx (x:=0 - 0) (by decide) (by decide),Kqx (by omega) (by omega)]; omega
 rw [decide_eq_false (by omega),if_neg (by decide),e]
 by_cases hk:k=0
 ·subst hk; rfl
 ·rw [decide_eq_true (by omega),if_pos rfl,Int.toNat_natCast,Kwi (by constructor <;> omega),bs]
theorem Kyx (ps:List (List (List Int))) (hp:ps.length ≤ 1048576) (h:ps.flatten.length ≤ 1048576):Kke ps=some ps.flatten:=by
 unfold Kke
 have h0:=Kyu ps (by omega) ps 0 0 rfl (by omega)
 rw [Nat.zero_add] at h0
 rw [show (0:Int)=((0:Nat):Int) from rfl,h0,bs,Kyw _ h,bs,Kyv ps (by omega) ps 0 [] rfl (by rw [List.length_nil]; omega)]
 rfl
def Kyy (s:K00) (ctx:List (List Int)):Bool:=decide (ctx.length ≤ 8) && ctx.all (yN s.fSize true)
theorem sYn {s:K00} {ty:List Int} (h:ty.length ≤ 1099511627776):(Kcc ty >>= fun r=>if r=true then Kcn (ty,s.fSize,true) >>= fun q=>some (!q) else some true)=some (!yN s.fSize true ty):=by
 rw [Kt1 ty h,bs]
 unfold yN
 cases wtB ty with
 | false=>rfl
 | true=>rw [if_pos rfl,Kt7 ty h,bs]; rfl
theorem Kyz (s:K00) (ctx:List (List Int)) (hc:ctx.length ≤ 1048576) (hl:∀ ty ∈ ctx,ty.length ≤ 1099511627776):∀ (l:List (List Int)) (i:Nat),ctx.drop i=l→Kcr (s,ctx,(i:Int))=some (if l.all (yN s.fSize true) then .inl () else .inr false):=by
 intro l
 induction l with
 | nil =>
  intro i hd
  rw [Kcr.eq_def]
  simp only
  rw [Kr1 (Ksf hd)]; rfl
 | cons x l ih =>
  intro i hd
  obtain ⟨h1,h2,h3⟩:=Kse hd
  have hx:x ∈ ctx:=List.mem_of_mem_drop (i:=i) (by rw [hd]; exact List.mem_cons_self)
  rw [Kcr.eq_def]
  simp only
  rw [Kr0 h1,if_pos rfl]
  simp only [h2,bs]
  rw [sYn (hl x hx),bs,Kqz (by omega),ih (i + 1) h3,List.all_cons]
  cases yN s.fSize true x <;> cases l.all (yN s.fSize true) <;> rfl
theorem Kz0 (s:K00) (ctx:List (List Int)) (hc:ctx.length ≤ 1048576) (hl:∀ ty ∈ ctx,ty.length ≤ 1099511627776):Kcu (s,ctx)=some (Kyy s ctx):=by
 unfold Kcu Kyy
 simp only
 by_cases h:ctx.length ≤ 8
 ·rw [decide_eq_false (by omega),decide_eq_true h,if_neg (by decide),show (0:Int)=((0:Nat):Int) from rfl,Kyz s ctx hc hl ctx 0 rfl,bs]
  cases ctx.all (yN s.fSize true) <;> rfl
 ·rw [decide_eq_true (by omega),decide_eq_false h,if_pos rfl]; rfl
theorem Kz1 (s:K00) (ctx:List (List Int)) (hc:ctx.length ≤ 1048576) (hl:∀ ty ∈ ctx,ty.length ≤ 1099511627776):∀ (l:List (List Int)) (i:Nat),ctx.drop i=l→∃ r,Kix (ctx,s,(i:Int))=some r∧(match r with | .inl _=>l.all (Kvi s)=true | .inr j=>l.all (Kvi s)=false∧0 ≤ j):=by
 intro l
 induction l with
 | nil =>
  intro i hd
  rw [Kix.eq_def]
  simp only
  rw [Kr1 (Ksf hd)]
  exact ⟨_,rfl,rfl⟩
 | cons x l ih =>
  intro i hd
  obtain ⟨h1,h2,h3⟩:=Kse hd
  have hx:x ∈ ctx:=List.mem_of_mem_drop (i:=i) (by rw [hd]; exact List.mem_cons_self)
  rw [Kix.eq_def]
  simp only
  rw [Kr0 h1,if_pos rfl,h2,bs]
  unfold Kit
  simp only
  rw [Kvk s x (hl x hx)]
  simp only [bs]
  cases hle:Kvi s x with
  | true =>
   obtain ⟨r,hr,hm⟩:=ih (i + 1) h3
   refine ⟨r,?_,?_⟩
   ·rw [if_neg (by simp),Kqz (by omega)]; exact hr
   ·rw [List.all_cons,hle,Bool.true_and]; exact hm
  | false=>exact ⟨_,if_pos rfl,by simp [List.all_cons,hle]⟩
theorem Kz2 (s:K00) (hs:Kuu s=true) (ctx:List (List Int)) (hc:ctx.length ≤ 1048576) (hl:∀ ty ∈ ctx,ty.length ≤ 1099511627776):Kj6 (s,ctx)=some (Kyy s ctx):=by
 have e:ctx.all (Kvi s)=ctx.all (yN s.fSize true):=by
  congr 1
  funext ty
  exact Kvn (Kuv hs) ty
 unfold Kj6 Kyy
 simp only
 by_cases h:ctx.length ≤ 8
 ·rw [decide_eq_true (by omega:(ctx.length:Int) ≤ 8),decide_eq_true h,if_pos rfl]
  obtain ⟨r,hr,hm⟩:=Kz1 s ctx hc hl ctx 0 rfl
  unfold Kj3 Kj0
  simp only
  rw [show (0:Int)=((0:Nat):Int) from rfl,hr]
  rw [e] at hm
  cases r with
  | inl _=>simp only [bs] at hm ⊢; rw [hm]; rfl
  | inr j =>
   simp only [bs] at hm ⊢
   rw [hm.1,decide_eq_true (by omega)]; rfl
 ·rw [decide_eq_false (by omega),decide_eq_false h,if_neg (by decide)]; rfl
theorem Kz3 {s:K00} (ty:List Int) (h:ty.length ≤ 1099511627776):Kjc (ty,s)=some (Kvi s ty):=by
 unfold Kjc
 simp only
 rw [Kvk s ty h,bs]
mutual
theorem Kz4 (s:K00):∀ (t:K01) (n nodes:Nat),tms t ≤ 1099511627776→n + 2 * tms t ≤ 35184372088832→nodes ≤ 400→Kjj (t,(n:Int),s,s,(nodes:Int))=some (Ku4 (tOk (Kvf s) (Kvi s) n t) nodes (tsz t))
 | ⟨op,N,ty,ks⟩,n,nodes,ht,hn,hd=>by
  rw [tms] at ht hn
  rw [Kjj.eq_def,tOk,tsz]
  simp only
  rw [Ktr,bs]
  unfold Ktq
  cases hop:inB op 0 12
  ·simp [Kty,hop,Ku4]
  ·simp only [if_true]
   rw [Kqz (by omega)]
   by_cases h4:nodes + 1 ≤ 400
   ·rw [decide_eq_false (by omega:¬ ((nodes + 1:Nat):Int) > 400)]
    by_cases hk:(ks.length:Int)=Kti op
    ·rw [show ((ks.length:Int) != Kti op)=false by rw [hk]; exact Kr7]
     simp only [Bool.false_eq_true,if_false,bs]
     refine (Kt8 (x:=Ktw (Kvf s) (n:Int) ⟨op,N,ty,ks⟩) ?_).trans ?_
     ·unfold Ktw
      simp only [iIn,Kqx (x:=(n:Int) - 1) (by omega) (by omega),Kvg,bs]
      cases op == 0 <;> cases op == 1 <;> cases Ktj op <;> rfl
     refine (Kt8 (x:=Ktw (Kvf s) (n:Int) ⟨op,N,ty,ks⟩ && Ktx (Kvi s) ⟨op,N,ty,ks⟩) ?_).trans ?_
     ·unfold Ktx
      simp only [Kz3 ty (by omega),bs]
      cases Ktk op <;> cases Ktw (Kvf s) (n:Int) ⟨op,N,ty,ks⟩ <;> rfl
     have e:Kty (Kvf s) (Kvi s) (n:Int) ⟨op,N,ty,ks⟩=(Ktw (Kvf s) (n:Int) ⟨op,N,ty,ks⟩ && Ktx (Kvi s) ⟨op,N,ty,ks⟩):=by
      unfold Kty
      simp only
      rw [hop,hk]; simp
     rw [e]
     cases Ktw (Kvf s) (n:Int) ⟨op,N,ty,ks⟩ && Ktx (Kvi s) ⟨op,N,ty,ks⟩
     ·simp [Ku4]
     ·have h:=Kz5 s ks ⟨op,N,ty,ks⟩ n (nodes + 1) 0 rfl (by simp only; omega) (by omega) (by omega) h4
      rw [if_pos rfl,show (0:Int)=((0:Nat):Int) from rfl,h]
      simp only [Bool.true_and]
      unfold Ku4
      rw [show nodes + (1 + Kt9 ks)=nodes + 1 + Kt9 ks by omega]
      cases Ktz (Kvf s) (Kvi s) op n 0 ks && decide (nodes + 1 + Kt9 ks ≤ 400) <;> rfl
    ·rw [show ((ks.length:Int) != Kti op)=true by simpa using hk]
     have e:Kty (Kvf s) (Kvi s) (n:Int) ⟨op,N,ty,ks⟩=false:=by
      unfold Kty
      simp only
      rw [show ((ks.length:Int) == Kti op)=false by simpa using hk]; simp
     simp [e,Ku4]
   ·rw [decide_eq_true (by omega:((nodes + 1:Nat):Int) > 400)]
    have:¬ nodes + (1 + Kt9 ks) ≤ 400:=by omega
    simp [Ku4,this]
theorem Kz5 (s:K00):∀ (ks:List K01) (t:K01) (n nodes i:Nat),t.fKids.drop i=ks→t.fKids.length ≤ 1099511627776→Kta ks ≤ 1099511627776→n + 2 * (ks.length + Kta ks) ≤ 35184372088832→nodes ≤ 400 →
  Kjk (t,(n:Int),s,s,(nodes:Int),(i:Int))=some (if Ktz (Kvf s) (Kvi s) t.fOp n i ks && decide (nodes + Kt9 ks ≤ 400) then .inl ((nodes + Kt9 ks:Nat):Int) else .inr 401)
 | [],t,n,nodes,i,hd,hk,ht,hn,h4=>by
  rw [Kjk.eq_def,Ktz,Kt9]
  simp only
  rw [Kr1 (Ksf hd)]
  simp [h4]
 | k :: ks,t,n,nodes,i,hd,hk,ht,hn,h4=>by
  obtain ⟨hi,hx,hd'⟩:=Kse hd
  rw [Kta] at ht hn
  rw [List.length_cons] at hn
  have ha:=Ktt t.fOp (i:Int)
  rw [Kjk.eq_def,Ktz,Kt9]
  simp only
  rw [Kr0 hi,if_pos rfl,hx,bs,Ktv,bs,Kqx (by omega) (by omega),show (n:Int) + ((Kts t.fOp (i:Int):Nat):Int)=((n + Kts t.fOp (i:Int):Nat):Int) by omega]
  rw [Kz4 s k (n + Kts t.fOp (i:Int)) nodes (by omega) (by omega) h4,bs,Kqz (by omega)]
  unfold Ku4
  cases tOk (Kvf s) (Kvi s) (n + Kts t.fOp (i:Int)) k
  ·rfl
  ·by_cases q:nodes + tsz k ≤ 400
   ·rw [decide_eq_true q,Bool.true_and,if_pos rfl,decide_eq_false (by omega:¬ ((nodes + tsz k:Nat):Int) > 400),if_neg (by decide),Kz5 s ks t n (nodes + tsz k) (i + 1) hd' hk (by omega) (by omega) q,Nat.add_assoc,Bool.true_and]
   ·rw [decide_eq_false q,decide_eq_false (by omega:¬ nodes + (tsz k + Kt9 ks) ≤ 400)]
    simp
end
theorem Kz6 {s:K00} {n:Nat} (h:Tab s n):Kvf s=gN s.fSize true:=by
 funext g
 rw [Kvl h]
 unfold gN inB
 rw [h.size]
 rw [Bool.eq_iff_iff]
 simp
 omega
theorem Kz7 (s:K00) (hs:Kuu s=true) (t:K01) (n:Nat) (hn:n ≤ 8) (ht:tms t ≤ 1099511627776):Kjq (s,t,(n:Int))=some (Kx9 s t n):=by
 have hy:Kvi s=yN s.fSize true:=funext fun ty=>Kvn (Kuv hs) ty
 unfold Kjq Kx9
 simp only
 rw [iIn,bs,hs]
 have:inB (n:Int) 0 8=true:=by unfold inB; rw [decide_eq_true (by omega),decide_eq_true (by omega)]; rfl
 have hc:=Kz4 s t n 0 ht (by omega) (by omega)
 rw [Kz6 (Kuv hs),hy] at hc
 rw [this,if_pos rfl,show (0:Int)=((0:Nat):Int) from rfl,hc,bs]
 unfold Ku4
 rw [Nat.zero_add]
 cases tOk (gN s.fSize true) (yN s.fSize true) n t
 ·simp [bs]
 ·by_cases h:tsz t ≤ 400
  ·simp [bs,h]; omega
  ·simp [bs,h]
def Kz8 (s:K00) (ctx:List (List Int)) (t:K01):Bool:=Kuu s && Kyy s ctx && Kx9 s t ctx.length
theorem Kz9 (s:K00) (ctx:List (List Int)) (t:K01) (hc:ctx.length ≤ 1048576) (hl:∀ ty ∈ ctx,ty.length ≤ 1099511627776) (ht:tms t ≤ 1099511627776):Kdy (s,ctx,t)=some (Kz8 s ctx t):=by
 unfold Kdy Kz8
 simp only
 rw [Kuw,bs]
 cases hs:Kuu s
 ·rfl
 ·rw [if_pos rfl,Kz0 s ctx hc hl,bs]
  cases h2:Kyy s ctx
  ·rfl
  ·have h8:ctx.length ≤ 8:=by
    unfold Kyy at h2
    simp only [Bool.and_eq_true,decide_eq_true_eq] at h2
    exact h2.1
   rw [if_pos rfl,Kxa s t _ h8 ht]
   rfl
theorem Kza (s:K00) (ctx:List (List Int)) (t:K01) (hc:ctx.length ≤ 1048576) (hl:∀ ty ∈ ctx,ty.length ≤ 1099511627776) (ht:tms t ≤ 1099511627776) :
  Knf (s,ctx,t)=if Kz8 s ctx t then (Kn8 (⟨s⟩,ctx,t) >>= fun r=>some (some r)) else some none:=by
 unfold Knf Kz8
 simp only
 rw [Kux,bs]
 cases hs:Kuu s
 ·rfl
 ·rw [if_pos rfl,Kz2 s hs ctx hc hl,bs]
  cases h2:Kyy s ctx
  ·rfl
  ·have h8:ctx.length ≤ 8:=by
    unfold Kyy at h2
    simp only [Bool.and_eq_true,decide_eq_true_eq] at h2
    exact h2.1
   rw [if_pos rfl,Kz7 s hs t _ h8 ht,bs]
   cases Kx9 s t ctx.length <;> rfl
def TyS (s:K00) (ty:List Int):Prop:=yN s.fSize true ty=true
theorem Kzb {s:K00} {ty:List Int} (h:TyS s ty):ty.length ≤ 40:=by
 unfold TyS yN at h
 rw [Bool.and_eq_true] at h
 exact Kue h.1
theorem Kzc {s:K00} {ty:List Int} (h:TyS s ty):∃ T:Ty,T.ok∧ty=T.code∧T.code.length ≤ 40∧T.code.all (Kt4 s.fSize true)=true:=by
 have hl:=Kzb h
 unfold TyS yN at h
 rw [Bool.and_eq_true] at h
 obtain ⟨T,h1,rfl,_⟩:=Kv5 h.1
 exact ⟨T,h1,rfl,hl,h.2⟩
theorem Kzd {s:K00} {T:Ty} (h:T.ok) (hl:T.code.length ≤ 40) (hc:T.code.all (Kt4 s.fSize true)=true):TyS s T.code:=by
 unfold TyS yN
 rw [Kv6 h hl,hc]; rfl
structure Kze (s:K00) (c:Int) (a b:List Int):Prop where
 ya:TyS s a
 yb:TyS s b
 p0:Keu (c :: (a ++ b),0)=some a
 p1:Keu (c :: (a ++ b),1)=some b
 pp:Kjx (c :: (a ++ b))=some [a,b]
structure Kzf (s:K00) (c:Int) (a:List Int):Prop where
 ya:TyS s a
 p0:Keu (c :: a,0)=some a
 pp:Kjx (c :: a)=some [a]
theorem Kzg {s:K00} {c:Int} (hc:c=35∨c=36):Kt4 s.fSize true c=false:=by
 rcases hc with rfl | rfl
 ·unfold Kt4 Kt3
  rw [show Ksi 35=2 from rfl]; simp
 ·unfold Kt4 Kt3
  rw [show Ksi 36=1 from rfl]; simp
theorem Kzh {s:K00}:TyS s [0]:=Kzd (T:=.num) trivial (by decide) (by
 show (Kt4 s.fSize true 0 && true)=true
 unfold Kt4
 rw [show Ksi 0=0 from rfl]; simp)
section
variable {s:K00} {n:Nat} (hs:Kxp s n)
include hs
theorem Kzi {c:Int} (hc:3 ≤ c∧c ≤ 18):Kt4 s.fSize true c=true ↔ c - 3 < (n:Int):=by
 have hk:Ksi c=2:=by rcases Ksm c with h | h | h | h <;> omega
 unfold Kt4 Kt3
 rw [hk,hs.tab.size,if_neg (by omega),if_neg (by omega)]
 simp
 omega
theorem Kzj {c:Int} (hc:19 ≤ c∧c ≤ 34):Kt4 s.fSize true c=true ↔ c - 19 < (n:Int):=by
 have hk:Ksi c=1:=by rcases Ksm c with h | h | h | h <;> omega
 unfold Kt4 Kt3
 rw [hk,hs.tab.size,if_neg (by omega),if_pos (by omega)]
 simp
 omega
theorem Kzk {ty:List Int} (h:TyS s ty):ty=[0]∨(∃ a b,ty=1 :: (a ++ b)∧Kze s 1 a b)∨(∃ a b,ty=2 :: (a ++ b)∧Kze s 2 a b) ∨
  (∃ (g:Nat) (a b:List Int),g < n∧g ≤ 15∧ty=(3 + (g:Int)) :: (a ++ b)∧Kze s (3 + (g:Int)) a b)∨(∃ (g:Nat) (a:List Int),g < n∧g ≤ 15∧ty=(19 + (g:Int)) :: a∧Kzf s (19 + (g:Int)) a):=by
 obtain ⟨T,hT,rfl,hl,hc⟩:=Kzc h
 cases T with
 | num=>exact .inl rfl
 | bin c a b =>
  have B:=Kwf hT (by omega)
  have hl':=hl
  rw [Ty.code,List.length_cons,List.length_append] at hl'
  rw [Ty.code,List.all_cons,List.all_append,Bool.and_eq_true,Bool.and_eq_true] at hc
  have hP:Kze s c a.code b.code:=⟨Kzd B.ok.1 (by omega) hc.2.1,Kzd B.ok.2 (by omega) hc.2.2,B.p0,B.p1,B.pp⟩
  have hk:=hT.1
  rcases Ksm c with ⟨q,e⟩ | ⟨q,e⟩ | ⟨q,e⟩ | ⟨q,e⟩
  ·rw [e] at hk; exact absurd hk (by decide)
  ·rcases q with rfl | rfl | q | rfl
   ·exact .inr (.inl ⟨_,_,rfl,hP⟩)
   ·exact .inr (.inr (.inl ⟨_,_,rfl,hP⟩))
   ·have:=(Kzi hs q).1 hc.1
    obtain ⟨g,hg⟩:∃ g:Nat,c=3 + (g:Int):=⟨(c - 3).toNat,by omega⟩
    subst hg
    exact .inr (.inr (.inr (.inl ⟨g,_,_,by omega,by omega,rfl,hP⟩)))
   ·rw [Kzg (s:=s) (.inl rfl)] at hc; exact absurd hc.1 (by decide)
  ·rw [e] at hk; exact absurd hk (by decide)
  ·rw [e] at hk; exact absurd hk (by decide)
 | un c a =>
  have B:=unP hT (by omega)
  have hl':=hl
  rw [Ty.code,List.length_cons] at hl'
  rw [Ty.code,List.all_cons,Bool.and_eq_true] at hc
  have hP:Kzf s c a.code:=⟨Kzd B.ok (by omega) hc.2,B.p0,B.pp⟩
  have hk:=hT.1
  rcases Ksm c with ⟨q,e⟩ | ⟨q,e⟩ | ⟨q,e⟩ | ⟨q,e⟩
  ·rw [e] at hk; exact absurd hk (by decide)
  ·rw [e] at hk; exact absurd hk (by decide)
  ·rcases q with q | rfl
   ·have:=(Kzj hs q).1 hc.1
    obtain ⟨g,hg⟩:∃ g:Nat,c=19 + (g:Int):=⟨(c - 19).toNat,by omega⟩
    subst hg
    exact .inr (.inr (.inr (.inr ⟨g,_,by omega,by omega,rfl,hP⟩)))
   ·rw [Kzg (s:=s) (.inr rfl)] at hc; exact absurd hc.1 (by decide)
  ·rw [e] at hk; exact absurd hk (by decide)
theorem Kzl {c:Int} {a b:List Int} (ha:TyS s a) (hb:TyS s b) (hc:c=1∨c=2∨∃ g:Nat,g < n∧c=3 + (g:Int)) (hl:(c :: (a ++ b)).length ≤ 40):TyS s (c :: (a ++ b)):=by
 obtain ⟨A,hA,rfl,_,hAc⟩:=Kzc ha
 obtain ⟨B,hB,rfl,_,hBc⟩:=Kzc hb
 have hn:=hs.tab.hi
 have hk:Ksi c=2∧Kt4 s.fSize true c=true:=by
  rcases hc with rfl | rfl | ⟨g,hg,rfl⟩
  ·exact ⟨rfl,by unfold Kt4; rw [show Ksi 1=2 from rfl]; simp⟩
  ·exact ⟨rfl,by unfold Kt4; rw [show Ksi 2=2 from rfl]; simp⟩
  ·refine ⟨by rcases Ksm (3 + (g:Int)) with h | h | h | h <;> omega,(Kzi hs (by omega)).2 (by omega)⟩
 have:TyS s (Ty.bin c A B).code:=Kzd ⟨hk.1,hA,hB⟩ hl (by rw [Ty.code,List.all_cons,List.all_append,hk.2,hAc,hBc]; rfl)
 exact this
theorem Kzm {g:Nat} (hg:g < n) {a:List Int} (ha:TyS s a) (hl:((19 + (g:Int)) :: a).length ≤ 40):TyS s ((19 + (g:Int)) :: a):=by
 obtain ⟨A,hA,rfl,_,hAc⟩:=Kzc ha
 have hn:=hs.tab.hi
 have hk:Ksi (19 + (g:Int))=1:=by rcases Ksm (19 + (g:Int)) with h | h | h | h <;> omega
 have:TyS s (Ty.un (19 + (g:Int)) A).code:=Kzd ⟨hk,hA⟩ hl (by rw [Ty.code,List.all_cons,(Kzj hs (by omega)).2 (by omega),hAc]; rfl)
 exact this
theorem Kzn {x:Int} (h:gN s.fSize true x=true):∃ g:Nat,x=(g:Int)∧g < n:=by
 unfold gN at h
 rw [hs.tab.size] at h
 simp at h
 exact ⟨x.toNat,by omega,by omega⟩
end
structure Kzo (s:K00) (n:Nat) (k:K01) (m:Nat):Prop where
 ok:tOk (gN s.fSize true) (yN s.fSize true) n k=true
 sz:tsz k + 1 ≤ m
theorem nd1 {s:K00} {n m:Nat} {op N:Int} {ty:List Int} {ks:List K01} (h:tOk (gN s.fSize true) (yN s.fSize true) n ⟨op,N,ty,ks⟩=true) (hm:tsz ⟨op,N,ty,ks⟩ ≤ m) (hk:Kti op=1):∃ a,ks=[a]∧Kzo s (n + Kts op 0) a m:=by
 obtain ⟨h1,h2⟩:=Kuf h
 obtain ⟨a,rfl⟩:=Kx7 (l:=ks) (beq_iff_eq.2 (by rw [← hk]; exact (Kuh h1).2))
 simp only at h2
 rw [Kx6,Bool.and_eq_true] at h2
 rw [Kxb] at hm
 exact ⟨a,rfl,h2.1,by omega⟩
theorem nd2 {s:K00} {n m:Nat} {op N:Int} {ty:List Int} {ks:List K01} (h:tOk (gN s.fSize true) (yN s.fSize true) n ⟨op,N,ty,ks⟩=true) (hm:tsz ⟨op,N,ty,ks⟩ ≤ m) (hk:Kti op=2):∃ a b,ks=[a,b]∧Kzo s (n + Kts op 0) a m∧Kzo s (n + Kts op 1) b m:=by
 obtain ⟨h1,h2⟩:=Kuf h
 obtain ⟨a,b,rfl⟩:=Kx8 (l:=ks) (beq_iff_eq.2 (by rw [← hk]; exact (Kuh h1).2))
 simp only at h2
 rw [Kx6,Kx6,Bool.and_eq_true,Bool.and_eq_true] at h2
 rw [Kxc] at hm
 exact ⟨a,b,rfl,⟨h2.1,by omega⟩,⟨h2.2.1,by omega⟩⟩
theorem nd3 {s:K00} {n m:Nat} {op N:Int} {ty:List Int} {ks:List K01} (h:tOk (gN s.fSize true) (yN s.fSize true) n ⟨op,N,ty,ks⟩=true) (hm:tsz ⟨op,N,ty,ks⟩ ≤ m) (hk:Kti op=3):∃ a b c,ks=[a,b,c]∧Kzo s (n + Kts op 0) a m∧Kzo s (n + Kts op 1) b m∧Kzo s (n + Kts op 2) c m:=by
 obtain ⟨h1,h2⟩:=Kuf h
 obtain ⟨a,b,c,rfl⟩:=Kxe (l:=ks) (by rw [← hk]; exact (Kuh h1).2)
 simp only at h2
 rw [Kx6,Kx6,Kx6,Bool.and_eq_true,Bool.and_eq_true,Bool.and_eq_true] at h2
 rw [Kxd] at hm
 exact ⟨a,b,c,rfl,⟨h2.1,by omega⟩,⟨h2.2.1,by omega⟩,⟨h2.2.2.1,by omega⟩⟩
theorem Kzp {s:K00} {n:Nat} {t:K01} (h:tOk (gN s.fSize true) (yN s.fSize true) n t=true) (hg:Ktj t.fOp=true):gN s.fSize true t.fN=true:=by
 have h1:=(Kuf h).1
 unfold Kty Ktw at h1
 simp only [Bool.and_eq_true] at h1
 have h2:=h1.1.2
 have hop:(t.fOp == 0)=false∧(t.fOp == 1)=false:=by
  simp only [Ktj,Bool.or_eq_true,beq_iff_eq] at hg
  constructor <;> rw [beq_eq_false_iff_ne] <;> omega
 rw [hop.1,hop.2,hg] at h2
 simpa using h2
theorem Kzq {s:K00} {n:Nat} {t:K01} (h:tOk (gN s.fSize true) (yN s.fSize true) n t=true) (hg:Ktk t.fOp=true):TyS s t.fType:=by
 have h1:=(Kuf h).1
 unfold Kty Ktx at h1
 simp only [Bool.and_eq_true] at h1
 have h2:=h1.2
 rw [hg] at h2
 show yN s.fSize true t.fType=true
 simpa using h2
theorem Kzr {s:K00} {n:Nat} {t:K01} (h:tOk (gN s.fSize true) (yN s.fSize true) n t=true) (hg:t.fOp=0):∃ i:Nat,t.fN=(i:Int)∧i < n∧t.fKids=[]:=by
 have h1:=(Kuf h).1
 have hl:=(Kuh h1).2
 unfold Kty Ktw at h1
 simp only [Bool.and_eq_true] at h1
 have h2:=h1.1.2
 rw [hg] at h2 hl
 simp [inB] at h2
 refine ⟨t.fN.toNat,by omega,by omega,?_⟩
 have:(t.fKids.length:Int)=0:=hl
 exact List.eq_nil_of_length_eq_zero (by omega)
theorem Kzs {s:K00} {n:Nat} {t:K01} (h:tOk (gN s.fSize true) (yN s.fSize true) n t=true) (hg:t.fOp=1):t.fKids=[]:=by
 have h1:=(Kuf h).1
 have hl:=(Kuh h1).2
 rw [hg] at hl
 have:(t.fKids.length:Int)=0:=hl
 exact List.eq_nil_of_length_eq_zero (by omega)
def Kzt (t:K01) (out:List K03) (w:Nat):Option (List (List Int)) :=
 (if (decide ((w:Int) > 0))=true then some (true) else some ((t.fOp == 9))) >>= fun v =>
 if v=true then
  (if (decide ((w:Int) > 0))=true then (idx out 0) >>= fun e=>some (e.fty) else some ([])) >>= fun first=>(Kk0 (t,(w:Int),first)) >>= fun r=>some (r)
 else some ([])
def Kzu (p0:K05) (ctx:List (List Int)) (t:K01) (out:List K03) (needs used:List (List Int)) (w:Nat) (more:List (List Int)) (y:K03):Option (((List K03) × (List (List Int)) × (List (List Int))) ⊕ (K03)) :=
 if (y.ffault != 0)=true then
  (Qd6 ([(w:Int)].length + y.fpath.length) 8) >>= fun _=>some (.inr (K03.mk [] [] [] y.ffault ([(w:Int)] ++ y.fpath)))
 else
  (Kki (p0,t,(w:Int),y.fty)) >>= fun f =>
  if (f != 0)=true then some (.inr (K03.mk [] [] [] f []))
  else
   (if (t.fOp == 10)=true then
    if ((w:Int) == 1)=true then
     (idx out 0) >>= fun e=>(Kjx e.fty) >>= fun r=>(idx r 0) >>= fun q=>(Kkp (y.fty,q)) >>= fun b=>some ((!b))
    else some (false)
   else some (false)) >>= fun v =>
   if v=true then some (.inr (K03.mk [] [] [] 3 []))
   else
    (Qd6 (out.length + [y].length) 8) >>= fun _ =>
    (cut y.fneeds none (some (more.length:Int)) none) >>= fun c1 =>
    (Qd6 (used.length + [c1].length) 24) >>= fun _ =>
    (cut y.fneeds (some (more.length:Int)) none none) >>= fun c2 =>
    (Qd6 (needs.length + [c2].length) 24) >>= fun _ =>
    Kn9 (p0,ctx,t,(out ++ [y]),(needs ++ [c2]),(used ++ [c1]),(wr ((w:Int) + 1)))
theorem Kzv {p0:K05} {ctx:List (List Int)} {t:K01} {out:List K03} {needs used:List (List Int)} {w:Nat} {k:K01} {more:List (List Int)} {y:K03} (hw:w < t.fKids.length) (hk:idx t.fKids (w:Int)=some k) (hm:Kzt t out w=some more)
  (hc:ctx.length + more.length ≤ 1000000) (hy:Kn8 (p0,more ++ ctx,k)=some y):Kn9 (p0,ctx,t,out,needs,used,(w:Int))=Kzu p0 ctx t out needs used w more y:=by
 rw [Kn9.eq_def]
 simp only
 rw [Kr0 hw,if_pos rfl,hk,bs]
 have key:∀ {β:Type} (R:List (List Int)→Option β),((if (decide ((w:Int) > 0))=true then some (true) else some ((t.fOp == 9))) >>= fun v =>
   (if v=true then (if (decide ((w:Int) > 0))=true then (idx out 0) >>= fun e=>some (e.fty) else some ([])) >>= fun first=>(Kk0 (t,(w:Int),first)) >>= fun r=>some (r) else some ([])) >>= R)=(Kzt t out w >>= R):=fun R=>by
  unfold Kzt
  simp only [Option.bind_eq_bind,Option.bind_assoc]
 refine (key _).trans ?_
 rw [hm,bs,Kyx [more,ctx] (by simp) (by simp; omega),bs]
 simp only [List.flatten_cons,List.flatten_nil,List.append_nil]
 rw [hy,bs]
 rfl
theorem Kzw {p0:K05} {ctx:List (List Int)} {t:K01} {out:List K03} {needs used:List (List Int)} {w:Nat} (hw:t.fKids.length ≤ w):Kn9 (p0,ctx,t,out,needs,used,(w:Int))=some (.inl (out,needs,used)):=by
 rw [Kn9.eq_def]
 simp only
 rw [Kr1 hw]; rfl
theorem Kzx {α:Type} {l:List α} {m:Nat} (h:m ≤ l.length):cut l none (some (m:Int)) none=some (l.take m):=by
 unfold cut
 simp only [Option.getD_none,Option.getD_some,Int.toNat_natCast,Int.toNat_zero,List.drop_zero]
 rw [if_pos (by omega)]
theorem Kzy {α:Type} {l:List α} {m:Nat} (h:m ≤ l.length):cut l (some (m:Int)) none none=some (l.drop m):=by
 unfold cut
 simp only [Option.getD_none,Option.getD_some,Int.toNat_natCast]
 rw [if_pos (by omega),List.take_length]
def Kzz (t:K01) (out:List K03) (w:Nat) (y:K03):Option Bool :=
 if (t.fOp == 10)=true then
  if ((w:Int) == 1)=true then
   (idx out 0) >>= fun e=>(Kjx e.fty) >>= fun r=>(idx r 0) >>= fun q=>(Kkp (y.fty,q)) >>= fun b=>some ((!b))
  else some (false)
 else some (false)
section
variable {p0:K05} {ctx:List (List Int)} {t:K01} {out:List K03} {needs used:List (List Int)} {w:Nat} {more:List (List Int)} {y:K03}
theorem V00 (h:y.ffault ≠ 0) (hp:y.fpath.length ≤ 1000000):Kzu p0 ctx t out needs used w more y=some (.inr ⟨[],[],[],y.ffault,(w:Int) :: y.fpath⟩):=by
 unfold Kzu
 rw [if_pos (bne_iff_ne.2 h),Kug (by simp; omega),bs]
 rfl
theorem V01 {f:Int} (h:y.ffault=0) (hf:Kki (p0,t,(w:Int),y.fty)=some f) (hf0:f ≠ 0):Kzu p0 ctx t out needs used w more y=some (.inr ⟨[],[],[],f,[]⟩):=by
 unfold Kzu
 rw [if_neg (by simp [h]),hf,bs,if_pos (bne_iff_ne.2 hf0)]
theorem V02 (h:y.ffault=0) (hf:Kki (p0,t,(w:Int),y.fty)=some 0) (ha:Kzz t out w y=some true):Kzu p0 ctx t out needs used w more y=some (.inr ⟨[],[],[],3,[]⟩):=by
 unfold Kzu
 rw [if_neg (by simp [h]),hf,bs,if_neg (by simp)]
 refine (congrArg (· >>= _) (show _=some true from ha)).trans ?_
 rw [bs,if_pos rfl]
theorem V03 {ns:List Nat} (h:y.ffault=0) (hf:Kki (p0,t,(w:Int),y.fty)=some 0) (ha:Kzz t out w y=some false) (hn:y.fneeds=Kxk ns) (hl:more.length ≤ ns.length)
  (h1:out.length ≤ 1000000) (h2:needs.length ≤ 1000000) (h3:used.length ≤ 1000000) (h4:w ≤ 1000000) :
  Kzu p0 ctx t out needs used w more y=Kn9 (p0,ctx,t,(out ++ [y]),(needs ++ [Kxk (ns.drop more.length)]),(used ++ [Kxk (ns.take more.length)]),((w + 1:Nat):Int)):=by
 unfold Kzu
 rw [if_neg (by simp [h]),hf,bs,if_neg (by simp)]
 refine (congrArg (· >>= _) (show _=some false from ha)).trans ?_
 rw [bs,if_neg (by simp),Kug (by simp; omega),bs,hn,Kzx (by rw [Kxl]; exact hl),bs,Kug (by simp; omega),bs,Kzy (by rw [Kxl]; exact hl),bs,Kug (by simp; omega),bs,Kqz (by omega),Kxn,Kxm]
theorem V04 {r:K03} (hc:ctx.length ≤ 1000000) (h:Kn9 (p0,ctx,t,[],[],[],((0:Nat):Int))=some (.inr r)):Kn8 (p0,ctx,t)=some r:=by
 rw [Kn8.eq_def]
 simp only
 rw [Kwi (by simp; omega),bs,show (0:Int)=((0:Nat):Int) from rfl,h]
 rfl
theorem V05 {o:List K03} {nd us:List (List Int)} {f:Int} {g:K03} (hc:ctx.length ≤ 1000000) (h:Kn9 (p0,ctx,t,[],[],[],((0:Nat):Int))=some (.inl (o,nd,us)))
  (hf:Kn3 (p0,⟨[],Kxk (List.replicate ctx.length 0),o,0,[]⟩,ctx,t,nd,us)=some (f,g)):Kn8 (p0,ctx,t)=some (if f=0 then ⟨g.fty,g.fneeds,g.fkids,0,g.fpath⟩ else ⟨[],[],[],f,[]⟩):=by
 have e:Kxk (List.replicate ctx.length 0)=List.replicate (Int.toNat (ctx.length:Int)) (0:Int):=by
  unfold Kxk; rw [List.map_replicate,Int.toNat_natCast]; rfl
 rw [e] at hf
 rw [Kn8.eq_def]
 simp only
 rw [Kwi (by simp; omega),bs,show Kn9 (p0,ctx,t,[],[],[],0)=some (.inl (o,nd,us)) from h,bs]
 simp only
 rw [hf,bs]
 simp only
 by_cases hz:f=0
 ·subst hz; rw [if_neg (by simp),if_pos rfl]
 ·rw [if_pos (bne_iff_ne.2 hz),if_neg hz]
theorem V06 (h:t.fOp ≠ 10):Kzz t out w y=some false:=by
 unfold Kzz
 rw [if_neg (by simpa using h)]
theorem V07 (h:w ≠ 1):Kzz t out w y=some false:=by
 unfold Kzz
 have:((w:Int) == 1)=false:=by rw [beq_eq_false_iff_ne]; omega
 rw [this]
 simp
end
section
variable {s:K00} {n:Nat} (hs:Kxp s n) {N:Int} {ty:List Int} {ks:List K01} {w:Nat} {c:Int} {r:List Int}
theorem V08 {op:Int} (h:(op=4∨op=6∨op=7∨op=9∨op=11)∨(w ≠ 0∧(op=3∨op=5∨op=8∨op=10∨op=12))):Kki (⟨s⟩,⟨op,N,ty,ks⟩,(w:Int),c :: r)=some 0:=by
 have hw:∀ hw:w ≠ 0,((w:Int) == 0)=false:=fun hw=>by rw [beq_eq_false_iff_ne]; omega
 unfold Kki
 rcases h with (rfl | rfl | rfl | rfl | rfl) | ⟨h0,(rfl | rfl | rfl | rfl | rfl)⟩
 all_goals first | simp [Kvo,Kso,hw h0] | (by_cases h0:w=0 <;> simp [Kvo,Kso,h0])
theorem V09:Kki (⟨s⟩,⟨2,N,ty,ks⟩,(w:Int),c :: r)=some (if (Ksn c).1=0 then 0 else 2):=by
 unfold Kki
 by_cases h:(Ksn c).1=0 <;> simp [Kvo,Kso,h]
theorem V0a:Kki (⟨s⟩,⟨3,N,ty,ks⟩,((0:Nat):Int),c :: r)=some (if (Ksn c).1=0 then 0 else 2):=by
 unfold Kki
 by_cases h:(Ksn c).1=0 <;> simp [Kvo,Kso,h]
theorem V0b:Kki (⟨s⟩,⟨10,N,ty,ks⟩,((0:Nat):Int),c :: r)=some (if (Ksn c).1=3 then 0 else 6):=by
 unfold Kki
 by_cases h:(Ksn c).1=3 <;> simp [Kvo,Kso,h]
include hs
theorem V0c {g:Nat} (hg:g < n):Kki (⟨s⟩,⟨5,(g:Int),ty,ks⟩,((0:Nat):Int),c :: r)=some (if (Ksn c).1=1 then (if le s n 1 g then 0 else 8) else 4):=by
 have hl:=iLe hs.tab (Kxr hs) hg
 unfold Kki
 by_cases h:(Ksn c).1=1 <;> cases hle:le s n 1 g <;> simp [Kvo,Kso,h,show Kh7 (s,1,(g:Int))=some (le s n 1 g) from hl,hle]
theorem V0d {g:Nat} (hg:g < n):Kki (⟨s⟩,⟨8,(g:Int),ty,ks⟩,((0:Nat):Int),c :: r)=some (if (Ksn c).1=2 then (if le s n 1 g then 0 else 8) else 5):=by
 have hl:=iLe hs.tab (Kxr hs) hg
 unfold Kki
 by_cases h:(Ksn c).1=2 <;> cases hle:le s n 1 g <;> simp [Kvo,Kso,h,show Kh7 (s,1,(g:Int))=some (le s n 1 g) from hl,hle]
theorem V0e {g:Nat} (hg:g < n):Kki (⟨s⟩,⟨12,(g:Int),ty,ks⟩,((0:Nat):Int),c :: r)=some (if (Ksn c).1=4 then (if le s n 1 g then 0 else 8) else 7):=by
 have hl:=iLe hs.tab (Kxr hs) hg
 unfold Kki
 by_cases h:(Ksn c).1=4 <;> cases hle:le s n 1 g <;> simp [Kvo,Kso,h,show Kh7 (s,1,(g:Int))=some (le s n 1 g) from hl,hle]
end
def V0f (ty:List Int) (ns:List Nat) (kids:List K03):Int × K03:=(if ty.length > 40 then 3 else 0,⟨ty,Kxk ns,kids,0,[]⟩)
theorem V0g {α:Type} (x:α) (l:List α):idx (x :: l) 0=some x:=rfl
theorem V0h {α:Type} (x y:α) (l:List α):idx (x :: y :: l) 1=some y:=rfl
theorem V0i {α:Type} (x y z:α) (l:List α):idx (x :: y :: z :: l) 2=some z:=rfl
section
variable {s:K00} {n:Nat} (hs:Kxp s n) {N:Int} {ty:List Int} {ks:List K01} {ctx us:List (List Int)} {z:List Int} {y0 y1 y2:K03} {a b d:List Nat}
theorem V0j {i:Nat} {q:List Int} {zs:List Nat} (hi:ctx[i]?=some q) (hz:i < zs.length) (hq:q.length ≤ 40):Kn3 (⟨s⟩,⟨[],Kxk zs,[],0,[]⟩,ctx,⟨0,(i:Int),ty,ks⟩,[],[])=some (V0f q (zs.set i 1) []):=by
 obtain ⟨h1,h2⟩:=List.getElem?_eq_some_iff.1 hi
 have e1:idx ctx (i:Int)=some q:=by rw [Kqy h1,h2]
 have e2:idx (Kxk zs) (i:Int)=some ((zs[i]:Nat):Int):=by rw [Kqy (by rw [Kxl]; exact hz)]; simp [Kxk]
 have e3:List.set (Kxk zs) i 1=Kxk (zs.set i 1):=by unfold Kxk; rw [List.map_set]; rfl
 have h40:¬ ((q.length:Int) > 40):=by omega
 unfold Kn3 Kmj V0f
 simp [e1,e2,e3,Kuj q (by omega),show ¬ (40 < (q.length:Int)) by omega,show ¬ (40 < q.length) by omega]
theorem V0k {zs:List Nat}:Kn3 (⟨s⟩,⟨[],Kxk zs,[],0,[]⟩,ctx,⟨1,N,ty,ks⟩,[],[])=some (V0f [0] zs []):=by
 unfold Kn3 Kmj V0f
 simp
theorem V0l (hy:y0.fty.length ≤ 1000) (ht:ty.length ≤ 1000):Kn3 (⟨s⟩,⟨[],z,[y0],0,[]⟩,ctx,⟨6,N,ty,ks⟩,[Kxk a],us)=some (V0f (2 :: (y0.fty ++ ty)) a [y0]):=by
 have hc:=Kyt [[2],y0.fty,ty] (by simp) (by simp; omega)
 unfold Kn3 Kmj V0f Kl5
 simp only [List.flatten_cons,List.flatten_nil,List.append_nil,List.singleton_append,List.cons_append,List.nil_append] at hc
 simp [V0g,V0h,hc]
 split <;> rename_i q40
 ·rw [if_pos (by omega)]
 ·rw [if_neg (by omega)]
theorem V0m (hy:y0.fty.length ≤ 1000) (ht:ty.length ≤ 1000):Kn3 (⟨s⟩,⟨[],z,[y0],0,[]⟩,ctx,⟨7,N,ty,ks⟩,[Kxk a],us)=some (V0f (2 :: (ty ++ y0.fty)) a [y0]):=by
 have hc:=Kyt [[2],ty,y0.fty] (by simp) (by simp; omega)
 unfold Kn3 Kmj V0f Kl5
 simp only [List.flatten_cons,List.flatten_nil,List.append_nil,List.singleton_append,List.cons_append,List.nil_append] at hc
 simp [V0g,V0h,hc]
 split <;> rename_i q40
 ·rw [if_pos (by omega)]
 ·rw [if_neg (by omega)]
include hs
theorem V0n (ha:Ky0 n a) (hb:Ky0 n b) (hl:a.length ≤ 1000000) (hab:a.length=b.length):Kn3 (⟨s⟩,⟨[],z,[y0,y1],0,[]⟩,ctx,⟨2,N,ty,ks⟩,[Kxk a,Kxk b],us)=some (V0f [0] (Kxx s n a b) [y0,y1]):=by
 have h:=Kyf hs a b ha hb (by omega) hab
 unfold Kn3 Kmj V0f
 simp [V0g,V0h,h]
theorem V0o (ha:Ky0 n a) (hb:Ky0 n b) (hd:Ky0 n d) (hl:a.length ≤ 1000000) (hab:a.length=b.length) (had:a.length=d.length) (h2:y2.fty.length ≤ 1000) (h1:y1.fty.length ≤ 40) :
  Kn3 (⟨s⟩,⟨[],z,[y0,y1,y2],0,[]⟩,ctx,⟨3,N,ty,ks⟩,[Kxk a,Kxk b,Kxk d],us)=some (if y1.fty=y2.fty then V0f y1.fty (Kxx s n a (Kxz s n b d)) [y0,y1,y2] else (3,⟨[],z,[y0,y1,y2],0,[]⟩)):=by
 have hj:=Kyh hs b d hb hd (by omega) (by omega)
 have hlj:(Kxz s n b d).length=a.length:=by unfold Kxz; rw [List.length_zipWith]; omega
 have h:=Kyf hs a (Kxz s n b d) ha (Ky5 hs hb hd) (by omega) hlj.symm
 have he:=Kx5 y1.fty y2.fty (by omega)
 unfold Kn3 Kmj V0f Kl5
 by_cases hq:y1.fty=y2.fty
 ·rw [show (y1.fty == y2.fty)=true from beq_iff_eq.2 hq] at he
  rw [if_pos hq]
  simp [V0g,V0h,V0i,he,hj,h,show ¬ (40 < (y1.fty.length:Int)) by omega,show ¬ (40 < y1.fty.length) by omega]
 ·rw [show (y1.fty == y2.fty)=false from beq_eq_false_iff_ne.2 hq] at he
  rw [if_neg hq]
  simp [V0g,V0h,V0i,he]
theorem V0p (ha:Ky0 n a) (hb:Ky0 n b) (hl:a.length ≤ 1000000) (hab:a.length=b.length) (h0:y0.fty.length ≤ 1000) (h1:y1.fty.length ≤ 1000) :
  Kn3 (⟨s⟩,⟨[],z,[y0,y1],0,[]⟩,ctx,⟨4,N,ty,ks⟩,[Kxk a,Kxk b],us)=some (V0f (1 :: (y0.fty ++ y1.fty)) (Kxx s n a b) [y0,y1]):=by
 have h:=Kyf hs a b ha hb (by omega) hab
 have hc:=Kyt [[1],y0.fty,y1.fty] (by simp) (by simp; omega)
 unfold Kn3 Kmj V0f Kl5
 simp only [List.flatten_cons,List.flatten_nil,List.append_nil,List.singleton_append,List.cons_append,List.nil_append] at hc
 simp [V0g,V0h,hc,h]
 split <;> rename_i q40
 ·rw [if_pos (by omega)]
 ·rw [if_neg (by omega)]
theorem V0q {g:Nat} (hg:g < n) {u:List Nat} (hu:Ky0 n u) (hul:u.length ≤ 1000000) (hy:y0.fty.length ≤ 1000) (ht:ty.length ≤ 1000) :
  Kn3 (⟨s⟩,⟨[],z,[y0],0,[]⟩,ctx,⟨9,(g:Int),ty,ks⟩,[Kxk a],[Kxk u])=some (if (u.all fun x=>le s n x g)=true then V0f ((3 + (g:Int)) :: (ty ++ y0.fty)) a [y0] else (9,⟨[],z,[y0],0,[]⟩)):=by
 have hn:=hs.tab.hi
 have e:=Kyl hs g hg u hu (by omega)
 have hw:wr (3 + (g:Int))=3 + (g:Int):=Kqx (by omega) (by omega)
 have hc:=Kyt [[3 + (g:Int)],ty,y0.fty] (by simp) (by simp; omega)
 unfold Kn3 Kmj V0f Kl5
 simp only [List.flatten_cons,List.flatten_nil,List.append_nil,List.singleton_append,List.cons_append,List.nil_append] at hc
 cases hq:(u.all fun x=>le s n x g) with
 | true =>
  rw [hq] at e
  simp [V0g,V0h,e,hc,hw]
  split <;> rename_i q40
  ·rw [if_pos (by omega)]
  ·rw [if_neg (by omega)]
 | false =>
  rw [hq] at e
  simp [V0g,V0h,e]
theorem V0r {g:Nat} (hg:g < n) (ha:Ky0 n a) (hl:a.length ≤ 1000000) (hy:y0.fty.length ≤ 1000) :
  Kn3 (⟨s⟩,⟨[],z,[y0],0,[]⟩,ctx,⟨11,(g:Int),ty,ks⟩,[Kxk a],us)=some (V0f ((19 + (g:Int)) :: y0.fty) (Kxy s n g a) [y0]):=by
 have hn:=hs.tab.hi
 have e:=Kyj hs g hg a ha (by omega)
 have hw:wr (19 + (g:Int))=19 + (g:Int):=Kqx (by omega) (by omega)
 have hc:=Kyt [[19 + (g:Int)],y0.fty] (by simp) (by simp; omega)
 unfold Kn3 Kmj V0f Kl5
 simp only [List.flatten_cons,List.flatten_nil,List.append_nil,List.singleton_append,List.cons_append,List.nil_append] at hc
 simp [V0g,V0h,hc,hw,e]
 split <;> rename_i q40
 ·rw [if_pos (by omega)]
 ·rw [if_neg (by omega)]
theorem V0s {g:Nat} (hg:g < n) {p q:List Int} (hty:y0.fty=(3 + (g:Int)) :: (p ++ q)) (hP:Kze s (3 + (g:Int)) p q) (ha:Ky0 n a) (hb:Ky0 n b) (hl:a.length ≤ 1000000) (hab:a.length=b.length) :
  Kn3 (⟨s⟩,⟨[],z,[y0,y1],0,[]⟩,ctx,⟨10,N,ty,ks⟩,[Kxk a,Kxk b],us)=some (V0f q (Kxx s n a (Kxy s n g b)) [y0,y1]):=by
 have hn:=hs.tab.hi
 have e:=Kyj hs g hg b hb (by omega)
 have hlj:(Kxy s n g b).length=a.length:=by unfold Kxy; rw [List.length_map]; omega
 have h:=Kyf hs a (Kxy s n g b) ha (Ky4 hs hg hb) (by omega) hlj.symm
 have hsh:Ksn (3 + (g:Int))=(3,(g:Int)):=by
  rcases Ksp (3 + (g:Int)) with h | h | h | h | h | h | h | h <;> first | omega | (obtain ⟨_,e⟩:=h; rw [e]; congr 1; omega)
 have hq:=Kzb hP.yb
 have pp:=hP.pp
 rw [← hty] at pp
 have i0:idx y0.fty 0=some (3 + (g:Int)):=by rw [hty]; rfl
 unfold Kn3 Kmj V0f Kl5
 simp [V0g,V0h,i0,Kso,hsh,pp,e,h,show ¬ (40 < (q.length:Int)) by omega,show ¬ (40 < q.length) by omega]
theorem V0t {g:Nat} (hg:g < n) {u:List Nat} {us':List Int} (hu:Ky0 n u) (hul:u.length ≤ 1000000) (ha:Ky0 n a) (hb:Ky0 n b) (hl:a.length ≤ 1000000) (hab:a.length=b.length) (h1:y1.fty.length ≤ 40) :
  Kn3 (⟨s⟩,⟨[],z,[y0,y1],0,[]⟩,ctx,⟨5,(g:Int),ty,ks⟩,[Kxk a,Kxk b],[us',Kxk u])=some (if (u.all fun x=>le s n x g)=true then V0f y1.fty (Kxx s n (Kxy s n g a) b) [y0,y1] else (9,⟨[],z,[y0,y1],0,[]⟩)):=by
 have e:=Kyl hs g hg u hu (by omega)
 have e2:=Kyj hs g hg a ha (by omega)
 have hlj:(Kxy s n g a).length=a.length:=by unfold Kxy; rw [List.length_map]
 have h:=Kyf hs (Kxy s n g a) b (Ky4 hs hg ha) hb (by omega) (by omega)
 unfold Kn3 Kmj V0f Kl5
 cases hq:(u.all fun x=>le s n x g) with
 | true =>
  rw [hq] at e
  simp [V0g,V0h,e,e2,h,show ¬ (40 < (y1.fty.length:Int)) by omega,show ¬ (40 < y1.fty.length) by omega]
 | false =>
  rw [hq] at e
  simp [V0g,V0h,e]
theorem V0u {g m:Nat} (hg:g < n) (hm:m < n) {p:List Int} (hty:y0.fty=(19 + (m:Int)) :: p) {u:List Nat} {us':List Int} (hu:Ky0 n u) (hul:u.length ≤ 1000000) (ha:Ky0 n a) (hb:Ky0 n b) (hl:a.length ≤ 1000000) (hab:a.length=b.length) (h1:y1.fty.length ≤ 40) :
  Kn3 (⟨s⟩,⟨[],z,[y0,y1],0,[]⟩,ctx,⟨12,(g:Int),ty,ks⟩,[Kxk a,Kxk b],[us',Kxk u])=some (if (u.all fun x=>le s n x (ti s n g m))=true then V0f y1.fty (Kxx s n (Kxy s n g a) b) [y0,y1] else (9,⟨[],z,[y0,y1],0,[]⟩)):=by
 have hn:=hs.tab.hi
 have e0:=Kro hs.tab hg hm
 have e:=Kyl hs (ti s n g m) (Krh hs.tab hg hm) u hu (by omega)
 have e2:=Kyj hs g hg a ha (by omega)
 have hlj:(Kxy s n g a).length=a.length:=by unfold Kxy; rw [List.length_map]
 have h:=Kyf hs (Kxy s n g a) b (Ky4 hs hg ha) hb (by omega) (by omega)
 have hsh:Ksn (19 + (m:Int))=(4,(m:Int)):=by
  rcases Ksp (19 + (m:Int)) with h | h | h | h | h | h | h | h <;> first | omega | (obtain ⟨_,e⟩:=h; rw [e]; congr 1; omega)
 have i0:idx y0.fty 0=some (19 + (m:Int)):=by rw [hty]; rfl
 unfold Kn3 Kmj V0f Kl5
 cases hq:(u.all fun x=>le s n x (ti s n g m)) with
 | true =>
  rw [hq] at e
  simp [V0g,V0h,i0,Kso,hsh,e0,e,e2,h,show ¬ (40 < (y1.fty.length:Int)) by omega,show ¬ (40 < y1.fty.length) by omega]
 | false =>
  rw [hq] at e
  simp [V0g,V0h,i0,Kso,hsh,e0,e]
theorem V0v {g:Nat} (hg:g < n) {u v:List Nat} {us':List Int} (hu:Ky0 n u) (hul:u.length ≤ 1000000) (hv:Ky0 n v) (hvl:v.length ≤ 1000000) (ha:Ky0 n a) (hb:Ky0 n b) (hd:Ky0 n d) (hl:a.length ≤ 1000000) (hab:a.length=b.length) (had:a.length=d.length) (h2:y2.fty.length ≤ 1000) (h1:y1.fty.length ≤ 40) :
  Kn3 (⟨s⟩,⟨[],z,[y0,y1,y2],0,[]⟩,ctx,⟨8,(g:Int),ty,ks⟩,[Kxk a,Kxk b,Kxk d],[us',Kxk u,Kxk v]) =
   some (if y1.fty=y2.fty then (if (u.all fun x=>le s n x g)=true∧(v.all fun x=>le s n x g)=true then V0f y1.fty (Kxx s n (Kxy s n g a) (Kxz s n b d)) [y0,y1,y2] else (9,⟨[],z,[y0,y1,y2],0,[]⟩)) else (3,⟨[],z,[y0,y1,y2],0,[]⟩)):=by
 have e:=Kyl hs g hg u hu (by omega)
 have e':=Kyl hs g hg v hv (by omega)
 have e2:=Kyj hs g hg a ha (by omega)
 have hj:=Kyh hs b d hb hd (by omega) (by omega)
 have hlj:(Kxz s n b d).length=a.length:=by unfold Kxz; rw [List.length_zipWith]; omega
 have hls:(Kxy s n g a).length=a.length:=by unfold Kxy; rw [List.length_map]
 have h:=Kyf hs (Kxy s n g a) (Kxz s n b d) (Ky4 hs hg ha) (Ky5 hs hb hd) (by omega) (by omega)
 have he:=Kx5 y1.fty y2.fty (by omega)
 unfold Kn3 Kmj V0f Kl5
 by_cases hq:y1.fty=y2.fty
 ·rw [show (y1.fty == y2.fty)=true from beq_iff_eq.2 hq] at he
  rw [if_pos hq]
  cases hu':(u.all fun x=>le s n x g) with
  | false =>
   rw [hu'] at e
   simp [V0g,V0h,V0i,he,e]
  | true =>
   rw [hu'] at e
   cases hv':(v.all fun x=>le s n x g) with
   | false =>
    rw [hv'] at e'
    simp [V0g,V0h,V0i,he,e,e']
   | true =>
    rw [hv'] at e'
    simp [V0g,V0h,V0i,he,e,e',e2,hj,h,show ¬ (40 < (y1.fty.length:Int)) by omega,show ¬ (40 < y1.fty.length) by omega]
 ·rw [show (y1.fty == y2.fty)=false from beq_eq_false_iff_ne.2 hq] at he
  rw [if_neg hq]
  simp [V0g,V0h,V0i,he]
end
def V0w (t:K01) (i:Nat) (kids:List K03):List (List Int):=(Kk0 (t,(i:Int),(match kids with | []=>[] | y :: _=>y.fty))).getD []
structure V0x (s:K00) (ctx:List (List Int)) (t:K01) (kids:List K03) (i:Nat) (k:K01) (y:K03):Prop where
 im:Kn8 (⟨s⟩,V0w t i kids ++ ctx,k)=some y
 fa:y.ffault=0
 ty:∀ q ∈ V0w t i kids,TyS s q
 ln:(V0w t i kids).length=Kts t.fOp i
structure V0y (s:K00) (n:Nat) (ctx:List (List Int)) (t:K01) (x:K02) (y:K03):Prop where
 sp:Kfh (s,ctx,t)=some x
 im:Kn8 (⟨s⟩,ctx,t)=some y
 ty:y.fty=x.fty
 ne:y.fneeds=x.fneeds
 fa:y.ffault=x.ffault
 pa:y.fpath=x.fpath
 pl:x.fpath.length + 1 ≤ tsz t
 bd:x.ffault ≠ 0→x.fty=[]∧x.fneeds=[]
 gd:x.ffault=0→TyS s x.fty∧x.fpath=[]∧∃ ns:List Nat,x.fneeds=Kxk ns∧ns.length=ctx.length∧Ky0 n ns
 kd:x.ffault=0→y.fkids.length=t.fKids.length∧∀ (i:Nat) (k:K01),t.fKids[i]?=some k→∃ yk,y.fkids[i]?=some yk∧V0x s ctx t y.fkids i k yk
section
variable {s:K00} {n:Nat} {ctx:List (List Int)} {t:K01}
theorem V0y.bad {f:Int} {p:List Int} (sp:Kfh (s,ctx,t)=some ⟨[],[],f,p⟩) (im:Kn8 (⟨s⟩,ctx,t)=some ⟨[],[],[],f,p⟩) (hf:f ≠ 0) (hp:p.length + 1 ≤ tsz t):∃ x y,V0y s n ctx t x y :=
 ⟨_,_,{ sp:=sp,im:=im,ty:=rfl,ne:=rfl,fa:=rfl,pa:=rfl,pl:=hp,bd:=fun _=>⟨rfl,rfl⟩,gd:=fun h=>absurd h hf,kd:=fun h=>absurd h hf }⟩
theorem V0y.good {q:List Int} {ns:List Nat} {kids:List K03} (sp:Kfh (s,ctx,t)=some ⟨q,Kxk ns,0,[]⟩) (im:Kn8 (⟨s⟩,ctx,t)=some ⟨q,Kxk ns,kids,0,[]⟩) (hp:1 ≤ tsz t) (hq:TyS s q) (hl:ns.length=ctx.length) (hb:Ky0 n ns)
  (kl:kids.length=t.fKids.length) (kd:∀ (i:Nat) (k:K01),t.fKids[i]?=some k→∃ yk,kids[i]?=some yk∧V0x s ctx t kids i k yk):∃ x y,V0y s n ctx t x y :=
 ⟨_,_,{ sp:=sp,im:=im,ty:=rfl,ne:=rfl,fa:=rfl,pa:=rfl,pl:=by simpa using hp,bd:=fun h=>absurd rfl h,gd:=fun _=>⟨hq,rfl,ns,rfl,hl,hb⟩,kd:=fun _=>⟨kl,kd⟩ }⟩
theorem V0y.done {q:List Int} {ns:List Nat} {kids:List K03} (sp:Kfh (s,ctx,t)=Ker (q,Kxk ns)) (im:Kn8 (⟨s⟩,ctx,t)=some (if (V0f q ns kids).1=0 then ⟨(V0f q ns kids).2.fty,(V0f q ns kids).2.fneeds,(V0f q ns kids).2.fkids,0,(V0f q ns kids).2.fpath⟩ else ⟨[],[],[],(V0f q ns kids).1,[]⟩)) (hp:1 ≤ tsz t)
  (hq:q.length ≤ 40→TyS s q) (hl:ns.length=ctx.length) (hb:Ky0 n ns) (kl:kids.length=t.fKids.length) (kd:∀ (i:Nat) (k:K01),t.fKids[i]?=some k→∃ yk,kids[i]?=some yk∧V0x s ctx t kids i k yk):∃ x y,V0y s n ctx t x y:=by
 unfold Ker Kea at sp
 simp only at sp
 unfold V0f at im
 by_cases h:q.length > 40
 ·rw [decide_eq_true (by omega),if_pos rfl,bs] at sp
  rw [if_pos h,if_neg (by simp)] at im
  exact V0y.bad sp im (by decide) (by simpa using hp)
 ·rw [decide_eq_false (by omega),if_neg (by decide)] at sp
  rw [if_neg h,if_pos rfl] at im
  exact V0y.good sp im hp (hq (by omega)) hl hb kl kd
theorem V0z {i:Nat} {k:K01} {x:K02} {y:K03} {c:List (List Int)} (hk:t.fKids[i]?=some k) (h:V0y s n c k x y) (hf:x.ffault=0):Kfj (s,c,t,(i:Int))=some x:=by
 obtain ⟨h1,h2⟩:=List.getElem?_eq_some_iff.1 hk
 rw [Kfj.eq_def]
 simp only
 rw [Kqy h1,h2,bs,h.sp,bs,if_neg (by simp [hf]),bs]
theorem V10 {i:Nat} {k:K01} {x:K02} {y:K03} {c:List (List Int)} (hk:t.fKids[i]?=some k) (h:V0y s n c k x y) (hz:tsz k ≤ 1000000) (hf:x.ffault ≠ 0):Kfj (s,c,t,(i:Int))=some ⟨[],[],x.ffault,(i:Int) :: x.fpath⟩:=by
 obtain ⟨h1,h2⟩:=List.getElem?_eq_some_iff.1 hk
 have hp:=h.pl
 obtain ⟨q1,q2⟩:=h.bd hf
 rw [Kfj.eq_def]
 simp only
 rw [Kqy h1,h2,bs,h.sp,bs,if_pos (bne_iff_ne.2 hf),Kug (by simp; omega),bs,bs,q1,q2]
 rfl
variable {out:List K03} {nd us:List (List Int)} {w:Nat} {k:K01} {m:List (List Int)} {x:K02} {y:K03}
theorem V11 (hk:t.fKids[w]?=some k) (hm:Kzt t out w=some m) (r:V0y s n (m ++ ctx) k x y) (hz:tsz k ≤ 1000000) (hc:ctx.length + m.length ≤ 1000000) (hf:x.ffault ≠ 0) :
  Kn9 (⟨s⟩,ctx,t,out,nd,us,(w:Int))=some (.inr ⟨[],[],[],x.ffault,(w:Int) :: x.fpath⟩):=by
 obtain ⟨h1,h2⟩:=List.getElem?_eq_some_iff.1 hk
 have hp:=r.pl
 rw [Kzv h1 (by rw [Kqy h1,h2]) hm hc r.im,V00 (by rw [r.fa]; exact hf) (by rw [r.pa]; omega),r.fa,r.pa]
theorem V12 {f:Int} (hk:t.fKids[w]?=some k) (hm:Kzt t out w=some m) (r:V0y s n (m ++ ctx) k x y) (hc:ctx.length + m.length ≤ 1000000) (hf:x.ffault=0) (h:Kki (⟨s⟩,t,(w:Int),x.fty)=some f) (hf0:f ≠ 0) :
  Kn9 (⟨s⟩,ctx,t,out,nd,us,(w:Int))=some (.inr ⟨[],[],[],f,[]⟩):=by
 obtain ⟨h1,h2⟩:=List.getElem?_eq_some_iff.1 hk
 rw [Kzv h1 (by rw [Kqy h1,h2]) hm hc r.im,V01 (by rw [r.fa]; exact hf) (by rw [r.ty]; exact h) hf0]
theorem V13 (hk:t.fKids[w]?=some k) (hm:Kzt t out w=some m) (r:V0y s n (m ++ ctx) k x y) (hc:ctx.length + m.length ≤ 1000000) (hf:x.ffault=0) (h:Kki (⟨s⟩,t,(w:Int),x.fty)=some 0) (ha:Kzz t out w y=some true) :
  Kn9 (⟨s⟩,ctx,t,out,nd,us,(w:Int))=some (.inr ⟨[],[],[],3,[]⟩):=by
 obtain ⟨h1,h2⟩:=List.getElem?_eq_some_iff.1 hk
 rw [Kzv h1 (by rw [Kqy h1,h2]) hm hc r.im,V02 (by rw [r.fa]; exact hf) (by rw [r.ty]; exact h) ha]
theorem V14 {ns:List Nat} (hk:t.fKids[w]?=some k) (hm:Kzt t out w=some m) (r:V0y s n (m ++ ctx) k x y) (hc:ctx.length + m.length ≤ 1000000) (hf:x.ffault=0) (h:Kki (⟨s⟩,t,(w:Int),x.fty)=some 0) (ha:Kzz t out w y=some false)
  (hn:x.fneeds=Kxk ns) (hl:m.length ≤ ns.length) (h1':out.length ≤ 1000000) (h2':nd.length ≤ 1000000) (h3':us.length ≤ 1000000) (h4':w ≤ 1000000) :
  Kn9 (⟨s⟩,ctx,t,out,nd,us,(w:Int))=Kn9 (⟨s⟩,ctx,t,(out ++ [y]),(nd ++ [Kxk (ns.drop m.length)]),(us ++ [Kxk (ns.take m.length)]),((w + 1:Nat):Int)):=by
 obtain ⟨h1,h2⟩:=List.getElem?_eq_some_iff.1 hk
 rw [Kzv h1 (by rw [Kqy h1,h2]) hm hc r.im,V03 (by rw [r.fa]; exact hf) (by rw [r.ty]; exact h) ha (by rw [r.ne]; exact hn) hl h1' h2' h3' h4']
end
theorem V15 {op N:Int} {ty:List Int} {ks:List K01} {i:Nat} {q:List Int} (h9:op ≠ 9) (h:Kts op (i:Int)=0):Kk0 (⟨op,N,ty,ks⟩,(i:Int),q)=some []:=by
 unfold Kk0
 simp only
 rw [if_neg (by simpa using h9),Ktv,bs,h]
 rfl
theorem V16 {N:Int} {ty:List Int} {ks:List K01} {i:Nat} {q:List Int}:Kk0 (⟨9,N,ty,ks⟩,(i:Int),q)=some [ty]:=by
 unfold Kk0
 simp only
 rw [if_pos (by decide)]
theorem V17 {s:K00} {N:Int} {ty:List Int} {ks:List K01} {p q:List Int} (h:Kze s 1 p q):Kk0 (⟨5,N,ty,ks⟩,((1:Nat):Int),1 :: (p ++ q))=some [q,p]:=by
 unfold Kk0
 simp only
 rw [if_neg (by decide),Ktv,bs,show Kts 5 ((1:Nat):Int)=2 from rfl,if_neg (by decide),h.pp,bs,if_pos (by decide)]
 rfl
theorem V18 {s:K00} {N:Int} {ty:List Int} {ks:List K01} {p q:List Int} (h:Kze s 2 p q):Kk0 (⟨8,N,ty,ks⟩,((1:Nat):Int),2 :: (p ++ q))=some [p]:=by
 unfold Kk0
 simp only
 rw [if_neg (by decide),Ktv,bs,show Kts 8 ((1:Nat):Int)=1 from rfl,if_neg (by decide),h.pp,bs,if_neg (by decide),if_pos (by decide)]
 rfl
theorem V19 {s:K00} {N:Int} {ty:List Int} {ks:List K01} {p q:List Int} (h:Kze s 2 p q):Kk0 (⟨8,N,ty,ks⟩,((2:Nat):Int),2 :: (p ++ q))=some [q]:=by
 unfold Kk0
 simp only
 rw [if_neg (by decide),Ktv,bs,show Kts 8 ((2:Nat):Int)=1 from rfl,if_neg (by decide),h.pp,bs,if_neg (by decide),if_pos (by decide)]
 rfl
theorem V1a {s:K00} {N c:Int} {ty:List Int} {ks:List K01} {p:List Int} (h:Kzf s c p):Kk0 (⟨12,N,ty,ks⟩,((1:Nat):Int),c :: p)=some [p]:=by
 unfold Kk0
 simp only
 rw [if_neg (by decide),Ktv,bs,show Kts 12 ((1:Nat):Int)=1 from rfl,if_neg (by decide),h.pp,bs,if_neg (by decide),if_neg (by decide)]
theorem V1b {op N:Int} {ty:List Int} {ks:List K01} (h9:op ≠ 9):Kzt ⟨op,N,ty,ks⟩ [] 0=some []:=by
 unfold Kzt
 simp [h9]
theorem V1c {N:Int} {ty:List Int} {ks:List K01}:Kzt ⟨9,N,ty,ks⟩ [] 0=some [ty]:=by
 unfold Kzt
 have:=@V16 N ty ks 0 []
 simp at this ⊢
 rw [this]
theorem V1d {t:K01} {w:Nat} {y0:K03} {l:List K03} {m:List (List Int)} (hw:0 < w) (h:Kk0 (t,(w:Int),y0.fty)=some m):Kzt t (y0 :: l) w=some m:=by
 unfold Kzt
 rw [show decide ((w:Int) > 0)=true from decide_eq_true (by omega),if_pos rfl,bs,if_pos rfl,if_pos rfl,V0g,bs,bs,h,bs]
theorem V1e {t:K01} {i:Nat} {y0:K03} {l:List K03} {m:List (List Int)} (h:Kk0 (t,(i:Int),y0.fty)=some m):V0w t i (y0 :: l)=m:=by
 unfold V0w
 simp only
 rw [h]; rfl
theorem kd1 {s:K00} {ctx:List (List Int)} {op N:Int} {ty:List Int} {k0:K01} {y0:K03} (h0:V0x s ctx ⟨op,N,ty,[k0]⟩ [y0] 0 k0 y0) :
  ∀ (i:Nat) (k:K01),(⟨op,N,ty,[k0]⟩:K01).fKids[i]?=some k→∃ yk,[y0][i]?=some yk∧V0x s ctx ⟨op,N,ty,[k0]⟩ [y0] i k yk:=by
 intro i k hk
 match i,hk with
 | 0,hk=>cases hk; exact ⟨y0,rfl,h0⟩
 | i + 1,hk=>simp at hk
theorem kd2 {s:K00} {ctx:List (List Int)} {op N:Int} {ty:List Int} {k0 k1:K01} {y0 y1:K03} (h0:V0x s ctx ⟨op,N,ty,[k0,k1]⟩ [y0,y1] 0 k0 y0) (h1:V0x s ctx ⟨op,N,ty,[k0,k1]⟩ [y0,y1] 1 k1 y1) :
  ∀ (i:Nat) (k:K01),(⟨op,N,ty,[k0,k1]⟩:K01).fKids[i]?=some k→∃ yk,[y0,y1][i]?=some yk∧V0x s ctx ⟨op,N,ty,[k0,k1]⟩ [y0,y1] i k yk:=by
 intro i k hk
 match i,hk with
 | 0,hk=>cases hk; exact ⟨y0,rfl,h0⟩
 | 1,hk=>cases hk; exact ⟨y1,rfl,h1⟩
 | i + 2,hk=>simp at hk
theorem kd3 {s:K00} {ctx:List (List Int)} {op N:Int} {ty:List Int} {k0 k1 k2:K01} {y0 y1 y2:K03} (h0:V0x s ctx ⟨op,N,ty,[k0,k1,k2]⟩ [y0,y1,y2] 0 k0 y0) (h1:V0x s ctx ⟨op,N,ty,[k0,k1,k2]⟩ [y0,y1,y2] 1 k1 y1) (h2:V0x s ctx ⟨op,N,ty,[k0,k1,k2]⟩ [y0,y1,y2] 2 k2 y2) :
  ∀ (i:Nat) (k:K01),(⟨op,N,ty,[k0,k1,k2]⟩:K01).fKids[i]?=some k→∃ yk,[y0,y1,y2][i]?=some yk∧V0x s ctx ⟨op,N,ty,[k0,k1,k2]⟩ [y0,y1,y2] i k yk:=by
 intro i k hk
 match i,hk with
 | 0,hk=>cases hk; exact ⟨y0,rfl,h0⟩
 | 1,hk=>cases hk; exact ⟨y1,rfl,h1⟩
 | 2,hk=>cases hk; exact ⟨y2,rfl,h2⟩
 | i + 3,hk=>simp at hk
theorem V0x.mk' {s:K00} {n:Nat} {ctx m:List (List Int)} {t k:K01} {y0:K03} {l:List K03} {i:Nat} {x:K02} {y:K03} (ha:Kk0 (t,(i:Int),y0.fty)=some m) (r:V0y s n (m ++ ctx) k x y) (hf:x.ffault=0) (hm:∀ q ∈ m,TyS s q) (hl:m.length=Kts t.fOp i):V0x s ctx t (y0 :: l) i k y:=by
 have e:=V1e (l:=l) ha
 exact ⟨by rw [e]; exact r.im,by rw [r.fa]; exact hf,by rw [e]; exact hm,by rw [e]; exact hl⟩
def V1f (s:K00) (n sz:Nat):Prop:=∀ (k:K01) (c:List (List Int)),Kzo s c.length k sz→(∀ q ∈ c,TyS s q)→c.length + 2 * tsz k ≤ 1000000→∃ x y,V0y s n c k x y
theorem V1g {X:Option K03} {q:List Int} {ns:List Nat} {kids:List K03} (h:q.length ≤ 40) (im:X=some (if (V0f q ns kids).1=0 then (⟨(V0f q ns kids).2.fty,(V0f q ns kids).2.fneeds,(V0f q ns kids).2.fkids,0,(V0f q ns kids).2.fpath⟩:K03) else ⟨[],[],[],(V0f q ns kids).1,[]⟩)):X=some ⟨q,Kxk ns,kids,0,[]⟩:=by
 rw [im]
 unfold V0f
 simp only
 rw [show (if q.length > 40 then (3:Int) else 0)=0 from if_neg (by omega),if_pos rfl]
section
variable {s:K00} {n:Nat} (hs:Kxp s n) {ctx:List (List Int)} {N:Int} {ty:List Int} {ks:List K01}
theorem V1h {op:Int} {k0:K01} {l:List K01} {x0:K02} {y0:K03} (h0:op ≠ 0) (h1:op ≠ 1) (h9:op ≠ 9) (hb:ctx.length + 2 * tsz (⟨op,N,ty,k0 :: l⟩:K01) ≤ 1000000) (r0:V0y s n ctx k0 x0 y0) (f0:x0.ffault ≠ 0) :
  ∃ x y,V0y s n ctx ⟨op,N,ty,k0 :: l⟩ x y:=by
 have hz:tsz k0 + 1 ≤ tsz (⟨op,N,ty,k0 :: l⟩:K01):=by rw [tsz,Kt9]; omega
 have e0:Kfj (s,ctx,⟨op,N,ty,k0 :: l⟩,0)=some ⟨[],[],x0.ffault,0 :: x0.fpath⟩:=V10 (i:=0) rfl r0 (by omega) f0
 refine V0y.bad (f:=x0.ffault) (p:=0 :: x0.fpath) ?_ (V04 (by omega) (V11 (m:=[]) rfl (V1b h9) r0 (by omega) (by simp; omega) f0)) f0 (by have:=r0.pl; simp; omega)
 rw [Kfh.eq_def]
 simp [h0,h1,h9,e0,f0]
include hs
theorem V1i {t:K01} (ht:t.fOp=0) (h:tOk (gN s.fSize true) (yN s.fSize true) ctx.length t=true) (hc:∀ q ∈ ctx,TyS s q) (hb:ctx.length + 2 * tsz t ≤ 1000000):∃ x y,V0y s n ctx t x y:=by
 obtain ⟨i,hi,hl,hk⟩:=Kzr h ht
 obtain ⟨op,N,ty,ks⟩:=t
 simp only at ht hi hk
 subst ht; subst hi; subst hk
 have hq:ctx[i]?=some ctx[i]:=List.getElem?_eq_getElem hl
 have hy:=hc ctx[i] (List.getElem_mem hl)
 have e1:idx ctx (i:Int)=some ctx[i]:=Kqy hl
 have hz:=Kym ctx.length (by omega)
 have e2:idx (Kxk (List.replicate ctx.length 0)) (i:Int)=some (((List.replicate ctx.length (0:Nat))[i]'(by simpa using hl):Nat):Int):=by
  rw [Kqy (by rw [Kxl]; simpa using hl)]; simp [Kxk]
 have e3:List.set (Kxk (List.replicate ctx.length 0)) i 1=Kxk ((List.replicate ctx.length 0).set i 1):=by unfold Kxk; rw [List.map_set]; rfl
 have hf:=V0j (s:=s) (ty:=ty) (ks:=[]) (zs:=List.replicate ctx.length 0) hq (by simpa using hl) (Kzb hy)
 have im:=V05 (p0:=⟨s⟩) (t:=⟨0,(i:Int),ty,[]⟩) (by omega) (Kzw (Nat.le_refl _)) hf
 refine V0y.good (q:=ctx[i]) (ns:=(List.replicate ctx.length 0).set i 1) (kids:=[]) ?_ ?_ (by rw [tsz]; omega) hy (by simp) ?_ rfl (fun i k hk=>by simp at hk)
 ·rw [Kfh.eq_def]
  simp [hz,e1,e2,Kui ctx[i] (by have:=Kzb hy; omega),e3]
 ·exact V1g (Kzb hy) im
 ·intro x hx
  have h1:=Kxr hs
  rcases List.mem_or_eq_of_mem_set hx with h | rfl
  ·rw [List.eq_of_mem_replicate h]; omega
  ·exact h1
theorem V1j {t:K01} (ht:t.fOp=1) (h:tOk (gN s.fSize true) (yN s.fSize true) ctx.length t=true) (hb:ctx.length + 2 * tsz t ≤ 1000000):∃ x y,V0y s n ctx t x y:=by
 have hk:=Kzs h ht
 obtain ⟨op,N,ty,ks⟩:=t
 simp only at ht hk
 subst ht; subst hk
 have hz:=Kym ctx.length (by omega)
 have hf:=V0k (s:=s) (N:=N) (ty:=ty) (ks:=[]) (ctx:=ctx) (zs:=List.replicate ctx.length 0)
 have im:=V05 (p0:=⟨s⟩) (t:=⟨1,N,ty,[]⟩) (by omega) (Kzw (Nat.le_refl _)) hf
 refine V0y.good (q:=[0]) (ns:=List.replicate ctx.length 0) (kids:=[]) ?_ ?_ (by rw [tsz]; omega) Kzh (by simp) ?_ rfl (fun i k hk=>by simp at hk)
 ·rw [Kfh.eq_def]
  simp [hz]
 ·exact V1g (by decide) im
 ·intro x hx
  rw [List.eq_of_mem_replicate hx]
  exact Kxs hs
theorem V1k {q:List Int} (hq:TyS s q):∃ c r,q=c :: r∧((Ksn c).1=0 ↔ c=0)∧(c=0→q=[0]):=by
 rcases Kzk hs hq with rfl | ⟨a,b,rfl,_⟩ | ⟨a,b,rfl,_⟩ | ⟨g,a,b,hg,h15,rfl,_⟩ | ⟨g,a,hg,h15,rfl,_⟩
 ·exact ⟨0,[],rfl,by decide,fun _=>rfl⟩
 ·exact ⟨1,_,rfl,by decide,fun h=>absurd h (by decide)⟩
 ·exact ⟨2,_,rfl,by decide,fun h=>absurd h (by decide)⟩
 ·refine ⟨_,_,rfl,?_,fun h=>by omega⟩
  rcases Ksp (3 + (g:Int)) with h | h | h | h | h | h | h | h <;> first | omega | (obtain ⟨_,e⟩:=h; rw [e]; simp; omega)
 ·refine ⟨_,_,rfl,?_,fun h=>by omega⟩
  rcases Ksp (19 + (g:Int)) with h | h | h | h | h | h | h | h <;> first | omega | (obtain ⟨_,e⟩:=h; rw [e]; simp; omega)
theorem V1l (ih:V1f s n (tsz (⟨6,N,ty,ks⟩:K01))) (h:tOk (gN s.fSize true) (yN s.fSize true) ctx.length ⟨6,N,ty,ks⟩=true) (hc:∀ q ∈ ctx,TyS s q) (hb:ctx.length + 2 * tsz (⟨6,N,ty,ks⟩:K01) ≤ 1000000):∃ x y,V0y s n ctx ⟨6,N,ty,ks⟩ x y:=by
 obtain ⟨k0,rfl,p0⟩:=nd1 h (Nat.le_refl _) rfl
 have hz:=Kxb 6 N ty k0
 have hy:TyS s ty:=Kzq h rfl
 have ly:=Kzb hy
 obtain ⟨x0,y0,r0⟩:=ih k0 ctx p0 hc (by omega)
 by_cases f0:x0.ffault=0
 rotate_left
 ·exact V1h (by decide) (by decide) (by decide) hb r0 f0
 obtain ⟨g0,q0,a,na,la,ba⟩:=r0.gd f0
 obtain ⟨c0,t0,ht0,hn0,hz0⟩:=V1k hs g0
 have L0:=Kzb g0
 have e0:Kfj (s,ctx,⟨6,N,ty,[k0]⟩,0)=some x0:=V0z (i:=0) rfl r0 f0
 have o0:=V14 (out:=[]) (nd:=[]) (us:=[]) (w:=0) (t:=⟨6,N,ty,[k0]⟩) (m:=[]) rfl (V1b (by decide)) r0 (by simp; omega) f0 (by rw [ht0]; exact V08 (.inl (by decide))) (V06 (show (6:Int) ≠ 10 by decide)) na (by simp <;> omega) (by simp) (by simp) (by simp) (by simp)
 have hf:=V0l (s:=s) (N:=N) (ty:=ty) (ks:=[k0]) (ctx:=ctx) (us:=[Kxk []]) (z:=Kxk (List.replicate ctx.length 0)) (y0:=y0) (a:=a) (by rw [r0.ty]; omega) (by omega)
 have im:=V05 (p0:=⟨s⟩) (t:=⟨6,N,ty,[k0]⟩) (ctx:=ctx) (by omega) (o0.trans (Kzw (Nat.le_refl _))) hf
 rw [r0.ty] at im
 refine V0y.done (q:=2 :: (x0.fty ++ ty)) (ns:=a) (kids:=[y0]) ?_ im (by omega) (fun hl=>Kzl hs g0 hy (.inr (.inl rfl)) hl) la ba rfl (kd1 (V0x.mk' (V15 (by decide) rfl) r0 f0 (fun _ h=>by cases h) rfl))
 have hg:=Kyp 2 [x0.fty,ty] (by simp) (by simp; omega)
 simp only [List.flatten_cons,List.flatten_nil,List.append_nil] at hg
 rw [Kfh.eq_def]
 simp [e0,f0,hg,na]
theorem V1m (ih:V1f s n (tsz (⟨7,N,ty,ks⟩:K01))) (h:tOk (gN s.fSize true) (yN s.fSize true) ctx.length ⟨7,N,ty,ks⟩=true) (hc:∀ q ∈ ctx,TyS s q) (hb:ctx.length + 2 * tsz (⟨7,N,ty,ks⟩:K01) ≤ 1000000):∃ x y,V0y s n ctx ⟨7,N,ty,ks⟩ x y:=by
 obtain ⟨k0,rfl,p0⟩:=nd1 h (Nat.le_refl _) rfl
 have hz:=Kxb 7 N ty k0
 have hy:TyS s ty:=Kzq h rfl
 have ly:=Kzb hy
 obtain ⟨x0,y0,r0⟩:=ih k0 ctx p0 hc (by omega)
 by_cases f0:x0.ffault=0
 rotate_left
 ·exact V1h (by decide) (by decide) (by decide) hb r0 f0
 obtain ⟨g0,q0,a,na,la,ba⟩:=r0.gd f0
 obtain ⟨c0,t0,ht0,hn0,hz0⟩:=V1k hs g0
 have L0:=Kzb g0
 have e0:Kfj (s,ctx,⟨7,N,ty,[k0]⟩,0)=some x0:=V0z (i:=0) rfl r0 f0
 have o0:=V14 (out:=[]) (nd:=[]) (us:=[]) (w:=0) (t:=⟨7,N,ty,[k0]⟩) (m:=[]) rfl (V1b (by decide)) r0 (by simp; omega) f0 (by rw [ht0]; exact V08 (.inl (by decide))) (V06 (show (7:Int) ≠ 10 by decide)) na (by simp <;> omega) (by simp) (by simp) (by simp) (by simp)
 have hf:=V0m (s:=s) (N:=N) (ty:=ty) (ks:=[k0]) (ctx:=ctx) (us:=[Kxk []]) (z:=Kxk (List.replicate ctx.length 0)) (y0:=y0) (a:=a) (by rw [r0.ty]; omega) (by omega)
 have im:=V05 (p0:=⟨s⟩) (t:=⟨7,N,ty,[k0]⟩) (ctx:=ctx) (by omega) (o0.trans (Kzw (Nat.le_refl _))) hf
 rw [r0.ty] at im
 refine V0y.done (q:=2 :: (ty ++ x0.fty)) (ns:=a) (kids:=[y0]) ?_ im (by omega) (fun hl=>Kzl hs hy g0 (.inr (.inl rfl)) hl) la ba rfl (kd1 (V0x.mk' (V15 (by decide) rfl) r0 f0 (fun _ h=>by cases h) rfl))
 have hg:=Kyp 2 [ty,x0.fty] (by simp) (by simp; omega)
 simp only [List.flatten_cons,List.flatten_nil,List.append_nil] at hg
 rw [Kfh.eq_def]
 simp [e0,f0,hg,na]
theorem V1n (ih:V1f s n (tsz (⟨11,N,ty,ks⟩:K01))) (h:tOk (gN s.fSize true) (yN s.fSize true) ctx.length ⟨11,N,ty,ks⟩=true) (hc:∀ q ∈ ctx,TyS s q) (hb:ctx.length + 2 * tsz (⟨11,N,ty,ks⟩:K01) ≤ 1000000):∃ x y,V0y s n ctx ⟨11,N,ty,ks⟩ x y:=by
 obtain ⟨k0,rfl,p0⟩:=nd1 h (Nat.le_refl _) rfl
 have hz:=Kxb 11 N ty k0
 obtain ⟨g,hN,hg'⟩:=Kzn hs (Kzp h rfl)
 simp only at hN
 subst hN
 obtain ⟨x0,y0,r0⟩:=ih k0 ctx p0 hc (by omega)
 by_cases f0:x0.ffault=0
 rotate_left
 ·exact V1h (by decide) (by decide) (by decide) hb r0 f0
 obtain ⟨g0,q0,a,na,la,ba⟩:=r0.gd f0
 obtain ⟨c0,t0,ht0,hn0,hz0⟩:=V1k hs g0
 have L0:=Kzb g0
 have e0:Kfj (s,ctx,⟨11,(g:Int),ty,[k0]⟩,0)=some x0:=V0z (i:=0) rfl r0 f0
 have o0:=V14 (out:=[]) (nd:=[]) (us:=[]) (w:=0) (t:=⟨11,(g:Int),ty,[k0]⟩) (m:=[]) rfl (V1b (by decide)) r0 (by simp; omega) f0 (by rw [ht0]; exact V08 (.inl (by decide))) (V06 (show (11:Int) ≠ 10 by decide)) na (by simp <;> omega) (by simp) (by simp) (by simp) (by simp)
 have hf:=V0r (ty:=ty) (ks:=[k0]) (ctx:=ctx) (us:=[Kxk []]) (z:=Kxk (List.replicate ctx.length 0)) (y0:=y0) (a:=a) hs hg' ba (by omega) (by rw [r0.ty]; omega)
 have im:=V05 (p0:=⟨s⟩) (t:=⟨11,(g:Int),ty,[k0]⟩) (ctx:=ctx) (by omega) (o0.trans (Kzw (Nat.le_refl _))) hf
 rw [r0.ty] at im
 have hn:=hs.tab.hi
 refine V0y.done (q:=(19 + (g:Int)) :: x0.fty) (ns:=Kxy s n g a) (kids:=[y0]) ?_ im (by omega) (fun hl=>Kzm hs hg' g0 hl) (by unfold Kxy; rw [List.length_map]; exact la) (Ky4 hs hg' ba) rfl (kd1 (V0x.mk' (V15 (by decide) rfl) r0 f0 (fun _ h=>by cases h) rfl))
 have hg:=Kyp (19 + (g:Int)) [x0.fty] (by simp) (by simp; omega)
 simp only [List.flatten_cons,List.flatten_nil,List.append_nil] at hg
 have hsc:=Ky4 hs hg' ba
 have hz0:=Ky7 hs hsc
 rw [show (Kxy s n g a).length=ctx.length by unfold Kxy; rw [List.length_map]; exact la] at hz0
 have hsum:=Ky9 hs g hg' (List.replicate ctx.length 0) a (fun x hx=>by rw [List.eq_of_mem_replicate hx]; exact Kxs hs) ba (by simp; omega) (by simp [la])
 rw [hz0] at hsum
 have hw:wr (19 + (g:Int))=19 + (g:Int):=Kqx (by omega) (by omega)
 rw [Kfh.eq_def]
 simp [e0,f0,hg,na,hw,Kym ctx.length (by omega),hsum]
theorem V1o (ih:V1f s n (tsz (⟨9,N,ty,ks⟩:K01))) (h:tOk (gN s.fSize true) (yN s.fSize true) ctx.length ⟨9,N,ty,ks⟩=true) (hc:∀ q ∈ ctx,TyS s q) (hb:ctx.length + 2 * tsz (⟨9,N,ty,ks⟩:K01) ≤ 1000000):∃ x y,V0y s n ctx ⟨9,N,ty,ks⟩ x y:=by
 obtain ⟨k0,rfl,p0⟩:=nd1 h (Nat.le_refl _) rfl
 have hz:=Kxb 9 N ty k0
 obtain ⟨g,hN,hg'⟩:=Kzn hs (Kzp h rfl)
 simp only at hN
 subst hN
 have hy:TyS s ty:=Kzq h rfl
 have ly:=Kzb hy
 have hn:=hs.tab.hi
 have p0':Kzo s ([ty] ++ ctx).length k0 (tsz (⟨9,(g:Int),ty,[k0]⟩:K01)):=by
  have e:([ty] ++ ctx).length=ctx.length + Kts 9 0:=by simp [Kts]
  rw [e]; exact p0
 obtain ⟨x0,y0,r0⟩:=ih k0 ([ty] ++ ctx) p0' (fun q hq=>by rcases List.mem_cons.1 hq with rfl | hq; exact hy; exact hc q hq) (by simp; omega)
 have hw9:=Kyn ctx [ty] (by simp; omega)
 by_cases f0:x0.ffault=0
 rotate_left
 ·have e0:Kfj (s,ty :: ctx,⟨9,(g:Int),ty,[k0]⟩,0)=some ⟨[],[],x0.ffault,0 :: x0.fpath⟩:=V10 (i:=0) rfl r0 (by omega) f0
  refine V0y.bad (f:=x0.ffault) (p:=0 :: x0.fpath) ?_ (V04 (by omega) (V11 (m:=[ty]) rfl V1c r0 (by omega) (by simp; omega) f0)) f0 (by have:=r0.pl; simp; omega)
  rw [Kfh.eq_def]
  simp [hw9,e0,f0]
 obtain ⟨g0,q0,a,na,la,ba⟩:=r0.gd f0
 obtain ⟨c0,t0,ht0,hn0,hz0⟩:=V1k hs g0
 have L0:=Kzb g0
 have e0:Kfj (s,ty :: ctx,⟨9,(g:Int),ty,[k0]⟩,0)=some x0:=V0z (i:=0) rfl r0 f0
 have la':a.length=ctx.length + 1:=by rw [la]; simp
 obtain ⟨u0,a',rfl⟩:∃ u0 a',a=u0 :: a':=by cases a with | nil=>simp at la' | cons u a'=>exact ⟨u,a',rfl⟩
 obtain ⟨hu0,ba'⟩:=Ky1 ba
 have o0:=V14 (out:=[]) (nd:=[]) (us:=[]) (w:=0) (t:=⟨9,(g:Int),ty,[k0]⟩) (m:=[ty]) rfl V1c r0 (by simp; omega) f0 (by rw [ht0]; exact V08 (.inl (by decide))) (V06 (show (9:Int) ≠ 10 by decide)) na (by simp <;> omega) (by simp) (by simp) (by simp) (by simp)
 simp only [List.length_cons,List.length_nil,Nat.zero_add,List.drop_succ_cons,List.drop_zero,List.take_succ_cons,List.take_zero,List.nil_append] at o0
 have hf:=V0q (ty:=ty) (ks:=[k0]) (ctx:=ctx) (z:=Kxk (List.replicate ctx.length 0)) (y0:=y0) (a:=a') (u:=[u0]) hs hg' (fun x hx=>by simp at hx; rw [hx]; exact hu0) (by simp) (by rw [r0.ty]; omega) (by omega)
 have hl0:=o0.trans (Kzw (Nat.le_refl _))
 have hle:=sLe hs.tab hu0 hg'
 have hw:wr (3 + (g:Int))=3 + (g:Int):=Kqx (by omega) (by omega)
 have hi0:idx x0.fneeds 0=some (u0:Int):=by rw [na]; rfl
 simp only [List.all_cons,List.all_nil,Bool.and_true] at hf
 cases hl:le s n u0 g with
 | false =>
  rw [hl,if_neg (by decide)] at hf
  refine V0y.bad (f:=9) (p:=[]) ?_ (V05 (by omega) hl0 hf) (by decide) (by simp; omega)
  rw [Kfh.eq_def]
  simp [hw9,e0,f0,hi0,hle,hl,Kea]
 | true =>
  rw [hl,if_pos rfl] at hf
  have im:=V05 (by omega) hl0 hf
  rw [r0.ty] at im
  refine V0y.done (q:=(3 + (g:Int)) :: (ty ++ x0.fty)) (ns:=a') (kids:=[y0]) ?_ im (by omega) (fun hl=>Kzl hs hy g0 (.inr (.inr ⟨g,hg',rfl⟩)) hl) (by simpa using la') ba' rfl (kd1 (V0x.mk' (m:=[ty]) V16 r0 f0 (fun q hq=>by simp at hq; rw [hq]; exact hy) rfl))
  have hg:=Kyp (3 + (g:Int)) [ty,x0.fty] (by simp) (by simp; omega)
  simp only [List.flatten_cons,List.flatten_nil,List.append_nil] at hg
  have hcut:cut x0.fneeds (some 1) none none=some (Kxk a'):=by rw [na]; exact Kwc _ _
  rw [Kfh.eq_def]
  simp [hw9,e0,f0,hi0,hle,hl,hg,hw,hcut,Kui (Kxk a') (by rw [Kxl]; simp at la'; omega)]
theorem V1p (ih:V1f s n (tsz (⟨4,N,ty,ks⟩:K01))) (h:tOk (gN s.fSize true) (yN s.fSize true) ctx.length ⟨4,N,ty,ks⟩=true) (hc:∀ q ∈ ctx,TyS s q) (hb:ctx.length + 2 * tsz (⟨4,N,ty,ks⟩:K01) ≤ 1000000):∃ x y,V0y s n ctx ⟨4,N,ty,ks⟩ x y:=by
 obtain ⟨k0,k1,rfl,p0,p1⟩:=nd2 h (Nat.le_refl _) rfl
 have hz:=Kxc 4 N ty k0 k1
 obtain ⟨x0,y0,r0⟩:=ih k0 ctx p0 hc (by omega)
 obtain ⟨x1,y1,r1⟩:=ih k1 ctx p1 hc (by omega)
 by_cases f0:x0.ffault=0
 rotate_left
 ·exact V1h (by decide) (by decide) (by decide) hb r0 f0
 obtain ⟨g0,q0,a,na,la,ba⟩:=r0.gd f0
 obtain ⟨c0,t0,ht0,hn0,hz0⟩:=V1k hs g0
 have L0:=Kzb g0
 have e0:Kfj (s,ctx,⟨4,N,ty,[k0,k1]⟩,0)=some x0:=V0z (i:=0) rfl r0 f0
 have o0:=V14 (out:=[]) (nd:=[]) (us:=[]) (w:=0) (t:=⟨4,N,ty,[k0,k1]⟩) (m:=[]) rfl (V1b (by decide)) r0 (by simp; omega) f0 (by rw [ht0]; exact V08 (.inl (by decide))) (V06 (show (4:Int) ≠ 10 by decide)) na (by simp <;> omega) (by simp) (by simp) (by simp) (by simp)
 have m1:Kzt ⟨4,N,ty,[k0,k1]⟩ [y0] 1=some []:=V1d (by decide) (V15 (by decide) rfl)
 by_cases f1:x1.ffault=0
 rotate_left
 ·have e1:Kfj (s,ctx,⟨4,N,ty,[k0,k1]⟩,1)=some ⟨[],[],x1.ffault,1 :: x1.fpath⟩:=V10 (i:=1) rfl r1 (by omega) f1
  refine V0y.bad (f:=x1.ffault) (p:=1 :: x1.fpath) ?_ (V04 (by omega) (o0.trans (V11 (m:=[]) rfl m1 r1 (by omega) (by simp; omega) f1))) f1 (by have:=r1.pl; simp; omega)
  rw [Kfh.eq_def]
  simp [e0,f0,e1,f1]
 obtain ⟨g1,q1,b,nb,lb,bb⟩:=r1.gd f1
 obtain ⟨c1,t1,ht1,hn1,hz1⟩:=V1k hs g1
 have L1:=Kzb g1
 have e1:Kfj (s,ctx,⟨4,N,ty,[k0,k1]⟩,1)=some x1:=V0z (i:=1) rfl r1 f1
 have o1:=V14 (out:=[y0]) (nd:=[Kxk a]) (us:=[Kxk []]) (w:=1) (t:=⟨4,N,ty,[k0,k1]⟩) (m:=[]) rfl m1 r1 (by simp; omega) f1 (by rw [ht1]; exact V08 (.inl (by decide))) (V06 (show (4:Int) ≠ 10 by decide)) nb (by simp <;> omega) (by simp) (by simp) (by simp) (by simp)
 have hf:=V0p (N:=N) (ty:=ty) (ks:=[k0,k1]) (ctx:=ctx) (us:=[Kxk [],Kxk []]) (z:=Kxk (List.replicate ctx.length 0)) (y0:=y0) (y1:=y1) hs ba bb (by omega) (by omega) (by rw [r0.ty]; omega) (by rw [r1.ty]; omega)
 have im:=V05 (p0:=⟨s⟩) (t:=⟨4,N,ty,[k0,k1]⟩) (ctx:=ctx) (by omega) (o0.trans (o1.trans (Kzw (Nat.le_refl _)))) hf
 rw [r0.ty,r1.ty] at im
 refine V0y.done (q:=1 :: (x0.fty ++ x1.fty)) (ns:=Kxx s n a b) (kids:=[y0,y1]) ?_ im (by omega) (fun hl=>Kzl hs g0 g1 (.inl rfl) hl) (by unfold Kxx; rw [List.length_zipWith]; omega) (Ky3 hs ba bb) rfl (kd2 (V0x.mk' (V15 (by decide) rfl) r0 f0 (fun _ h=>by cases h) rfl) (V0x.mk' (V15 (by decide) rfl) r1 f1 (fun _ h=>by cases h) rfl))
 have hg:=Kyp 1 [x0.fty,x1.fty] (by simp) (by simp; omega)
 simp only [List.flatten_cons,List.flatten_nil,List.append_nil] at hg
 rw [Kfh.eq_def]
 simp [e0,f0,e1,f1,hg,na,nb,Kya hs a b ba bb (by omega) (by omega)]
theorem V1q (ih:V1f s n (tsz (⟨2,N,ty,ks⟩:K01))) (h:tOk (gN s.fSize true) (yN s.fSize true) ctx.length ⟨2,N,ty,ks⟩=true) (hc:∀ q ∈ ctx,TyS s q) (hb:ctx.length + 2 * tsz (⟨2,N,ty,ks⟩:K01) ≤ 1000000):∃ x y,V0y s n ctx ⟨2,N,ty,ks⟩ x y:=by
 obtain ⟨k0,k1,rfl,p0,p1⟩:=nd2 h (Nat.le_refl _) rfl
 have hz:=Kxc 2 N ty k0 k1
 obtain ⟨x0,y0,r0⟩:=ih k0 ctx p0 hc (by omega)
 obtain ⟨x1,y1,r1⟩:=ih k1 ctx p1 hc (by omega)
 by_cases f0:x0.ffault=0
 rotate_left
 ·exact V1h (by decide) (by decide) (by decide) hb r0 f0
 obtain ⟨g0,q0,a,na,la,ba⟩:=r0.gd f0
 obtain ⟨c0,t0,ht0,hn0,hz0⟩:=V1k hs g0
 have L0:=Kzb g0
 have e0:Kfj (s,ctx,⟨2,N,ty,[k0,k1]⟩,0)=some x0:=V0z (i:=0) rfl r0 f0
 have i0:idx x0.fty 0=some c0:=by rw [ht0]; rfl
 by_cases z0:c0=0
 rotate_left
 ·refine V0y.bad (f:=2) (p:=[]) ?_ (V04 (by omega) (V12 (m:=[]) rfl (V1b (by decide)) r0 (by simp; omega) f0 (by rw [ht0,V09,if_neg (by rw [hn0]; exact z0)]) (by decide))) (by decide) (by simp; omega)
  rw [Kfh.eq_def]
  simp [e0,f0,i0,z0,Kea]
 have u0:=hz0 z0
 have s0:(Ksn c0).1=0:=hn0.2 z0
 have o0:=V14 (out:=[]) (nd:=[]) (us:=[]) (w:=0) (t:=⟨2,N,ty,[k0,k1]⟩) (m:=[]) rfl (V1b (by decide)) r0 (by simp; omega) f0 (by rw [ht0,V09,if_pos s0]) (V06 (show (2:Int) ≠ 10 by decide)) na (by simp <;> omega) (by simp) (by simp) (by simp) (by simp)
 have m1:Kzt ⟨2,N,ty,[k0,k1]⟩ [y0] 1=some []:=V1d (by decide) (V15 (by decide) rfl)
 by_cases f1:x1.ffault=0
 rotate_left
 ·have e1:Kfj (s,ctx,⟨2,N,ty,[k0,k1]⟩,1)=some ⟨[],[],x1.ffault,1 :: x1.fpath⟩:=V10 (i:=1) rfl r1 (by omega) f1
  refine V0y.bad (f:=x1.ffault) (p:=1 :: x1.fpath) ?_ (V04 (by omega) (o0.trans (V11 (m:=[]) rfl m1 r1 (by omega) (by simp; omega) f1))) f1 (by have:=r1.pl; simp; omega)
  rw [Kfh.eq_def]
  simp [e0,f0,i0,z0,Kfk.eq_def,e1,f1]
 obtain ⟨g1,q1,b,nb,lb,bb⟩:=r1.gd f1
 obtain ⟨c1,t1,ht1,hn1,hz1⟩:=V1k hs g1
 have L1:=Kzb g1
 have e1:Kfj (s,ctx,⟨2,N,ty,[k0,k1]⟩,1)=some x1:=V0z (i:=1) rfl r1 f1
 have i1:idx x1.fty 0=some c1:=by rw [ht1]; rfl
 by_cases z1:c1=0
 rotate_left
 ·refine V0y.bad (f:=2) (p:=[]) ?_ (V04 (by omega) (o0.trans (V12 (m:=[]) rfl m1 r1 (by simp; omega) f1 (by rw [ht1,V09,if_neg (by rw [hn1]; exact z1)]) (by decide)))) (by decide) (by simp; omega)
  rw [Kfh.eq_def]
  simp [e0,f0,i0,z0,e1,f1,i1,z1,Kea,Kfk.eq_def]
 have u1:=hz1 z1
 have s1:(Ksn c1).1=0:=hn1.2 z1
 have o1:=V14 (out:=[y0]) (nd:=[Kxk a]) (us:=[Kxk []]) (w:=1) (t:=⟨2,N,ty,[k0,k1]⟩) (m:=[]) rfl m1 r1 (by simp; omega) f1 (by rw [ht1,V09,if_pos s1]) (V06 (show (2:Int) ≠ 10 by decide)) nb (by simp <;> omega) (by simp) (by simp) (by simp) (by simp)
 have hf:=V0n (N:=N) (ty:=ty) (ks:=[k0,k1]) (ctx:=ctx) (us:=[Kxk [],Kxk []]) (z:=Kxk (List.replicate ctx.length 0)) (y0:=y0) (y1:=y1) hs ba bb (by omega) (by omega)
 have im:=V05 (p0:=⟨s⟩) (t:=⟨2,N,ty,[k0,k1]⟩) (ctx:=ctx) (by omega) (o0.trans (o1.trans (Kzw (Nat.le_refl _)))) hf
 replace im:=V1g (q:=[0]) (ns:=Kxx s n a b) (kids:=[y0,y1]) (by decide) im
 refine V0y.good (q:=[0]) (ns:=Kxx s n a b) (kids:=[y0,y1]) ?_ im (by omega) Kzh (by unfold Kxx; rw [List.length_zipWith]; omega) (Ky3 hs ba bb) rfl (kd2 (V0x.mk' (V15 (by decide) rfl) r0 f0 (fun _ h=>by cases h) rfl) (V0x.mk' (V15 (by decide) rfl) r1 f1 (fun _ h=>by cases h) rfl))
 rw [Kfh.eq_def]
 simp [e0,f0,i0,z0,e1,f1,i1,z1,na,nb,u1,V0g,Kya hs a b ba bb (by omega) (by omega),Kfk.eq_def]
theorem V1r (ih:V1f s n (tsz (⟨3,N,ty,ks⟩:K01))) (h:tOk (gN s.fSize true) (yN s.fSize true) ctx.length ⟨3,N,ty,ks⟩=true) (hc:∀ q ∈ ctx,TyS s q) (hb:ctx.length + 2 * tsz (⟨3,N,ty,ks⟩:K01) ≤ 1000000):∃ x y,V0y s n ctx ⟨3,N,ty,ks⟩ x y:=by
 obtain ⟨k0,k1,k2,rfl,p0,p1,p2⟩:=nd3 h (Nat.le_refl _) rfl
 have hz:=Kxd 3 N ty k0 k1 k2
 obtain ⟨x0,y0,r0⟩:=ih k0 ctx p0 hc (by omega)
 obtain ⟨x1,y1,r1⟩:=ih k1 ctx p1 hc (by omega)
 obtain ⟨x2,y2,r2⟩:=ih k2 ctx p2 hc (by omega)
 by_cases f0:x0.ffault=0
 rotate_left
 ·exact V1h (by decide) (by decide) (by decide) hb r0 f0
 obtain ⟨g0,q0,a,na,la,ba⟩:=r0.gd f0
 obtain ⟨c0,t0,ht0,hn0,hz0⟩:=V1k hs g0
 have L0:=Kzb g0
 have e0:Kfj (s,ctx,⟨3,N,ty,[k0,k1,k2]⟩,0)=some x0:=V0z (i:=0) rfl r0 f0
 have i0:idx x0.fty 0=some c0:=by rw [ht0]; rfl
 by_cases z0:c0=0
 rotate_left
 ·refine V0y.bad (f:=2) (p:=[]) ?_ (V04 (by omega) (V12 (m:=[]) rfl (V1b (by decide)) r0 (by simp; omega) f0 (by rw [ht0,V0a,if_neg (by rw [hn0]; exact z0)]) (by decide))) (by decide) (by simp; omega)
  rw [Kfh.eq_def]
  simp [e0,f0,i0,z0,Kea]
 have u0:=hz0 z0
 have s0:(Ksn c0).1=0:=hn0.2 z0
 have o0:=V14 (out:=[]) (nd:=[]) (us:=[]) (w:=0) (t:=⟨3,N,ty,[k0,k1,k2]⟩) (m:=[]) rfl (V1b (by decide)) r0 (by simp; omega) f0 (by rw [ht0,V0a,if_pos s0]) (V06 (show (3:Int) ≠ 10 by decide)) na (by simp <;> omega) (by simp) (by simp) (by simp) (by simp)
 have m1:Kzt ⟨3,N,ty,[k0,k1,k2]⟩ [y0] 1=some []:=V1d (by decide) (V15 (by decide) rfl)
 by_cases f1:x1.ffault=0
 rotate_left
 ·have e1:Kfj (s,ctx,⟨3,N,ty,[k0,k1,k2]⟩,1)=some ⟨[],[],x1.ffault,1 :: x1.fpath⟩:=V10 (i:=1) rfl r1 (by omega) f1
  refine V0y.bad (f:=x1.ffault) (p:=1 :: x1.fpath) ?_ (V04 (by omega) (o0.trans (V11 (m:=[]) rfl m1 r1 (by omega) (by simp; omega) f1))) f1 (by have:=r1.pl; simp; omega)
  rw [Kfh.eq_def]
  simp [e0,f0,i0,z0,Kfk.eq_def,e1,f1]
 obtain ⟨g1,q1,b,nb,lb,bb⟩:=r1.gd f1
 obtain ⟨c1,t1,ht1,hn1,hz1⟩:=V1k hs g1
 have L1:=Kzb g1
 have e1:Kfj (s,ctx,⟨3,N,ty,[k0,k1,k2]⟩,1)=some x1:=V0z (i:=1) rfl r1 f1
 have o1:=V14 (out:=[y0]) (nd:=[Kxk a]) (us:=[Kxk []]) (w:=1) (t:=⟨3,N,ty,[k0,k1,k2]⟩) (m:=[]) rfl m1 r1 (by simp; omega) f1 (by rw [ht1]; exact V08 (.inr (by decide))) (V06 (show (3:Int) ≠ 10 by decide)) nb (by simp <;> omega) (by simp) (by simp) (by simp) (by simp)
 have m2:Kzt ⟨3,N,ty,[k0,k1,k2]⟩ [y0,y1] 2=some []:=V1d (by decide) (V15 (by decide) rfl)
 by_cases f2:x2.ffault=0
 rotate_left
 ·have e2:Kfj (s,ctx,⟨3,N,ty,[k0,k1,k2]⟩,2)=some ⟨[],[],x2.ffault,2 :: x2.fpath⟩:=V10 (i:=2) rfl r2 (by omega) f2
  refine V0y.bad (f:=x2.ffault) (p:=2 :: x2.fpath) ?_ (V04 (by omega) (o0.trans (o1.trans (V11 (m:=[]) rfl m2 r2 (by omega) (by simp; omega) f2)))) f2 (by have:=r2.pl; simp; omega)
  rw [Kfh.eq_def]
  simp [e0,f0,i0,z0,e1,f1,Kfk.eq_def,e2,f2]
 obtain ⟨g2,q2,d,nd,ld,bd⟩:=r2.gd f2
 obtain ⟨c2,t2,ht2,hn2,hz2⟩:=V1k hs g2
 have L2:=Kzb g2
 have e2:Kfj (s,ctx,⟨3,N,ty,[k0,k1,k2]⟩,2)=some x2:=V0z (i:=2) rfl r2 f2
 have o2:=V14 (out:=[y0,y1]) (nd:=[Kxk a,Kxk b]) (us:=[Kxk [],Kxk []]) (w:=2) (t:=⟨3,N,ty,[k0,k1,k2]⟩) (m:=[]) rfl m2 r2 (by simp; omega) f2 (by rw [ht2]; exact V08 (.inr (by decide))) (V06 (show (3:Int) ≠ 10 by decide)) nd (by simp <;> omega) (by simp) (by simp) (by simp) (by simp)
 have hf:=V0o (N:=N) (ty:=ty) (ks:=[k0,k1,k2]) (ctx:=ctx) (us:=[Kxk [],Kxk [],Kxk []]) (z:=Kxk (List.replicate ctx.length 0)) (y0:=y0) (y1:=y1) (y2:=y2) hs ba bb bd (by omega) (by omega) (by omega) (by rw [r2.ty]; omega) (by rw [r1.ty]; omega)
 have hl0:=o0.trans (o1.trans (o2.trans (Kzw (Nat.le_refl _))))
 
 have hsm:=Kx3 x1.fty x2.fty (by omega)
 have lj:(Kxz s n b d).length=ctx.length:=by unfold Kxz; rw [List.length_zipWith]; omega
 rw [r1.ty,r2.ty] at hf
 by_cases hq:x1.fty=x2.fty
 ·rw [if_pos hq] at hf
  have im:=V05 (by omega) hl0 hf
  replace im:=V1g (q:=x1.fty) (ns:=Kxx s n a (Kxz s n b d)) (kids:=[y0,y1,y2]) (by omega) im
  refine V0y.good (q:=x1.fty) (ns:=Kxx s n a (Kxz s n b d)) (kids:=[y0,y1,y2]) ?_ im (by omega) g1 (by unfold Kxx; rw [List.length_zipWith]; omega) (Ky3 hs ba (Ky5 hs bb bd)) rfl (kd3 (V0x.mk' (V15 (by decide) rfl) r0 f0 (fun _ h=>by cases h) rfl) (V0x.mk' (V15 (by decide) rfl) r1 f1 (fun _ h=>by cases h) rfl) (V0x.mk' (V15 (by decide) rfl) r2 f2 (fun _ h=>by cases h) rfl))
  rw [show (x1.fty == x2.fty)=true from beq_iff_eq.2 hq] at hsm
  rw [Kfh.eq_def]
  simp [e0,f0,i0,z0,e1,f1,e2,f2,hsm,na,nb,nd,Kyc hs b d bb bd (by omega) (by omega),Kya hs a (Kxz s n b d) ba (Ky5 hs bb bd) (by omega) (by omega),Kfk.eq_def]
 ·rw [if_neg hq] at hf
  refine V0y.bad (f:=3) (p:=[]) ?_ (V05 (by omega) hl0 hf) (by decide) (by simp; omega)
  rw [show (x1.fty == x2.fty)=false from beq_eq_false_iff_ne.2 hq] at hsm
  rw [Kfh.eq_def]
  simp [e0,f0,i0,z0,e1,f1,e2,f2,hsm,Kfk.eq_def,Kea]
end
end Go.Am
