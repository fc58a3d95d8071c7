/- Plain laws of the printed functions. -/
import Derived.Test.YtmcpomoofkjfcaaGreatPET0
set_option linter.unusedSimpArgs false
set_option linter.unusedVariables false
namespace Go.Am
def Kz7 (l:List Nat):List Int:=l.map fun x:Nat=>(x:Int)
theorem Kz8 (l:List Nat):(Kz7 l).length=l.length:=List.length_map ..
theorem Kz9 (l:List Nat) (i:Nat):(Kz7 l).drop i=Kz7 (l.drop i):=(List.map_drop ..).symm
theorem Kza (l:List Nat) (i:Nat):(Kz7 l).take i=Kz7 (l.take i):=(List.map_take ..).symm
theorem Kzb {l r:List Nat} {x i:Nat} (h:l.drop i=x :: r):i < l.length∧idx (Kz7 l) (i:Int)=some (x:Int)∧l.drop (i + 1)=r:=by
 have h2:(Kz7 l).drop i=(x:Int) :: Kz7 r:=by rw [Kz9,h]; rfl
 obtain ⟨q1,q2,q3⟩:=Ktn h2
 rw [Kz8] at q1
 refine ⟨q1,q2,?_⟩
 rw [← List.drop_drop,h]
 rfl
structure Kzc (s:K00) (n:Nat):Prop where
 tab:Tab s n
 one:∀ a,a < n→Kt0 s n a=true
 two:∀ a b,a < n→b < n→Ktd s n a b=true
theorem Kzd {s:K00} (h:Kw4 s=true):Kzc s s.fSize.toNat:=by
 have ht:=Kw5 h
 unfold Kw4 at h
 simp only [Bool.and_eq_true] at h
 have hm:=h.2
 unfold Ktg at hm
 rw [List.all_eq_true] at hm
 refine ⟨ht,fun a ha=>?_,fun a b ha hb=>?_⟩
 ·have:=hm a (by rw [List.mem_range'_1]; omega)
  simp only [Bool.and_eq_true] at this
  exact this.1
 ·have:=hm a (by rw [List.mem_range'_1]; omega)
  simp only [Bool.and_eq_true,List.all_eq_true] at this
  exact (this.2 b (by rw [List.mem_range'_1]; omega)).1
section
variable {s:K00} {n:Nat} (hs:Kzc s n)
include hs
theorem Kze:1 < n:=by have:=hs.tab.lo; omega
theorem Kzf:0 < n:=by have:=hs.tab.lo; omega
theorem Kzg {a:Nat} (ha:a < n):pl s n 0 a=a:=by
 have:=hs.one a ha
 simp only [Kt0,Bool.and_eq_true,beq_iff_eq] at this
 exact this.1.1.1.1.1
theorem Kzh {a:Nat} (ha:a < n):ti s n 1 a=a:=by
 have:=hs.one a ha
 simp only [Kt0,Bool.and_eq_true,beq_iff_eq] at this
 exact this.1.1.1.1.2
def Kzi (s:K00) (n a b:Nat):Nat:=(Kt6 s n a b).toNat
theorem Kzj {a b:Nat} (ha:a < n) (hb:b < n):Kt6 s n a b=((Kzi s n a b:Nat):Int)∧Kzi s n a b < n:=by
 have h:=hs.two a b ha hb
 simp only [Ktd,Bool.and_eq_true,decide_eq_true_eq] at h
 have h0:=h.2
 unfold Kzi
 refine ⟨by omega,?_⟩
 unfold Kt6 at h0 ⊢
 cases hf:(List.range' 0 n).find? (jok s n a b) with
 | none=>rw [hf] at h0; exact absurd h0 (by decide)
 | some g =>
  have:=List.mem_of_find?_eq_some hf
  rw [List.mem_range'_1] at this
  simp only [Int.toNat_natCast]
  omega
end
def Kzk (s:K00) (n:Nat) (a b:List Nat):List Nat:=List.zipWith (pl s n) a b
def Kzl (s:K00) (n g:Nat) (a:List Nat):List Nat:=a.map (ti s n g)
def Kzm (s:K00) (n:Nat) (a b:List Nat):List Nat:=List.zipWith (Kzi s n) a b
def Kzn (n:Nat) (l:List Nat):Prop:=∀ x ∈ l,x < n
theorem Kzo {n x:Nat} {l:List Nat} (h:Kzn n (x :: l)):x < n∧Kzn n l:=⟨h x List.mem_cons_self,fun y hy=>h y (List.mem_cons_of_mem _ hy)⟩
theorem Kzp {n:Nat} {l:List Nat} (h:Kzn n l) (i:Nat):Kzn n (l.drop i):=fun x hx=>h x (List.mem_of_mem_drop hx)
section
variable {s:K00} {n:Nat} (hs:Kzc s n)
include hs
theorem Kzq:∀ {a b:List Nat},Kzn n a→Kzn n b→Kzn n (Kzk s n a b)
 | [],_,_,_=>fun x hx=>by cases hx
 | _ :: _,[],_,_=>fun x hx=>by cases hx
 | x :: a,y :: b,ha,hb=>fun z hz=>by
  obtain ⟨h1,h2⟩:=Kzo ha
  obtain ⟨h3,h4⟩:=Kzo hb
  rcases List.mem_cons.1 hz with rfl | hz
  ·exact Ksp hs.tab h1 h3
  ·exact Kzq h2 h4 z hz
theorem Kzr {g:Nat} (hg:g < n) {a:List Nat} (ha:Kzn n a):Kzn n (Kzl s n g a):=fun x hx=>by
 obtain ⟨y,hy,rfl⟩:=List.mem_map.1 hx
 exact Ksq hs.tab hg (ha y hy)
theorem Kzs:∀ {a b:List Nat},Kzn n a→Kzn n b→Kzn n (Kzm s n a b)
 | [],_,_,_=>fun x hx=>by cases hx
 | _ :: _,[],_,_=>fun x hx=>by cases hx
 | x :: a,y :: b,ha,hb=>fun z hz=>by
  obtain ⟨h1,h2⟩:=Kzo ha
  obtain ⟨h3,h4⟩:=Kzo hb
  rcases List.mem_cons.1 hz with rfl | hz
  ·exact (Kzj hs h1 h3).2
  ·exact Kzs h2 h4 z hz
theorem Kzt {a:List Nat} (ha:Kzn n a):Kzl s n 1 a=a:=by
 induction a with
 | nil=>rfl
 | cons x a ih =>
  obtain ⟨h1,h2⟩:=Kzo ha
  show ti s n 1 x :: Kzl s n 1 a=_
  rw [Kzh hs h1,ih h2]
theorem Kzu {a:List Nat} (ha:Kzn n a):Kzk s n (List.replicate a.length 0) a=a:=by
 induction a with
 | nil=>rfl
 | cons x a ih =>
  obtain ⟨h1,h2⟩:=Kzo ha
  show pl s n 0 x :: Kzk s n (List.replicate a.length 0) a=_
  rw [Kzg hs h1,ih h2]
theorem Kzv (g:Nat) (hg:g < n) (a b:List Nat) (ha:Kzn n a) (hb:Kzn n b) (hl:a.length ≤ 1099511627776):∀ (al bl:List Nat) (i:Nat) (out:List Int),a.drop i=al→b.drop i=bl→al.length=bl.length→out.length + al.length ≤ 1099511627776 →
  Kew (s,Kz7 a,(g:Int),Kz7 b,out,(i:Int))=some (out ++ Kz7 (Kzk s n al (Kzl s n g bl))):=by
 intro al
 induction al with
 | nil =>
  intro bl i out hd _ _ _
  rw [Kew.eq_def]
  simp only
  rw [Kz8,Ksa (Kto hd)]
  simp [Kzk,Kz7]
 | cons x al ih =>
  intro bl i out hd hd2 hll ho
  cases bl with
  | nil=>simp at hll
  | cons y bl =>
   obtain ⟨h1,h2,h3⟩:=Kzb hd
   obtain ⟨k1,k2,k3⟩:=Kzb hd2
   have hx:x < n:=Kzp ha i x (by rw [hd]; exact List.mem_cons_self)
   have hy:y < n:=Kzp hb i y (by rw [hd2]; exact List.mem_cons_self)
   rw [Kew.eq_def]
   simp only
   simp only [List.length_cons] at ho hll
   rw [Kz8,Ks9 h1,if_pos rfl,h2,bs,k2,bs,Ksv hs.tab hg hy,bs,Ksu hs.tab hx (Ksq hs.tab hg hy),bs,Kvq (by simp; omega),bs,Ks8 (by omega),ih bl (i + 1) _ h3 k3 (by omega) (by simp; omega)]
   rw [List.append_assoc]
   rfl
theorem Kzw (g:Nat) (hg:g < n) (a b:List Nat) (ha:Kzn n a) (hb:Kzn n b) (hl:a.length ≤ 1048576) (hab:a.length=b.length):Kez (s,Kz7 a,(g:Int),Kz7 b)=some (Kz7 (Kzk s n a (Kzl s n g b))):=by
 unfold Kez
 simp only
 rw [show (0:Int)=((0:Nat):Int) from rfl,Kzv hs g hg a b ha hb (by omega) a b 0 [] rfl rfl hab (by simp; omega)]
 rfl
theorem Kzx (a b:List Nat) (ha:Kzn n a) (hb:Kzn n b) (hl:a.length ≤ 1048576) (hab:a.length=b.length):Kez (s,Kz7 a,1,Kz7 b)=some (Kz7 (Kzk s n a b)):=by
 have:=Kzw hs 1 (Kze hs) a b ha hb hl hab
 rw [Kzt hs hb] at this
 exact this
theorem Kzy (a b:List Nat) (ha:Kzn n a) (hb:Kzn n b) (hl:a.length ≤ 1099511627776):∀ (al bl:List Nat) (i:Nat) (out:List Int),a.drop i=al→b.drop i=bl→al.length=bl.length→out.length + al.length ≤ 1099511627776 →
  Kfg (s,Kz7 a,Kz7 b,out,(i:Int))=some (out ++ Kz7 (Kzm s n al bl)):=by
 intro al
 induction al with
 | nil =>
  intro bl i out hd _ _ _
  rw [Kfg.eq_def]
  simp only
  rw [Kz8,Ksa (Kto hd)]
  simp [Kzm,Kz7]
 | cons x al ih =>
  intro bl i out hd hd2 hll ho
  cases bl with
  | nil=>simp at hll
  | cons y bl =>
   obtain ⟨h1,h2,h3⟩:=Kzb hd
   obtain ⟨k1,k2,k3⟩:=Kzb hd2
   have hx:x < n:=Kzp ha i x (by rw [hd]; exact List.mem_cons_self)
   have hy:y < n:=Kzp hb i y (by rw [hd2]; exact List.mem_cons_self)
   rw [Kfg.eq_def]
   simp only
   simp only [List.length_cons] at ho hll
   rw [Kz8,Ks9 h1,if_pos rfl,h2,bs,k2,bs,Ktb hs.tab hx hy,bs,(Kzj hs hx hy).1,Kvq (by simp; omega),bs,Ks8 (by omega),ih bl (i + 1) _ h3 k3 (by omega) (by simp; omega)]
   rw [List.append_assoc]
   rfl
theorem Kzz (a b:List Nat) (ha:Kzn n a) (hb:Kzn n b) (hl:a.length ≤ 1048576) (hab:a.length=b.length):Kfj (s,Kz7 a,Kz7 b)=some (Kz7 (Kzm s n a b)):=by
 unfold Kfj
 simp only
 rw [show (0:Int)=((0:Nat):Int) from rfl,Kzy hs a b ha hb (by omega) a b 0 [] rfl rfl hab (by simp; omega)]
 rfl
end
theorem V00 {α:Type} {out:List α} {i:Nat} (h:i < out.length) (x:α):(out.set i x).take (i + 1)=out.take i ++ [x]:=by
 rw [List.take_set,List.take_succ_eq_append_getElem h,List.set_append_right _ _ (by simp; omega)]
 simp [Nat.min_eq_left (Nat.le_of_lt h)]
section
variable {s:K00} {n:Nat} (hs:Kzc s n)
include hs
theorem V01 (a b:List Nat) (ha:Kzn n a) (hb:Kzn n b) (hl:a.length ≤ 1099511627776):∀ (al bl:List Nat) (i:Nat) (out:List Int),a.drop i=al→b.drop i=bl→al.length=bl.length→out.length=a.length →
  Klh (s,Kz7 a,Kz7 b,out,(i:Int))=some (out.take i ++ Kz7 (Kzk s n al bl)):=by
 intro al
 induction al with
 | nil =>
  intro bl i out hd _ _ ho
  rw [Klh.eq_def]
  simp only
  have:=Kto hd
  rw [Kz8,Ksa this]
  simp [Kzk,Kz7,List.take_of_length_le (show out.length ≤ i by omega)]
 | cons x al ih =>
  intro bl i out hd hd2 hll ho
  cases bl with
  | nil=>simp at hll
  | cons y bl =>
   obtain ⟨h1,h2,h3⟩:=Kzb hd
   obtain ⟨k1,k2,k3⟩:=Kzb hd2
   have hx:x < n:=Kzp ha i x (by rw [hd]; exact List.mem_cons_self)
   have hy:y < n:=Kzp hb i y (by rw [hd2]; exact List.mem_cons_self)
   rw [Klh.eq_def]
   simp only
   simp only [List.length_cons] at hll
   have hio:i < out.length:=by omega
   rw [Kz8,Ks9 h1,if_pos rfl,h2,bs,k2,bs,Ksw hs.tab hx hy,bs,Ks7 hio,bs,Ks8 (by omega),Int.toNat_natCast,ih bl (i + 1) _ h3 k3 (by omega) (by rw [List.length_set]; exact ho)]
   rw [V00 hio,List.append_assoc]
   rfl
theorem V02 (a b:List Nat) (ha:Kzn n a) (hb:Kzn n b) (hl:a.length ≤ 1048576) (hab:a.length=b.length):Kln (⟨s⟩,Kz7 a,Kz7 b)=some (Kz7 (Kzk s n a b)):=by
 unfold Kln Klk
 simp only
 rw [Kz8,Ky5 (by simp; omega),bs,Int.toNat_natCast,show (0:Int)=((0:Nat):Int) from rfl]
 rw [show (List.replicate a.length (((0:Nat):Int)))=List.replicate a.length (0:Int) from rfl,V01 hs a b ha hb (by omega) a b 0 _ rfl rfl hab (by simp)]
 rfl
theorem V03 (a b:List Nat) (ha:Kzn n a) (hb:Kzn n b) (hl:a.length ≤ 1099511627776):∀ (al bl:List Nat) (i:Nat) (out:List Int),a.drop i=al→b.drop i=bl→al.length=bl.length→out.length=a.length →
  Klu (s,Kz7 a,Kz7 b,out,(i:Int))=some (out.take i ++ Kz7 (Kzm s n al bl)):=by
 intro al
 induction al with
 | nil =>
  intro bl i out hd _ _ ho
  rw [Klu.eq_def]
  simp only
  have:=Kto hd
  rw [Kz8,Ksa this]
  simp [Kzm,Kz7,List.take_of_length_le (show out.length ≤ i by omega)]
 | cons x al ih =>
  intro bl i out hd hd2 hll ho
  cases bl with
  | nil=>simp at hll
  | cons y bl =>
   obtain ⟨h1,h2,h3⟩:=Kzb hd
   obtain ⟨k1,k2,k3⟩:=Kzb hd2
   have hx:x < n:=Kzp ha i x (by rw [hd]; exact List.mem_cons_self)
   have hy:y < n:=Kzp hb i y (by rw [hd2]; exact List.mem_cons_self)
   rw [Klu.eq_def]
   simp only
   simp only [List.length_cons] at hll
   have hio:i < out.length:=by omega
   rw [Kz8,Ks9 h1,if_pos rfl,h2,bs,k2,bs,Ktc hs.tab hx hy,bs,(Kzj hs hx hy).1,Ks7 hio,bs,Ks8 (by omega),Int.toNat_natCast,ih bl (i + 1) _ h3 k3 (by omega) (by rw [List.length_set]; exact ho)]
   rw [V00 hio,List.append_assoc]
   rfl
theorem V04 (a b:List Nat) (ha:Kzn n a) (hb:Kzn n b) (hl:a.length ≤ 1048576) (hab:a.length=b.length):Km0 (⟨s⟩,Kz7 a,Kz7 b)=some (Kz7 (Kzm s n a b)):=by
 unfold Km0 Klx
 simp only
 rw [Kz8,Ky5 (by simp; omega),bs,Int.toNat_natCast,show (0:Int)=((0:Nat):Int) from rfl]
 rw [show (List.replicate a.length (((0:Nat):Int)))=List.replicate a.length (0:Int) from rfl,V03 hs a b ha hb (by omega) a b 0 _ rfl rfl hab (by simp)]
 rfl
theorem V05 (g:Nat) (hg:g < n) (a:List Nat) (ha:Kzn n a) (hl:a.length ≤ 1099511627776):∀ (al:List Nat) (i:Nat) (out:List Int),a.drop i=al→out.length=a.length →
  Kmy (⟨s⟩,(g:Int),Kz7 a,out,(i:Int))=some (out.take i ++ Kz7 (Kzl s n g al)):=by
 intro al
 induction al with
 | nil =>
  intro i out hd ho
  rw [Kmy.eq_def]
  simp only
  have:=Kto hd
  rw [Kz8,Ksa this]
  simp [Kzl,Kz7,List.take_of_length_le (show out.length ≤ i by omega)]
 | cons x al ih =>
  intro i out hd ho
  obtain ⟨h1,h2,h3⟩:=Kzb hd
  have hx:x < n:=Kzp ha i x (by rw [hd]; exact List.mem_cons_self)
  rw [Kmy.eq_def]
  simp only
  have hio:i < out.length:=by omega
  rw [Kz8,Ks9 h1,if_pos rfl,h2,bs,Ksx hs.tab hg hx,bs,Ks7 hio,bs,Ks8 (by omega),Int.toNat_natCast,ih (i + 1) _ h3 (by rw [List.length_set]; exact ho)]
  rw [V00 hio,List.append_assoc]
  rfl
theorem V06 (g:Nat) (hg:g < n) (a:List Nat) (ha:Kzn n a) (hl:a.length ≤ 1048576):Kn1 (⟨s⟩,(g:Int),Kz7 a)=some (Kz7 (Kzl s n g a)):=by
 unfold Kn1
 simp only
 rw [Kz8,Ky5 (by simp; omega),bs,Int.toNat_natCast,show (0:Int)=((0:Nat):Int) from rfl]
 rw [show (List.replicate a.length (((0:Nat):Int)))=List.replicate a.length (0:Int) from rfl,V05 hs g hg a ha (by omega) a 0 _ rfl (by simp)]
 rfl
theorem V07 (g:Nat) (hg:g < n) (a:List Nat) (ha:Kzn n a) (hl:a.length ≤ 1099511627776):∀ (al:List Nat) (i:Nat),a.drop i=al →
  ∃ r,Kml (Kz7 a,⟨s⟩,(g:Int),(i:Int))=some r∧(match r with | .inl _=>(al.all fun x=>le s n x g)=true | .inr j=>(al.all fun x=>le s n x g)=false∧0 ≤ j):=by
 intro al
 induction al with
 | nil =>
  intro i hd
  rw [Kml.eq_def]
  simp only
  rw [Kz8,Ksa (Kto hd)]
  exact ⟨_,rfl,rfl⟩
 | cons x al ih =>
  intro i hd
  obtain ⟨h1,h2,h3⟩:=Kzb hd
  have hx:x < n:=Kzp ha i x (by rw [hd]; exact List.mem_cons_self)
  rw [Kml.eq_def]
  simp only
  rw [Kz8,Ks9 h1,if_pos rfl,h2,bs]
  unfold Kmh
  simp only
  rw [iLe hs.tab hx hg]
  simp only [bs]
  cases hle:le s n x g with
  | true =>
   obtain ⟨r,hr,hm⟩:=ih (i + 1) h3
   refine ⟨r,?_,?_⟩
   ·rw [if_neg (by simp),Ks8 (by omega)]; exact hr
   ·rw [List.all_cons,hle,Bool.true_and]; exact hm
  | false =>
   exact ⟨_,if_pos rfl,by simp [List.all_cons,hle]⟩
theorem V08 (g:Nat) (hg:g < n) (a:List Nat) (ha:Kzn n a) (hl:a.length ≤ 1048576):Kmu (⟨s⟩,Kz7 a,(g:Int))=some (a.all fun x=>le s n x g):=by
 obtain ⟨r,hr,hm⟩:=V07 hs g hg a ha (by omega) a 0 rfl
 unfold Kmu Kmr Kmo
 simp only
 rw [show (0:Int)=((0:Nat):Int) from rfl,hr]
 cases r with
 | inl _=>simp only [bs] at hm ⊢; rw [hm]; rfl
 | inr j =>
  simp only [bs] at hm ⊢
  rw [hm.1,decide_eq_true (by omega)]; rfl
end
theorem V09 (k:Nat) (h:k ≤ 1048576):Kec (k:Int)=some (Kz7 (List.replicate k 0)):=by
 unfold Kec
 rw [Int.toNat_natCast,Ky5 (by constructor <;> omega),bs]
 unfold Kz7
 rw [List.map_replicate]
 rfl
theorem V0a (ctx front:List (List Int)) (h:ctx.length + front.length ≤ 1048576):Kei (ctx,front)=some (front ++ ctx):=by
 unfold Kei
 simp only
 rw [Kvq (by simp; omega),bs,Kvq (by omega),bs]
theorem V0b (ps:List (List Int)) (hp:ps.length ≤ 1099511627776):∀ (l:List (List Int)) (i:Nat) (out:List Int),ps.drop i=l→out.length + l.flatten.length ≤ 1099511627776→Kep (ps,out,(i:Int))=some (out ++ l.flatten):=by
 intro l
 induction l with
 | nil =>
  intro i out hd _
  rw [Kep.eq_def]
  simp only
  rw [Ksa (Kto hd)]
  simp
 | cons x l ih =>
  intro i out hd ho
  obtain ⟨h1,h2,h3⟩:=Ktn hd
  rw [List.flatten_cons,List.length_append] at ho
  rw [Kep.eq_def]
  simp only
  rw [Ks9 h1,if_pos rfl,h2,bs,Kvq (by omega),bs,Ks8 (by omega),ih (i + 1) _ h3 (by rw [List.length_append]; omega),List.flatten_cons,List.append_assoc]
theorem V0c (c:Int) (ps:List (List Int)) (hp:ps.length ≤ 1048576) (h:ps.flatten.length ≤ 1048576):Kes (c,ps)=some (c :: ps.flatten):=by
 unfold Kes
 simp only
 rw [show (0:Int)=((0:Nat):Int) from rfl,V0b ps (by omega) ps 0 [c] rfl (by rw [List.length_singleton]; omega)]
 rfl
theorem V0d (ps:List (List (Int))) (hp:ps.length ≤ 1099511627776):∀ (l:List (List (Int))) (i sz:Nat),ps.drop i=l→sz + l.flatten.length ≤ 1099511627776→Km7 (ps,(sz:Int),(i:Int))=some (((sz + l.flatten.length:Nat)):Int):=by
 intro l
 induction l with
 | nil =>
  intro i sz hd _
  rw [Km7.eq_def]
  simp only
  rw [Ksa (Kto hd)]
  simp
 | cons x l ih =>
  intro i sz hd ho
  obtain ⟨h1,h2,h3⟩:=Ktn hd
  rw [List.flatten_cons,List.length_append] at ho
  have e:wr ((sz:Int) + (x.length:Int))=((sz + x.length:Nat):Int):=Kx0 (by omega) (by omega)
  rw [Km7.eq_def]
  simp only
  rw [Ks9 h1,if_pos rfl,h2,bs,e,decide_eq_false (by omega),if_neg (by decide),bs,Ks8 (by omega),ih (i + 1) _ h3 (by omega),List.flatten_cons,List.length_append,Nat.add_assoc]
theorem V0e (ps:List (List (Int))) (hp:ps.length ≤ 1099511627776):∀ (l:List (List (Int))) (i:Nat) (out:List (Int)),ps.drop i=l→out.length + l.flatten.length ≤ 1099511627776→Kmb (ps,out,(i:Int))=some (out ++ l.flatten):=by
 intro l
 induction l with
 | nil =>
  intro i out hd _
  rw [Kmb.eq_def]
  simp only
  rw [Ksa (Kto hd)]
  simp
 | cons x l ih =>
  intro i out hd ho
  obtain ⟨h1,h2,h3⟩:=Ktn hd
  rw [List.flatten_cons,List.length_append] at ho
  rw [Kmb.eq_def]
  simp only
  rw [Ks9 h1,if_pos rfl,h2,bs,Kvq (by omega),bs,Ks8 (by omega),ih (i + 1) _ h3 (by rw [List.length_append]; omega),List.flatten_cons,List.append_assoc]
theorem V0f (k:Nat) (h:k ≤ 1048576):Km3 (k:Int)=some ():=by
 unfold Km3
 have e:wr ((k:Int) - wr (0 - 0))=(k:Int):=by rw [Ks6 (x:=0 - 0) (by decide) (by decide),Ks6 (by omega) (by omega)]; omega
 rw [decide_eq_false (by omega),if_neg (by decide),e]
 by_cases hk:k=0
 ·subst hk; rfl
 ·rw [decide_eq_true (by omega),if_pos rfl,Int.toNat_natCast,Ky5 (by constructor <;> omega),bs]
theorem V0g (ps:List (List (Int))) (hp:ps.length ≤ 1048576) (h:ps.flatten.length ≤ 1048576):Kme ps=some ps.flatten:=by
 unfold Kme
 have h0:=V0d ps (by omega) ps 0 0 rfl (by omega)
 rw [Nat.zero_add] at h0
 rw [show (0:Int)=((0:Nat):Int) from rfl,h0,bs,V0f _ h,bs,V0e ps (by omega) ps 0 [] rfl (by rw [List.length_nil]; omega)]
 rfl
theorem V0h (ps:List (List (List Int))) (hp:ps.length ≤ 1099511627776):∀ (l:List (List (List Int))) (i sz:Nat),ps.drop i=l→sz + l.flatten.length ≤ 1099511627776→Kks (ps,(sz:Int),(i:Int))=some (((sz + l.flatten.length:Nat)):Int):=by
 intro l
 induction l with
 | nil =>
  intro i sz hd _
  rw [Kks.eq_def]
  simp only
  rw [Ksa (Kto hd)]
  simp
 | cons x l ih =>
  intro i sz hd ho
  obtain ⟨h1,h2,h3⟩:=Ktn hd
  rw [List.flatten_cons,List.length_append] at ho
  have e:wr ((sz:Int) + (x.length:Int))=((sz + x.length:Nat):Int):=Kx0 (by omega) (by omega)
  rw [Kks.eq_def]
  simp only
  rw [Ks9 h1,if_pos rfl,h2,bs,e,decide_eq_false (by omega),if_neg (by decide),bs,Ks8 (by omega),ih (i + 1) _ h3 (by omega),List.flatten_cons,List.length_append,Nat.add_assoc]
theorem V0i (ps:List (List (List Int))) (hp:ps.length ≤ 1099511627776):∀ (l:List (List (List Int))) (i:Nat) (out:List (List Int)),ps.drop i=l→out.length + l.flatten.length ≤ 1099511627776→Kkw (ps,out,(i:Int))=some (out ++ l.flatten):=by
 intro l
 induction l with
 | nil =>
  intro i out hd _
  rw [Kkw.eq_def]
  simp only
  rw [Ksa (Kto hd)]
  simp
 | cons x l ih =>
  intro i out hd ho
  obtain ⟨h1,h2,h3⟩:=Ktn hd
  rw [List.flatten_cons,List.length_append] at ho
  rw [Kkw.eq_def]
  simp only
  rw [Ks9 h1,if_pos rfl,h2,bs,Kvq (by omega),bs,Ks8 (by omega),ih (i + 1) _ h3 (by rw [List.length_append]; omega),List.flatten_cons,List.append_assoc]
theorem V0j (k:Nat) (h:k ≤ 1048576):Kko (k:Int)=some ():=by
 unfold Kko
 have e:wr ((k:Int) - wr (0 - 0))=(k:Int):=by rw [Ks6 (x:=0 - 0) (by decide) (by decide),Ks6 (by omega) (by omega)]; omega
 rw [decide_eq_false (by omega),if_neg (by decide),e]
 by_cases hk:k=0
 ·subst hk; rfl
 ·rw [decide_eq_true (by omega),if_pos rfl,Int.toNat_natCast,Ky5 (by constructor <;> omega),bs]
theorem V0k (ps:List (List (List Int))) (hp:ps.length ≤ 1048576) (h:ps.flatten.length ≤ 1048576):Kkz ps=some ps.flatten:=by
 unfold Kkz
 have h0:=V0h ps (by omega) ps 0 0 rfl (by omega)
 rw [Nat.zero_add] at h0
 rw [show (0:Int)=((0:Nat):Int) from rfl,h0,bs,V0j _ h,bs,V0i ps (by omega) ps 0 [] rfl (by rw [List.length_nil]; omega)]
 rfl
def V0l (s:K00) (ctx:List (List Int)):Bool:=decide (ctx.length ≤ 8) && ctx.all (yN s.fSize true)
theorem sYn {s:K00} {ty:List Int} (h:ty.length ≤ 1099511627776):(Kcn ty >>= fun r=>if r=true then Kcy (ty,s.fSize,true) >>= fun q=>some (!q) else some true)=some (!yN s.fSize true ty):=by
 rw [Kua ty h,bs]
 unfold yN
 cases wtB ty with
 | false=>rfl
 | true=>rw [if_pos rfl,Kug ty h,bs]; rfl
theorem V0m (s:K00) (ctx:List (List Int)) (hc:ctx.length ≤ 1048576) (hl:∀ ty ∈ ctx,ty.length ≤ 1099511627776):∀ (l:List (List Int)) (i:Nat),ctx.drop i=l→Kd2 (s,ctx,(i:Int))=some (if l.all (yN s.fSize true) then .inl () else .inr false):=by
 intro l
 induction l with
 | nil =>
  intro i hd
  rw [Kd2.eq_def]
  simp only
  rw [Ksa (Kto hd)]; rfl
 | cons x l ih =>
  intro i hd
  obtain ⟨h1,h2,h3⟩:=Ktn hd
  have hx:x ∈ ctx:=List.mem_of_mem_drop (i:=i) (by rw [hd]; exact List.mem_cons_self)
  rw [Kd2.eq_def]
  simp only
  rw [Ks9 h1,if_pos rfl]
  simp only [h2,bs]
  rw [sYn (hl x hx),bs,Ks8 (by omega),ih (i + 1) h3,List.all_cons]
  cases yN s.fSize true x <;> cases l.all (yN s.fSize true) <;> rfl
theorem V0n (s:K00) (ctx:List (List Int)) (hc:ctx.length ≤ 1048576) (hl:∀ ty ∈ ctx,ty.length ≤ 1099511627776):Kd5 (s,ctx)=some (V0l s ctx):=by
 unfold Kd5 V0l
 simp only
 by_cases h:ctx.length ≤ 8
 ·rw [decide_eq_false (by omega),decide_eq_true h,if_neg (by decide),show (0:Int)=((0:Nat):Int) from rfl,V0m s ctx hc hl ctx 0 rfl,bs]
  cases ctx.all (yN s.fSize true) <;> rfl
 ·rw [decide_eq_true (by omega),decide_eq_false h,if_pos rfl]; rfl
theorem V0o (s:K00) (ctx:List (List Int)) (hc:ctx.length ≤ 1048576) (hl:∀ ty ∈ ctx,ty.length ≤ 1099511627776):∀ (l:List (List Int)) (i:Nat),ctx.drop i=l→∃ r,Kji (ctx,s,(i:Int))=some r∧(match r with | .inl _=>l.all (Kws s)=true | .inr j=>l.all (Kws s)=false∧0 ≤ j):=by
 intro l
 induction l with
 | nil =>
  intro i hd
  rw [Kji.eq_def]
  simp only
  rw [Ksa (Kto hd)]
  exact ⟨_,rfl,rfl⟩
 | cons x l ih =>
  intro i hd
  obtain ⟨h1,h2,h3⟩:=Ktn hd
  have hx:x ∈ ctx:=List.mem_of_mem_drop (i:=i) (by rw [hd]; exact List.mem_cons_self)
  rw [Kji.eq_def]
  simp only
  rw [Ks9 h1,if_pos rfl,h2,bs]
  unfold Kje
  simp only
  rw [Kwu s x (hl x hx)]
  simp only [bs]
  cases hle:Kws s x with
  | true =>
   obtain ⟨r,hr,hm⟩:=ih (i + 1) h3
   refine ⟨r,?_,?_⟩
   ·rw [if_neg (by simp),Ks8 (by omega)]; exact hr
   ·rw [List.all_cons,hle,Bool.true_and]; exact hm
  | false=>exact ⟨_,if_pos rfl,by simp [List.all_cons,hle]⟩
theorem V0p (s:K00) (hs:Kw4 s=true) (ctx:List (List Int)) (hc:ctx.length ≤ 1048576) (hl:∀ ty ∈ ctx,ty.length ≤ 1099511627776):Kjr (s,ctx)=some (V0l s ctx):=by
 have e:ctx.all (Kws s)=ctx.all (yN s.fSize true):=by
  congr 1
  funext ty
  exact Kwx (Kw5 hs) ty
 unfold Kjr V0l
 simp only
 by_cases h:ctx.length ≤ 8
 ·rw [decide_eq_true (by omega:(ctx.length:Int) ≤ 8),decide_eq_true h,if_pos rfl]
  obtain ⟨r,hr,hm⟩:=V0o s ctx hc hl ctx 0 rfl
  unfold Kjo Kjl
  simp only
  rw [show (0:Int)=((0:Nat):Int) from rfl,hr]
  rw [e] at hm
  cases r with
  | inl _=>simp only [bs] at hm ⊢; rw [hm]; rfl
  | inr j =>
   simp only [bs] at hm ⊢
   rw [hm.1,decide_eq_true (by omega)]; rfl
 ·rw [decide_eq_false (by omega),decide_eq_false h,if_neg (by decide)]; rfl
theorem V0q {s:K00} (ty:List Int) (h:ty.length ≤ 1099511627776):Kjx (ty,s)=some (Kws s ty):=by
 unfold Kjx
 simp only
 rw [Kwu s ty h,bs]
mutual
theorem V0r (s:K00):∀ (t:K01) (n nodes:Nat),tms t ≤ 1099511627776→n + 2 * tms t ≤ 35184372088832→nodes ≤ 400→Kk4 (t,(n:Int),s,s,(nodes:Int))=some (Kve (tOk (Kwp s) (Kws s) n t) nodes (tsz t))
 | ⟨op,N,ty,ks⟩,n,nodes,ht,hn,hd=>by
  rw [tms] at ht hn
  rw [Kk4.eq_def,tOk,tsz]
  simp only
  rw [Kv1,bs]
  unfold Kv0
  cases hop:inB op 0 12
  ·simp [Kv8,hop,Kve]
  ·simp only [if_true]
   rw [Ks8 (by omega)]
   by_cases h4:nodes + 1 ≤ 400
   ·rw [decide_eq_false (by omega:¬ ((nodes + 1:Nat):Int) > 400)]
    by_cases hk:(ks.length:Int)=Kus op
    ·rw [show ((ks.length:Int) != Kus op)=false by rw [hk]; exact Ksg]
     simp only [Bool.false_eq_true,if_false,bs]
     refine (Kuh (x:=Kv6 (Kwp s) (n:Int) ⟨op,N,ty,ks⟩) ?_).trans ?_
     ·unfold Kv6
      simp only [iIn,Ks6 (x:=(n:Int) - 1) (by omega) (by omega),Kwq,bs]
      cases op == 0 <;> cases op == 1 <;> cases Kut op <;> rfl
     refine (Kuh (x:=Kv6 (Kwp s) (n:Int) ⟨op,N,ty,ks⟩ && Kv7 (Kws s) ⟨op,N,ty,ks⟩) ?_).trans ?_
     ·unfold Kv7
      simp only [V0q ty (by omega),bs]
      cases Kuu op <;> cases Kv6 (Kwp s) (n:Int) ⟨op,N,ty,ks⟩ <;> rfl
     have e:Kv8 (Kwp s) (Kws s) (n:Int) ⟨op,N,ty,ks⟩=(Kv6 (Kwp s) (n:Int) ⟨op,N,ty,ks⟩ && Kv7 (Kws s) ⟨op,N,ty,ks⟩):=by
      unfold Kv8
      simp only
      rw [hop,hk]; simp
     rw [e]
     cases Kv6 (Kwp s) (n:Int) ⟨op,N,ty,ks⟩ && Kv7 (Kws s) ⟨op,N,ty,ks⟩
     ·simp [Kve]
     ·have h:=V0s s ks ⟨op,N,ty,ks⟩ n (nodes + 1) 0 rfl (by simp only; omega) (by omega) (by omega) h4
      rw [if_pos rfl,show (0:Int)=((0:Nat):Int) from rfl,h]
      simp only [Bool.true_and]
      unfold Kve
      rw [show nodes + (1 + Kui ks)=nodes + 1 + Kui ks by omega]
      cases Kv9 (Kwp s) (Kws s) op n 0 ks && decide (nodes + 1 + Kui ks ≤ 400) <;> rfl
    ·rw [show ((ks.length:Int) != Kus op)=true by simpa using hk]
     have e:Kv8 (Kwp s) (Kws s) (n:Int) ⟨op,N,ty,ks⟩=false:=by
      unfold Kv8
      simp only
      rw [show ((ks.length:Int) == Kus op)=false by simpa using hk]; simp
     simp [e,Kve]
   ·rw [decide_eq_true (by omega:((nodes + 1:Nat):Int) > 400)]
    have:¬ nodes + (1 + Kui ks) ≤ 400:=by omega
    simp [Kve,this]
theorem V0s (s:K00):∀ (ks:List K01) (t:K01) (n nodes i:Nat),t.fKids.drop i=ks→t.fKids.length ≤ 1099511627776→Kuj ks ≤ 1099511627776→n + 2 * (ks.length + Kuj ks) ≤ 35184372088832→nodes ≤ 400 →
  Kk5 (t,(n:Int),s,s,(nodes:Int),(i:Int))=some (if Kv9 (Kwp s) (Kws s) t.fOp n i ks && decide (nodes + Kui ks ≤ 400) then .inl ((nodes + Kui ks:Nat):Int) else .inr 401)
 | [],t,n,nodes,i,hd,hk,ht,hn,h4=>by
  rw [Kk5.eq_def,Kv9,Kui]
  simp only
  rw [Ksa (Kto hd)]
  simp [h4]
 | k :: ks,t,n,nodes,i,hd,hk,ht,hn,h4=>by
  obtain ⟨hi,hx,hd'⟩:=Ktn hd
  rw [Kuj] at ht hn
  rw [List.length_cons] at hn
  have ha:=Kv3 t.fOp (i:Int)
  rw [Kk5.eq_def,Kv9,Kui]
  simp only
  rw [Ks9 hi,if_pos rfl,hx,bs,Kv5,bs,Ks6 (by omega) (by omega),show (n:Int) + ((Kv2 t.fOp (i:Int):Nat):Int)=((n + Kv2 t.fOp (i:Int):Nat):Int) by omega]
  rw [V0r s k (n + Kv2 t.fOp (i:Int)) nodes (by omega) (by omega) h4,bs,Ks8 (by omega)]
  unfold Kve
  cases tOk (Kwp s) (Kws s) (n + Kv2 t.fOp (i:Int)) k
  ·rfl
  ·by_cases q:nodes + tsz k ≤ 400
   ·rw [decide_eq_true q,Bool.true_and,if_pos rfl,decide_eq_false (by omega:¬ ((nodes + tsz k:Nat):Int) > 400),if_neg (by decide),V0s s ks t n (nodes + tsz k) (i + 1) hd' hk (by omega) (by omega) q,Nat.add_assoc,Bool.true_and]
   ·rw [decide_eq_false q,decide_eq_false (by omega:¬ nodes + (tsz k + Kui ks) ≤ 400)]
    simp
end
theorem V0t {s:K00} {n:Nat} (h:Tab s n):Kwp s=gN s.fSize true:=by
 funext g
 rw [Kwv h]
 unfold gN inB
 rw [h.size]
 rw [Bool.eq_iff_iff]
 simp
 omega
theorem V0u (s:K00) (hs:Kw4 s=true) (t:K01) (n:Nat) (hn:n ≤ 8) (ht:tms t ≤ 1099511627776):Kkb (s,t,(n:Int))=some (Kyw s t n):=by
 have hy:Kws s=yN s.fSize true:=funext fun ty=>Kwx (Kw5 hs) ty
 unfold Kkb Kyw
 simp only
 rw [iIn,bs,hs]
 have:inB (n:Int) 0 8=true:=by unfold inB; rw [decide_eq_true (by omega),decide_eq_true (by omega)]; rfl
 have hc:=V0r s t n 0 ht (by omega) (by omega)
 rw [V0t (Kw5 hs),hy] at hc
 rw [this,if_pos rfl,show (0:Int)=((0:Nat):Int) from rfl,hc,bs]
 unfold Kve
 rw [Nat.zero_add]
 cases tOk (gN s.fSize true) (yN s.fSize true) n t
 ·simp [bs]
 ·by_cases h:tsz t ≤ 400
  ·simp [bs,h]; omega
  ·simp [bs,h]
def V0v (s:K00) (ctx:List (List Int)) (t:K01):Bool:=Kw4 s && V0l s ctx && Kyw s t ctx.length
theorem V0w (s:K00) (ctx:List (List Int)) (t:K01) (hc:ctx.length ≤ 1048576) (hl:∀ ty ∈ ctx,ty.length ≤ 1099511627776) (ht:tms t ≤ 1099511627776):Ke9 (s,ctx,t)=some (V0v s ctx t):=by
 unfold Ke9 V0v
 simp only
 rw [Kw6,bs]
 cases hs:Kw4 s
 ·rfl
 ·rw [if_pos rfl,V0n s ctx hc hl,bs]
  cases h2:V0l s ctx
  ·rfl
  ·have h8:ctx.length ≤ 8:=by
    unfold V0l at h2
    simp only [Bool.and_eq_true,decide_eq_true_eq] at h2
    exact h2.1
   rw [if_pos rfl,Kyx s t _ h8 ht]
   rfl
theorem V0x (s:K00) (ctx:List (List Int)) (t:K01) (hc:ctx.length ≤ 1048576) (hl:∀ ty ∈ ctx,ty.length ≤ 1099511627776) (ht:tms t ≤ 1099511627776) :
  Ko0 (s,ctx,t)=if V0v s ctx t then (Knt (⟨s⟩,ctx,t) >>= fun r=>some (some r)) else some none:=by
 unfold Ko0 V0v
 simp only
 rw [Kw7,bs]
 cases hs:Kw4 s
 ·rfl
 ·rw [if_pos rfl,V0p s hs ctx hc hl,bs]
  cases h2:V0l s ctx
  ·rfl
  ·have h8:ctx.length ≤ 8:=by
    unfold V0l at h2
    simp only [Bool.and_eq_true,decide_eq_true_eq] at h2
    exact h2.1
   rw [if_pos rfl,V0u s hs t _ h8 ht,bs]
   cases Kyw s t ctx.length <;> rfl
def TyS (s:K00) (ty:List Int):Prop:=yN s.fSize true ty=true
theorem V0y {s:K00} {ty:List Int} (h:TyS s ty):ty.length ≤ 40:=by
 unfold TyS yN at h
 rw [Bool.and_eq_true] at h
 exact Kvo h.1
theorem V0z {s:K00} {ty:List Int} (h:TyS s ty):∃ T:Ty,T.ok∧ty=T.code∧T.code.length ≤ 40∧T.code.all (Kud s.fSize true)=true:=by
 have hl:=V0y h
 unfold TyS yN at h
 rw [Bool.and_eq_true] at h
 obtain ⟨T,h1,rfl,_⟩:=Kwf h.1
 exact ⟨T,h1,rfl,hl,h.2⟩
theorem V10 {s:K00} {T:Ty} (h:T.ok) (hl:T.code.length ≤ 40) (hc:T.code.all (Kud s.fSize true)=true):TyS s T.code:=by
 unfold TyS yN
 rw [Kwg h hl,hc]; rfl
structure V11 (s:K00) (c:Int) (a b:List Int):Prop where
 ya:TyS s a
 yb:TyS s b
 p0:Kf5 (c :: (a ++ b),0)=some a
 p1:Kf5 (c :: (a ++ b),1)=some b
 pp:Kki (c :: (a ++ b))=some [a,b]
structure V12 (s:K00) (c:Int) (a:List Int):Prop where
 ya:TyS s a
 p0:Kf5 (c :: a,0)=some a
 pp:Kki (c :: a)=some [a]
theorem V13 {s:K00} {c:Int} (hc:c=35∨c=36):Kud s.fSize true c=false:=by
 rcases hc with rfl | rfl
 ·unfold Kud Kuc
  rw [show Ktr 35=2 from rfl]; simp
 ·unfold Kud Kuc
  rw [show Ktr 36=1 from rfl]; simp
theorem V14 {s:K00}:TyS s [0]:=V10 (T:=.num) trivial (by decide) (by
 show (Kud s.fSize true 0 && true)=true
 unfold Kud
 rw [show Ktr 0=0 from rfl]; simp)
section
variable {s:K00} {n:Nat} (hs:Kzc s n)
include hs
theorem V15 {c:Int} (hc:3 ≤ c∧c ≤ 18):Kud s.fSize true c=true ↔ c - 3 < (n:Int):=by
 have hk:Ktr c=2:=by rcases Ktv c with h | h | h | h <;> omega
 unfold Kud Kuc
 rw [hk,hs.tab.size,if_neg (by omega),if_neg (by omega)]
 simp
 omega
theorem V16 {c:Int} (hc:19 ≤ c∧c ≤ 34):Kud s.fSize true c=true ↔ c - 19 < (n:Int):=by
 have hk:Ktr c=1:=by rcases Ktv c with h | h | h | h <;> omega
 unfold Kud Kuc
 rw [hk,hs.tab.size,if_neg (by omega),if_pos (by omega)]
 simp
 omega
theorem V17 {ty:List Int} (h:TyS s ty):ty=[0]∨(∃ a b,ty=1 :: (a ++ b)∧V11 s 1 a b)∨(∃ a b,ty=2 :: (a ++ b)∧V11 s 2 a b) ∨
  (∃ (g:Nat) (a b:List Int),g < n∧g ≤ 15∧ty=(3 + (g:Int)) :: (a ++ b)∧V11 s (3 + (g:Int)) a b)∨(∃ (g:Nat) (a:List Int),g < n∧g ≤ 15∧ty=(19 + (g:Int)) :: a∧V12 s (19 + (g:Int)) a):=by
 obtain ⟨T,hT,rfl,hl,hc⟩:=V0z h
 cases T with
 | num=>exact .inl rfl
 | bin c a b =>
  have B:=Kxy hT (by omega)
  have hl':=hl
  rw [Ty.code,List.length_cons,List.length_append] at hl'
  rw [Ty.code,List.all_cons,List.all_append,Bool.and_eq_true,Bool.and_eq_true] at hc
  have hP:V11 s c a.code b.code:=⟨V10 B.ok.1 (by omega) hc.2.1,V10 B.ok.2 (by omega) hc.2.2,B.p0,B.p1,B.pp⟩
  have hk:=hT.1
  rcases Ktv c with ⟨q,e⟩ | ⟨q,e⟩ | ⟨q,e⟩ | ⟨q,e⟩
  ·rw [e] at hk; exact absurd hk (by decide)
  ·rcases q with rfl | rfl | q | rfl
   ·exact .inr (.inl ⟨_,_,rfl,hP⟩)
   ·exact .inr (.inr (.inl ⟨_,_,rfl,hP⟩))
   ·have:=(V15 hs q).1 hc.1
    obtain ⟨g,hg⟩:∃ g:Nat,c=3 + (g:Int):=⟨(c - 3).toNat,by omega⟩
    subst hg
    exact .inr (.inr (.inr (.inl ⟨g,_,_,by omega,by omega,rfl,hP⟩)))
   ·rw [V13 (s:=s) (.inl rfl)] at hc; exact absurd hc.1 (by decide)
  ·rw [e] at hk; exact absurd hk (by decide)
  ·rw [e] at hk; exact absurd hk (by decide)
 | un c a =>
  have B:=unP hT (by omega)
  have hl':=hl
  rw [Ty.code,List.length_cons] at hl'
  rw [Ty.code,List.all_cons,Bool.and_eq_true] at hc
  have hP:V12 s c a.code:=⟨V10 B.ok (by omega) hc.2,B.p0,B.pp⟩
  have hk:=hT.1
  rcases Ktv c with ⟨q,e⟩ | ⟨q,e⟩ | ⟨q,e⟩ | ⟨q,e⟩
  ·rw [e] at hk; exact absurd hk (by decide)
  ·rw [e] at hk; exact absurd hk (by decide)
  ·rcases q with q | rfl
   ·have:=(V16 hs q).1 hc.1
    obtain ⟨g,hg⟩:∃ g:Nat,c=19 + (g:Int):=⟨(c - 19).toNat,by omega⟩
    subst hg
    exact .inr (.inr (.inr (.inr ⟨g,_,by omega,by omega,rfl,hP⟩)))
   ·rw [V13 (s:=s) (.inr rfl)] at hc; exact absurd hc.1 (by decide)
  ·rw [e] at hk; exact absurd hk (by decide)
theorem V18 {c:Int} {a b:List Int} (ha:TyS s a) (hb:TyS s b) (hc:c=1∨c=2∨∃ g:Nat,g < n∧c=3 + (g:Int)) (hl:(c :: (a ++ b)).length ≤ 40):TyS s (c :: (a ++ b)):=by
 obtain ⟨A,hA,rfl,_,hAc⟩:=V0z ha
 obtain ⟨B,hB,rfl,_,hBc⟩:=V0z hb
 have hn:=hs.tab.hi
 have hk:Ktr c=2∧Kud s.fSize true c=true:=by
  rcases hc with rfl | rfl | ⟨g,hg,rfl⟩
  ·exact ⟨rfl,by unfold Kud; rw [show Ktr 1=2 from rfl]; simp⟩
  ·exact ⟨rfl,by unfold Kud; rw [show Ktr 2=2 from rfl]; simp⟩
  ·refine ⟨by rcases Ktv (3 + (g:Int)) with h | h | h | h <;> omega,(V15 hs (by omega)).2 (by omega)⟩
 have:TyS s (Ty.bin c A B).code:=V10 ⟨hk.1,hA,hB⟩ hl (by rw [Ty.code,List.all_cons,List.all_append,hk.2,hAc,hBc]; rfl)
 exact this
theorem V19 {g:Nat} (hg:g < n) {a:List Int} (ha:TyS s a) (hl:((19 + (g:Int)) :: a).length ≤ 40):TyS s ((19 + (g:Int)) :: a):=by
 obtain ⟨A,hA,rfl,_,hAc⟩:=V0z ha
 have hn:=hs.tab.hi
 have hk:Ktr (19 + (g:Int))=1:=by rcases Ktv (19 + (g:Int)) with h | h | h | h <;> omega
 have:TyS s (Ty.un (19 + (g:Int)) A).code:=V10 ⟨hk,hA⟩ hl (by rw [Ty.code,List.all_cons,(V16 hs (by omega)).2 (by omega),hAc]; rfl)
 exact this
theorem V1a {x:Int} (h:gN s.fSize true x=true):∃ g:Nat,x=(g:Int)∧g < n:=by
 unfold gN at h
 rw [hs.tab.size] at h
 simp at h
 exact ⟨x.toNat,by omega,by omega⟩
end
structure V1b (s:K00) (n:Nat) (k:K01) (m:Nat):Prop where
 ok:tOk (gN s.fSize true) (yN s.fSize true) n k=true
 sz:tsz k + 1 ≤ m
theorem nd1 {s:K00} {n m:Nat} {op N:Int} {ty:List Int} {ks:List K01} (h:tOk (gN s.fSize true) (yN s.fSize true) n ⟨op,N,ty,ks⟩=true) (hm:tsz ⟨op,N,ty,ks⟩ ≤ m) (hk:Kus op=1):∃ a,ks=[a]∧V1b s (n + Kv2 op 0) a m:=by
 obtain ⟨h1,h2⟩:=Kvp h
 obtain ⟨a,rfl⟩:=Kyu (l:=ks) (beq_iff_eq.2 (by rw [← hk]; exact (Kvr h1).2))
 simp only at h2
 rw [Kyt,Bool.and_eq_true] at h2
 rw [Kyy] at hm
 exact ⟨a,rfl,h2.1,by omega⟩
theorem nd2 {s:K00} {n m:Nat} {op N:Int} {ty:List Int} {ks:List K01} (h:tOk (gN s.fSize true) (yN s.fSize true) n ⟨op,N,ty,ks⟩=true) (hm:tsz ⟨op,N,ty,ks⟩ ≤ m) (hk:Kus op=2):∃ a b,ks=[a,b]∧V1b s (n + Kv2 op 0) a m∧V1b s (n + Kv2 op 1) b m:=by
 obtain ⟨h1,h2⟩:=Kvp h
 obtain ⟨a,b,rfl⟩:=Kyv (l:=ks) (beq_iff_eq.2 (by rw [← hk]; exact (Kvr h1).2))
 simp only at h2
 rw [Kyt,Kyt,Bool.and_eq_true,Bool.and_eq_true] at h2
 rw [Kyz] at hm
 exact ⟨a,b,rfl,⟨h2.1,by omega⟩,⟨h2.2.1,by omega⟩⟩
theorem nd3 {s:K00} {n m:Nat} {op N:Int} {ty:List Int} {ks:List K01} (h:tOk (gN s.fSize true) (yN s.fSize true) n ⟨op,N,ty,ks⟩=true) (hm:tsz ⟨op,N,ty,ks⟩ ≤ m) (hk:Kus op=3):∃ a b c,ks=[a,b,c]∧V1b s (n + Kv2 op 0) a m∧V1b s (n + Kv2 op 1) b m∧V1b s (n + Kv2 op 2) c m:=by
 obtain ⟨h1,h2⟩:=Kvp h
 obtain ⟨a,b,c,rfl⟩:=Kz1 (l:=ks) (by rw [← hk]; exact (Kvr h1).2)
 simp only at h2
 rw [Kyt,Kyt,Kyt,Bool.and_eq_true,Bool.and_eq_true,Bool.and_eq_true] at h2
 rw [Kz0] at hm
 exact ⟨a,b,c,rfl,⟨h2.1,by omega⟩,⟨h2.2.1,by omega⟩,⟨h2.2.2.1,by omega⟩⟩
theorem V1c {s:K00} {n:Nat} {t:K01} (h:tOk (gN s.fSize true) (yN s.fSize true) n t=true) (hg:Kut t.fOp=true):gN s.fSize true t.fN=true:=by
 have h1:=(Kvp h).1
 unfold Kv8 Kv6 at h1
 simp only [Bool.and_eq_true] at h1
 have h2:=h1.1.2
 have hop:(t.fOp == 0)=false∧(t.fOp == 1)=false:=by
  simp only [Kut,Bool.or_eq_true,beq_iff_eq] at hg
  constructor <;> rw [beq_eq_false_iff_ne] <;> omega
 rw [hop.1,hop.2,hg] at h2
 simpa using h2
theorem V1d {s:K00} {n:Nat} {t:K01} (h:tOk (gN s.fSize true) (yN s.fSize true) n t=true) (hg:Kuu t.fOp=true):TyS s t.fType:=by
 have h1:=(Kvp h).1
 unfold Kv8 Kv7 at h1
 simp only [Bool.and_eq_true] at h1
 have h2:=h1.2
 rw [hg] at h2
 show yN s.fSize true t.fType=true
 simpa using h2
theorem V1e {s:K00} {n:Nat} {t:K01} (h:tOk (gN s.fSize true) (yN s.fSize true) n t=true) (hg:t.fOp=0):∃ i:Nat,t.fN=(i:Int)∧i < n∧t.fKids=[]:=by
 have h1:=(Kvp h).1
 have hl:=(Kvr h1).2
 unfold Kv8 Kv6 at h1
 simp only [Bool.and_eq_true] at h1
 have h2:=h1.1.2
 rw [hg] at h2 hl
 simp [inB] at h2
 refine ⟨t.fN.toNat,by omega,by omega,?_⟩
 have:(t.fKids.length:Int)=0:=hl
 exact List.eq_nil_of_length_eq_zero (by omega)
theorem V1f {s:K00} {n:Nat} {t:K01} (h:tOk (gN s.fSize true) (yN s.fSize true) n t=true) (hg:t.fOp=1):t.fKids=[]:=by
 have h1:=(Kvp h).1
 have hl:=(Kvr h1).2
 rw [hg] at hl
 have:(t.fKids.length:Int)=0:=hl
 exact List.eq_nil_of_length_eq_zero (by omega)
def V1g (t:K01) (out:List K03) (w:Nat):Option (List (List Int)) :=
 (if (decide ((w:Int) > 0))=true then some (true) else some ((t.fOp == 9))) >>= fun v =>
 if v=true then
  (if (decide ((w:Int) > 0))=true then (idx out 0) >>= fun e=>some (e.fty) else some ([])) >>= fun first=>(Kkl (t,(w:Int),first)) >>= fun r=>some (r)
 else some ([])
def V1h (p0:K05) (ctx:List (List Int)) (t:K01) (out:List K03) (needs used:List (List Int)) (w:Nat) (more:List (List Int)) (y:K03):Option (((List K03) × (List (List Int)) × (List (List Int))) ⊕ (K03)) :=
 if (y.ffault != 0)=true then
  (Qd6 ([(w:Int)].length + y.fpath.length) 8) >>= fun _=>some (.inr (K03.mk [] [] [] y.ffault ([(w:Int)] ++ y.fpath)))
 else
  (Kl3 (p0,t,(w:Int),y.fty)) >>= fun f =>
  if (f != 0)=true then some (.inr (K03.mk [] [] [] f []))
  else
   (if (t.fOp == 10)=true then
    if ((w:Int) == 1)=true then
     (idx out 0) >>= fun e=>(Kki e.fty) >>= fun r=>(idx r 0) >>= fun q=>(Kla (y.fty,q)) >>= fun b=>some ((!b))
    else some (false)
   else some (false)) >>= fun v =>
   if v=true then some (.inr (K03.mk [] [] [] 3 []))
   else
    (Qd6 (out.length + [y].length) 8) >>= fun _ =>
    (cut y.fneeds none (some (more.length:Int)) none) >>= fun c1 =>
    (Qd6 (used.length + [c1].length) 24) >>= fun _ =>
    (cut y.fneeds (some (more.length:Int)) none none) >>= fun c2 =>
    (Qd6 (needs.length + [c2].length) 24) >>= fun _ =>
    Knu (p0,ctx,t,(out ++ [y]),(needs ++ [c2]),(used ++ [c1]),(wr ((w:Int) + 1)))
theorem V1i {p0:K05} {ctx:List (List Int)} {t:K01} {out:List K03} {needs used:List (List Int)} {w:Nat} {k:K01} {more:List (List Int)} {y:K03} (hw:w < t.fKids.length) (hk:idx t.fKids (w:Int)=some k) (hm:V1g t out w=some more)
  (hc:ctx.length + more.length ≤ 1000000) (hy:Knt (p0,more ++ ctx,k)=some y):Knu (p0,ctx,t,out,needs,used,(w:Int))=V1h p0 ctx t out needs used w more y:=by
 rw [Knu.eq_def]
 simp only
 rw [Ks9 hw,if_pos rfl,hk,bs]
 have key:∀ {β:Type} (R:List (List Int)→Option β),((if (decide ((w:Int) > 0))=true then some (true) else some ((t.fOp == 9))) >>= fun v =>
   (if v=true then (if (decide ((w:Int) > 0))=true then (idx out 0) >>= fun e=>some (e.fty) else some ([])) >>= fun first=>(Kkl (t,(w:Int),first)) >>= fun r=>some (r) else some ([])) >>= R)=(V1g t out w >>= R):=fun R=>by
  unfold V1g
  simp only [Option.bind_eq_bind,Option.bind_assoc]
 refine (key _).trans ?_
 rw [hm,bs,V0k [more,ctx] (by simp) (by simp; omega),bs]
 simp only [List.flatten_cons,List.flatten_nil,List.append_nil]
 rw [hy,bs]
 rfl
theorem V1j {p0:K05} {ctx:List (List Int)} {t:K01} {out:List K03} {needs used:List (List Int)} {w:Nat} (hw:t.fKids.length ≤ w):Knu (p0,ctx,t,out,needs,used,(w:Int))=some (.inl (out,needs,used)):=by
 rw [Knu.eq_def]
 simp only
 rw [Ksa hw]; rfl
theorem V1k {α:Type} {l:List α} {m:Nat} (h:m ≤ l.length):cut l none (some (m:Int)) none=some (l.take m):=by
 unfold cut
 simp only [Option.getD_none,Option.getD_some,Int.toNat_natCast,Int.toNat_zero,List.drop_zero]
 rw [if_pos (by omega)]
theorem V1l {α:Type} {l:List α} {m:Nat} (h:m ≤ l.length):cut l (some (m:Int)) none none=some (l.drop m):=by
 unfold cut
 simp only [Option.getD_none,Option.getD_some,Int.toNat_natCast]
 rw [if_pos (by omega),List.take_length]
def V1m (t:K01) (out:List K03) (w:Nat) (y:K03):Option Bool :=
 if (t.fOp == 10)=true then
  if ((w:Int) == 1)=true then
   (idx out 0) >>= fun e=>(Kki e.fty) >>= fun r=>(idx r 0) >>= fun q=>(Kla (y.fty,q)) >>= fun b=>some ((!b))
  else some (false)
 else some (false)
section
variable {p0:K05} {ctx:List (List Int)} {t:K01} {out:List K03} {needs used:List (List Int)} {w:Nat} {more:List (List Int)} {y:K03}
theorem V1n (h:y.ffault ≠ 0) (hp:y.fpath.length ≤ 1000000):V1h p0 ctx t out needs used w more y=some (.inr ⟨[],[],[],y.ffault,(w:Int) :: y.fpath⟩):=by
 unfold V1h
 rw [if_pos (bne_iff_ne.2 h),Kvq (by simp; omega),bs]
 rfl
theorem V1o {f:Int} (h:y.ffault=0) (hf:Kl3 (p0,t,(w:Int),y.fty)=some f) (hf0:f ≠ 0):V1h p0 ctx t out needs used w more y=some (.inr ⟨[],[],[],f,[]⟩):=by
 unfold V1h
 rw [if_neg (by simp [h]),hf,bs,if_pos (bne_iff_ne.2 hf0)]
theorem V1p (h:y.ffault=0) (hf:Kl3 (p0,t,(w:Int),y.fty)=some 0) (ha:V1m t out w y=some true):V1h p0 ctx t out needs used w more y=some (.inr ⟨[],[],[],3,[]⟩):=by
 unfold V1h
 rw [if_neg (by simp [h]),hf,bs,if_neg (by simp)]
 refine (congrArg (· >>= _) (show _=some true from ha)).trans ?_
 rw [bs,if_pos rfl]
theorem V1q {ns:List Nat} (h:y.ffault=0) (hf:Kl3 (p0,t,(w:Int),y.fty)=some 0) (ha:V1m t out w y=some false) (hn:y.fneeds=Kz7 ns) (hl:more.length ≤ ns.length)
  (h1:out.length ≤ 1000000) (h2:needs.length ≤ 1000000) (h3:used.length ≤ 1000000) (h4:w ≤ 1000000) :
  V1h p0 ctx t out needs used w more y=Knu (p0,ctx,t,(out ++ [y]),(needs ++ [Kz7 (ns.drop more.length)]),(used ++ [Kz7 (ns.take more.length)]),((w + 1:Nat):Int)):=by
 unfold V1h
 rw [if_neg (by simp [h]),hf,bs,if_neg (by simp)]
 refine (congrArg (· >>= _) (show _=some false from ha)).trans ?_
 rw [bs,if_neg (by simp),Kvq (by simp; omega),bs,hn,V1k (by rw [Kz8]; exact hl),bs,Kvq (by simp; omega),bs,V1l (by rw [Kz8]; exact hl),bs,Kvq (by simp; omega),bs,Ks8 (by omega),Kza,Kz9]
theorem V1r {r:K03} (hc:ctx.length ≤ 1000000) (h:Knu (p0,ctx,t,[],[],[],((0:Nat):Int))=some (.inr r)):Knt (p0,ctx,t)=some r:=by
 rw [Knt.eq_def]
 simp only
 rw [Ky5 (by simp; omega),bs,show (0:Int)=((0:Nat):Int) from rfl,h]
 rfl
theorem V1s {o:List K03} {nd us:List (List Int)} {f:Int} {g:K03} (hc:ctx.length ≤ 1000000) (h:Knu (p0,ctx,t,[],[],[],((0:Nat):Int))=some (.inl (o,nd,us)))
  (hf:Kno (p0,⟨[],Kz7 (List.replicate ctx.length 0),o,0,[]⟩,ctx,t,nd,us)=some (f,g)):Knt (p0,ctx,t)=some (if f=0 then ⟨g.fty,g.fneeds,g.fkids,0,g.fpath⟩ else ⟨[],[],[],f,[]⟩):=by
 have e:Kz7 (List.replicate ctx.length 0)=List.replicate (Int.toNat (ctx.length:Int)) (0:Int):=by
  unfold Kz7; rw [List.map_replicate,Int.toNat_natCast]; rfl
 rw [e] at hf
 rw [Knt.eq_def]
 simp only
 rw [Ky5 (by simp; omega),bs,show Knu (p0,ctx,t,[],[],[],0)=some (.inl (o,nd,us)) from h,bs]
 simp only
 rw [hf,bs]
 simp only
 by_cases hz:f=0
 ·subst hz; rw [if_neg (by simp),if_pos rfl]
 ·rw [if_pos (bne_iff_ne.2 hz),if_neg hz]
theorem V1t (h:t.fOp ≠ 10):V1m t out w y=some false:=by
 unfold V1m
 rw [if_neg (by simpa using h)]
theorem V1u (h:w ≠ 1):V1m t out w y=some false:=by
 unfold V1m
 have:((w:Int) == 1)=false:=by rw [beq_eq_false_iff_ne]; omega
 rw [this]
 simp
end
section
variable {s:K00} {n:Nat} (hs:Kzc s n) {N:Int} {ty:List Int} {ks:List K01} {w:Nat} {c:Int} {r:List Int}
theorem V1v {op:Int} (h:(op=4∨op=6∨op=7∨op=9∨op=11)∨(w ≠ 0∧(op=3∨op=5∨op=8∨op=10∨op=12))):Kl3 (⟨s⟩,⟨op,N,ty,ks⟩,(w:Int),c :: r)=some 0:=by
 have hw:∀ hw:w ≠ 0,((w:Int) == 0)=false:=fun hw=>by rw [beq_eq_false_iff_ne]; omega
 unfold Kl3
 rcases h with (rfl | rfl | rfl | rfl | rfl) | ⟨h0,(rfl | rfl | rfl | rfl | rfl)⟩
 all_goals first | simp [Kwy,Ktx,hw h0] | (by_cases h0:w=0 <;> simp [Kwy,Ktx,h0])
theorem V1w:Kl3 (⟨s⟩,⟨2,N,ty,ks⟩,(w:Int),c :: r)=some (if (Ktw c).1=0 then 0 else 2):=by
 unfold Kl3
 by_cases h:(Ktw c).1=0 <;> simp [Kwy,Ktx,h]
theorem V1x:Kl3 (⟨s⟩,⟨3,N,ty,ks⟩,((0:Nat):Int),c :: r)=some (if (Ktw c).1=0 then 0 else 2):=by
 unfold Kl3
 by_cases h:(Ktw c).1=0 <;> simp [Kwy,Ktx,h]
theorem V1y:Kl3 (⟨s⟩,⟨10,N,ty,ks⟩,((0:Nat):Int),c :: r)=some (if (Ktw c).1=3 then 0 else 6):=by
 unfold Kl3
 by_cases h:(Ktw c).1=3 <;> simp [Kwy,Ktx,h]
include hs
theorem V1z {g:Nat} (hg:g < n):Kl3 (⟨s⟩,⟨5,(g:Int),ty,ks⟩,((0:Nat):Int),c :: r)=some (if (Ktw c).1=1 then (if le s n 1 g then 0 else 8) else 4):=by
 have hl:=iLe hs.tab (Kze hs) hg
 unfold Kl3
 by_cases h:(Ktw c).1=1 <;> cases hle:le s n 1 g <;> simp [Kwy,Ktx,h,show Khw (s,1,(g:Int))=some (le s n 1 g) from hl,hle]
theorem V20 {g:Nat} (hg:g < n):Kl3 (⟨s⟩,⟨8,(g:Int),ty,ks⟩,((0:Nat):Int),c :: r)=some (if (Ktw c).1=2 then (if le s n 1 g then 0 else 8) else 5):=by
 have hl:=iLe hs.tab (Kze hs) hg
 unfold Kl3
 by_cases h:(Ktw c).1=2 <;> cases hle:le s n 1 g <;> simp [Kwy,Ktx,h,show Khw (s,1,(g:Int))=some (le s n 1 g) from hl,hle]
theorem V21 {g:Nat} (hg:g < n):Kl3 (⟨s⟩,⟨12,(g:Int),ty,ks⟩,((0:Nat):Int),c :: r)=some (if (Ktw c).1=4 then (if le s n 1 g then 0 else 8) else 7):=by
 have hl:=iLe hs.tab (Kze hs) hg
 unfold Kl3
 by_cases h:(Ktw c).1=4 <;> cases hle:le s n 1 g <;> simp [Kwy,Ktx,h,show Khw (s,1,(g:Int))=some (le s n 1 g) from hl,hle]
end
def V22 (ty:List Int) (ns:List Nat) (kids:List K03):Int × K03:=(if ty.length > 40 then 3 else 0,⟨ty,Kz7 ns,kids,0,[]⟩)
theorem V23 {α:Type} (x:α) (l:List α):idx (x :: l) 0=some x:=rfl
theorem V24 {α:Type} (x y:α) (l:List α):idx (x :: y :: l) 1=some y:=rfl
theorem V25 {α:Type} (x y z:α) (l:List α):idx (x :: y :: z :: l) 2=some z:=rfl
section
variable {s:K00} {n:Nat} (hs:Kzc s n) {N:Int} {ty:List Int} {ks:List K01} {ctx us:List (List Int)} {z:List Int} {y0 y1 y2:K03} {a b d:List Nat}
theorem V26 {i:Nat} {q:List Int} {zs:List Nat} (hi:ctx[i]?=some q) (hz:i < zs.length) (hq:q.length ≤ 40):Kno (⟨s⟩,⟨[],Kz7 zs,[],0,[]⟩,ctx,⟨0,(i:Int),ty,ks⟩,[],[])=some (V22 q (zs.set i 1) []):=by
 obtain ⟨h1,h2⟩:=List.getElem?_eq_some_iff.1 hi
 have e1:idx ctx (i:Int)=some q:=by rw [Ks7 h1,h2]
 have e2:idx (Kz7 zs) (i:Int)=some ((zs[i]:Nat):Int):=by rw [Ks7 (by rw [Kz8]; exact hz)]; simp [Kz7]
 have e3:List.set (Kz7 zs) i 1=Kz7 (zs.set i 1):=by unfold Kz7; rw [List.map_set]; rfl
 have h40:¬ ((q.length:Int) > 40):=by omega
 unfold Kno Kn4 V22
 simp [e1,e2,e3,Kvt q (by omega),show ¬ (40 < (q.length:Int)) by omega,show ¬ (40 < q.length) by omega]
theorem V27 {zs:List Nat}:Kno (⟨s⟩,⟨[],Kz7 zs,[],0,[]⟩,ctx,⟨1,N,ty,ks⟩,[],[])=some (V22 [0] zs []):=by
 unfold Kno Kn4 V22
 simp
theorem V28 (hy:y0.fty.length ≤ 1000) (ht:ty.length ≤ 1000):Kno (⟨s⟩,⟨[],z,[y0],0,[]⟩,ctx,⟨6,N,ty,ks⟩,[Kz7 a],us)=some (V22 (2 :: (y0.fty ++ ty)) a [y0]):=by
 have hc:=V0g [[2],y0.fty,ty] (by simp) (by simp; omega)
 unfold Kno Kn4 V22 Klq
 simp only [List.flatten_cons,List.flatten_nil,List.append_nil,List.singleton_append,List.cons_append,List.nil_append] at hc
 simp [V23,V24,hc]
 split <;> rename_i q40
 ·rw [if_pos (by omega)]
 ·rw [if_neg (by omega)]
theorem V29 (hy:y0.fty.length ≤ 1000) (ht:ty.length ≤ 1000):Kno (⟨s⟩,⟨[],z,[y0],0,[]⟩,ctx,⟨7,N,ty,ks⟩,[Kz7 a],us)=some (V22 (2 :: (ty ++ y0.fty)) a [y0]):=by
 have hc:=V0g [[2],ty,y0.fty] (by simp) (by simp; omega)
 unfold Kno Kn4 V22 Klq
 simp only [List.flatten_cons,List.flatten_nil,List.append_nil,List.singleton_append,List.cons_append,List.nil_append] at hc
 simp [V23,V24,hc]
 split <;> rename_i q40
 ·rw [if_pos (by omega)]
 ·rw [if_neg (by omega)]
include hs
theorem V2a (ha:Kzn n a) (hb:Kzn n b) (hl:a.length ≤ 1000000) (hab:a.length=b.length):Kno (⟨s⟩,⟨[],z,[y0,y1],0,[]⟩,ctx,⟨2,N,ty,ks⟩,[Kz7 a,Kz7 b],us)=some (V22 [0] (Kzk s n a b) [y0,y1]):=by
 have h:=V02 hs a b ha hb (by omega) hab
 unfold Kno Kn4 V22
 simp [V23,V24,h]
theorem V2b (ha:Kzn n a) (hb:Kzn n b) (hd:Kzn n d) (hl:a.length ≤ 1000000) (hab:a.length=b.length) (had:a.length=d.length) (h2:y2.fty.length ≤ 1000) (h1:y1.fty.length ≤ 40) :
  Kno (⟨s⟩,⟨[],z,[y0,y1,y2],0,[]⟩,ctx,⟨3,N,ty,ks⟩,[Kz7 a,Kz7 b,Kz7 d],us)=some (if y1.fty=y2.fty then V22 y1.fty (Kzk s n a (Kzm s n b d)) [y0,y1,y2] else (3,⟨[],z,[y0,y1,y2],0,[]⟩)):=by
 have hj:=V04 hs b d hb hd (by omega) (by omega)
 have hlj:(Kzm s n b d).length=a.length:=by unfold Kzm; rw [List.length_zipWith]; omega
 have h:=V02 hs a (Kzm s n b d) ha (Kzs hs hb hd) (by omega) hlj.symm
 have he:=Kys y1.fty y2.fty (by omega)
 unfold Kno Kn4 V22 Klq
 by_cases hq:y1.fty=y2.fty
 ·rw [show (y1.fty == y2.fty)=true from beq_iff_eq.2 hq] at he
  rw [if_pos hq]
  simp [V23,V24,V25,he,hj,h,show ¬ (40 < (y1.fty.length:Int)) by omega,show ¬ (40 < y1.fty.length) by omega]
 ·rw [show (y1.fty == y2.fty)=false from beq_eq_false_iff_ne.2 hq] at he
  rw [if_neg hq]
  simp [V23,V24,V25,he]
theorem V2c (ha:Kzn n a) (hb:Kzn n b) (hl:a.length ≤ 1000000) (hab:a.length=b.length) (h0:y0.fty.length ≤ 1000) (h1:y1.fty.length ≤ 1000) :
  Kno (⟨s⟩,⟨[],z,[y0,y1],0,[]⟩,ctx,⟨4,N,ty,ks⟩,[Kz7 a,Kz7 b],us)=some (V22 (1 :: (y0.fty ++ y1.fty)) (Kzk s n a b) [y0,y1]):=by
 have h:=V02 hs a b ha hb (by omega) hab
 have hc:=V0g [[1],y0.fty,y1.fty] (by simp) (by simp; omega)
 unfold Kno Kn4 V22 Klq
 simp only [List.flatten_cons,List.flatten_nil,List.append_nil,List.singleton_append,List.cons_append,List.nil_append] at hc
 simp [V23,V24,hc,h]
 split <;> rename_i q40
 ·rw [if_pos (by omega)]
 ·rw [if_neg (by omega)]
theorem V2d {g:Nat} (hg:g < n) {u:List Nat} (hu:Kzn n u) (hul:u.length ≤ 1000000) (hy:y0.fty.length ≤ 1000) (ht:ty.length ≤ 1000) :
  Kno (⟨s⟩,⟨[],z,[y0],0,[]⟩,ctx,⟨9,(g:Int),ty,ks⟩,[Kz7 a],[Kz7 u])=some (if (u.all fun x=>le s n x g)=true then V22 ((3 + (g:Int)) :: (ty ++ y0.fty)) a [y0] else (9,⟨[],z,[y0],0,[]⟩)):=by
 have hn:=hs.tab.hi
 have e:=V08 hs g hg u hu (by omega)
 have hw:wr (3 + (g:Int))=3 + (g:Int):=Ks6 (by omega) (by omega)
 have hc:=V0g [[3 + (g:Int)],ty,y0.fty] (by simp) (by simp; omega)
 unfold Kno Kn4 V22 Klq
 simp only [List.flatten_cons,List.flatten_nil,List.append_nil,List.singleton_append,List.cons_append,List.nil_append] at hc
 cases hq:(u.all fun x=>le s n x g) with
 | true =>
  rw [hq] at e
  simp [V23,V24,e,hc,hw]
  split <;> rename_i q40
  ·rw [if_pos (by omega)]
  ·rw [if_neg (by omega)]
 | false =>
  rw [hq] at e
  simp [V23,V24,e]
theorem V2e {g:Nat} (hg:g < n) (ha:Kzn n a) (hl:a.length ≤ 1000000) (hy:y0.fty.length ≤ 1000) :
  Kno (⟨s⟩,⟨[],z,[y0],0,[]⟩,ctx,⟨11,(g:Int),ty,ks⟩,[Kz7 a],us)=some (V22 ((19 + (g:Int)) :: y0.fty) (Kzl s n g a) [y0]):=by
 have hn:=hs.tab.hi
 have e:=V06 hs g hg a ha (by omega)
 have hw:wr (19 + (g:Int))=19 + (g:Int):=Ks6 (by omega) (by omega)
 have hc:=V0g [[19 + (g:Int)],y0.fty] (by simp) (by simp; omega)
 unfold Kno Kn4 V22 Klq
 simp only [List.flatten_cons,List.flatten_nil,List.append_nil,List.singleton_append,List.cons_append,List.nil_append] at hc
 simp [V23,V24,hc,hw,e]
 split <;> rename_i q40
 ·rw [if_pos (by omega)]
 ·rw [if_neg (by omega)]
theorem V2f {g:Nat} (hg:g < n) {p q:List Int} (hty:y0.fty=(3 + (g:Int)) :: (p ++ q)) (hP:V11 s (3 + (g:Int)) p q) (ha:Kzn n a) (hb:Kzn n b) (hl:a.length ≤ 1000000) (hab:a.length=b.length) :
  Kno (⟨s⟩,⟨[],z,[y0,y1],0,[]⟩,ctx,⟨10,N,ty,ks⟩,[Kz7 a,Kz7 b],us)=some (V22 q (Kzk s n a (Kzl s n g b)) [y0,y1]):=by
 have hn:=hs.tab.hi
 have e:=V06 hs g hg b hb (by omega)
 have hlj:(Kzl s n g b).length=a.length:=by unfold Kzl; rw [List.length_map]; omega
 have h:=V02 hs a (Kzl s n g b) ha (Kzr hs hg hb) (by omega) hlj.symm
 have hsh:Ktw (3 + (g:Int))=(3,(g:Int)):=by
  rcases Kty (3 + (g:Int)) with h | h | h | h | h | h | h | h <;> first | omega | (obtain ⟨_,e⟩:=h; rw [e]; congr 1; omega)
 have hq:=V0y hP.yb
 have pp:=hP.pp
 rw [← hty] at pp
 have i0:idx y0.fty 0=some (3 + (g:Int)):=by rw [hty]; rfl
 unfold Kno Kn4 V22 Klq
 simp [V23,V24,i0,Ktx,hsh,pp,e,h,show ¬ (40 < (q.length:Int)) by omega,show ¬ (40 < q.length) by omega]
theorem V2g {g:Nat} (hg:g < n) {u:List Nat} {us':List Int} (hu:Kzn n u) (hul:u.length ≤ 1000000) (ha:Kzn n a) (hb:Kzn n b) (hl:a.length ≤ 1000000) (hab:a.length=b.length) (h1:y1.fty.length ≤ 40) :
  Kno (⟨s⟩,⟨[],z,[y0,y1],0,[]⟩,ctx,⟨5,(g:Int),ty,ks⟩,[Kz7 a,Kz7 b],[us',Kz7 u])=some (if (u.all fun x=>le s n x g)=true then V22 y1.fty (Kzk s n (Kzl s n g a) b) [y0,y1] else (9,⟨[],z,[y0,y1],0,[]⟩)):=by
 have e:=V08 hs g hg u hu (by omega)
 have e2:=V06 hs g hg a ha (by omega)
 have hlj:(Kzl s n g a).length=a.length:=by unfold Kzl; rw [List.length_map]
 have h:=V02 hs (Kzl s n g a) b (Kzr hs hg ha) hb (by omega) (by omega)
 unfold Kno Kn4 V22 Klq
 cases hq:(u.all fun x=>le s n x g) with
 | true =>
  rw [hq] at e
  simp [V23,V24,e,e2,h,show ¬ (40 < (y1.fty.length:Int)) by omega,show ¬ (40 < y1.fty.length) by omega]
 | false =>
  rw [hq] at e
  simp [V23,V24,e]
theorem V2h {g m:Nat} (hg:g < n) (hm:m < n) {p:List Int} (hty:y0.fty=(19 + (m:Int)) :: p) {u:List Nat} {us':List Int} (hu:Kzn n u) (hul:u.length ≤ 1000000) (ha:Kzn n a) (hb:Kzn n b) (hl:a.length ≤ 1000000) (hab:a.length=b.length) (h1:y1.fty.length ≤ 40) :
  Kno (⟨s⟩,⟨[],z,[y0,y1],0,[]⟩,ctx,⟨12,(g:Int),ty,ks⟩,[Kz7 a,Kz7 b],[us',Kz7 u])=some (if (u.all fun x=>le s n x (ti s n g m))=true then V22 y1.fty (Kzk s n (Kzl s n g a) b) [y0,y1] else (9,⟨[],z,[y0,y1],0,[]⟩)):=by
 have hn:=hs.tab.hi
 have e0:=Ksx hs.tab hg hm
 have e:=V08 hs (ti s n g m) (Ksq hs.tab hg hm) u hu (by omega)
 have e2:=V06 hs g hg a ha (by omega)
 have hlj:(Kzl s n g a).length=a.length:=by unfold Kzl; rw [List.length_map]
 have h:=V02 hs (Kzl s n g a) b (Kzr hs hg ha) hb (by omega) (by omega)
 have hsh:Ktw (19 + (m:Int))=(4,(m:Int)):=by
  rcases Kty (19 + (m:Int)) with h | h | h | h | h | h | h | h <;> first | omega | (obtain ⟨_,e⟩:=h; rw [e]; congr 1; omega)
 have i0:idx y0.fty 0=some (19 + (m:Int)):=by rw [hty]; rfl
 unfold Kno Kn4 V22 Klq
 cases hq:(u.all fun x=>le s n x (ti s n g m)) with
 | true =>
  rw [hq] at e
  simp [V23,V24,i0,Ktx,hsh,e0,e,e2,h,show ¬ (40 < (y1.fty.length:Int)) by omega,show ¬ (40 < y1.fty.length) by omega]
 | false =>
  rw [hq] at e
  simp [V23,V24,i0,Ktx,hsh,e0,e]
theorem V2i {g:Nat} (hg:g < n) {u v:List Nat} {us':List Int} (hu:Kzn n u) (hul:u.length ≤ 1000000) (hv:Kzn n v) (hvl:v.length ≤ 1000000) (ha:Kzn n a) (hb:Kzn n b) (hd:Kzn n d) (hl:a.length ≤ 1000000) (hab:a.length=b.length) (had:a.length=d.length) (h2:y2.fty.length ≤ 1000) (h1:y1.fty.length ≤ 40) :
  Kno (⟨s⟩,⟨[],z,[y0,y1,y2],0,[]⟩,ctx,⟨8,(g:Int),ty,ks⟩,[Kz7 a,Kz7 b,Kz7 d],[us',Kz7 u,Kz7 v]) =
   some (if y1.fty=y2.fty then (if (u.all fun x=>le s n x g)=true∧(v.all fun x=>le s n x g)=true then V22 y1.fty (Kzk s n (Kzl s n g a) (Kzm s n b d)) [y0,y1,y2] else (9,⟨[],z,[y0,y1,y2],0,[]⟩)) else (3,⟨[],z,[y0,y1,y2],0,[]⟩)):=by
 have e:=V08 hs g hg u hu (by omega)
 have e':=V08 hs g hg v hv (by omega)
 have e2:=V06 hs g hg a ha (by omega)
 have hj:=V04 hs b d hb hd (by omega) (by omega)
 have hlj:(Kzm s n b d).length=a.length:=by unfold Kzm; rw [List.length_zipWith]; omega
 have hls:(Kzl s n g a).length=a.length:=by unfold Kzl; rw [List.length_map]
 have h:=V02 hs (Kzl s n g a) (Kzm s n b d) (Kzr hs hg ha) (Kzs hs hb hd) (by omega) (by omega)
 have he:=Kys y1.fty y2.fty (by omega)
 unfold Kno Kn4 V22 Klq
 by_cases hq:y1.fty=y2.fty
 ·rw [show (y1.fty == y2.fty)=true from beq_iff_eq.2 hq] at he
  rw [if_pos hq]
  cases hu':(u.all fun x=>le s n x g) with
  | false =>
   rw [hu'] at e
   simp [V23,V24,V25,he,e]
  | true =>
   rw [hu'] at e
   cases hv':(v.all fun x=>le s n x g) with
   | false =>
    rw [hv'] at e'
    simp [V23,V24,V25,he,e,e']
   | true =>
    rw [hv'] at e'
    simp [V23,V24,V25,he,e,e',e2,hj,h,show ¬ (40 < (y1.fty.length:Int)) by omega,show ¬ (40 < y1.fty.length) by omega]
 ·rw [show (y1.fty == y2.fty)=false from beq_eq_false_iff_ne.2 hq] at he
  rw [if_neg hq]
  simp [V23,V24,V25,he]
end
def V2j (t:K01) (i:Nat) (kids:List K03):List (List Int):=(Kkl (t,(i:Int),(match kids with | []=>[] | y :: _=>y.fty))).getD []
structure V2k (s:K00) (ctx:List (List Int)) (t:K01) (kids:List K03) (i:Nat) (k:K01) (y:K03):Prop where
 im:Knt (⟨s⟩,V2j t i kids ++ ctx,k)=some y
 fa:y.ffault=0
 ty:∀ q ∈ V2j t i kids,TyS s q
 ln:(V2j t i kids).length=Kv2 t.fOp i
structure V2l (s:K00) (n:Nat) (ctx:List (List Int)) (t:K01) (x:K02) (y:K03):Prop where
 sp:Kfs (s,ctx,t)=some x
 im:Knt (⟨s⟩,ctx,t)=some y
 ty:y.fty=x.fty
 ne:y.fneeds=x.fneeds
 fa:y.ffault=x.ffault
 pa:y.fpath=x.fpath
 pl:x.fpath.length + 1 ≤ tsz t
 bd:x.ffault ≠ 0→x.fty=[]∧x.fneeds=[]
 gd:x.ffault=0→TyS s x.fty∧x.fpath=[]∧∃ ns:List Nat,x.fneeds=Kz7 ns∧ns.length=ctx.length∧Kzn n ns
 kd:x.ffault=0→y.fkids.length=t.fKids.length∧∀ (i:Nat) (k:K01),t.fKids[i]?=some k→∃ yk,y.fkids[i]?=some yk∧V2k s ctx t y.fkids i k yk
section
variable {s:K00} {n:Nat} {ctx:List (List Int)} {t:K01}
theorem V2l.bad {f:Int} {p:List Int} (sp:Kfs (s,ctx,t)=some ⟨[],[],f,p⟩) (im:Knt (⟨s⟩,ctx,t)=some ⟨[],[],[],f,p⟩) (hf:f ≠ 0) (hp:p.length + 1 ≤ tsz t):∃ x y,V2l s n ctx t x y :=
 ⟨_,_,{ sp:=sp,im:=im,ty:=rfl,ne:=rfl,fa:=rfl,pa:=rfl,pl:=hp,bd:=fun _=>⟨rfl,rfl⟩,gd:=fun h=>absurd h hf,kd:=fun h=>absurd h hf }⟩
theorem V2l.good {q:List Int} {ns:List Nat} {kids:List K03} (sp:Kfs (s,ctx,t)=some ⟨q,Kz7 ns,0,[]⟩) (im:Knt (⟨s⟩,ctx,t)=some ⟨q,Kz7 ns,kids,0,[]⟩) (hp:1 ≤ tsz t) (hq:TyS s q) (hl:ns.length=ctx.length) (hb:Kzn n ns)
  (kl:kids.length=t.fKids.length) (kd:∀ (i:Nat) (k:K01),t.fKids[i]?=some k→∃ yk,kids[i]?=some yk∧V2k s ctx t kids i k yk):∃ x y,V2l s n ctx t x y :=
 ⟨_,_,{ sp:=sp,im:=im,ty:=rfl,ne:=rfl,fa:=rfl,pa:=rfl,pl:=by simpa using hp,bd:=fun h=>absurd rfl h,gd:=fun _=>⟨hq,rfl,ns,rfl,hl,hb⟩,kd:=fun _=>⟨kl,kd⟩ }⟩
theorem V2l.done {q:List Int} {ns:List Nat} {kids:List K03} (sp:Kfs (s,ctx,t)=Kf2 (q,Kz7 ns)) (im:Knt (⟨s⟩,ctx,t)=some (if (V22 q ns kids).1=0 then ⟨(V22 q ns kids).2.fty,(V22 q ns kids).2.fneeds,(V22 q ns kids).2.fkids,0,(V22 q ns kids).2.fpath⟩ else ⟨[],[],[],(V22 q ns kids).1,[]⟩)) (hp:1 ≤ tsz t)
  (hq:q.length ≤ 40→TyS s q) (hl:ns.length=ctx.length) (hb:Kzn n ns) (kl:kids.length=t.fKids.length) (kd:∀ (i:Nat) (k:K01),t.fKids[i]?=some k→∃ yk,kids[i]?=some yk∧V2k s ctx t kids i k yk):∃ x y,V2l s n ctx t x y:=by
 unfold Kf2 Kel at sp
 simp only at sp
 unfold V22 at im
 by_cases h:q.length > 40
 ·rw [decide_eq_true (by omega),if_pos rfl,bs] at sp
  rw [if_pos h,if_neg (by simp)] at im
  exact V2l.bad sp im (by decide) (by simpa using hp)
 ·rw [decide_eq_false (by omega),if_neg (by decide)] at sp
  rw [if_neg h,if_pos rfl] at im
  exact V2l.good sp im hp (hq (by omega)) hl hb kl kd
theorem V2m {i:Nat} {k:K01} {x:K02} {y:K03} {c:List (List Int)} (hk:t.fKids[i]?=some k) (h:V2l s n c k x y) (hf:x.ffault=0):Kfu (s,c,t,(i:Int))=some x:=by
 obtain ⟨h1,h2⟩:=List.getElem?_eq_some_iff.1 hk
 rw [Kfu.eq_def]
 simp only
 rw [Ks7 h1,h2,bs,h.sp,bs,if_neg (by simp [hf]),bs]
theorem V2n {i:Nat} {k:K01} {x:K02} {y:K03} {c:List (List Int)} (hk:t.fKids[i]?=some k) (h:V2l s n c k x y) (hz:tsz k ≤ 1000000) (hf:x.ffault ≠ 0):Kfu (s,c,t,(i:Int))=some ⟨[],[],x.ffault,(i:Int) :: x.fpath⟩:=by
 obtain ⟨h1,h2⟩:=List.getElem?_eq_some_iff.1 hk
 have hp:=h.pl
 obtain ⟨q1,q2⟩:=h.bd hf
 rw [Kfu.eq_def]
 simp only
 rw [Ks7 h1,h2,bs,h.sp,bs,if_pos (bne_iff_ne.2 hf),Kvq (by simp; omega),bs,bs,q1,q2]
 rfl
variable {out:List K03} {nd us:List (List Int)} {w:Nat} {k:K01} {m:List (List Int)} {x:K02} {y:K03}
theorem V2o (hk:t.fKids[w]?=some k) (hm:V1g t out w=some m) (r:V2l s n (m ++ ctx) k x y) (hz:tsz k ≤ 1000000) (hc:ctx.length + m.length ≤ 1000000) (hf:x.ffault ≠ 0) :
  Knu (⟨s⟩,ctx,t,out,nd,us,(w:Int))=some (.inr ⟨[],[],[],x.ffault,(w:Int) :: x.fpath⟩):=by
 obtain ⟨h1,h2⟩:=List.getElem?_eq_some_iff.1 hk
 have hp:=r.pl
 rw [V1i h1 (by rw [Ks7 h1,h2]) hm hc r.im,V1n (by rw [r.fa]; exact hf) (by rw [r.pa]; omega),r.fa,r.pa]
theorem V2p {f:Int} (hk:t.fKids[w]?=some k) (hm:V1g t out w=some m) (r:V2l s n (m ++ ctx) k x y) (hc:ctx.length + m.length ≤ 1000000) (hf:x.ffault=0) (h:Kl3 (⟨s⟩,t,(w:Int),x.fty)=some f) (hf0:f ≠ 0) :
  Knu (⟨s⟩,ctx,t,out,nd,us,(w:Int))=some (.inr ⟨[],[],[],f,[]⟩):=by
 obtain ⟨h1,h2⟩:=List.getElem?_eq_some_iff.1 hk
 rw [V1i h1 (by rw [Ks7 h1,h2]) hm hc r.im,V1o (by rw [r.fa]; exact hf) (by rw [r.ty]; exact h) hf0]
theorem V2q (hk:t.fKids[w]?=some k) (hm:V1g t out w=some m) (r:V2l s n (m ++ ctx) k x y) (hc:ctx.length + m.length ≤ 1000000) (hf:x.ffault=0) (h:Kl3 (⟨s⟩,t,(w:Int),x.fty)=some 0) (ha:V1m t out w y=some true) :
  Knu (⟨s⟩,ctx,t,out,nd,us,(w:Int))=some (.inr ⟨[],[],[],3,[]⟩):=by
 obtain ⟨h1,h2⟩:=List.getElem?_eq_some_iff.1 hk
 rw [V1i h1 (by rw [Ks7 h1,h2]) hm hc r.im,V1p (by rw [r.fa]; exact hf) (by rw [r.ty]; exact h) ha]
theorem V2r {ns:List Nat} (hk:t.fKids[w]?=some k) (hm:V1g t out w=some m) (r:V2l s n (m ++ ctx) k x y) (hc:ctx.length + m.length ≤ 1000000) (hf:x.ffault=0) (h:Kl3 (⟨s⟩,t,(w:Int),x.fty)=some 0) (ha:V1m t out w y=some false)
  (hn:x.fneeds=Kz7 ns) (hl:m.length ≤ ns.length) (h1':out.length ≤ 1000000) (h2':nd.length ≤ 1000000) (h3':us.length ≤ 1000000) (h4':w ≤ 1000000) :
  Knu (⟨s⟩,ctx,t,out,nd,us,(w:Int))=Knu (⟨s⟩,ctx,t,(out ++ [y]),(nd ++ [Kz7 (ns.drop m.length)]),(us ++ [Kz7 (ns.take m.length)]),((w + 1:Nat):Int)):=by
 obtain ⟨h1,h2⟩:=List.getElem?_eq_some_iff.1 hk
 rw [V1i h1 (by rw [Ks7 h1,h2]) hm hc r.im,V1q (by rw [r.fa]; exact hf) (by rw [r.ty]; exact h) ha (by rw [r.ne]; exact hn) hl h1' h2' h3' h4']
end
theorem V2s {op N:Int} {ty:List Int} {ks:List K01} {i:Nat} {q:List Int} (h9:op ≠ 9) (h:Kv2 op (i:Int)=0):Kkl (⟨op,N,ty,ks⟩,(i:Int),q)=some []:=by
 unfold Kkl
 simp only
 rw [if_neg (by simpa using h9),Kv5,bs,h]
 rfl
theorem V2t {N:Int} {ty:List Int} {ks:List K01} {i:Nat} {q:List Int}:Kkl (⟨9,N,ty,ks⟩,(i:Int),q)=some [ty]:=by
 unfold Kkl
 simp only
 rw [if_pos (by decide)]
theorem V2u {s:K00} {N:Int} {ty:List Int} {ks:List K01} {p q:List Int} (h:V11 s 1 p q):Kkl (⟨5,N,ty,ks⟩,((1:Nat):Int),1 :: (p ++ q))=some [q,p]:=by
 unfold Kkl
 simp only
 rw [if_neg (by decide),Kv5,bs,show Kv2 5 ((1:Nat):Int)=2 from rfl,if_neg (by decide),h.pp,bs,if_pos (by decide)]
 rfl
theorem V2v {s:K00} {N:Int} {ty:List Int} {ks:List K01} {p q:List Int} (h:V11 s 2 p q):Kkl (⟨8,N,ty,ks⟩,((1:Nat):Int),2 :: (p ++ q))=some [p]:=by
 unfold Kkl
 simp only
 rw [if_neg (by decide),Kv5,bs,show Kv2 8 ((1:Nat):Int)=1 from rfl,if_neg (by decide),h.pp,bs,if_neg (by decide),if_pos (by decide)]
 rfl
theorem V2w {s:K00} {N:Int} {ty:List Int} {ks:List K01} {p q:List Int} (h:V11 s 2 p q):Kkl (⟨8,N,ty,ks⟩,((2:Nat):Int),2 :: (p ++ q))=some [q]:=by
 unfold Kkl
 simp only
 rw [if_neg (by decide),Kv5,bs,show Kv2 8 ((2:Nat):Int)=1 from rfl,if_neg (by decide),h.pp,bs,if_neg (by decide),if_pos (by decide)]
 rfl
theorem V2x {s:K00} {N c:Int} {ty:List Int} {ks:List K01} {p:List Int} (h:V12 s c p):Kkl (⟨12,N,ty,ks⟩,((1:Nat):Int),c :: p)=some [p]:=by
 unfold Kkl
 simp only
 rw [if_neg (by decide),Kv5,bs,show Kv2 12 ((1:Nat):Int)=1 from rfl,if_neg (by decide),h.pp,bs,if_neg (by decide),if_neg (by decide)]
theorem V2y {op N:Int} {ty:List Int} {ks:List K01} (h9:op ≠ 9):V1g ⟨op,N,ty,ks⟩ [] 0=some []:=by
 unfold V1g
 simp [h9]
theorem V2z {N:Int} {ty:List Int} {ks:List K01}:V1g ⟨9,N,ty,ks⟩ [] 0=some [ty]:=by
 unfold V1g
 have:=@V2t N ty ks 0 []
 simp at this ⊢
 rw [this]
theorem V30 {t:K01} {w:Nat} {y0:K03} {l:List K03} {m:List (List Int)} (hw:0 < w) (h:Kkl (t,(w:Int),y0.fty)=some m):V1g t (y0 :: l) w=some m:=by
 unfold V1g
 rw [show decide ((w:Int) > 0)=true from decide_eq_true (by omega),if_pos rfl,bs,if_pos rfl,if_pos rfl,V23,bs,bs,h,bs]
theorem V31 {t:K01} {i:Nat} {y0:K03} {l:List K03} {m:List (List Int)} (h:Kkl (t,(i:Int),y0.fty)=some m):V2j t i (y0 :: l)=m:=by
 unfold V2j
 simp only
 rw [h]; rfl
theorem kd1 {s:K00} {ctx:List (List Int)} {op N:Int} {ty:List Int} {k0:K01} {y0:K03} (h0:V2k s ctx ⟨op,N,ty,[k0]⟩ [y0] 0 k0 y0) :
  ∀ (i:Nat) (k:K01),(⟨op,N,ty,[k0]⟩:K01).fKids[i]?=some k→∃ yk,[y0][i]?=some yk∧V2k s ctx ⟨op,N,ty,[k0]⟩ [y0] i k yk:=by
 intro i k hk
 match i,hk with
 | 0,hk=>cases hk; exact ⟨y0,rfl,h0⟩
 | i + 1,hk=>simp at hk
theorem kd2 {s:K00} {ctx:List (List Int)} {op N:Int} {ty:List Int} {k0 k1:K01} {y0 y1:K03} (h0:V2k s ctx ⟨op,N,ty,[k0,k1]⟩ [y0,y1] 0 k0 y0) (h1:V2k s ctx ⟨op,N,ty,[k0,k1]⟩ [y0,y1] 1 k1 y1) :
  ∀ (i:Nat) (k:K01),(⟨op,N,ty,[k0,k1]⟩:K01).fKids[i]?=some k→∃ yk,[y0,y1][i]?=some yk∧V2k s ctx ⟨op,N,ty,[k0,k1]⟩ [y0,y1] i k yk:=by
 intro i k hk
 match i,hk with
 | 0,hk=>cases hk; exact ⟨y0,rfl,h0⟩
 | 1,hk=>cases hk; exact ⟨y1,rfl,h1⟩
 | i + 2,hk=>simp at hk
theorem kd3 {s:K00} {ctx:List (List Int)} {op N:Int} {ty:List Int} {k0 k1 k2:K01} {y0 y1 y2:K03} (h0:V2k s ctx ⟨op,N,ty,[k0,k1,k2]⟩ [y0,y1,y2] 0 k0 y0) (h1:V2k s ctx ⟨op,N,ty,[k0,k1,k2]⟩ [y0,y1,y2] 1 k1 y1) (h2:V2k s ctx ⟨op,N,ty,[k0,k1,k2]⟩ [y0,y1,y2] 2 k2 y2) :
  ∀ (i:Nat) (k:K01),(⟨op,N,ty,[k0,k1,k2]⟩:K01).fKids[i]?=some k→∃ yk,[y0,y1,y2][i]?=some yk∧V2k s ctx ⟨op,N,ty,[k0,k1,k2]⟩ [y0,y1,y2] i k yk:=by
 intro i k hk
 match i,hk with
 | 0,hk=>cases hk; exact ⟨y0,rfl,h0⟩
 | 1,hk=>cases hk; exact ⟨y1,rfl,h1⟩
 | 2,hk=>cases hk; exact ⟨y2,rfl,h2⟩
 | i + 3,hk=>simp at hk
theorem V2k.mk' {s:K00} {n:Nat} {ctx m:List (List Int)} {t k:K01} {y0:K03} {l:List K03} {i:Nat} {x:K02} {y:K03} (ha:Kkl (t,(i:Int),y0.fty)=some m) (r:V2l s n (m ++ ctx) k x y) (hf:x.ffault=0) (hm:∀ q ∈ m,TyS s q) (hl:m.length=Kv2 t.fOp i):V2k s ctx t (y0 :: l) i k y:=by
 have e:=V31 (l:=l) ha
 exact ⟨by rw [e]; exact r.im,by rw [r.fa]; exact hf,by rw [e]; exact hm,by rw [e]; exact hl⟩
def V32 (s:K00) (n sz:Nat):Prop:=∀ (k:K01) (c:List (List Int)),V1b s c.length k sz→(∀ q ∈ c,TyS s q)→c.length + 2 * tsz k ≤ 1000000→∃ x y,V2l s n c k x y
theorem V33 {X:Option K03} {q:List Int} {ns:List Nat} {kids:List K03} (h:q.length ≤ 40) (im:X=some (if (V22 q ns kids).1=0 then (⟨(V22 q ns kids).2.fty,(V22 q ns kids).2.fneeds,(V22 q ns kids).2.fkids,0,(V22 q ns kids).2.fpath⟩:K03) else ⟨[],[],[],(V22 q ns kids).1,[]⟩)):X=some ⟨q,Kz7 ns,kids,0,[]⟩:=by
 rw [im]
 unfold V22
 simp only
 rw [show (if q.length > 40 then (3:Int) else 0)=0 from if_neg (by omega),if_pos rfl]
section
variable {s:K00} {n:Nat} (hs:Kzc s n) {ctx:List (List Int)} {N:Int} {ty:List Int} {ks:List K01}
theorem V34 {op:Int} {k0:K01} {l:List K01} {x0:K02} {y0:K03} (h0:op ≠ 0) (h1:op ≠ 1) (h9:op ≠ 9) (hb:ctx.length + 2 * tsz (⟨op,N,ty,k0 :: l⟩:K01) ≤ 1000000) (r0:V2l s n ctx k0 x0 y0) (f0:x0.ffault ≠ 0) :
  ∃ x y,V2l s n ctx ⟨op,N,ty,k0 :: l⟩ x y:=by
 have hz:tsz k0 + 1 ≤ tsz (⟨op,N,ty,k0 :: l⟩:K01):=by rw [tsz,Kui]; omega
 have e0:Kfu (s,ctx,⟨op,N,ty,k0 :: l⟩,0)=some ⟨[],[],x0.ffault,0 :: x0.fpath⟩:=V2n (i:=0) rfl r0 (by omega) f0
 refine V2l.bad (f:=x0.ffault) (p:=0 :: x0.fpath) ?_ (V1r (by omega) (V2o (m:=[]) rfl (V2y h9) r0 (by omega) (by simp; omega) f0)) f0 (by have:=r0.pl; simp; omega)
 rw [Kfs.eq_def]
 simp [h0,h1,h9,e0,f0]
include hs
theorem V35 {t:K01} (ht:t.fOp=0) (h:tOk (gN s.fSize true) (yN s.fSize true) ctx.length t=true) (hc:∀ q ∈ ctx,TyS s q) (hb:ctx.length + 2 * tsz t ≤ 1000000):∃ x y,V2l s n ctx t x y:=by
 obtain ⟨i,hi,hl,hk⟩:=V1e h ht
 obtain ⟨op,N,ty,ks⟩:=t
 simp only at ht hi hk
 subst ht; subst hi; subst hk
 have hq:ctx[i]?=some ctx[i]:=List.getElem?_eq_getElem hl
 have hy:=hc ctx[i] (List.getElem_mem hl)
 have e1:idx ctx (i:Int)=some ctx[i]:=Ks7 hl
 have hz:=V09 ctx.length (by omega)
 have e2:idx (Kz7 (List.replicate ctx.length 0)) (i:Int)=some (((List.replicate ctx.length (0:Nat))[i]'(by simpa using hl):Nat):Int):=by
  rw [Ks7 (by rw [Kz8]; simpa using hl)]; simp [Kz7]
 have e3:List.set (Kz7 (List.replicate ctx.length 0)) i 1=Kz7 ((List.replicate ctx.length 0).set i 1):=by unfold Kz7; rw [List.map_set]; rfl
 have hf:=V26 (s:=s) (ty:=ty) (ks:=[]) (zs:=List.replicate ctx.length 0) hq (by simpa using hl) (V0y hy)
 have im:=V1s (p0:=⟨s⟩) (t:=⟨0,(i:Int),ty,[]⟩) (by omega) (V1j (Nat.le_refl _)) hf
 refine V2l.good (q:=ctx[i]) (ns:=(List.replicate ctx.length 0).set i 1) (kids:=[]) ?_ ?_ (by rw [tsz]; omega) hy (by simp) ?_ rfl (fun i k hk=>by simp at hk)
 ·rw [Kfs.eq_def]
  simp [hz,e1,e2,Kvs ctx[i] (by have:=V0y hy; omega),e3]
 ·exact V33 (V0y hy) im
 ·intro x hx
  have h1:=Kze hs
  rcases List.mem_or_eq_of_mem_set hx with h | rfl
  ·rw [List.eq_of_mem_replicate h]; omega
  ·exact h1
theorem V36 {t:K01} (ht:t.fOp=1) (h:tOk (gN s.fSize true) (yN s.fSize true) ctx.length t=true) (hb:ctx.length + 2 * tsz t ≤ 1000000):∃ x y,V2l s n ctx t x y:=by
 have hk:=V1f h ht
 obtain ⟨op,N,ty,ks⟩:=t
 simp only at ht hk
 subst ht; subst hk
 have hz:=V09 ctx.length (by omega)
 have hf:=V27 (s:=s) (N:=N) (ty:=ty) (ks:=[]) (ctx:=ctx) (zs:=List.replicate ctx.length 0)
 have im:=V1s (p0:=⟨s⟩) (t:=⟨1,N,ty,[]⟩) (by omega) (V1j (Nat.le_refl _)) hf
 refine V2l.good (q:=[0]) (ns:=List.replicate ctx.length 0) (kids:=[]) ?_ ?_ (by rw [tsz]; omega) V14 (by simp) ?_ rfl (fun i k hk=>by simp at hk)
 ·rw [Kfs.eq_def]
  simp [hz]
 ·exact V33 (by decide) im
 ·intro x hx
  rw [List.eq_of_mem_replicate hx]
  exact Kzf hs
theorem V37 {q:List Int} (hq:TyS s q):∃ c r,q=c :: r∧((Ktw c).1=0 ↔ c=0)∧(c=0→q=[0]):=by
 rcases V17 hs hq with rfl | ⟨a,b,rfl,_⟩ | ⟨a,b,rfl,_⟩ | ⟨g,a,b,hg,h15,rfl,_⟩ | ⟨g,a,hg,h15,rfl,_⟩
 ·exact ⟨0,[],rfl,by decide,fun _=>rfl⟩
 ·exact ⟨1,_,rfl,by decide,fun h=>absurd h (by decide)⟩
 ·exact ⟨2,_,rfl,by decide,fun h=>absurd h (by decide)⟩
 ·refine ⟨_,_,rfl,?_,fun h=>by omega⟩
  rcases Kty (3 + (g:Int)) with h | h | h | h | h | h | h | h <;> first | omega | (obtain ⟨_,e⟩:=h; rw [e]; simp; omega)
 ·refine ⟨_,_,rfl,?_,fun h=>by omega⟩
  rcases Kty (19 + (g:Int)) with h | h | h | h | h | h | h | h <;> first | omega | (obtain ⟨_,e⟩:=h; rw [e]; simp; omega)
theorem V38 (ih:V32 s n (tsz (⟨6,N,ty,ks⟩:K01))) (h:tOk (gN s.fSize true) (yN s.fSize true) ctx.length ⟨6,N,ty,ks⟩=true) (hc:∀ q ∈ ctx,TyS s q) (hb:ctx.length + 2 * tsz (⟨6,N,ty,ks⟩:K01) ≤ 1000000):∃ x y,V2l s n ctx ⟨6,N,ty,ks⟩ x y:=by
 obtain ⟨k0,rfl,p0⟩:=nd1 h (Nat.le_refl _) rfl
 have hz:=Kyy 6 N ty k0
 have hy:TyS s ty:=V1d h rfl
 have ly:=V0y hy
 obtain ⟨x0,y0,r0⟩:=ih k0 ctx p0 hc (by omega)
 by_cases f0:x0.ffault=0
 rotate_left
 ·exact V34 (by decide) (by decide) (by decide) hb r0 f0
 obtain ⟨g0,q0,a,na,la,ba⟩:=r0.gd f0
 obtain ⟨c0,t0,ht0,hn0,hz0⟩:=V37 hs g0
 have L0:=V0y g0
 have e0:Kfu (s,ctx,⟨6,N,ty,[k0]⟩,0)=some x0:=V2m (i:=0) rfl r0 f0
 have o0:=V2r (out:=[]) (nd:=[]) (us:=[]) (w:=0) (t:=⟨6,N,ty,[k0]⟩) (m:=[]) rfl (V2y (by decide)) r0 (by simp; omega) f0 (by rw [ht0]; exact V1v (.inl (by decide))) (V1t (show (6:Int) ≠ 10 by decide)) na (by simp <;> omega) (by simp) (by simp) (by simp) (by simp)
 have hf:=V28 (s:=s) (N:=N) (ty:=ty) (ks:=[k0]) (ctx:=ctx) (us:=[Kz7 []]) (z:=Kz7 (List.replicate ctx.length 0)) (y0:=y0) (a:=a) (by rw [r0.ty]; omega) (by omega)
 have im:=V1s (p0:=⟨s⟩) (t:=⟨6,N,ty,[k0]⟩) (ctx:=ctx) (by omega) (o0.trans (V1j (Nat.le_refl _))) hf
 rw [r0.ty] at im
 refine V2l.done (q:=2 :: (x0.fty ++ ty)) (ns:=a) (kids:=[y0]) ?_ im (by omega) (fun hl=>V18 hs g0 hy (.inr (.inl rfl)) hl) la ba rfl (kd1 (V2k.mk' (V2s (by decide) rfl) r0 f0 (fun _ h=>by cases h) rfl))
 have hg:=V0c 2 [x0.fty,ty] (by simp) (by simp; omega)
 simp only [List.flatten_cons,List.flatten_nil,List.append_nil] at hg
 rw [Kfs.eq_def]
 simp [e0,f0,hg,na]
theorem V39 (ih:V32 s n (tsz (⟨7,N,ty,ks⟩:K01))) (h:tOk (gN s.fSize true) (yN s.fSize true) ctx.length ⟨7,N,ty,ks⟩=true) (hc:∀ q ∈ ctx,TyS s q) (hb:ctx.length + 2 * tsz (⟨7,N,ty,ks⟩:K01) ≤ 1000000):∃ x y,V2l s n ctx ⟨7,N,ty,ks⟩ x y:=by
 obtain ⟨k0,rfl,p0⟩:=nd1 h (Nat.le_refl _) rfl
 have hz:=Kyy 7 N ty k0
 have hy:TyS s ty:=V1d h rfl
 have ly:=V0y hy
 obtain ⟨x0,y0,r0⟩:=ih k0 ctx p0 hc (by omega)
 by_cases f0:x0.ffault=0
 rotate_left
 ·exact V34 (by decide) (by decide) (by decide) hb r0 f0
 obtain ⟨g0,q0,a,na,la,ba⟩:=r0.gd f0
 obtain ⟨c0,t0,ht0,hn0,hz0⟩:=V37 hs g0
 have L0:=V0y g0
 have e0:Kfu (s,ctx,⟨7,N,ty,[k0]⟩,0)=some x0:=V2m (i:=0) rfl r0 f0
 have o0:=V2r (out:=[]) (nd:=[]) (us:=[]) (w:=0) (t:=⟨7,N,ty,[k0]⟩) (m:=[]) rfl (V2y (by decide)) r0 (by simp; omega) f0 (by rw [ht0]; exact V1v (.inl (by decide))) (V1t (show (7:Int) ≠ 10 by decide)) na (by simp <;> omega) (by simp) (by simp) (by simp) (by simp)
 have hf:=V29 (s:=s) (N:=N) (ty:=ty) (ks:=[k0]) (ctx:=ctx) (us:=[Kz7 []]) (z:=Kz7 (List.replicate ctx.length 0)) (y0:=y0) (a:=a) (by rw [r0.ty]; omega) (by omega)
 have im:=V1s (p0:=⟨s⟩) (t:=⟨7,N,ty,[k0]⟩) (ctx:=ctx) (by omega) (o0.trans (V1j (Nat.le_refl _))) hf
 rw [r0.ty] at im
 refine V2l.done (q:=2 :: (ty ++ x0.fty)) (ns:=a) (kids:=[y0]) ?_ im (by omega) (fun hl=>V18 hs hy g0 (.inr (.inl rfl)) hl) la ba rfl (kd1 (V2k.mk' (V2s (by decide) rfl) r0 f0 (fun _ h=>by cases h) rfl))
 have hg:=V0c 2 [ty,x0.fty] (by simp) (by simp; omega)
 simp only [List.flatten_cons,List.flatten_nil,List.append_nil] at hg
 rw [Kfs.eq_def]
 simp [e0,f0,hg,na]
theorem V3a (ih:V32 s n (tsz (⟨11,N,ty,ks⟩:K01))) (h:tOk (gN s.fSize true) (yN s.fSize true) ctx.length ⟨11,N,ty,ks⟩=true) (hc:∀ q ∈ ctx,TyS s q) (hb:ctx.length + 2 * tsz (⟨11,N,ty,ks⟩:K01) ≤ 1000000):∃ x y,V2l s n ctx ⟨11,N,ty,ks⟩ x y:=by
 obtain ⟨k0,rfl,p0⟩:=nd1 h (Nat.le_refl _) rfl
 have hz:=Kyy 11 N ty k0
 obtain ⟨g,hN,hg'⟩:=V1a hs (V1c h rfl)
 simp only at hN
 subst hN
 obtain ⟨x0,y0,r0⟩:=ih k0 ctx p0 hc (by omega)
 by_cases f0:x0.ffault=0
 rotate_left
 ·exact V34 (by decide) (by decide) (by decide) hb r0 f0
 obtain ⟨g0,q0,a,na,la,ba⟩:=r0.gd f0
 obtain ⟨c0,t0,ht0,hn0,hz0⟩:=V37 hs g0
 have L0:=V0y g0
 have e0:Kfu (s,ctx,⟨11,(g:Int),ty,[k0]⟩,0)=some x0:=V2m (i:=0) rfl r0 f0
 have o0:=V2r (out:=[]) (nd:=[]) (us:=[]) (w:=0) (t:=⟨11,(g:Int),ty,[k0]⟩) (m:=[]) rfl (V2y (by decide)) r0 (by simp; omega) f0 (by rw [ht0]; exact V1v (.inl (by decide))) (V1t (show (11:Int) ≠ 10 by decide)) na (by simp <;> omega) (by simp) (by simp) (by simp) (by simp)
 have hf:=V2e (ty:=ty) (ks:=[k0]) (ctx:=ctx) (us:=[Kz7 []]) (z:=Kz7 (List.replicate ctx.length 0)) (y0:=y0) (a:=a) hs hg' ba (by omega) (by rw [r0.ty]; omega)
 have im:=V1s (p0:=⟨s⟩) (t:=⟨11,(g:Int),ty,[k0]⟩) (ctx:=ctx) (by omega) (o0.trans (V1j (Nat.le_refl _))) hf
 rw [r0.ty] at im
 have hn:=hs.tab.hi
 refine V2l.done (q:=(19 + (g:Int)) :: x0.fty) (ns:=Kzl s n g a) (kids:=[y0]) ?_ im (by omega) (fun hl=>V19 hs hg' g0 hl) (by unfold Kzl; rw [List.length_map]; exact la) (Kzr hs hg' ba) rfl (kd1 (V2k.mk' (V2s (by decide) rfl) r0 f0 (fun _ h=>by cases h) rfl))
 have hg:=V0c (19 + (g:Int)) [x0.fty] (by simp) (by simp; omega)
 simp only [List.flatten_cons,List.flatten_nil,List.append_nil] at hg
 have hsc:=Kzr hs hg' ba
 have hz0:=Kzu hs hsc
 rw [show (Kzl s n g a).length=ctx.length by unfold Kzl; rw [List.length_map]; exact la] at hz0
 have hsum:=Kzw hs g hg' (List.replicate ctx.length 0) a (fun x hx=>by rw [List.eq_of_mem_replicate hx]; exact Kzf hs) ba (by simp; omega) (by simp [la])
 rw [hz0] at hsum
 have hw:wr (19 + (g:Int))=19 + (g:Int):=Ks6 (by omega) (by omega)
 rw [Kfs.eq_def]
 simp [e0,f0,hg,na,hw,V09 ctx.length (by omega),hsum]
theorem V3b (ih:V32 s n (tsz (⟨9,N,ty,ks⟩:K01))) (h:tOk (gN s.fSize true) (yN s.fSize true) ctx.length ⟨9,N,ty,ks⟩=true) (hc:∀ q ∈ ctx,TyS s q) (hb:ctx.length + 2 * tsz (⟨9,N,ty,ks⟩:K01) ≤ 1000000):∃ x y,V2l s n ctx ⟨9,N,ty,ks⟩ x y:=by
 obtain ⟨k0,rfl,p0⟩:=nd1 h (Nat.le_refl _) rfl
 have hz:=Kyy 9 N ty k0
 obtain ⟨g,hN,hg'⟩:=V1a hs (V1c h rfl)
 simp only at hN
 subst hN
 have hy:TyS s ty:=V1d h rfl
 have ly:=V0y hy
 have hn:=hs.tab.hi
 have p0':V1b s ([ty] ++ ctx).length k0 (tsz (⟨9,(g:Int),ty,[k0]⟩:K01)):=by
  have e:([ty] ++ ctx).length=ctx.length + Kv2 9 0:=by simp [Kv2]
  rw [e]; exact p0
 obtain ⟨x0,y0,r0⟩:=ih k0 ([ty] ++ ctx) p0' (fun q hq=>by rcases List.mem_cons.1 hq with rfl | hq; exact hy; exact hc q hq) (by simp; omega)
 have hw9:=V0a ctx [ty] (by simp; omega)
 by_cases f0:x0.ffault=0
 rotate_left
 ·have e0:Kfu (s,ty :: ctx,⟨9,(g:Int),ty,[k0]⟩,0)=some ⟨[],[],x0.ffault,0 :: x0.fpath⟩:=V2n (i:=0) rfl r0 (by omega) f0
  refine V2l.bad (f:=x0.ffault) (p:=0 :: x0.fpath) ?_ (V1r (by omega) (V2o (m:=[ty]) rfl V2z r0 (by omega) (by simp; omega) f0)) f0 (by have:=r0.pl; simp; omega)
  rw [Kfs.eq_def]
  simp [hw9,e0,f0]
 obtain ⟨g0,q0,a,na,la,ba⟩:=r0.gd f0
 obtain ⟨c0,t0,ht0,hn0,hz0⟩:=V37 hs g0
 have L0:=V0y g0
 have e0:Kfu (s,ty :: ctx,⟨9,(g:Int),ty,[k0]⟩,0)=some x0:=V2m (i:=0) rfl r0 f0
 have la':a.length=ctx.length + 1:=by rw [la]; simp
 obtain ⟨u0,a',rfl⟩:∃ u0 a',a=u0 :: a':=by cases a with | nil=>simp at la' | cons u a'=>exact ⟨u,a',rfl⟩
 obtain ⟨hu0,ba'⟩:=Kzo ba
 have o0:=V2r (out:=[]) (nd:=[]) (us:=[]) (w:=0) (t:=⟨9,(g:Int),ty,[k0]⟩) (m:=[ty]) rfl V2z r0 (by simp; omega) f0 (by rw [ht0]; exact V1v (.inl (by decide))) (V1t (show (9:Int) ≠ 10 by decide)) na (by simp <;> omega) (by simp) (by simp) (by simp) (by simp)
 simp only [List.length_cons,List.length_nil,Nat.zero_add,List.drop_succ_cons,List.drop_zero,List.take_succ_cons,List.take_zero,List.nil_append] at o0
 have hf:=V2d (ty:=ty) (ks:=[k0]) (ctx:=ctx) (z:=Kz7 (List.replicate ctx.length 0)) (y0:=y0) (a:=a') (u:=[u0]) hs hg' (fun x hx=>by simp at hx; rw [hx]; exact hu0) (by simp) (by rw [r0.ty]; omega) (by omega)
 have hl0:=o0.trans (V1j (Nat.le_refl _))
 have hle:=sLe hs.tab hu0 hg'
 have hw:wr (3 + (g:Int))=3 + (g:Int):=Ks6 (by omega) (by omega)
 have hi0:idx x0.fneeds 0=some (u0:Int):=by rw [na]; rfl
 simp only [List.all_cons,List.all_nil,Bool.and_true] at hf
 cases hl:le s n u0 g with
 | false =>
  rw [hl,if_neg (by decide)] at hf
  refine V2l.bad (f:=9) (p:=[]) ?_ (V1s (by omega) hl0 hf) (by decide) (by simp; omega)
  rw [Kfs.eq_def]
  simp [hw9,e0,f0,hi0,hle,hl,Kel]
 | true =>
  rw [hl,if_pos rfl] at hf
  have im:=V1s (by omega) hl0 hf
  rw [r0.ty] at im
  refine V2l.done (q:=(3 + (g:Int)) :: (ty ++ x0.fty)) (ns:=a') (kids:=[y0]) ?_ im (by omega) (fun hl=>V18 hs hy g0 (.inr (.inr ⟨g,hg',rfl⟩)) hl) (by simpa using la') ba' rfl (kd1 (V2k.mk' (m:=[ty]) V2t r0 f0 (fun q hq=>by simp at hq; rw [hq]; exact hy) rfl))
  have hg:=V0c (3 + (g:Int)) [ty,x0.fty] (by simp) (by simp; omega)
  simp only [List.flatten_cons,List.flatten_nil,List.append_nil] at hg
  have hcut:cut x0.fneeds (some 1) none none=some (Kz7 a'):=by rw [na]; exact Kxs _ _
  rw [Kfs.eq_def]
  simp [hw9,e0,f0,hi0,hle,hl,hg,hw,hcut,Kvs (Kz7 a') (by rw [Kz8]; simp at la'; omega)]
theorem V3c (ih:V32 s n (tsz (⟨4,N,ty,ks⟩:K01))) (h:tOk (gN s.fSize true) (yN s.fSize true) ctx.length ⟨4,N,ty,ks⟩=true) (hc:∀ q ∈ ctx,TyS s q) (hb:ctx.length + 2 * tsz (⟨4,N,ty,ks⟩:K01) ≤ 1000000):∃ x y,V2l s n ctx ⟨4,N,ty,ks⟩ x y:=by
 obtain ⟨k0,k1,rfl,p0,p1⟩:=nd2 h (Nat.le_refl _) rfl
 have hz:=Kyz 4 N ty k0 k1
 obtain ⟨x0,y0,r0⟩:=ih k0 ctx p0 hc (by omega)
 obtain ⟨x1,y1,r1⟩:=ih k1 ctx p1 hc (by omega)
 by_cases f0:x0.ffault=0
 rotate_left
 ·exact V34 (by decide) (by decide) (by decide) hb r0 f0
 obtain ⟨g0,q0,a,na,la,ba⟩:=r0.gd f0
 obtain ⟨c0,t0,ht0,hn0,hz0⟩:=V37 hs g0
 have L0:=V0y g0
 have e0:Kfu (s,ctx,⟨4,N,ty,[k0,k1]⟩,0)=some x0:=V2m (i:=0) rfl r0 f0
 have o0:=V2r (out:=[]) (nd:=[]) (us:=[]) (w:=0) (t:=⟨4,N,ty,[k0,k1]⟩) (m:=[]) rfl (V2y (by decide)) r0 (by simp; omega) f0 (by rw [ht0]; exact V1v (.inl (by decide))) (V1t (show (4:Int) ≠ 10 by decide)) na (by simp <;> omega) (by simp) (by simp) (by simp) (by simp)
 have m1:V1g ⟨4,N,ty,[k0,k1]⟩ [y0] 1=some []:=V30 (by decide) (V2s (by decide) rfl)
 by_cases f1:x1.ffault=0
 rotate_left
 ·have e1:Kfu (s,ctx,⟨4,N,ty,[k0,k1]⟩,1)=some ⟨[],[],x1.ffault,1 :: x1.fpath⟩:=V2n (i:=1) rfl r1 (by omega) f1
  refine V2l.bad (f:=x1.ffault) (p:=1 :: x1.fpath) ?_ (V1r (by omega) (o0.trans (V2o (m:=[]) rfl m1 r1 (by omega) (by simp; omega) f1))) f1 (by have:=r1.pl; simp; omega)
  rw [Kfs.eq_def]
  simp [e0,f0,e1,f1]
 obtain ⟨g1,q1,b,nb,lb,bb⟩:=r1.gd f1
 obtain ⟨c1,t1,ht1,hn1,hz1⟩:=V37 hs g1
 have L1:=V0y g1
 have e1:Kfu (s,ctx,⟨4,N,ty,[k0,k1]⟩,1)=some x1:=V2m (i:=1) rfl r1 f1
 have o1:=V2r (out:=[y0]) (nd:=[Kz7 a]) (us:=[Kz7 []]) (w:=1) (t:=⟨4,N,ty,[k0,k1]⟩) (m:=[]) rfl m1 r1 (by simp; omega) f1 (by rw [ht1]; exact V1v (.inl (by decide))) (V1t (show (4:Int) ≠ 10 by decide)) nb (by simp <;> omega) (by simp) (by simp) (by simp) (by simp)
 have hf:=V2c (N:=N) (ty:=ty) (ks:=[k0,k1]) (ctx:=ctx) (us:=[Kz7 [],Kz7 []]) (z:=Kz7 (List.replicate ctx.length 0)) (y0:=y0) (y1:=y1) hs ba bb (by omega) (by omega) (by rw [r0.ty]; omega) (by rw [r1.ty]; omega)
 have im:=V1s (p0:=⟨s⟩) (t:=⟨4,N,ty,[k0,k1]⟩) (ctx:=ctx) (by omega) (o0.trans (o1.trans (V1j (Nat.le_refl _)))) hf
 rw [r0.ty,r1.ty] at im
 refine V2l.done (q:=1 :: (x0.fty ++ x1.fty)) (ns:=Kzk s n a b) (kids:=[y0,y1]) ?_ im (by omega) (fun hl=>V18 hs g0 g1 (.inl rfl) hl) (by unfold Kzk; rw [List.length_zipWith]; omega) (Kzq hs ba bb) rfl (kd2 (V2k.mk' (V2s (by decide) rfl) r0 f0 (fun _ h=>by cases h) rfl) (V2k.mk' (V2s (by decide) rfl) r1 f1 (fun _ h=>by cases h) rfl))
 have hg:=V0c 1 [x0.fty,x1.fty] (by simp) (by simp; omega)
 simp only [List.flatten_cons,List.flatten_nil,List.append_nil] at hg
 rw [Kfs.eq_def]
 simp [e0,f0,e1,f1,hg,na,nb,Kzx hs a b ba bb (by omega) (by omega)]
theorem V3d (ih:V32 s n (tsz (⟨2,N,ty,ks⟩:K01))) (h:tOk (gN s.fSize true) (yN s.fSize true) ctx.length ⟨2,N,ty,ks⟩=true) (hc:∀ q ∈ ctx,TyS s q) (hb:ctx.length + 2 * tsz (⟨2,N,ty,ks⟩:K01) ≤ 1000000):∃ x y,V2l s n ctx ⟨2,N,ty,ks⟩ x y:=by
 obtain ⟨k0,k1,rfl,p0,p1⟩:=nd2 h (Nat.le_refl _) rfl
 have hz:=Kyz 2 N ty k0 k1
 obtain ⟨x0,y0,r0⟩:=ih k0 ctx p0 hc (by omega)
 obtain ⟨x1,y1,r1⟩:=ih k1 ctx p1 hc (by omega)
 by_cases f0:x0.ffault=0
 rotate_left
 ·exact V34 (by decide) (by decide) (by decide) hb r0 f0
 obtain ⟨g0,q0,a,na,la,ba⟩:=r0.gd f0
 obtain ⟨c0,t0,ht0,hn0,hz0⟩:=V37 hs g0
 have L0:=V0y g0
 have e0:Kfu (s,ctx,⟨2,N,ty,[k0,k1]⟩,0)=some x0:=V2m (i:=0) rfl r0 f0
 have i0:idx x0.fty 0=some c0:=by rw [ht0]; rfl
 by_cases z0:c0=0
 rotate_left
 ·refine V2l.bad (f:=2) (p:=[]) ?_ (V1r (by omega) (V2p (m:=[]) rfl (V2y (by decide)) r0 (by simp; omega) f0 (by rw [ht0,V1w,if_neg (by rw [hn0]; exact z0)]) (by decide))) (by decide) (by simp; omega)
  rw [Kfs.eq_def]
  simp [e0,f0,i0,z0,Kel]
 have u0:=hz0 z0
 have s0:(Ktw c0).1=0:=hn0.2 z0
 have o0:=V2r (out:=[]) (nd:=[]) (us:=[]) (w:=0) (t:=⟨2,N,ty,[k0,k1]⟩) (m:=[]) rfl (V2y (by decide)) r0 (by simp; omega) f0 (by rw [ht0,V1w,if_pos s0]) (V1t (show (2:Int) ≠ 10 by decide)) na (by simp <;> omega) (by simp) (by simp) (by simp) (by simp)
 have m1:V1g ⟨2,N,ty,[k0,k1]⟩ [y0] 1=some []:=V30 (by decide) (V2s (by decide) rfl)
 by_cases f1:x1.ffault=0
 rotate_left
 ·have e1:Kfu (s,ctx,⟨2,N,ty,[k0,k1]⟩,1)=some ⟨[],[],x1.ffault,1 :: x1.fpath⟩:=V2n (i:=1) rfl r1 (by omega) f1
  refine V2l.bad (f:=x1.ffault) (p:=1 :: x1.fpath) ?_ (V1r (by omega) (o0.trans (V2o (m:=[]) rfl m1 r1 (by omega) (by simp; omega) f1))) f1 (by have:=r1.pl; simp; omega)
  rw [Kfs.eq_def]
  simp [e0,f0,i0,z0,Kfv.eq_def,e1,f1]
 obtain ⟨g1,q1,b,nb,lb,bb⟩:=r1.gd f1
 obtain ⟨c1,t1,ht1,hn1,hz1⟩:=V37 hs g1
 have L1:=V0y g1
 have e1:Kfu (s,ctx,⟨2,N,ty,[k0,k1]⟩,1)=some x1:=V2m (i:=1) rfl r1 f1
 have i1:idx x1.fty 0=some c1:=by rw [ht1]; rfl
 by_cases z1:c1=0
 rotate_left
 ·refine V2l.bad (f:=2) (p:=[]) ?_ (V1r (by omega) (o0.trans (V2p (m:=[]) rfl m1 r1 (by simp; omega) f1 (by rw [ht1,V1w,if_neg (by rw [hn1]; exact z1)]) (by decide)))) (by decide) (by simp; omega)
  rw [Kfs.eq_def]
  simp [e0,f0,i0,z0,e1,f1,i1,z1,Kel,Kfv.eq_def]
 have u1:=hz1 z1
 have s1:(Ktw c1).1=0:=hn1.2 z1
 have o1:=V2r (out:=[y0]) (nd:=[Kz7 a]) (us:=[Kz7 []]) (w:=1) (t:=⟨2,N,ty,[k0,k1]⟩) (m:=[]) rfl m1 r1 (by simp; omega) f1 (by rw [ht1,V1w,if_pos s1]) (V1t (show (2:Int) ≠ 10 by decide)) nb (by simp <;> omega) (by simp) (by simp) (by simp) (by simp)
 have hf:=V2a (N:=N) (ty:=ty) (ks:=[k0,k1]) (ctx:=ctx) (us:=[Kz7 [],Kz7 []]) (z:=Kz7 (List.replicate ctx.length 0)) (y0:=y0) (y1:=y1) hs ba bb (by omega) (by omega)
 have im:=V1s (p0:=⟨s⟩) (t:=⟨2,N,ty,[k0,k1]⟩) (ctx:=ctx) (by omega) (o0.trans (o1.trans (V1j (Nat.le_refl _)))) hf
 replace im:=V33 (q:=[0]) (ns:=Kzk s n a b) (kids:=[y0,y1]) (by decide) im
 refine V2l.good (q:=[0]) (ns:=Kzk s n a b) (kids:=[y0,y1]) ?_ im (by omega) V14 (by unfold Kzk; rw [List.length_zipWith]; omega) (Kzq hs ba bb) rfl (kd2 (V2k.mk' (V2s (by decide) rfl) r0 f0 (fun _ h=>by cases h) rfl) (V2k.mk' (V2s (by decide) rfl) r1 f1 (fun _ h=>by cases h) rfl))
 rw [Kfs.eq_def]
 simp [e0,f0,i0,z0,e1,f1,i1,z1,na,nb,u1,V23,Kzx hs a b ba bb (by omega) (by omega),Kfv.eq_def]
theorem V3e (ih:V32 s n (tsz (⟨3,N,ty,ks⟩:K01))) (h:tOk (gN s.fSize true) (yN s.fSize true) ctx.length ⟨3,N,ty,ks⟩=true) (hc:∀ q ∈ ctx,TyS s q) (hb:ctx.length + 2 * tsz (⟨3,N,ty,ks⟩:K01) ≤ 1000000):∃ x y,V2l s n ctx ⟨3,N,ty,ks⟩ x y:=by
 obtain ⟨k0,k1,k2,rfl,p0,p1,p2⟩:=nd3 h (Nat.le_refl _) rfl
 have hz:=Kz0 3 N ty k0 k1 k2
 obtain ⟨x0,y0,r0⟩:=ih k0 ctx p0 hc (by omega)
 obtain ⟨x1,y1,r1⟩:=ih k1 ctx p1 hc (by omega)
 obtain ⟨x2,y2,r2⟩:=ih k2 ctx p2 hc (by omega)
 by_cases f0:x0.ffault=0
 rotate_left
 ·exact V34 (by decide) (by decide) (by decide) hb r0 f0
 obtain ⟨g0,q0,a,na,la,ba⟩:=r0.gd f0
 obtain ⟨c0,t0,ht0,hn0,hz0⟩:=V37 hs g0
 have L0:=V0y g0
 have e0:Kfu (s,ctx,⟨3,N,ty,[k0,k1,k2]⟩,0)=some x0:=V2m (i:=0) rfl r0 f0
 have i0:idx x0.fty 0=some c0:=by rw [ht0]; rfl
 by_cases z0:c0=0
 rotate_left
 ·refine V2l.bad (f:=2) (p:=[]) ?_ (V1r (by omega) (V2p (m:=[]) rfl (V2y (by decide)) r0 (by simp; omega) f0 (by rw [ht0,V1x,if_neg (by rw [hn0]; exact z0)]) (by decide))) (by decide) (by simp; omega)
  rw [Kfs.eq_def]
  simp [e0,f0,i0,z0,Kel]
 have u0:=hz0 z0
 have s0:(Ktw c0).1=0:=hn0.2 z0
 have o0:=V2r (out:=[]) (nd:=[]) (us:=[]) (w:=0) (t:=⟨3,N,ty,[k0,k1,k2]⟩) (m:=[]) rfl (V2y (by decide)) r0 (by simp; omega) f0 (by rw [ht0,V1x,if_pos s0]) (V1t (show (3:Int) ≠ 10 by decide)) na (by simp <;> omega) (by simp) (by simp) (by simp) (by simp)
 have m1:V1g ⟨3,N,ty,[k0,k1,k2]⟩ [y0] 1=some []:=V30 (by decide) (V2s (by decide) rfl)
 by_cases f1:x1.ffault=0
 rotate_left
 ·have e1:Kfu (s,ctx,⟨3,N,ty,[k0,k1,k2]⟩,1)=some ⟨[],[],x1.ffault,1 :: x1.fpath⟩:=V2n (i:=1) rfl r1 (by omega) f1
  refine V2l.bad (f:=x1.ffault) (p:=1 :: x1.fpath) ?_ (V1r (by omega) (o0.trans (V2o (m:=[]) rfl m1 r1 (by omega) (by simp; omega) f1))) f1 (by have:=r1.pl; simp; omega)
  rw [Kfs.eq_def]
  simp [e0,f0,i0,z0,Kfv.eq_def,e1,f1]
 obtain ⟨g1,q1,b,nb,lb,bb⟩:=r1.gd f1
 obtain ⟨c1,t1,ht1,hn1,hz1⟩:=V37 hs g1
 have L1:=V0y g1
 have e1:Kfu (s,ctx,⟨3,N,ty,[k0,k1,k2]⟩,1)=some x1:=V2m (i:=1) rfl r1 f1
 have o1:=V2r (out:=[y0]) (nd:=[Kz7 a]) (us:=[Kz7 []]) (w:=1) (t:=⟨3,N,ty,[k0,k1,k2]⟩) (m:=[]) rfl m1 r1 (by simp; omega) f1 (by rw [ht1]; exact V1v (.inr (by decide))) (V1t (show (3:Int) ≠ 10 by decide)) nb (by simp <;> omega) (by simp) (by simp) (by simp) (by simp)
 have m2:V1g ⟨3,N,ty,[k0,k1,k2]⟩ [y0,y1] 2=some []:=V30 (by decide) (V2s (by decide) rfl)
 by_cases f2:x2.ffault=0
 rotate_left
 ·have e2:Kfu (s,ctx,⟨3,N,ty,[k0,k1,k2]⟩,2)=some ⟨[],[],x2.ffault,2 :: x2.fpath⟩:=V2n (i:=2) rfl r2 (by omega) f2
  refine V2l.bad (f:=x2.ffault) (p:=2 :: x2.fpath) ?_ (V1r (by omega) (o0.trans (o1.trans (V2o (m:=[]) rfl m2 r2 (by omega) (by simp; omega) f2)))) f2 (by have:=r2.pl; simp; omega)
  rw [Kfs.eq_def]
  simp [e0,f0,i0,z0,e1,f1,Kfv.eq_def,e2,f2]
 obtain ⟨g2,q2,d,nd,ld,bd⟩:=r2.gd f2
 obtain ⟨c2,t2,ht2,hn2,hz2⟩:=V37 hs g2
 have L2:=V0y g2
 have e2:Kfu (s,ctx,⟨3,N,ty,[k0,k1,k2]⟩,2)=some x2:=V2m (i:=2) rfl r2 f2
 have o2:=V2r (out:=[y0,y1]) (nd:=[Kz7 a,Kz7 b]) (us:=[Kz7 [],Kz7 []]) (w:=2) (t:=⟨3,N,ty,[k0,k1,k2]⟩) (m:=[]) rfl m2 r2 (by simp; omega) f2 (by rw [ht2]; exact V1v (.inr (by decide))) (V1t (show (3:Int) ≠ 10 by decide)) nd (by simp <;> omega) (by simp) (by simp) (by simp) (by simp)
 have hf:=V2b (N:=N) (ty:=ty) (ks:=[k0,k1,k2]) (ctx:=ctx) (us:=[Kz7 [],Kz7 [],Kz7 []]) (z:=Kz7 (List.replicate ctx.length 0)) (y0:=y0) (y1:=y1) (y2:=y2) hs ba bb bd (by omega) (by omega) (by omega) (by rw [r2.ty]; omega) (by rw [r1.ty]; omega)
 have hl0:=o0.trans (o1.trans (o2.trans (V1j (Nat.le_refl _))))
 
 have hsm:=Kyq x1.fty x2.fty (by omega)
 have lj:(Kzm s n b d).length=ctx.length:=by unfold Kzm; rw [List.length_zipWith]; omega
 rw [r1.ty,r2.ty] at hf
 by_cases hq:x1.fty=x2.fty
 ·rw [if_pos hq] at hf
  have im:=V1s (by omega) hl0 hf
  replace im:=V33 (q:=x1.fty) (ns:=Kzk s n a (Kzm s n b d)) (kids:=[y0,y1,y2]) (by omega) im
  refine V2l.good (q:=x1.fty) (ns:=Kzk s n a (Kzm s n b d)) (kids:=[y0,y1,y2]) ?_ im (by omega) g1 (by unfold Kzk; rw [List.length_zipWith]; omega) (Kzq hs ba (Kzs hs bb bd)) rfl (kd3 (V2k.mk' (V2s (by decide) rfl) r0 f0 (fun _ h=>by cases h) rfl) (V2k.mk' (V2s (by decide) rfl) r1 f1 (fun _ h=>by cases h) rfl) (V2k.mk' (V2s (by decide) rfl) r2 f2 (fun _ h=>by cases h) rfl))
  rw [show (x1.fty == x2.fty)=true from beq_iff_eq.2 hq] at hsm
  rw [Kfs.eq_def]
  simp [e0,f0,i0,z0,e1,f1,e2,f2,hsm,na,nb,nd,Kzz hs b d bb bd (by omega) (by omega),Kzx hs a (Kzm s n b d) ba (Kzs hs bb bd) (by omega) (by omega),Kfv.eq_def]
 ·rw [if_neg hq] at hf
  refine V2l.bad (f:=3) (p:=[]) ?_ (V1s (by omega) hl0 hf) (by decide) (by simp; omega)
  rw [show (x1.fty == x2.fty)=false from beq_eq_false_iff_ne.2 hq] at hsm
  rw [Kfs.eq_def]
  simp [e0,f0,i0,z0,e1,f1,e2,f2,hsm,Kfv.eq_def,Kel]
end
end Go.Am
