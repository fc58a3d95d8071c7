/- Plain laws of the printed functions. -/
import Derived.Test.YtckgdfakjjdodaaGreatPPUT0
set_option linter.unusedSimpArgs false
set_option linter.unusedVariables false
namespace Go.Am
def Kv8 (l:List Nat):List Int:=l.map fun x:Nat=>(x:Int)
theorem Kv9 (l:List Nat):(Kv8 l).length=l.length:=List.length_map ..
theorem Kva (l:List Nat) (i:Nat):(Kv8 l).drop i=Kv8 (l.drop i):=(List.map_drop ..).symm
theorem Kvb (l:List Nat) (i:Nat):(Kv8 l).take i=Kv8 (l.take i):=(List.map_take ..).symm
theorem Kvc {l r:List Nat} {x i:Nat} (h:l.drop i=x :: r):i < l.length∧idx (Kv8 l) (i:Int)=some (x:Int)∧l.drop (i + 1)=r:=by
 have h2:(Kv8 l).drop i=(x:Int) :: Kv8 r:=by rw [Kva,h]; rfl
 obtain ⟨q1,q2,q3⟩:=Kp8 h2
 rw [Kv9] at q1
 refine ⟨q1,q2,?_⟩
 rw [← List.drop_drop,h]
 rfl
structure Kvd (s:K02) (n:Nat):Prop where
 tab:Tab s n
 one:∀ a,a < n→Kol s n a=true
 two:∀ a b,a < n→b < n→Koy s n a b=true
theorem Kve {s:K02} (h:Krs s=true):Kvd s s.fSize.toNat:=by
 have ht:=Krt h
 unfold Krs at h
 simp only [Bool.and_eq_true] at h
 have hm:=h.2
 unfold Kp1 at hm
 rw [List.all_eq_true] at hm
 refine ⟨ht,fun a ha=>?_,fun a b ha hb=>?_⟩
 ·have:=hm a (by rw [List.mem_range'_1]; omega)
  simp only [Bool.and_eq_true] at this
  exact this.1
 ·have:=hm a (by rw [List.mem_range'_1]; omega)
  simp only [Bool.and_eq_true,List.all_eq_true] at this
  exact (this.2 b (by rw [List.mem_range'_1]; omega)).1
section
variable {s:K02} {n:Nat} (hs:Kvd s n)
include hs
theorem Kvf:1 < n:=by have:=hs.tab.lo; omega
theorem Kvg:0 < n:=by have:=hs.tab.lo; omega
theorem Kvh {a:Nat} (ha:a < n):pl s n 0 a=a:=by
 have:=hs.one a ha
 simp only [Kol,Bool.and_eq_true,beq_iff_eq] at this
 exact this.1.1.1.1.1
theorem Kvi {a:Nat} (ha:a < n):ti s n 1 a=a:=by
 have:=hs.one a ha
 simp only [Kol,Bool.and_eq_true,beq_iff_eq] at this
 exact this.1.1.1.1.2
def Kvj (s:K02) (n a b:Nat):Nat:=(Kor s n a b).toNat
theorem Kvk {a b:Nat} (ha:a < n) (hb:b < n):Kor s n a b=((Kvj s n a b:Nat):Int)∧Kvj s n a b < n:=by
 have h:=hs.two a b ha hb
 simp only [Koy,Bool.and_eq_true,decide_eq_true_eq] at h
 have h0:=h.2
 unfold Kvj
 refine ⟨by omega,?_⟩
 unfold Kor at h0 ⊢
 cases hf:(List.range' 0 n).find? (jok s n a b) with
 | none=>rw [hf] at h0; exact absurd h0 (by decide)
 | some g =>
  have:=List.mem_of_find?_eq_some hf
  rw [List.mem_range'_1] at this
  simp only [Int.toNat_natCast]
  omega
end
def Kvl (s:K02) (n:Nat) (a b:List Nat):List Nat:=List.zipWith (pl s n) a b
def Kvm (s:K02) (n g:Nat) (a:List Nat):List Nat:=a.map (ti s n g)
def Kvn (s:K02) (n:Nat) (a b:List Nat):List Nat:=List.zipWith (Kvj s n) a b
def Kvo (n:Nat) (l:List Nat):Prop:=∀ x ∈ l,x < n
theorem Kvp {n x:Nat} {l:List Nat} (h:Kvo n (x :: l)):x < n∧Kvo n l:=⟨h x List.mem_cons_self,fun y hy=>h y (List.mem_cons_of_mem _ hy)⟩
theorem Kvq {n:Nat} {l:List Nat} (h:Kvo n l) (i:Nat):Kvo n (l.drop i):=fun x hx=>h x (List.mem_of_mem_drop hx)
section
variable {s:K02} {n:Nat} (hs:Kvd s n)
include hs
theorem Kvr:∀ {a b:List Nat},Kvo n a→Kvo n b→Kvo n (Kvl s n a b)
 | [],_,_,_=>fun x hx=>by cases hx
 | _ :: _,[],_,_=>fun x hx=>by cases hx
 | x :: a,y :: b,ha,hb=>fun z hz=>by
  obtain ⟨h1,h2⟩:=Kvp ha
  obtain ⟨h3,h4⟩:=Kvp hb
  rcases List.mem_cons.1 hz with rfl | hz
  ·exact Koa hs.tab h1 h3
  ·exact Kvr h2 h4 z hz
theorem Kvs {g:Nat} (hg:g < n) {a:List Nat} (ha:Kvo n a):Kvo n (Kvm s n g a):=fun x hx=>by
 obtain ⟨y,hy,rfl⟩:=List.mem_map.1 hx
 exact Kob hs.tab hg (ha y hy)
theorem Kvt:∀ {a b:List Nat},Kvo n a→Kvo n b→Kvo n (Kvn s n a b)
 | [],_,_,_=>fun x hx=>by cases hx
 | _ :: _,[],_,_=>fun x hx=>by cases hx
 | x :: a,y :: b,ha,hb=>fun z hz=>by
  obtain ⟨h1,h2⟩:=Kvp ha
  obtain ⟨h3,h4⟩:=Kvp hb
  rcases List.mem_cons.1 hz with rfl | hz
  ·exact (Kvk hs h1 h3).2
  ·exact Kvt h2 h4 z hz
theorem Kvu {a:List Nat} (ha:Kvo n a):Kvm s n 1 a=a:=by
 induction a with
 | nil=>rfl
 | cons x a ih =>
  obtain ⟨h1,h2⟩:=Kvp ha
  show ti s n 1 x :: Kvm s n 1 a=_
  rw [Kvi hs h1,ih h2]
theorem Kvv {a:List Nat} (ha:Kvo n a):Kvl s n (List.replicate a.length 0) a=a:=by
 induction a with
 | nil=>rfl
 | cons x a ih =>
  obtain ⟨h1,h2⟩:=Kvp ha
  show pl s n 0 x :: Kvl s n (List.replicate a.length 0) a=_
  rw [Kvh hs h1,ih h2]
theorem Kvw (g:Nat) (hg:g < n) (a b:List Nat) (ha:Kvo n a) (hb:Kvo n b) (hl:a.length ≤ 1099511627776):∀ (al bl:List Nat) (i:Nat) (out:List Int),a.drop i=al→b.drop i=bl→al.length=bl.length→out.length + al.length ≤ 1099511627776 →
  Kdf (s,Kv8 a,(g:Int),Kv8 b,out,(i:Int))=some (out ++ Kv8 (Kvl s n al (Kvm s n g bl))):=by
 intro al
 induction al with
 | nil =>
  intro bl i out hd _ _ _
  rw [Kdf.eq_def]
  simp only
  rw [Kv9,Ko6 (Kp9 hd)]
  simp [Kvl,Kv8]
 | cons x al ih =>
  intro bl i out hd hd2 hll ho
  cases bl with
  | nil=>simp at hll
  | cons y bl =>
   obtain ⟨h1,h2,h3⟩:=Kvc hd
   obtain ⟨k1,k2,k3⟩:=Kvc hd2
   have hx:x < n:=Kvq ha i x (by rw [hd]; exact List.mem_cons_self)
   have hy:y < n:=Kvq hb i y (by rw [hd2]; exact List.mem_cons_self)
   rw [Kdf.eq_def]
   simp only
   simp only [List.length_cons] at ho hll
   rw [Kv9,Ko5 h1,if_pos rfl,h2,bs,k2,bs,Kog hs.tab hg hy,bs,Kof hs.tab hx (Kob hs.tab hg hy),bs,Krd (by simp; omega),bs,Ko4 (by omega),ih bl (i + 1) _ h3 k3 (by omega) (by simp; omega)]
   rw [List.append_assoc]
   rfl
theorem Kvx (g:Nat) (hg:g < n) (a b:List Nat) (ha:Kvo n a) (hb:Kvo n b) (hl:a.length ≤ 1048576) (hab:a.length=b.length):Kdi (s,Kv8 a,(g:Int),Kv8 b)=some (Kv8 (Kvl s n a (Kvm s n g b))):=by
 unfold Kdi
 simp only
 rw [show (0:Int)=((0:Nat):Int) from rfl,Kvw hs g hg a b ha hb (by omega) a b 0 [] rfl rfl hab (by simp; omega)]
 rfl
theorem Kvy (a b:List Nat) (ha:Kvo n a) (hb:Kvo n b) (hl:a.length ≤ 1048576) (hab:a.length=b.length):Kdi (s,Kv8 a,1,Kv8 b)=some (Kv8 (Kvl s n a b)):=by
 have:=Kvx hs 1 (Kvf hs) a b ha hb hl hab
 rw [Kvu hs hb] at this
 exact this
theorem Kvz (a b:List Nat) (ha:Kvo n a) (hb:Kvo n b) (hl:a.length ≤ 1099511627776):∀ (al bl:List Nat) (i:Nat) (out:List Int),a.drop i=al→b.drop i=bl→al.length=bl.length→out.length + al.length ≤ 1099511627776 →
  Kdp (s,Kv8 a,Kv8 b,out,(i:Int))=some (out ++ Kv8 (Kvn s n al bl)):=by
 intro al
 induction al with
 | nil =>
  intro bl i out hd _ _ _
  rw [Kdp.eq_def]
  simp only
  rw [Kv9,Ko6 (Kp9 hd)]
  simp [Kvn,Kv8]
 | cons x al ih =>
  intro bl i out hd hd2 hll ho
  cases bl with
  | nil=>simp at hll
  | cons y bl =>
   obtain ⟨h1,h2,h3⟩:=Kvc hd
   obtain ⟨k1,k2,k3⟩:=Kvc hd2
   have hx:x < n:=Kvq ha i x (by rw [hd]; exact List.mem_cons_self)
   have hy:y < n:=Kvq hb i y (by rw [hd2]; exact List.mem_cons_self)
   rw [Kdp.eq_def]
   simp only
   simp only [List.length_cons] at ho hll
   rw [Kv9,Ko5 h1,if_pos rfl,h2,bs,k2,bs,Kow hs.tab hx hy,bs,(Kvk hs hx hy).1,Krd (by simp; omega),bs,Ko4 (by omega),ih bl (i + 1) _ h3 k3 (by omega) (by simp; omega)]
   rw [List.append_assoc]
   rfl
theorem Kw0 (a b:List Nat) (ha:Kvo n a) (hb:Kvo n b) (hl:a.length ≤ 1048576) (hab:a.length=b.length):Kds (s,Kv8 a,Kv8 b)=some (Kv8 (Kvn s n a b)):=by
 unfold Kds
 simp only
 rw [show (0:Int)=((0:Nat):Int) from rfl,Kvz hs a b ha hb (by omega) a b 0 [] rfl rfl hab (by simp; omega)]
 rfl
end
theorem Kw1 {α:Type} {out:List α} {i:Nat} (h:i < out.length) (x:α):(out.set i x).take (i + 1)=out.take i ++ [x]:=by
 rw [List.take_set,List.take_succ_eq_append_getElem h,List.set_append_right _ _ (by simp; omega)]
 simp [Nat.min_eq_left (Nat.le_of_lt h)]
section
variable {s:K02} {n:Nat} (hs:Kvd s n)
include hs
theorem Kw2 (a b:List Nat) (ha:Kvo n a) (hb:Kvo n b) (hl:a.length ≤ 1099511627776):∀ (al bl:List Nat) (i:Nat) (out:List Int),a.drop i=al→b.drop i=bl→al.length=bl.length→out.length=a.length →
  Kng (s,Kv8 a,Kv8 b,out,(i:Int))=some (out.take i ++ Kv8 (Kvl s n al bl)):=by
 intro al
 induction al with
 | nil =>
  intro bl i out hd _ _ ho
  rw [Kng.eq_def]
  simp only
  have:=Kp9 hd
  rw [Kv9,Ko6 this]
  simp [Kvl,Kv8,List.take_of_length_le (show out.length ≤ i by omega)]
 | cons x al ih =>
  intro bl i out hd hd2 hll ho
  cases bl with
  | nil=>simp at hll
  | cons y bl =>
   obtain ⟨h1,h2,h3⟩:=Kvc hd
   obtain ⟨k1,k2,k3⟩:=Kvc hd2
   have hx:x < n:=Kvq ha i x (by rw [hd]; exact List.mem_cons_self)
   have hy:y < n:=Kvq hb i y (by rw [hd2]; exact List.mem_cons_self)
   rw [Kng.eq_def]
   simp only
   simp only [List.length_cons] at hll
   have hio:i < out.length:=by omega
   rw [Kv9,Ko5 h1,if_pos rfl,h2,bs,k2,bs,Koh hs.tab hx hy,bs,Ko3 hio,bs,Ko4 (by omega),Int.toNat_natCast,ih bl (i + 1) _ h3 k3 (by omega) (by rw [List.length_set]; exact ho)]
   rw [Kw1 hio,List.append_assoc]
   rfl
theorem Kw3 (a b:List Nat) (ha:Kvo n a) (hb:Kvo n b) (hl:a.length ≤ 1048576) (hab:a.length=b.length):Kni (⟨s⟩,Kv8 a,Kv8 b)=some (Kv8 (Kvl s n a b)):=by
 unfold Kni Knh
 simp only
 rw [Kv9,Ku0 (by simp; omega),bs,Int.toNat_natCast,show (0:Int)=((0:Nat):Int) from rfl]
 rw [show (List.replicate a.length (((0:Nat):Int)))=List.replicate a.length (0:Int) from rfl,Kw2 hs a b ha hb (by omega) a b 0 _ rfl rfl hab (by simp)]
 rfl
theorem Kw4 (a b:List Nat) (ha:Kvo n a) (hb:Kvo n b) (hl:a.length ≤ 1099511627776):∀ (al bl:List Nat) (i:Nat) (out:List Int),a.drop i=al→b.drop i=bl→al.length=bl.length→out.length=a.length →
  Knk (s,Kv8 a,Kv8 b,out,(i:Int))=some (out.take i ++ Kv8 (Kvn s n al bl)):=by
 intro al
 induction al with
 | nil =>
  intro bl i out hd _ _ ho
  rw [Knk.eq_def]
  simp only
  have:=Kp9 hd
  rw [Kv9,Ko6 this]
  simp [Kvn,Kv8,List.take_of_length_le (show out.length ≤ i by omega)]
 | cons x al ih =>
  intro bl i out hd hd2 hll ho
  cases bl with
  | nil=>simp at hll
  | cons y bl =>
   obtain ⟨h1,h2,h3⟩:=Kvc hd
   obtain ⟨k1,k2,k3⟩:=Kvc hd2
   have hx:x < n:=Kvq ha i x (by rw [hd]; exact List.mem_cons_self)
   have hy:y < n:=Kvq hb i y (by rw [hd2]; exact List.mem_cons_self)
   rw [Knk.eq_def]
   simp only
   simp only [List.length_cons] at hll
   have hio:i < out.length:=by omega
   rw [Kv9,Ko5 h1,if_pos rfl,h2,bs,k2,bs,Kox hs.tab hx hy,bs,(Kvk hs hx hy).1,Ko3 hio,bs,Ko4 (by omega),Int.toNat_natCast,ih bl (i + 1) _ h3 k3 (by omega) (by rw [List.length_set]; exact ho)]
   rw [Kw1 hio,List.append_assoc]
   rfl
theorem Kw5 (a b:List Nat) (ha:Kvo n a) (hb:Kvo n b) (hl:a.length ≤ 1048576) (hab:a.length=b.length):Knm (⟨s⟩,Kv8 a,Kv8 b)=some (Kv8 (Kvn s n a b)):=by
 unfold Knm Knl
 simp only
 rw [Kv9,Ku0 (by simp; omega),bs,Int.toNat_natCast,show (0:Int)=((0:Nat):Int) from rfl]
 rw [show (List.replicate a.length (((0:Nat):Int)))=List.replicate a.length (0:Int) from rfl,Kw4 hs a b ha hb (by omega) a b 0 _ rfl rfl hab (by simp)]
 rfl
theorem Kw6 (g:Nat) (hg:g < n) (a:List Nat) (ha:Kvo n a) (hl:a.length ≤ 1099511627776):∀ (al:List Nat) (i:Nat) (out:List Int),a.drop i=al→out.length=a.length →
  Knw (⟨s⟩,(g:Int),Kv8 a,out,(i:Int))=some (out.take i ++ Kv8 (Kvm s n g al)):=by
 intro al
 induction al with
 | nil =>
  intro i out hd ho
  rw [Knw.eq_def]
  simp only
  have:=Kp9 hd
  rw [Kv9,Ko6 this]
  simp [Kvm,Kv8,List.take_of_length_le (show out.length ≤ i by omega)]
 | cons x al ih =>
  intro i out hd ho
  obtain ⟨h1,h2,h3⟩:=Kvc hd
  have hx:x < n:=Kvq ha i x (by rw [hd]; exact List.mem_cons_self)
  rw [Knw.eq_def]
  simp only
  have hio:i < out.length:=by omega
  rw [Kv9,Ko5 h1,if_pos rfl,h2,bs,Koi hs.tab hg hx,bs,Ko3 hio,bs,Ko4 (by omega),Int.toNat_natCast,ih (i + 1) _ h3 (by rw [List.length_set]; exact ho)]
  rw [Kw1 hio,List.append_assoc]
  rfl
theorem Kw7 (g:Nat) (hg:g < n) (a:List Nat) (ha:Kvo n a) (hl:a.length ≤ 1048576):Knx (⟨s⟩,(g:Int),Kv8 a)=some (Kv8 (Kvm s n g a)):=by
 unfold Knx
 simp only
 rw [Kv9,Ku0 (by simp; omega),bs,Int.toNat_natCast,show (0:Int)=((0:Nat):Int) from rfl]
 rw [show (List.replicate a.length (((0:Nat):Int)))=List.replicate a.length (0:Int) from rfl,Kw6 hs g hg a ha (by omega) a 0 _ rfl (by simp)]
 rfl
theorem Kw8 (g:Nat) (hg:g < n) (a:List Nat) (ha:Kvo n a) (hl:a.length ≤ 1099511627776):∀ (al:List Nat) (i:Nat),a.drop i=al →
  ∃ r,Kns (Kv8 a,⟨s⟩,(g:Int),(i:Int))=some r∧(match r with | .inl _=>(al.all fun x=>le s n x g)=true | .inr j=>(al.all fun x=>le s n x g)=false∧0 ≤ j):=by
 intro al
 induction al with
 | nil =>
  intro i hd
  rw [Kns.eq_def]
  simp only
  rw [Kv9,Ko6 (Kp9 hd)]
  exact ⟨_,rfl,rfl⟩
 | cons x al ih =>
  intro i hd
  obtain ⟨h1,h2,h3⟩:=Kvc hd
  have hx:x < n:=Kvq ha i x (by rw [hd]; exact List.mem_cons_self)
  rw [Kns.eq_def]
  simp only
  rw [Kv9,Ko5 h1,if_pos rfl,h2,bs]
  unfold Knr
  simp only
  rw [iLe hs.tab hx hg]
  simp only [bs]
  cases hle:le s n x g with
  | true =>
   obtain ⟨r,hr,hm⟩:=ih (i + 1) h3
   refine ⟨r,?_,?_⟩
   ·rw [if_neg (by simp),Ko4 (by omega)]; exact hr
   ·rw [List.all_cons,hle,Bool.true_and]; exact hm
  | false =>
   exact ⟨_,if_pos rfl,by simp [List.all_cons,hle]⟩
theorem Kw9 (g:Nat) (hg:g < n) (a:List Nat) (ha:Kvo n a) (hl:a.length ≤ 1048576):Knv (⟨s⟩,Kv8 a,(g:Int))=some (a.all fun x=>le s n x g):=by
 obtain ⟨r,hr,hm⟩:=Kw8 hs g hg a ha (by omega) a 0 rfl
 unfold Knv Knu Knt
 simp only
 rw [show (0:Int)=((0:Nat):Int) from rfl,hr]
 cases r with
 | inl _=>simp only [bs] at hm ⊢; rw [hm]; rfl
 | inr j =>
  simp only [bs] at hm ⊢
  rw [hm.1,decide_eq_true (by omega)]; rfl
end
theorem Kwa (k:Nat) (h:k ≤ 1048576):Kd8 (k:Int)=some (Kv8 (List.replicate k 0)):=by
 unfold Kd8
 rw [Int.toNat_natCast,Ku0 (by constructor <;> omega),bs]
 unfold Kv8
 rw [List.map_replicate]
 rfl
theorem Kwb (ctx front:List (List Int)) (h:ctx.length + front.length ≤ 1048576):Kd5 (ctx,front)=some (front ++ ctx):=by
 unfold Kd5
 simp only
 rw [Krd (by simp; omega),bs,Krd (by omega),bs]
theorem Kwc (ps:List (List Int)) (hp:ps.length ≤ 1099511627776):∀ (l:List (List Int)) (i:Nat) (out:List Int),ps.drop i=l→out.length + l.flatten.length ≤ 1099511627776→Kbq (ps,out,(i:Int))=some (out ++ l.flatten):=by
 intro l
 induction l with
 | nil =>
  intro i out hd _
  rw [Kbq.eq_def]
  simp only
  rw [Ko6 (Kp9 hd)]
  simp
 | cons x l ih =>
  intro i out hd ho
  obtain ⟨h1,h2,h3⟩:=Kp8 hd
  rw [List.flatten_cons,List.length_append] at ho
  rw [Kbq.eq_def]
  simp only
  rw [Ko5 h1,if_pos rfl,h2,bs,Krd (by omega),bs,Ko4 (by omega),ih (i + 1) _ h3 (by rw [List.length_append]; omega),List.flatten_cons,List.append_assoc]
theorem Kwd (c:Int) (ps:List (List Int)) (hp:ps.length ≤ 1048576) (h:ps.flatten.length ≤ 1048576):Kbt (c,ps)=some (c :: ps.flatten):=by
 unfold Kbt
 simp only
 rw [show (0:Int)=((0:Nat):Int) from rfl,Kwc ps (by omega) ps 0 [c] rfl (by rw [List.length_singleton]; omega)]
 rfl
theorem Kwe (ps:List (List (Int))) (hp:ps.length ≤ 1099511627776):∀ (l:List (List (Int))) (i sz:Nat),ps.drop i=l→sz + l.flatten.length ≤ 1099511627776→Kno (ps,(sz:Int),(i:Int))=some (((sz + l.flatten.length:Nat)):Int):=by
 intro l
 induction l with
 | nil =>
  intro i sz hd _
  rw [Kno.eq_def]
  simp only
  rw [Ko6 (Kp9 hd)]
  simp
 | cons x l ih =>
  intro i sz hd ho
  obtain ⟨h1,h2,h3⟩:=Kp8 hd
  rw [List.flatten_cons,List.length_append] at ho
  have e:wr ((sz:Int) + (x.length:Int))=((sz + x.length:Nat):Int):=Kt2 (by omega) (by omega)
  rw [Kno.eq_def]
  simp only
  rw [Ko5 h1,if_pos rfl,h2,bs,e,decide_eq_false (by omega),if_neg (by decide),bs,Ko4 (by omega),ih (i + 1) _ h3 (by omega),List.flatten_cons,List.length_append,Nat.add_assoc]
theorem Kwf (ps:List (List (Int))) (hp:ps.length ≤ 1099511627776):∀ (l:List (List (Int))) (i:Nat) (out:List (Int)),ps.drop i=l→out.length + l.flatten.length ≤ 1099511627776→Knp (ps,out,(i:Int))=some (out ++ l.flatten):=by
 intro l
 induction l with
 | nil =>
  intro i out hd _
  rw [Knp.eq_def]
  simp only
  rw [Ko6 (Kp9 hd)]
  simp
 | cons x l ih =>
  intro i out hd ho
  obtain ⟨h1,h2,h3⟩:=Kp8 hd
  rw [List.flatten_cons,List.length_append] at ho
  rw [Knp.eq_def]
  simp only
  rw [Ko5 h1,if_pos rfl,h2,bs,Krd (by omega),bs,Ko4 (by omega),ih (i + 1) _ h3 (by rw [List.length_append]; omega),List.flatten_cons,List.append_assoc]
theorem Kwg (k:Nat) (h:k ≤ 1048576):Knn (k:Int)=some ():=by
 unfold Knn
 have e:wr ((k:Int) - wr (0 - 0))=(k:Int):=by rw [Ko2 (x:=0 - 0) (by decide) (by decide),Ko2 (by omega) (by omega)]; omega
 rw [decide_eq_false (by omega),if_neg (by decide),e]
 by_cases hk:k=0
 ·subst hk; rfl
 ·rw [decide_eq_true (by omega),if_pos rfl,Int.toNat_natCast,Ku0 (by constructor <;> omega),bs]
theorem Kwh (ps:List (List (Int))) (hp:ps.length ≤ 1048576) (h:ps.flatten.length ≤ 1048576):Knq ps=some ps.flatten:=by
 unfold Knq
 have h0:=Kwe ps (by omega) ps 0 0 rfl (by omega)
 rw [Nat.zero_add] at h0
 rw [show (0:Int)=((0:Nat):Int) from rfl,h0,bs,Kwg _ h,bs,Kwf ps (by omega) ps 0 [] rfl (by rw [List.length_nil]; omega)]
 rfl
theorem Kwi (ps:List (List (List Int))) (hp:ps.length ≤ 1099511627776):∀ (l:List (List (List Int))) (i sz:Nat),ps.drop i=l→sz + l.flatten.length ≤ 1099511627776→Knc (ps,(sz:Int),(i:Int))=some (((sz + l.flatten.length:Nat)):Int):=by
 intro l
 induction l with
 | nil =>
  intro i sz hd _
  rw [Knc.eq_def]
  simp only
  rw [Ko6 (Kp9 hd)]
  simp
 | cons x l ih =>
  intro i sz hd ho
  obtain ⟨h1,h2,h3⟩:=Kp8 hd
  rw [List.flatten_cons,List.length_append] at ho
  have e:wr ((sz:Int) + (x.length:Int))=((sz + x.length:Nat):Int):=Kt2 (by omega) (by omega)
  rw [Knc.eq_def]
  simp only
  rw [Ko5 h1,if_pos rfl,h2,bs,e,decide_eq_false (by omega),if_neg (by decide),bs,Ko4 (by omega),ih (i + 1) _ h3 (by omega),List.flatten_cons,List.length_append,Nat.add_assoc]
theorem Kwj (ps:List (List (List Int))) (hp:ps.length ≤ 1099511627776):∀ (l:List (List (List Int))) (i:Nat) (out:List (List Int)),ps.drop i=l→out.length + l.flatten.length ≤ 1099511627776→Knd (ps,out,(i:Int))=some (out ++ l.flatten):=by
 intro l
 induction l with
 | nil =>
  intro i out hd _
  rw [Knd.eq_def]
  simp only
  rw [Ko6 (Kp9 hd)]
  simp
 | cons x l ih =>
  intro i out hd ho
  obtain ⟨h1,h2,h3⟩:=Kp8 hd
  rw [List.flatten_cons,List.length_append] at ho
  rw [Knd.eq_def]
  simp only
  rw [Ko5 h1,if_pos rfl,h2,bs,Krd (by omega),bs,Ko4 (by omega),ih (i + 1) _ h3 (by rw [List.length_append]; omega),List.flatten_cons,List.append_assoc]
theorem Kwk (k:Nat) (h:k ≤ 1048576):Knb (k:Int)=some ():=by
 unfold Knb
 have e:wr ((k:Int) - wr (0 - 0))=(k:Int):=by rw [Ko2 (x:=0 - 0) (by decide) (by decide),Ko2 (by omega) (by omega)]; omega
 rw [decide_eq_false (by omega),if_neg (by decide),e]
 by_cases hk:k=0
 ·subst hk; rfl
 ·rw [decide_eq_true (by omega),if_pos rfl,Int.toNat_natCast,Ku0 (by constructor <;> omega),bs]
theorem Kwl (ps:List (List (List Int))) (hp:ps.length ≤ 1048576) (h:ps.flatten.length ≤ 1048576):Kne ps=some ps.flatten:=by
 unfold Kne
 have h0:=Kwi ps (by omega) ps 0 0 rfl (by omega)
 rw [Nat.zero_add] at h0
 rw [show (0:Int)=((0:Nat):Int) from rfl,h0,bs,Kwk _ h,bs,Kwj ps (by omega) ps 0 [] rfl (by rw [List.length_nil]; omega)]
 rfl
def TyS (s:K02) (ty:List Int):Prop:=yN s.fSize true ty=true
theorem Kwm {s:K02} {ty:List Int} (h:TyS s ty):ty.length ≤ 40:=by
 unfold TyS yN at h
 rw [Bool.and_eq_true] at h
 exact Kra h.1
theorem Kwn {s:K02} {ty:List Int} (h:TyS s ty):∃ T:Ty,T.ok∧ty=T.code∧T.code.length ≤ 40∧T.code.all (Kpy s.fSize true)=true:=by
 have hl:=Kwm h
 unfold TyS yN at h
 rw [Bool.and_eq_true] at h
 obtain ⟨T,h1,rfl,_⟩:=Ks2 h.1
 exact ⟨T,h1,rfl,hl,h.2⟩
theorem Kwo {s:K02} {T:Ty} (h:T.ok) (hl:T.code.length ≤ 40) (hc:T.code.all (Kpy s.fSize true)=true):TyS s T.code:=by
 unfold TyS yN
 rw [Ks3 h hl,hc]; rfl
structure Kwp (s:K02) (c:Int) (a b:List Int):Prop where
 ya:TyS s a
 yb:TyS s b
 p0:Kcz (c :: (a ++ b),0)=some a
 p1:Kcz (c :: (a ++ b),1)=some b
 pp:Kn3 (c :: (a ++ b))=some [a,b]
structure Kwq (s:K02) (c:Int) (a:List Int):Prop where
 ya:TyS s a
 p0:Kcz (c :: a,0)=some a
 pp:Kn3 (c :: a)=some [a]
theorem Kwr {s:K02} {c:Int} (hc:c=35∨c=36):Kpy s.fSize true c=false:=by
 rcases hc with rfl | rfl
 ·unfold Kpy Kpx
  rw [show Kpc 35=2 from rfl]; simp
 ·unfold Kpy Kpx
  rw [show Kpc 36=1 from rfl]; simp
theorem Kws {s:K02}:TyS s [0]:=Kwo (T:=.num) trivial (by decide) (by
 show (Kpy s.fSize true 0 && true)=true
 unfold Kpy
 rw [show Kpc 0=0 from rfl]; simp)
section
variable {s:K02} {n:Nat} (hs:Kvd s n)
include hs
theorem Kwt {c:Int} (hc:3 ≤ c∧c ≤ 18):Kpy s.fSize true c=true ↔ c - 3 < (n:Int):=by
 have hk:Kpc c=2:=by rcases Kpg c with h | h | h | h <;> omega
 unfold Kpy Kpx
 rw [hk,hs.tab.size,if_neg (by omega),if_neg (by omega)]
 simp
 omega
theorem Kwu {c:Int} (hc:19 ≤ c∧c ≤ 34):Kpy s.fSize true c=true ↔ c - 19 < (n:Int):=by
 have hk:Kpc c=1:=by rcases Kpg c with h | h | h | h <;> omega
 unfold Kpy Kpx
 rw [hk,hs.tab.size,if_neg (by omega),if_pos (by omega)]
 simp
 omega
theorem Kwv {ty:List Int} (h:TyS s ty):ty=[0]∨(∃ a b,ty=1 :: (a ++ b)∧Kwp s 1 a b)∨(∃ a b,ty=2 :: (a ++ b)∧Kwp s 2 a b) ∨
  (∃ (g:Nat) (a b:List Int),g < n∧g ≤ 15∧ty=(3 + (g:Int)) :: (a ++ b)∧Kwp s (3 + (g:Int)) a b)∨(∃ (g:Nat) (a:List Int),g < n∧g ≤ 15∧ty=(19 + (g:Int)) :: a∧Kwq s (19 + (g:Int)) a):=by
 obtain ⟨T,hT,rfl,hl,hc⟩:=Kwn h
 cases T with
 | num=>exact .inl rfl
 | bin c a b =>
  have B:=Kty hT (by omega)
  have hl':=hl
  rw [Ty.code,List.length_cons,List.length_append] at hl'
  rw [Ty.code,List.all_cons,List.all_append,Bool.and_eq_true,Bool.and_eq_true] at hc
  have hP:Kwp s c a.code b.code:=⟨Kwo B.ok.1 (by omega) hc.2.1,Kwo B.ok.2 (by omega) hc.2.2,B.p0,B.p1,B.pp⟩
  have hk:=hT.1
  rcases Kpg c with ⟨q,e⟩ | ⟨q,e⟩ | ⟨q,e⟩ | ⟨q,e⟩
  ·rw [e] at hk; exact absurd hk (by decide)
  ·rcases q with rfl | rfl | q | rfl
   ·exact .inr (.inl ⟨_,_,rfl,hP⟩)
   ·exact .inr (.inr (.inl ⟨_,_,rfl,hP⟩))
   ·have:=(Kwt hs q).1 hc.1
    obtain ⟨g,hg⟩:∃ g:Nat,c=3 + (g:Int):=⟨(c - 3).toNat,by omega⟩
    subst hg
    exact .inr (.inr (.inr (.inl ⟨g,_,_,by omega,by omega,rfl,hP⟩)))
   ·rw [Kwr (s:=s) (.inl rfl)] at hc; exact absurd hc.1 (by decide)
  ·rw [e] at hk; exact absurd hk (by decide)
  ·rw [e] at hk; exact absurd hk (by decide)
 | un c a =>
  have B:=unP hT (by omega)
  have hl':=hl
  rw [Ty.code,List.length_cons] at hl'
  rw [Ty.code,List.all_cons,Bool.and_eq_true] at hc
  have hP:Kwq s c a.code:=⟨Kwo B.ok (by omega) hc.2,B.p0,B.pp⟩
  have hk:=hT.1
  rcases Kpg c with ⟨q,e⟩ | ⟨q,e⟩ | ⟨q,e⟩ | ⟨q,e⟩
  ·rw [e] at hk; exact absurd hk (by decide)
  ·rw [e] at hk; exact absurd hk (by decide)
  ·rcases q with q | rfl
   ·have:=(Kwu hs q).1 hc.1
    obtain ⟨g,hg⟩:∃ g:Nat,c=19 + (g:Int):=⟨(c - 19).toNat,by omega⟩
    subst hg
    exact .inr (.inr (.inr (.inr ⟨g,_,by omega,by omega,rfl,hP⟩)))
   ·rw [Kwr (s:=s) (.inr rfl)] at hc; exact absurd hc.1 (by decide)
  ·rw [e] at hk; exact absurd hk (by decide)
theorem Kww {c:Int} {a b:List Int} (ha:TyS s a) (hb:TyS s b) (hc:c=1∨c=2∨∃ g:Nat,g < n∧c=3 + (g:Int)) (hl:(c :: (a ++ b)).length ≤ 40):TyS s (c :: (a ++ b)):=by
 obtain ⟨A,hA,rfl,_,hAc⟩:=Kwn ha
 obtain ⟨B,hB,rfl,_,hBc⟩:=Kwn hb
 have hn:=hs.tab.hi
 have hk:Kpc c=2∧Kpy s.fSize true c=true:=by
  rcases hc with rfl | rfl | ⟨g,hg,rfl⟩
  ·exact ⟨rfl,by unfold Kpy; rw [show Kpc 1=2 from rfl]; simp⟩
  ·exact ⟨rfl,by unfold Kpy; rw [show Kpc 2=2 from rfl]; simp⟩
  ·refine ⟨by rcases Kpg (3 + (g:Int)) with h | h | h | h <;> omega,(Kwt hs (by omega)).2 (by omega)⟩
 have:TyS s (Ty.bin c A B).code:=Kwo ⟨hk.1,hA,hB⟩ hl (by rw [Ty.code,List.all_cons,List.all_append,hk.2,hAc,hBc]; rfl)
 exact this
theorem Kwx {g:Nat} (hg:g < n) {a:List Int} (ha:TyS s a) (hl:((19 + (g:Int)) :: a).length ≤ 40):TyS s ((19 + (g:Int)) :: a):=by
 obtain ⟨A,hA,rfl,_,hAc⟩:=Kwn ha
 have hn:=hs.tab.hi
 have hk:Kpc (19 + (g:Int))=1:=by rcases Kpg (19 + (g:Int)) with h | h | h | h <;> omega
 have:TyS s (Ty.un (19 + (g:Int)) A).code:=Kwo ⟨hk,hA⟩ hl (by rw [Ty.code,List.all_cons,(Kwu hs (by omega)).2 (by omega),hAc]; rfl)
 exact this
theorem Kwy {x:Int} (h:gN s.fSize true x=true):∃ g:Nat,x=(g:Int)∧g < n:=by
 unfold gN at h
 rw [hs.tab.size] at h
 simp at h
 exact ⟨x.toNat,by omega,by omega⟩
end
structure Kwz (s:K02) (n:Nat) (k:K00) (m:Nat):Prop where
 ok:tOk (gN s.fSize true) (yN s.fSize true) n k=true
 sz:tsz k + 1 ≤ m
theorem nd1 {s:K02} {n m:Nat} {op N:Int} {ty:List Int} {ks:List K00} (h:tOk (gN s.fSize true) (yN s.fSize true) n ⟨op,N,ty,ks⟩=true) (hm:tsz ⟨op,N,ty,ks⟩ ≤ m) (hk:Kqe op=1):∃ a,ks=[a]∧Kwz s (n + Kqo op 0) a m:=by
 obtain ⟨h1,h2⟩:=Krb h
 obtain ⟨a,rfl⟩:=Kuc (l:=ks) (beq_iff_eq.2 (by rw [← hk]; exact (Kre h1).2))
 simp only at h2
 rw [Kua,Bool.and_eq_true] at h2
 rw [Kv1] at hm
 exact ⟨a,rfl,h2.1,by omega⟩
theorem nd2 {s:K02} {n m:Nat} {op N:Int} {ty:List Int} {ks:List K00} (h:tOk (gN s.fSize true) (yN s.fSize true) n ⟨op,N,ty,ks⟩=true) (hm:tsz ⟨op,N,ty,ks⟩ ≤ m) (hk:Kqe op=2):∃ a b,ks=[a,b]∧Kwz s (n + Kqo op 0) a m∧Kwz s (n + Kqo op 1) b m:=by
 obtain ⟨h1,h2⟩:=Krb h
 obtain ⟨a,b,rfl⟩:=Kud (l:=ks) (beq_iff_eq.2 (by rw [← hk]; exact (Kre h1).2))
 simp only at h2
 rw [Kua,Kua,Bool.and_eq_true,Bool.and_eq_true] at h2
 rw [Kv2] at hm
 exact ⟨a,b,rfl,⟨h2.1,by omega⟩,⟨h2.2.1,by omega⟩⟩
theorem nd3 {s:K02} {n m:Nat} {op N:Int} {ty:List Int} {ks:List K00} (h:tOk (gN s.fSize true) (yN s.fSize true) n ⟨op,N,ty,ks⟩=true) (hm:tsz ⟨op,N,ty,ks⟩ ≤ m) (hk:Kqe op=3):∃ a b c,ks=[a,b,c]∧Kwz s (n + Kqo op 0) a m∧Kwz s (n + Kqo op 1) b m∧Kwz s (n + Kqo op 2) c m:=by
 obtain ⟨h1,h2⟩:=Krb h
 obtain ⟨a,b,c,rfl⟩:=Kv4 (l:=ks) (by rw [← hk]; exact (Kre h1).2)
 simp only at h2
 rw [Kua,Kua,Kua,Bool.and_eq_true,Bool.and_eq_true,Bool.and_eq_true] at h2
 rw [Kv3] at hm
 exact ⟨a,b,c,rfl,⟨h2.1,by omega⟩,⟨h2.2.1,by omega⟩,⟨h2.2.2.1,by omega⟩⟩
theorem Kx0 {s:K02} {n:Nat} {t:K00} (h:tOk (gN s.fSize true) (yN s.fSize true) n t=true) (hg:Kqf t.fOp=true):gN s.fSize true t.fN=true:=by
 have h1:=(Krb h).1
 unfold Kqu Kqs at h1
 simp only [Bool.and_eq_true] at h1
 have h2:=h1.1.2
 have hop:(t.fOp == 0)=false∧(t.fOp == 1)=false:=by
  simp only [Kqf,Bool.or_eq_true,beq_iff_eq] at hg
  constructor <;> rw [beq_eq_false_iff_ne] <;> omega
 rw [hop.1,hop.2,hg] at h2
 simpa using h2
theorem Kx1 {s:K02} {n:Nat} {t:K00} (h:tOk (gN s.fSize true) (yN s.fSize true) n t=true) (hg:Kqg t.fOp=true):TyS s t.fType:=by
 have h1:=(Krb h).1
 unfold Kqu Kqt at h1
 simp only [Bool.and_eq_true] at h1
 have h2:=h1.2
 rw [hg] at h2
 show yN s.fSize true t.fType=true
 simpa using h2
theorem Kx2 {s:K02} {n:Nat} {t:K00} (h:tOk (gN s.fSize true) (yN s.fSize true) n t=true) (hg:t.fOp=0):∃ i:Nat,t.fN=(i:Int)∧i < n∧t.fKids=[]:=by
 have h1:=(Krb h).1
 have hl:=(Kre h1).2
 unfold Kqu Kqs at h1
 simp only [Bool.and_eq_true] at h1
 have h2:=h1.1.2
 rw [hg] at h2 hl
 simp [inB] at h2
 refine ⟨t.fN.toNat,by omega,by omega,?_⟩
 have:(t.fKids.length:Int)=0:=hl
 exact List.eq_nil_of_length_eq_zero (by omega)
theorem Kx3 {s:K02} {n:Nat} {t:K00} (h:tOk (gN s.fSize true) (yN s.fSize true) n t=true) (hg:t.fOp=1):t.fKids=[]:=by
 have h1:=(Krb h).1
 have hl:=(Kre h1).2
 rw [hg] at hl
 have:(t.fKids.length:Int)=0:=hl
 exact List.eq_nil_of_length_eq_zero (by omega)
def Kx4 (t:K00) (out:List Kn8) (w:Nat):Option (List (List Int)) :=
 (if (decide ((w:Int) > 0))=true then some (true) else some ((t.fOp == 9))) >>= fun v =>
 if v=true then
  (if (decide ((w:Int) > 0))=true then (idx out 0) >>= fun e=>some (e.fty) else some ([])) >>= fun first=>(Kna (t,(w:Int),first)) >>= fun r=>some (r)
 else some ([])
def Kx5 (p0:Kn9) (ctx:List (List Int)) (t:K00) (out:List Kn8) (needs used:List (List Int)) (w:Nat) (more:List (List Int)) (y:Kn8):Option (((List Kn8) × (List (List Int)) × (List (List Int))) ⊕ (Kn8)) :=
 if (y.ffault != 0)=true then
  (Qdw ([(w:Int)].length + y.fpath.length) 8) >>= fun _=>some (.inr (Kn8.mk [] [] [] y.ffault ([(w:Int)] ++ y.fpath)))
 else
  (Knf (p0,t,(w:Int),y.fty)) >>= fun f =>
  if (f != 0)=true then some (.inr (Kn8.mk [] [] [] f []))
  else
   (if (t.fOp == 10)=true then
    if ((w:Int) == 1)=true then
     (idx out 0) >>= fun e=>(Kn3 e.fty) >>= fun r=>(idx r 0) >>= fun q=>(Klx (y.fty,q)) >>= fun b=>some ((!b))
    else some (false)
   else some (false)) >>= fun v =>
   if v=true then some (.inr (Kn8.mk [] [] [] 3 []))
   else
    (Qdw (out.length + [y].length) 8) >>= fun _ =>
    (cut y.fneeds none (some (more.length:Int)) none) >>= fun c1 =>
    (Qdw (used.length + [c1].length) 24) >>= fun _ =>
    (cut y.fneeds (some (more.length:Int)) none none) >>= fun c2 =>
    (Qdw (needs.length + [c2].length) 24) >>= fun _ =>
    Ko1 (p0,ctx,t,(out ++ [y]),(needs ++ [c2]),(used ++ [c1]),(wr ((w:Int) + 1)))
theorem Kx6 {p0:Kn9} {ctx:List (List Int)} {t:K00} {out:List Kn8} {needs used:List (List Int)} {w:Nat} {k:K00} {more:List (List Int)} {y:Kn8} (hw:w < t.fKids.length) (hk:idx t.fKids (w:Int)=some k) (hm:Kx4 t out w=some more)
  (hc:ctx.length + more.length ≤ 1000000) (hy:Ko0 (p0,more ++ ctx,k)=some y):Ko1 (p0,ctx,t,out,needs,used,(w:Int))=Kx5 p0 ctx t out needs used w more y:=by
 rw [Ko1.eq_def]
 simp only
 rw [Ko5 hw,if_pos rfl,hk,bs]
 have key:∀ {β:Type} (R:List (List Int)→Option β),((if (decide ((w:Int) > 0))=true then some (true) else some ((t.fOp == 9))) >>= fun v =>
   (if v=true then (if (decide ((w:Int) > 0))=true then (idx out 0) >>= fun e=>some (e.fty) else some ([])) >>= fun first=>(Kna (t,(w:Int),first)) >>= fun r=>some (r) else some ([])) >>= R)=(Kx4 t out w >>= R):=fun R=>by
  unfold Kx4
  simp only [Option.bind_eq_bind,Option.bind_assoc]
 refine (key _).trans ?_
 rw [hm,bs,Kwl [more,ctx] (by simp) (by simp; omega),bs]
 simp only [List.flatten_cons,List.flatten_nil,List.append_nil]
 rw [hy,bs]
 rfl
theorem Kx7 {p0:Kn9} {ctx:List (List Int)} {t:K00} {out:List Kn8} {needs used:List (List Int)} {w:Nat} (hw:t.fKids.length ≤ w):Ko1 (p0,ctx,t,out,needs,used,(w:Int))=some (.inl (out,needs,used)):=by
 rw [Ko1.eq_def]
 simp only
 rw [Ko6 hw]; rfl
theorem Kx8 {α:Type} {l:List α} {m:Nat} (h:m ≤ l.length):cut l none (some (m:Int)) none=some (l.take m):=by
 unfold cut
 simp only [Option.getD_none,Option.getD_some,Int.toNat_natCast,Int.toNat_zero,List.drop_zero]
 rw [if_pos (by omega)]
theorem Kx9 {α:Type} {l:List α} {m:Nat} (h:m ≤ l.length):cut l (some (m:Int)) none none=some (l.drop m):=by
 unfold cut
 simp only [Option.getD_none,Option.getD_some,Int.toNat_natCast]
 rw [if_pos (by omega),List.take_length]
def Kxa (t:K00) (out:List Kn8) (w:Nat) (y:Kn8):Option Bool :=
 if (t.fOp == 10)=true then
  if ((w:Int) == 1)=true then
   (idx out 0) >>= fun e=>(Kn3 e.fty) >>= fun r=>(idx r 0) >>= fun q=>(Klx (y.fty,q)) >>= fun b=>some ((!b))
  else some (false)
 else some (false)
section
variable {p0:Kn9} {ctx:List (List Int)} {t:K00} {out:List Kn8} {needs used:List (List Int)} {w:Nat} {more:List (List Int)} {y:Kn8}
theorem Kxb (h:y.ffault ≠ 0) (hp:y.fpath.length ≤ 1000000):Kx5 p0 ctx t out needs used w more y=some (.inr ⟨[],[],[],y.ffault,(w:Int) :: y.fpath⟩):=by
 unfold Kx5
 rw [if_pos (bne_iff_ne.2 h),Krd (by simp; omega),bs]
 rfl
theorem Kxc {f:Int} (h:y.ffault=0) (hf:Knf (p0,t,(w:Int),y.fty)=some f) (hf0:f ≠ 0):Kx5 p0 ctx t out needs used w more y=some (.inr ⟨[],[],[],f,[]⟩):=by
 unfold Kx5
 rw [if_neg (by simp [h]),hf,bs,if_pos (bne_iff_ne.2 hf0)]
theorem Kxd (h:y.ffault=0) (hf:Knf (p0,t,(w:Int),y.fty)=some 0) (ha:Kxa t out w y=some true):Kx5 p0 ctx t out needs used w more y=some (.inr ⟨[],[],[],3,[]⟩):=by
 unfold Kx5
 rw [if_neg (by simp [h]),hf,bs,if_neg (by simp)]
 refine (congrArg (· >>= _) (show _=some true from ha)).trans ?_
 rw [bs,if_pos rfl]
theorem Kxe {ns:List Nat} (h:y.ffault=0) (hf:Knf (p0,t,(w:Int),y.fty)=some 0) (ha:Kxa t out w y=some false) (hn:y.fneeds=Kv8 ns) (hl:more.length ≤ ns.length)
  (h1:out.length ≤ 1000000) (h2:needs.length ≤ 1000000) (h3:used.length ≤ 1000000) (h4:w ≤ 1000000) :
  Kx5 p0 ctx t out needs used w more y=Ko1 (p0,ctx,t,(out ++ [y]),(needs ++ [Kv8 (ns.drop more.length)]),(used ++ [Kv8 (ns.take more.length)]),((w + 1:Nat):Int)):=by
 unfold Kx5
 rw [if_neg (by simp [h]),hf,bs,if_neg (by simp)]
 refine (congrArg (· >>= _) (show _=some false from ha)).trans ?_
 rw [bs,if_neg (by simp),Krd (by simp; omega),bs,hn,Kx8 (by rw [Kv9]; exact hl),bs,Krd (by simp; omega),bs,Kx9 (by rw [Kv9]; exact hl),bs,Krd (by simp; omega),bs,Ko4 (by omega),Kvb,Kva]
theorem Kxf {r:Kn8} (hc:ctx.length ≤ 1000000) (h:Ko1 (p0,ctx,t,[],[],[],((0:Nat):Int))=some (.inr r)):Ko0 (p0,ctx,t)=some r:=by
 rw [Ko0.eq_def]
 simp only
 rw [Ku0 (by simp; omega),bs,show (0:Int)=((0:Nat):Int) from rfl,h]
 rfl
theorem Kxg {o:List Kn8} {nd us:List (List Int)} {f:Int} {g:Kn8} (hc:ctx.length ≤ 1000000) (h:Ko1 (p0,ctx,t,[],[],[],((0:Nat):Int))=some (.inl (o,nd,us)))
  (hf:Knz (p0,⟨[],Kv8 (List.replicate ctx.length 0),o,0,[]⟩,ctx,t,nd,us)=some (f,g)) (hg:g.fpath=[]:=by rfl):Ko0 (p0,ctx,t)=some (if f=0 then ⟨g.fty,g.fneeds,g.fkids,0,g.fpath⟩ else ⟨[],[],[],f,[]⟩):=by
 have e:Kv8 (List.replicate ctx.length 0)=List.replicate (Int.toNat (ctx.length:Int)) (0:Int):=by
  unfold Kv8; rw [List.map_replicate,Int.toNat_natCast]; rfl
 rw [e] at hf
 rw [Ko0.eq_def]
 simp only
 rw [Ku0 (by simp; omega),bs,show Ko1 (p0,ctx,t,[],[],[],0)=some (.inl (o,nd,us)) from h,bs]
 simp only
 rw [hf,bs]
 simp only
 by_cases hz:f=0
 ·subst hz; first | (rw [if_neg (by simp),if_pos rfl]; done) | rw [if_neg (by simp),if_pos rfl,hg]
 ·rw [if_pos (bne_iff_ne.2 hz),if_neg hz]
theorem Kxh (h:t.fOp ≠ 10):Kxa t out w y=some false:=by
 unfold Kxa
 rw [if_neg (by simpa using h)]
theorem Kxi (h:w ≠ 1):Kxa t out w y=some false:=by
 unfold Kxa
 have:((w:Int) == 1)=false:=by rw [beq_eq_false_iff_ne]; omega
 rw [this]
 simp
end
section
variable {s:K02} {n:Nat} (hs:Kvd s n) {N:Int} {ty:List Int} {ks:List K00} {w:Nat} {c:Int} {r:List Int}
theorem Kxj {op:Int} (h:(op=4∨op=6∨op=7∨op=9∨op=11)∨(w ≠ 0∧(op=3∨op=5∨op=8∨op=10∨op=12))):Knf (⟨s⟩,⟨op,N,ty,ks⟩,(w:Int),c :: r)=some 0:=by
 have hw:∀ hw:w ≠ 0,((w:Int) == 0)=false:=fun hw=>by rw [beq_eq_false_iff_ne]; omega
 unfold Knf
 rcases h with (rfl | rfl | rfl | rfl | rfl) | ⟨h0,(rfl | rfl | rfl | rfl | rfl)⟩
 all_goals first | simp [Ksz,Kpi,hw h0] | (by_cases h0:w=0 <;> simp [Ksz,Kpi,h0])
theorem Kxk:Knf (⟨s⟩,⟨2,N,ty,ks⟩,(w:Int),c :: r)=some (if (Kph c).1=0 then 0 else 2):=by
 unfold Knf
 by_cases h:(Kph c).1=0 <;> simp [Ksz,Kpi,h]
theorem Kxl:Knf (⟨s⟩,⟨3,N,ty,ks⟩,((0:Nat):Int),c :: r)=some (if (Kph c).1=0 then 0 else 2):=by
 unfold Knf
 by_cases h:(Kph c).1=0 <;> simp [Ksz,Kpi,h]
theorem Kxm:Knf (⟨s⟩,⟨10,N,ty,ks⟩,((0:Nat):Int),c :: r)=some (if (Kph c).1=3 then 0 else 6):=by
 unfold Knf
 by_cases h:(Kph c).1=3 <;> simp [Ksz,Kpi,h]
include hs
theorem Kxn {g:Nat} (hg:g < n):Knf (⟨s⟩,⟨5,(g:Int),ty,ks⟩,((0:Nat):Int),c :: r)=some (if (Kph c).1=1 then (if le s n 1 g then 0 else 8) else 4):=by
 have hl:=iLe hs.tab (Kvf hs) hg
 unfold Knf
 by_cases h:(Kph c).1=1 <;> cases hle:le s n 1 g <;> simp [Ksz,Kpi,h,show Kmk (s,1,(g:Int))=some (le s n 1 g) from hl,hle]
theorem Kxo {g:Nat} (hg:g < n):Knf (⟨s⟩,⟨8,(g:Int),ty,ks⟩,((0:Nat):Int),c :: r)=some (if (Kph c).1=2 then (if le s n 1 g then 0 else 8) else 5):=by
 have hl:=iLe hs.tab (Kvf hs) hg
 unfold Knf
 by_cases h:(Kph c).1=2 <;> cases hle:le s n 1 g <;> simp [Ksz,Kpi,h,show Kmk (s,1,(g:Int))=some (le s n 1 g) from hl,hle]
theorem Kxp {g:Nat} (hg:g < n):Knf (⟨s⟩,⟨12,(g:Int),ty,ks⟩,((0:Nat):Int),c :: r)=some (if (Kph c).1=4 then (if le s n 1 g then 0 else 8) else 7):=by
 have hl:=iLe hs.tab (Kvf hs) hg
 unfold Knf
 by_cases h:(Kph c).1=4 <;> cases hle:le s n 1 g <;> simp [Ksz,Kpi,h,show Kmk (s,1,(g:Int))=some (le s n 1 g) from hl,hle]
end
def Kxq (ty:List Int) (ns:List Nat) (kids:List Kn8):Int × Kn8:=(if ty.length > 40 then 3 else 0,⟨ty,Kv8 ns,kids,0,[]⟩)
theorem Kxr {α:Type} (x:α) (l:List α):idx (x :: l) 0=some x:=rfl
theorem Kxs {α:Type} (x y:α) (l:List α):idx (x :: y :: l) 1=some y:=rfl
theorem Kxt {α:Type} (x y z:α) (l:List α):idx (x :: y :: z :: l) 2=some z:=rfl
section
variable {s:K02} {n:Nat} (hs:Kvd s n) {N:Int} {ty:List Int} {ks:List K00} {ctx us:List (List Int)} {z:List Int} {y0 y1 y2:Kn8} {a b d:List Nat}
theorem Kxu {i:Nat} {q:List Int} {zs:List Nat} (hi:ctx[i]?=some q) (hz:i < zs.length) (hq:q.length ≤ 40):Knz (⟨s⟩,⟨[],Kv8 zs,[],0,[]⟩,ctx,⟨0,(i:Int),ty,ks⟩,[],[])=some (Kxq q (zs.set i 1) []):=by
 obtain ⟨h1,h2⟩:=List.getElem?_eq_some_iff.1 hi
 have e1:idx ctx (i:Int)=some q:=by rw [Ko3 h1,h2]
 have e2:idx (Kv8 zs) (i:Int)=some ((zs[i]:Nat):Int):=by rw [Ko3 (by rw [Kv9]; exact hz)]; simp [Kv8]
 have e3:List.set (Kv8 zs) i 1=Kv8 (zs.set i 1):=by unfold Kv8; rw [List.map_set]; rfl
 have h40:¬ ((q.length:Int) > 40):=by omega
 unfold Knz Kny Kxq
 simp [e1,e2,e3,Krh q (by omega),show ¬ (40 < (q.length:Int)) by omega,show ¬ (40 < q.length) by omega]
theorem Kxv {zs:List Nat}:Knz (⟨s⟩,⟨[],Kv8 zs,[],0,[]⟩,ctx,⟨1,N,ty,ks⟩,[],[])=some (Kxq [0] zs []):=by
 unfold Knz Kny Kxq
 simp
theorem Kxw (hy:y0.fty.length ≤ 1000) (ht:ty.length ≤ 1000):Knz (⟨s⟩,⟨[],z,[y0],0,[]⟩,ctx,⟨6,N,ty,ks⟩,[Kv8 a],us)=some (Kxq (2 :: (y0.fty ++ ty)) a [y0]):=by
 have hc:=Kwh [[2],y0.fty,ty] (by simp) (by simp; omega)
 unfold Knz Kny Kxq Knj
 simp only [List.flatten_cons,List.flatten_nil,List.append_nil,List.singleton_append,List.cons_append,List.nil_append] at hc
 simp [Kxr,Kxs,hc]
 split <;> rename_i q40
 ·rw [if_pos (by omega)]
 ·rw [if_neg (by omega)]
theorem Kxx (hy:y0.fty.length ≤ 1000) (ht:ty.length ≤ 1000):Knz (⟨s⟩,⟨[],z,[y0],0,[]⟩,ctx,⟨7,N,ty,ks⟩,[Kv8 a],us)=some (Kxq (2 :: (ty ++ y0.fty)) a [y0]):=by
 have hc:=Kwh [[2],ty,y0.fty] (by simp) (by simp; omega)
 unfold Knz Kny Kxq Knj
 simp only [List.flatten_cons,List.flatten_nil,List.append_nil,List.singleton_append,List.cons_append,List.nil_append] at hc
 simp [Kxr,Kxs,hc]
 split <;> rename_i q40
 ·rw [if_pos (by omega)]
 ·rw [if_neg (by omega)]
include hs
theorem Kxy (ha:Kvo n a) (hb:Kvo n b) (hl:a.length ≤ 1000000) (hab:a.length=b.length):Knz (⟨s⟩,⟨[],z,[y0,y1],0,[]⟩,ctx,⟨2,N,ty,ks⟩,[Kv8 a,Kv8 b],us)=some (Kxq [0] (Kvl s n a b) [y0,y1]):=by
 have h:=Kw3 hs a b ha hb (by omega) hab
 unfold Knz Kny Kxq
 simp [Kxr,Kxs,h]
theorem Kxz (ha:Kvo n a) (hb:Kvo n b) (hd:Kvo n d) (hl:a.length ≤ 1000000) (hab:a.length=b.length) (had:a.length=d.length) (h2:y2.fty.length ≤ 1000) (h1:y1.fty.length ≤ 40) :
  Knz (⟨s⟩,⟨[],z,[y0,y1,y2],0,[]⟩,ctx,⟨3,N,ty,ks⟩,[Kv8 a,Kv8 b,Kv8 d],us)=some (if y1.fty=y2.fty then Kxq y1.fty (Kvl s n a (Kvn s n b d)) [y0,y1,y2] else (3,⟨[],z,[y0,y1,y2],0,[]⟩)):=by
 have hj:=Kw5 hs b d hb hd (by omega) (by omega)
 have hlj:(Kvn s n b d).length=a.length:=by unfold Kvn; rw [List.length_zipWith]; omega
 have h:=Kw3 hs a (Kvn s n b d) ha (Kvt hs hb hd) (by omega) hlj.symm
 have he:=Ku7 y1.fty y2.fty (by omega)
 unfold Knz Kny Kxq Knj
 by_cases hq:y1.fty=y2.fty
 ·rw [show (y1.fty == y2.fty)=true from beq_iff_eq.2 hq] at he
  rw [if_pos hq]
  simp [Kxr,Kxs,Kxt,he,hj,h,show ¬ (40 < (y1.fty.length:Int)) by omega,show ¬ (40 < y1.fty.length) by omega]
 ·rw [show (y1.fty == y2.fty)=false from beq_eq_false_iff_ne.2 hq] at he
  rw [if_neg hq]
  simp [Kxr,Kxs,Kxt,he]
theorem Ky0 (ha:Kvo n a) (hb:Kvo n b) (hl:a.length ≤ 1000000) (hab:a.length=b.length) (h0:y0.fty.length ≤ 1000) (h1:y1.fty.length ≤ 1000) :
  Knz (⟨s⟩,⟨[],z,[y0,y1],0,[]⟩,ctx,⟨4,N,ty,ks⟩,[Kv8 a,Kv8 b],us)=some (Kxq (1 :: (y0.fty ++ y1.fty)) (Kvl s n a b) [y0,y1]):=by
 have h:=Kw3 hs a b ha hb (by omega) hab
 have hc:=Kwh [[1],y0.fty,y1.fty] (by simp) (by simp; omega)
 unfold Knz Kny Kxq Knj
 simp only [List.flatten_cons,List.flatten_nil,List.append_nil,List.singleton_append,List.cons_append,List.nil_append] at hc
 simp [Kxr,Kxs,hc,h]
 split <;> rename_i q40
 ·rw [if_pos (by omega)]
 ·rw [if_neg (by omega)]
theorem Ky1 {g:Nat} (hg:g < n) {u:List Nat} (hu:Kvo n u) (hul:u.length ≤ 1000000) (hy:y0.fty.length ≤ 1000) (ht:ty.length ≤ 1000) :
  Knz (⟨s⟩,⟨[],z,[y0],0,[]⟩,ctx,⟨9,(g:Int),ty,ks⟩,[Kv8 a],[Kv8 u])=some (if (u.all fun x=>le s n x g)=true then Kxq ((3 + (g:Int)) :: (ty ++ y0.fty)) a [y0] else (9,⟨[],z,[y0],0,[]⟩)):=by
 have hn:=hs.tab.hi
 have e:=Kw9 hs g hg u hu (by omega)
 have hw:wr (3 + (g:Int))=3 + (g:Int):=Ko2 (by omega) (by omega)
 have hc:=Kwh [[3 + (g:Int)],ty,y0.fty] (by simp) (by simp; omega)
 unfold Knz Kny Kxq Knj
 simp only [List.flatten_cons,List.flatten_nil,List.append_nil,List.singleton_append,List.cons_append,List.nil_append] at hc
 cases hq:(u.all fun x=>le s n x g) with
 | true =>
  rw [hq] at e
  simp [Kxr,Kxs,e,hc,hw]
  split <;> rename_i q40
  ·rw [if_pos (by omega)]
  ·rw [if_neg (by omega)]
 | false =>
  rw [hq] at e
  simp [Kxr,Kxs,e]
theorem Ky2 {g:Nat} (hg:g < n) (ha:Kvo n a) (hl:a.length ≤ 1000000) (hy:y0.fty.length ≤ 1000) :
  Knz (⟨s⟩,⟨[],z,[y0],0,[]⟩,ctx,⟨11,(g:Int),ty,ks⟩,[Kv8 a],us)=some (Kxq ((19 + (g:Int)) :: y0.fty) (Kvm s n g a) [y0]):=by
 have hn:=hs.tab.hi
 have e:=Kw7 hs g hg a ha (by omega)
 have hw:wr (19 + (g:Int))=19 + (g:Int):=Ko2 (by omega) (by omega)
 have hc:=Kwh [[19 + (g:Int)],y0.fty] (by simp) (by simp; omega)
 unfold Knz Kny Kxq Knj
 simp only [List.flatten_cons,List.flatten_nil,List.append_nil,List.singleton_append,List.cons_append,List.nil_append] at hc
 simp [Kxr,Kxs,hc,hw,e]
 split <;> rename_i q40
 ·rw [if_pos (by omega)]
 ·rw [if_neg (by omega)]
theorem Ky3 {g:Nat} (hg:g < n) {p q:List Int} (hty:y0.fty=(3 + (g:Int)) :: (p ++ q)) (hP:Kwp s (3 + (g:Int)) p q) (ha:Kvo n a) (hb:Kvo n b) (hl:a.length ≤ 1000000) (hab:a.length=b.length) :
  Knz (⟨s⟩,⟨[],z,[y0,y1],0,[]⟩,ctx,⟨10,N,ty,ks⟩,[Kv8 a,Kv8 b],us)=some (Kxq q (Kvl s n a (Kvm s n g b)) [y0,y1]):=by
 have hn:=hs.tab.hi
 have e:=Kw7 hs g hg b hb (by omega)
 have hlj:(Kvm s n g b).length=a.length:=by unfold Kvm; rw [List.length_map]; omega
 have h:=Kw3 hs a (Kvm s n g b) ha (Kvs hs hg hb) (by omega) hlj.symm
 have hsh:Kph (3 + (g:Int))=(3,(g:Int)):=by
  rcases Kpj (3 + (g:Int)) with h | h | h | h | h | h | h | h <;> first | omega | (obtain ⟨_,e⟩:=h; rw [e]; congr 1; omega)
 have hq:=Kwm hP.yb
 have pp:=hP.pp
 rw [← hty] at pp
 have i0:idx y0.fty 0=some (3 + (g:Int)):=by rw [hty]; rfl
 unfold Knz Kny Kxq Knj
 simp [Kxr,Kxs,i0,Kpi,hsh,pp,e,h,show ¬ (40 < (q.length:Int)) by omega,show ¬ (40 < q.length) by omega]
theorem Ky4 {g:Nat} (hg:g < n) {u:List Nat} {us':List Int} (hu:Kvo n u) (hul:u.length ≤ 1000000) (ha:Kvo n a) (hb:Kvo n b) (hl:a.length ≤ 1000000) (hab:a.length=b.length) (h1:y1.fty.length ≤ 40) :
  Knz (⟨s⟩,⟨[],z,[y0,y1],0,[]⟩,ctx,⟨5,(g:Int),ty,ks⟩,[Kv8 a,Kv8 b],[us',Kv8 u])=some (if (u.all fun x=>le s n x g)=true then Kxq y1.fty (Kvl s n (Kvm s n g a) b) [y0,y1] else (9,⟨[],z,[y0,y1],0,[]⟩)):=by
 have e:=Kw9 hs g hg u hu (by omega)
 have e2:=Kw7 hs g hg a ha (by omega)
 have hlj:(Kvm s n g a).length=a.length:=by unfold Kvm; rw [List.length_map]
 have h:=Kw3 hs (Kvm s n g a) b (Kvs hs hg ha) hb (by omega) (by omega)
 unfold Knz Kny Kxq Knj
 cases hq:(u.all fun x=>le s n x g) with
 | true =>
  rw [hq] at e
  simp [Kxr,Kxs,e,e2,h,show ¬ (40 < (y1.fty.length:Int)) by omega,show ¬ (40 < y1.fty.length) by omega]
 | false =>
  rw [hq] at e
  simp [Kxr,Kxs,e]
theorem Ky5 {g m:Nat} (hg:g < n) (hm:m < n) {p:List Int} (hty:y0.fty=(19 + (m:Int)) :: p) {u:List Nat} {us':List Int} (hu:Kvo n u) (hul:u.length ≤ 1000000) (ha:Kvo n a) (hb:Kvo n b) (hl:a.length ≤ 1000000) (hab:a.length=b.length) (h1:y1.fty.length ≤ 40) :
  Knz (⟨s⟩,⟨[],z,[y0,y1],0,[]⟩,ctx,⟨12,(g:Int),ty,ks⟩,[Kv8 a,Kv8 b],[us',Kv8 u])=some (if (u.all fun x=>le s n x (ti s n g m))=true then Kxq y1.fty (Kvl s n (Kvm s n g a) b) [y0,y1] else (9,⟨[],z,[y0,y1],0,[]⟩)):=by
 have hn:=hs.tab.hi
 have e0:=Koi hs.tab hg hm
 have e:=Kw9 hs (ti s n g m) (Kob hs.tab hg hm) u hu (by omega)
 have e2:=Kw7 hs g hg a ha (by omega)
 have hlj:(Kvm s n g a).length=a.length:=by unfold Kvm; rw [List.length_map]
 have h:=Kw3 hs (Kvm s n g a) b (Kvs hs hg ha) hb (by omega) (by omega)
 have hsh:Kph (19 + (m:Int))=(4,(m:Int)):=by
  rcases Kpj (19 + (m:Int)) with h | h | h | h | h | h | h | h <;> first | omega | (obtain ⟨_,e⟩:=h; rw [e]; congr 1; omega)
 have i0:idx y0.fty 0=some (19 + (m:Int)):=by rw [hty]; rfl
 unfold Knz Kny Kxq Knj
 cases hq:(u.all fun x=>le s n x (ti s n g m)) with
 | true =>
  rw [hq] at e
  simp [Kxr,Kxs,i0,Kpi,hsh,e0,e,e2,h,show ¬ (40 < (y1.fty.length:Int)) by omega,show ¬ (40 < y1.fty.length) by omega]
 | false =>
  rw [hq] at e
  simp [Kxr,Kxs,i0,Kpi,hsh,e0,e]
theorem Ky6 {g:Nat} (hg:g < n) {u v:List Nat} {us':List Int} (hu:Kvo n u) (hul:u.length ≤ 1000000) (hv:Kvo n v) (hvl:v.length ≤ 1000000) (ha:Kvo n a) (hb:Kvo n b) (hd:Kvo n d) (hl:a.length ≤ 1000000) (hab:a.length=b.length) (had:a.length=d.length) (h2:y2.fty.length ≤ 1000) (h1:y1.fty.length ≤ 40) :
  Knz (⟨s⟩,⟨[],z,[y0,y1,y2],0,[]⟩,ctx,⟨8,(g:Int),ty,ks⟩,[Kv8 a,Kv8 b,Kv8 d],[us',Kv8 u,Kv8 v]) =
   some (if y1.fty=y2.fty then (if (u.all fun x=>le s n x g)=true∧(v.all fun x=>le s n x g)=true then Kxq y1.fty (Kvl s n (Kvm s n g a) (Kvn s n b d)) [y0,y1,y2] else (9,⟨[],z,[y0,y1,y2],0,[]⟩)) else (3,⟨[],z,[y0,y1,y2],0,[]⟩)):=by
 have e:=Kw9 hs g hg u hu (by omega)
 have e':=Kw9 hs g hg v hv (by omega)
 have e2:=Kw7 hs g hg a ha (by omega)
 have hj:=Kw5 hs b d hb hd (by omega) (by omega)
 have hlj:(Kvn s n b d).length=a.length:=by unfold Kvn; rw [List.length_zipWith]; omega
 have hls:(Kvm s n g a).length=a.length:=by unfold Kvm; rw [List.length_map]
 have h:=Kw3 hs (Kvm s n g a) (Kvn s n b d) (Kvs hs hg ha) (Kvt hs hb hd) (by omega) (by omega)
 have he:=Ku7 y1.fty y2.fty (by omega)
 unfold Knz Kny Kxq Knj
 by_cases hq:y1.fty=y2.fty
 ·rw [show (y1.fty == y2.fty)=true from beq_iff_eq.2 hq] at he
  rw [if_pos hq]
  cases hu':(u.all fun x=>le s n x g) with
  | false =>
   rw [hu'] at e
   simp [Kxr,Kxs,Kxt,he,e]
  | true =>
   rw [hu'] at e
   cases hv':(v.all fun x=>le s n x g) with
   | false =>
    rw [hv'] at e'
    simp [Kxr,Kxs,Kxt,he,e,e']
   | true =>
    rw [hv'] at e'
    simp [Kxr,Kxs,Kxt,he,e,e',e2,hj,h,show ¬ (40 < (y1.fty.length:Int)) by omega,show ¬ (40 < y1.fty.length) by omega]
 ·rw [show (y1.fty == y2.fty)=false from beq_eq_false_iff_ne.2 hq] at he
  rw [if_neg hq]
  simp [Kxr,Kxs,Kxt,he]
end
def Ky7 (t:K00) (i:Nat) (kids:List Kn8):List (List Int):=(Kna (t,(i:Int),(match kids with | []=>[] | y :: _=>y.fty))).getD []
structure Ky8 (s:K02) (ctx:List (List Int)) (t:K00) (kids:List Kn8) (i:Nat) (k:K00) (y:Kn8):Prop where
 im:Ko0 (⟨s⟩,Ky7 t i kids ++ ctx,k)=some y
 fa:y.ffault=0
 ty:∀ q ∈ Ky7 t i kids,TyS s q
 ln:(Ky7 t i kids).length=Kqo t.fOp i
structure Ky9 (s:K02) (n:Nat) (ctx:List (List Int)) (t:K00) (x:K03) (y:Kn8):Prop where
 sp:Ke1 (s,ctx,t)=some x
 im:Ko0 (⟨s⟩,ctx,t)=some y
 ty:y.fty=x.fty
 ne:y.fneeds=x.fneeds
 fa:y.ffault=x.ffault
 pa:y.fpath=x.fpath
 pl:x.fpath.length + 1 ≤ tsz t
 bd:x.ffault ≠ 0→x.fty=[]∧x.fneeds=[]
 gd:x.ffault=0→TyS s x.fty∧x.fpath=[]∧∃ ns:List Nat,x.fneeds=Kv8 ns∧ns.length=ctx.length∧Kvo n ns
 kd:x.ffault=0→y.fkids.length=t.fKids.length∧∀ (i:Nat) (k:K00),t.fKids[i]?=some k→∃ yk,y.fkids[i]?=some yk∧Ky8 s ctx t y.fkids i k yk
section
variable {s:K02} {n:Nat} {ctx:List (List Int)} {t:K00}
theorem Ky9.bad {f:Int} {p:List Int} (sp:Ke1 (s,ctx,t)=some ⟨[],[],f,p⟩) (im:Ko0 (⟨s⟩,ctx,t)=some ⟨[],[],[],f,p⟩) (hf:f ≠ 0) (hp:p.length + 1 ≤ tsz t):∃ x y,Ky9 s n ctx t x y :=
 ⟨_,_,{ sp:=sp,im:=im,ty:=rfl,ne:=rfl,fa:=rfl,pa:=rfl,pl:=hp,bd:=fun _=>⟨rfl,rfl⟩,gd:=fun h=>absurd h hf,kd:=fun h=>absurd h hf }⟩
theorem Ky9.good {q:List Int} {ns:List Nat} {kids:List Kn8} (sp:Ke1 (s,ctx,t)=some ⟨q,Kv8 ns,0,[]⟩) (im:Ko0 (⟨s⟩,ctx,t)=some ⟨q,Kv8 ns,kids,0,[]⟩) (hp:1 ≤ tsz t) (hq:TyS s q) (hl:ns.length=ctx.length) (hb:Kvo n ns)
  (kl:kids.length=t.fKids.length) (kd:∀ (i:Nat) (k:K00),t.fKids[i]?=some k→∃ yk,kids[i]?=some yk∧Ky8 s ctx t kids i k yk):∃ x y,Ky9 s n ctx t x y :=
 ⟨_,_,{ sp:=sp,im:=im,ty:=rfl,ne:=rfl,fa:=rfl,pa:=rfl,pl:=by simpa using hp,bd:=fun h=>absurd rfl h,gd:=fun _=>⟨hq,rfl,ns,rfl,hl,hb⟩,kd:=fun _=>⟨kl,kd⟩ }⟩
theorem Ky9.done {q:List Int} {ns:List Nat} {kids:List Kn8} (sp:Ke1 (s,ctx,t)=Kdl (q,Kv8 ns)) (im:Ko0 (⟨s⟩,ctx,t)=some (if (Kxq q ns kids).1=0 then ⟨(Kxq q ns kids).2.fty,(Kxq q ns kids).2.fneeds,(Kxq q ns kids).2.fkids,0,(Kxq q ns kids).2.fpath⟩ else ⟨[],[],[],(Kxq q ns kids).1,[]⟩)) (hp:1 ≤ tsz t)
  (hq:q.length ≤ 40→TyS s q) (hl:ns.length=ctx.length) (hb:Kvo n ns) (kl:kids.length=t.fKids.length) (kd:∀ (i:Nat) (k:K00),t.fKids[i]?=some k→∃ yk,kids[i]?=some yk∧Ky8 s ctx t kids i k yk):∃ x y,Ky9 s n ctx t x y:=by
 unfold Kdl Kdb at sp
 simp only at sp
 unfold Kxq at im
 by_cases h:q.length > 40
 ·rw [decide_eq_true (by omega),if_pos rfl,bs] at sp
  rw [if_pos h,if_neg (by simp)] at im
  exact Ky9.bad sp im (by decide) (by simpa using hp)
 ·rw [decide_eq_false (by omega),if_neg (by decide)] at sp
  rw [if_neg h,if_pos rfl] at im
  exact Ky9.good sp im hp (hq (by omega)) hl hb kl kd
theorem Kya {i:Nat} {k:K00} {x:K03} {y:Kn8} {c:List (List Int)} (hk:t.fKids[i]?=some k) (h:Ky9 s n c k x y) (hf:x.ffault=0):Ke3 (s,c,t,(i:Int))=some x:=by
 obtain ⟨h1,h2⟩:=List.getElem?_eq_some_iff.1 hk
 rw [Ke3.eq_def]
 simp only
 rw [Ko3 h1,h2,bs,h.sp,bs,if_neg (by simp [hf]),bs]
theorem Kyb {i:Nat} {k:K00} {x:K03} {y:Kn8} {c:List (List Int)} (hk:t.fKids[i]?=some k) (h:Ky9 s n c k x y) (hz:tsz k ≤ 1000000) (hf:x.ffault ≠ 0):Ke3 (s,c,t,(i:Int))=some ⟨[],[],x.ffault,(i:Int) :: x.fpath⟩:=by
 obtain ⟨h1,h2⟩:=List.getElem?_eq_some_iff.1 hk
 have hp:=h.pl
 obtain ⟨q1,q2⟩:=h.bd hf
 rw [Ke3.eq_def]
 simp only
 rw [Ko3 h1,h2,bs,h.sp,bs,if_pos (bne_iff_ne.2 hf),Krd (by simp; omega),bs,bs,q1,q2]
 rfl
variable {out:List Kn8} {nd us:List (List Int)} {w:Nat} {k:K00} {m:List (List Int)} {x:K03} {y:Kn8}
theorem Kyc (hk:t.fKids[w]?=some k) (hm:Kx4 t out w=some m) (r:Ky9 s n (m ++ ctx) k x y) (hz:tsz k ≤ 1000000) (hc:ctx.length + m.length ≤ 1000000) (hf:x.ffault ≠ 0) :
  Ko1 (⟨s⟩,ctx,t,out,nd,us,(w:Int))=some (.inr ⟨[],[],[],x.ffault,(w:Int) :: x.fpath⟩):=by
 obtain ⟨h1,h2⟩:=List.getElem?_eq_some_iff.1 hk
 have hp:=r.pl
 rw [Kx6 h1 (by rw [Ko3 h1,h2]) hm hc r.im,Kxb (by rw [r.fa]; exact hf) (by rw [r.pa]; omega),r.fa,r.pa]
theorem Kyd {f:Int} (hk:t.fKids[w]?=some k) (hm:Kx4 t out w=some m) (r:Ky9 s n (m ++ ctx) k x y) (hc:ctx.length + m.length ≤ 1000000) (hf:x.ffault=0) (h:Knf (⟨s⟩,t,(w:Int),x.fty)=some f) (hf0:f ≠ 0) :
  Ko1 (⟨s⟩,ctx,t,out,nd,us,(w:Int))=some (.inr ⟨[],[],[],f,[]⟩):=by
 obtain ⟨h1,h2⟩:=List.getElem?_eq_some_iff.1 hk
 rw [Kx6 h1 (by rw [Ko3 h1,h2]) hm hc r.im,Kxc (by rw [r.fa]; exact hf) (by rw [r.ty]; exact h) hf0]
theorem Kye (hk:t.fKids[w]?=some k) (hm:Kx4 t out w=some m) (r:Ky9 s n (m ++ ctx) k x y) (hc:ctx.length + m.length ≤ 1000000) (hf:x.ffault=0) (h:Knf (⟨s⟩,t,(w:Int),x.fty)=some 0) (ha:Kxa t out w y=some true) :
  Ko1 (⟨s⟩,ctx,t,out,nd,us,(w:Int))=some (.inr ⟨[],[],[],3,[]⟩):=by
 obtain ⟨h1,h2⟩:=List.getElem?_eq_some_iff.1 hk
 rw [Kx6 h1 (by rw [Ko3 h1,h2]) hm hc r.im,Kxd (by rw [r.fa]; exact hf) (by rw [r.ty]; exact h) ha]
theorem Kyf {ns:List Nat} (hk:t.fKids[w]?=some k) (hm:Kx4 t out w=some m) (r:Ky9 s n (m ++ ctx) k x y) (hc:ctx.length + m.length ≤ 1000000) (hf:x.ffault=0) (h:Knf (⟨s⟩,t,(w:Int),x.fty)=some 0) (ha:Kxa t out w y=some false)
  (hn:x.fneeds=Kv8 ns) (hl:m.length ≤ ns.length) (h1':out.length ≤ 1000000) (h2':nd.length ≤ 1000000) (h3':us.length ≤ 1000000) (h4':w ≤ 1000000) :
  Ko1 (⟨s⟩,ctx,t,out,nd,us,(w:Int))=Ko1 (⟨s⟩,ctx,t,(out ++ [y]),(nd ++ [Kv8 (ns.drop m.length)]),(us ++ [Kv8 (ns.take m.length)]),((w + 1:Nat):Int)):=by
 obtain ⟨h1,h2⟩:=List.getElem?_eq_some_iff.1 hk
 rw [Kx6 h1 (by rw [Ko3 h1,h2]) hm hc r.im,Kxe (by rw [r.fa]; exact hf) (by rw [r.ty]; exact h) ha (by rw [r.ne]; exact hn) hl h1' h2' h3' h4']
end
theorem Kyg {op N:Int} {ty:List Int} {ks:List K00} {i:Nat} {q:List Int} (h9:op ≠ 9) (h:Kqo op (i:Int)=0):Kna (⟨op,N,ty,ks⟩,(i:Int),q)=some []:=by
 unfold Kna
 simp only
 rw [if_neg (by simpa using h9),Kqr,bs,h]
 rfl
theorem Kyh {N:Int} {ty:List Int} {ks:List K00} {i:Nat} {q:List Int}:Kna (⟨9,N,ty,ks⟩,(i:Int),q)=some [ty]:=by
 unfold Kna
 simp only
 rw [if_pos (by decide)]
theorem Kyi {s:K02} {N:Int} {ty:List Int} {ks:List K00} {p q:List Int} (h:Kwp s 1 p q):Kna (⟨5,N,ty,ks⟩,((1:Nat):Int),1 :: (p ++ q))=some [q,p]:=by
 unfold Kna
 simp only
 rw [if_neg (by decide),Kqr,bs,show Kqo 5 ((1:Nat):Int)=2 from rfl,if_neg (by decide),h.pp,bs,if_pos (by decide)]
 rfl
theorem Kyj {s:K02} {N:Int} {ty:List Int} {ks:List K00} {p q:List Int} (h:Kwp s 2 p q):Kna (⟨8,N,ty,ks⟩,((1:Nat):Int),2 :: (p ++ q))=some [p]:=by
 unfold Kna
 simp only
 rw [if_neg (by decide),Kqr,bs,show Kqo 8 ((1:Nat):Int)=1 from rfl,if_neg (by decide),h.pp,bs,if_neg (by decide),if_pos (by decide)]
 rfl
theorem Kyk {s:K02} {N:Int} {ty:List Int} {ks:List K00} {p q:List Int} (h:Kwp s 2 p q):Kna (⟨8,N,ty,ks⟩,((2:Nat):Int),2 :: (p ++ q))=some [q]:=by
 unfold Kna
 simp only
 rw [if_neg (by decide),Kqr,bs,show Kqo 8 ((2:Nat):Int)=1 from rfl,if_neg (by decide),h.pp,bs,if_neg (by decide),if_pos (by decide)]
 rfl
theorem Kyl {s:K02} {N c:Int} {ty:List Int} {ks:List K00} {p:List Int} (h:Kwq s c p):Kna (⟨12,N,ty,ks⟩,((1:Nat):Int),c :: p)=some [p]:=by
 unfold Kna
 simp only
 rw [if_neg (by decide),Kqr,bs,show Kqo 12 ((1:Nat):Int)=1 from rfl,if_neg (by decide),h.pp,bs,if_neg (by decide),if_neg (by decide)]
theorem Kym {op N:Int} {ty:List Int} {ks:List K00} (h9:op ≠ 9):Kx4 ⟨op,N,ty,ks⟩ [] 0=some []:=by
 unfold Kx4
 simp [h9]
theorem Kyn {N:Int} {ty:List Int} {ks:List K00}:Kx4 ⟨9,N,ty,ks⟩ [] 0=some [ty]:=by
 unfold Kx4
 have:=@Kyh N ty ks 0 []
 simp at this ⊢
 rw [this]
theorem Kyo {t:K00} {w:Nat} {y0:Kn8} {l:List Kn8} {m:List (List Int)} (hw:0 < w) (h:Kna (t,(w:Int),y0.fty)=some m):Kx4 t (y0 :: l) w=some m:=by
 unfold Kx4
 rw [show decide ((w:Int) > 0)=true from decide_eq_true (by omega),if_pos rfl,bs,if_pos rfl,if_pos rfl,Kxr,bs,bs,h,bs]
theorem Kyp {t:K00} {i:Nat} {y0:Kn8} {l:List Kn8} {m:List (List Int)} (h:Kna (t,(i:Int),y0.fty)=some m):Ky7 t i (y0 :: l)=m:=by
 unfold Ky7
 simp only
 rw [h]; rfl
theorem kd1 {s:K02} {ctx:List (List Int)} {op N:Int} {ty:List Int} {k0:K00} {y0:Kn8} (h0:Ky8 s ctx ⟨op,N,ty,[k0]⟩ [y0] 0 k0 y0) :
  ∀ (i:Nat) (k:K00),(⟨op,N,ty,[k0]⟩:K00).fKids[i]?=some k→∃ yk,[y0][i]?=some yk∧Ky8 s ctx ⟨op,N,ty,[k0]⟩ [y0] i k yk:=by
 intro i k hk
 match i,hk with
 | 0,hk=>cases hk; exact ⟨y0,rfl,h0⟩
 | i + 1,hk=>simp at hk
theorem kd2 {s:K02} {ctx:List (List Int)} {op N:Int} {ty:List Int} {k0 k1:K00} {y0 y1:Kn8} (h0:Ky8 s ctx ⟨op,N,ty,[k0,k1]⟩ [y0,y1] 0 k0 y0) (h1:Ky8 s ctx ⟨op,N,ty,[k0,k1]⟩ [y0,y1] 1 k1 y1) :
  ∀ (i:Nat) (k:K00),(⟨op,N,ty,[k0,k1]⟩:K00).fKids[i]?=some k→∃ yk,[y0,y1][i]?=some yk∧Ky8 s ctx ⟨op,N,ty,[k0,k1]⟩ [y0,y1] i k yk:=by
 intro i k hk
 match i,hk with
 | 0,hk=>cases hk; exact ⟨y0,rfl,h0⟩
 | 1,hk=>cases hk; exact ⟨y1,rfl,h1⟩
 | i + 2,hk=>simp at hk
theorem kd3 {s:K02} {ctx:List (List Int)} {op N:Int} {ty:List Int} {k0 k1 k2:K00} {y0 y1 y2:Kn8} (h0:Ky8 s ctx ⟨op,N,ty,[k0,k1,k2]⟩ [y0,y1,y2] 0 k0 y0) (h1:Ky8 s ctx ⟨op,N,ty,[k0,k1,k2]⟩ [y0,y1,y2] 1 k1 y1) (h2:Ky8 s ctx ⟨op,N,ty,[k0,k1,k2]⟩ [y0,y1,y2] 2 k2 y2) :
  ∀ (i:Nat) (k:K00),(⟨op,N,ty,[k0,k1,k2]⟩:K00).fKids[i]?=some k→∃ yk,[y0,y1,y2][i]?=some yk∧Ky8 s ctx ⟨op,N,ty,[k0,k1,k2]⟩ [y0,y1,y2] i k yk:=by
 intro i k hk
 match i,hk with
 | 0,hk=>cases hk; exact ⟨y0,rfl,h0⟩
 | 1,hk=>cases hk; exact ⟨y1,rfl,h1⟩
 | 2,hk=>cases hk; exact ⟨y2,rfl,h2⟩
 | i + 3,hk=>simp at hk
theorem Ky8.mk' {s:K02} {n:Nat} {ctx m:List (List Int)} {t k:K00} {y0:Kn8} {l:List Kn8} {i:Nat} {x:K03} {y:Kn8} (ha:Kna (t,(i:Int),y0.fty)=some m) (r:Ky9 s n (m ++ ctx) k x y) (hf:x.ffault=0) (hm:∀ q ∈ m,TyS s q) (hl:m.length=Kqo t.fOp i):Ky8 s ctx t (y0 :: l) i k y:=by
 have e:=Kyp (l:=l) ha
 exact ⟨by rw [e]; exact r.im,by rw [r.fa]; exact hf,by rw [e]; exact hm,by rw [e]; exact hl⟩
def Kyq (s:K02) (n sz:Nat):Prop:=∀ (k:K00) (c:List (List Int)),Kwz s c.length k sz→(∀ q ∈ c,TyS s q)→c.length + 2 * tsz k ≤ 1000000→∃ x y,Ky9 s n c k x y
theorem Kyr {X:Option Kn8} {q:List Int} {ns:List Nat} {kids:List Kn8} (h:q.length ≤ 40) (im:X=some (if (Kxq q ns kids).1=0 then (⟨(Kxq q ns kids).2.fty,(Kxq q ns kids).2.fneeds,(Kxq q ns kids).2.fkids,0,(Kxq q ns kids).2.fpath⟩:Kn8) else ⟨[],[],[],(Kxq q ns kids).1,[]⟩)):X=some ⟨q,Kv8 ns,kids,0,[]⟩:=by
 rw [im]
 unfold Kxq
 simp only
 rw [show (if q.length > 40 then (3:Int) else 0)=0 from if_neg (by omega),if_pos rfl]
section
variable {s:K02} {n:Nat} (hs:Kvd s n) {ctx:List (List Int)} {N:Int} {ty:List Int} {ks:List K00}
theorem Kys {op:Int} {k0:K00} {l:List K00} {x0:K03} {y0:Kn8} (h0:op ≠ 0) (h1:op ≠ 1) (h9:op ≠ 9) (hb:ctx.length + 2 * tsz (⟨op,N,ty,k0 :: l⟩:K00) ≤ 1000000) (r0:Ky9 s n ctx k0 x0 y0) (f0:x0.ffault ≠ 0) :
  ∃ x y,Ky9 s n ctx ⟨op,N,ty,k0 :: l⟩ x y:=by
 have hz:tsz k0 + 1 ≤ tsz (⟨op,N,ty,k0 :: l⟩:K00):=by rw [tsz,Kq4]; omega
 have e0:Ke3 (s,ctx,⟨op,N,ty,k0 :: l⟩,0)=some ⟨[],[],x0.ffault,0 :: x0.fpath⟩:=Kyb (i:=0) rfl r0 (by omega) f0
 refine Ky9.bad (f:=x0.ffault) (p:=0 :: x0.fpath) ?_ (Kxf (by omega) (Kyc (m:=[]) rfl (Kym h9) r0 (by omega) (by simp; omega) f0)) f0 (by have:=r0.pl; simp; omega)
 rw [Ke1.eq_def]
 simp [h0,h1,h9,e0,f0]
include hs
theorem Kyt {t:K00} (ht:t.fOp=0) (h:tOk (gN s.fSize true) (yN s.fSize true) ctx.length t=true) (hc:∀ q ∈ ctx,TyS s q) (hb:ctx.length + 2 * tsz t ≤ 1000000):∃ x y,Ky9 s n ctx t x y:=by
 obtain ⟨i,hi,hl,hk⟩:=Kx2 h ht
 obtain ⟨op,N,ty,ks⟩:=t
 simp only at ht hi hk
 subst ht; subst hi; subst hk
 have hq:ctx[i]?=some ctx[i]:=List.getElem?_eq_getElem hl
 have hy:=hc ctx[i] (List.getElem_mem hl)
 have e1:idx ctx (i:Int)=some ctx[i]:=Ko3 hl
 have hz:=Kwa ctx.length (by omega)
 have e2:idx (Kv8 (List.replicate ctx.length 0)) (i:Int)=some (((List.replicate ctx.length (0:Nat))[i]'(by simpa using hl):Nat):Int):=by
  rw [Ko3 (by rw [Kv9]; simpa using hl)]; simp [Kv8]
 have e3:List.set (Kv8 (List.replicate ctx.length 0)) i 1=Kv8 ((List.replicate ctx.length 0).set i 1):=by unfold Kv8; rw [List.map_set]; rfl
 have hf:=Kxu (s:=s) (ty:=ty) (ks:=[]) (zs:=List.replicate ctx.length 0) hq (by simpa using hl) (Kwm hy)
 have im:=Kxg (p0:=⟨s⟩) (t:=⟨0,(i:Int),ty,[]⟩) (by omega) (Kx7 (Nat.le_refl _)) hf
 refine Ky9.good (q:=ctx[i]) (ns:=(List.replicate ctx.length 0).set i 1) (kids:=[]) ?_ ?_ (by rw [tsz]; omega) hy (by simp) ?_ rfl (fun i k hk=>by simp at hk)
 ·rw [Ke1.eq_def]
  simp [hz,e1,e2,Krg ctx[i] (by have:=Kwm hy; omega),e3]
 ·exact Kyr (Kwm hy) im
 ·intro x hx
  have h1:=Kvf hs
  rcases List.mem_or_eq_of_mem_set hx with h | rfl
  ·rw [List.eq_of_mem_replicate h]; omega
  ·exact h1
theorem Kyu {t:K00} (ht:t.fOp=1) (h:tOk (gN s.fSize true) (yN s.fSize true) ctx.length t=true) (hb:ctx.length + 2 * tsz t ≤ 1000000):∃ x y,Ky9 s n ctx t x y:=by
 have hk:=Kx3 h ht
 obtain ⟨op,N,ty,ks⟩:=t
 simp only at ht hk
 subst ht; subst hk
 have hz:=Kwa ctx.length (by omega)
 have hf:=Kxv (s:=s) (N:=N) (ty:=ty) (ks:=[]) (ctx:=ctx) (zs:=List.replicate ctx.length 0)
 have im:=Kxg (p0:=⟨s⟩) (t:=⟨1,N,ty,[]⟩) (by omega) (Kx7 (Nat.le_refl _)) hf
 refine Ky9.good (q:=[0]) (ns:=List.replicate ctx.length 0) (kids:=[]) ?_ ?_ (by rw [tsz]; omega) Kws (by simp) ?_ rfl (fun i k hk=>by simp at hk)
 ·rw [Ke1.eq_def]
  simp [hz]
 ·exact Kyr (by decide) im
 ·intro x hx
  rw [List.eq_of_mem_replicate hx]
  exact Kvg hs
theorem Kyv {q:List Int} (hq:TyS s q):∃ c r,q=c :: r∧((Kph c).1=0 ↔ c=0)∧(c=0→q=[0]):=by
 rcases Kwv hs hq with rfl | ⟨a,b,rfl,_⟩ | ⟨a,b,rfl,_⟩ | ⟨g,a,b,hg,h15,rfl,_⟩ | ⟨g,a,hg,h15,rfl,_⟩
 ·exact ⟨0,[],rfl,by decide,fun _=>rfl⟩
 ·exact ⟨1,_,rfl,by decide,fun h=>absurd h (by decide)⟩
 ·exact ⟨2,_,rfl,by decide,fun h=>absurd h (by decide)⟩
 ·refine ⟨_,_,rfl,?_,fun h=>by omega⟩
  rcases Kpj (3 + (g:Int)) with h | h | h | h | h | h | h | h <;> first | omega | (obtain ⟨_,e⟩:=h; rw [e]; simp; omega)
 ·refine ⟨_,_,rfl,?_,fun h=>by omega⟩
  rcases Kpj (19 + (g:Int)) with h | h | h | h | h | h | h | h <;> first | omega | (obtain ⟨_,e⟩:=h; rw [e]; simp; omega)
theorem Kyw (ih:Kyq s n (tsz (⟨6,N,ty,ks⟩:K00))) (h:tOk (gN s.fSize true) (yN s.fSize true) ctx.length ⟨6,N,ty,ks⟩=true) (hc:∀ q ∈ ctx,TyS s q) (hb:ctx.length + 2 * tsz (⟨6,N,ty,ks⟩:K00) ≤ 1000000):∃ x y,Ky9 s n ctx ⟨6,N,ty,ks⟩ x y:=by
 obtain ⟨k0,rfl,p0⟩:=nd1 h (Nat.le_refl _) rfl
 have hz:=Kv1 6 N ty k0
 have hy:TyS s ty:=Kx1 h rfl
 have ly:=Kwm hy
 obtain ⟨x0,y0,r0⟩:=ih k0 ctx p0 hc (by omega)
 by_cases f0:x0.ffault=0
 rotate_left
 ·exact Kys (by decide) (by decide) (by decide) hb r0 f0
 obtain ⟨g0,q0,a,na,la,ba⟩:=r0.gd f0
 obtain ⟨c0,t0,ht0,hn0,hz0⟩:=Kyv hs g0
 have L0:=Kwm g0
 have e0:Ke3 (s,ctx,⟨6,N,ty,[k0]⟩,0)=some x0:=Kya (i:=0) rfl r0 f0
 have o0:=Kyf (out:=[]) (nd:=[]) (us:=[]) (w:=0) (t:=⟨6,N,ty,[k0]⟩) (m:=[]) rfl (Kym (by decide)) r0 (by simp; omega) f0 (by rw [ht0]; exact Kxj (.inl (by decide))) (Kxh (show (6:Int) ≠ 10 by decide)) na (by simp <;> omega) (by simp) (by simp) (by simp) (by simp)
 have hf:=Kxw (s:=s) (N:=N) (ty:=ty) (ks:=[k0]) (ctx:=ctx) (us:=[Kv8 []]) (z:=Kv8 (List.replicate ctx.length 0)) (y0:=y0) (a:=a) (by rw [r0.ty]; omega) (by omega)
 have im:=Kxg (p0:=⟨s⟩) (t:=⟨6,N,ty,[k0]⟩) (ctx:=ctx) (by omega) (o0.trans (Kx7 (Nat.le_refl _))) hf
 rw [r0.ty] at im
 refine Ky9.done (q:=2 :: (x0.fty ++ ty)) (ns:=a) (kids:=[y0]) ?_ im (by omega) (fun hl=>Kww hs g0 hy (.inr (.inl rfl)) hl) la ba rfl (kd1 (Ky8.mk' (Kyg (by decide) rfl) r0 f0 (fun _ h=>by cases h) rfl))
 have hg:=Kwd 2 [x0.fty,ty] (by simp) (by simp; omega)
 simp only [List.flatten_cons,List.flatten_nil,List.append_nil] at hg
 rw [Ke1.eq_def]
 simp [e0,f0,hg,na]
theorem Kyx (ih:Kyq s n (tsz (⟨7,N,ty,ks⟩:K00))) (h:tOk (gN s.fSize true) (yN s.fSize true) ctx.length ⟨7,N,ty,ks⟩=true) (hc:∀ q ∈ ctx,TyS s q) (hb:ctx.length + 2 * tsz (⟨7,N,ty,ks⟩:K00) ≤ 1000000):∃ x y,Ky9 s n ctx ⟨7,N,ty,ks⟩ x y:=by
 obtain ⟨k0,rfl,p0⟩:=nd1 h (Nat.le_refl _) rfl
 have hz:=Kv1 7 N ty k0
 have hy:TyS s ty:=Kx1 h rfl
 have ly:=Kwm hy
 obtain ⟨x0,y0,r0⟩:=ih k0 ctx p0 hc (by omega)
 by_cases f0:x0.ffault=0
 rotate_left
 ·exact Kys (by decide) (by decide) (by decide) hb r0 f0
 obtain ⟨g0,q0,a,na,la,ba⟩:=r0.gd f0
 obtain ⟨c0,t0,ht0,hn0,hz0⟩:=Kyv hs g0
 have L0:=Kwm g0
 have e0:Ke3 (s,ctx,⟨7,N,ty,[k0]⟩,0)=some x0:=Kya (i:=0) rfl r0 f0
 have o0:=Kyf (out:=[]) (nd:=[]) (us:=[]) (w:=0) (t:=⟨7,N,ty,[k0]⟩) (m:=[]) rfl (Kym (by decide)) r0 (by simp; omega) f0 (by rw [ht0]; exact Kxj (.inl (by decide))) (Kxh (show (7:Int) ≠ 10 by decide)) na (by simp <;> omega) (by simp) (by simp) (by simp) (by simp)
 have hf:=Kxx (s:=s) (N:=N) (ty:=ty) (ks:=[k0]) (ctx:=ctx) (us:=[Kv8 []]) (z:=Kv8 (List.replicate ctx.length 0)) (y0:=y0) (a:=a) (by rw [r0.ty]; omega) (by omega)
 have im:=Kxg (p0:=⟨s⟩) (t:=⟨7,N,ty,[k0]⟩) (ctx:=ctx) (by omega) (o0.trans (Kx7 (Nat.le_refl _))) hf
 rw [r0.ty] at im
 refine Ky9.done (q:=2 :: (ty ++ x0.fty)) (ns:=a) (kids:=[y0]) ?_ im (by omega) (fun hl=>Kww hs hy g0 (.inr (.inl rfl)) hl) la ba rfl (kd1 (Ky8.mk' (Kyg (by decide) rfl) r0 f0 (fun _ h=>by cases h) rfl))
 have hg:=Kwd 2 [ty,x0.fty] (by simp) (by simp; omega)
 simp only [List.flatten_cons,List.flatten_nil,List.append_nil] at hg
 rw [Ke1.eq_def]
 simp [e0,f0,hg,na]
theorem Kyy (ih:Kyq s n (tsz (⟨11,N,ty,ks⟩:K00))) (h:tOk (gN s.fSize true) (yN s.fSize true) ctx.length ⟨11,N,ty,ks⟩=true) (hc:∀ q ∈ ctx,TyS s q) (hb:ctx.length + 2 * tsz (⟨11,N,ty,ks⟩:K00) ≤ 1000000):∃ x y,Ky9 s n ctx ⟨11,N,ty,ks⟩ x y:=by
 obtain ⟨k0,rfl,p0⟩:=nd1 h (Nat.le_refl _) rfl
 have hz:=Kv1 11 N ty k0
 obtain ⟨g,hN,hg'⟩:=Kwy hs (Kx0 h rfl)
 simp only at hN
 subst hN
 obtain ⟨x0,y0,r0⟩:=ih k0 ctx p0 hc (by omega)
 by_cases f0:x0.ffault=0
 rotate_left
 ·exact Kys (by decide) (by decide) (by decide) hb r0 f0
 obtain ⟨g0,q0,a,na,la,ba⟩:=r0.gd f0
 obtain ⟨c0,t0,ht0,hn0,hz0⟩:=Kyv hs g0
 have L0:=Kwm g0
 have e0:Ke3 (s,ctx,⟨11,(g:Int),ty,[k0]⟩,0)=some x0:=Kya (i:=0) rfl r0 f0
 have o0:=Kyf (out:=[]) (nd:=[]) (us:=[]) (w:=0) (t:=⟨11,(g:Int),ty,[k0]⟩) (m:=[]) rfl (Kym (by decide)) r0 (by simp; omega) f0 (by rw [ht0]; exact Kxj (.inl (by decide))) (Kxh (show (11:Int) ≠ 10 by decide)) na (by simp <;> omega) (by simp) (by simp) (by simp) (by simp)
 have hf:=Ky2 (ty:=ty) (ks:=[k0]) (ctx:=ctx) (us:=[Kv8 []]) (z:=Kv8 (List.replicate ctx.length 0)) (y0:=y0) (a:=a) hs hg' ba (by omega) (by rw [r0.ty]; omega)
 have im:=Kxg (p0:=⟨s⟩) (t:=⟨11,(g:Int),ty,[k0]⟩) (ctx:=ctx) (by omega) (o0.trans (Kx7 (Nat.le_refl _))) hf
 rw [r0.ty] at im
 have hn:=hs.tab.hi
 refine Ky9.done (q:=(19 + (g:Int)) :: x0.fty) (ns:=Kvm s n g a) (kids:=[y0]) ?_ im (by omega) (fun hl=>Kwx hs hg' g0 hl) (by unfold Kvm; rw [List.length_map]; exact la) (Kvs hs hg' ba) rfl (kd1 (Ky8.mk' (Kyg (by decide) rfl) r0 f0 (fun _ h=>by cases h) rfl))
 have hg:=Kwd (19 + (g:Int)) [x0.fty] (by simp) (by simp; omega)
 simp only [List.flatten_cons,List.flatten_nil,List.append_nil] at hg
 have hsc:=Kvs hs hg' ba
 have hz0:=Kvv hs hsc
 rw [show (Kvm s n g a).length=ctx.length by unfold Kvm; rw [List.length_map]; exact la] at hz0
 have hsum:=Kvx hs g hg' (List.replicate ctx.length 0) a (fun x hx=>by rw [List.eq_of_mem_replicate hx]; exact Kvg hs) ba (by simp; omega) (by simp [la])
 rw [hz0] at hsum
 have hw:wr (19 + (g:Int))=19 + (g:Int):=Ko2 (by omega) (by omega)
 rw [Ke1.eq_def]
 simp [e0,f0,hg,na,hw,Kwa ctx.length (by omega),hsum]
theorem Kyz (ih:Kyq s n (tsz (⟨9,N,ty,ks⟩:K00))) (h:tOk (gN s.fSize true) (yN s.fSize true) ctx.length ⟨9,N,ty,ks⟩=true) (hc:∀ q ∈ ctx,TyS s q) (hb:ctx.length + 2 * tsz (⟨9,N,ty,ks⟩:K00) ≤ 1000000):∃ x y,Ky9 s n ctx ⟨9,N,ty,ks⟩ x y:=by
 obtain ⟨k0,rfl,p0⟩:=nd1 h (Nat.le_refl _) rfl
 have hz:=Kv1 9 N ty k0
 obtain ⟨g,hN,hg'⟩:=Kwy hs (Kx0 h rfl)
 simp only at hN
 subst hN
 have hy:TyS s ty:=Kx1 h rfl
 have ly:=Kwm hy
 have hn:=hs.tab.hi
 have p0':Kwz s ([ty] ++ ctx).length k0 (tsz (⟨9,(g:Int),ty,[k0]⟩:K00)):=by
  have e:([ty] ++ ctx).length=ctx.length + Kqo 9 0:=by simp [Kqo]
  rw [e]; exact p0
 obtain ⟨x0,y0,r0⟩:=ih k0 ([ty] ++ ctx) p0' (fun q hq=>by rcases List.mem_cons.1 hq with rfl | hq; exact hy; exact hc q hq) (by simp; omega)
 have hw9:=Kwb ctx [ty] (by simp; omega)
 by_cases f0:x0.ffault=0
 rotate_left
 ·have e0:Ke3 (s,ty :: ctx,⟨9,(g:Int),ty,[k0]⟩,0)=some ⟨[],[],x0.ffault,0 :: x0.fpath⟩:=Kyb (i:=0) rfl r0 (by omega) f0
  refine Ky9.bad (f:=x0.ffault) (p:=0 :: x0.fpath) ?_ (Kxf (by omega) (Kyc (m:=[ty]) rfl Kyn r0 (by omega) (by simp; omega) f0)) f0 (by have:=r0.pl; simp; omega)
  rw [Ke1.eq_def]
  simp [hw9,e0,f0]
 obtain ⟨g0,q0,a,na,la,ba⟩:=r0.gd f0
 obtain ⟨c0,t0,ht0,hn0,hz0⟩:=Kyv hs g0
 have L0:=Kwm g0
 have e0:Ke3 (s,ty :: ctx,⟨9,(g:Int),ty,[k0]⟩,0)=some x0:=Kya (i:=0) rfl r0 f0
 have la':a.length=ctx.length + 1:=by rw [la]; simp
 obtain ⟨u0,a',rfl⟩:∃ u0 a',a=u0 :: a':=by cases a with | nil=>simp at la' | cons u a'=>exact ⟨u,a',rfl⟩
 obtain ⟨hu0,ba'⟩:=Kvp ba
 have o0:=Kyf (out:=[]) (nd:=[]) (us:=[]) (w:=0) (t:=⟨9,(g:Int),ty,[k0]⟩) (m:=[ty]) rfl Kyn r0 (by simp; omega) f0 (by rw [ht0]; exact Kxj (.inl (by decide))) (Kxh (show (9:Int) ≠ 10 by decide)) na (by simp <;> omega) (by simp) (by simp) (by simp) (by simp)
 simp only [List.length_cons,List.length_nil,Nat.zero_add,List.drop_succ_cons,List.drop_zero,List.take_succ_cons,List.take_zero,List.nil_append] at o0
 have hf:=Ky1 (ty:=ty) (ks:=[k0]) (ctx:=ctx) (z:=Kv8 (List.replicate ctx.length 0)) (y0:=y0) (a:=a') (u:=[u0]) hs hg' (fun x hx=>by simp at hx; rw [hx]; exact hu0) (by simp) (by rw [r0.ty]; omega) (by omega)
 have hl0:=o0.trans (Kx7 (Nat.le_refl _))
 have hle:=sLe hs.tab hu0 hg'
 have hw:wr (3 + (g:Int))=3 + (g:Int):=Ko2 (by omega) (by omega)
 have hi0:idx x0.fneeds 0=some (u0:Int):=by rw [na]; rfl
 simp only [List.all_cons,List.all_nil,Bool.and_true] at hf
 cases hl:le s n u0 g with
 | false =>
  rw [hl,if_neg (by decide)] at hf
  refine Ky9.bad (f:=9) (p:=[]) ?_ (Kxg (by omega) hl0 hf) (by decide) (by simp; omega)
  rw [Ke1.eq_def]
  simp [hw9,e0,f0,hi0,hle,hl,Kdb]
 | true =>
  rw [hl,if_pos rfl] at hf
  have im:=Kxg (by omega) hl0 hf
  rw [r0.ty] at im
  refine Ky9.done (q:=(3 + (g:Int)) :: (ty ++ x0.fty)) (ns:=a') (kids:=[y0]) ?_ im (by omega) (fun hl=>Kww hs hy g0 (.inr (.inr ⟨g,hg',rfl⟩)) hl) (by simpa using la') ba' rfl (kd1 (Ky8.mk' (m:=[ty]) Kyh r0 f0 (fun q hq=>by simp at hq; rw [hq]; exact hy) rfl))
  have hg:=Kwd (3 + (g:Int)) [ty,x0.fty] (by simp) (by simp; omega)
  simp only [List.flatten_cons,List.flatten_nil,List.append_nil] at hg
  have hcut:cut x0.fneeds (some 1) none none=some (Kv8 a'):=by rw [na]; exact Ktu _ _
  rw [Ke1.eq_def]
  simp [hw9,e0,f0,hi0,hle,hl,hg,hw,hcut,Krg (Kv8 a') (by rw [Kv9]; simp at la'; omega)]
theorem Kz0 (ih:Kyq s n (tsz (⟨4,N,ty,ks⟩:K00))) (h:tOk (gN s.fSize true) (yN s.fSize true) ctx.length ⟨4,N,ty,ks⟩=true) (hc:∀ q ∈ ctx,TyS s q) (hb:ctx.length + 2 * tsz (⟨4,N,ty,ks⟩:K00) ≤ 1000000):∃ x y,Ky9 s n ctx ⟨4,N,ty,ks⟩ x y:=by
 obtain ⟨k0,k1,rfl,p0,p1⟩:=nd2 h (Nat.le_refl _) rfl
 have hz:=Kv2 4 N ty k0 k1
 obtain ⟨x0,y0,r0⟩:=ih k0 ctx p0 hc (by omega)
 obtain ⟨x1,y1,r1⟩:=ih k1 ctx p1 hc (by omega)
 by_cases f0:x0.ffault=0
 rotate_left
 ·exact Kys (by decide) (by decide) (by decide) hb r0 f0
 obtain ⟨g0,q0,a,na,la,ba⟩:=r0.gd f0
 obtain ⟨c0,t0,ht0,hn0,hz0⟩:=Kyv hs g0
 have L0:=Kwm g0
 have e0:Ke3 (s,ctx,⟨4,N,ty,[k0,k1]⟩,0)=some x0:=Kya (i:=0) rfl r0 f0
 have o0:=Kyf (out:=[]) (nd:=[]) (us:=[]) (w:=0) (t:=⟨4,N,ty,[k0,k1]⟩) (m:=[]) rfl (Kym (by decide)) r0 (by simp; omega) f0 (by rw [ht0]; exact Kxj (.inl (by decide))) (Kxh (show (4:Int) ≠ 10 by decide)) na (by simp <;> omega) (by simp) (by simp) (by simp) (by simp)
 have m1:Kx4 ⟨4,N,ty,[k0,k1]⟩ [y0] 1=some []:=Kyo (by decide) (Kyg (by decide) rfl)
 by_cases f1:x1.ffault=0
 rotate_left
 ·have e1:Ke3 (s,ctx,⟨4,N,ty,[k0,k1]⟩,1)=some ⟨[],[],x1.ffault,1 :: x1.fpath⟩:=Kyb (i:=1) rfl r1 (by omega) f1
  refine Ky9.bad (f:=x1.ffault) (p:=1 :: x1.fpath) ?_ (Kxf (by omega) (o0.trans (Kyc (m:=[]) rfl m1 r1 (by omega) (by simp; omega) f1))) f1 (by have:=r1.pl; simp; omega)
  rw [Ke1.eq_def]
  simp [e0,f0,e1,f1]
 obtain ⟨g1,q1,b,nb,lb,bb⟩:=r1.gd f1
 obtain ⟨c1,t1,ht1,hn1,hz1⟩:=Kyv hs g1
 have L1:=Kwm g1
 have e1:Ke3 (s,ctx,⟨4,N,ty,[k0,k1]⟩,1)=some x1:=Kya (i:=1) rfl r1 f1
 have o1:=Kyf (out:=[y0]) (nd:=[Kv8 a]) (us:=[Kv8 []]) (w:=1) (t:=⟨4,N,ty,[k0,k1]⟩) (m:=[]) rfl m1 r1 (by simp; omega) f1 (by rw [ht1]; exact Kxj (.inl (by decide))) (Kxh (show (4:Int) ≠ 10 by decide)) nb (by simp <;> omega) (by simp) (by simp) (by simp) (by simp)
 have hf:=Ky0 (N:=N) (ty:=ty) (ks:=[k0,k1]) (ctx:=ctx) (us:=[Kv8 [],Kv8 []]) (z:=Kv8 (List.replicate ctx.length 0)) (y0:=y0) (y1:=y1) hs ba bb (by omega) (by omega) (by rw [r0.ty]; omega) (by rw [r1.ty]; omega)
 have im:=Kxg (p0:=⟨s⟩) (t:=⟨4,N,ty,[k0,k1]⟩) (ctx:=ctx) (by omega) (o0.trans (o1.trans (Kx7 (Nat.le_refl _)))) hf
 rw [r0.ty,r1.ty] at im
 refine Ky9.done (q:=1 :: (x0.fty ++ x1.fty)) (ns:=Kvl s n a b) (kids:=[y0,y1]) ?_ im (by omega) (fun hl=>Kww hs g0 g1 (.inl rfl) hl) (by unfold Kvl; rw [List.length_zipWith]; omega) (Kvr hs ba bb) rfl (kd2 (Ky8.mk' (Kyg (by decide) rfl) r0 f0 (fun _ h=>by cases h) rfl) (Ky8.mk' (Kyg (by decide) rfl) r1 f1 (fun _ h=>by cases h) rfl))
 have hg:=Kwd 1 [x0.fty,x1.fty] (by simp) (by simp; omega)
 simp only [List.flatten_cons,List.flatten_nil,List.append_nil] at hg
 rw [Ke1.eq_def]
 simp [e0,f0,e1,f1,hg,na,nb,Kvy hs a b ba bb (by omega) (by omega)]
theorem Kz1 (ih:Kyq s n (tsz (⟨2,N,ty,ks⟩:K00))) (h:tOk (gN s.fSize true) (yN s.fSize true) ctx.length ⟨2,N,ty,ks⟩=true) (hc:∀ q ∈ ctx,TyS s q) (hb:ctx.length + 2 * tsz (⟨2,N,ty,ks⟩:K00) ≤ 1000000):∃ x y,Ky9 s n ctx ⟨2,N,ty,ks⟩ x y:=by
 obtain ⟨k0,k1,rfl,p0,p1⟩:=nd2 h (Nat.le_refl _) rfl
 have hz:=Kv2 2 N ty k0 k1
 obtain ⟨x0,y0,r0⟩:=ih k0 ctx p0 hc (by omega)
 obtain ⟨x1,y1,r1⟩:=ih k1 ctx p1 hc (by omega)
 by_cases f0:x0.ffault=0
 rotate_left
 ·exact Kys (by decide) (by decide) (by decide) hb r0 f0
 obtain ⟨g0,q0,a,na,la,ba⟩:=r0.gd f0
 obtain ⟨c0,t0,ht0,hn0,hz0⟩:=Kyv hs g0
 have L0:=Kwm g0
 have e0:Ke3 (s,ctx,⟨2,N,ty,[k0,k1]⟩,0)=some x0:=Kya (i:=0) rfl r0 f0
 have i0:idx x0.fty 0=some c0:=by rw [ht0]; rfl
 by_cases z0:c0=0
 rotate_left
 ·refine Ky9.bad (f:=2) (p:=[]) ?_ (Kxf (by omega) (Kyd (m:=[]) rfl (Kym (by decide)) r0 (by simp; omega) f0 (by rw [ht0,Kxk,if_neg (by rw [hn0]; exact z0)]) (by decide))) (by decide) (by simp; omega)
  rw [Ke1.eq_def]
  simp [e0,f0,i0,z0,Kdb]
 have u0:=hz0 z0
 have s0:(Kph c0).1=0:=hn0.2 z0
 have o0:=Kyf (out:=[]) (nd:=[]) (us:=[]) (w:=0) (t:=⟨2,N,ty,[k0,k1]⟩) (m:=[]) rfl (Kym (by decide)) r0 (by simp; omega) f0 (by rw [ht0,Kxk,if_pos s0]) (Kxh (show (2:Int) ≠ 10 by decide)) na (by simp <;> omega) (by simp) (by simp) (by simp) (by simp)
 have m1:Kx4 ⟨2,N,ty,[k0,k1]⟩ [y0] 1=some []:=Kyo (by decide) (Kyg (by decide) rfl)
 by_cases f1:x1.ffault=0
 rotate_left
 ·have e1:Ke3 (s,ctx,⟨2,N,ty,[k0,k1]⟩,1)=some ⟨[],[],x1.ffault,1 :: x1.fpath⟩:=Kyb (i:=1) rfl r1 (by omega) f1
  refine Ky9.bad (f:=x1.ffault) (p:=1 :: x1.fpath) ?_ (Kxf (by omega) (o0.trans (Kyc (m:=[]) rfl m1 r1 (by omega) (by simp; omega) f1))) f1 (by have:=r1.pl; simp; omega)
  rw [Ke1.eq_def]
  simp [e0,f0,i0,z0,Ke4.eq_def,e1,f1]
 obtain ⟨g1,q1,b,nb,lb,bb⟩:=r1.gd f1
 obtain ⟨c1,t1,ht1,hn1,hz1⟩:=Kyv hs g1
 have L1:=Kwm g1
 have e1:Ke3 (s,ctx,⟨2,N,ty,[k0,k1]⟩,1)=some x1:=Kya (i:=1) rfl r1 f1
 have i1:idx x1.fty 0=some c1:=by rw [ht1]; rfl
 by_cases z1:c1=0
 rotate_left
 ·refine Ky9.bad (f:=2) (p:=[]) ?_ (Kxf (by omega) (o0.trans (Kyd (m:=[]) rfl m1 r1 (by simp; omega) f1 (by rw [ht1,Kxk,if_neg (by rw [hn1]; exact z1)]) (by decide)))) (by decide) (by simp; omega)
  rw [Ke1.eq_def]
  simp [e0,f0,i0,z0,e1,f1,i1,z1,Kdb,Ke4.eq_def]
 have u1:=hz1 z1
 have s1:(Kph c1).1=0:=hn1.2 z1
 have o1:=Kyf (out:=[y0]) (nd:=[Kv8 a]) (us:=[Kv8 []]) (w:=1) (t:=⟨2,N,ty,[k0,k1]⟩) (m:=[]) rfl m1 r1 (by simp; omega) f1 (by rw [ht1,Kxk,if_pos s1]) (Kxh (show (2:Int) ≠ 10 by decide)) nb (by simp <;> omega) (by simp) (by simp) (by simp) (by simp)
 have hf:=Kxy (N:=N) (ty:=ty) (ks:=[k0,k1]) (ctx:=ctx) (us:=[Kv8 [],Kv8 []]) (z:=Kv8 (List.replicate ctx.length 0)) (y0:=y0) (y1:=y1) hs ba bb (by omega) (by omega)
 have im:=Kxg (p0:=⟨s⟩) (t:=⟨2,N,ty,[k0,k1]⟩) (ctx:=ctx) (by omega) (o0.trans (o1.trans (Kx7 (Nat.le_refl _)))) hf
 replace im:=Kyr (q:=[0]) (ns:=Kvl s n a b) (kids:=[y0,y1]) (by decide) im
 refine Ky9.good (q:=[0]) (ns:=Kvl s n a b) (kids:=[y0,y1]) ?_ im (by omega) Kws (by unfold Kvl; rw [List.length_zipWith]; omega) (Kvr hs ba bb) rfl (kd2 (Ky8.mk' (Kyg (by decide) rfl) r0 f0 (fun _ h=>by cases h) rfl) (Ky8.mk' (Kyg (by decide) rfl) r1 f1 (fun _ h=>by cases h) rfl))
 rw [Ke1.eq_def]
 simp [e0,f0,i0,z0,e1,f1,i1,z1,na,nb,u1,Kxr,Kvy hs a b ba bb (by omega) (by omega),Ke4.eq_def]
theorem Kz2 (ih:Kyq s n (tsz (⟨3,N,ty,ks⟩:K00))) (h:tOk (gN s.fSize true) (yN s.fSize true) ctx.length ⟨3,N,ty,ks⟩=true) (hc:∀ q ∈ ctx,TyS s q) (hb:ctx.length + 2 * tsz (⟨3,N,ty,ks⟩:K00) ≤ 1000000):∃ x y,Ky9 s n ctx ⟨3,N,ty,ks⟩ x y:=by
 obtain ⟨k0,k1,k2,rfl,p0,p1,p2⟩:=nd3 h (Nat.le_refl _) rfl
 have hz:=Kv3 3 N ty k0 k1 k2
 obtain ⟨x0,y0,r0⟩:=ih k0 ctx p0 hc (by omega)
 obtain ⟨x1,y1,r1⟩:=ih k1 ctx p1 hc (by omega)
 obtain ⟨x2,y2,r2⟩:=ih k2 ctx p2 hc (by omega)
 by_cases f0:x0.ffault=0
 rotate_left
 ·exact Kys (by decide) (by decide) (by decide) hb r0 f0
 obtain ⟨g0,q0,a,na,la,ba⟩:=r0.gd f0
 obtain ⟨c0,t0,ht0,hn0,hz0⟩:=Kyv hs g0
 have L0:=Kwm g0
 have e0:Ke3 (s,ctx,⟨3,N,ty,[k0,k1,k2]⟩,0)=some x0:=Kya (i:=0) rfl r0 f0
 have i0:idx x0.fty 0=some c0:=by rw [ht0]; rfl
 by_cases z0:c0=0
 rotate_left
 ·refine Ky9.bad (f:=2) (p:=[]) ?_ (Kxf (by omega) (Kyd (m:=[]) rfl (Kym (by decide)) r0 (by simp; omega) f0 (by rw [ht0,Kxl,if_neg (by rw [hn0]; exact z0)]) (by decide))) (by decide) (by simp; omega)
  rw [Ke1.eq_def]
  simp [e0,f0,i0,z0,Kdb]
 have u0:=hz0 z0
 have s0:(Kph c0).1=0:=hn0.2 z0
 have o0:=Kyf (out:=[]) (nd:=[]) (us:=[]) (w:=0) (t:=⟨3,N,ty,[k0,k1,k2]⟩) (m:=[]) rfl (Kym (by decide)) r0 (by simp; omega) f0 (by rw [ht0,Kxl,if_pos s0]) (Kxh (show (3:Int) ≠ 10 by decide)) na (by simp <;> omega) (by simp) (by simp) (by simp) (by simp)
 have m1:Kx4 ⟨3,N,ty,[k0,k1,k2]⟩ [y0] 1=some []:=Kyo (by decide) (Kyg (by decide) rfl)
 by_cases f1:x1.ffault=0
 rotate_left
 ·have e1:Ke3 (s,ctx,⟨3,N,ty,[k0,k1,k2]⟩,1)=some ⟨[],[],x1.ffault,1 :: x1.fpath⟩:=Kyb (i:=1) rfl r1 (by omega) f1
  refine Ky9.bad (f:=x1.ffault) (p:=1 :: x1.fpath) ?_ (Kxf (by omega) (o0.trans (Kyc (m:=[]) rfl m1 r1 (by omega) (by simp; omega) f1))) f1 (by have:=r1.pl; simp; omega)
  rw [Ke1.eq_def]
  simp [e0,f0,i0,z0,Ke4.eq_def,e1,f1]
 obtain ⟨g1,q1,b,nb,lb,bb⟩:=r1.gd f1
 obtain ⟨c1,t1,ht1,hn1,hz1⟩:=Kyv hs g1
 have L1:=Kwm g1
 have e1:Ke3 (s,ctx,⟨3,N,ty,[k0,k1,k2]⟩,1)=some x1:=Kya (i:=1) rfl r1 f1
 have o1:=Kyf (out:=[y0]) (nd:=[Kv8 a]) (us:=[Kv8 []]) (w:=1) (t:=⟨3,N,ty,[k0,k1,k2]⟩) (m:=[]) rfl m1 r1 (by simp; omega) f1 (by rw [ht1]; exact Kxj (.inr (by decide))) (Kxh (show (3:Int) ≠ 10 by decide)) nb (by simp <;> omega) (by simp) (by simp) (by simp) (by simp)
 have m2:Kx4 ⟨3,N,ty,[k0,k1,k2]⟩ [y0,y1] 2=some []:=Kyo (by decide) (Kyg (by decide) rfl)
 by_cases f2:x2.ffault=0
 rotate_left
 ·have e2:Ke3 (s,ctx,⟨3,N,ty,[k0,k1,k2]⟩,2)=some ⟨[],[],x2.ffault,2 :: x2.fpath⟩:=Kyb (i:=2) rfl r2 (by omega) f2
  refine Ky9.bad (f:=x2.ffault) (p:=2 :: x2.fpath) ?_ (Kxf (by omega) (o0.trans (o1.trans (Kyc (m:=[]) rfl m2 r2 (by omega) (by simp; omega) f2)))) f2 (by have:=r2.pl; simp; omega)
  rw [Ke1.eq_def]
  simp [e0,f0,i0,z0,e1,f1,Ke4.eq_def,e2,f2]
 obtain ⟨g2,q2,d,nd,ld,bd⟩:=r2.gd f2
 obtain ⟨c2,t2,ht2,hn2,hz2⟩:=Kyv hs g2
 have L2:=Kwm g2
 have e2:Ke3 (s,ctx,⟨3,N,ty,[k0,k1,k2]⟩,2)=some x2:=Kya (i:=2) rfl r2 f2
 have o2:=Kyf (out:=[y0,y1]) (nd:=[Kv8 a,Kv8 b]) (us:=[Kv8 [],Kv8 []]) (w:=2) (t:=⟨3,N,ty,[k0,k1,k2]⟩) (m:=[]) rfl m2 r2 (by simp; omega) f2 (by rw [ht2]; exact Kxj (.inr (by decide))) (Kxh (show (3:Int) ≠ 10 by decide)) nd (by simp <;> omega) (by simp) (by simp) (by simp) (by simp)
 have hf:=Kxz (N:=N) (ty:=ty) (ks:=[k0,k1,k2]) (ctx:=ctx) (us:=[Kv8 [],Kv8 [],Kv8 []]) (z:=Kv8 (List.replicate ctx.length 0)) (y0:=y0) (y1:=y1) (y2:=y2) hs ba bb bd (by omega) (by omega) (by omega) (by rw [r2.ty]; omega) (by rw [r1.ty]; omega)
 have hl0:=o0.trans (o1.trans (o2.trans (Kx7 (Nat.le_refl _))))
 
 have hsm:=Ku5 x1.fty x2.fty (by omega)
 have lj:(Kvn s n b d).length=ctx.length:=by unfold Kvn; rw [List.length_zipWith]; omega
 rw [r1.ty,r2.ty] at hf
 by_cases hq:x1.fty=x2.fty
 ·rw [if_pos hq] at hf
  have im:=Kxg (by omega) hl0 hf
  replace im:=Kyr (q:=x1.fty) (ns:=Kvl s n a (Kvn s n b d)) (kids:=[y0,y1,y2]) (by omega) im
  refine Ky9.good (q:=x1.fty) (ns:=Kvl s n a (Kvn s n b d)) (kids:=[y0,y1,y2]) ?_ im (by omega) g1 (by unfold Kvl; rw [List.length_zipWith]; omega) (Kvr hs ba (Kvt hs bb bd)) rfl (kd3 (Ky8.mk' (Kyg (by decide) rfl) r0 f0 (fun _ h=>by cases h) rfl) (Ky8.mk' (Kyg (by decide) rfl) r1 f1 (fun _ h=>by cases h) rfl) (Ky8.mk' (Kyg (by decide) rfl) r2 f2 (fun _ h=>by cases h) rfl))
  rw [show (x1.fty == x2.fty)=true from beq_iff_eq.2 hq] at hsm
  rw [Ke1.eq_def]
  simp [e0,f0,i0,z0,e1,f1,e2,f2,hsm,na,nb,nd,Kw0 hs b d bb bd (by omega) (by omega),Kvy hs a (Kvn s n b d) ba (Kvt hs bb bd) (by omega) (by omega),Ke4.eq_def]
 ·rw [if_neg hq] at hf
  refine Ky9.bad (f:=3) (p:=[]) ?_ (Kxg (by omega) hl0 hf) (by decide) (by simp; omega)
  rw [show (x1.fty == x2.fty)=false from beq_eq_false_iff_ne.2 hq] at hsm
  rw [Ke1.eq_def]
  simp [e0,f0,i0,z0,e1,f1,e2,f2,hsm,Ke4.eq_def,Kdb]
end
theorem Kz3 (g:Nat) (h:g ≤ 15):Kph (3 + (g:Int))=(3,(g:Int)):=by
 rcases Kpj (3 + (g:Int)) with h | h | h | h | h | h | h | h <;> first | omega | (obtain ⟨_,e⟩:=h; rw [e]; congr 1; omega)
theorem Kz4 (g:Nat) (h:g ≤ 15):Kph (19 + (g:Int))=(4,(g:Int)):=by
 rcases Kpj (19 + (g:Int)) with h | h | h | h | h | h | h | h <;> first | omega | (obtain ⟨_,e⟩:=h; rw [e]; congr 1; omega)
theorem Kz5 (g:Nat) (h:g ≤ 15):Kpa (3 + (g:Int))=true:=by unfold Kpa inB; simp; omega
theorem Kz6 (g:Nat) (h:g ≤ 15):Kpa (19 + (g:Int))=false:=by unfold Kpa inB; simp; omega
theorem Kz7 (g:Nat) (h:g ≤ 15):Kpb (3 + (g:Int))=false:=by unfold Kpb inB; simp; omega
theorem Kz8 (g:Nat) (h:g ≤ 15):Kpb (19 + (g:Int))=true:=by unfold Kpb inB; simp; omega
theorem Kz9 (g:Nat) (h:g ≤ 15):Kd2 (3 + (g:Int))=some (g:Int):=by
 rw [Kpz (by rcases Kpg (3 + (g:Int)) with h | h | h | h <;> omega)]
 unfold Kpx
 rw [if_neg (by omega),if_neg (by omega)]
 congr 1; omega
theorem Kza (g:Nat) (h:g ≤ 15):Kd2 (19 + (g:Int))=some (g:Int):=by
 rw [Kpz (by rcases Kpg (19 + (g:Int)) with h | h | h | h <;> omega)]
 unfold Kpx
 rw [if_neg (by omega),if_pos (by omega)]
 congr 1; omega
section
variable {s:K02} {n:Nat} (hs:Kvd s n) {ctx:List (List Int)} {N:Int} {ty:List Int} {ks:List K00}
include hs
structure Kzb (s:K02) (n:Nat) (q:List Int) (c:Int):Prop where
 arr:(Kph c).1=3→∃ (g:Nat) (a b:List Int),g < n∧g ≤ 15∧c=3 + (g:Int)∧q=c :: (a ++ b)∧Kwp s (3 + (g:Int)) a b
 pair:(Kph c).1=1→∃ (a b:List Int),c=1∧q=c :: (a ++ b)∧Kwp s 1 a b
 sum:(Kph c).1=2→∃ (a b:List Int),c=2∧q=c :: (a ++ b)∧Kwp s 2 a b
 box:(Kph c).1=4→∃ (g:Nat) (a:List Int),g < n∧g ≤ 15∧c=19 + (g:Int)∧q=c :: a∧Kwq s (19 + (g:Int)) a
 arrB:Kpa c=true ↔ (Kph c).1=3
 boxB:Kpb c=true ↔ (Kph c).1=4
 one:c=1 ↔ (Kph c).1=1
 two:c=2 ↔ (Kph c).1=2
theorem Kzc {q:List Int} (hq:TyS s q) {c:Int} {r:List Int} (e:q=c :: r):Kzb s n q c:=by
 rcases Kwv hs hq with rfl | ⟨a,b,rfl,P⟩ | ⟨a,b,rfl,P⟩ | ⟨g,a,b,hg,h15,rfl,P⟩ | ⟨g,a,hg,h15,rfl,P⟩
 ·cases e
  refine ⟨fun h=>?_,fun h=>?_,fun h=>?_,fun h=>?_,by decide,by decide,by decide,by decide⟩ <;> exact absurd h (by decide)
 ·cases e
  refine ⟨fun h=>absurd h (by decide),fun _=>⟨a,b,rfl,rfl,P⟩,fun h=>absurd h (by decide),fun h=>absurd h (by decide),by decide,by decide,by decide,by decide⟩
 ·cases e
  refine ⟨fun h=>absurd h (by decide),fun h=>absurd h (by decide),fun _=>⟨a,b,rfl,rfl,P⟩,fun h=>absurd h (by decide),by decide,by decide,by decide,by decide⟩
 ·cases e
  have hsh:=Kz3 g h15
  refine ⟨fun _=>⟨g,a,b,hg,h15,rfl,rfl,P⟩,fun h=>?_,fun h=>?_,fun h=>?_,?_,?_,?_,?_⟩
  ·rw [hsh] at h; simp at h
  ·rw [hsh] at h; simp at h
  ·rw [hsh] at h; simp at h
  ·rw [hsh,Kz5 g h15]; simp
  ·rw [hsh,Kz7 g h15]; simp
  ·rw [hsh]; simp; omega
  ·rw [hsh]; simp; omega
 ·cases e
  have hsh:=Kz4 g h15
  refine ⟨fun h=>?_,fun h=>?_,fun h=>?_,fun _=>⟨g,_,hg,h15,rfl,rfl,P⟩,?_,?_,?_,?_⟩
  ·rw [hsh] at h; simp at h
  ·rw [hsh] at h; simp at h
  ·rw [hsh] at h; simp at h
  ·rw [hsh,Kz6 g h15]; simp
  ·rw [hsh,Kz8 g h15]; simp
  ·rw [hsh]; simp; omega
  ·rw [hsh]; simp; omega
theorem Kzd (ih:Kyq s n (tsz (⟨10,N,ty,ks⟩:K00))) (h:tOk (gN s.fSize true) (yN s.fSize true) ctx.length ⟨10,N,ty,ks⟩=true) (hc:∀ q ∈ ctx,TyS s q) (hb:ctx.length + 2 * tsz (⟨10,N,ty,ks⟩:K00) ≤ 1000000):∃ x y,Ky9 s n ctx ⟨10,N,ty,ks⟩ x y:=by
 obtain ⟨k0,k1,rfl,p0,p1⟩:=nd2 h (Nat.le_refl _) rfl
 have hz:=Kv2 10 N ty k0 k1
 obtain ⟨x0,y0,r0⟩:=ih k0 ctx p0 hc (by omega)
 obtain ⟨x1,y1,r1⟩:=ih k1 ctx p1 hc (by omega)
 by_cases f0:x0.ffault=0
 rotate_left
 ·exact Kys (by decide) (by decide) (by decide) hb r0 f0
 obtain ⟨g0,q0,a,na,la,ba⟩:=r0.gd f0
 obtain ⟨c0,t0,ht0,hn0,hz0⟩:=Kyv hs g0
 have L0:=Kwm g0
 have e0:Ke3 (s,ctx,⟨10,N,ty,[k0,k1]⟩,0)=some x0:=Kya (i:=0) rfl r0 f0
 have C:=Kzc hs g0 ht0
 have i0:idx x0.fty 0=some c0:=by rw [ht0]; rfl
 by_cases z0:(Kph c0).1=3
 rotate_left
 ·have w0:Kpa c0=false:=by cases h:Kpa c0 with | true=>exact absurd (C.arrB.1 h) z0 | false=>rfl
  refine Ky9.bad (f:=6) (p:=[]) ?_ (Kxf (by omega) (Kyd (m:=[]) rfl (Kym (by decide)) r0 (by simp; omega) f0 (by rw [ht0,Kxm,if_neg z0]) (by decide))) (by decide) (by simp; omega)
  rw [Ke1.eq_def]
  simp [e0,f0,i0,Kpd,w0,Kdb]
 obtain ⟨g,p,q,hg,h15,hcg,hq,P⟩:=C.arr z0
 have w0:Kpa c0=true:=C.arrB.2 z0
 have o0:=Kyf (out:=[]) (nd:=[]) (us:=[]) (w:=0) (t:=⟨10,N,ty,[k0,k1]⟩) (m:=[]) rfl (Kym (by decide)) r0 (by simp; omega) f0 (by rw [ht0,Kxm,if_pos z0]) (Kxi (by decide)) na (by simp <;> omega) (by simp) (by simp) (by simp) (by simp)
 have m1:Kx4 ⟨10,N,ty,[k0,k1]⟩ [y0] 1=some []:=Kyo (by decide) (Kyg (by decide) rfl)
 by_cases f1:x1.ffault=0
 rotate_left
 ·have e1:Ke3 (s,ctx,⟨10,N,ty,[k0,k1]⟩,1)=some ⟨[],[],x1.ffault,1 :: x1.fpath⟩:=Kyb (i:=1) rfl r1 (by omega) f1
  refine Ky9.bad (f:=x1.ffault) (p:=1 :: x1.fpath) ?_ (Kxf (by omega) (o0.trans (Kyc (m:=[]) rfl m1 r1 (by omega) (by simp; omega) f1))) f1 (by have:=r1.pl; simp; omega)
  rw [Ke1.eq_def]
  simp [e0,f0,i0,Kpd,w0,e1,f1]
 obtain ⟨g1,q1,b,nb,lb,bb⟩:=r1.gd f1
 obtain ⟨c1,t1,ht1,hn1,hz1⟩:=Kyv hs g1
 have L1:=Kwm g1
 have e1:Ke3 (s,ctx,⟨10,N,ty,[k0,k1]⟩,1)=some x1:=Kya (i:=1) rfl r1 f1
 have hp0:Kcz (x0.fty,0)=some p:=by rw [hq,hcg]; exact P.p0
 have hp1:Kcz (x0.fty,1)=some q:=by rw [hq,hcg]; exact P.p1
 have hpp:Kn3 y0.fty=some [p,q]:=by rw [r0.ty,hq,hcg]; exact P.pp
 have Lp:=Kwm P.ya
 have Lq:=Kwm P.yb
 have hsm:=Ku5 x1.fty p (by omega)
 have hsi:=Ku7 x1.fty p (by omega)
 have ha:Kxa ⟨10,N,ty,[k0,k1]⟩ [y0] 1 y1=some (!(x1.fty == p)):=by
  unfold Kxa
  rw [if_pos (show ((10:Int) == 10)=true by decide),if_pos (by decide),Kxr,bs,hpp,bs,Kxr,bs,r1.ty,hsi,bs]
 by_cases hqq:x1.fty=p
 rotate_left
 ·rw [show (x1.fty == p)=false from beq_eq_false_iff_ne.2 hqq] at hsm ha
  refine Ky9.bad (f:=3) (p:=[]) ?_ (Kxf (by omega) (o0.trans (Kye (m:=[]) rfl m1 r1 (by simp; omega) f1 (by rw [ht1]; exact Kxj (.inr (by decide))) ha))) (by decide) (by simp; omega)
  rw [Ke1.eq_def]
  simp [e0,f0,i0,Kpd,w0,e1,f1,hp0,hsm,Kdb]
 rw [show (x1.fty == p)=true from beq_iff_eq.2 hqq] at hsm ha
 have o1:=Kyf (out:=[y0]) (nd:=[Kv8 a]) (us:=[Kv8 []]) (w:=1) (t:=⟨10,N,ty,[k0,k1]⟩) (m:=[]) rfl m1 r1 (by simp; omega) f1 (by rw [ht1]; exact Kxj (.inr (by decide))) ha nb (by simp <;> omega) (by simp) (by simp) (by simp) (by simp)
 have hf:=Ky3 (N:=N) (ty:=ty) (ks:=[k0,k1]) (ctx:=ctx) (us:=[Kv8 [],Kv8 []]) (z:=Kv8 (List.replicate ctx.length 0)) (y0:=y0) (y1:=y1) hs hg (p:=p) (q:=q) (by rw [r0.ty,hq,hcg]) P ba bb (by omega) (by omega)
 have im:=Kyr (q:=q) (ns:=Kvl s n a (Kvm s n g b)) (kids:=[y0,y1]) Lq (Kxg (p0:=⟨s⟩) (t:=⟨10,N,ty,[k0,k1]⟩) (ctx:=ctx) (by omega) (o0.trans (o1.trans (Kx7 (Nat.le_refl _)))) hf)
 have lsc:(Kvm s n g b).length=ctx.length:=by unfold Kvm; rw [List.length_map]; exact lb
 refine Ky9.good (q:=q) (ns:=Kvl s n a (Kvm s n g b)) (kids:=[y0,y1]) ?_ im (by omega) P.yb (by unfold Kvl; rw [List.length_zipWith]; omega) (Kvr hs ba (Kvs hs hg bb)) rfl (kd2 (Ky8.mk' (Kyg (by decide) rfl) r0 f0 (fun _ h=>by cases h) rfl) (Ky8.mk' (Kyg (by decide) rfl) r1 f1 (fun _ h=>by cases h) rfl))
 have hgr:Kd2 c0=some (g:Int):=by rw [hcg]; exact Kz9 g h15
 rw [Ke1.eq_def]
 simp [e0,f0,i0,Kpd,w0,e1,f1,hp0,hp1,hsm,hgr,na,nb,Kvx hs g hg a b ba bb (by omega) (by omega)]
theorem Kze (ih:Kyq s n (tsz (⟨5,N,ty,ks⟩:K00))) (h:tOk (gN s.fSize true) (yN s.fSize true) ctx.length ⟨5,N,ty,ks⟩=true) (hc:∀ q ∈ ctx,TyS s q) (hb:ctx.length + 2 * tsz (⟨5,N,ty,ks⟩:K00) ≤ 1000000):∃ x y,Ky9 s n ctx ⟨5,N,ty,ks⟩ x y:=by
 obtain ⟨k0,k1,rfl,p0,p1⟩:=nd2 h (Nat.le_refl _) rfl
 have hz:=Kv2 5 N ty k0 k1
 obtain ⟨g,hN,hg⟩:=Kwy hs (Kx0 h rfl)
 simp only at hN
 subst hN
 obtain ⟨x0,y0,r0⟩:=ih k0 ctx p0 hc (by omega)
 by_cases f0:x0.ffault=0
 rotate_left
 ·exact Kys (by decide) (by decide) (by decide) hb r0 f0
 obtain ⟨g0,q0,a,na,la,ba⟩:=r0.gd f0
 obtain ⟨c0,t0,ht0,hn0,hz0⟩:=Kyv hs g0
 have L0:=Kwm g0
 have e0:Ke3 (s,ctx,⟨5,(g:Int),ty,[k0,k1]⟩,0)=some x0:=Kya (i:=0) rfl r0 f0
 have C:=Kzc hs g0 ht0
 have i0:idx x0.fty 0=some c0:=by rw [ht0]; rfl
 by_cases z0:(Kph c0).1=1
 rotate_left
 ·have w0:c0 ≠ 1:=fun h=>z0 (C.one.1 h)
  refine Ky9.bad (f:=4) (p:=[]) ?_ (Kxf (by omega) (Kyd (m:=[]) rfl (Kym (by decide)) r0 (by simp; omega) f0 (by rw [ht0,Kxn hs hg,if_neg z0]) (by decide))) (by decide) (by simp; omega)
  rw [Ke1.eq_def]
  simp [e0,f0,i0,Ke2.eq_def,w0,Kdb]
 obtain ⟨p,q,hcg,hq,P⟩:=C.pair z0
 have hle:=sLe hs.tab (Kvf hs) hg
 cases hl:le s n 1 g with
 | false =>
  have hl2:K9v (s,1,(g:Int))=some false:=by rw [← hl]; exact hle
  refine Ky9.bad (f:=8) (p:=[]) ?_ (Kxf (by omega) (Kyd (m:=[]) rfl (Kym (by decide)) r0 (by simp; omega) f0 (by rw [ht0,Kxn hs hg,if_pos z0,hl]; rfl) (by decide))) (by decide) (by simp; omega)
  rw [Ke1.eq_def]
  simp [e0,f0,i0,Ke2.eq_def,hcg,hl2,Kdb]
 | true =>
 have hl2:K9v (s,1,(g:Int))=some true:=by rw [← hl]; exact hle
 have o0:=Kyf (out:=[]) (nd:=[]) (us:=[]) (w:=0) (t:=⟨5,(g:Int),ty,[k0,k1]⟩) (m:=[]) rfl (Kym (by decide)) r0 (by simp; omega) f0 (by rw [ht0,Kxn hs hg,if_pos z0,hl]; rfl) (Kxh (show (5:Int) ≠ 10 by decide)) na (by simp <;> omega) (by simp) (by simp) (by simp) (by simp)
 have hp0:Kcz (x0.fty,0)=some p:=by rw [hq,hcg]; exact P.p0
 have hp1:Kcz (x0.fty,1)=some q:=by rw [hq,hcg]; exact P.p1
 have ad:Kna (⟨5,(g:Int),ty,[k0,k1]⟩,((1:Nat):Int),y0.fty)=some [q,p]:=by rw [r0.ty,hq,hcg]; exact Kyi P
 have hm':∀ z ∈ [q,p],TyS s z:=fun z hz=>by simp at hz; rcases hz with rfl | rfl; exact P.yb; exact P.ya
 have m1:Kx4 ⟨5,(g:Int),ty,[k0,k1]⟩ [y0] 1=some [q,p]:=Kyo (by decide) ad
 have p1':Kwz s ([q,p] ++ ctx).length k1 (tsz (⟨5,(g:Int),ty,[k0,k1]⟩:K00)):=by
  have e:([q,p] ++ ctx).length=ctx.length + Kqo 5 1:=by simp [Kqo]
  rw [e]; exact p1
 obtain ⟨x1,y1,r1⟩:=ih k1 ([q,p] ++ ctx) p1' (fun z hz=>by rcases List.mem_append.1 hz with hz | hz; exact hm' z hz; exact hc z hz) (by simp; omega)
 have hwc:=Kwb ctx [q,p] (by simp; omega)
 by_cases f1:x1.ffault=0
 rotate_left
 ·have e1:Ke3 (s,q :: p :: ctx,⟨5,(g:Int),ty,[k0,k1]⟩,1)=some ⟨[],[],x1.ffault,1 :: x1.fpath⟩:=Kyb (i:=1) rfl r1 (by omega) f1
  refine Ky9.bad (f:=x1.ffault) (p:=1 :: x1.fpath) ?_ (Kxf (by omega) (o0.trans (Kyc (m:=[q,p]) rfl m1 r1 (by omega) (by simp; omega) f1))) f1 (by have:=r1.pl; simp; omega)
  rw [Ke1.eq_def]
  simp [e0,f0,i0,Ke2.eq_def,hcg,hl2,hp0,hp1,hwc,e1,f1]
 obtain ⟨g1,q1,b,nb,lb,bb⟩:=r1.gd f1
 obtain ⟨c1,t1,ht1,hn1,hz1⟩:=Kyv hs g1
 have L1:=Kwm g1
 have e1:Ke3 (s,q :: p :: ctx,⟨5,(g:Int),ty,[k0,k1]⟩,1)=some x1:=Kya (i:=1) rfl r1 f1
 have lb':b.length=ctx.length + 2:=by rw [lb]; simp
 obtain ⟨u0,u1,b',rfl⟩:∃ u0 u1 b',b=u0 :: u1 :: b':=by match b,lb' with | u0 :: u1 :: b',_=>exact ⟨u0,u1,b',rfl⟩ | [_],h=>simp at h | [],h=>simp at h
 obtain ⟨hu0,bb1⟩:=Kvp bb
 obtain ⟨hu1,bb'⟩:=Kvp bb1
 have o1:=Kyf (out:=[y0]) (nd:=[Kv8 a]) (us:=[Kv8 []]) (w:=1) (t:=⟨5,(g:Int),ty,[k0,k1]⟩) (m:=[q,p]) rfl m1 r1 (by simp; omega) f1 (by rw [ht1]; exact Kxj (.inr (by decide))) (Kxh (show (5:Int) ≠ 10 by decide)) nb (by simp <;> omega) (by simp) (by simp) (by simp) (by simp)
 simp only [List.length_cons,List.length_nil,Nat.zero_add,List.drop_succ_cons,List.drop_zero,List.take_succ_cons,List.take_zero,List.nil_append] at o1
 have hl0:=o0.trans (o1.trans (Kx7 (Nat.le_refl _)))
 have lbc:b'.length=ctx.length:=by simp at lb'; omega
 have i1:idx x1.fneeds 0=some (u0:Int):=by rw [nb]; rfl
 have hcut:cut x1.fneeds (some (2:Int)) none none=some (Kv8 b'):=by
  rw [nb]
  have:=Kx9 (l:=Kv8 (u0 :: u1 :: b')) (m:=2) (by simp [Kv8])
  exact this
 have hcp:=Krg (Kv8 b') (by rw [Kv9]; omega)
 have i2:idx x1.fneeds 1=some (u1:Int):=by rw [nb]; rfl
 have hle0:=sLe hs.tab hu0 hg
 have hle1:=sLe hs.tab hu1 hg
 have hf:=Ky4 (ty:=ty) (ks:=[k0,k1]) (ctx:=ctx) (z:=Kv8 (List.replicate ctx.length 0)) (y0:=y0) (y1:=y1) (us':=Kv8 []) (u:=[u0,u1]) hs hg (fun x hx=>by simp at hx; rcases hx with rfl | rfl; exact hu0; exact hu1) (by simp) ba bb' (by omega) (by omega) (by rw [r1.ty]; omega)
 simp only [List.all_cons,List.all_nil,Bool.and_true] at hf
 have es:=e1
 cases hal:(le s n u0 g && le s n u1 g) with
 | false =>
  rw [hal,if_neg (by decide)] at hf
  refine Ky9.bad (f:=9) (p:=[]) ?_ (Kxg (by omega) hl0 hf) (by decide) (by simp; omega)
  rw [Ke1.eq_def]
  simp [e0,f0,i0,Ke2.eq_def,hcg,hl2,hp0,hp1,hwc,e1,f1,i1,i2,hcut,hcp,hle0,hle1,Kdb]
  cases q1:le s n u1 g with
  | false=>simp
  | true=>rw [q1,Bool.and_true] at hal; simp [hal]
 | true =>
  rw [hal,if_pos rfl] at hf
  have im:=Kyr (q:=y1.fty) (ns:=Kvl s n (Kvm s n g a) b') (kids:=[y0,y1]) (by rw [r1.ty]; omega) (Kxg (by omega) hl0 hf)
  rw [r1.ty] at im
  have lsc:(Kvm s n g a).length=ctx.length:=by unfold Kvm; rw [List.length_map]; exact la
  have hsc:=Kvs hs hg ba
  have hz0:=Kvv hs hsc
  rw [lsc] at hz0
  have hsum:=Kvx hs g hg (List.replicate ctx.length 0) a (fun x hx=>by rw [List.eq_of_mem_replicate hx]; exact Kvg hs) ba (by simp; omega) (by simp [la])
  rw [hz0] at hsum
  have hs2:=Kvy hs (Kvm s n g a) b' hsc bb' (by omega) (by omega)
  refine Ky9.good (q:=x1.fty) (ns:=Kvl s n (Kvm s n g a) b') (kids:=[y0,y1]) ?_ im (by omega) g1 (by unfold Kvl; rw [List.length_zipWith]; omega) (Kvr hs hsc bb') rfl (kd2 (Ky8.mk' (Kyg (by decide) rfl) r0 f0 (fun _ h=>by cases h) rfl) (Ky8.mk' ad r1 f1 hm' rfl))
  rw [Ke1.eq_def]
  rw [Bool.and_eq_true] at hal
  simp [e0,f0,i0,Ke2.eq_def,hcg,hl2,hp0,hp1,hwc,e1,f1,i1,i2,hcut,hcp,hle0,hle1,hal.1,hal.2,na,Kwa ctx.length (by omega),hsum,hs2]
theorem Kzf (ih:Kyq s n (tsz (⟨12,N,ty,ks⟩:K00))) (h:tOk (gN s.fSize true) (yN s.fSize true) ctx.length ⟨12,N,ty,ks⟩=true) (hc:∀ q ∈ ctx,TyS s q) (hb:ctx.length + 2 * tsz (⟨12,N,ty,ks⟩:K00) ≤ 1000000):∃ x y,Ky9 s n ctx ⟨12,N,ty,ks⟩ x y:=by
 obtain ⟨k0,k1,rfl,p0,p1⟩:=nd2 h (Nat.le_refl _) rfl
 have hz:=Kv2 12 N ty k0 k1
 obtain ⟨g,hN,hg⟩:=Kwy hs (Kx0 h rfl)
 simp only at hN
 subst hN
 obtain ⟨x0,y0,r0⟩:=ih k0 ctx p0 hc (by omega)
 by_cases f0:x0.ffault=0
 rotate_left
 ·exact Kys (by decide) (by decide) (by decide) hb r0 f0
 obtain ⟨g0,q0,a,na,la,ba⟩:=r0.gd f0
 obtain ⟨c0,t0,ht0,hn0,hz0⟩:=Kyv hs g0
 have L0:=Kwm g0
 have e0:Ke3 (s,ctx,⟨12,(g:Int),ty,[k0,k1]⟩,0)=some x0:=Kya (i:=0) rfl r0 f0
 have C:=Kzc hs g0 ht0
 have i0:idx x0.fty 0=some c0:=by rw [ht0]; rfl
 by_cases z0:(Kph c0).1=4
 rotate_left
 ·have w0:Kpb c0=false:=by cases h:Kpb c0 with | true=>exact absurd (C.boxB.1 h) z0 | false=>rfl
  refine Ky9.bad (f:=7) (p:=[]) ?_ (Kxf (by omega) (Kyd (m:=[]) rfl (Kym (by decide)) r0 (by simp; omega) f0 (by rw [ht0,Kxp hs hg,if_neg z0]) (by decide))) (by decide) (by simp; omega)
  rw [Ke1.eq_def]
  simp [e0,f0,i0,Ke2.eq_def,Kpe,w0,Kdb]
 obtain ⟨m,p,hm,h15,hcg,hq,P⟩:=C.box z0
 have w0:Kpb c0=true:=C.boxB.2 z0
 have hle:=sLe hs.tab (Kvf hs) hg
 cases hl:le s n 1 g with
 | false =>
  have hl2:K9v (s,1,(g:Int))=some false:=by rw [← hl]; exact hle
  refine Ky9.bad (f:=8) (p:=[]) ?_ (Kxf (by omega) (Kyd (m:=[]) rfl (Kym (by decide)) r0 (by simp; omega) f0 (by rw [ht0,Kxp hs hg,if_pos z0,hl]; rfl) (by decide))) (by decide) (by simp; omega)
  rw [Ke1.eq_def]
  simp [e0,f0,i0,Ke2.eq_def,Kpe,w0,hl2,Kdb]
 | true =>
 have hl2:K9v (s,1,(g:Int))=some true:=by rw [← hl]; exact hle
 have o0:=Kyf (out:=[]) (nd:=[]) (us:=[]) (w:=0) (t:=⟨12,(g:Int),ty,[k0,k1]⟩) (m:=[]) rfl (Kym (by decide)) r0 (by simp; omega) f0 (by rw [ht0,Kxp hs hg,if_pos z0,hl]; rfl) (Kxh (show (12:Int) ≠ 10 by decide)) na (by simp <;> omega) (by simp) (by simp) (by simp) (by simp)
 have hp0:Kcz (x0.fty,0)=some p:=by rw [hq,hcg]; exact P.p0
 have ad:Kna (⟨12,(g:Int),ty,[k0,k1]⟩,((1:Nat):Int),y0.fty)=some [p]:=by rw [r0.ty,hq,hcg]; exact Kyl P
 have hm':∀ z ∈ [p],TyS s z:=fun z hz=>by simp at hz; rw [hz]; exact P.ya
 have hgr:Kd2 c0=some (m:Int):=by rw [hcg]; exact Kza m h15
 have m1:Kx4 ⟨12,(g:Int),ty,[k0,k1]⟩ [y0] 1=some [p]:=Kyo (by decide) ad
 have p1':Kwz s ([p] ++ ctx).length k1 (tsz (⟨12,(g:Int),ty,[k0,k1]⟩:K00)):=by
  have e:([p] ++ ctx).length=ctx.length + Kqo 12 1:=by simp [Kqo]
  rw [e]; exact p1
 obtain ⟨x1,y1,r1⟩:=ih k1 ([p] ++ ctx) p1' (fun z hz=>by rcases List.mem_append.1 hz with hz | hz; exact hm' z hz; exact hc z hz) (by simp; omega)
 have hwc:=Kwb ctx [p] (by simp; omega)
 by_cases f1:x1.ffault=0
 rotate_left
 ·have e1:Ke3 (s,p :: ctx,⟨12,(g:Int),ty,[k0,k1]⟩,1)=some ⟨[],[],x1.ffault,1 :: x1.fpath⟩:=Kyb (i:=1) rfl r1 (by omega) f1
  refine Ky9.bad (f:=x1.ffault) (p:=1 :: x1.fpath) ?_ (Kxf (by omega) (o0.trans (Kyc (m:=[p]) rfl m1 r1 (by omega) (by simp; omega) f1))) f1 (by have:=r1.pl; simp; omega)
  rw [Ke1.eq_def]
  simp [e0,f0,i0,Ke2.eq_def,Kpe,w0,hl2,hp0,hwc,e1,f1]
 obtain ⟨g1,q1,b,nb,lb,bb⟩:=r1.gd f1
 obtain ⟨c1,t1,ht1,hn1,hz1⟩:=Kyv hs g1
 have L1:=Kwm g1
 have e1:Ke3 (s,p :: ctx,⟨12,(g:Int),ty,[k0,k1]⟩,1)=some x1:=Kya (i:=1) rfl r1 f1
 have lb':b.length=ctx.length + 1:=by rw [lb]; simp
 obtain ⟨u0,b',rfl⟩:∃ u0 b',b=u0 :: b':=by match b,lb' with | u0 :: b',_=>exact ⟨u0,b',rfl⟩ | [],h=>simp at h
 obtain ⟨hu0,bb'⟩:=Kvp bb
 have o1:=Kyf (out:=[y0]) (nd:=[Kv8 a]) (us:=[Kv8 []]) (w:=1) (t:=⟨12,(g:Int),ty,[k0,k1]⟩) (m:=[p]) rfl m1 r1 (by simp; omega) f1 (by rw [ht1]; exact Kxj (.inr (by decide))) (Kxh (show (12:Int) ≠ 10 by decide)) nb (by simp <;> omega) (by simp) (by simp) (by simp) (by simp)
 simp only [List.length_cons,List.length_nil,Nat.zero_add,List.drop_succ_cons,List.drop_zero,List.take_succ_cons,List.take_zero,List.nil_append] at o1
 have hl0:=o0.trans (o1.trans (Kx7 (Nat.le_refl _)))
 have lbc:b'.length=ctx.length:=by simp at lb'; omega
 have i1:idx x1.fneeds 0=some (u0:Int):=by rw [nb]; rfl
 have hcut:cut x1.fneeds (some (1:Int)) none none=some (Kv8 b'):=by
  rw [nb]
  have:=Kx9 (l:=Kv8 (u0 :: b')) (m:=1) (by simp [Kv8])
  exact this
 have hcp:=Krg (Kv8 b') (by rw [Kv9]; omega)
 have hmul:=Kog hs.tab hg hm
 have htm:=Kob hs.tab hg hm
 have hle0:=sLe hs.tab hu0 htm
 have hf:=Ky5 (ty:=ty) (ks:=[k0,k1]) (ctx:=ctx) (z:=Kv8 (List.replicate ctx.length 0)) (y0:=y0) (y1:=y1) (us':=Kv8 []) (u:=[u0]) hs hg hm (p:=p) (by rw [r0.ty,hq,hcg]) (fun x hx=>by simp at hx; rw [hx]; exact hu0) (by simp) ba bb' (by omega) (by omega) (by rw [r1.ty]; omega)
 simp only [List.all_cons,List.all_nil,Bool.and_true] at hf
 have es:=e1
 cases hal:(le s n u0 (ti s n g m)) with
 | false =>
  rw [hal,if_neg (by decide)] at hf
  refine Ky9.bad (f:=9) (p:=[]) ?_ (Kxg (by omega) hl0 hf) (by decide) (by simp; omega)
  rw [Ke1.eq_def]
  simp [e0,f0,i0,Ke2.eq_def,Kpe,w0,hl2,hp0,hwc,e1,f1,i1,hcut,hcp,hgr,hmul,hle0,hal,Kdb]
 | true =>
  rw [hal,if_pos rfl] at hf
  have im:=Kyr (q:=y1.fty) (ns:=Kvl s n (Kvm s n g a) b') (kids:=[y0,y1]) (by rw [r1.ty]; omega) (Kxg (by omega) hl0 hf)
  rw [r1.ty] at im
  have lsc:(Kvm s n g a).length=ctx.length:=by unfold Kvm; rw [List.length_map]; exact la
  have hsc:=Kvs hs hg ba
  have hz0:=Kvv hs hsc
  rw [lsc] at hz0
  have hsum:=Kvx hs g hg (List.replicate ctx.length 0) a (fun x hx=>by rw [List.eq_of_mem_replicate hx]; exact Kvg hs) ba (by simp; omega) (by simp [la])
  rw [hz0] at hsum
  have hs2:=Kvy hs (Kvm s n g a) b' hsc bb' (by omega) (by omega)
  refine Ky9.good (q:=x1.fty) (ns:=Kvl s n (Kvm s n g a) b') (kids:=[y0,y1]) ?_ im (by omega) g1 (by unfold Kvl; rw [List.length_zipWith]; omega) (Kvr hs hsc bb') rfl (kd2 (Ky8.mk' (Kyg (by decide) rfl) r0 f0 (fun _ h=>by cases h) rfl) (Ky8.mk' ad r1 f1 hm' rfl))
  rw [Ke1.eq_def]
  simp [e0,f0,i0,Ke2.eq_def,Kpe,w0,hl2,hp0,hwc,e1,f1,i1,hcut,hcp,hgr,hmul,hle0,hal,na,Kwa ctx.length (by omega),hsum,hs2]
theorem Kzg (ih:Kyq s n (tsz (⟨8,N,ty,ks⟩:K00))) (h:tOk (gN s.fSize true) (yN s.fSize true) ctx.length ⟨8,N,ty,ks⟩=true) (hc:∀ q ∈ ctx,TyS s q) (hb:ctx.length + 2 * tsz (⟨8,N,ty,ks⟩:K00) ≤ 1000000):∃ x y,Ky9 s n ctx ⟨8,N,ty,ks⟩ x y:=by
 obtain ⟨k0,k1,k2,rfl,p0,p1,p2⟩:=nd3 h (Nat.le_refl _) rfl
 have hz:=Kv3 8 N ty k0 k1 k2
 obtain ⟨g,hN,hg⟩:=Kwy hs (Kx0 h rfl)
 simp only at hN
 subst hN
 obtain ⟨x0,y0,r0⟩:=ih k0 ctx p0 hc (by omega)
 by_cases f0:x0.ffault=0
 rotate_left
 ·exact Kys (by decide) (by decide) (by decide) hb r0 f0
 obtain ⟨g0,q0,a,na,la,ba⟩:=r0.gd f0
 obtain ⟨c0,t0,ht0,hn0,hz0⟩:=Kyv hs g0
 have L0:=Kwm g0
 have e0:Ke3 (s,ctx,⟨8,(g:Int),ty,[k0,k1,k2]⟩,0)=some x0:=Kya (i:=0) rfl r0 f0
 have C:=Kzc hs g0 ht0
 have i0:idx x0.fty 0=some c0:=by rw [ht0]; rfl
 by_cases z0:(Kph c0).1=2
 rotate_left
 ·have w0:c0 ≠ 2:=fun h=>z0 (C.two.1 h)
  refine Ky9.bad (f:=5) (p:=[]) ?_ (Kxf (by omega) (Kyd (m:=[]) rfl (Kym (by decide)) r0 (by simp; omega) f0 (by rw [ht0,Kxo hs hg,if_neg z0]) (by decide))) (by decide) (by simp; omega)
  rw [Ke1.eq_def]
  simp [e0,f0,i0,Ke2.eq_def,w0,Kdb]
 obtain ⟨p,q,hcg,hq,P⟩:=C.sum z0
 have hle:=sLe hs.tab (Kvf hs) hg
 cases hl:le s n 1 g with
 | false =>
  have hl2:K9v (s,1,(g:Int))=some false:=by rw [← hl]; exact hle
  refine Ky9.bad (f:=8) (p:=[]) ?_ (Kxf (by omega) (Kyd (m:=[]) rfl (Kym (by decide)) r0 (by simp; omega) f0 (by rw [ht0,Kxo hs hg,if_pos z0,hl]; rfl) (by decide))) (by decide) (by simp; omega)
  rw [Ke1.eq_def]
  simp [e0,f0,i0,Ke2.eq_def,hcg,hl2,Kdb]
 | true =>
 have hl2:K9v (s,1,(g:Int))=some true:=by rw [← hl]; exact hle
 have o0:=Kyf (out:=[]) (nd:=[]) (us:=[]) (w:=0) (t:=⟨8,(g:Int),ty,[k0,k1,k2]⟩) (m:=[]) rfl (Kym (by decide)) r0 (by simp; omega) f0 (by rw [ht0,Kxo hs hg,if_pos z0,hl]; rfl) (Kxh (show (8:Int) ≠ 10 by decide)) na (by simp <;> omega) (by simp) (by simp) (by simp) (by simp)
 have hp0:Kcz (x0.fty,0)=some p:=by rw [hq,hcg]; exact P.p0
 have hp1:Kcz (x0.fty,1)=some q:=by rw [hq,hcg]; exact P.p1
 have ad1:Kna (⟨8,(g:Int),ty,[k0,k1,k2]⟩,((1:Nat):Int),y0.fty)=some [p]:=by rw [r0.ty,hq,hcg]; exact Kyj P
 have ad2:Kna (⟨8,(g:Int),ty,[k0,k1,k2]⟩,((2:Nat):Int),y0.fty)=some [q]:=by rw [r0.ty,hq,hcg]; exact Kyk P
 have hm1:∀ z ∈ [p],TyS s z:=fun z hz=>by simp at hz; rw [hz]; exact P.ya
 have hm2:∀ z ∈ [q],TyS s z:=fun z hz=>by simp at hz; rw [hz]; exact P.yb
 have m1:Kx4 ⟨8,(g:Int),ty,[k0,k1,k2]⟩ [y0] 1=some [p]:=Kyo (by decide) ad1
 have p1':Kwz s ([p] ++ ctx).length k1 (tsz (⟨8,(g:Int),ty,[k0,k1,k2]⟩:K00)):=by
  have e:([p] ++ ctx).length=ctx.length + Kqo 8 1:=by simp [Kqo]
  rw [e]; exact p1
 obtain ⟨x1,y1,r1⟩:=ih k1 ([p] ++ ctx) p1' (fun z hz=>by rcases List.mem_append.1 hz with hz | hz; exact hm1 z hz; exact hc z hz) (by simp; omega)
 have hw1:=Kwb ctx [p] (by simp; omega)
 by_cases f1:x1.ffault=0
 rotate_left
 ·have e1:Ke3 (s,p :: ctx,⟨8,(g:Int),ty,[k0,k1,k2]⟩,1)=some ⟨[],[],x1.ffault,1 :: x1.fpath⟩:=Kyb (i:=1) rfl r1 (by omega) f1
  refine Ky9.bad (f:=x1.ffault) (p:=1 :: x1.fpath) ?_ (Kxf (by omega) (o0.trans (Kyc (m:=[p]) rfl m1 r1 (by omega) (by simp; omega) f1))) f1 (by have:=r1.pl; simp; omega)
  rw [Ke1.eq_def]
  simp [e0,f0,i0,Ke2.eq_def,hcg,hl2,hp0,hp1,hw1,e1,f1]
 obtain ⟨g1,q1,b,nb,lb,bb⟩:=r1.gd f1
 obtain ⟨c1,t1,ht1,hn1,hz1⟩:=Kyv hs g1
 have L1:=Kwm g1
 have e1:Ke3 (s,p :: ctx,⟨8,(g:Int),ty,[k0,k1,k2]⟩,1)=some x1:=Kya (i:=1) rfl r1 f1
 have lb':b.length=ctx.length + 1:=by rw [lb]; simp
 obtain ⟨u0,b',rfl⟩:∃ u0 b',b=u0 :: b':=by match b,lb' with | u0 :: b',_=>exact ⟨u0,b',rfl⟩ | [],h=>simp at h
 obtain ⟨hu0,bb'⟩:=Kvp bb
 have lbc:b'.length=ctx.length:=by simp at lb'; omega
 have i1:idx x1.fneeds 0=some (u0:Int):=by rw [nb]; rfl
 have hcut1:cut x1.fneeds (some (1:Int)) none none=some (Kv8 b'):=by rw [nb]; exact Ktu _ _
 have hcp1:=Krg (Kv8 b') (by rw [Kv9]; omega)
 have o1:=Kyf (out:=[y0]) (nd:=[Kv8 a]) (us:=[Kv8 []]) (w:=1) (t:=⟨8,(g:Int),ty,[k0,k1,k2]⟩) (m:=[p]) rfl m1 r1 (by simp; omega) f1 (by rw [ht1]; exact Kxj (.inr (by decide))) (Kxh (show (8:Int) ≠ 10 by decide)) nb (by simp <;> omega) (by simp) (by simp) (by simp) (by simp)
 simp only [List.length_cons,List.length_nil,Nat.zero_add,List.drop_succ_cons,List.drop_zero,List.take_succ_cons,List.take_zero,List.nil_append,List.cons_append] at o1
 have m2:Kx4 ⟨8,(g:Int),ty,[k0,k1,k2]⟩ [y0,y1] 2=some [q]:=Kyo (by decide) ad2
 have p2':Kwz s ([q] ++ ctx).length k2 (tsz (⟨8,(g:Int),ty,[k0,k1,k2]⟩:K00)):=by
  have e:([q] ++ ctx).length=ctx.length + Kqo 8 2:=by simp [Kqo]
  rw [e]; exact p2
 obtain ⟨x2,y2,r2⟩:=ih k2 ([q] ++ ctx) p2' (fun z hz=>by rcases List.mem_append.1 hz with hz | hz; exact hm2 z hz; exact hc z hz) (by simp; omega)
 have hw2:=Kwb ctx [q] (by simp; omega)
 by_cases f2:x2.ffault=0
 rotate_left
 ·have e2:Ke3 (s,q :: ctx,⟨8,(g:Int),ty,[k0,k1,k2]⟩,2)=some ⟨[],[],x2.ffault,2 :: x2.fpath⟩:=Kyb (i:=2) rfl r2 (by omega) f2
  refine Ky9.bad (f:=x2.ffault) (p:=2 :: x2.fpath) ?_ (Kxf (by omega) (o0.trans (o1.trans (Kyc (m:=[q]) rfl m2 r2 (by omega) (by simp; omega) f2)))) f2 (by have:=r2.pl; simp; omega)
  rw [Ke1.eq_def]
  simp [e0,f0,i0,Ke2.eq_def,hcg,hl2,hp0,hp1,hw1,e1,f1,hcut1,hcp1,hw2,e2,f2]
 obtain ⟨g2,q2,d,nd,ld,bd⟩:=r2.gd f2
 obtain ⟨c2,t2,ht2,hn2,hz2⟩:=Kyv hs g2
 have L2:=Kwm g2
 have e2:Ke3 (s,q :: ctx,⟨8,(g:Int),ty,[k0,k1,k2]⟩,2)=some x2:=Kya (i:=2) rfl r2 f2
 have ld':d.length=ctx.length + 1:=by rw [ld]; simp
 obtain ⟨v0,d',rfl⟩:∃ v0 d',d=v0 :: d':=by match d,ld' with | v0 :: d',_=>exact ⟨v0,d',rfl⟩ | [],h=>simp at h
 obtain ⟨hv0,bd'⟩:=Kvp bd
 have ldc:d'.length=ctx.length:=by simp at ld'; omega
 have i2:idx x2.fneeds 0=some (v0:Int):=by rw [nd]; rfl
 have hcut2:cut x2.fneeds (some (1:Int)) none none=some (Kv8 d'):=by rw [nd]; exact Ktu _ _
 have o2:=Kyf (out:=[y0,y1]) (nd:=[Kv8 a,Kv8 b']) (us:=[Kv8 [],Kv8 [u0]]) (w:=2) (t:=⟨8,(g:Int),ty,[k0,k1,k2]⟩) (m:=[q]) rfl m2 r2 (by simp; omega) f2 (by rw [ht2]; exact Kxj (.inr (by decide))) (Kxh (show (8:Int) ≠ 10 by decide)) nd (by simp <;> omega) (by simp) (by simp) (by simp) (by simp)
 simp only [List.length_cons,List.length_nil,Nat.zero_add,List.drop_succ_cons,List.drop_zero,List.take_succ_cons,List.take_zero,List.nil_append,List.cons_append] at o2
 have hl0:=o0.trans (o1.trans (o2.trans (Kx7 (Nat.le_refl _))))
 have hle0:=sLe hs.tab hu0 hg
 have hle1:=sLe hs.tab hv0 hg
 have hf:=Ky6 (ty:=ty) (ks:=[k0,k1,k2]) (ctx:=ctx) (z:=Kv8 (List.replicate ctx.length 0)) (y0:=y0) (y1:=y1) (y2:=y2) (us':=Kv8 []) (u:=[u0]) (v:=[v0]) hs hg (fun x hx=>by simp at hx; rw [hx]; exact hu0) (by simp) (fun x hx=>by simp at hx; rw [hx]; exact hv0) (by simp) ba bb' bd' (by omega) (by omega) (by omega) (by rw [r2.ty]; omega) (by rw [r1.ty]; omega)
 simp only [List.all_cons,List.all_nil,Bool.and_true] at hf
 rw [r1.ty,r2.ty] at hf
 have hsm:=Ku5 x1.fty x2.fty (by omega)
 have hj:=Kw0 hs b' d' bb' bd' (by omega) (by omega)
 have lj:(Kvn s n b' d').length=ctx.length:=by unfold Kvn; rw [List.length_zipWith]; omega
 by_cases hqq:x1.fty=x2.fty
 rotate_left
 ·rw [if_neg hqq] at hf
  rw [show (x1.fty == x2.fty)=false from beq_eq_false_iff_ne.2 hqq] at hsm
  refine Ky9.bad (f:=3) (p:=[]) ?_ (Kxg (by omega) hl0 hf) (by decide) (by simp; omega)
  rw [Ke1.eq_def]
  simp [e0,f0,i0,Ke2.eq_def,hcg,hl2,hp0,hp1,hw1,e1,f1,hcut1,hcp1,hw2,e2,f2,hsm,Kdb]
 rw [if_pos hqq] at hf
 rw [show (x1.fty == x2.fty)=true from beq_iff_eq.2 hqq] at hsm
 by_cases hal:le s n u0 g=true∧le s n v0 g=true
 rotate_left
 ·rw [if_neg hal] at hf
  refine Ky9.bad (f:=9) (p:=[]) ?_ (Kxg (by omega) hl0 hf) (by decide) (by simp; omega)
  rw [Ke1.eq_def]
  simp [e0,f0,i0,Ke2.eq_def,hcg,hl2,hp0,hp1,hw1,e1,f1,hcut1,hcp1,hw2,e2,f2,hsm,i1,i2,hle0,hle1,hcut2,hj,Kdb]
  cases q1:le s n v0 g with
  | false=>simp
  | true =>
   cases q2:le s n u0 g with
   | false=>simp
   | true=>exact absurd ⟨q2,q1⟩ hal
 rw [if_pos hal] at hf
 have im:=Kyr (q:=x1.fty) (ns:=Kvl s n (Kvm s n g a) (Kvn s n b' d')) (kids:=[y0,y1,y2]) (by omega) (Kxg (by omega) hl0 hf)
 have lsc:(Kvm s n g a).length=ctx.length:=by unfold Kvm; rw [List.length_map]; exact la
 have hsc:=Kvs hs hg ba
 have hz0:=Kvv hs hsc
 rw [lsc] at hz0
 have hsum:=Kvx hs g hg (List.replicate ctx.length 0) a (fun x hx=>by rw [List.eq_of_mem_replicate hx]; exact Kvg hs) ba (by simp; omega) (by simp [la])
 rw [hz0] at hsum
 have hs2:=Kvy hs (Kvm s n g a) (Kvn s n b' d') hsc (Kvt hs bb' bd') (by omega) (by omega)
 refine Ky9.good (q:=x1.fty) (ns:=Kvl s n (Kvm s n g a) (Kvn s n b' d')) (kids:=[y0,y1,y2]) ?_ im (by omega) g1 (by unfold Kvl; rw [List.length_zipWith]; omega) (Kvr hs hsc (Kvt hs bb' bd')) rfl (kd3 (Ky8.mk' (Kyg (by decide) rfl) r0 f0 (fun _ h=>by cases h) rfl) (Ky8.mk' ad1 r1 f1 hm1 rfl) (Ky8.mk' ad2 r2 f2 hm2 rfl))
 rw [Ke1.eq_def]
 simp [e0,f0,i0,Ke2.eq_def,hcg,hl2,hp0,hp1,hw1,e1,f1,hcut1,hcp1,hw2,e2,f2,hsm,i1,i2,hle0,hle1,hal.1,hal.2,hcut2,hj,na,Kwa ctx.length (by omega),hsum,hs2]
theorem Kzh:∀ (m:Nat) (t:K00) (ctx:List (List Int)),tsz t ≤ m→tOk (gN s.fSize true) (yN s.fSize true) ctx.length t=true→(∀ q ∈ ctx,TyS s q)→ctx.length + 2 * tsz t ≤ 1000000→∃ x y,Ky9 s n ctx t x y
 | 0,t,ctx,hm,_,_,_=>by obtain ⟨op,N,ty,ks⟩:=t; rw [tsz] at hm; omega
 | m + 1,t,ctx,hm,h,hc,hb=>by
  have ih:Kyq s n (tsz t):=fun k c hk hc hb=>Kzh m k c (by have:=hk.sz; omega) hk.ok hc hb
  obtain ⟨op,N,ty,ks⟩:=t
  have hop:=(Kre (Krb h).1).1
  simp only at hop
  rcases Kqi hop with rfl | rfl | rfl | rfl | rfl | rfl | rfl | rfl | rfl | rfl | rfl | rfl | rfl
  ·exact Kyt hs rfl h hc hb
  ·exact Kyu hs rfl h hb
  ·exact Kz1 hs ih h hc hb
  ·exact Kz2 hs ih h hc hb
  ·exact Kz0 hs ih h hc hb
  ·exact Kze hs ih h hc hb
  ·exact Kyw hs ih h hc hb
  ·exact Kyx hs ih h hc hb
  ·exact Kzg hs ih h hc hb
  ·exact Kyz hs ih h hc hb
  ·exact Kzd hs ih h hc hb
  ·exact Kyy hs ih h hc hb
  ·exact Kzf hs ih h hc hb
end
end Go.Am
