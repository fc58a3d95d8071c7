/- Plain laws of the printed functions. -/
import Derived.Test.YtckgdfakjjdodaaGreatPVAL0
set_option linter.unusedSimpArgs false
set_option linter.unusedVariables false
namespace Go.Am
def Kv1 (l:List Nat):List Int:=l.map fun x:Nat=>(x:Int)
theorem Kv2 (l:List Nat):(Kv1 l).length=l.length:=List.length_map ..
theorem Kv3 (l:List Nat) (i:Nat):(Kv1 l).drop i=Kv1 (l.drop i):=(List.map_drop ..).symm
theorem Kv4 (l:List Nat) (i:Nat):(Kv1 l).take i=Kv1 (l.take i):=(List.map_take ..).symm
theorem Kv5 {l r:List Nat} {x i:Nat} (h:l.drop i=x :: r):i < l.length∧idx (Kv1 l) (i:Int)=some (x:Int)∧l.drop (i + 1)=r:=by
 have h2:(Kv1 l).drop i=(x:Int) :: Kv1 r:=by rw [Kv3,h]; rfl
 obtain ⟨q1,q2,q3⟩:=Kpf h2
 rw [Kv2] at q1
 refine ⟨q1,q2,?_⟩
 rw [← List.drop_drop,h]
 rfl
structure Kv6 (s:K00) (n:Nat):Prop where
 tab:Tab s n
 one:∀ a,a < n→Kos s n a=true
 two:∀ a b,a < n→b < n→Kp5 s n a b=true
theorem Kv7 {s:K00} (h:Ks1 s=true):Kv6 s s.fSize.toNat:=by
 have ht:=Ks2 h
 unfold Ks1 at h
 simp only [Bool.and_eq_true] at h
 have hm:=h.2
 unfold Kp8 at hm
 rw [List.all_eq_true] at hm
 refine ⟨ht,fun a ha=>?_,fun a b ha hb=>?_⟩
 ·have:=hm a (by rw [List.mem_range'_1]; omega)
  simp only [Bool.and_eq_true] at this
  exact this.1
 ·have:=hm a (by rw [List.mem_range'_1]; omega)
  simp only [Bool.and_eq_true,List.all_eq_true] at this
  exact (this.2 b (by rw [List.mem_range'_1]; omega)).1
section
variable {s:K00} {n:Nat} (hs:Kv6 s n)
include hs
theorem Kv8:1 < n:=by have:=hs.tab.lo; omega
theorem Kv9:0 < n:=by have:=hs.tab.lo; omega
theorem Kva {a:Nat} (ha:a < n):pl s n 0 a=a:=by
 have:=hs.one a ha
 simp only [Kos,Bool.and_eq_true,beq_iff_eq] at this
 exact this.1.1.1.1.1
theorem Kvb {a:Nat} (ha:a < n):ti s n 1 a=a:=by
 have:=hs.one a ha
 simp only [Kos,Bool.and_eq_true,beq_iff_eq] at this
 exact this.1.1.1.1.2
def Kvc (s:K00) (n a b:Nat):Nat:=(Koy s n a b).toNat
theorem Kvd {a b:Nat} (ha:a < n) (hb:b < n):Koy s n a b=((Kvc s n a b:Nat):Int)∧Kvc s n a b < n:=by
 have h:=hs.two a b ha hb
 simp only [Kp5,Bool.and_eq_true,decide_eq_true_eq] at h
 have h0:=h.2
 unfold Kvc
 refine ⟨by omega,?_⟩
 unfold Koy at h0 ⊢
 cases hf:(List.range' 0 n).find? (jok s n a b) with
 | none=>rw [hf] at h0; exact absurd h0 (by decide)
 | some g =>
  have:=List.mem_of_find?_eq_some hf
  rw [List.mem_range'_1] at this
  simp only [Int.toNat_natCast]
  omega
end
def Kve (s:K00) (n:Nat) (a b:List Nat):List Nat:=List.zipWith (pl s n) a b
def Kvf (s:K00) (n g:Nat) (a:List Nat):List Nat:=a.map (ti s n g)
def Kvg (s:K00) (n:Nat) (a b:List Nat):List Nat:=List.zipWith (Kvc s n) a b
def Kvh (n:Nat) (l:List Nat):Prop:=∀ x ∈ l,x < n
theorem Kvi {n x:Nat} {l:List Nat} (h:Kvh n (x :: l)):x < n∧Kvh n l:=⟨h x List.mem_cons_self,fun y hy=>h y (List.mem_cons_of_mem _ hy)⟩
theorem Kvj {n:Nat} {l:List Nat} (h:Kvh n l) (i:Nat):Kvh n (l.drop i):=fun x hx=>h x (List.mem_of_mem_drop hx)
section
variable {s:K00} {n:Nat} (hs:Kv6 s n)
include hs
theorem Kvk:∀ {a b:List Nat},Kvh n a→Kvh n b→Kvh n (Kve s n a b)
 | [],_,_,_=>fun x hx=>by cases hx
 | _ :: _,[],_,_=>fun x hx=>by cases hx
 | x :: a,y :: b,ha,hb=>fun z hz=>by
  obtain ⟨h1,h2⟩:=Kvi ha
  obtain ⟨h3,h4⟩:=Kvi hb
  rcases List.mem_cons.1 hz with rfl | hz
  ·exact Koh hs.tab h1 h3
  ·exact Kvk h2 h4 z hz
theorem Kvl {g:Nat} (hg:g < n) {a:List Nat} (ha:Kvh n a):Kvh n (Kvf s n g a):=fun x hx=>by
 obtain ⟨y,hy,rfl⟩:=List.mem_map.1 hx
 exact Koi hs.tab hg (ha y hy)
theorem Kvm:∀ {a b:List Nat},Kvh n a→Kvh n b→Kvh n (Kvg s n a b)
 | [],_,_,_=>fun x hx=>by cases hx
 | _ :: _,[],_,_=>fun x hx=>by cases hx
 | x :: a,y :: b,ha,hb=>fun z hz=>by
  obtain ⟨h1,h2⟩:=Kvi ha
  obtain ⟨h3,h4⟩:=Kvi hb
  rcases List.mem_cons.1 hz with rfl | hz
  ·exact (Kvd hs h1 h3).2
  ·exact Kvm h2 h4 z hz
theorem Kvn {a:List Nat} (ha:Kvh n a):Kvf s n 1 a=a:=by
 induction a with
 | nil=>rfl
 | cons x a ih =>
  obtain ⟨h1,h2⟩:=Kvi ha
  show ti s n 1 x :: Kvf s n 1 a=_
  rw [Kvb hs h1,ih h2]
theorem Kvo {a:List Nat} (ha:Kvh n a):Kve s n (List.replicate a.length 0) a=a:=by
 induction a with
 | nil=>rfl
 | cons x a ih =>
  obtain ⟨h1,h2⟩:=Kvi ha
  show pl s n 0 x :: Kve s n (List.replicate a.length 0) a=_
  rw [Kva hs h1,ih h2]
theorem Kvp (g:Nat) (hg:g < n) (a b:List Nat) (ha:Kvh n a) (hb:Kvh n b) (hl:a.length ≤ 1099511627776):∀ (al bl:List Nat) (i:Nat) (out:List Int),a.drop i=al→b.drop i=bl→al.length=bl.length→out.length + al.length ≤ 1099511627776 →
  Knz (s,Kv1 a,(g:Int),Kv1 b,out,(i:Int))=some (out ++ Kv1 (Kve s n al (Kvf s n g bl))):=by
 intro al
 induction al with
 | nil =>
  intro bl i out hd _ _ _
  rw [Knz.eq_def]
  simp only
  rw [Kv2,Kod (Kpg hd)]
  simp [Kve,Kv1]
 | cons x al ih =>
  intro bl i out hd hd2 hll ho
  cases bl with
  | nil=>simp at hll
  | cons y bl =>
   obtain ⟨h1,h2,h3⟩:=Kv5 hd
   obtain ⟨k1,k2,k3⟩:=Kv5 hd2
   have hx:x < n:=Kvj ha i x (by rw [hd]; exact List.mem_cons_self)
   have hy:y < n:=Kvj hb i y (by rw [hd2]; exact List.mem_cons_self)
   rw [Knz.eq_def]
   simp only
   simp only [List.length_cons] at ho hll
   rw [Kv2,Koc h1,if_pos rfl,h2,bs,k2,bs,Kon hs.tab hg hy,bs,Kom hs.tab hx (Koi hs.tab hg hy),bs,Krc (by simp; omega),bs,Kob (by omega),ih bl (i + 1) _ h3 k3 (by omega) (by simp; omega)]
   rw [List.append_assoc]
   rfl
theorem Kvq (g:Nat) (hg:g < n) (a b:List Nat) (ha:Kvh n a) (hb:Kvh n b) (hl:a.length ≤ 1048576) (hab:a.length=b.length):Ko0 (s,Kv1 a,(g:Int),Kv1 b)=some (Kv1 (Kve s n a (Kvf s n g b))):=by
 unfold Ko0
 simp only
 rw [show (0:Int)=((0:Nat):Int) from rfl,Kvp hs g hg a b ha hb (by omega) a b 0 [] rfl rfl hab (by simp; omega)]
 rfl
theorem Kvr (a b:List Nat) (ha:Kvh n a) (hb:Kvh n b) (hl:a.length ≤ 1048576) (hab:a.length=b.length):Ko0 (s,Kv1 a,1,Kv1 b)=some (Kv1 (Kve s n a b)):=by
 have:=Kvq hs 1 (Kv8 hs) a b ha hb hl hab
 rw [Kvn hs hb] at this
 exact this
theorem Kvs (a b:List Nat) (ha:Kvh n a) (hb:Kvh n b) (hl:a.length ≤ 1099511627776):∀ (al bl:List Nat) (i:Nat) (out:List Int),a.drop i=al→b.drop i=bl→al.length=bl.length→out.length + al.length ≤ 1099511627776 →
  Ko2 (s,Kv1 a,Kv1 b,out,(i:Int))=some (out ++ Kv1 (Kvg s n al bl)):=by
 intro al
 induction al with
 | nil =>
  intro bl i out hd _ _ _
  rw [Ko2.eq_def]
  simp only
  rw [Kv2,Kod (Kpg hd)]
  simp [Kvg,Kv1]
 | cons x al ih =>
  intro bl i out hd hd2 hll ho
  cases bl with
  | nil=>simp at hll
  | cons y bl =>
   obtain ⟨h1,h2,h3⟩:=Kv5 hd
   obtain ⟨k1,k2,k3⟩:=Kv5 hd2
   have hx:x < n:=Kvj ha i x (by rw [hd]; exact List.mem_cons_self)
   have hy:y < n:=Kvj hb i y (by rw [hd2]; exact List.mem_cons_self)
   rw [Ko2.eq_def]
   simp only
   simp only [List.length_cons] at ho hll
   rw [Kv2,Koc h1,if_pos rfl,h2,bs,k2,bs,Kp3 hs.tab hx hy,bs,(Kvd hs hx hy).1,Krc (by simp; omega),bs,Kob (by omega),ih bl (i + 1) _ h3 k3 (by omega) (by simp; omega)]
   rw [List.append_assoc]
   rfl
theorem Kvt (a b:List Nat) (ha:Kvh n a) (hb:Kvh n b) (hl:a.length ≤ 1048576) (hab:a.length=b.length):Ko3 (s,Kv1 a,Kv1 b)=some (Kv1 (Kvg s n a b)):=by
 unfold Ko3
 simp only
 rw [show (0:Int)=((0:Nat):Int) from rfl,Kvs hs a b ha hb (by omega) a b 0 [] rfl rfl hab (by simp; omega)]
 rfl
end
theorem Kvu {α:Type} {out:List α} {i:Nat} (h:i < out.length) (x:α):(out.set i x).take (i + 1)=out.take i ++ [x]:=by
 rw [List.take_set,List.take_succ_eq_append_getElem h,List.set_append_right _ _ (by simp; omega)]
 simp [Nat.min_eq_left (Nat.le_of_lt h)]
section
variable {s:K00} {n:Nat} (hs:Kv6 s n)
include hs
theorem Kvv (a b:List Nat) (ha:Kvh n a) (hb:Kvh n b) (hl:a.length ≤ 1099511627776):∀ (al bl:List Nat) (i:Nat) (out:List Int),a.drop i=al→b.drop i=bl→al.length=bl.length→out.length=a.length →
  Kj5 (s,Kv1 a,Kv1 b,out,(i:Int))=some (out.take i ++ Kv1 (Kve s n al bl)):=by
 intro al
 induction al with
 | nil =>
  intro bl i out hd _ _ ho
  rw [Kj5.eq_def]
  simp only
  have:=Kpg hd
  rw [Kv2,Kod this]
  simp [Kve,Kv1,List.take_of_length_le (show out.length ≤ i by omega)]
 | cons x al ih =>
  intro bl i out hd hd2 hll ho
  cases bl with
  | nil=>simp at hll
  | cons y bl =>
   obtain ⟨h1,h2,h3⟩:=Kv5 hd
   obtain ⟨k1,k2,k3⟩:=Kv5 hd2
   have hx:x < n:=Kvj ha i x (by rw [hd]; exact List.mem_cons_self)
   have hy:y < n:=Kvj hb i y (by rw [hd2]; exact List.mem_cons_self)
   rw [Kj5.eq_def]
   simp only
   simp only [List.length_cons] at hll
   have hio:i < out.length:=by omega
   rw [Kv2,Koc h1,if_pos rfl,h2,bs,k2,bs,Koo hs.tab hx hy,bs,Koa hio,bs,Kob (by omega),Int.toNat_natCast,ih bl (i + 1) _ h3 k3 (by omega) (by rw [List.length_set]; exact ho)]
   rw [Kvu hio,List.append_assoc]
   rfl
theorem Kvw (a b:List Nat) (ha:Kvh n a) (hb:Kvh n b) (hl:a.length ≤ 1048576) (hab:a.length=b.length):Kjb (⟨s⟩,Kv1 a,Kv1 b)=some (Kv1 (Kve s n a b)):=by
 unfold Kjb Kj8
 simp only
 rw [Kv2,Ktv (by simp; omega),bs,Int.toNat_natCast,show (0:Int)=((0:Nat):Int) from rfl]
 rw [show (List.replicate a.length (((0:Nat):Int)))=List.replicate a.length (0:Int) from rfl,Kvv hs a b ha hb (by omega) a b 0 _ rfl rfl hab (by simp)]
 rfl
theorem Kvx (a b:List Nat) (ha:Kvh n a) (hb:Kvh n b) (hl:a.length ≤ 1099511627776):∀ (al bl:List Nat) (i:Nat) (out:List Int),a.drop i=al→b.drop i=bl→al.length=bl.length→out.length=a.length →
  Kji (s,Kv1 a,Kv1 b,out,(i:Int))=some (out.take i ++ Kv1 (Kvg s n al bl)):=by
 intro al
 induction al with
 | nil =>
  intro bl i out hd _ _ ho
  rw [Kji.eq_def]
  simp only
  have:=Kpg hd
  rw [Kv2,Kod this]
  simp [Kvg,Kv1,List.take_of_length_le (show out.length ≤ i by omega)]
 | cons x al ih =>
  intro bl i out hd hd2 hll ho
  cases bl with
  | nil=>simp at hll
  | cons y bl =>
   obtain ⟨h1,h2,h3⟩:=Kv5 hd
   obtain ⟨k1,k2,k3⟩:=Kv5 hd2
   have hx:x < n:=Kvj ha i x (by rw [hd]; exact List.mem_cons_self)
   have hy:y < n:=Kvj hb i y (by rw [hd2]; exact List.mem_cons_self)
   rw [Kji.eq_def]
   simp only
   simp only [List.length_cons] at hll
   have hio:i < out.length:=by omega
   rw [Kv2,Koc h1,if_pos rfl,h2,bs,k2,bs,Kp4 hs.tab hx hy,bs,(Kvd hs hx hy).1,Koa hio,bs,Kob (by omega),Int.toNat_natCast,ih bl (i + 1) _ h3 k3 (by omega) (by rw [List.length_set]; exact ho)]
   rw [Kvu hio,List.append_assoc]
   rfl
theorem Kvy (a b:List Nat) (ha:Kvh n a) (hb:Kvh n b) (hl:a.length ≤ 1048576) (hab:a.length=b.length):Kjo (⟨s⟩,Kv1 a,Kv1 b)=some (Kv1 (Kvg s n a b)):=by
 unfold Kjo Kjl
 simp only
 rw [Kv2,Ktv (by simp; omega),bs,Int.toNat_natCast,show (0:Int)=((0:Nat):Int) from rfl]
 rw [show (List.replicate a.length (((0:Nat):Int)))=List.replicate a.length (0:Int) from rfl,Kvx hs a b ha hb (by omega) a b 0 _ rfl rfl hab (by simp)]
 rfl
theorem Kvz (g:Nat) (hg:g < n) (a:List Nat) (ha:Kvh n a) (hl:a.length ≤ 1099511627776):∀ (al:List Nat) (i:Nat) (out:List Int),a.drop i=al→out.length=a.length →
  Kkm (⟨s⟩,(g:Int),Kv1 a,out,(i:Int))=some (out.take i ++ Kv1 (Kvf s n g al)):=by
 intro al
 induction al with
 | nil =>
  intro i out hd ho
  rw [Kkm.eq_def]
  simp only
  have:=Kpg hd
  rw [Kv2,Kod this]
  simp [Kvf,Kv1,List.take_of_length_le (show out.length ≤ i by omega)]
 | cons x al ih =>
  intro i out hd ho
  obtain ⟨h1,h2,h3⟩:=Kv5 hd
  have hx:x < n:=Kvj ha i x (by rw [hd]; exact List.mem_cons_self)
  rw [Kkm.eq_def]
  simp only
  have hio:i < out.length:=by omega
  rw [Kv2,Koc h1,if_pos rfl,h2,bs,Kop hs.tab hg hx,bs,Koa hio,bs,Kob (by omega),Int.toNat_natCast,ih (i + 1) _ h3 (by rw [List.length_set]; exact ho)]
  rw [Kvu hio,List.append_assoc]
  rfl
theorem Kw0 (g:Nat) (hg:g < n) (a:List Nat) (ha:Kvh n a) (hl:a.length ≤ 1048576):Kkp (⟨s⟩,(g:Int),Kv1 a)=some (Kv1 (Kvf s n g a)):=by
 unfold Kkp
 simp only
 rw [Kv2,Ktv (by simp; omega),bs,Int.toNat_natCast,show (0:Int)=((0:Nat):Int) from rfl]
 rw [show (List.replicate a.length (((0:Nat):Int)))=List.replicate a.length (0:Int) from rfl,Kvz hs g hg a ha (by omega) a 0 _ rfl (by simp)]
 rfl
theorem Kw1 (g:Nat) (hg:g < n) (a:List Nat) (ha:Kvh n a) (hl:a.length ≤ 1099511627776):∀ (al:List Nat) (i:Nat),a.drop i=al →
  ∃ r,Kk9 (Kv1 a,⟨s⟩,(g:Int),(i:Int))=some r∧(match r with | .inl _=>(al.all fun x=>le s n x g)=true | .inr j=>(al.all fun x=>le s n x g)=false∧0 ≤ j):=by
 intro al
 induction al with
 | nil =>
  intro i hd
  rw [Kk9.eq_def]
  simp only
  rw [Kv2,Kod (Kpg hd)]
  exact ⟨_,rfl,rfl⟩
 | cons x al ih =>
  intro i hd
  obtain ⟨h1,h2,h3⟩:=Kv5 hd
  have hx:x < n:=Kvj ha i x (by rw [hd]; exact List.mem_cons_self)
  rw [Kk9.eq_def]
  simp only
  rw [Kv2,Koc h1,if_pos rfl,h2,bs]
  unfold Kk5
  simp only
  rw [iLe hs.tab hx hg]
  simp only [bs]
  cases hle:le s n x g with
  | true =>
   obtain ⟨r,hr,hm⟩:=ih (i + 1) h3
   refine ⟨r,?_,?_⟩
   ·rw [if_neg (by simp),Kob (by omega)]; exact hr
   ·rw [List.all_cons,hle,Bool.true_and]; exact hm
  | false =>
   exact ⟨_,if_pos rfl,by simp [List.all_cons,hle]⟩
theorem Kw2 (g:Nat) (hg:g < n) (a:List Nat) (ha:Kvh n a) (hl:a.length ≤ 1048576):Kki (⟨s⟩,Kv1 a,(g:Int))=some (a.all fun x=>le s n x g):=by
 obtain ⟨r,hr,hm⟩:=Kw1 hs g hg a ha (by omega) a 0 rfl
 unfold Kki Kkf Kkc
 simp only
 rw [show (0:Int)=((0:Nat):Int) from rfl,hr]
 cases r with
 | inl _=>simp only [bs] at hm ⊢; rw [hm]; rfl
 | inr j =>
  simp only [bs] at hm ⊢
  rw [hm.1,decide_eq_true (by omega)]; rfl
end
theorem Kw3 (k:Nat) (h:k ≤ 1048576):Knw (k:Int)=some (Kv1 (List.replicate k 0)):=by
 unfold Knw
 rw [Int.toNat_natCast,Ktv (by constructor <;> omega),bs]
 unfold Kv1
 rw [List.map_replicate]
 rfl
theorem Kw4 (ctx front:List (List Int)) (h:ctx.length + front.length ≤ 1048576):Knx (ctx,front)=some (front ++ ctx):=by
 unfold Knx
 simp only
 rw [Krc (by simp; omega),bs,Krc (by omega),bs]
theorem Kw5 (ps:List (List Int)) (hp:ps.length ≤ 1099511627776):∀ (l:List (List Int)) (i:Nat) (out:List Int),ps.drop i=l→out.length + l.flatten.length ≤ 1099511627776→Kbx (ps,out,(i:Int))=some (out ++ l.flatten):=by
 intro l
 induction l with
 | nil =>
  intro i out hd _
  rw [Kbx.eq_def]
  simp only
  rw [Kod (Kpg hd)]
  simp
 | cons x l ih =>
  intro i out hd ho
  obtain ⟨h1,h2,h3⟩:=Kpf hd
  rw [List.flatten_cons,List.length_append] at ho
  rw [Kbx.eq_def]
  simp only
  rw [Koc h1,if_pos rfl,h2,bs,Krc (by omega),bs,Kob (by omega),ih (i + 1) _ h3 (by rw [List.length_append]; omega),List.flatten_cons,List.append_assoc]
theorem Kw6 (c:Int) (ps:List (List Int)) (hp:ps.length ≤ 1048576) (h:ps.flatten.length ≤ 1048576):Kc0 (c,ps)=some (c :: ps.flatten):=by
 unfold Kc0
 simp only
 rw [show (0:Int)=((0:Nat):Int) from rfl,Kw5 ps (by omega) ps 0 [c] rfl (by rw [List.length_singleton]; omega)]
 rfl
theorem Kw7 (ps:List (List (Int))) (hp:ps.length ≤ 1099511627776):∀ (l:List (List (Int))) (i sz:Nat),ps.drop i=l→sz + l.flatten.length ≤ 1099511627776→Kjv (ps,(sz:Int),(i:Int))=some (((sz + l.flatten.length:Nat)):Int):=by
 intro l
 induction l with
 | nil =>
  intro i sz hd _
  rw [Kjv.eq_def]
  simp only
  rw [Kod (Kpg hd)]
  simp
 | cons x l ih =>
  intro i sz hd ho
  obtain ⟨h1,h2,h3⟩:=Kpf hd
  rw [List.flatten_cons,List.length_append] at ho
  have e:wr ((sz:Int) + (x.length:Int))=((sz + x.length:Nat):Int):=Ktc (by omega) (by omega)
  rw [Kjv.eq_def]
  simp only
  rw [Koc h1,if_pos rfl,h2,bs,e,decide_eq_false (by omega),if_neg (by decide),bs,Kob (by omega),ih (i + 1) _ h3 (by omega),List.flatten_cons,List.length_append,Nat.add_assoc]
theorem Kw8 (ps:List (List (Int))) (hp:ps.length ≤ 1099511627776):∀ (l:List (List (Int))) (i:Nat) (out:List (Int)),ps.drop i=l→out.length + l.flatten.length ≤ 1099511627776→Kjz (ps,out,(i:Int))=some (out ++ l.flatten):=by
 intro l
 induction l with
 | nil =>
  intro i out hd _
  rw [Kjz.eq_def]
  simp only
  rw [Kod (Kpg hd)]
  simp
 | cons x l ih =>
  intro i out hd ho
  obtain ⟨h1,h2,h3⟩:=Kpf hd
  rw [List.flatten_cons,List.length_append] at ho
  rw [Kjz.eq_def]
  simp only
  rw [Koc h1,if_pos rfl,h2,bs,Krc (by omega),bs,Kob (by omega),ih (i + 1) _ h3 (by rw [List.length_append]; omega),List.flatten_cons,List.append_assoc]
theorem Kw9 (k:Nat) (h:k ≤ 1048576):Kjr (k:Int)=some ():=by
 unfold Kjr
 have e:wr ((k:Int) - wr (0 - 0))=(k:Int):=by rw [Ko9 (x:=0 - 0) (by decide) (by decide),Ko9 (by omega) (by omega)]; omega
 rw [decide_eq_false (by omega),if_neg (by decide),e]
 by_cases hk:k=0
 ·subst hk; rfl
 ·rw [decide_eq_true (by omega),if_pos rfl,Int.toNat_natCast,Ktv (by constructor <;> omega),bs]
theorem Kwa (ps:List (List (Int))) (hp:ps.length ≤ 1048576) (h:ps.flatten.length ≤ 1048576):Kk2 ps=some ps.flatten:=by
 unfold Kk2
 have h0:=Kw7 ps (by omega) ps 0 0 rfl (by omega)
 rw [Nat.zero_add] at h0
 rw [show (0:Int)=((0:Nat):Int) from rfl,h0,bs,Kw9 _ h,bs,Kw8 ps (by omega) ps 0 [] rfl (by rw [List.length_nil]; omega)]
 rfl
theorem Kwb (ps:List (List (List Int))) (hp:ps.length ≤ 1099511627776):∀ (l:List (List (List Int))) (i sz:Nat),ps.drop i=l→sz + l.flatten.length ≤ 1099511627776→Kij (ps,(sz:Int),(i:Int))=some (((sz + l.flatten.length:Nat)):Int):=by
 intro l
 induction l with
 | nil =>
  intro i sz hd _
  rw [Kij.eq_def]
  simp only
  rw [Kod (Kpg hd)]
  simp
 | cons x l ih =>
  intro i sz hd ho
  obtain ⟨h1,h2,h3⟩:=Kpf hd
  rw [List.flatten_cons,List.length_append] at ho
  have e:wr ((sz:Int) + (x.length:Int))=((sz + x.length:Nat):Int):=Ktc (by omega) (by omega)
  rw [Kij.eq_def]
  simp only
  rw [Koc h1,if_pos rfl,h2,bs,e,decide_eq_false (by omega),if_neg (by decide),bs,Kob (by omega),ih (i + 1) _ h3 (by omega),List.flatten_cons,List.length_append,Nat.add_assoc]
theorem Kwc (ps:List (List (List Int))) (hp:ps.length ≤ 1099511627776):∀ (l:List (List (List Int))) (i:Nat) (out:List (List Int)),ps.drop i=l→out.length + l.flatten.length ≤ 1099511627776→Kin (ps,out,(i:Int))=some (out ++ l.flatten):=by
 intro l
 induction l with
 | nil =>
  intro i out hd _
  rw [Kin.eq_def]
  simp only
  rw [Kod (Kpg hd)]
  simp
 | cons x l ih =>
  intro i out hd ho
  obtain ⟨h1,h2,h3⟩:=Kpf hd
  rw [List.flatten_cons,List.length_append] at ho
  rw [Kin.eq_def]
  simp only
  rw [Koc h1,if_pos rfl,h2,bs,Krc (by omega),bs,Kob (by omega),ih (i + 1) _ h3 (by rw [List.length_append]; omega),List.flatten_cons,List.append_assoc]
theorem Kwd (k:Nat) (h:k ≤ 1048576):Kif (k:Int)=some ():=by
 unfold Kif
 have e:wr ((k:Int) - wr (0 - 0))=(k:Int):=by rw [Ko9 (x:=0 - 0) (by decide) (by decide),Ko9 (by omega) (by omega)]; omega
 rw [decide_eq_false (by omega),if_neg (by decide),e]
 by_cases hk:k=0
 ·subst hk; rfl
 ·rw [decide_eq_true (by omega),if_pos rfl,Int.toNat_natCast,Ktv (by constructor <;> omega),bs]
theorem Kwe (ps:List (List (List Int))) (hp:ps.length ≤ 1048576) (h:ps.flatten.length ≤ 1048576):Kiq ps=some ps.flatten:=by
 unfold Kiq
 have h0:=Kwb ps (by omega) ps 0 0 rfl (by omega)
 rw [Nat.zero_add] at h0
 rw [show (0:Int)=((0:Nat):Int) from rfl,h0,bs,Kwd _ h,bs,Kwc ps (by omega) ps 0 [] rfl (by rw [List.length_nil]; omega)]
 rfl
def Kwf (s:K00) (ctx:List (List Int)):Bool:=decide (ctx.length ≤ 8) && ctx.all (yN s.fSize true)
theorem sYn {s:K00} {ty:List Int} (h:ty.length ≤ 1099511627776):(Kd2 ty >>= fun r=>if r=true then Kdd (ty,s.fSize,true) >>= fun q=>some (!q) else some true)=some (!yN s.fSize true ty):=by
 rw [Kq2 ty h,bs]
 unfold yN
 cases wtB ty with
 | false=>rfl
 | true=>rw [if_pos rfl,Kq8 ty h,bs]; rfl
theorem Kwg (s:K00) (ctx:List (List Int)) (hc:ctx.length ≤ 1048576) (hl:∀ ty ∈ ctx,ty.length ≤ 1099511627776):∀ (l:List (List Int)) (i:Nat),ctx.drop i=l→Knt (s,ctx,(i:Int))=some (if l.all (yN s.fSize true) then .inl () else .inr false):=by
 intro l
 induction l with
 | nil =>
  intro i hd
  rw [Knt.eq_def]
  simp only
  rw [Kod (Kpg hd)]; rfl
 | cons x l ih =>
  intro i hd
  obtain ⟨h1,h2,h3⟩:=Kpf hd
  have hx:x ∈ ctx:=List.mem_of_mem_drop (i:=i) (by rw [hd]; exact List.mem_cons_self)
  rw [Knt.eq_def]
  simp only
  rw [Koc h1,if_pos rfl]
  simp only [h2,bs]
  rw [sYn (hl x hx),bs,Kob (by omega),ih (i + 1) h3,List.all_cons]
  cases yN s.fSize true x <;> cases l.all (yN s.fSize true) <;> rfl
theorem Kwh (s:K00) (ctx:List (List Int)) (hc:ctx.length ≤ 1048576) (hl:∀ ty ∈ ctx,ty.length ≤ 1099511627776):Knu (s,ctx)=some (Kwf s ctx):=by
 unfold Knu Kwf
 simp only
 by_cases h:ctx.length ≤ 8
 ·rw [decide_eq_false (by omega),decide_eq_true h,if_neg (by decide),show (0:Int)=((0:Nat):Int) from rfl,Kwg s ctx hc hl ctx 0 rfl,bs]
  cases ctx.all (yN s.fSize true) <;> rfl
 ·rw [decide_eq_true (by omega),decide_eq_false h,if_pos rfl]; rfl
theorem Kwi (s:K00) (ctx:List (List Int)) (hc:ctx.length ≤ 1048576) (hl:∀ ty ∈ ctx,ty.length ≤ 1099511627776):∀ (l:List (List Int)) (i:Nat),ctx.drop i=l→∃ r,Khg (ctx,s,(i:Int))=some r∧(match r with | .inl _=>l.all (Ksw s)=true | .inr j=>l.all (Ksw s)=false∧0 ≤ j):=by
 intro l
 induction l with
 | nil =>
  intro i hd
  rw [Khg.eq_def]
  simp only
  rw [Kod (Kpg hd)]
  exact ⟨_,rfl,rfl⟩
 | cons x l ih =>
  intro i hd
  obtain ⟨h1,h2,h3⟩:=Kpf hd
  have hx:x ∈ ctx:=List.mem_of_mem_drop (i:=i) (by rw [hd]; exact List.mem_cons_self)
  rw [Khg.eq_def]
  simp only
  rw [Koc h1,if_pos rfl,h2,bs]
  unfold Khc
  simp only
  rw [Ksy s x (hl x hx)]
  simp only [bs]
  cases hle:Ksw s x with
  | true =>
   obtain ⟨r,hr,hm⟩:=ih (i + 1) h3
   refine ⟨r,?_,?_⟩
   ·rw [if_neg (by simp),Kob (by omega)]; exact hr
   ·rw [List.all_cons,hle,Bool.true_and]; exact hm
  | false=>exact ⟨_,if_pos rfl,by simp [List.all_cons,hle]⟩
theorem Kwj (s:K00) (hs:Ks1 s=true) (ctx:List (List Int)) (hc:ctx.length ≤ 1048576) (hl:∀ ty ∈ ctx,ty.length ≤ 1099511627776):Khp (s,ctx)=some (Kwf s ctx):=by
 have e:ctx.all (Ksw s)=ctx.all (yN s.fSize true):=by
  congr 1
  funext ty
  exact Kt1 (Ks2 hs) ty
 unfold Khp Kwf
 simp only
 by_cases h:ctx.length ≤ 8
 ·rw [decide_eq_true (by omega:(ctx.length:Int) ≤ 8),decide_eq_true h,if_pos rfl]
  obtain ⟨r,hr,hm⟩:=Kwi s ctx hc hl ctx 0 rfl
  unfold Khm Khj
  simp only
  rw [show (0:Int)=((0:Nat):Int) from rfl,hr]
  rw [e] at hm
  cases r with
  | inl _=>simp only [bs] at hm ⊢; rw [hm]; rfl
  | inr j =>
   simp only [bs] at hm ⊢
   rw [hm.1,decide_eq_true (by omega)]; rfl
 ·rw [decide_eq_false (by omega),decide_eq_false h,if_neg (by decide)]; rfl
theorem Kwk {s:K00} (ty:List Int) (h:ty.length ≤ 1099511627776):Khv (ty,s)=some (Ksw s ty):=by
 unfold Khv
 simp only
 rw [Ksy s ty h,bs]
mutual
theorem Kwl (s:K00):∀ (t:K02) (n nodes:Nat),tms t ≤ 1099511627776→n + 2 * tms t ≤ 35184372088832→nodes ≤ 400→Ki2 (t,(n:Int),s,s,(nodes:Int))=some (Kr5 (tOk (Kst s) (Ksw s) n t) nodes (tsz t))
 | ⟨op,N,ty,ks⟩,n,nodes,ht,hn,hd=>by
  rw [tms] at ht hn
  rw [Ki2.eq_def,tOk,tsz]
  simp only
  rw [Kqs,bs]
  unfold Kqr
  cases hop:inB op 0 12
  ·simp [Kqz,hop,Kr5]
  ·simp only [if_true]
   rw [Kob (by omega)]
   by_cases h4:nodes + 1 ≤ 400
   ·rw [decide_eq_false (by omega:¬ ((nodes + 1:Nat):Int) > 400)]
    by_cases hk:(ks.length:Int)=Kqj op
    ·rw [show ((ks.length:Int) != Kqj op)=false by rw [hk]; exact Koe]
     simp only [Bool.false_eq_true,if_false,bs]
     refine (Kq9 (x:=Kqx (Kst s) (n:Int) ⟨op,N,ty,ks⟩) ?_).trans ?_
     ·unfold Kqx
      simp only [iIn,Ko9 (x:=(n:Int) - 1) (by omega) (by omega),Ksu,bs]
      cases op == 0 <;> cases op == 1 <;> cases Kqk op <;> rfl
     refine (Kq9 (x:=Kqx (Kst s) (n:Int) ⟨op,N,ty,ks⟩ && Kqy (Ksw s) ⟨op,N,ty,ks⟩) ?_).trans ?_
     ·unfold Kqy
      simp only [Kwk ty (by omega),bs]
      cases Kql op <;> cases Kqx (Kst s) (n:Int) ⟨op,N,ty,ks⟩ <;> rfl
     have e:Kqz (Kst s) (Ksw s) (n:Int) ⟨op,N,ty,ks⟩=(Kqx (Kst s) (n:Int) ⟨op,N,ty,ks⟩ && Kqy (Ksw s) ⟨op,N,ty,ks⟩):=by
      unfold Kqz
      simp only
      rw [hop,hk]; simp
     rw [e]
     cases Kqx (Kst s) (n:Int) ⟨op,N,ty,ks⟩ && Kqy (Ksw s) ⟨op,N,ty,ks⟩
     ·simp [Kr5]
     ·have h:=Kwm s ks ⟨op,N,ty,ks⟩ n (nodes + 1) 0 rfl (by simp only; omega) (by omega) (by omega) h4
      rw [if_pos rfl,show (0:Int)=((0:Nat):Int) from rfl,h]
      simp only [Bool.true_and]
      unfold Kr5
      rw [show nodes + (1 + Kqa ks)=nodes + 1 + Kqa ks by omega]
      cases Kr0 (Kst s) (Ksw s) op n 0 ks && decide (nodes + 1 + Kqa ks ≤ 400) <;> rfl
    ·rw [show ((ks.length:Int) != Kqj op)=true by simpa using hk]
     have e:Kqz (Kst s) (Ksw s) (n:Int) ⟨op,N,ty,ks⟩=false:=by
      unfold Kqz
      simp only
      rw [show ((ks.length:Int) == Kqj op)=false by simpa using hk]; simp
     simp [e,Kr5]
   ·rw [decide_eq_true (by omega:((nodes + 1:Nat):Int) > 400)]
    have:¬ nodes + (1 + Kqa ks) ≤ 400:=by omega
    simp [Kr5,this]
theorem Kwm (s:K00):∀ (ks:List K02) (t:K02) (n nodes i:Nat),t.fKids.drop i=ks→t.fKids.length ≤ 1099511627776→Kqb ks ≤ 1099511627776→n + 2 * (ks.length + Kqb ks) ≤ 35184372088832→nodes ≤ 400 →
  Ki3 (t,(n:Int),s,s,(nodes:Int),(i:Int))=some (if Kr0 (Kst s) (Ksw s) t.fOp n i ks && decide (nodes + Kqa ks ≤ 400) then .inl ((nodes + Kqa ks:Nat):Int) else .inr 401)
 | [],t,n,nodes,i,hd,hk,ht,hn,h4=>by
  rw [Ki3.eq_def,Kr0,Kqa]
  simp only
  rw [Kod (Kpg hd)]
  simp [h4]
 | k :: ks,t,n,nodes,i,hd,hk,ht,hn,h4=>by
  obtain ⟨hi,hx,hd'⟩:=Kpf hd
  rw [Kqb] at ht hn
  rw [List.length_cons] at hn
  have ha:=Kqu t.fOp (i:Int)
  rw [Ki3.eq_def,Kr0,Kqa]
  simp only
  rw [Koc hi,if_pos rfl,hx,bs,Kqw,bs,Ko9 (by omega) (by omega),show (n:Int) + ((Kqt t.fOp (i:Int):Nat):Int)=((n + Kqt t.fOp (i:Int):Nat):Int) by omega]
  rw [Kwl s k (n + Kqt t.fOp (i:Int)) nodes (by omega) (by omega) h4,bs,Kob (by omega)]
  unfold Kr5
  cases tOk (Kst s) (Ksw s) (n + Kqt t.fOp (i:Int)) k
  ·rfl
  ·by_cases q:nodes + tsz k ≤ 400
   ·rw [decide_eq_true q,Bool.true_and,if_pos rfl,decide_eq_false (by omega:¬ ((nodes + tsz k:Nat):Int) > 400),if_neg (by decide),Kwm s ks t n (nodes + tsz k) (i + 1) hd' hk (by omega) (by omega) q,Nat.add_assoc,Bool.true_and]
   ·rw [decide_eq_false q,decide_eq_false (by omega:¬ nodes + (tsz k + Kqa ks) ≤ 400)]
    simp
end
theorem Kwn {s:K00} {n:Nat} (h:Tab s n):Kst s=gN s.fSize true:=by
 funext g
 rw [Ksz h]
 unfold gN inB
 rw [h.size]
 rw [Bool.eq_iff_iff]
 simp
 omega
theorem Kwo (s:K00) (hs:Ks1 s=true) (t:K02) (n:Nat) (hn:n ≤ 8) (ht:tms t ≤ 1099511627776):Ki9 (s,t,(n:Int))=some (Kui s t n):=by
 have hy:Ksw s=yN s.fSize true:=funext fun ty=>Kt1 (Ks2 hs) ty
 unfold Ki9 Kui
 simp only
 rw [iIn,bs,hs]
 have:inB (n:Int) 0 8=true:=by unfold inB; rw [decide_eq_true (by omega),decide_eq_true (by omega)]; rfl
 have hc:=Kwl s t n 0 ht (by omega) (by omega)
 rw [Kwn (Ks2 hs),hy] at hc
 rw [this,if_pos rfl,show (0:Int)=((0:Nat):Int) from rfl,hc,bs]
 unfold Kr5
 rw [Nat.zero_add]
 cases tOk (gN s.fSize true) (yN s.fSize true) n t
 ·simp [bs]
 ·by_cases h:tsz t ≤ 400
  ·simp [bs,h]; omega
  ·simp [bs,h]
def Kwp (s:K00) (ctx:List (List Int)) (t:K02):Bool:=Ks1 s && Kwf s ctx && Kui s t ctx.length
theorem Kwq (s:K00) (ctx:List (List Int)) (t:K02) (hc:ctx.length ≤ 1048576) (hl:∀ ty ∈ ctx,ty.length ≤ 1099511627776) (ht:tms t ≤ 1099511627776):Knv (s,ctx,t)=some (Kwp s ctx t):=by
 unfold Knv Kwp
 simp only
 rw [Ks3,bs]
 cases hs:Ks1 s
 ·rfl
 ·rw [if_pos rfl,Kwh s ctx hc hl,bs]
  cases h2:Kwf s ctx
  ·rfl
  ·have h8:ctx.length ≤ 8:=by
    unfold Kwf at h2
    simp only [Bool.and_eq_true,decide_eq_true_eq] at h2
    exact h2.1
   rw [if_pos rfl,Kuj s t _ h8 ht]
   rfl
theorem Kwr (s:K00) (ctx:List (List Int)) (t:K02) (hc:ctx.length ≤ 1048576) (hl:∀ ty ∈ ctx,ty.length ≤ 1099511627776) (ht:tms t ≤ 1099511627776) :
  Klo (s,ctx,t)=if Kwp s ctx t then (Klh (⟨s⟩,ctx,t) >>= fun r=>some (some r)) else some none:=by
 unfold Klo Kwp
 simp only
 rw [Ks4,bs]
 cases hs:Ks1 s
 ·rfl
 ·rw [if_pos rfl,Kwj s hs ctx hc hl,bs]
  cases h2:Kwf s ctx
  ·rfl
  ·have h8:ctx.length ≤ 8:=by
    unfold Kwf at h2
    simp only [Bool.and_eq_true,decide_eq_true_eq] at h2
    exact h2.1
   rw [if_pos rfl,Kwo s hs t _ h8 ht,bs]
   cases Kui s t ctx.length <;> rfl
def TyS (s:K00) (ty:List Int):Prop:=yN s.fSize true ty=true
theorem Kws {s:K00} {ty:List Int} (h:TyS s ty):ty.length ≤ 40:=by
 unfold TyS yN at h
 rw [Bool.and_eq_true] at h
 exact Kra h.1
theorem Kwt {s:K00} {ty:List Int} (h:TyS s ty):∃ T:Ty,T.ok∧ty=T.code∧T.code.length ≤ 40∧T.code.all (Kq5 s.fSize true)=true:=by
 have hl:=Kws h
 unfold TyS yN at h
 rw [Bool.and_eq_true] at h
 obtain ⟨T,h1,rfl,_⟩:=Ksb h.1
 exact ⟨T,h1,rfl,hl,h.2⟩
theorem Kwu {s:K00} {T:Ty} (h:T.ok) (hl:T.code.length ≤ 40) (hc:T.code.all (Kq5 s.fSize true)=true):TyS s T.code:=by
 unfold TyS yN
 rw [Ksc h hl,hc]; rfl
structure Kwv (s:K00) (c:Int) (a b:List Int):Prop where
 ya:TyS s a
 yb:TyS s b
 p0:Kdw (c :: (a ++ b),0)=some a
 p1:Kdw (c :: (a ++ b),1)=some b
 pp:Kgu (c :: (a ++ b))=some [a,b]
structure Kww (s:K00) (c:Int) (a:List Int):Prop where
 ya:TyS s a
 p0:Kdw (c :: a,0)=some a
 pp:Kgu (c :: a)=some [a]
theorem Kwx {s:K00} {c:Int} (hc:c=35∨c=36):Kq5 s.fSize true c=false:=by
 rcases hc with rfl | rfl
 ·unfold Kq5 Kq4
  rw [show Kpj 35=2 from rfl]; simp
 ·unfold Kq5 Kq4
  rw [show Kpj 36=1 from rfl]; simp
theorem Kwy {s:K00}:TyS s [0]:=Kwu (T:=.num) trivial (by decide) (by
 show (Kq5 s.fSize true 0 && true)=true
 unfold Kq5
 rw [show Kpj 0=0 from rfl]; simp)
section
variable {s:K00} {n:Nat} (hs:Kv6 s n)
include hs
theorem Kwz {c:Int} (hc:3 ≤ c∧c ≤ 18):Kq5 s.fSize true c=true ↔ c - 3 < (n:Int):=by
 have hk:Kpj c=2:=by rcases Kpn c with h | h | h | h <;> omega
 unfold Kq5 Kq4
 rw [hk,hs.tab.size,if_neg (by omega),if_neg (by omega)]
 simp
 omega
theorem Kx0 {c:Int} (hc:19 ≤ c∧c ≤ 34):Kq5 s.fSize true c=true ↔ c - 19 < (n:Int):=by
 have hk:Kpj c=1:=by rcases Kpn c with h | h | h | h <;> omega
 unfold Kq5 Kq4
 rw [hk,hs.tab.size,if_neg (by omega),if_pos (by omega)]
 simp
 omega
theorem Kx1 {ty:List Int} (h:TyS s ty):ty=[0]∨(∃ a b,ty=1 :: (a ++ b)∧Kwv s 1 a b)∨(∃ a b,ty=2 :: (a ++ b)∧Kwv s 2 a b) ∨
  (∃ (g:Nat) (a b:List Int),g < n∧g ≤ 15∧ty=(3 + (g:Int)) :: (a ++ b)∧Kwv s (3 + (g:Int)) a b)∨(∃ (g:Nat) (a:List Int),g < n∧g ≤ 15∧ty=(19 + (g:Int)) :: a∧Kww s (19 + (g:Int)) a):=by
 obtain ⟨T,hT,rfl,hl,hc⟩:=Kwt h
 cases T with
 | num=>exact .inl rfl
 | bin c a b =>
  have B:=Kts hT (by omega)
  have hl':=hl
  rw [Ty.code,List.length_cons,List.length_append] at hl'
  rw [Ty.code,List.all_cons,List.all_append,Bool.and_eq_true,Bool.and_eq_true] at hc
  have hP:Kwv s c a.code b.code:=⟨Kwu B.ok.1 (by omega) hc.2.1,Kwu B.ok.2 (by omega) hc.2.2,B.p0,B.p1,B.pp⟩
  have hk:=hT.1
  rcases Kpn c with ⟨q,e⟩ | ⟨q,e⟩ | ⟨q,e⟩ | ⟨q,e⟩
  ·rw [e] at hk; exact absurd hk (by decide)
  ·rcases q with rfl | rfl | q | rfl
   ·exact .inr (.inl ⟨_,_,rfl,hP⟩)
   ·exact .inr (.inr (.inl ⟨_,_,rfl,hP⟩))
   ·have:=(Kwz hs q).1 hc.1
    obtain ⟨g,hg⟩:∃ g:Nat,c=3 + (g:Int):=⟨(c - 3).toNat,by omega⟩
    subst hg
    exact .inr (.inr (.inr (.inl ⟨g,_,_,by omega,by omega,rfl,hP⟩)))
   ·rw [Kwx (s:=s) (.inl rfl)] at hc; exact absurd hc.1 (by decide)
  ·rw [e] at hk; exact absurd hk (by decide)
  ·rw [e] at hk; exact absurd hk (by decide)
 | un c a =>
  have B:=unP hT (by omega)
  have hl':=hl
  rw [Ty.code,List.length_cons] at hl'
  rw [Ty.code,List.all_cons,Bool.and_eq_true] at hc
  have hP:Kww s c a.code:=⟨Kwu B.ok (by omega) hc.2,B.p0,B.pp⟩
  have hk:=hT.1
  rcases Kpn c with ⟨q,e⟩ | ⟨q,e⟩ | ⟨q,e⟩ | ⟨q,e⟩
  ·rw [e] at hk; exact absurd hk (by decide)
  ·rw [e] at hk; exact absurd hk (by decide)
  ·rcases q with q | rfl
   ·have:=(Kx0 hs q).1 hc.1
    obtain ⟨g,hg⟩:∃ g:Nat,c=19 + (g:Int):=⟨(c - 19).toNat,by omega⟩
    subst hg
    exact .inr (.inr (.inr (.inr ⟨g,_,by omega,by omega,rfl,hP⟩)))
   ·rw [Kwx (s:=s) (.inr rfl)] at hc; exact absurd hc.1 (by decide)
  ·rw [e] at hk; exact absurd hk (by decide)
theorem Kx2 {c:Int} {a b:List Int} (ha:TyS s a) (hb:TyS s b) (hc:c=1∨c=2∨∃ g:Nat,g < n∧c=3 + (g:Int)) (hl:(c :: (a ++ b)).length ≤ 40):TyS s (c :: (a ++ b)):=by
 obtain ⟨A,hA,rfl,_,hAc⟩:=Kwt ha
 obtain ⟨B,hB,rfl,_,hBc⟩:=Kwt hb
 have hn:=hs.tab.hi
 have hk:Kpj c=2∧Kq5 s.fSize true c=true:=by
  rcases hc with rfl | rfl | ⟨g,hg,rfl⟩
  ·exact ⟨rfl,by unfold Kq5; rw [show Kpj 1=2 from rfl]; simp⟩
  ·exact ⟨rfl,by unfold Kq5; rw [show Kpj 2=2 from rfl]; simp⟩
  ·refine ⟨by rcases Kpn (3 + (g:Int)) with h | h | h | h <;> omega,(Kwz hs (by omega)).2 (by omega)⟩
 have:TyS s (Ty.bin c A B).code:=Kwu ⟨hk.1,hA,hB⟩ hl (by rw [Ty.code,List.all_cons,List.all_append,hk.2,hAc,hBc]; rfl)
 exact this
theorem Kx3 {g:Nat} (hg:g < n) {a:List Int} (ha:TyS s a) (hl:((19 + (g:Int)) :: a).length ≤ 40):TyS s ((19 + (g:Int)) :: a):=by
 obtain ⟨A,hA,rfl,_,hAc⟩:=Kwt ha
 have hn:=hs.tab.hi
 have hk:Kpj (19 + (g:Int))=1:=by rcases Kpn (19 + (g:Int)) with h | h | h | h <;> omega
 have:TyS s (Ty.un (19 + (g:Int)) A).code:=Kwu ⟨hk,hA⟩ hl (by rw [Ty.code,List.all_cons,(Kx0 hs (by omega)).2 (by omega),hAc]; rfl)
 exact this
theorem Kx4 {x:Int} (h:gN s.fSize true x=true):∃ g:Nat,x=(g:Int)∧g < n:=by
 unfold gN at h
 rw [hs.tab.size] at h
 simp at h
 exact ⟨x.toNat,by omega,by omega⟩
end
structure Kx5 (s:K00) (n:Nat) (k:K02) (m:Nat):Prop where
 ok:tOk (gN s.fSize true) (yN s.fSize true) n k=true
 sz:tsz k + 1 ≤ m
theorem nd1 {s:K00} {n m:Nat} {op N:Int} {ty:List Int} {ks:List K02} (h:tOk (gN s.fSize true) (yN s.fSize true) n ⟨op,N,ty,ks⟩=true) (hm:tsz ⟨op,N,ty,ks⟩ ≤ m) (hk:Kqj op=1):∃ a,ks=[a]∧Kx5 s (n + Kqt op 0) a m:=by
 obtain ⟨h1,h2⟩:=Krb h
 obtain ⟨a,rfl⟩:=Kuf (l:=ks) (beq_iff_eq.2 (by rw [← hk]; exact (Krf h1).2))
 simp only at h2
 rw [Ku8,Bool.and_eq_true] at h2
 rw [Kul] at hm
 exact ⟨a,rfl,h2.1,by omega⟩
theorem nd2 {s:K00} {n m:Nat} {op N:Int} {ty:List Int} {ks:List K02} (h:tOk (gN s.fSize true) (yN s.fSize true) n ⟨op,N,ty,ks⟩=true) (hm:tsz ⟨op,N,ty,ks⟩ ≤ m) (hk:Kqj op=2):∃ a b,ks=[a,b]∧Kx5 s (n + Kqt op 0) a m∧Kx5 s (n + Kqt op 1) b m:=by
 obtain ⟨h1,h2⟩:=Krb h
 obtain ⟨a,b,rfl⟩:=Kug (l:=ks) (beq_iff_eq.2 (by rw [← hk]; exact (Krf h1).2))
 simp only at h2
 rw [Ku8,Ku8,Bool.and_eq_true,Bool.and_eq_true] at h2
 rw [Kum] at hm
 exact ⟨a,b,rfl,⟨h2.1,by omega⟩,⟨h2.2.1,by omega⟩⟩
theorem nd3 {s:K00} {n m:Nat} {op N:Int} {ty:List Int} {ks:List K02} (h:tOk (gN s.fSize true) (yN s.fSize true) n ⟨op,N,ty,ks⟩=true) (hm:tsz ⟨op,N,ty,ks⟩ ≤ m) (hk:Kqj op=3):∃ a b c,ks=[a,b,c]∧Kx5 s (n + Kqt op 0) a m∧Kx5 s (n + Kqt op 1) b m∧Kx5 s (n + Kqt op 2) c m:=by
 obtain ⟨h1,h2⟩:=Krb h
 obtain ⟨a,b,c,rfl⟩:=Kuo (l:=ks) (by rw [← hk]; exact (Krf h1).2)
 simp only at h2
 rw [Ku8,Ku8,Ku8,Bool.and_eq_true,Bool.and_eq_true,Bool.and_eq_true] at h2
 rw [Kun] at hm
 exact ⟨a,b,c,rfl,⟨h2.1,by omega⟩,⟨h2.2.1,by omega⟩,⟨h2.2.2.1,by omega⟩⟩
theorem Kx6 {s:K00} {n:Nat} {t:K02} (h:tOk (gN s.fSize true) (yN s.fSize true) n t=true) (hg:Kqk t.fOp=true):gN s.fSize true t.fN=true:=by
 have h1:=(Krb h).1
 unfold Kqz Kqx at h1
 simp only [Bool.and_eq_true] at h1
 have h2:=h1.1.2
 have hop:(t.fOp == 0)=false∧(t.fOp == 1)=false:=by
  simp only [Kqk,Bool.or_eq_true,beq_iff_eq] at hg
  constructor <;> rw [beq_eq_false_iff_ne] <;> omega
 rw [hop.1,hop.2,hg] at h2
 simpa using h2
theorem Kx7 {s:K00} {n:Nat} {t:K02} (h:tOk (gN s.fSize true) (yN s.fSize true) n t=true) (hg:Kql t.fOp=true):TyS s t.fType:=by
 have h1:=(Krb h).1
 unfold Kqz Kqy at h1
 simp only [Bool.and_eq_true] at h1
 have h2:=h1.2
 rw [hg] at h2
 show yN s.fSize true t.fType=true
 simpa using h2
theorem Kx8 {s:K00} {n:Nat} {t:K02} (h:tOk (gN s.fSize true) (yN s.fSize true) n t=true) (hg:t.fOp=0):∃ i:Nat,t.fN=(i:Int)∧i < n∧t.fKids=[]:=by
 have h1:=(Krb h).1
 have hl:=(Krf h1).2
 unfold Kqz Kqx at h1
 simp only [Bool.and_eq_true] at h1
 have h2:=h1.1.2
 rw [hg] at h2 hl
 simp [inB] at h2
 refine ⟨t.fN.toNat,by omega,by omega,?_⟩
 have:(t.fKids.length:Int)=0:=hl
 exact List.eq_nil_of_length_eq_zero (by omega)
theorem Kx9 {s:K00} {n:Nat} {t:K02} (h:tOk (gN s.fSize true) (yN s.fSize true) n t=true) (hg:t.fOp=1):t.fKids=[]:=by
 have h1:=(Krb h).1
 have hl:=(Krf h1).2
 rw [hg] at hl
 have:(t.fKids.length:Int)=0:=hl
 exact List.eq_nil_of_length_eq_zero (by omega)
def Kxa (t:K02) (out:List K03) (w:Nat):Option (List (List Int)) :=
 (if (decide ((w:Int) > 0))=true then some (true) else some ((t.fOp == 9))) >>= fun v =>
 if v=true then
  (if (decide ((w:Int) > 0))=true then (idx out 0) >>= fun e=>some (e.fty) else some ([])) >>= fun first=>(Kic (t,(w:Int),first)) >>= fun r=>some (r)
 else some ([])
def Kxb (p0:K05) (ctx:List (List Int)) (t:K02) (out:List K03) (needs used:List (List Int)) (w:Nat) (more:List (List Int)) (y:K03):Option (((List K03) × (List (List Int)) × (List (List Int))) ⊕ (K03)) :=
 if (y.ffault != 0)=true then
  (Qdq ([(w:Int)].length + y.fpath.length) 8) >>= fun _=>some (.inr (K03.mk [] [] [] y.ffault ([(w:Int)] ++ y.fpath)))
 else
  (Kit (p0,t,(w:Int),y.fty)) >>= fun f =>
  if (f != 0)=true then some (.inr (K03.mk [] [] [] f []))
  else
   (if (t.fOp == 10)=true then
    if ((w:Int) == 1)=true then
     (idx out 0) >>= fun e=>(Kgu e.fty) >>= fun r=>(idx r 0) >>= fun q=>(Kj1 (y.fty,q)) >>= fun b=>some ((!b))
    else some (false)
   else some (false)) >>= fun v =>
   if v=true then some (.inr (K03.mk [] [] [] 3 []))
   else
    (Qdq (out.length + [y].length) 8) >>= fun _ =>
    (cut y.fneeds none (some (more.length:Int)) none) >>= fun c1 =>
    (Qdq (used.length + [c1].length) 24) >>= fun _ =>
    (cut y.fneeds (some (more.length:Int)) none none) >>= fun c2 =>
    (Qdq (needs.length + [c2].length) 24) >>= fun _ =>
    Kli (p0,ctx,t,(out ++ [y]),(needs ++ [c2]),(used ++ [c1]),(wr ((w:Int) + 1)))
theorem Kxc {p0:K05} {ctx:List (List Int)} {t:K02} {out:List K03} {needs used:List (List Int)} {w:Nat} {k:K02} {more:List (List Int)} {y:K03} (hw:w < t.fKids.length) (hk:idx t.fKids (w:Int)=some k) (hm:Kxa t out w=some more)
  (hc:ctx.length + more.length ≤ 1000000) (hy:Klh (p0,more ++ ctx,k)=some y):Kli (p0,ctx,t,out,needs,used,(w:Int))=Kxb p0 ctx t out needs used w more y:=by
 rw [Kli.eq_def]
 simp only
 rw [Koc hw,if_pos rfl,hk,bs]
 have key:∀ {β:Type} (R:List (List Int)→Option β),((if (decide ((w:Int) > 0))=true then some (true) else some ((t.fOp == 9))) >>= fun v =>
   (if v=true then (if (decide ((w:Int) > 0))=true then (idx out 0) >>= fun e=>some (e.fty) else some ([])) >>= fun first=>(Kic (t,(w:Int),first)) >>= fun r=>some (r) else some ([])) >>= R)=(Kxa t out w >>= R):=fun R=>by
  unfold Kxa
  simp only [Option.bind_eq_bind,Option.bind_assoc]
 refine (key _).trans ?_
 rw [hm,bs,Kwe [more,ctx] (by simp) (by simp; omega),bs]
 simp only [List.flatten_cons,List.flatten_nil,List.append_nil]
 rw [hy,bs]
 rfl
theorem Kxd {p0:K05} {ctx:List (List Int)} {t:K02} {out:List K03} {needs used:List (List Int)} {w:Nat} (hw:t.fKids.length ≤ w):Kli (p0,ctx,t,out,needs,used,(w:Int))=some (.inl (out,needs,used)):=by
 rw [Kli.eq_def]
 simp only
 rw [Kod hw]; rfl
theorem Kxe {α:Type} {l:List α} {m:Nat} (h:m ≤ l.length):cut l none (some (m:Int)) none=some (l.take m):=by
 unfold cut
 simp only [Option.getD_none,Option.getD_some,Int.toNat_natCast,Int.toNat_zero,List.drop_zero]
 rw [if_pos (by omega)]
theorem Kxf {α:Type} {l:List α} {m:Nat} (h:m ≤ l.length):cut l (some (m:Int)) none none=some (l.drop m):=by
 unfold cut
 simp only [Option.getD_none,Option.getD_some,Int.toNat_natCast]
 rw [if_pos (by omega),List.take_length]
def Kxg (t:K02) (out:List K03) (w:Nat) (y:K03):Option Bool :=
 if (t.fOp == 10)=true then
  if ((w:Int) == 1)=true then
   (idx out 0) >>= fun e=>(Kgu e.fty) >>= fun r=>(idx r 0) >>= fun q=>(Kj1 (y.fty,q)) >>= fun b=>some ((!b))
  else some (false)
 else some (false)
section
variable {p0:K05} {ctx:List (List Int)} {t:K02} {out:List K03} {needs used:List (List Int)} {w:Nat} {more:List (List Int)} {y:K03}
theorem Kxh (h:y.ffault ≠ 0) (hp:y.fpath.length ≤ 1000000):Kxb p0 ctx t out needs used w more y=some (.inr ⟨[],[],[],y.ffault,(w:Int) :: y.fpath⟩):=by
 unfold Kxb
 rw [if_pos (bne_iff_ne.2 h),Krc (by simp; omega),bs]
 rfl
theorem Kxi {f:Int} (h:y.ffault=0) (hf:Kit (p0,t,(w:Int),y.fty)=some f) (hf0:f ≠ 0):Kxb p0 ctx t out needs used w more y=some (.inr ⟨[],[],[],f,[]⟩):=by
 unfold Kxb
 rw [if_neg (by simp [h]),hf,bs,if_pos (bne_iff_ne.2 hf0)]
theorem Kxj (h:y.ffault=0) (hf:Kit (p0,t,(w:Int),y.fty)=some 0) (ha:Kxg t out w y=some true):Kxb p0 ctx t out needs used w more y=some (.inr ⟨[],[],[],3,[]⟩):=by
 unfold Kxb
 rw [if_neg (by simp [h]),hf,bs,if_neg (by simp)]
 refine (congrArg (· >>= _) (show _=some true from ha)).trans ?_
 rw [bs,if_pos rfl]
theorem Kxk {ns:List Nat} (h:y.ffault=0) (hf:Kit (p0,t,(w:Int),y.fty)=some 0) (ha:Kxg t out w y=some false) (hn:y.fneeds=Kv1 ns) (hl:more.length ≤ ns.length)
  (h1:out.length ≤ 1000000) (h2:needs.length ≤ 1000000) (h3:used.length ≤ 1000000) (h4:w ≤ 1000000) :
  Kxb p0 ctx t out needs used w more y=Kli (p0,ctx,t,(out ++ [y]),(needs ++ [Kv1 (ns.drop more.length)]),(used ++ [Kv1 (ns.take more.length)]),((w + 1:Nat):Int)):=by
 unfold Kxb
 rw [if_neg (by simp [h]),hf,bs,if_neg (by simp)]
 refine (congrArg (· >>= _) (show _=some false from ha)).trans ?_
 rw [bs,if_neg (by simp),Krc (by simp; omega),bs,hn,Kxe (by rw [Kv2]; exact hl),bs,Krc (by simp; omega),bs,Kxf (by rw [Kv2]; exact hl),bs,Krc (by simp; omega),bs,Kob (by omega),Kv4,Kv3]
theorem Kxl {r:K03} (hc:ctx.length ≤ 1000000) (h:Kli (p0,ctx,t,[],[],[],((0:Nat):Int))=some (.inr r)):Klh (p0,ctx,t)=some r:=by
 rw [Klh.eq_def]
 simp only
 rw [Ktv (by simp; omega),bs,show (0:Int)=((0:Nat):Int) from rfl,h]
 rfl
theorem Kxm {o:List K03} {nd us:List (List Int)} {f:Int} {g:K03} (hc:ctx.length ≤ 1000000) (h:Kli (p0,ctx,t,[],[],[],((0:Nat):Int))=some (.inl (o,nd,us)))
  (hf:Klc (p0,⟨[],Kv1 (List.replicate ctx.length 0),o,0,[]⟩,ctx,t,nd,us)=some (f,g)) (hg:g.fpath=[]:=by rfl):Klh (p0,ctx,t)=some (if f=0 then ⟨g.fty,g.fneeds,g.fkids,0,g.fpath⟩ else ⟨[],[],[],f,[]⟩):=by
 have e:Kv1 (List.replicate ctx.length 0)=List.replicate (Int.toNat (ctx.length:Int)) (0:Int):=by
  unfold Kv1; rw [List.map_replicate,Int.toNat_natCast]; rfl
 rw [e] at hf
 rw [Klh.eq_def]
 simp only
 rw [Ktv (by simp; omega),bs,show Kli (p0,ctx,t,[],[],[],0)=some (.inl (o,nd,us)) from h,bs]
 simp only
 rw [hf,bs]
 simp only
 by_cases hz:f=0
 ·subst hz; first | (rw [if_neg (by simp),if_pos rfl]; done) | rw [if_neg (by simp),if_pos rfl,hg]
 ·rw [if_pos (bne_iff_ne.2 hz),if_neg hz]
theorem Kxn (h:t.fOp ≠ 10):Kxg t out w y=some false:=by
 unfold Kxg
 rw [if_neg (by simpa using h)]
theorem Kxo (h:w ≠ 1):Kxg t out w y=some false:=by
 unfold Kxg
 have:((w:Int) == 1)=false:=by rw [beq_eq_false_iff_ne]; omega
 rw [this]
 simp
end
section
variable {s:K00} {n:Nat} (hs:Kv6 s n) {N:Int} {ty:List Int} {ks:List K02} {w:Nat} {c:Int} {r:List Int}
theorem Kxp {op:Int} (h:(op=4∨op=6∨op=7∨op=9∨op=11)∨(w ≠ 0∧(op=3∨op=5∨op=8∨op=10∨op=12))):Kit (⟨s⟩,⟨op,N,ty,ks⟩,(w:Int),c :: r)=some 0:=by
 have hw:∀ hw:w ≠ 0,((w:Int) == 0)=false:=fun hw=>by rw [beq_eq_false_iff_ne]; omega
 unfold Kit
 rcases h with (rfl | rfl | rfl | rfl | rfl) | ⟨h0,(rfl | rfl | rfl | rfl | rfl)⟩
 all_goals first | simp [Kt9,Kpp,hw h0] | (by_cases h0:w=0 <;> simp [Kt9,Kpp,h0])
theorem Kxq:Kit (⟨s⟩,⟨2,N,ty,ks⟩,(w:Int),c :: r)=some (if (Kpo c).1=0 then 0 else 2):=by
 unfold Kit
 by_cases h:(Kpo c).1=0 <;> simp [Kt9,Kpp,h]
theorem Kxr:Kit (⟨s⟩,⟨3,N,ty,ks⟩,((0:Nat):Int),c :: r)=some (if (Kpo c).1=0 then 0 else 2):=by
 unfold Kit
 by_cases h:(Kpo c).1=0 <;> simp [Kt9,Kpp,h]
theorem Kxs:Kit (⟨s⟩,⟨10,N,ty,ks⟩,((0:Nat):Int),c :: r)=some (if (Kpo c).1=3 then 0 else 6):=by
 unfold Kit
 by_cases h:(Kpo c).1=3 <;> simp [Kt9,Kpp,h]
include hs
theorem Kxt {g:Nat} (hg:g < n):Kit (⟨s⟩,⟨5,(g:Int),ty,ks⟩,((0:Nat):Int),c :: r)=some (if (Kpo c).1=1 then (if le s n 1 g then 0 else 8) else 4):=by
 have hl:=iLe hs.tab (Kv8 hs) hg
 unfold Kit
 by_cases h:(Kpo c).1=1 <;> cases hle:le s n 1 g <;> simp [Kt9,Kpp,h,show Kfg (s,1,(g:Int))=some (le s n 1 g) from hl,hle]
theorem Kxu {g:Nat} (hg:g < n):Kit (⟨s⟩,⟨8,(g:Int),ty,ks⟩,((0:Nat):Int),c :: r)=some (if (Kpo c).1=2 then (if le s n 1 g then 0 else 8) else 5):=by
 have hl:=iLe hs.tab (Kv8 hs) hg
 unfold Kit
 by_cases h:(Kpo c).1=2 <;> cases hle:le s n 1 g <;> simp [Kt9,Kpp,h,show Kfg (s,1,(g:Int))=some (le s n 1 g) from hl,hle]
theorem Kxv {g:Nat} (hg:g < n):Kit (⟨s⟩,⟨12,(g:Int),ty,ks⟩,((0:Nat):Int),c :: r)=some (if (Kpo c).1=4 then (if le s n 1 g then 0 else 8) else 7):=by
 have hl:=iLe hs.tab (Kv8 hs) hg
 unfold Kit
 by_cases h:(Kpo c).1=4 <;> cases hle:le s n 1 g <;> simp [Kt9,Kpp,h,show Kfg (s,1,(g:Int))=some (le s n 1 g) from hl,hle]
end
def Kxw (ty:List Int) (ns:List Nat) (kids:List K03):Int × K03:=(if ty.length > 40 then 3 else 0,⟨ty,Kv1 ns,kids,0,[]⟩)
theorem Kxx {α:Type} (x:α) (l:List α):idx (x :: l) 0=some x:=rfl
theorem Kxy {α:Type} (x y:α) (l:List α):idx (x :: y :: l) 1=some y:=rfl
theorem Kxz {α:Type} (x y z:α) (l:List α):idx (x :: y :: z :: l) 2=some z:=rfl
section
variable {s:K00} {n:Nat} (hs:Kv6 s n) {N:Int} {ty:List Int} {ks:List K02} {ctx us:List (List Int)} {z:List Int} {y0 y1 y2:K03} {a b d:List Nat}
theorem Ky0 {i:Nat} {q:List Int} {zs:List Nat} (hi:ctx[i]?=some q) (hz:i < zs.length) (hq:q.length ≤ 40):Klc (⟨s⟩,⟨[],Kv1 zs,[],0,[]⟩,ctx,⟨0,(i:Int),ty,ks⟩,[],[])=some (Kxw q (zs.set i 1) []):=by
 obtain ⟨h1,h2⟩:=List.getElem?_eq_some_iff.1 hi
 have e1:idx ctx (i:Int)=some q:=by rw [Koa h1,h2]
 have e2:idx (Kv1 zs) (i:Int)=some ((zs[i]:Nat):Int):=by rw [Koa (by rw [Kv2]; exact hz)]; simp [Kv1]
 have e3:List.set (Kv1 zs) i 1=Kv1 (zs.set i 1):=by unfold Kv1; rw [List.map_set]; rfl
 have h40:¬ ((q.length:Int) > 40):=by omega
 unfold Klc Kks Kxw
 simp [e1,e2,e3,Krn q (by omega),show ¬ (40 < (q.length:Int)) by omega,show ¬ (40 < q.length) by omega]
theorem Ky1 {zs:List Nat}:Klc (⟨s⟩,⟨[],Kv1 zs,[],0,[]⟩,ctx,⟨1,N,ty,ks⟩,[],[])=some (Kxw [0] zs []):=by
 unfold Klc Kks Kxw
 simp
theorem Ky2 (hy:y0.fty.length ≤ 1000) (ht:ty.length ≤ 1000):Klc (⟨s⟩,⟨[],z,[y0],0,[]⟩,ctx,⟨6,N,ty,ks⟩,[Kv1 a],us)=some (Kxw (2 :: (y0.fty ++ ty)) a [y0]):=by
 have hc:=Kwa [[2],y0.fty,ty] (by simp) (by simp; omega)
 unfold Klc Kks Kxw Kje
 simp only [List.flatten_cons,List.flatten_nil,List.append_nil,List.singleton_append,List.cons_append,List.nil_append] at hc
 simp [Kxx,Kxy,hc]
 split <;> rename_i q40
 ·rw [if_pos (by omega)]
 ·rw [if_neg (by omega)]
theorem Ky3 (hy:y0.fty.length ≤ 1000) (ht:ty.length ≤ 1000):Klc (⟨s⟩,⟨[],z,[y0],0,[]⟩,ctx,⟨7,N,ty,ks⟩,[Kv1 a],us)=some (Kxw (2 :: (ty ++ y0.fty)) a [y0]):=by
 have hc:=Kwa [[2],ty,y0.fty] (by simp) (by simp; omega)
 unfold Klc Kks Kxw Kje
 simp only [List.flatten_cons,List.flatten_nil,List.append_nil,List.singleton_append,List.cons_append,List.nil_append] at hc
 simp [Kxx,Kxy,hc]
 split <;> rename_i q40
 ·rw [if_pos (by omega)]
 ·rw [if_neg (by omega)]
include hs
theorem Ky4 (ha:Kvh n a) (hb:Kvh n b) (hl:a.length ≤ 1000000) (hab:a.length=b.length):Klc (⟨s⟩,⟨[],z,[y0,y1],0,[]⟩,ctx,⟨2,N,ty,ks⟩,[Kv1 a,Kv1 b],us)=some (Kxw [0] (Kve s n a b) [y0,y1]):=by
 have h:=Kvw hs a b ha hb (by omega) hab
 unfold Klc Kks Kxw
 simp [Kxx,Kxy,h]
theorem Ky5 (ha:Kvh n a) (hb:Kvh n b) (hd:Kvh n d) (hl:a.length ≤ 1000000) (hab:a.length=b.length) (had:a.length=d.length) (h2:y2.fty.length ≤ 1000) (h1:y1.fty.length ≤ 40) :
  Klc (⟨s⟩,⟨[],z,[y0,y1,y2],0,[]⟩,ctx,⟨3,N,ty,ks⟩,[Kv1 a,Kv1 b,Kv1 d],us)=some (if y1.fty=y2.fty then Kxw y1.fty (Kve s n a (Kvg s n b d)) [y0,y1,y2] else (3,⟨[],z,[y0,y1,y2],0,[]⟩)):=by
 have hj:=Kvy hs b d hb hd (by omega) (by omega)
 have hlj:(Kvg s n b d).length=a.length:=by unfold Kvg; rw [List.length_zipWith]; omega
 have h:=Kvw hs a (Kvg s n b d) ha (Kvm hs hb hd) (by omega) hlj.symm
 have he:=Ku1 y1.fty y2.fty (by omega)
 unfold Klc Kks Kxw Kje
 by_cases hq:y1.fty=y2.fty
 ·rw [show (y1.fty == y2.fty)=true from beq_iff_eq.2 hq] at he
  rw [if_pos hq]
  simp [Kxx,Kxy,Kxz,he,hj,h,show ¬ (40 < (y1.fty.length:Int)) by omega,show ¬ (40 < y1.fty.length) by omega]
 ·rw [show (y1.fty == y2.fty)=false from beq_eq_false_iff_ne.2 hq] at he
  rw [if_neg hq]
  simp [Kxx,Kxy,Kxz,he]
theorem Ky6 (ha:Kvh n a) (hb:Kvh n b) (hl:a.length ≤ 1000000) (hab:a.length=b.length) (h0:y0.fty.length ≤ 1000) (h1:y1.fty.length ≤ 1000) :
  Klc (⟨s⟩,⟨[],z,[y0,y1],0,[]⟩,ctx,⟨4,N,ty,ks⟩,[Kv1 a,Kv1 b],us)=some (Kxw (1 :: (y0.fty ++ y1.fty)) (Kve s n a b) [y0,y1]):=by
 have h:=Kvw hs a b ha hb (by omega) hab
 have hc:=Kwa [[1],y0.fty,y1.fty] (by simp) (by simp; omega)
 unfold Klc Kks Kxw Kje
 simp only [List.flatten_cons,List.flatten_nil,List.append_nil,List.singleton_append,List.cons_append,List.nil_append] at hc
 simp [Kxx,Kxy,hc,h]
 split <;> rename_i q40
 ·rw [if_pos (by omega)]
 ·rw [if_neg (by omega)]
theorem Ky7 {g:Nat} (hg:g < n) {u:List Nat} (hu:Kvh n u) (hul:u.length ≤ 1000000) (hy:y0.fty.length ≤ 1000) (ht:ty.length ≤ 1000) :
  Klc (⟨s⟩,⟨[],z,[y0],0,[]⟩,ctx,⟨9,(g:Int),ty,ks⟩,[Kv1 a],[Kv1 u])=some (if (u.all fun x=>le s n x g)=true then Kxw ((3 + (g:Int)) :: (ty ++ y0.fty)) a [y0] else (9,⟨[],z,[y0],0,[]⟩)):=by
 have hn:=hs.tab.hi
 have e:=Kw2 hs g hg u hu (by omega)
 have hw:wr (3 + (g:Int))=3 + (g:Int):=Ko9 (by omega) (by omega)
 have hc:=Kwa [[3 + (g:Int)],ty,y0.fty] (by simp) (by simp; omega)
 unfold Klc Kks Kxw Kje
 simp only [List.flatten_cons,List.flatten_nil,List.append_nil,List.singleton_append,List.cons_append,List.nil_append] at hc
 cases hq:(u.all fun x=>le s n x g) with
 | true =>
  rw [hq] at e
  simp [Kxx,Kxy,e,hc,hw]
  split <;> rename_i q40
  ·rw [if_pos (by omega)]
  ·rw [if_neg (by omega)]
 | false =>
  rw [hq] at e
  simp [Kxx,Kxy,e]
theorem Ky8 {g:Nat} (hg:g < n) (ha:Kvh n a) (hl:a.length ≤ 1000000) (hy:y0.fty.length ≤ 1000) :
  Klc (⟨s⟩,⟨[],z,[y0],0,[]⟩,ctx,⟨11,(g:Int),ty,ks⟩,[Kv1 a],us)=some (Kxw ((19 + (g:Int)) :: y0.fty) (Kvf s n g a) [y0]):=by
 have hn:=hs.tab.hi
 have e:=Kw0 hs g hg a ha (by omega)
 have hw:wr (19 + (g:Int))=19 + (g:Int):=Ko9 (by omega) (by omega)
 have hc:=Kwa [[19 + (g:Int)],y0.fty] (by simp) (by simp; omega)
 unfold Klc Kks Kxw Kje
 simp only [List.flatten_cons,List.flatten_nil,List.append_nil,List.singleton_append,List.cons_append,List.nil_append] at hc
 simp [Kxx,Kxy,hc,hw,e]
 split <;> rename_i q40
 ·rw [if_pos (by omega)]
 ·rw [if_neg (by omega)]
theorem Ky9 {g:Nat} (hg:g < n) {p q:List Int} (hty:y0.fty=(3 + (g:Int)) :: (p ++ q)) (hP:Kwv s (3 + (g:Int)) p q) (ha:Kvh n a) (hb:Kvh n b) (hl:a.length ≤ 1000000) (hab:a.length=b.length) :
  Klc (⟨s⟩,⟨[],z,[y0,y1],0,[]⟩,ctx,⟨10,N,ty,ks⟩,[Kv1 a,Kv1 b],us)=some (Kxw q (Kve s n a (Kvf s n g b)) [y0,y1]):=by
 have hn:=hs.tab.hi
 have e:=Kw0 hs g hg b hb (by omega)
 have hlj:(Kvf s n g b).length=a.length:=by unfold Kvf; rw [List.length_map]; omega
 have h:=Kvw hs a (Kvf s n g b) ha (Kvl hs hg hb) (by omega) hlj.symm
 have hsh:Kpo (3 + (g:Int))=(3,(g:Int)):=by
  rcases Kpq (3 + (g:Int)) with h | h | h | h | h | h | h | h <;> first | omega | (obtain ⟨_,e⟩:=h; rw [e]; congr 1; omega)
 have hq:=Kws hP.yb
 have pp:=hP.pp
 rw [← hty] at pp
 have i0:idx y0.fty 0=some (3 + (g:Int)):=by rw [hty]; rfl
 unfold Klc Kks Kxw Kje
 simp [Kxx,Kxy,i0,Kpp,hsh,pp,e,h,show ¬ (40 < (q.length:Int)) by omega,show ¬ (40 < q.length) by omega]
theorem Kya {g:Nat} (hg:g < n) {u:List Nat} {us':List Int} (hu:Kvh n u) (hul:u.length ≤ 1000000) (ha:Kvh n a) (hb:Kvh n b) (hl:a.length ≤ 1000000) (hab:a.length=b.length) (h1:y1.fty.length ≤ 40) :
  Klc (⟨s⟩,⟨[],z,[y0,y1],0,[]⟩,ctx,⟨5,(g:Int),ty,ks⟩,[Kv1 a,Kv1 b],[us',Kv1 u])=some (if (u.all fun x=>le s n x g)=true then Kxw y1.fty (Kve s n (Kvf s n g a) b) [y0,y1] else (9,⟨[],z,[y0,y1],0,[]⟩)):=by
 have e:=Kw2 hs g hg u hu (by omega)
 have e2:=Kw0 hs g hg a ha (by omega)
 have hlj:(Kvf s n g a).length=a.length:=by unfold Kvf; rw [List.length_map]
 have h:=Kvw hs (Kvf s n g a) b (Kvl hs hg ha) hb (by omega) (by omega)
 unfold Klc Kks Kxw Kje
 cases hq:(u.all fun x=>le s n x g) with
 | true =>
  rw [hq] at e
  simp [Kxx,Kxy,e,e2,h,show ¬ (40 < (y1.fty.length:Int)) by omega,show ¬ (40 < y1.fty.length) by omega]
 | false =>
  rw [hq] at e
  simp [Kxx,Kxy,e]
theorem Kyb {g m:Nat} (hg:g < n) (hm:m < n) {p:List Int} (hty:y0.fty=(19 + (m:Int)) :: p) {u:List Nat} {us':List Int} (hu:Kvh n u) (hul:u.length ≤ 1000000) (ha:Kvh n a) (hb:Kvh n b) (hl:a.length ≤ 1000000) (hab:a.length=b.length) (h1:y1.fty.length ≤ 40) :
  Klc (⟨s⟩,⟨[],z,[y0,y1],0,[]⟩,ctx,⟨12,(g:Int),ty,ks⟩,[Kv1 a,Kv1 b],[us',Kv1 u])=some (if (u.all fun x=>le s n x (ti s n g m))=true then Kxw y1.fty (Kve s n (Kvf s n g a) b) [y0,y1] else (9,⟨[],z,[y0,y1],0,[]⟩)):=by
 have hn:=hs.tab.hi
 have e0:=Kop hs.tab hg hm
 have e:=Kw2 hs (ti s n g m) (Koi hs.tab hg hm) u hu (by omega)
 have e2:=Kw0 hs g hg a ha (by omega)
 have hlj:(Kvf s n g a).length=a.length:=by unfold Kvf; rw [List.length_map]
 have h:=Kvw hs (Kvf s n g a) b (Kvl hs hg ha) hb (by omega) (by omega)
 have hsh:Kpo (19 + (m:Int))=(4,(m:Int)):=by
  rcases Kpq (19 + (m:Int)) with h | h | h | h | h | h | h | h <;> first | omega | (obtain ⟨_,e⟩:=h; rw [e]; congr 1; omega)
 have i0:idx y0.fty 0=some (19 + (m:Int)):=by rw [hty]; rfl
 unfold Klc Kks Kxw Kje
 cases hq:(u.all fun x=>le s n x (ti s n g m)) with
 | true =>
  rw [hq] at e
  simp [Kxx,Kxy,i0,Kpp,hsh,e0,e,e2,h,show ¬ (40 < (y1.fty.length:Int)) by omega,show ¬ (40 < y1.fty.length) by omega]
 | false =>
  rw [hq] at e
  simp [Kxx,Kxy,i0,Kpp,hsh,e0,e]
theorem Kyc {g:Nat} (hg:g < n) {u v:List Nat} {us':List Int} (hu:Kvh n u) (hul:u.length ≤ 1000000) (hv:Kvh n v) (hvl:v.length ≤ 1000000) (ha:Kvh n a) (hb:Kvh n b) (hd:Kvh n d) (hl:a.length ≤ 1000000) (hab:a.length=b.length) (had:a.length=d.length) (h2:y2.fty.length ≤ 1000) (h1:y1.fty.length ≤ 40) :
  Klc (⟨s⟩,⟨[],z,[y0,y1,y2],0,[]⟩,ctx,⟨8,(g:Int),ty,ks⟩,[Kv1 a,Kv1 b,Kv1 d],[us',Kv1 u,Kv1 v]) =
   some (if y1.fty=y2.fty then (if (u.all fun x=>le s n x g)=true∧(v.all fun x=>le s n x g)=true then Kxw y1.fty (Kve s n (Kvf s n g a) (Kvg s n b d)) [y0,y1,y2] else (9,⟨[],z,[y0,y1,y2],0,[]⟩)) else (3,⟨[],z,[y0,y1,y2],0,[]⟩)):=by
 have e:=Kw2 hs g hg u hu (by omega)
 have e':=Kw2 hs g hg v hv (by omega)
 have e2:=Kw0 hs g hg a ha (by omega)
 have hj:=Kvy hs b d hb hd (by omega) (by omega)
 have hlj:(Kvg s n b d).length=a.length:=by unfold Kvg; rw [List.length_zipWith]; omega
 have hls:(Kvf s n g a).length=a.length:=by unfold Kvf; rw [List.length_map]
 have h:=Kvw hs (Kvf s n g a) (Kvg s n b d) (Kvl hs hg ha) (Kvm hs hb hd) (by omega) (by omega)
 have he:=Ku1 y1.fty y2.fty (by omega)
 unfold Klc Kks Kxw Kje
 by_cases hq:y1.fty=y2.fty
 ·rw [show (y1.fty == y2.fty)=true from beq_iff_eq.2 hq] at he
  rw [if_pos hq]
  cases hu':(u.all fun x=>le s n x g) with
  | false =>
   rw [hu'] at e
   simp [Kxx,Kxy,Kxz,he,e]
  | true =>
   rw [hu'] at e
   cases hv':(v.all fun x=>le s n x g) with
   | false =>
    rw [hv'] at e'
    simp [Kxx,Kxy,Kxz,he,e,e']
   | true =>
    rw [hv'] at e'
    simp [Kxx,Kxy,Kxz,he,e,e',e2,hj,h,show ¬ (40 < (y1.fty.length:Int)) by omega,show ¬ (40 < y1.fty.length) by omega]
 ·rw [show (y1.fty == y2.fty)=false from beq_eq_false_iff_ne.2 hq] at he
  rw [if_neg hq]
  simp [Kxx,Kxy,Kxz,he]
end
def Kyd (t:K02) (i:Nat) (kids:List K03):List (List Int):=(Kic (t,(i:Int),(match kids with | []=>[] | y :: _=>y.fty))).getD []
structure Kye (s:K00) (ctx:List (List Int)) (t:K02) (kids:List K03) (i:Nat) (k:K02) (y:K03):Prop where
 im:Klh (⟨s⟩,Kyd t i kids ++ ctx,k)=some y
 fa:y.ffault=0
 ty:∀ q ∈ Kyd t i kids,TyS s q
 ln:(Kyd t i kids).length=Kqt t.fOp i
structure Kyf (s:K00) (n:Nat) (ctx:List (List Int)) (t:K02) (x:Kns) (y:K03):Prop where
 sp:Ko4 (s,ctx,t)=some x
 im:Klh (⟨s⟩,ctx,t)=some y
 ty:y.fty=x.fty
 ne:y.fneeds=x.fneeds
 fa:y.ffault=x.ffault
 pa:y.fpath=x.fpath
 pl:x.fpath.length + 1 ≤ tsz t
 bd:x.ffault ≠ 0→x.fty=[]∧x.fneeds=[]
 gd:x.ffault=0→TyS s x.fty∧x.fpath=[]∧∃ ns:List Nat,x.fneeds=Kv1 ns∧ns.length=ctx.length∧Kvh n ns
 kd:x.ffault=0→y.fkids.length=t.fKids.length∧∀ (i:Nat) (k:K02),t.fKids[i]?=some k→∃ yk,y.fkids[i]?=some yk∧Kye s ctx t y.fkids i k yk
section
variable {s:K00} {n:Nat} {ctx:List (List Int)} {t:K02}
theorem Kyf.bad {f:Int} {p:List Int} (sp:Ko4 (s,ctx,t)=some ⟨[],[],f,p⟩) (im:Klh (⟨s⟩,ctx,t)=some ⟨[],[],[],f,p⟩) (hf:f ≠ 0) (hp:p.length + 1 ≤ tsz t):∃ x y,Kyf s n ctx t x y :=
 ⟨_,_,{ sp:=sp,im:=im,ty:=rfl,ne:=rfl,fa:=rfl,pa:=rfl,pl:=hp,bd:=fun _=>⟨rfl,rfl⟩,gd:=fun h=>absurd h hf,kd:=fun h=>absurd h hf }⟩
theorem Kyf.good {q:List Int} {ns:List Nat} {kids:List K03} (sp:Ko4 (s,ctx,t)=some ⟨q,Kv1 ns,0,[]⟩) (im:Klh (⟨s⟩,ctx,t)=some ⟨q,Kv1 ns,kids,0,[]⟩) (hp:1 ≤ tsz t) (hq:TyS s q) (hl:ns.length=ctx.length) (hb:Kvh n ns)
  (kl:kids.length=t.fKids.length) (kd:∀ (i:Nat) (k:K02),t.fKids[i]?=some k→∃ yk,kids[i]?=some yk∧Kye s ctx t kids i k yk):∃ x y,Kyf s n ctx t x y :=
 ⟨_,_,{ sp:=sp,im:=im,ty:=rfl,ne:=rfl,fa:=rfl,pa:=rfl,pl:=by simpa using hp,bd:=fun h=>absurd rfl h,gd:=fun _=>⟨hq,rfl,ns,rfl,hl,hb⟩,kd:=fun _=>⟨kl,kd⟩ }⟩
theorem Kyf.done {q:List Int} {ns:List Nat} {kids:List K03} (sp:Ko4 (s,ctx,t)=Ko1 (q,Kv1 ns)) (im:Klh (⟨s⟩,ctx,t)=some (if (Kxw q ns kids).1=0 then ⟨(Kxw q ns kids).2.fty,(Kxw q ns kids).2.fneeds,(Kxw q ns kids).2.fkids,0,(Kxw q ns kids).2.fpath⟩ else ⟨[],[],[],(Kxw q ns kids).1,[]⟩)) (hp:1 ≤ tsz t)
  (hq:q.length ≤ 40→TyS s q) (hl:ns.length=ctx.length) (hb:Kvh n ns) (kl:kids.length=t.fKids.length) (kd:∀ (i:Nat) (k:K02),t.fKids[i]?=some k→∃ yk,kids[i]?=some yk∧Kye s ctx t kids i k yk):∃ x y,Kyf s n ctx t x y:=by
 unfold Ko1 Kny at sp
 simp only at sp
 unfold Kxw at im
 by_cases h:q.length > 40
 ·rw [decide_eq_true (by omega),if_pos rfl,bs] at sp
  rw [if_pos h,if_neg (by simp)] at im
  exact Kyf.bad sp im (by decide) (by simpa using hp)
 ·rw [decide_eq_false (by omega),if_neg (by decide)] at sp
  rw [if_neg h,if_pos rfl] at im
  exact Kyf.good sp im hp (hq (by omega)) hl hb kl kd
theorem Kyg {i:Nat} {k:K02} {x:Kns} {y:K03} {c:List (List Int)} (hk:t.fKids[i]?=some k) (h:Kyf s n c k x y) (hf:x.ffault=0):Ko6 (s,c,t,(i:Int))=some x:=by
 obtain ⟨h1,h2⟩:=List.getElem?_eq_some_iff.1 hk
 rw [Ko6.eq_def]
 simp only
 rw [Koa h1,h2,bs,h.sp,bs,if_neg (by simp [hf]),bs]
theorem Kyh {i:Nat} {k:K02} {x:Kns} {y:K03} {c:List (List Int)} (hk:t.fKids[i]?=some k) (h:Kyf s n c k x y) (hz:tsz k ≤ 1000000) (hf:x.ffault ≠ 0):Ko6 (s,c,t,(i:Int))=some ⟨[],[],x.ffault,(i:Int) :: x.fpath⟩:=by
 obtain ⟨h1,h2⟩:=List.getElem?_eq_some_iff.1 hk
 have hp:=h.pl
 obtain ⟨q1,q2⟩:=h.bd hf
 rw [Ko6.eq_def]
 simp only
 rw [Koa h1,h2,bs,h.sp,bs,if_pos (bne_iff_ne.2 hf),Krc (by simp; omega),bs,bs,q1,q2]
 rfl
variable {out:List K03} {nd us:List (List Int)} {w:Nat} {k:K02} {m:List (List Int)} {x:Kns} {y:K03}
theorem Kyi (hk:t.fKids[w]?=some k) (hm:Kxa t out w=some m) (r:Kyf s n (m ++ ctx) k x y) (hz:tsz k ≤ 1000000) (hc:ctx.length + m.length ≤ 1000000) (hf:x.ffault ≠ 0) :
  Kli (⟨s⟩,ctx,t,out,nd,us,(w:Int))=some (.inr ⟨[],[],[],x.ffault,(w:Int) :: x.fpath⟩):=by
 obtain ⟨h1,h2⟩:=List.getElem?_eq_some_iff.1 hk
 have hp:=r.pl
 rw [Kxc h1 (by rw [Koa h1,h2]) hm hc r.im,Kxh (by rw [r.fa]; exact hf) (by rw [r.pa]; omega),r.fa,r.pa]
theorem Kyj {f:Int} (hk:t.fKids[w]?=some k) (hm:Kxa t out w=some m) (r:Kyf s n (m ++ ctx) k x y) (hc:ctx.length + m.length ≤ 1000000) (hf:x.ffault=0) (h:Kit (⟨s⟩,t,(w:Int),x.fty)=some f) (hf0:f ≠ 0) :
  Kli (⟨s⟩,ctx,t,out,nd,us,(w:Int))=some (.inr ⟨[],[],[],f,[]⟩):=by
 obtain ⟨h1,h2⟩:=List.getElem?_eq_some_iff.1 hk
 rw [Kxc h1 (by rw [Koa h1,h2]) hm hc r.im,Kxi (by rw [r.fa]; exact hf) (by rw [r.ty]; exact h) hf0]
theorem Kyk (hk:t.fKids[w]?=some k) (hm:Kxa t out w=some m) (r:Kyf s n (m ++ ctx) k x y) (hc:ctx.length + m.length ≤ 1000000) (hf:x.ffault=0) (h:Kit (⟨s⟩,t,(w:Int),x.fty)=some 0) (ha:Kxg t out w y=some true) :
  Kli (⟨s⟩,ctx,t,out,nd,us,(w:Int))=some (.inr ⟨[],[],[],3,[]⟩):=by
 obtain ⟨h1,h2⟩:=List.getElem?_eq_some_iff.1 hk
 rw [Kxc h1 (by rw [Koa h1,h2]) hm hc r.im,Kxj (by rw [r.fa]; exact hf) (by rw [r.ty]; exact h) ha]
theorem Kyl {ns:List Nat} (hk:t.fKids[w]?=some k) (hm:Kxa t out w=some m) (r:Kyf s n (m ++ ctx) k x y) (hc:ctx.length + m.length ≤ 1000000) (hf:x.ffault=0) (h:Kit (⟨s⟩,t,(w:Int),x.fty)=some 0) (ha:Kxg t out w y=some false)
  (hn:x.fneeds=Kv1 ns) (hl:m.length ≤ ns.length) (h1':out.length ≤ 1000000) (h2':nd.length ≤ 1000000) (h3':us.length ≤ 1000000) (h4':w ≤ 1000000) :
  Kli (⟨s⟩,ctx,t,out,nd,us,(w:Int))=Kli (⟨s⟩,ctx,t,(out ++ [y]),(nd ++ [Kv1 (ns.drop m.length)]),(us ++ [Kv1 (ns.take m.length)]),((w + 1:Nat):Int)):=by
 obtain ⟨h1,h2⟩:=List.getElem?_eq_some_iff.1 hk
 rw [Kxc h1 (by rw [Koa h1,h2]) hm hc r.im,Kxk (by rw [r.fa]; exact hf) (by rw [r.ty]; exact h) ha (by rw [r.ne]; exact hn) hl h1' h2' h3' h4']
end
theorem Kym {op N:Int} {ty:List Int} {ks:List K02} {i:Nat} {q:List Int} (h9:op ≠ 9) (h:Kqt op (i:Int)=0):Kic (⟨op,N,ty,ks⟩,(i:Int),q)=some []:=by
 unfold Kic
 simp only
 rw [if_neg (by simpa using h9),Kqw,bs,h]
 rfl
theorem Kyn {N:Int} {ty:List Int} {ks:List K02} {i:Nat} {q:List Int}:Kic (⟨9,N,ty,ks⟩,(i:Int),q)=some [ty]:=by
 unfold Kic
 simp only
 rw [if_pos (by decide)]
theorem Kyo {s:K00} {N:Int} {ty:List Int} {ks:List K02} {p q:List Int} (h:Kwv s 1 p q):Kic (⟨5,N,ty,ks⟩,((1:Nat):Int),1 :: (p ++ q))=some [q,p]:=by
 unfold Kic
 simp only
 rw [if_neg (by decide),Kqw,bs,show Kqt 5 ((1:Nat):Int)=2 from rfl,if_neg (by decide),h.pp,bs,if_pos (by decide)]
 rfl
theorem Kyp {s:K00} {N:Int} {ty:List Int} {ks:List K02} {p q:List Int} (h:Kwv s 2 p q):Kic (⟨8,N,ty,ks⟩,((1:Nat):Int),2 :: (p ++ q))=some [p]:=by
 unfold Kic
 simp only
 rw [if_neg (by decide),Kqw,bs,show Kqt 8 ((1:Nat):Int)=1 from rfl,if_neg (by decide),h.pp,bs,if_neg (by decide),if_pos (by decide)]
 rfl
theorem Kyq {s:K00} {N:Int} {ty:List Int} {ks:List K02} {p q:List Int} (h:Kwv s 2 p q):Kic (⟨8,N,ty,ks⟩,((2:Nat):Int),2 :: (p ++ q))=some [q]:=by
 unfold Kic
 simp only
 rw [if_neg (by decide),Kqw,bs,show Kqt 8 ((2:Nat):Int)=1 from rfl,if_neg (by decide),h.pp,bs,if_neg (by decide),if_pos (by decide)]
 rfl
theorem Kyr {s:K00} {N c:Int} {ty:List Int} {ks:List K02} {p:List Int} (h:Kww s c p):Kic (⟨12,N,ty,ks⟩,((1:Nat):Int),c :: p)=some [p]:=by
 unfold Kic
 simp only
 rw [if_neg (by decide),Kqw,bs,show Kqt 12 ((1:Nat):Int)=1 from rfl,if_neg (by decide),h.pp,bs,if_neg (by decide),if_neg (by decide)]
theorem Kys {op N:Int} {ty:List Int} {ks:List K02} (h9:op ≠ 9):Kxa ⟨op,N,ty,ks⟩ [] 0=some []:=by
 unfold Kxa
 simp [h9]
theorem Kyt {N:Int} {ty:List Int} {ks:List K02}:Kxa ⟨9,N,ty,ks⟩ [] 0=some [ty]:=by
 unfold Kxa
 have:=@Kyn N ty ks 0 []
 simp at this ⊢
 rw [this]
theorem Kyu {t:K02} {w:Nat} {y0:K03} {l:List K03} {m:List (List Int)} (hw:0 < w) (h:Kic (t,(w:Int),y0.fty)=some m):Kxa t (y0 :: l) w=some m:=by
 unfold Kxa
 rw [show decide ((w:Int) > 0)=true from decide_eq_true (by omega),if_pos rfl,bs,if_pos rfl,if_pos rfl,Kxx,bs,bs,h,bs]
theorem Kyv {t:K02} {i:Nat} {y0:K03} {l:List K03} {m:List (List Int)} (h:Kic (t,(i:Int),y0.fty)=some m):Kyd t i (y0 :: l)=m:=by
 unfold Kyd
 simp only
 rw [h]; rfl
theorem kd1 {s:K00} {ctx:List (List Int)} {op N:Int} {ty:List Int} {k0:K02} {y0:K03} (h0:Kye s ctx ⟨op,N,ty,[k0]⟩ [y0] 0 k0 y0) :
  ∀ (i:Nat) (k:K02),(⟨op,N,ty,[k0]⟩:K02).fKids[i]?=some k→∃ yk,[y0][i]?=some yk∧Kye s ctx ⟨op,N,ty,[k0]⟩ [y0] i k yk:=by
 intro i k hk
 match i,hk with
 | 0,hk=>cases hk; exact ⟨y0,rfl,h0⟩
 | i + 1,hk=>simp at hk
theorem kd2 {s:K00} {ctx:List (List Int)} {op N:Int} {ty:List Int} {k0 k1:K02} {y0 y1:K03} (h0:Kye s ctx ⟨op,N,ty,[k0,k1]⟩ [y0,y1] 0 k0 y0) (h1:Kye s ctx ⟨op,N,ty,[k0,k1]⟩ [y0,y1] 1 k1 y1) :
  ∀ (i:Nat) (k:K02),(⟨op,N,ty,[k0,k1]⟩:K02).fKids[i]?=some k→∃ yk,[y0,y1][i]?=some yk∧Kye s ctx ⟨op,N,ty,[k0,k1]⟩ [y0,y1] i k yk:=by
 intro i k hk
 match i,hk with
 | 0,hk=>cases hk; exact ⟨y0,rfl,h0⟩
 | 1,hk=>cases hk; exact ⟨y1,rfl,h1⟩
 | i + 2,hk=>simp at hk
theorem kd3 {s:K00} {ctx:List (List Int)} {op N:Int} {ty:List Int} {k0 k1 k2:K02} {y0 y1 y2:K03} (h0:Kye s ctx ⟨op,N,ty,[k0,k1,k2]⟩ [y0,y1,y2] 0 k0 y0) (h1:Kye s ctx ⟨op,N,ty,[k0,k1,k2]⟩ [y0,y1,y2] 1 k1 y1) (h2:Kye s ctx ⟨op,N,ty,[k0,k1,k2]⟩ [y0,y1,y2] 2 k2 y2) :
  ∀ (i:Nat) (k:K02),(⟨op,N,ty,[k0,k1,k2]⟩:K02).fKids[i]?=some k→∃ yk,[y0,y1,y2][i]?=some yk∧Kye s ctx ⟨op,N,ty,[k0,k1,k2]⟩ [y0,y1,y2] i k yk:=by
 intro i k hk
 match i,hk with
 | 0,hk=>cases hk; exact ⟨y0,rfl,h0⟩
 | 1,hk=>cases hk; exact ⟨y1,rfl,h1⟩
 | 2,hk=>cases hk; exact ⟨y2,rfl,h2⟩
 | i + 3,hk=>simp at hk
theorem Kye.mk' {s:K00} {n:Nat} {ctx m:List (List Int)} {t k:K02} {y0:K03} {l:List K03} {i:Nat} {x:Kns} {y:K03} (ha:Kic (t,(i:Int),y0.fty)=some m) (r:Kyf s n (m ++ ctx) k x y) (hf:x.ffault=0) (hm:∀ q ∈ m,TyS s q) (hl:m.length=Kqt t.fOp i):Kye s ctx t (y0 :: l) i k y:=by
 have e:=Kyv (l:=l) ha
 exact ⟨by rw [e]; exact r.im,by rw [r.fa]; exact hf,by rw [e]; exact hm,by rw [e]; exact hl⟩
def Kyw (s:K00) (n sz:Nat):Prop:=∀ (k:K02) (c:List (List Int)),Kx5 s c.length k sz→(∀ q ∈ c,TyS s q)→c.length + 2 * tsz k ≤ 1000000→∃ x y,Kyf s n c k x y
theorem Kyx {X:Option K03} {q:List Int} {ns:List Nat} {kids:List K03} (h:q.length ≤ 40) (im:X=some (if (Kxw q ns kids).1=0 then (⟨(Kxw q ns kids).2.fty,(Kxw q ns kids).2.fneeds,(Kxw q ns kids).2.fkids,0,(Kxw q ns kids).2.fpath⟩:K03) else ⟨[],[],[],(Kxw q ns kids).1,[]⟩)):X=some ⟨q,Kv1 ns,kids,0,[]⟩:=by
 rw [im]
 unfold Kxw
 simp only
 rw [show (if q.length > 40 then (3:Int) else 0)=0 from if_neg (by omega),if_pos rfl]
section
variable {s:K00} {n:Nat} (hs:Kv6 s n) {ctx:List (List Int)} {N:Int} {ty:List Int} {ks:List K02}
theorem Kyy {op:Int} {k0:K02} {l:List K02} {x0:Kns} {y0:K03} (h0:op ≠ 0) (h1:op ≠ 1) (h9:op ≠ 9) (hb:ctx.length + 2 * tsz (⟨op,N,ty,k0 :: l⟩:K02) ≤ 1000000) (r0:Kyf s n ctx k0 x0 y0) (f0:x0.ffault ≠ 0) :
  ∃ x y,Kyf s n ctx ⟨op,N,ty,k0 :: l⟩ x y:=by
 have hz:tsz k0 + 1 ≤ tsz (⟨op,N,ty,k0 :: l⟩:K02):=by rw [tsz,Kqa]; omega
 have e0:Ko6 (s,ctx,⟨op,N,ty,k0 :: l⟩,0)=some ⟨[],[],x0.ffault,0 :: x0.fpath⟩:=Kyh (i:=0) rfl r0 (by omega) f0
 refine Kyf.bad (f:=x0.ffault) (p:=0 :: x0.fpath) ?_ (Kxl (by omega) (Kyi (m:=[]) rfl (Kys h9) r0 (by omega) (by simp; omega) f0)) f0 (by have:=r0.pl; simp; omega)
 rw [Ko4.eq_def]
 simp [h0,h1,h9,e0,f0]
include hs
theorem Kyz {t:K02} (ht:t.fOp=0) (h:tOk (gN s.fSize true) (yN s.fSize true) ctx.length t=true) (hc:∀ q ∈ ctx,TyS s q) (hb:ctx.length + 2 * tsz t ≤ 1000000):∃ x y,Kyf s n ctx t x y:=by
 obtain ⟨i,hi,hl,hk⟩:=Kx8 h ht
 obtain ⟨op,N,ty,ks⟩:=t
 simp only at ht hi hk
 subst ht; subst hi; subst hk
 have hq:ctx[i]?=some ctx[i]:=List.getElem?_eq_getElem hl
 have hy:=hc ctx[i] (List.getElem_mem hl)
 have e1:idx ctx (i:Int)=some ctx[i]:=Koa hl
 have hz:=Kw3 ctx.length (by omega)
 have e2:idx (Kv1 (List.replicate ctx.length 0)) (i:Int)=some (((List.replicate ctx.length (0:Nat))[i]'(by simpa using hl):Nat):Int):=by
  rw [Koa (by rw [Kv2]; simpa using hl)]; simp [Kv1]
 have e3:List.set (Kv1 (List.replicate ctx.length 0)) i 1=Kv1 ((List.replicate ctx.length 0).set i 1):=by unfold Kv1; rw [List.map_set]; rfl
 have hf:=Ky0 (s:=s) (ty:=ty) (ks:=[]) (zs:=List.replicate ctx.length 0) hq (by simpa using hl) (Kws hy)
 have im:=Kxm (p0:=⟨s⟩) (t:=⟨0,(i:Int),ty,[]⟩) (by omega) (Kxd (Nat.le_refl _)) hf
 refine Kyf.good (q:=ctx[i]) (ns:=(List.replicate ctx.length 0).set i 1) (kids:=[]) ?_ ?_ (by rw [tsz]; omega) hy (by simp) ?_ rfl (fun i k hk=>by simp at hk)
 ·rw [Ko4.eq_def]
  simp [hz,e1,e2,Krm ctx[i] (by have:=Kws hy; omega),e3]
 ·exact Kyx (Kws hy) im
 ·intro x hx
  have h1:=Kv8 hs
  rcases List.mem_or_eq_of_mem_set hx with h | rfl
  ·rw [List.eq_of_mem_replicate h]; omega
  ·exact h1
theorem Kz0 {t:K02} (ht:t.fOp=1) (h:tOk (gN s.fSize true) (yN s.fSize true) ctx.length t=true) (hb:ctx.length + 2 * tsz t ≤ 1000000):∃ x y,Kyf s n ctx t x y:=by
 have hk:=Kx9 h ht
 obtain ⟨op,N,ty,ks⟩:=t
 simp only at ht hk
 subst ht; subst hk
 have hz:=Kw3 ctx.length (by omega)
 have hf:=Ky1 (s:=s) (N:=N) (ty:=ty) (ks:=[]) (ctx:=ctx) (zs:=List.replicate ctx.length 0)
 have im:=Kxm (p0:=⟨s⟩) (t:=⟨1,N,ty,[]⟩) (by omega) (Kxd (Nat.le_refl _)) hf
 refine Kyf.good (q:=[0]) (ns:=List.replicate ctx.length 0) (kids:=[]) ?_ ?_ (by rw [tsz]; omega) Kwy (by simp) ?_ rfl (fun i k hk=>by simp at hk)
 ·rw [Ko4.eq_def]
  simp [hz]
 ·exact Kyx (by decide) im
 ·intro x hx
  rw [List.eq_of_mem_replicate hx]
  exact Kv9 hs
theorem Kz1 {q:List Int} (hq:TyS s q):∃ c r,q=c :: r∧((Kpo c).1=0 ↔ c=0)∧(c=0→q=[0]):=by
 rcases Kx1 hs hq with rfl | ⟨a,b,rfl,_⟩ | ⟨a,b,rfl,_⟩ | ⟨g,a,b,hg,h15,rfl,_⟩ | ⟨g,a,hg,h15,rfl,_⟩
 ·exact ⟨0,[],rfl,by decide,fun _=>rfl⟩
 ·exact ⟨1,_,rfl,by decide,fun h=>absurd h (by decide)⟩
 ·exact ⟨2,_,rfl,by decide,fun h=>absurd h (by decide)⟩
 ·refine ⟨_,_,rfl,?_,fun h=>by omega⟩
  rcases Kpq (3 + (g:Int)) with h | h | h | h | h | h | h | h <;> first | omega | (obtain ⟨_,e⟩:=h; rw [e]; simp; omega)
 ·refine ⟨_,_,rfl,?_,fun h=>by omega⟩
  rcases Kpq (19 + (g:Int)) with h | h | h | h | h | h | h | h <;> first | omega | (obtain ⟨_,e⟩:=h; rw [e]; simp; omega)
theorem Kz2 (ih:Kyw s n (tsz (⟨6,N,ty,ks⟩:K02))) (h:tOk (gN s.fSize true) (yN s.fSize true) ctx.length ⟨6,N,ty,ks⟩=true) (hc:∀ q ∈ ctx,TyS s q) (hb:ctx.length + 2 * tsz (⟨6,N,ty,ks⟩:K02) ≤ 1000000):∃ x y,Kyf s n ctx ⟨6,N,ty,ks⟩ x y:=by
 obtain ⟨k0,rfl,p0⟩:=nd1 h (Nat.le_refl _) rfl
 have hz:=Kul 6 N ty k0
 have hy:TyS s ty:=Kx7 h rfl
 have ly:=Kws hy
 obtain ⟨x0,y0,r0⟩:=ih k0 ctx p0 hc (by omega)
 by_cases f0:x0.ffault=0
 rotate_left
 ·exact Kyy (by decide) (by decide) (by decide) hb r0 f0
 obtain ⟨g0,q0,a,na,la,ba⟩:=r0.gd f0
 obtain ⟨c0,t0,ht0,hn0,hz0⟩:=Kz1 hs g0
 have L0:=Kws g0
 have e0:Ko6 (s,ctx,⟨6,N,ty,[k0]⟩,0)=some x0:=Kyg (i:=0) rfl r0 f0
 have o0:=Kyl (out:=[]) (nd:=[]) (us:=[]) (w:=0) (t:=⟨6,N,ty,[k0]⟩) (m:=[]) rfl (Kys (by decide)) r0 (by simp; omega) f0 (by rw [ht0]; exact Kxp (.inl (by decide))) (Kxn (show (6:Int) ≠ 10 by decide)) na (by simp <;> omega) (by simp) (by simp) (by simp) (by simp)
 have hf:=Ky2 (s:=s) (N:=N) (ty:=ty) (ks:=[k0]) (ctx:=ctx) (us:=[Kv1 []]) (z:=Kv1 (List.replicate ctx.length 0)) (y0:=y0) (a:=a) (by rw [r0.ty]; omega) (by omega)
 have im:=Kxm (p0:=⟨s⟩) (t:=⟨6,N,ty,[k0]⟩) (ctx:=ctx) (by omega) (o0.trans (Kxd (Nat.le_refl _))) hf
 rw [r0.ty] at im
 refine Kyf.done (q:=2 :: (x0.fty ++ ty)) (ns:=a) (kids:=[y0]) ?_ im (by omega) (fun hl=>Kx2 hs g0 hy (.inr (.inl rfl)) hl) la ba rfl (kd1 (Kye.mk' (Kym (by decide) rfl) r0 f0 (fun _ h=>by cases h) rfl))
 have hg:=Kw6 2 [x0.fty,ty] (by simp) (by simp; omega)
 simp only [List.flatten_cons,List.flatten_nil,List.append_nil] at hg
 rw [Ko4.eq_def]
 simp [e0,f0,hg,na]
theorem Kz3 (ih:Kyw s n (tsz (⟨7,N,ty,ks⟩:K02))) (h:tOk (gN s.fSize true) (yN s.fSize true) ctx.length ⟨7,N,ty,ks⟩=true) (hc:∀ q ∈ ctx,TyS s q) (hb:ctx.length + 2 * tsz (⟨7,N,ty,ks⟩:K02) ≤ 1000000):∃ x y,Kyf s n ctx ⟨7,N,ty,ks⟩ x y:=by
 obtain ⟨k0,rfl,p0⟩:=nd1 h (Nat.le_refl _) rfl
 have hz:=Kul 7 N ty k0
 have hy:TyS s ty:=Kx7 h rfl
 have ly:=Kws hy
 obtain ⟨x0,y0,r0⟩:=ih k0 ctx p0 hc (by omega)
 by_cases f0:x0.ffault=0
 rotate_left
 ·exact Kyy (by decide) (by decide) (by decide) hb r0 f0
 obtain ⟨g0,q0,a,na,la,ba⟩:=r0.gd f0
 obtain ⟨c0,t0,ht0,hn0,hz0⟩:=Kz1 hs g0
 have L0:=Kws g0
 have e0:Ko6 (s,ctx,⟨7,N,ty,[k0]⟩,0)=some x0:=Kyg (i:=0) rfl r0 f0
 have o0:=Kyl (out:=[]) (nd:=[]) (us:=[]) (w:=0) (t:=⟨7,N,ty,[k0]⟩) (m:=[]) rfl (Kys (by decide)) r0 (by simp; omega) f0 (by rw [ht0]; exact Kxp (.inl (by decide))) (Kxn (show (7:Int) ≠ 10 by decide)) na (by simp <;> omega) (by simp) (by simp) (by simp) (by simp)
 have hf:=Ky3 (s:=s) (N:=N) (ty:=ty) (ks:=[k0]) (ctx:=ctx) (us:=[Kv1 []]) (z:=Kv1 (List.replicate ctx.length 0)) (y0:=y0) (a:=a) (by rw [r0.ty]; omega) (by omega)
 have im:=Kxm (p0:=⟨s⟩) (t:=⟨7,N,ty,[k0]⟩) (ctx:=ctx) (by omega) (o0.trans (Kxd (Nat.le_refl _))) hf
 rw [r0.ty] at im
 refine Kyf.done (q:=2 :: (ty ++ x0.fty)) (ns:=a) (kids:=[y0]) ?_ im (by omega) (fun hl=>Kx2 hs hy g0 (.inr (.inl rfl)) hl) la ba rfl (kd1 (Kye.mk' (Kym (by decide) rfl) r0 f0 (fun _ h=>by cases h) rfl))
 have hg:=Kw6 2 [ty,x0.fty] (by simp) (by simp; omega)
 simp only [List.flatten_cons,List.flatten_nil,List.append_nil] at hg
 rw [Ko4.eq_def]
 simp [e0,f0,hg,na]
theorem Kz4 (ih:Kyw s n (tsz (⟨11,N,ty,ks⟩:K02))) (h:tOk (gN s.fSize true) (yN s.fSize true) ctx.length ⟨11,N,ty,ks⟩=true) (hc:∀ q ∈ ctx,TyS s q) (hb:ctx.length + 2 * tsz (⟨11,N,ty,ks⟩:K02) ≤ 1000000):∃ x y,Kyf s n ctx ⟨11,N,ty,ks⟩ x y:=by
 obtain ⟨k0,rfl,p0⟩:=nd1 h (Nat.le_refl _) rfl
 have hz:=Kul 11 N ty k0
 obtain ⟨g,hN,hg'⟩:=Kx4 hs (Kx6 h rfl)
 simp only at hN
 subst hN
 obtain ⟨x0,y0,r0⟩:=ih k0 ctx p0 hc (by omega)
 by_cases f0:x0.ffault=0
 rotate_left
 ·exact Kyy (by decide) (by decide) (by decide) hb r0 f0
 obtain ⟨g0,q0,a,na,la,ba⟩:=r0.gd f0
 obtain ⟨c0,t0,ht0,hn0,hz0⟩:=Kz1 hs g0
 have L0:=Kws g0
 have e0:Ko6 (s,ctx,⟨11,(g:Int),ty,[k0]⟩,0)=some x0:=Kyg (i:=0) rfl r0 f0
 have o0:=Kyl (out:=[]) (nd:=[]) (us:=[]) (w:=0) (t:=⟨11,(g:Int),ty,[k0]⟩) (m:=[]) rfl (Kys (by decide)) r0 (by simp; omega) f0 (by rw [ht0]; exact Kxp (.inl (by decide))) (Kxn (show (11:Int) ≠ 10 by decide)) na (by simp <;> omega) (by simp) (by simp) (by simp) (by simp)
 have hf:=Ky8 (ty:=ty) (ks:=[k0]) (ctx:=ctx) (us:=[Kv1 []]) (z:=Kv1 (List.replicate ctx.length 0)) (y0:=y0) (a:=a) hs hg' ba (by omega) (by rw [r0.ty]; omega)
 have im:=Kxm (p0:=⟨s⟩) (t:=⟨11,(g:Int),ty,[k0]⟩) (ctx:=ctx) (by omega) (o0.trans (Kxd (Nat.le_refl _))) hf
 rw [r0.ty] at im
 have hn:=hs.tab.hi
 refine Kyf.done (q:=(19 + (g:Int)) :: x0.fty) (ns:=Kvf s n g a) (kids:=[y0]) ?_ im (by omega) (fun hl=>Kx3 hs hg' g0 hl) (by unfold Kvf; rw [List.length_map]; exact la) (Kvl hs hg' ba) rfl (kd1 (Kye.mk' (Kym (by decide) rfl) r0 f0 (fun _ h=>by cases h) rfl))
 have hg:=Kw6 (19 + (g:Int)) [x0.fty] (by simp) (by simp; omega)
 simp only [List.flatten_cons,List.flatten_nil,List.append_nil] at hg
 have hsc:=Kvl hs hg' ba
 have hz0:=Kvo hs hsc
 rw [show (Kvf s n g a).length=ctx.length by unfold Kvf; rw [List.length_map]; exact la] at hz0
 have hsum:=Kvq hs g hg' (List.replicate ctx.length 0) a (fun x hx=>by rw [List.eq_of_mem_replicate hx]; exact Kv9 hs) ba (by simp; omega) (by simp [la])
 rw [hz0] at hsum
 have hw:wr (19 + (g:Int))=19 + (g:Int):=Ko9 (by omega) (by omega)
 rw [Ko4.eq_def]
 simp [e0,f0,hg,na,hw,Kw3 ctx.length (by omega),hsum]
theorem Kz5 (ih:Kyw s n (tsz (⟨9,N,ty,ks⟩:K02))) (h:tOk (gN s.fSize true) (yN s.fSize true) ctx.length ⟨9,N,ty,ks⟩=true) (hc:∀ q ∈ ctx,TyS s q) (hb:ctx.length + 2 * tsz (⟨9,N,ty,ks⟩:K02) ≤ 1000000):∃ x y,Kyf s n ctx ⟨9,N,ty,ks⟩ x y:=by
 obtain ⟨k0,rfl,p0⟩:=nd1 h (Nat.le_refl _) rfl
 have hz:=Kul 9 N ty k0
 obtain ⟨g,hN,hg'⟩:=Kx4 hs (Kx6 h rfl)
 simp only at hN
 subst hN
 have hy:TyS s ty:=Kx7 h rfl
 have ly:=Kws hy
 have hn:=hs.tab.hi
 have p0':Kx5 s ([ty] ++ ctx).length k0 (tsz (⟨9,(g:Int),ty,[k0]⟩:K02)):=by
  have e:([ty] ++ ctx).length=ctx.length + Kqt 9 0:=by simp [Kqt]
  rw [e]; exact p0
 obtain ⟨x0,y0,r0⟩:=ih k0 ([ty] ++ ctx) p0' (fun q hq=>by rcases List.mem_cons.1 hq with rfl | hq; exact hy; exact hc q hq) (by simp; omega)
 have hw9:=Kw4 ctx [ty] (by simp; omega)
 by_cases f0:x0.ffault=0
 rotate_left
 ·have e0:Ko6 (s,ty :: ctx,⟨9,(g:Int),ty,[k0]⟩,0)=some ⟨[],[],x0.ffault,0 :: x0.fpath⟩:=Kyh (i:=0) rfl r0 (by omega) f0
  refine Kyf.bad (f:=x0.ffault) (p:=0 :: x0.fpath) ?_ (Kxl (by omega) (Kyi (m:=[ty]) rfl Kyt r0 (by omega) (by simp; omega) f0)) f0 (by have:=r0.pl; simp; omega)
  rw [Ko4.eq_def]
  simp [hw9,e0,f0]
 obtain ⟨g0,q0,a,na,la,ba⟩:=r0.gd f0
 obtain ⟨c0,t0,ht0,hn0,hz0⟩:=Kz1 hs g0
 have L0:=Kws g0
 have e0:Ko6 (s,ty :: ctx,⟨9,(g:Int),ty,[k0]⟩,0)=some x0:=Kyg (i:=0) rfl r0 f0
 have la':a.length=ctx.length + 1:=by rw [la]; simp
 obtain ⟨u0,a',rfl⟩:∃ u0 a',a=u0 :: a':=by cases a with | nil=>simp at la' | cons u a'=>exact ⟨u,a',rfl⟩
 obtain ⟨hu0,ba'⟩:=Kvi ba
 have o0:=Kyl (out:=[]) (nd:=[]) (us:=[]) (w:=0) (t:=⟨9,(g:Int),ty,[k0]⟩) (m:=[ty]) rfl Kyt r0 (by simp; omega) f0 (by rw [ht0]; exact Kxp (.inl (by decide))) (Kxn (show (9:Int) ≠ 10 by decide)) na (by simp <;> omega) (by simp) (by simp) (by simp) (by simp)
 simp only [List.length_cons,List.length_nil,Nat.zero_add,List.drop_succ_cons,List.drop_zero,List.take_succ_cons,List.take_zero,List.nil_append] at o0
 have hf:=Ky7 (ty:=ty) (ks:=[k0]) (ctx:=ctx) (z:=Kv1 (List.replicate ctx.length 0)) (y0:=y0) (a:=a') (u:=[u0]) hs hg' (fun x hx=>by simp at hx; rw [hx]; exact hu0) (by simp) (by rw [r0.ty]; omega) (by omega)
 have hl0:=o0.trans (Kxd (Nat.le_refl _))
 have hle:=sLe hs.tab hu0 hg'
 have hw:wr (3 + (g:Int))=3 + (g:Int):=Ko9 (by omega) (by omega)
 have hi0:idx x0.fneeds 0=some (u0:Int):=by rw [na]; rfl
 simp only [List.all_cons,List.all_nil,Bool.and_true] at hf
 cases hl:le s n u0 g with
 | false =>
  rw [hl,if_neg (by decide)] at hf
  refine Kyf.bad (f:=9) (p:=[]) ?_ (Kxm (by omega) hl0 hf) (by decide) (by simp; omega)
  rw [Ko4.eq_def]
  simp [hw9,e0,f0,hi0,hle,hl,Kny]
 | true =>
  rw [hl,if_pos rfl] at hf
  have im:=Kxm (by omega) hl0 hf
  rw [r0.ty] at im
  refine Kyf.done (q:=(3 + (g:Int)) :: (ty ++ x0.fty)) (ns:=a') (kids:=[y0]) ?_ im (by omega) (fun hl=>Kx2 hs hy g0 (.inr (.inr ⟨g,hg',rfl⟩)) hl) (by simpa using la') ba' rfl (kd1 (Kye.mk' (m:=[ty]) Kyn r0 f0 (fun q hq=>by simp at hq; rw [hq]; exact hy) rfl))
  have hg:=Kw6 (3 + (g:Int)) [ty,x0.fty] (by simp) (by simp; omega)
  simp only [List.flatten_cons,List.flatten_nil,List.append_nil] at hg
  have hcut:cut x0.fneeds (some 1) none none=some (Kv1 a'):=by rw [na]; exact Ktn _ _
  rw [Ko4.eq_def]
  simp [hw9,e0,f0,hi0,hle,hl,hg,hw,hcut,Krm (Kv1 a') (by rw [Kv2]; simp at la'; omega)]
theorem Kz6 (ih:Kyw s n (tsz (⟨4,N,ty,ks⟩:K02))) (h:tOk (gN s.fSize true) (yN s.fSize true) ctx.length ⟨4,N,ty,ks⟩=true) (hc:∀ q ∈ ctx,TyS s q) (hb:ctx.length + 2 * tsz (⟨4,N,ty,ks⟩:K02) ≤ 1000000):∃ x y,Kyf s n ctx ⟨4,N,ty,ks⟩ x y:=by
 obtain ⟨k0,k1,rfl,p0,p1⟩:=nd2 h (Nat.le_refl _) rfl
 have hz:=Kum 4 N ty k0 k1
 obtain ⟨x0,y0,r0⟩:=ih k0 ctx p0 hc (by omega)
 obtain ⟨x1,y1,r1⟩:=ih k1 ctx p1 hc (by omega)
 by_cases f0:x0.ffault=0
 rotate_left
 ·exact Kyy (by decide) (by decide) (by decide) hb r0 f0
 obtain ⟨g0,q0,a,na,la,ba⟩:=r0.gd f0
 obtain ⟨c0,t0,ht0,hn0,hz0⟩:=Kz1 hs g0
 have L0:=Kws g0
 have e0:Ko6 (s,ctx,⟨4,N,ty,[k0,k1]⟩,0)=some x0:=Kyg (i:=0) rfl r0 f0
 have o0:=Kyl (out:=[]) (nd:=[]) (us:=[]) (w:=0) (t:=⟨4,N,ty,[k0,k1]⟩) (m:=[]) rfl (Kys (by decide)) r0 (by simp; omega) f0 (by rw [ht0]; exact Kxp (.inl (by decide))) (Kxn (show (4:Int) ≠ 10 by decide)) na (by simp <;> omega) (by simp) (by simp) (by simp) (by simp)
 have m1:Kxa ⟨4,N,ty,[k0,k1]⟩ [y0] 1=some []:=Kyu (by decide) (Kym (by decide) rfl)
 by_cases f1:x1.ffault=0
 rotate_left
 ·have e1:Ko6 (s,ctx,⟨4,N,ty,[k0,k1]⟩,1)=some ⟨[],[],x1.ffault,1 :: x1.fpath⟩:=Kyh (i:=1) rfl r1 (by omega) f1
  refine Kyf.bad (f:=x1.ffault) (p:=1 :: x1.fpath) ?_ (Kxl (by omega) (o0.trans (Kyi (m:=[]) rfl m1 r1 (by omega) (by simp; omega) f1))) f1 (by have:=r1.pl; simp; omega)
  rw [Ko4.eq_def]
  simp [e0,f0,e1,f1]
 obtain ⟨g1,q1,b,nb,lb,bb⟩:=r1.gd f1
 obtain ⟨c1,t1,ht1,hn1,hz1⟩:=Kz1 hs g1
 have L1:=Kws g1
 have e1:Ko6 (s,ctx,⟨4,N,ty,[k0,k1]⟩,1)=some x1:=Kyg (i:=1) rfl r1 f1
 have o1:=Kyl (out:=[y0]) (nd:=[Kv1 a]) (us:=[Kv1 []]) (w:=1) (t:=⟨4,N,ty,[k0,k1]⟩) (m:=[]) rfl m1 r1 (by simp; omega) f1 (by rw [ht1]; exact Kxp (.inl (by decide))) (Kxn (show (4:Int) ≠ 10 by decide)) nb (by simp <;> omega) (by simp) (by simp) (by simp) (by simp)
 have hf:=Ky6 (N:=N) (ty:=ty) (ks:=[k0,k1]) (ctx:=ctx) (us:=[Kv1 [],Kv1 []]) (z:=Kv1 (List.replicate ctx.length 0)) (y0:=y0) (y1:=y1) hs ba bb (by omega) (by omega) (by rw [r0.ty]; omega) (by rw [r1.ty]; omega)
 have im:=Kxm (p0:=⟨s⟩) (t:=⟨4,N,ty,[k0,k1]⟩) (ctx:=ctx) (by omega) (o0.trans (o1.trans (Kxd (Nat.le_refl _)))) hf
 rw [r0.ty,r1.ty] at im
 refine Kyf.done (q:=1 :: (x0.fty ++ x1.fty)) (ns:=Kve s n a b) (kids:=[y0,y1]) ?_ im (by omega) (fun hl=>Kx2 hs g0 g1 (.inl rfl) hl) (by unfold Kve; rw [List.length_zipWith]; omega) (Kvk hs ba bb) rfl (kd2 (Kye.mk' (Kym (by decide) rfl) r0 f0 (fun _ h=>by cases h) rfl) (Kye.mk' (Kym (by decide) rfl) r1 f1 (fun _ h=>by cases h) rfl))
 have hg:=Kw6 1 [x0.fty,x1.fty] (by simp) (by simp; omega)
 simp only [List.flatten_cons,List.flatten_nil,List.append_nil] at hg
 rw [Ko4.eq_def]
 simp [e0,f0,e1,f1,hg,na,nb,Kvr hs a b ba bb (by omega) (by omega)]
theorem Kz7 (ih:Kyw s n (tsz (⟨2,N,ty,ks⟩:K02))) (h:tOk (gN s.fSize true) (yN s.fSize true) ctx.length ⟨2,N,ty,ks⟩=true) (hc:∀ q ∈ ctx,TyS s q) (hb:ctx.length + 2 * tsz (⟨2,N,ty,ks⟩:K02) ≤ 1000000):∃ x y,Kyf s n ctx ⟨2,N,ty,ks⟩ x y:=by
 obtain ⟨k0,k1,rfl,p0,p1⟩:=nd2 h (Nat.le_refl _) rfl
 have hz:=Kum 2 N ty k0 k1
 obtain ⟨x0,y0,r0⟩:=ih k0 ctx p0 hc (by omega)
 obtain ⟨x1,y1,r1⟩:=ih k1 ctx p1 hc (by omega)
 by_cases f0:x0.ffault=0
 rotate_left
 ·exact Kyy (by decide) (by decide) (by decide) hb r0 f0
 obtain ⟨g0,q0,a,na,la,ba⟩:=r0.gd f0
 obtain ⟨c0,t0,ht0,hn0,hz0⟩:=Kz1 hs g0
 have L0:=Kws g0
 have e0:Ko6 (s,ctx,⟨2,N,ty,[k0,k1]⟩,0)=some x0:=Kyg (i:=0) rfl r0 f0
 have i0:idx x0.fty 0=some c0:=by rw [ht0]; rfl
 by_cases z0:c0=0
 rotate_left
 ·refine Kyf.bad (f:=2) (p:=[]) ?_ (Kxl (by omega) (Kyj (m:=[]) rfl (Kys (by decide)) r0 (by simp; omega) f0 (by rw [ht0,Kxq,if_neg (by rw [hn0]; exact z0)]) (by decide))) (by decide) (by simp; omega)
  rw [Ko4.eq_def]
  simp [e0,f0,i0,z0,Kny]
 have u0:=hz0 z0
 have s0:(Kpo c0).1=0:=hn0.2 z0
 have o0:=Kyl (out:=[]) (nd:=[]) (us:=[]) (w:=0) (t:=⟨2,N,ty,[k0,k1]⟩) (m:=[]) rfl (Kys (by decide)) r0 (by simp; omega) f0 (by rw [ht0,Kxq,if_pos s0]) (Kxn (show (2:Int) ≠ 10 by decide)) na (by simp <;> omega) (by simp) (by simp) (by simp) (by simp)
 have m1:Kxa ⟨2,N,ty,[k0,k1]⟩ [y0] 1=some []:=Kyu (by decide) (Kym (by decide) rfl)
 by_cases f1:x1.ffault=0
 rotate_left
 ·have e1:Ko6 (s,ctx,⟨2,N,ty,[k0,k1]⟩,1)=some ⟨[],[],x1.ffault,1 :: x1.fpath⟩:=Kyh (i:=1) rfl r1 (by omega) f1
  refine Kyf.bad (f:=x1.ffault) (p:=1 :: x1.fpath) ?_ (Kxl (by omega) (o0.trans (Kyi (m:=[]) rfl m1 r1 (by omega) (by simp; omega) f1))) f1 (by have:=r1.pl; simp; omega)
  rw [Ko4.eq_def]
  simp [e0,f0,i0,z0,Ko7.eq_def,e1,f1]
 obtain ⟨g1,q1,b,nb,lb,bb⟩:=r1.gd f1
 obtain ⟨c1,t1,ht1,hn1,hz1⟩:=Kz1 hs g1
 have L1:=Kws g1
 have e1:Ko6 (s,ctx,⟨2,N,ty,[k0,k1]⟩,1)=some x1:=Kyg (i:=1) rfl r1 f1
 have i1:idx x1.fty 0=some c1:=by rw [ht1]; rfl
 by_cases z1:c1=0
 rotate_left
 ·refine Kyf.bad (f:=2) (p:=[]) ?_ (Kxl (by omega) (o0.trans (Kyj (m:=[]) rfl m1 r1 (by simp; omega) f1 (by rw [ht1,Kxq,if_neg (by rw [hn1]; exact z1)]) (by decide)))) (by decide) (by simp; omega)
  rw [Ko4.eq_def]
  simp [e0,f0,i0,z0,e1,f1,i1,z1,Kny,Ko7.eq_def]
 have u1:=hz1 z1
 have s1:(Kpo c1).1=0:=hn1.2 z1
 have o1:=Kyl (out:=[y0]) (nd:=[Kv1 a]) (us:=[Kv1 []]) (w:=1) (t:=⟨2,N,ty,[k0,k1]⟩) (m:=[]) rfl m1 r1 (by simp; omega) f1 (by rw [ht1,Kxq,if_pos s1]) (Kxn (show (2:Int) ≠ 10 by decide)) nb (by simp <;> omega) (by simp) (by simp) (by simp) (by simp)
 have hf:=Ky4 (N:=N) (ty:=ty) (ks:=[k0,k1]) (ctx:=ctx) (us:=[Kv1 [],Kv1 []]) (z:=Kv1 (List.replicate ctx.length 0)) (y0:=y0) (y1:=y1) hs ba bb (by omega) (by omega)
 have im:=Kxm (p0:=⟨s⟩) (t:=⟨2,N,ty,[k0,k1]⟩) (ctx:=ctx) (by omega) (o0.trans (o1.trans (Kxd (Nat.le_refl _)))) hf
 replace im:=Kyx (q:=[0]) (ns:=Kve s n a b) (kids:=[y0,y1]) (by decide) im
 refine Kyf.good (q:=[0]) (ns:=Kve s n a b) (kids:=[y0,y1]) ?_ im (by omega) Kwy (by unfold Kve; rw [List.length_zipWith]; omega) (Kvk hs ba bb) rfl (kd2 (Kye.mk' (Kym (by decide) rfl) r0 f0 (fun _ h=>by cases h) rfl) (Kye.mk' (Kym (by decide) rfl) r1 f1 (fun _ h=>by cases h) rfl))
 rw [Ko4.eq_def]
 simp [e0,f0,i0,z0,e1,f1,i1,z1,na,nb,u1,Kxx,Kvr hs a b ba bb (by omega) (by omega),Ko7.eq_def]
theorem Kz8 (ih:Kyw s n (tsz (⟨3,N,ty,ks⟩:K02))) (h:tOk (gN s.fSize true) (yN s.fSize true) ctx.length ⟨3,N,ty,ks⟩=true) (hc:∀ q ∈ ctx,TyS s q) (hb:ctx.length + 2 * tsz (⟨3,N,ty,ks⟩:K02) ≤ 1000000):∃ x y,Kyf s n ctx ⟨3,N,ty,ks⟩ x y:=by
 obtain ⟨k0,k1,k2,rfl,p0,p1,p2⟩:=nd3 h (Nat.le_refl _) rfl
 have hz:=Kun 3 N ty k0 k1 k2
 obtain ⟨x0,y0,r0⟩:=ih k0 ctx p0 hc (by omega)
 obtain ⟨x1,y1,r1⟩:=ih k1 ctx p1 hc (by omega)
 obtain ⟨x2,y2,r2⟩:=ih k2 ctx p2 hc (by omega)
 by_cases f0:x0.ffault=0
 rotate_left
 ·exact Kyy (by decide) (by decide) (by decide) hb r0 f0
 obtain ⟨g0,q0,a,na,la,ba⟩:=r0.gd f0
 obtain ⟨c0,t0,ht0,hn0,hz0⟩:=Kz1 hs g0
 have L0:=Kws g0
 have e0:Ko6 (s,ctx,⟨3,N,ty,[k0,k1,k2]⟩,0)=some x0:=Kyg (i:=0) rfl r0 f0
 have i0:idx x0.fty 0=some c0:=by rw [ht0]; rfl
 by_cases z0:c0=0
 rotate_left
 ·refine Kyf.bad (f:=2) (p:=[]) ?_ (Kxl (by omega) (Kyj (m:=[]) rfl (Kys (by decide)) r0 (by simp; omega) f0 (by rw [ht0,Kxr,if_neg (by rw [hn0]; exact z0)]) (by decide))) (by decide) (by simp; omega)
  rw [Ko4.eq_def]
  simp [e0,f0,i0,z0,Kny]
 have u0:=hz0 z0
 have s0:(Kpo c0).1=0:=hn0.2 z0
 have o0:=Kyl (out:=[]) (nd:=[]) (us:=[]) (w:=0) (t:=⟨3,N,ty,[k0,k1,k2]⟩) (m:=[]) rfl (Kys (by decide)) r0 (by simp; omega) f0 (by rw [ht0,Kxr,if_pos s0]) (Kxn (show (3:Int) ≠ 10 by decide)) na (by simp <;> omega) (by simp) (by simp) (by simp) (by simp)
 have m1:Kxa ⟨3,N,ty,[k0,k1,k2]⟩ [y0] 1=some []:=Kyu (by decide) (Kym (by decide) rfl)
 by_cases f1:x1.ffault=0
 rotate_left
 ·have e1:Ko6 (s,ctx,⟨3,N,ty,[k0,k1,k2]⟩,1)=some ⟨[],[],x1.ffault,1 :: x1.fpath⟩:=Kyh (i:=1) rfl r1 (by omega) f1
  refine Kyf.bad (f:=x1.ffault) (p:=1 :: x1.fpath) ?_ (Kxl (by omega) (o0.trans (Kyi (m:=[]) rfl m1 r1 (by omega) (by simp; omega) f1))) f1 (by have:=r1.pl; simp; omega)
  rw [Ko4.eq_def]
  simp [e0,f0,i0,z0,Ko7.eq_def,e1,f1]
 obtain ⟨g1,q1,b,nb,lb,bb⟩:=r1.gd f1
 obtain ⟨c1,t1,ht1,hn1,hz1⟩:=Kz1 hs g1
 have L1:=Kws g1
 have e1:Ko6 (s,ctx,⟨3,N,ty,[k0,k1,k2]⟩,1)=some x1:=Kyg (i:=1) rfl r1 f1
 have o1:=Kyl (out:=[y0]) (nd:=[Kv1 a]) (us:=[Kv1 []]) (w:=1) (t:=⟨3,N,ty,[k0,k1,k2]⟩) (m:=[]) rfl m1 r1 (by simp; omega) f1 (by rw [ht1]; exact Kxp (.inr (by decide))) (Kxn (show (3:Int) ≠ 10 by decide)) nb (by simp <;> omega) (by simp) (by simp) (by simp) (by simp)
 have m2:Kxa ⟨3,N,ty,[k0,k1,k2]⟩ [y0,y1] 2=some []:=Kyu (by decide) (Kym (by decide) rfl)
 by_cases f2:x2.ffault=0
 rotate_left
 ·have e2:Ko6 (s,ctx,⟨3,N,ty,[k0,k1,k2]⟩,2)=some ⟨[],[],x2.ffault,2 :: x2.fpath⟩:=Kyh (i:=2) rfl r2 (by omega) f2
  refine Kyf.bad (f:=x2.ffault) (p:=2 :: x2.fpath) ?_ (Kxl (by omega) (o0.trans (o1.trans (Kyi (m:=[]) rfl m2 r2 (by omega) (by simp; omega) f2)))) f2 (by have:=r2.pl; simp; omega)
  rw [Ko4.eq_def]
  simp [e0,f0,i0,z0,e1,f1,Ko7.eq_def,e2,f2]
 obtain ⟨g2,q2,d,nd,ld,bd⟩:=r2.gd f2
 obtain ⟨c2,t2,ht2,hn2,hz2⟩:=Kz1 hs g2
 have L2:=Kws g2
 have e2:Ko6 (s,ctx,⟨3,N,ty,[k0,k1,k2]⟩,2)=some x2:=Kyg (i:=2) rfl r2 f2
 have o2:=Kyl (out:=[y0,y1]) (nd:=[Kv1 a,Kv1 b]) (us:=[Kv1 [],Kv1 []]) (w:=2) (t:=⟨3,N,ty,[k0,k1,k2]⟩) (m:=[]) rfl m2 r2 (by simp; omega) f2 (by rw [ht2]; exact Kxp (.inr (by decide))) (Kxn (show (3:Int) ≠ 10 by decide)) nd (by simp <;> omega) (by simp) (by simp) (by simp) (by simp)
 have hf:=Ky5 (N:=N) (ty:=ty) (ks:=[k0,k1,k2]) (ctx:=ctx) (us:=[Kv1 [],Kv1 [],Kv1 []]) (z:=Kv1 (List.replicate ctx.length 0)) (y0:=y0) (y1:=y1) (y2:=y2) hs ba bb bd (by omega) (by omega) (by omega) (by rw [r2.ty]; omega) (by rw [r1.ty]; omega)
 have hl0:=o0.trans (o1.trans (o2.trans (Kxd (Nat.le_refl _))))
 
 have hsm:=Ktz x1.fty x2.fty (by omega)
 have lj:(Kvg s n b d).length=ctx.length:=by unfold Kvg; rw [List.length_zipWith]; omega
 rw [r1.ty,r2.ty] at hf
 by_cases hq:x1.fty=x2.fty
 ·rw [if_pos hq] at hf
  have im:=Kxm (by omega) hl0 hf
  replace im:=Kyx (q:=x1.fty) (ns:=Kve s n a (Kvg s n b d)) (kids:=[y0,y1,y2]) (by omega) im
  refine Kyf.good (q:=x1.fty) (ns:=Kve s n a (Kvg s n b d)) (kids:=[y0,y1,y2]) ?_ im (by omega) g1 (by unfold Kve; rw [List.length_zipWith]; omega) (Kvk hs ba (Kvm hs bb bd)) rfl (kd3 (Kye.mk' (Kym (by decide) rfl) r0 f0 (fun _ h=>by cases h) rfl) (Kye.mk' (Kym (by decide) rfl) r1 f1 (fun _ h=>by cases h) rfl) (Kye.mk' (Kym (by decide) rfl) r2 f2 (fun _ h=>by cases h) rfl))
  rw [show (x1.fty == x2.fty)=true from beq_iff_eq.2 hq] at hsm
  rw [Ko4.eq_def]
  simp [e0,f0,i0,z0,e1,f1,e2,f2,hsm,na,nb,nd,Kvt hs b d bb bd (by omega) (by omega),Kvr hs a (Kvg s n b d) ba (Kvm hs bb bd) (by omega) (by omega),Ko7.eq_def]
 ·rw [if_neg hq] at hf
  refine Kyf.bad (f:=3) (p:=[]) ?_ (Kxm (by omega) hl0 hf) (by decide) (by simp; omega)
  rw [show (x1.fty == x2.fty)=false from beq_eq_false_iff_ne.2 hq] at hsm
  rw [Ko4.eq_def]
  simp [e0,f0,i0,z0,e1,f1,e2,f2,hsm,Ko7.eq_def,Kny]
end
end Go.Am
