/- Plain laws of the printed functions. -/
import Derived.Test.YtjolnnofmlaeaaaDoorPSY1
set_option linter.unusedSimpArgs false
set_option linter.unusedVariables false
namespace Go.Am
theorem Kpz (a b:List Bool) (ha:a.length ≤ 1099511627776) (hl:a.length=b.length):∀ (l r:List Bool) (i:Nat),a.drop i=l→b.drop i=r→K94 (a,b,(i:Int))=some (if l == r then .inl () else .inr false):=by
 intro l
 induction l with
 | nil =>
  intro r i h1 h2
  have hi:=Kdu h1
  rw [K94.eq_def]
  simp only
  rw [Kcx hi]
  have:r=[]:=by rw [← h2]; exact List.drop_eq_nil_of_le (by omega)
  subst this; rfl
 | cons x l ih =>
  intro r i h1 h2
  obtain ⟨hi,hx,hd⟩:=Kdt h1
  cases r with
  | nil=>have:=Kdu h2; omega
  | cons y r =>
   obtain ⟨_,hy,hd2⟩:=Kdt h2
   rw [K94.eq_def]
   simp only
   rw [Kcw hi,if_pos rfl,hx,hy,bs,bs,Kcv (by omega),ih r (i + 1) hd hd2]
   cases x <;> cases y <;> simp
theorem Kq0 (a b:List Bool) (hb:b.length ≤ 1099511627776):K97 (a,b)=some (a == b):=by
 unfold K97
 simp only
 by_cases h:a.length=b.length
 ·rw [h,Kcy,if_neg (by decide)]
  have:=Kpz a b (by omega) h a b 0 rfl rfl
  rw [show ((0:Nat):Int)=0 from rfl] at this
  rw [this]
  cases a == b <;> rfl
 ·rw [bne_iff_ne.2 (by omega),if_pos rfl]
  have:a ≠ b:=fun e=>h (by rw [e])
  rw [beq_eq_false_iff_ne.2 this]
def Kq1 (a b:K00):Bool:=a.fSize == b.fSize && (a.fPlus == b.fPlus && (a.fTimes == b.fTimes && a.fBelow == b.fBelow))
theorem Kq2 {a b:K00}:Kq1 a b=true ↔ a=b:=by
 obtain ⟨a1,a2,a3,a4⟩:=a
 obtain ⟨b1,b2,b3,b4⟩:=b
 unfold Kq1
 simp
def Kq3 (b:K00):Prop:=b.fPlus.length ≤ 1048576∧b.fTimes.length ≤ 1048576∧b.fBelow.length ≤ 1048576
theorem Kq4 {a b:K00} (h:Kq3 b):K9a (a,b)=some (Kq1 a b):=by
 obtain ⟨h1,h2,h3⟩:=h
 unfold K9a Kq1
 simp only
 rw [Kg6 _ _ (by omega),Kg6 _ _ (by omega),Kq0 _ _ (by omega)]
 cases a.fSize == b.fSize
 ·rfl
 ·rw [if_pos rfl,bs]
  cases a.fPlus == b.fPlus
  ·rfl
  ·rw [if_pos rfl,bs]
   cases a.fTimes == b.fTimes
   ·rfl
   ·rw [if_pos rfl,bs,bs]
    cases a.fBelow == b.fBelow <;> rfl
def e6 (l:List UInt8):Bool:=!l.isEmpty
theorem Kq5:((Kmd.map tx).all e6)=true:=by kernel_rfl
theorem tx6 {e:K02} (h:e ∈ Kmd):e6 (tx e)=true:=by
 have q:=Kq5
 rw [List.all_eq_true] at q
 exact q _ (List.mem_map.2 ⟨e,h,rfl⟩)
theorem Kq6 (n:Nat) (h1:1 ≤ n) (h2:n ≤ 6):Kfb (Kkr n false)=true∧Kfb (Kkr n true)=true:=by
 obtain rfl | rfl | rfl | rfl | rfl | rfl:n=1∨n=2∨n=3∨n=4∨n=5∨n=6:=by omega
 ·exact ⟨Kmu ▸ Kmv,Knc ▸ Knd⟩
 ·exact ⟨Kmx ▸ Kmy,Knf ▸ Kng⟩
 ·exact ⟨Kn0 ▸ Kn1,Kni ▸ Knj⟩
 ·exact ⟨Kn3 ▸ Kn4,Knl ▸ Knm⟩
 ·exact ⟨Kn6 ▸ Kn7,Kno ▸ Knp⟩
 ·exact ⟨Kn9 ▸ Kna,Knr ▸ Kns⟩
theorem Kq7 (n:Nat) (h1:1 ≤ n) (h2:n ≤ 7):Kfb (Kkw n)=true:=by
 obtain rfl | rfl | rfl | rfl | rfl | rfl | rfl:n=1∨n=2∨n=3∨n=4∨n=5∨n=6∨n=7:=by omega
 ·exact Knu ▸ Knv
 ·exact Knx ▸ Kny
 ·exact Ko0 ▸ Ko1
 ·exact Ko3 ▸ Ko4
 ·exact Ko6 ▸ Ko7
 ·exact Ko9 ▸ Koa
 ·exact Koc ▸ Kod
theorem Kq8 {e:K02} (h:e ∈ Kmd):(∃ n,1 ≤ n∧n ≤ 14∧(e.fs=Kkr n false∨e.fs=Kkr n true))∨∃ n,1 ≤ n∧n ≤ 15∧e.fs=Kkw n:=by
 unfold Kmd Km8 at h
 simp only [List.mem_append,List.mem_map,List.mem_range'_1] at h
 rcases h with (⟨n,hn,rfl⟩ | ⟨n,hn,rfl⟩) | ⟨n,hn,rfl⟩
 ·exact .inl ⟨n,hn.1,by omega,.inl rfl⟩
 ·exact .inl ⟨n,hn.1,by omega,.inr rfl⟩
 ·exact .inr ⟨n,hn.1,by omega,rfl⟩
theorem Kq9 {e:K02} (h:e ∈ Kmd):∃ m:Nat,e.fs.fSize=(m:Int)∧2 ≤ m∧m ≤ 16:=by
 rcases Kq8 h with ⟨n,h1,h2,e | e⟩ | ⟨n,h1,h2,e⟩
 ·exact ⟨n + 2,by rw [e]; rfl,by omega,by omega⟩
 ·exact ⟨n + 2,by rw [e]; rfl,by omega,by omega⟩
 ·exact ⟨n + 1,by rw [e]; rfl,by omega,by omega⟩
theorem Kqa {e:K02} (h:e ∈ Kmd) (hs:e.fs.fSize ≤ 8):Kfb e.fs=true:=by
 rcases Kq8 h with ⟨n,h1,h2,q | q⟩ | ⟨n,h1,h2,q⟩
 ·rw [q] at hs ⊢
  have:(((n + 2:Nat):Int)) ≤ 8:=hs
  exact (Kq6 n h1 (by omega)).1
 ·rw [q] at hs ⊢
  have:(((n + 2:Nat):Int)) ≤ 8:=hs
  exact (Kq6 n h1 (by omega)).2
 ·rw [q] at hs ⊢
  have:(((n + 1:Nat):Int)) ≤ 8:=hs
  exact Kq7 n h1 (by omega)
theorem Kqb {a:K00} (h:Kfb a=true):Tab a a.fSize.toNat:=(Kgk h).tab
theorem Kqc {a:K00} {n:Nat} (h:Tab a n):Kq3 a:=by
 have h16:=h.hi
 have:n * n ≤ 16 * 16:=Nat.mul_le_mul h16 h16
 have h1:=h.lp
 have h2:=h.lt
 have h3:=h.lb
 exact ⟨by omega,by omega,by omega⟩
def Kqd (s:K00) (x y:K02):Prop:=x.fs.fSize * y.fs.fSize=s.fSize∧K82 (x.fs,y.fs)=some (s,true)
def Two (x y:K02):ByteArray:=(x.ftext ++ Kml) ++ y.ftext
section
variable {s:K00} (hs:Kq3 s) (h16:s.fSize ≤ 16)
theorem Kqe (L:List K02) (hL:L.length ≤ 1000) (hs:Kq3 s):∀ (l:List K02) (i:Nat),L.drop i=l→∃ r,K9e (s,L,(i:Int))=some r∧(match r with | .inr t=>∃ x ∈ l,x.fs=s∧t=x.ftext | .inl ()=>∀ x ∈ l,x.fs ≠ s):=by
 intro l
 induction l with
 | nil =>
  intro i hd
  refine ⟨.inl (),?_,fun x hx=>by cases hx⟩
  rw [K9e.eq_def]
  simp only
  rw [Kcx (Kdu hd),if_neg (by decide)]
 | cons e l ih =>
  intro i hd
  obtain ⟨h1,h2,h3⟩:=Kdt hd
  rw [K9e.eq_def]
  simp only
  rw [Kcw h1,if_pos rfl,h2,bs,Kq4 hs,bs]
  cases hv:Kq1 e.fs s
  ·obtain ⟨r,q1,q2⟩:=ih (i + 1) h3
   rw [if_neg (by decide),Kcv (by omega),q1]
   refine ⟨r,rfl,?_⟩
   cases r with
   | inl u =>
    intro x hx
    rcases List.mem_cons.1 hx with rfl | hx
    ·intro e; rw [Kq2.2 e] at hv; cases hv
    ·exact q2 x hx
   | inr t =>
    obtain ⟨x,hx,hxs⟩:=q2
    exact ⟨x,List.mem_cons_of_mem _ hx,hxs⟩
  ·rw [if_pos rfl]
   exact ⟨_,rfl,e,List.mem_cons_self,Kq2.1 hv,rfl⟩
theorem Kqf {e:K02} (h:e ∈ Kmd):e.ftext.size ≤ 10:=by rw [Kmq]; exact (Kmh h).2
include hs h16 in
theorem Kqg {x:K02} (hx:x ∈ Kmd) (w:Int):∀ (l:List K02) (i:Nat),Kmd.drop i=l→∃ r,K9j (s,Kmd,w,x,(i:Int))=some r∧(match r with | .inr t=>∃ y ∈ l,Kqd s x y∧t=Two x y | .inl ()=>∀ y ∈ l,¬ Kqd s x y):=by
 intro l
 induction l with
 | nil =>
  intro i hd
  refine ⟨.inl (),?_,fun x hx=>by cases hx⟩
  rw [K9j.eq_def]
  simp only
  rw [Kcx (Kdu hd),if_neg (by decide)]
 | cons y l ih =>
  intro i hd
  obtain ⟨h1,h2,h3⟩:=Kdt hd
  obtain ⟨r,q1,q2⟩:=ih (i + 1) h3
  have hi:i ≤ 1000:=by rw [Kmf] at h1; omega
  have hy:y ∈ Kmd:=by
   have:y ∈ Kmd.drop i:=by rw [hd]; exact List.mem_cons_self
   exact List.mem_of_mem_drop this
  obtain ⟨m,em,m2,m16⟩:=Kq9 hx
  obtain ⟨n,en,n2,n16⟩:=Kq9 hy
  have hmul:m * n ≤ 16 * 16:=Nat.mul_le_mul m16 n16
  have hsz:x.fs.fSize * y.fs.fSize=((m * n:Nat):Int):=by rw [em,en,Int.natCast_mul]
  have prod:x.fs.fSize * y.fs.fSize=s.fSize→K82 (x.fs,y.fs)=some (Kl6 x.fs y.fs m n,true):=by
   intro hsize
   have hmn:m * n ≤ 16:=by omega
   have hm8:m ≤ 8:=by
    by_cases h:m ≤ 8
    ·exact h
    ·have:9 * 2 ≤ m * n:=Nat.mul_le_mul (by omega) n2
     omega
   have hn8:n ≤ 8:=by
    by_cases h:n ≤ 8
    ·exact h
    ·have:2 * 9 ≤ m * n:=Nat.mul_le_mul m2 (by omega)
     omega
   have sx:=Kqa hx (by omega)
   have sy:=Kqa hy (by omega)
   have ta:=Kqb sx
   have tb:=Kqb sy
   rw [em,Int.toNat_natCast] at ta
   rw [en,Int.toNat_natCast] at tb
   exact Km1 ta tb m2 n2 hmn sx sy
  have tsx:=Kqf hx
  have tsy:=Kqf hy
  have next:∀ (z:Option (Unit ⊕ ByteArray)),z=some (.inl ())→¬ Kqd s x y→∃ r,(z >>= fun fl=>match fl with | .inl ()=>K9j (s,Kmd,w,x,wr ((i:Int) + 1)) | .inr r=>some (.inr r))=some r∧(match r with | .inr t=>∃ y' ∈ y :: l,Kqd s x y'∧t=Two x y' | .inl ()=>∀ y' ∈ y :: l,¬ Kqd s x y'):=by
   rintro z rfl hno
   rw [bs]
   simp only
   rw [Kcv (by omega),q1]
   refine ⟨r,rfl,?_⟩
   cases r with
   | inl u =>
    intro y' hy'
    rcases List.mem_cons.1 hy' with rfl | hy'
    ·exact hno
    ·exact q2 y' hy'
   | inr t =>
    obtain ⟨y',hy',hm⟩:=q2
    exact ⟨y',List.mem_cons_of_mem _ hy',hm⟩
  rw [K9j.eq_def]
  simp only
  rw [Kcw h1,if_pos rfl,h2,bs,Kct (x:=x.fs.fSize * y.fs.fSize) (by omega) (by omega)]
  by_cases hsize:x.fs.fSize * y.fs.fSize=s.fSize
  ·rw [if_neg (by simpa using hsize),prod hsize,bs]
   simp only [if_true]
   rw [Kq4 hs,bs,bs]
   cases hv:Kq1 (Kl6 x.fs y.fs m n) s
   ·refine next _ (by rw [if_neg (by decide)]) (fun hm=>?_)
    have:=hm.2
    rw [prod hsize] at this
    simp only [Option.some.injEq,Prod.mk.injEq,and_true] at this
    rw [Kq2.2 this] at hv
    cases hv
   ·have hm:Kqd s x y:=⟨hsize,by rw [prod hsize,Kq2.1 hv]⟩
    have c1:chk (((x.ftext.size + (ByteArray.mk #[42]).size:Nat):Int) ≤ 9223372036854775807)=some ():=by
     have:(ByteArray.mk #[42]).size=1:=rfl
     unfold chk; rw [if_pos (by omega)]
    have c2:chk ((((x.ftext ++ (ByteArray.mk #[42])).size + y.ftext.size:Nat):Int) ≤ 9223372036854775807)=some ():=by
     have:(x.ftext ++ ByteArray.mk #[42]).size=x.ftext.size + 1:=by rw [ByteArray.size_append]; rfl
     unfold chk; rw [if_pos (by omega)]
    rw [if_pos rfl,c1,bs,c2,bs,bs]
    exact ⟨_,rfl,y,List.mem_cons_self,hm,rfl⟩
  ·rw [if_pos (bne_iff_ne.2 hsize)]
   exact next _ rfl (fun hm=>hsize hm.1)
include hs h16 in
theorem Kqh:∀ (l:List K02) (i:Nat),Kmd.drop i=l→∃ r,K9n (s,Kmd,(i:Int))=some r∧(match r with | .inr t=>∃ x ∈ l,∃ y ∈ Kmd,Kqd s x y∧t=Two x y | .inl ()=>∀ x ∈ l,∀ y ∈ Kmd,¬ Kqd s x y):=by
 intro l
 induction l with
 | nil =>
  intro i hd
  refine ⟨.inl (),?_,fun x hx=>by cases hx⟩
  rw [K9n.eq_def]
  simp only
  rw [Kcx (Kdu hd),if_neg (by decide)]
 | cons x l ih =>
  intro i hd
  obtain ⟨h1,h2,h3⟩:=Kdt hd
  obtain ⟨r,q1,q2⟩:=ih (i + 1) h3
  have hi:i ≤ 1000:=by rw [Kmf] at h1; omega
  have hx:x ∈ Kmd:=by
   have:x ∈ Kmd.drop i:=by rw [hd]; exact List.mem_cons_self
   exact List.mem_of_mem_drop this
  obtain ⟨r1,p1,p2⟩:=Kqg hs h16 hx (i:Int) Kmd 0 rfl
  rw [K9n.eq_def]
  simp only
  rw [Kcw h1,if_pos rfl,h2,bs,show (0:Int)=((0:Nat):Int) from rfl,p1,bs]
  cases r1 with
  | inl u =>
   simp only
   rw [Kcv (by omega),q1]
   refine ⟨r,rfl,?_⟩
   cases r with
   | inl u =>
    intro x' hx'
    rcases List.mem_cons.1 hx' with rfl | hx'
    ·exact p2
    ·exact q2 x' hx'
   | inr t =>
    obtain ⟨x',hx',hm⟩:=q2
    exact ⟨x',List.mem_cons_of_mem _ hx',hm⟩
  | inr t =>
   obtain ⟨y,hy,hm⟩:=p2
   exact ⟨_,rfl,x,List.mem_cons_self,y,hy,hm⟩
include hs h16 in
theorem Kqi (h:(∃ x ∈ Kmd,x.fs=s)∨∃ x ∈ Kmd,∃ y ∈ Kmd,Kqd s x y):∃ t,K9q s=some t∧Kac t=some (s,true):=by
 unfold K9q
 rw [Kme,bs]
 obtain ⟨r,p1,p2⟩:=Kqe Kmd (by rw [Kmf]; decide) hs Kmd 0 rfl
 rw [show (0:Int)=((0:Nat):Int) from rfl,p1,bs]
 cases r with
 | inr t =>
  obtain ⟨x,hx,hxs,rfl⟩:=p2
  refine ⟨x.ftext,rfl,?_⟩
  unfold Kac
  rw [show (ByteArray.mk #[42])=Kml from rfl,Kmp x.ftext (Kmh hx).1,bs]
  simp only
  rw [Kmk hx rfl,bs]
  simp only [if_true,bs,Bool.not_false]
  rw [hxs]
 | inl u =>
  obtain ⟨r,q1,q2⟩:=Kqh hs h16 Kmd 0 rfl
  simp only
  rw [q1,bs]
  cases r with
  | inl u =>
   rcases h with ⟨x,hx,e⟩ | ⟨x,hx,y,hy,hm⟩
   ·exact absurd e (p2 x hx)
   ·exact absurd hm (q2 x hx y hy)
  | inr t =>
   obtain ⟨x,hx,y,hy,hm,rfl⟩:=q2
   refine ⟨Two x y,rfl,?_⟩
   obtain ⟨u,v,c1,c2,c3⟩:=Kms (Two x y) (tx x) (tx y) (Kmh hx).1 (by unfold Two tx Kml; simp [ByteArray.data_append]) (by
    have:e6 (tx x)=true:=tx6 hx
    intro e
    rw [e] at this
    cases this) (by have:=(Kmh hx).2; omega)
   unfold Kac
   rw [show (ByteArray.mk #[42])=Kml from rfl,c1,bs]
   simp only
   rw [Kmk hx c2,bs]
   simp only [if_true,bs,Bool.not_true,Bool.false_eq_true,if_false]
   rw [Kmk hy c3,bs]
   simp only [if_true]
   rw [hm.2,bs]
end
section
variable {s:K00} {n:Nat} (hs:Kgj s n)
include hs
theorem le_refl {a:Nat} (ha:a < n):le s n a a=true:=by
 have:=hs.one a ha
 simp only [Kdc,Bool.and_eq_true] at this
 exact this.2
end
theorem le_trans {s:K00} (h:Kfb s=true) {a b c:Nat} (ha:a < s.fSize.toNat) (hb:b < s.fSize.toNat) (hc:c < s.fSize.toNat) (h1:le s s.fSize.toNat a b=true) (h2:le s s.fSize.toNat b c=true):le s s.fSize.toNat a c=true:=by
 unfold Kfb at h
 simp only [Bool.and_eq_true] at h
 have hm:=h.2
 unfold Kdp at hm
 rw [List.all_eq_true] at hm
 have q:=hm a (by rw [List.mem_range'_1]; omega)
 simp only [Bool.and_eq_true,List.all_eq_true] at q
 have q2:=(q.2 b (by rw [List.mem_range'_1]; omega)).2 c (by rw [List.mem_range'_1]; omega)
 unfold Kdd at q2
 simp [h1,h2] at q2
 exact q2.2.1.1.1
theorem Kqj (code:List Int) (hl:code.length ≤ 1048576) (hb:∀ v ∈ code,0 ≤ v∧v ≤ 255) (i:Nat) (hi:i ≤ 1000):∃ v:Int,K35 (code,(i:Int))=some v∧0 ≤ v:=by
 unfold K35
 simp only
 by_cases h:i < code.length
 ·have:=hb code[i] (List.getElem_mem h)
  rw [Kcw h,if_pos rfl,Kcu h,bs]
  exact ⟨_,rfl,by rw [Kct (by omega) (by omega)]; omega⟩
 ·rw [Kcx (by omega),if_neg (by decide)]
  refine ⟨_,rfl,Int.tmod_nonneg _ ?_⟩
  rw [Kct (x:=(i:Int) * 7) (by omega) (by omega),Kct (by omega) (by omega)]
  omega
def Kqk (a_9:Int) (a_10 a_11:List Int) (a_12:List Bool):Option Bool :=
 (K5c 1) >>= fun r_9_0 =>
 (K82 ((K00.mk a_9 a_10 a_11 a_12),r_9_0)) >>= fun (r_10_2_0,r_10_2_1) =>
 ((
  (K6p (K00.mk a_9 a_10 a_11 a_12)) >>= fun r_11_1 =>
  if r_11_1=true then
   (K6p r_9_0) >>= fun r_11_5 =>
   if r_11_5=true then
    if r_10_2_1=true then
     (K6p r_10_2_0) >>= fun r_11_14 =>
     some ((!r_11_14))
    else
     some (true)
   else
    some (true)
  else
   some (true)
 ):Option (Bool)) >>= fun v_14 =>
 if v_14=true then
  some false
 else
  (K9q (K00.mk a_9 a_10 a_11 a_12)) >>= fun r_13_1 =>
  (Kac r_13_1) >>= fun (r_13_2_0,r_13_2_1) =>
  (K9q r_10_2_0) >>= fun r_14_1 =>
  (Kac r_14_1) >>= fun (r_14_2_0,r_14_2_1) =>
  ((
   if r_13_2_1=true then
    if r_14_2_1=true then
     (Kaq (r_13_2_0,(K00.mk a_9 a_10 a_11 a_12))) >>= fun r_15_7 =>
     if r_15_7=true then
      (Kaq (r_14_2_0,r_10_2_0)) >>= fun r_15_12 =>
      some (r_15_12)
     else
      some (false)
    else
     some (false)
   else
    some (false)
  ):Option (Bool)) >>= fun v_17 =>
  some v_17
theorem Kql (a:K00) (h:a.fBelow.length ≤ 1048576):∀ (k n:Nat),n + k=a.fBelow.length→Kan (a,a,(n:Int))=some (.inl ()):=by
 intro k
 induction k with
 | zero =>
  intro n hn
  rw [Kan.eq_def]
  simp only
  rw [Kcx (by omega),if_neg (by decide)]
 | succ k ih =>
  intro n hn
  rw [Kan.eq_def]
  simp only
  rw [Kcw (by omega),if_pos rfl,Kcu (by omega),bs,bs,if_pos (by simp),Kcv (by omega),ih (n + 1) (by omega)]
theorem Kqm {a:K00} (h:Kq3 a):Kaq (a,a)=some true:=by
 obtain ⟨h1,h2,h3⟩:=h
 unfold Kaq
 simp only
 rw [Kpy a.fPlus (by omega),Kpy a.fTimes (by omega),Kcy,if_neg (by decide)]
 simp only [bs,if_true]
 rw [Kcy,if_neg (by decide),show (0:Int)=((0:Nat):Int) from rfl,Kql a h3 a.fBelow.length 0 (by omega),bs]
structure Kqn (a:K00) (m:Nat):Prop where
 sz:a.fSize=(m:Int)
 lo:2 ≤ m
 hi:m * 2 ≤ 16
 sa:Kfb a=true
 sp:Kfb (Kl6 a (Kkw 1) m 2)=true
 mem:∃ x ∈ Kmd,x.fs=a
theorem Kqo:(⟨Km7 ++ Km2 1,Kkw 1⟩:K02) ∈ Kmd:=by
 unfold Kmd Km8
 simp only [List.mem_append,List.mem_map,List.mem_range'_1]
 exact .inr ⟨1,by omega,rfl⟩
theorem Kqp {a1:Int} {a2 a3:List Int} {a4:List Bool} {m:Nat} (g:Kqn ⟨a1,a2,a3,a4⟩ m):Kqk a1 a2 a3 a4=some true:=by
 obtain ⟨sz,lo,hi,sa,sp,x,hx,hxa⟩:=g
 have sl:Kfb (Kkw 1)=true:=Kq7 1 (by omega) (by omega)
 have ta:=Kqb sa
 rw [sz,Int.toNat_natCast] at ta
 have tb:Tab (Kkw 1) 2:=Kqb sl
 have hp:=Km1 ta tb lo (by omega) hi sa sl
 have tp:=Kqb sp
 have q1:(Kl6 ⟨a1,a2,a3,a4⟩ (Kkw 1) m 2).fSize=((m * 2:Nat):Int):=rfl
 have la:=Kqc ta
 have lp:=Kqc tp
 have sz':a1=(m:Int):=sz
 obtain ⟨t1,f1,p1⟩:=Kqi (s:=⟨a1,a2,a3,a4⟩) la (by rw [sz]; omega) (.inl ⟨x,hx,hxa⟩)
 obtain ⟨t2,f2,p2⟩:=Kqi (s:=Kl6 ⟨a1,a2,a3,a4⟩ (Kkw 1) m 2) lp (by rw [q1]; omega) (.inr ⟨x,hx,_,Kqo,by
  refine ⟨?_,by rw [hxa]; exact hp⟩
  rw [hxa,q1,sz]
  show (m:Int) * ((1 + 1:Nat):Int)=((m * 2:Nat):Int)
  omega⟩)
 have hl:K5c 1=some (Kkw 1):=Kli 1 (by omega) (by omega)
 unfold Kqk
 rw [hl,bs,hp,bs]
 simp only [Kfd,sa,sl,sp,bs,if_true,Bool.not_true,Bool.false_eq_true,if_false]
 rw [f1,bs,p1,bs]
 simp only
 rw [f2,bs,p2,bs]
 simp only [if_true]
 rw [Kqm la,bs,if_pos rfl,Kqm lp,bs,bs]
theorem Kqq (n:Nat) (h1:1 ≤ n) (h2:n ≤ 6):Kqn (Kkr n false) (n + 2)∧Kqn (Kkr n true) (n + 2):=by
 have m1:∃ x ∈ Kmd,x.fs=Kkr n false:=⟨⟨Km5 ++ Km2 n,Kkr n false⟩,by
  unfold Kmd Km8
  simp only [List.mem_append,List.mem_map,List.mem_range'_1]
  exact .inl (.inl ⟨n,by omega,rfl⟩),rfl⟩
 have m2:∃ x ∈ Kmd,x.fs=Kkr n true:=⟨⟨Km6 ++ Km2 n,Kkr n true⟩,by
  unfold Kmd Km8
  simp only [List.mem_append,List.mem_map,List.mem_range'_1]
  exact .inl (.inr ⟨n,by omega,rfl⟩),rfl⟩
 have s:=Kq6 n h1 h2
 refine ⟨⟨rfl,by omega,by omega,s.1,?_,m1⟩,⟨rfl,by omega,by omega,s.2,?_,m2⟩⟩
 ·obtain rfl | rfl | rfl | rfl | rfl | rfl:n=1∨n=2∨n=3∨n=4∨n=5∨n=6:=by omega
  ·rw [Kmu,Knu,Kof]; exact Kpe
  ·rw [Kmx,Knu,Koh]; exact Kpf
  ·rw [Kn0,Knu,Koj]; exact Kpg
  ·rw [Kn3,Knu,Kol]; exact Kph
  ·rw [Kn6,Knu,Kon]; exact Kpi
  ·rw [Kn9,Knu,Kop]; exact Kpj
 ·obtain rfl | rfl | rfl | rfl | rfl | rfl:n=1∨n=2∨n=3∨n=4∨n=5∨n=6:=by omega
  ·rw [Knc,Knu,Kor]; exact Kpk
  ·rw [Knf,Knu,Kot]; exact Kpl
  ·rw [Kni,Knu,Kov]; exact Kpm
  ·rw [Knl,Knu,Kox]; exact Kpn
  ·rw [Kno,Knu,Koz]; exact Kpo
  ·rw [Knr,Knu,Kp1]; exact Kpp
theorem Kqr (n:Nat) (h1:1 ≤ n) (h2:n ≤ 6):Kqn (Kkw n) (n + 1):=by
 refine ⟨rfl,by omega,by omega,Kq7 n h1 (by omega),?_,⟨⟨Km7 ++ Km2 n,Kkw n⟩,by
  unfold Kmd Km8
  simp only [List.mem_append,List.mem_map,List.mem_range'_1]
  exact .inr ⟨n,by omega,rfl⟩,rfl⟩⟩
 obtain rfl | rfl | rfl | rfl | rfl | rfl:n=1∨n=2∨n=3∨n=4∨n=5∨n=6:=by omega
 ·rw [Knu,Kp3]; exact Kpq
 ·rw [Knx,Knu,Kp5]; exact Kpr
 ·rw [Ko0,Knu,Kp7]; exact Kps
 ·rw [Ko3,Knu,Kp9]; exact Kpt
 ·rw [Ko6,Knu,Kpb]; exact Kpu
 ·rw [Ko9,Knu,Kpd]; exact Kpv
theorem Kqs (code:List Int) (w:code.length ≤ maxLen∧∀ v ∈ code,0 ≤ v∧v ≤ 255):Kat code=some true:=by
 by_cases hbig:(code.length:Int) > 1048576
 ·unfold Kat K32
  rw [bs,decide_eq_true hbig,if_pos rfl]
 have e1:K32 code=some false:=by unfold K32; rw [decide_eq_false hbig]
 obtain ⟨v0,a0,p0⟩:=Kqj code (by omega) w.2 0 (by omega)
 obtain ⟨v1,a1,p1⟩:=Kqj code (by omega) w.2 1 (by omega)
 have a0:K35 (code,0)=some v0:=a0
 have a1:K35 (code,1)=some v1:=a1
 have b0:=Int.tmod_nonneg 6 p0
 have b1:=Int.tmod_lt_of_pos v0 (show (0:Int) < 6 by decide)
 obtain ⟨k,hk,hk1,hk6⟩:∃ k:Nat,wr (1 + Int.tmod v0 6)=(k:Int)∧1 ≤ k∧k ≤ 6:=⟨(1 + Int.tmod v0 6).toNat,by rw [Kct (by omega) (by omega)]; omega,by omega,by omega⟩
 unfold Kat
 rw [e1,bs,if_neg (by decide),a0,bs,hk,Klg k hk1 (by omega),bs,a1,bs]
 cases c0:Int.tmod v1 3 == 0
 ·rw [if_neg (by decide)]
  cases c1:Int.tmod v1 3 == 1
  ·rw [if_neg (by decide)]
   simp only [bs]
   exact Kqp (Kqq k hk1 hk6).2
  ·rw [if_pos rfl]
   simp only [bs,hk,Kli k hk1 (by omega)]
   exact Kqp (Kqr k hk1 hk6)
 ·rw [if_pos rfl]
  simp only [bs,hk,Klh k hk1 (by omega)]
  exact Kqp (Kqq k hk1 hk6).1
end Go.Am
