/- Plain laws of the printed functions. -/
import Derived.Test.YtkboikcppljkeaaGreatGFAUF11
set_option linter.unusedSimpArgs false
set_option linter.unusedVariables false
namespace Go.Am
theorem Knw {x:Int} (h1:-9223372036854775808 ≤ x) (h2:x ≤ 9223372036854775807):wr x=x:=by
 unfold wr IntKind.wrap
 simp [IntKind.bits,IntKind.signed]
 omega
theorem Knx {α:Type} {l:List α} {n:Nat} (h:n < l.length):idx l (n:Int)=some l[n]:=by
 unfold idx
 rw [if_pos (by omega)]
 simp [h]
theorem bs {α β:Type} (a:α) (f:α→Option β):(some a >>= f)=f a:=rfl
theorem Kny {n:Nat} (h:n < 9223372036854775807):wr ((n:Int) + 1)=((n + 1:Nat):Int):=by
 rw [Knw (by omega) (by omega)]; omega
theorem Knz {n m:Nat} (h:n < m):decide ((n:Int) < (m:Int))=true:=decide_eq_true (by omega)
theorem Ko0 {n m:Nat} (h:m ≤ n):decide ((n:Int) < (m:Int))=false:=decide_eq_false (by omega)
theorem Ko1 {α:Type} {l a:List α} {n:Nat} (hl:l.length=a.length) (hn:n < a.length) (h:l.take n=a.take n):(l.set n a[n]).take (n + 1)=a.take (n + 1):=by
 apply List.ext_getElem?
 intro i
 rw [List.getElem?_take,List.getElem?_take]
 by_cases hi:i < n + 1
 ·rw [if_pos hi,if_pos hi,List.getElem?_set]
  by_cases e:n=i
  ·subst e
   rw [if_pos rfl,if_pos (by omega),List.getElem?_eq_getElem hn]
  ·rw [if_neg e]
   have:=congrArg (fun l=>l[i]?) h
   simp only [List.getElem?_take] at this
   rw [if_pos (by omega),if_pos (by omega)] at this
   exact this
 ·rw [if_neg hi,if_neg hi]
theorem Ko2 (a:List Int) (ha:a.length ≤ 1099511627776):∀ (k n:Nat) (out:List Int),n + k=a.length→out.length=a.length→out.take n=a.take n→K89 (a,out,(n:Int))=some a:=by
 intro k
 induction k with
 | zero =>
  intro n out hn hl ht
  rw [K89.eq_def]
  simp only
  rw [Ko0 (by omega)]
  have h1:out.take n=out:=List.take_of_length_le (by omega)
  have h2:a.take n=a:=List.take_of_length_le (by omega)
  rw [h1,h2] at ht
  simp [ht]
 | succ k ih =>
  intro n out hn hl ht
  rw [K89.eq_def]
  simp only
  rw [Knz (by omega),if_pos rfl,Knx (by omega),bs,Knx (by omega),bs,Kny (by omega),Int.toNat_natCast]
  exact ih (n + 1) _ (by omega) (by simpa using hl) (Ko1 hl (by omega) ht)
theorem Ko3 (a:List Int) (ha:a.length ≤ 1099511627776):K8c a=some a:=by
 unfold K8c
 have:chk (0 ≤ (a.length:Int)∧(Int.toNat (a.length:Int)) * 8 ≤ 140737488355328)=some ():=by
  unfold chk; rw [if_pos]; refine ⟨by omega,?_⟩; rw [Int.toNat_natCast]; omega
 rw [this,bs,Int.toNat_natCast]
 have:=Ko2 a ha a.length 0 (List.replicate a.length 0) (by omega) (by simp) rfl
 rw [show ((0:Nat):Int)=0 from rfl] at this
 rw [this,bs]
theorem Ko4 (a:List Bool) (ha:a.length ≤ 1099511627776):∀ (k n:Nat) (out:List Bool),n + k=a.length→out.length=a.length→out.take n=a.take n→K8g (a,out,(n:Int))=some a:=by
 intro k
 induction k with
 | zero =>
  intro n out hn hl ht
  rw [K8g.eq_def]
  simp only
  rw [Ko0 (by omega)]
  have h1:out.take n=out:=List.take_of_length_le (by omega)
  have h2:a.take n=a:=List.take_of_length_le (by omega)
  rw [h1,h2] at ht
  simp [ht]
 | succ k ih =>
  intro n out hn hl ht
  rw [K8g.eq_def]
  simp only
  rw [Knz (by omega),if_pos rfl,Knx (by omega),bs,Knx (by omega),bs,Kny (by omega),Int.toNat_natCast]
  exact ih (n + 1) _ (by omega) (by simpa using hl) (Ko1 hl (by omega) ht)
theorem Ko5 (a:List Bool) (ha:a.length ≤ 1099511627776):K8j a=some a:=by
 unfold K8j
 have:chk (0 ≤ (a.length:Int)∧(Int.toNat (a.length:Int)) * 1 ≤ 140737488355328)=some ():=by
  unfold chk; rw [if_pos]; refine ⟨by omega,?_⟩; rw [Int.toNat_natCast]; omega
 rw [this,bs,Int.toNat_natCast]
 have:=Ko4 a ha a.length 0 (List.replicate a.length false) (by omega) (by simp) rfl
 rw [show ((0:Nat):Int)=0 from rfl] at this
 rw [this,bs]
theorem Ko6 {a:Int}:(a != a)=false:=by simp
theorem Ko7 (a:List Int) (ha:a.length ≤ 1099511627776):∀ (k n:Nat),n + k=a.length→Kln (a,a,(n:Int))=some (.inl ()):=by
 intro k
 induction k with
 | zero =>
  intro n hn
  rw [Kln.eq_def]
  simp only
  rw [Ko0 (by omega)]
  rfl
 | succ k ih =>
  intro n hn
  rw [Kln.eq_def]
  simp only
  rw [Knz (by omega),if_pos rfl,Knx (by omega),bs,bs,Ko6,if_neg (by decide),Kny (by omega)]
  exact ih (n + 1) (by omega)
theorem Ko8 (a:List Int) (ha:a.length ≤ 1099511627776):Klq (a,a)=some true:=by
 unfold Klq
 simp only
 have:=Ko7 a ha a.length 0 (by omega)
 rw [show ((0:Nat):Int)=0 from rfl] at this
 rw [Ko6,if_neg (by decide),this]
 rfl
theorem Ko9 (a:List Bool) (ha:a.length ≤ 1099511627776):∀ (k n:Nat),n + k=a.length→Klu (a,a,(n:Int))=some (.inl ()):=by
 intro k
 induction k with
 | zero =>
  intro n hn
  rw [Klu.eq_def]
  simp only
  rw [Ko0 (by omega)]
  rfl
 | succ k ih =>
  intro n hn
  rw [Klu.eq_def]
  simp only
  rw [Knz (by omega),if_pos rfl,Knx (by omega),bs,bs,show ∀ b:Bool,(b == b)=true from by decide,if_pos rfl,Kny (by omega)]
  exact ih (n + 1) (by omega)
theorem Koa (a:List Bool) (ha:a.length ≤ 1099511627776):Klx (a,a)=some true:=by
 unfold Klx
 simp only
 have:=Ko9 a ha a.length 0 (by omega)
 rw [show ((0:Nat):Int)=0 from rfl] at this
 rw [Ko6,if_neg (by decide),this]
 rfl
theorem Kob (s:K00) (h1:s.fPlus.length ≤ 1099511627776) (h2:s.fTimes.length ≤ 1099511627776) (h3:s.fBelow.length ≤ 1099511627776):K8m s=some s:=by
 unfold K8m
 rw [Ko3 _ h1,bs,Ko3 _ h2,bs,Ko5 _ h3,bs]
theorem Koc (s:K00) (h1:s.fPlus.length ≤ 1099511627776) (h2:s.fTimes.length ≤ 1099511627776) (h3:s.fBelow.length ≤ 1099511627776):Km0 (s,s)=some true:=by
 unfold Km0
 simp only
 rw [Ko6,if_neg (by decide),Ko8 _ h1,bs,if_pos rfl,Ko8 _ h2,bs,if_pos rfl,Koa _ h3,bs,if_pos rfl]
structure Tab (s:K00) (n:Nat):Prop where
 size:s.fSize=(n:Int)
 lo:2 ≤ n
 hi:n ≤ 16
 lp:s.fPlus.length=n * n
 lt:s.fTimes.length=n * n
 lb:s.fBelow.length=n * n
 rp:∀ i (h:i < s.fPlus.length),0 ≤ s.fPlus[i]∧s.fPlus[i] < (n:Int)
 rt:∀ i (h:i < s.fTimes.length),0 ≤ s.fTimes[i]∧s.fTimes[i] < (n:Int)
def pl (s:K00) (n a b:Nat):Nat:=(s.fPlus.getD (a * n + b) 0).toNat
def ti (s:K00) (n a b:Nat):Nat:=(s.fTimes.getD (a * n + b) 0).toNat
def le (s:K00) (n a b:Nat):Bool:=s.fBelow.getD (a * n + b) false
theorem Kod {n a b:Nat} (ha:a < n) (hb:b < n):a * n + b < n * n:=by
 have:(a + 1) * n ≤ n * n:=Nat.mul_le_mul_right _ (by omega)
 rw [Nat.add_mul,Nat.one_mul] at this
 omega
theorem Koe {n a b:Nat} (hn:n ≤ 16) (ha:a < n) (hb:b < n):wr ((wr ((a:Int) * (n:Int))) + (b:Int))=((a * n + b:Nat):Int):=by
 have h1:a * n ≤ 256:=Nat.le_trans (Nat.mul_le_mul (by omega:a ≤ 16) hn) (by decide)
 have e:(a:Int) * (n:Int)=((a * n:Nat):Int):=by simp
 rw [e]
 generalize a * n=m at h1
 rw [Knw (x:=(m:Int)) (by omega) (by omega),Knw (by omega) (by omega)]
 omega
section
variable {s:K00} {n:Nat} (h:Tab s n)
include h
theorem Kof {a b:Nat} (ha:a < n) (hb:b < n):pl s n a b < n:=by
 have hl:a * n + b < s.fPlus.length:=by rw [h.lp]; exact Kod ha hb
 unfold pl
 rw [List.getD_eq_getElem?_getD,List.getElem?_eq_getElem hl]
 have:=h.rp _ hl
 simp only [Option.getD_some]
 omega
theorem Kog {a b:Nat} (ha:a < n) (hb:b < n):ti s n a b < n:=by
 have hl:a * n + b < s.fTimes.length:=by rw [h.lt]; exact Kod ha hb
 unfold ti
 rw [List.getD_eq_getElem?_getD,List.getElem?_eq_getElem hl]
 have:=h.rt _ hl
 simp only [Option.getD_some]
 omega
theorem Koh {a b:Nat} (ha:a < n) (hb:b < n):idx s.fPlus ((a * n + b:Nat):Int)=some ((pl s n a b:Nat):Int):=by
 have hl:a * n + b < s.fPlus.length:=by rw [h.lp]; exact Kod ha hb
 rw [Knx hl]
 unfold pl
 rw [List.getD_eq_getElem?_getD,List.getElem?_eq_getElem hl]
 have:=h.rp _ hl
 simp only [Option.getD_some]
 congr 1
 omega
theorem Koi {a b:Nat} (ha:a < n) (hb:b < n):idx s.fTimes ((a * n + b:Nat):Int)=some ((ti s n a b:Nat):Int):=by
 have hl:a * n + b < s.fTimes.length:=by rw [h.lt]; exact Kod ha hb
 rw [Knx hl]
 unfold ti
 rw [List.getD_eq_getElem?_getD,List.getElem?_eq_getElem hl]
 have:=h.rt _ hl
 simp only [Option.getD_some]
 congr 1
 omega
theorem Koj {a b:Nat} (ha:a < n) (hb:b < n):idx s.fBelow ((a * n + b:Nat):Int)=some (le s n a b):=by
 have hl:a * n + b < s.fBelow.length:=by rw [h.lb]; exact Kod ha hb
 rw [Knx hl]
 unfold le
 rw [List.getD_eq_getElem?_getD,List.getElem?_eq_getElem hl]
 rfl
theorem Kok {a b:Nat} (ha:a < n) (hb:b < n):K9h (s,(a:Int),(b:Int))=some ((pl s n a b:Nat):Int):=by
 unfold K9h
 simp only
 rw [h.size,Koe h.hi ha hb,Koh h ha hb,bs]
theorem Kol {a b:Nat} (ha:a < n) (hb:b < n):K9k (s,(a:Int),(b:Int))=some ((ti s n a b:Nat):Int):=by
 unfold K9k
 simp only
 rw [h.size,Koe h.hi ha hb,Koi h ha hb,bs]
theorem sLe {a b:Nat} (ha:a < n) (hb:b < n):K9n (s,(a:Int),(b:Int))=some (le s n a b):=by
 unfold K9n
 simp only
 rw [h.size,Koe h.hi ha hb,Koj h ha hb,bs]
theorem Kom {a b:Nat} (ha:a < n) (hb:b < n):Kf5 (s,(a:Int),(b:Int))=some ((pl s n a b:Nat):Int):=by
 unfold Kf5
 simp only
 rw [h.size,Koe h.hi ha hb,Koh h ha hb,bs]
theorem Kon {a b:Nat} (ha:a < n) (hb:b < n):Kf8 (s,(a:Int),(b:Int))=some ((ti s n a b:Nat):Int):=by
 unfold Kf8
 simp only
 rw [h.size,Koe h.hi ha hb,Koi h ha hb,bs]
theorem iLe {a b:Nat} (ha:a < n) (hb:b < n):Kfb (s,(a:Int),(b:Int))=some (le s n a b):=by
 unfold Kfb
 simp only
 rw [h.size,Koe h.hi ha hb,Koj h ha hb,bs]
end
theorem Koo (x y:Nat):(((x:Nat):Int) == ((y:Nat):Int))=(x == y):=by
 cases hb:(x == y) with
 | true=>have:=eq_of_beq hb; subst this; simp
 | false=>simp at hb ⊢; omega
theorem Kop (x y:Nat):(((x:Nat):Int) != ((y:Nat):Int))=(x != y):=by
 simp only [bne,Koo]
def Koq (s:K00) (n a:Nat):Bool:=(pl s n 0 a == a) && (ti s n 1 a == a) && (ti s n a 1 == a) && (ti s n 0 a == 0) && (ti s n a 0 == 0) && le s n a a
def Kor (s:K00) (n a b c:Nat):Bool :=
 (pl s n (pl s n a b) c == pl s n a (pl s n b c)) && (ti s n (ti s n a b) c == ti s n a (ti s n b c)) &&
 (ti s n a (pl s n b c) == pl s n (ti s n a b) (ti s n a c)) && (ti s n (pl s n a b) c == pl s n (ti s n a c) (ti s n b c)) &&
 (!(le s n a b) || ((!(le s n b c) || le s n a c) && le s n (pl s n a c) (pl s n b c) && le s n (ti s n a c) (ti s n b c) && le s n (ti s n c a) (ti s n c b)))
section
variable {s:K00} {n:Nat} (h:Tab s n)
include h
theorem Kos {a:Nat} (ha:a < n):K9u (s,(a:Int))=some (Koq s n a):=by
 have l0:(0:Nat) < n:=by have:=h.lo; omega
 have l1:(1:Nat) < n:=by have:=h.lo; omega
 have e0:(0:Int)=((0:Nat):Int):=rfl
 have e1:(1:Int)=((1:Nat):Int):=rfl
 unfold K9u Koq
 simp only
 rw [e0,e1]
 simp only [Kok h l0 ha,Kol h l1 ha,Kol h ha l1,Kol h l0 ha,Kol h ha l0,sLe h ha ha,bs,Koo]
 generalize (pl s n 0 a == a)=b1
 generalize (ti s n 1 a == a)=b2
 generalize (ti s n a 1 == a)=b3
 generalize (ti s n 0 a == 0)=b4
 generalize (ti s n a 0 == 0)=b5
 generalize le s n a a=b6
 cases b1 <;> cases b2 <;> cases b3 <;> cases b4 <;> cases b5 <;> cases b6 <;> rfl
theorem Kot {a b c:Nat} (ha:a < n) (hb:b < n) (hc:c < n):Kab (s,(a:Int),(b:Int),(c:Int))=some (Kor s n a b c):=by
 unfold Kab Kor
 simp only
 simp only [Kok h,Kol h,sLe h,Kof h,Kog h,ha,hb,hc,bs,Kop]
 generalize e1:pl s n (pl s n a b) c=x1
 generalize e2:pl s n a (pl s n b c)=x2
 generalize e3:ti s n (ti s n a b) c=x3
 generalize e4:ti s n a (ti s n b c)=x4
 generalize ti s n a (pl s n b c)=x5
 generalize pl s n (ti s n a b) (ti s n a c)=x6
 generalize ti s n (pl s n a b) c=x7
 generalize pl s n (ti s n a c) (ti s n b c)=x8
 generalize le s n (pl s n a c) (pl s n b c)=y1
 generalize le s n (ti s n a c) (ti s n b c)=y2
 generalize le s n (ti s n c a) (ti s n c b)=y3
 generalize le s n a b=y4
 generalize le s n b c=y5
 generalize le s n a c=y6
 simp only [bne]
 generalize (x1 == x2)=b1
 generalize (x3 == x4)=b2
 generalize (x5 == x6)=b3
 generalize (x7 == x8)=b4
 cases b1 <;> cases b2 <;> cases b3 <;> cases b4 <;> first | rfl | (cases y4 <;> cases y5 <;> cases y6 <;> cases y1 <;> cases y2 <;> cases y3 <;> rfl)
theorem Kou {a b c:Nat} (ha:a < n) (hb:b < n) (hc:c < n):Kfq (s,(a:Int),(b:Int),(c:Int))=some (Kor s n a b c):=by
 unfold Kfq Kor
 simp only
 simp only [Kom h,Kon h,iLe h,Kof h,Kog h,ha,hb,hc,bs,Kop]
 generalize e1:pl s n (pl s n a b) c=x1
 generalize e2:pl s n a (pl s n b c)=x2
 generalize e3:ti s n (ti s n a b) c=x3
 generalize e4:ti s n a (ti s n b c)=x4
 generalize ti s n a (pl s n b c)=x5
 generalize pl s n (ti s n a b) (ti s n a c)=x6
 generalize ti s n (pl s n a b) c=x7
 generalize pl s n (ti s n a c) (ti s n b c)=x8
 generalize le s n (pl s n a c) (pl s n b c)=y1
 generalize le s n (ti s n a c) (ti s n b c)=y2
 generalize le s n (ti s n c a) (ti s n c b)=y3
 generalize le s n a b=y4
 generalize le s n b c=y5
 generalize le s n a c=y6
 simp only [bne]
 generalize (x1 == x2)=b1
 generalize (x3 == x4)=b2
 generalize (x5 == x6)=b3
 generalize (x7 == x8)=b4
 cases b1 <;> cases b2 <;> cases b3 <;> cases b4 <;> first | rfl | (cases y4 <;> cases y5 <;> cases y6 <;> cases y1 <;> cases y2 <;> cases y3 <;> rfl)
end
def Kov (s:K00) (n a b g h:Nat):Bool:=!le s n a h || !le s n b h || le s n g h
def jok (s:K00) (n a b g:Nat):Bool:=le s n a g && le s n b g && (List.range' 0 n).all (Kov s n a b g)
def Kow (s:K00) (n a b:Nat):Int:=match (List.range' 0 n).find? (jok s n a b) with | some g=>(g:Int) | none=>-1
section
variable {s:K00} {n:Nat} (h:Tab s n)
include h
theorem Kox {a b g:Nat} (ha:a < n) (hb:b < n) (hg:g < n):∀ (k m:Nat) (ok:Bool),m + k=n→K9y (s,(a:Int),(b:Int),(g:Int),ok,(m:Int))=some (ok && (List.range' m k).all (Kov s n a b g)):=by
 have hhi:=h.hi
 intro k
 induction k with
 | zero =>
  intro m ok hm
  rw [K9y.eq_def]
  simp only
  rw [h.size,Ko0 (by omega)]
  simp [bs]
 | succ k ih =>
  intro m ok hm
  rw [K9y.eq_def]
  simp only
  rw [h.size,Knz (by omega),if_pos rfl,bs,sLe h ha (by omega),sLe h hb (by omega),sLe h hg (by omega)]
  cases ok with
  | false=>rfl
  | true =>
   rw [if_pos rfl]
   rw [List.range'_succ,List.all_cons]
   have ih:∀ ok,_:=fun ok=>ih (m + 1) ok (by omega)
   rw [Kny (by omega)]
   generalize ((m + 1:Nat):Int)=M at ih ⊢
   simp only [bs,Kov]
   cases le s n a m <;> cases le s n b m <;> cases le s n g m <;> simp [bs,ih,Kov]
theorem Koy {a b g:Nat} (ha:a < n) (hb:b < n) (hg:g < n):∀ (k m:Nat) (ok:Bool),m + k=n→Kff (s,(a:Int),(b:Int),(g:Int),ok,(m:Int))=some (ok && (List.range' m k).all (Kov s n a b g)):=by
 have hhi:=h.hi
 intro k
 induction k with
 | zero =>
  intro m ok hm
  rw [Kff.eq_def]
  simp only
  rw [h.size,Ko0 (by omega)]
  simp [bs]
 | succ k ih =>
  intro m ok hm
  rw [Kff.eq_def]
  simp only
  rw [h.size,Knz (by omega),if_pos rfl,iLe h ha (by omega),iLe h hb (by omega),iLe h hg (by omega)]
  rw [List.range'_succ,List.all_cons]
  have ih:∀ ok,_:=fun ok=>ih (m + 1) ok (by omega)
  rw [Kny (by omega)]
  generalize ((m + 1:Nat):Int)=M at ih ⊢
  simp only [bs,Kov]
  cases ok <;> cases le s n a m <;> cases le s n b m <;> cases le s n g m <;> simp [bs,ih,Kov]
theorem Koz {a b:Nat} (ha:a < n) (hb:b < n):∀ (k g:Nat),g + k=n→Ka2 (s,(a:Int),(b:Int),(g:Int))=some (match (List.range' g k).find? (jok s n a b) with | some g=>.inr (g:Int) | none=>.inl ()):=by
 have hhi:=h.hi
 intro k
 induction k with
 | zero =>
  intro g hm
  rw [Ka2.eq_def]
  simp only
  rw [h.size,Ko0 (by omega)]
  rfl
 | succ k ih =>
  intro g hm
  rw [Ka2.eq_def]
  simp only
  rw [h.size,Knz (by omega),if_pos rfl,sLe h ha (by omega),sLe h hb (by omega)]
  have ih:=ih (g + 1) (by omega)
  rw [Kny (by omega),List.range'_succ,List.find?_cons]
  have hl:=fun ok=>Kox h ha hb (g:=g) (by omega) n 0 ok (by omega)
  rw [show ((0:Nat):Int)=0 from rfl] at hl
  generalize ((g + 1:Nat):Int)=M at ih ⊢
  have hj:jok s n a b g=(le s n a g && le s n b g && (List.range' 0 n).all (Kov s n a b g)):=rfl
  rw [hj]
  cases le s n a g <;> cases le s n b g <;> cases hq:(List.range' 0 n).all (Kov s n a b g) <;> simp [bs,hl,hq,ih]
theorem Kp0 {a b:Nat} (ha:a < n) (hb:b < n):∀ (k g:Nat),g + k=n→Kfk (s,(a:Int),(b:Int),(g:Int))=some (match (List.range' g k).find? (jok s n a b) with | some g=>.inr (g:Int) | none=>.inl ()):=by
 have hhi:=h.hi
 intro k
 induction k with
 | zero =>
  intro g hm
  rw [Kfk.eq_def]
  simp only
  rw [h.size,Ko0 (by omega)]
  rfl
 | succ k ih =>
  intro g hm
  rw [Kfk.eq_def]
  simp only
  rw [h.size,Knz (by omega),if_pos rfl,iLe h ha (by omega),iLe h hb (by omega)]
  have ih:=ih (g + 1) (by omega)
  rw [Kny (by omega),List.range'_succ,List.find?_cons]
  have hl:=fun ok=>Koy h ha hb (g:=g) (by omega) n 0 ok (by omega)
  rw [show ((0:Nat):Int)=0 from rfl] at hl
  generalize ((g + 1:Nat):Int)=M at ih ⊢
  have hj:jok s n a b g=(le s n a g && le s n b g && (List.range' 0 n).all (Kov s n a b g)):=rfl
  rw [hj]
  cases le s n a g <;> cases le s n b g <;> cases hq:(List.range' 0 n).all (Kov s n a b g) <;> simp [bs,hl,hq,ih]
theorem Kp1 {a b:Nat} (ha:a < n) (hb:b < n):Ka5 (s,(a:Int),(b:Int))=some (Kow s n a b):=by
 unfold Ka5 Kow
 simp only
 have:=Koz h ha hb n 0 (by omega)
 rw [show ((0:Nat):Int)=0 from rfl] at this
 rw [this,bs]
 cases (List.range' 0 n).find? (jok s n a b) <;> rfl
theorem Kp2 {a b:Nat} (ha:a < n) (hb:b < n):Kfn (s,(a:Int),(b:Int))=some (Kow s n a b):=by
 unfold Kfn Kow
 simp only
 have:=Kp0 h ha hb n 0 (by omega)
 rw [show ((0:Nat):Int)=0 from rfl] at this
 rw [this,bs]
 cases (List.range' 0 n).find? (jok s n a b) <;> rfl
def Kp3 (s:K00) (n a b:Nat):Bool:=(pl s n a b == pl s n b a) && ((a == b) || !le s n a b || !le s n b a) && decide (Kow s n a b ≥ 0)
omit h in
theorem Kp4 (x:Int):decide (x < 0)=!decide (x ≥ 0):=by
 by_cases h:x < 0
 ·rw [decide_eq_true h,decide_eq_false (by omega)]; rfl
 ·rw [decide_eq_false h,decide_eq_true (by omega)]; rfl
theorem Kp5 {a b:Nat} (ha:a < n) (hb:b < n):Ka8 (s,(a:Int),(b:Int))=some (Kp3 s n a b):=by
 unfold Ka8 Kp3
 simp only
 rw [Kok h ha hb,Kok h hb ha,sLe h ha hb,sLe h hb ha,Kp1 h ha hb]
 simp only [bs,Koo]
 generalize (pl s n a b == pl s n b a)=b1
 generalize (a == b)=b2
 cases b1 <;> cases b2 <;> cases le s n a b <;> cases le s n b a <;> simp [bs]
end
def inB (x lo hi:Int):Bool:=decide (x ≥ lo) && decide (x ≤ hi)
theorem sIn (x lo hi:Int):K97 (x,lo,hi)=some (inB x lo hi):=by
 unfold K97 inB
 simp only
 cases decide (x ≥ lo) <;> simp [bs]
theorem iIn (x lo hi:Int):Kez (x,lo,hi)=some (inB x lo hi):=by
 unfold Kez inB
 simp only
 cases decide (x ≥ lo) <;> simp [bs]
def Kp6 (s:K00) (n:Nat):Bool:=(List.range' 0 n).all fun a=>Koq s n a && (List.range' 0 n).all fun b=>Kp3 s n a b && (List.range' 0 n).all fun c=>Kor s n a b c
section
variable {s:K00} {n:Nat} (h:Tab s n)
include h
theorem Kp7 {a b:Nat} (ha:a < n) (hb:b < n):∀ (k c:Nat),c + k=n→Kaf (s,(a:Int),(b:Int),(c:Int))=some (if (List.range' c k).all (fun c=>Kor s n a b c) then .inl () else .inr false):=by
 have hhi:=h.hi
 intro k
 induction k with
 | zero =>
  intro c hm
  rw [Kaf.eq_def]
  simp only
  rw [h.size,Ko0 (by omega)]
  rfl
 | succ k ih =>
  intro c hm
  rw [Kaf.eq_def]
  simp only
  rw [h.size,Knz (by omega),if_pos rfl,Kot h ha hb (by omega),bs]
  have ih:=ih (c + 1) (by omega)
  rw [Kny (by omega),List.range'_succ,List.all_cons]
  generalize ((c + 1:Nat):Int)=M at ih ⊢
  generalize (List.range' (c + 1) k).all (fun c=>Kor s n a b c)=r at ih ⊢
  cases Kor s n a b c <;> cases r <;> simp [ih]
theorem Kp8 {a b:Nat} (ha:a < n) (hb:b < n):∀ (k c:Nat),c + k=n→Kfy (s,(a:Int),(b:Int),(c:Int))=some (if (List.range' c k).all (fun c=>Kor s n a b c) then .inl () else .inr false):=by
 have hhi:=h.hi
 intro k
 induction k with
 | zero =>
  intro c hm
  rw [Kfy.eq_def]
  simp only
  rw [h.size,Ko0 (by omega)]
  rfl
 | succ k ih =>
  intro c hm
  rw [Kfy.eq_def]
  simp only
  rw [h.size,Knz (by omega),if_pos rfl,Kou h ha hb (by omega),bs]
  have ih:=ih (c + 1) (by omega)
  rw [Kny (by omega),List.range'_succ,List.all_cons]
  generalize ((c + 1:Nat):Int)=M at ih ⊢
  generalize (List.range' (c + 1) k).all (fun c=>Kor s n a b c)=r at ih ⊢
  cases Kor s n a b c <;> cases r <;> simp [ih]
theorem Kp9 {a:Nat} (ha:a < n):∀ (k b:Nat),b + k=n→Kaj (s,(a:Int),(b:Int))=some (if (List.range' b k).all (fun b=>Kp3 s n a b && (List.range' 0 n).all fun c=>Kor s n a b c) then .inl () else .inr false):=by
 have hhi:=h.hi
 intro k
 induction k with
 | zero =>
  intro c hm
  rw [Kaj.eq_def]
  simp only
  rw [h.size,Ko0 (by omega)]
  rfl
 | succ k ih =>
  intro b hm
  rw [Kaj.eq_def]
  simp only
  have hl:=Kp7 h ha (b:=b) (by omega) n 0 (by omega)
  rw [show ((0:Nat):Int)=0 from rfl] at hl
  rw [h.size,Knz (by omega),if_pos rfl,Kp5 h ha (by omega),bs,hl]
  have ih:=ih (b + 1) (by omega)
  rw [Kny (by omega),List.range'_succ,List.all_cons]
  generalize ((b + 1:Nat):Int)=M at ih ⊢
  generalize (List.range' (b + 1) k).all (fun b=>Kp3 s n a b && (List.range' 0 n).all fun c=>Kor s n a b c)=r at ih ⊢
  cases Kp3 s n a b <;> cases (List.range' 0 n).all (fun c=>Kor s n a b c) <;> cases r <;> simp [ih,bs]
theorem Kpa {a:Nat} (ha:a < n):∀ (k b:Nat),b + k=n→Kg3 (s,(a:Int),(b:Int))=some (if (List.range' b k).all (fun b=>Kp3 s n a b && (List.range' 0 n).all fun c=>Kor s n a b c) then .inl () else .inr false):=by
 have hhi:=h.hi
 intro k
 induction k with
 | zero =>
  intro c hm
  rw [Kg3.eq_def]
  simp only
  rw [h.size,Ko0 (by omega)]
  rfl
 | succ k ih =>
  intro b hm
  have hb:b < n:=by omega
  rw [Kg3.eq_def]
  simp only
  have hl:=Kp8 h ha (b:=b) (by omega) n 0 (by omega)
  rw [show ((0:Nat):Int)=0 from rfl] at hl
  rw [h.size,Knz (by omega),if_pos rfl,Kom h ha hb,Kom h hb ha,iLe h ha hb,iLe h hb ha,Kp2 h ha hb,hl]
  have ih:=ih (b + 1) (by omega)
  rw [Kny (by omega),List.range'_succ,List.all_cons]
  generalize ((b + 1:Nat):Int)=M at ih ⊢
  generalize (List.range' (b + 1) k).all (fun b=>Kp3 s n a b && (List.range' 0 n).all fun c=>Kor s n a b c)=r at ih ⊢
  simp only [bs,Kop,Kp4]
  cases h1:(pl s n a b == pl s n b a) <;> cases h2:(a == b) <;> cases h3:decide (Kow s n a b ≥ 0) <;> cases h4:le s n a b <;> cases h5:le s n b a <;> cases h6:(List.range' 0 n).all (fun c=>Kor s n a b c) <;> cases r <;> simp only [Kp3,bne,h1,h2,h3,h4,h5,h6,ih,bs,Bool.not_true,Bool.not_false,Bool.true_and,Bool.false_and,Bool.and_true,Bool.and_false,Bool.true_or,Bool.false_or,Bool.or_true,Bool.or_false,if_true,if_false,Bool.false_eq_true]
theorem Kpb:∀ (k a:Nat),a + k=n→Kao (s,(a:Int))=some (if (List.range' a k).all (fun a=>Koq s n a && (List.range' 0 n).all fun b=>Kp3 s n a b && (List.range' 0 n).all fun c=>Kor s n a b c) then .inl () else .inr false):=by
 have hhi:=h.hi
 intro k
 induction k with
 | zero =>
  intro c hm
  rw [Kao.eq_def]
  simp only
  rw [h.size,Ko0 (by omega)]
  rfl
 | succ k ih =>
  intro a hm
  have ha:a < n:=by omega
  rw [Kao.eq_def]
  simp only
  have hl:=Kp9 h ha n 0 (by omega)
  rw [show ((0:Nat):Int)=0 from rfl] at hl
  rw [h.size,Knz (by omega),if_pos rfl,Kos h ha,bs,hl]
  have ih:=ih (a + 1) (by omega)
  rw [Kny (by omega),List.range'_succ,List.all_cons]
  generalize ((a + 1:Nat):Int)=M at ih ⊢
  generalize (List.range' (a + 1) k).all (fun a=>Koq s n a && (List.range' 0 n).all fun b=>Kp3 s n a b && (List.range' 0 n).all fun c=>Kor s n a b c)=r at ih ⊢
  cases Koq s n a <;> cases (List.range' 0 n).all (fun b=>Kp3 s n a b && (List.range' 0 n).all fun c=>Kor s n a b c) <;> cases r <;> simp [ih,bs]
theorem Kpc:∀ (k a:Nat),a + k=n→Kg7 (s,(a:Int))=some (if (List.range' a k).all (fun a=>Koq s n a && (List.range' 0 n).all fun b=>Kp3 s n a b && (List.range' 0 n).all fun c=>Kor s n a b c) then .inl () else .inr false):=by
 have hhi:=h.hi
 have l0:(0:Nat) < n:=by have:=h.lo; omega
 have l1:(1:Nat) < n:=by have:=h.lo; omega
 intro k
 induction k with
 | zero =>
  intro c hm
  rw [Kg7.eq_def]
  simp only
  rw [h.size,Ko0 (by omega)]
  rfl
 | succ k ih =>
  intro a hm
  have ha:a < n:=by omega
  rw [Kg7.eq_def]
  simp only
  have hl:=Kpa h ha n 0 (by omega)
  have q1:Kf5 (s,0,(a:Int))=_:=Kom h l0 ha
  have q2:Kf8 (s,1,(a:Int))=_:=Kon h l1 ha
  have q3:Kf8 (s,(a:Int),1)=_:=Kon h ha l1
  have q4:Kf8 (s,0,(a:Int))=_:=Kon h l0 ha
  have q5:Kf8 (s,(a:Int),0)=_:=Kon h ha l0
  have z1:(((ti s n 0 a:Nat):Int) != 0)=(ti s n 0 a != 0):=Kop _ 0
  have z2:(((ti s n a 0:Nat):Int) != 0)=(ti s n a 0 != 0):=Kop _ 0
  rw [show ((0:Nat):Int)=0 from rfl] at hl
  rw [h.size,Knz (by omega),if_pos rfl,q1,q2,q3,q4,q5,iLe h ha ha,hl]
  have ih:=ih (a + 1) (by omega)
  rw [Kny (by omega),List.range'_succ,List.all_cons]
  generalize ((a + 1:Nat):Int)=M at ih ⊢
  generalize (List.range' (a + 1) k).all (fun a=>Koq s n a && (List.range' 0 n).all fun b=>Kp3 s n a b && (List.range' 0 n).all fun c=>Kor s n a b c)=r at ih ⊢
  simp only [bs,Kop,z1,z2]
  cases h1:(pl s n 0 a == a) <;> cases h2:(ti s n 1 a == a) <;> cases h3:(ti s n a 1 == a) <;> cases h4:(ti s n 0 a == 0) <;> cases h5:(ti s n a 0 == 0) <;> cases h6:le s n a a <;> cases h7:(List.range' 0 n).all (fun b=>Kp3 s n a b && (List.range' 0 n).all fun c=>Kor s n a b c) <;> cases r <;> simp only [Koq,bne,h1,h2,h3,h4,h5,h6,h7,ih,bs,Bool.not_true,Bool.not_false,Bool.true_and,Bool.false_and,Bool.and_true,Bool.and_false,if_true,if_false,Bool.false_eq_true]
end
theorem Kpd {α:Type} {l r:List α} {x:α} {i:Nat} (h:l.drop i=x :: r):i < l.length∧idx l (i:Int)=some x∧l.drop (i + 1)=r:=by
 have hi:i < l.length:=by
  rcases Nat.lt_or_ge i l.length with h' | h'
  ·exact h'
  ·rw [List.drop_eq_nil_of_le h'] at h; cases h
 have e:=List.drop_eq_getElem_cons hi
 rw [h] at e
 obtain ⟨e1,e2⟩:=List.cons.inj e
 exact ⟨hi,by rw [Knx hi,e1],e2.symm⟩
theorem Kpe {α:Type} {l:List α} {i:Nat} (h:l.drop i=[]):l.length ≤ i:=by
 rcases Nat.lt_or_ge i l.length with h' | h'
 ·rw [List.drop_eq_getElem_cons h'] at h; cases h
 ·exact h'
def Kpf (c:Int):Bool:=inB c 3 18 || c == 35
def Kpg (c:Int):Bool:=inB c 19 34 || c == 36
def Kph (c:Int):Int:=if c == 0 then 0 else if c == 1 || c == 2 || Kpf c then 2 else if Kpg c then 1 else -1
theorem Kpi (c:Int):Kau c=some (Kpf c):=by
 unfold Kau Kpf
 simp only [sIn,bs]
 cases inB c 3 18 <;> rfl
theorem Kpj (c:Int):Kax c=some (Kpg c):=by
 unfold Kax Kpg
 simp only [sIn,bs]
 cases inB c 19 34 <;> rfl
theorem Kpk (c:Int):Kb0 c=some (Kph c):=by
 unfold Kb0 Kph
 simp only [Kpi,Kpj,bs]
 cases c == 0 <;> cases c == 1 <;> cases c == 2 <;> cases Kpf c <;> cases Kpg c <;> rfl
theorem Kpl (c:Int):(c=0∧Kph c=0)∨((c=1∨c=2∨(3 ≤ c∧c ≤ 18)∨c=35)∧Kph c=2)∨(((19 ≤ c∧c ≤ 34)∨c=36)∧Kph c=1)∨((c < 0∨36 < c)∧Kph c=-1):=by
 unfold Kph Kpf Kpg inB
 by_cases h0:c=0
 ·left; subst h0; exact ⟨rfl,rfl⟩
 ·right
  have e0:(c == 0)=false:=by simpa using h0
  by_cases h1:c=1∨c=2∨(3 ≤ c∧c ≤ 18)∨c=35
  ·left
   refine ⟨h1,?_⟩
   have:(c == 1 || c == 2 || (decide (c ≥ 3) && decide (c ≤ 18) || c == 35))=true:=by
    simp only [Bool.or_eq_true,Bool.and_eq_true,beq_iff_eq,decide_eq_true_eq]; omega
   rw [e0,this]; rfl
  ·right
   have q:(c == 1 || c == 2 || (decide (c ≥ 3) && decide (c ≤ 18) || c == 35))=false:=by
    rw [Bool.eq_false_iff]; intro h
    simp only [Bool.or_eq_true,Bool.and_eq_true,beq_iff_eq,decide_eq_true_eq] at h; omega
   rw [e0,q]
   by_cases h2:(19 ≤ c∧c ≤ 34)∨c=36
   ·left
    refine ⟨h2,?_⟩
    have:(decide (c ≥ 19) && decide (c ≤ 34) || c == 36)=true:=by
     simp only [Bool.or_eq_true,Bool.and_eq_true,beq_iff_eq,decide_eq_true_eq]; omega
    rw [this]; rfl
   ·right
    refine ⟨by omega,?_⟩
    have:(decide (c ≥ 19) && decide (c ≤ 34) || c == 36)=false:=by
     rw [Bool.eq_false_iff]; intro h
     simp only [Bool.or_eq_true,Bool.and_eq_true,beq_iff_eq,decide_eq_true_eq] at h; omega
    rw [this]; rfl
def Kpm (c:Int):Int × Int :=
 if inB c 0 2 then (c,-1) else if inB c 3 18 then (3,c - 3) else if inB c 19 34 then (4,c - 19) else if c == 35 then (3,-1) else if c == 36 then (4,-1) else (5,-1)
theorem Kpn (c:Int):Kgd c=some (Kpm c):=by
 unfold Kgd Kpm
 simp only [iIn,bs]
 cases h1:inB c 0 2
 ·cases h2:inB c 3 18
  ·cases h3:inB c 19 34
   ·cases c == 35 <;> cases c == 36 <;> rfl
   ·simp only [inB,Bool.and_eq_true,decide_eq_true_eq] at h3
    simp only [Bool.false_eq_true,if_false,if_true]
    rw [Knw (by omega) (by omega)]
  ·simp only [inB,Bool.and_eq_true,decide_eq_true_eq] at h2
   simp only [Bool.false_eq_true,if_false,if_true]
   rw [Knw (by omega) (by omega)]
 ·rfl
theorem Kpo (c:Int):(c=0∧Kpm c=(0,-1))∨(c=1∧Kpm c=(1,-1))∨(c=2∧Kpm c=(2,-1))∨((3 ≤ c∧c ≤ 18)∧Kpm c=(3,c - 3))∨(c=35∧Kpm c=(3,-1)) ∨
  ((19 ≤ c∧c ≤ 34)∧Kpm c=(4,c - 19))∨(c=36∧Kpm c=(4,-1))∨((c < 0∨36 < c)∧Kpm c=(5,-1)):=by
 have inT:∀ lo hi,lo ≤ c→c ≤ hi→inB c lo hi=true:=fun lo hi h1 h2=>by simp only [inB,Bool.and_eq_true,decide_eq_true_eq]; omega
 have inF:∀ lo hi,(c < lo∨hi < c)→inB c lo hi=false:=fun lo hi h=>by rw [Bool.eq_false_iff]; intro h'; simp only [inB,Bool.and_eq_true,decide_eq_true_eq] at h'; omega
 unfold Kpm
 by_cases h0:0 ≤ c∧c ≤ 2
 ·rw [inT 0 2 h0.1 h0.2]
  have:c=0∨c=1∨c=2:=by omega
  rcases this with rfl | rfl | rfl <;> simp
 ·rw [inF 0 2 (by omega)]
  by_cases h1:3 ≤ c∧c ≤ 18
  ·rw [inT 3 18 h1.1 h1.2]
   exact .inr (.inr (.inr (.inl ⟨h1,rfl⟩)))
  ·rw [inF 3 18 (by omega)]
   by_cases h2:19 ≤ c∧c ≤ 34
   ·rw [inT 19 34 h2.1 h2.2]
    exact .inr (.inr (.inr (.inr (.inr (.inl ⟨h2,rfl⟩)))))
   ·rw [inF 19 34 (by omega)]
    by_cases h3:c=35
    ·subst h3; simp
    ·by_cases h4:c=36
     ·subst h4; simp
     ·have e3:(c == 35)=false:=by simpa using h3
      have e4:(c == 36)=false:=by simpa using h4
      rw [e3,e4]
      refine .inr (.inr (.inr (.inr (.inr (.inr (.inr ⟨by omega,rfl⟩))))))
def skip:Nat→List Int→Option (List Int)
 | 0,l=>some l
 | _ + 1,[]=>none
 | m + 1,c :: l=>if Kph c=-1 then none else skip (m + (Kph c).toNat) l
theorem Kpp (l:List Int):skip 0 l=some l:=by cases l <;> rfl
theorem Kpq (m:Nat):skip (m + 1) []=none:=rfl
theorem Kpr (m:Nat) (c:Int) (l:List Int):skip (m + 1) (c :: l)=if Kph c=-1 then none else skip (m + (Kph c).toNat) l:=rfl
theorem Kps (l:List Int):∀ (m k:Nat),skip (m + k) l=(skip m l).bind (skip k):=by
 induction l with
 | nil =>
  intro m k
  cases m with
  | zero=>rw [Nat.zero_add,Kpp]; rfl
  | succ m=>rw [show m + 1 + k=(m + k) + 1 by omega,Kpq,Kpq]; rfl
 | cons c l ih =>
  intro m k
  cases m with
  | zero=>rw [Nat.zero_add,Kpp]; rfl
  | succ m =>
   rw [show m + 1 + k=(m + k) + 1 by omega,Kpr,Kpr]
   by_cases h:Kph c=-1
   ·rw [if_pos h,if_pos h]; rfl
   ·rw [if_neg h,if_neg h,← ih]; congr 1; omega
theorem Kpt (l:List Int):∀ (m:Nat) (r:List Int),skip m l=some r→∃ p,l=p ++ r∧m ≤ p.length:=by
 induction l with
 | nil =>
  intro m r h
  cases m with
  | zero=>rw [Kpp] at h; cases h; exact ⟨[],rfl,Nat.le_refl _⟩
  | succ m=>rw [Kpq] at h; cases h
 | cons c l ih =>
  intro m r h
  cases m with
  | zero=>rw [Kpp] at h; cases h; exact ⟨[],rfl,Nat.le_refl _⟩
  | succ m =>
   rw [Kpr] at h
   by_cases hk:Kph c=-1
   ·rw [if_pos hk] at h; cases h
   ·rw [if_neg hk] at h
    obtain ⟨p,e,hp⟩:=ih _ _ h
    exact ⟨c :: p,by rw [e]; rfl,by simp; omega⟩
def Kpu (ty:List Int) (m i:Nat):Int:=match skip m (ty.drop i) with | some r=>((ty.length - r.length:Nat):Int) | none=>-1
theorem Kpv (ty:List Int) (hty:ty.length ≤ 1099511627776):∀ (l:List Int) (i m:Nat),ty.drop i=l→m ≤ 1099511627776 + 2 * i→∃ x,Kb4 (ty,((m + 1:Nat):Int),(i:Int))=some x∧(match x with | .inl ()=>-1 | .inr r=>r)=Kpu ty (m + 1) i:=by
 intro l
 induction l with
 | nil =>
  intro i m hl hm
  rw [Kb4.eq_def]
  simp only
  rw [Ko0 (Kpe hl)]
  exact ⟨.inl (),rfl,by unfold Kpu; rw [hl,Kpq]⟩
 | cons c l ih =>
  intro i m hl hm
  obtain ⟨hi,hx,hd⟩:=Kpd hl
  have hi2:(i:Int) < 1099511627776:=by omega
  rw [Kb4.eq_def]
  simp only
  rw [Knz hi,if_pos rfl,hx,bs,Kpk,bs]
  have he:Kpu ty (m + 1) i=(match (if Kph c=-1 then none else skip (m + (Kph c).toNat) l) with | some r=>((ty.length - r.length:Nat):Int) | none=>-1):=by
   unfold Kpu; rw [hl,Kpr]
  rw [he]
  by_cases hk:Kph c=-1
  ·rw [if_pos hk,hk]
   exact ⟨.inr (-1),rfl,rfl⟩
  ·rw [if_neg hk]
   have hk0:0 ≤ Kph c∧Kph c ≤ 2:=by rcases Kpl c with h | h | h | h <;> omega
   obtain ⟨k,hkk⟩:∃ k:Nat,Kph c=(k:Int):=⟨(Kph c).toNat,by omega⟩
   rw [decide_eq_false (by omega),if_neg (by decide),hkk,Int.toNat_natCast]
   rw [Knw (x:=((m + 1:Nat):Int) - 1) (by omega) (by omega),show ((m + 1:Nat):Int) - 1=(m:Int) by omega,Knw (x:=(m:Int) + (k:Int)) (by omega) (by omega),Kny (by omega)]
   by_cases h0:m + k=0
   ·rw [show ((m:Int) + (k:Int) == 0)=true by simp; omega,if_pos rfl,h0,Kpp]
    refine ⟨_,rfl,?_⟩
    have:l.length=ty.length - (i + 1):=by rw [← hd,List.length_drop]
    simp only
    omega
   ·rw [show ((m:Int) + (k:Int) == 0)=false by simp; omega,if_neg (by decide)]
    obtain ⟨q,hq⟩:∃ q,m + k=q + 1:=⟨m + k - 1,by omega⟩
    have:=ih (i + 1) q hd (by omega)
    rw [show (m:Int) + (k:Int)=((q + 1:Nat):Int) by omega]
    obtain ⟨x,h1,h2⟩:=this
    exact ⟨x,h1,by rw [h2,hq]; unfold Kpu; rw [hd]⟩
theorem Kpw (ty:List Int) (hty:ty.length ≤ 1099511627776) (i:Nat) (hi:i ≤ ty.length):Kb7 (ty,(i:Int))=some (Kpu ty 1 i):=by
 unfold Kb7
 obtain ⟨x,h1,h2⟩:=Kpv ty hty _ i 0 rfl (by omega)
 simp only
 rw [show (1:Int)=((0 + 1:Nat):Int) from rfl,h1,bs]
 rw [← h2]
 cases x <;> rfl
theorem Kpx (ty:List Int) (i:Nat) (hi:i ≤ ty.length):Kpu ty 2 i=(if Kpu ty 1 i=-1 then -1 else Kpu ty 1 (Kpu ty 1 i).toNat):=by
 unfold Kpu
 rw [show 2=1 + 1 from rfl,Kps]
 cases h:skip 1 (ty.drop i) with
 | none=>simp
 | some r =>
  obtain ⟨p,hp,hl⟩:=Kpt _ _ _ h
  have hlen:ty.length - i=p.length + r.length:=by rw [← List.length_drop,hp,List.length_append]
  have:ty.drop (ty.length - r.length)=r:=by
   have e:ty.drop (ty.length - r.length)=(ty.drop i).drop p.length:=by rw [List.drop_drop]; congr 1; omega
   rw [e,hp,List.drop_left]
  simp only [Option.bind_some]
  rw [if_neg (by omega),Int.toNat_natCast,this]
theorem Kpy (ty:List Int) (hty:ty.length ≤ 1099511627776):∀ (d i:Nat),ty.length - i=d→Kgg (ty,(i:Int))=some (Kpu ty 1 i):=by
 intro d
 induction d using Nat.strongRecOn with
 | ind d ih =>
  intro i hd
  rw [Kgg.eq_def]
  simp only
  rw [decide_eq_false (by omega:¬ (i:Int) < 0)]
  simp only [Bool.false_eq_true,if_false,bs]
  by_cases hi:i < ty.length
  ·rw [decide_eq_false (by omega),if_neg (by decide),Knx hi,bs,Kpn,bs]
   have hdr:=List.drop_eq_getElem_cons hi
   have he:∀ k:Nat,Kph ty[i]=(k:Int)→Kpu ty 1 i=Kpu ty k (i + 1):=fun k hk=>by
    unfold Kpu
    rw [hdr,show 1=0 + 1 from rfl,Kpr,hk,if_neg (by omega),Int.toNat_natCast,Nat.zero_add]
   have hn:Kph ty[i]=-1→Kpu ty 1 i=-1:=fun hk=>by
    unfold Kpu
    rw [hdr,show 1=0 + 1 from rfl,Kpr,if_pos hk]
   have i1:=ih (ty.length - (i + 1)) (by omega) (i + 1) rfl
   have hz:∀ i:Nat,i ≤ ty.length→Kpu ty 0 i=(i:Int):=fun i hi=>by unfold Kpu; rw [Kpp]; simp only [List.length_drop]; omega
   rw [Kny (by omega)]
   have two:Kph ty[i]=2→((Kgg (ty,((i + 1:Nat):Int))) >>= fun r_11_4=>(Kgg (ty,r_11_4)) >>= fun r_11_5=>some r_11_5)=some (Kpu ty 1 i):=fun hk=>by
    rw [i1,bs,he 2 hk,Kpx ty (i + 1) (by omega)]
    by_cases h1:Kpu ty 1 (i + 1)=-1
    ·rw [h1,if_pos rfl,Kgg.eq_def]; rfl
    ·rw [if_neg h1]
     obtain ⟨e,hee,hlo⟩:∃ e:Nat,Kpu ty 1 (i + 1)=(e:Int)∧i + 1 < e:=by
      unfold Kpu at h1 ⊢
      cases hs:skip 1 (ty.drop (i + 1)) with
      | none=>rw [hs] at h1; exact absurd rfl h1
      | some r =>
       obtain ⟨p,hp,hl⟩:=Kpt _ _ _ hs
       have hlen:ty.length - (i + 1)=p.length + r.length:=by rw [← List.length_drop,hp,List.length_append]
       exact ⟨_,rfl,by omega⟩
     rw [hee,Int.toNat_natCast,ih (ty.length - e) (by omega) e rfl,bs]
   rcases Kpo ty[i] with ⟨h,e⟩ | ⟨h,e⟩ | ⟨h,e⟩ | ⟨h,e⟩ | ⟨h,e⟩ | ⟨h,e⟩ | ⟨h,e⟩ | ⟨h,e⟩ <;> rw [e] <;> simp only []
   ·have hk:Kph ty[i]=0:=by rcases Kpl ty[i] with h | h | h | h <;> omega
    rw [if_pos (by rfl),he 0 hk,hz _ (by omega)]
   ·have hk:Kph ty[i]=2:=by rcases Kpl ty[i] with h | h | h | h <;> omega
    exact two hk
   ·have hk:Kph ty[i]=2:=by rcases Kpl ty[i] with h | h | h | h <;> omega
    exact two hk
   ·have hk:Kph ty[i]=2:=by rcases Kpl ty[i] with h | h | h | h <;> omega
    exact two hk
   ·have hk:Kph ty[i]=2:=by rcases Kpl ty[i] with h | h | h | h <;> omega
    exact two hk
   ·have hk:Kph ty[i]=1:=by rcases Kpl ty[i] with h | h | h | h <;> omega
    rw [he 1 hk,if_neg (by decide),if_pos (by rfl),i1,bs]
   ·have hk:Kph ty[i]=1:=by rcases Kpl ty[i] with h | h | h | h <;> omega
    rw [he 1 hk,if_neg (by decide),if_pos (by rfl),i1,bs]
   ·have hk:Kph ty[i]=-1:=by rcases Kpl ty[i] with h | h | h | h <;> omega
    rw [hn hk]; rfl
  ·rw [decide_eq_true (by omega),if_pos rfl]
   unfold Kpu
   rw [List.drop_eq_nil_of_le (by omega),Kpq]
def wtB (ty:List Int):Bool:=decide (ty.length ≤ 40) && (skip 1 ty == some [])
theorem Kpz (ty:List Int):(Kpu ty 1 0 == (ty.length:Int))=(skip 1 ty == some []):=by
 unfold Kpu
 rw [List.drop_zero]
 cases h:skip 1 ty with
 | none=>simp
 | some r =>
  obtain ⟨p,hp,hl⟩:=Kpt _ _ _ h
  have hlen:ty.length=p.length + r.length:=by rw [hp,List.length_append]
  cases r with
  | nil=>simp
  | cons x xs =>
   simp only [List.length_cons] at hlen ⊢
   simp
   omega
theorem Kq0 (ty:List Int) (hty:ty.length ≤ 1099511627776):Kba ty=some (wtB ty):=by
 unfold Kba wtB
 by_cases h:ty.length ≤ 40
 ·rw [decide_eq_true (by omega:(ty.length:Int) ≤ 40),if_pos rfl,show (0:Int)=((0:Nat):Int) from rfl,Kpw ty hty 0 (by omega),bs,Kpz,decide_eq_true h]
  cases hs:skip 1 ty == some [] with
  | false=>rfl
  | true =>
   have:0 < ty.length:=by
    rcases ty with _ | ⟨c,l⟩
    ·rw [show skip 1 []=none from rfl] at hs; cases hs
    ·simp
   rw [if_pos rfl,decide_eq_true (by omega:(ty.length:Int) > ((0:Nat):Int))]; rfl
 ·rw [decide_eq_false (by omega:¬ (ty.length:Int) ≤ 40),decide_eq_false h]; rfl
theorem Kq1 (ty:List Int) (hty:ty.length ≤ 1099511627776):Kgj ty=some (wtB ty):=by
 unfold Kgj wtB
 rw [iIn,bs]
 by_cases h:ty.length ≤ 40
 ·rw [decide_eq_true h]
  by_cases h1:1 ≤ ty.length
  ·have:inB (ty.length:Int) 1 40=true:=by simp only [inB,Bool.and_eq_true,decide_eq_true_eq]; omega
   rw [this,if_pos rfl,show (0:Int)=((0:Nat):Int) from rfl,Kpy ty hty _ 0 rfl,bs,Kpz]; rfl
  ·have:inB (ty.length:Int) 1 40=false:=by rw [Bool.eq_false_iff]; intro h'; simp only [inB,Bool.and_eq_true,decide_eq_true_eq] at h'; omega
   have e:ty=[]:=List.length_eq_zero_iff.1 (by omega)
   rw [this,e]; rfl
 ·have:inB (ty.length:Int) 1 40=false:=by rw [Bool.eq_false_iff]; intro h'; simp only [inB,Bool.and_eq_true,decide_eq_true_eq] at h'; omega
  rw [this,decide_eq_false h]; rfl
def Kq2 (c:Int):Int:=if 35 ≤ c then -1 else if 19 ≤ c then c - 19 else c - 3
def Kq3 (size:Int) (closed:Bool) (c:Int):Bool:=!(decide (Kph c > 0) && decide (c > 2) && (decide (Kq2 c ≥ size) || closed && decide (Kq2 c < 0)))
theorem Kq4 {c:Int} (h:Kph c > 0):Kbd c=some (Kq2 c):=by
 have:0 ≤ c∧c ≤ 36:=by rcases Kpl c with h | h | h | h <;> omega
 unfold Kbd Kq2
 by_cases h1:35 ≤ c
 ·rw [decide_eq_true (by omega:c ≥ 35),if_pos rfl,if_pos h1]
 ·rw [decide_eq_false (by omega:¬ c ≥ 35),if_neg (by decide),if_neg h1]
  by_cases h2:19 ≤ c
  ·rw [decide_eq_true (by omega:c ≥ 19),if_pos rfl,if_pos h2,Knw (by omega) (by omega)]
  ·rw [decide_eq_false (by omega:¬ c ≥ 19),if_neg (by decide),if_neg h2,Knw (by omega) (by omega)]
theorem Kq5 (ty:List Int) (hty:ty.length ≤ 1099511627776) (size:Int) (cl:Bool):∀ (l:List Int) (i:Nat),ty.drop i=l→Kbi (ty,size,cl,(i:Int))=some (if l.all (Kq3 size cl) then .inl () else .inr false):=by
 intro l
 induction l with
 | nil =>
  intro i hl
  rw [Kbi.eq_def]
  simp only
  rw [Ko0 (Kpe hl)]; rfl
 | cons c l ih =>
  intro i hl
  obtain ⟨hi,hx,hd⟩:=Kpd hl
  rw [Kbi.eq_def]
  simp only
  rw [Knz hi,if_pos rfl,hx,bs,bs,Kpk,bs,Kny (by omega)]
  have ih:=ih (i + 1) hd
  generalize ((i + 1:Nat):Int)=M at ih ⊢
  rw [List.all_cons]
  unfold Kq3 at ih ⊢
  by_cases hk:Kph c > 0
  ·simp only [bs,Kq4 hk]
   rw [decide_eq_true hk]
   generalize Kq2 c=g at ih ⊢
   cases decide (c > 2) <;> cases decide (g ≥ size) <;> cases cl <;> cases decide (g < 0) <;> simp [bs,ih]
  ·rw [decide_eq_false hk]; simp [bs,ih]
theorem Kq6 (ty:List Int) (hty:ty.length ≤ 1099511627776) (size:Int) (cl:Bool):Kbl (ty,size,cl)=some (ty.all (Kq3 size cl)):=by
 unfold Kbl
 simp only
 rw [show (0:Int)=((0:Nat):Int) from rfl,Kq5 ty hty size cl _ 0 rfl,List.drop_zero,bs]
 cases ty.all (Kq3 size cl) <;> rfl
theorem Kq7 {α β:Type} {a:Option α} {f:α→Option β} {x:α} (h:a=some x):(a >>= f)=f x:=by rw [h]; rfl
mutual
def tsz:K01→Nat
 | ⟨_,_,_,ks⟩=>1 + Kq8 ks
def Kq8:List K01→Nat
 | []=>0
 | k :: ks=>tsz k + Kq8 ks
end
mutual
def tms:K01→Nat
 | ⟨_,_,ty,ks⟩=>ty.length + ks.length + Kq9 ks
def Kq9:List K01→Nat
 | []=>0
 | k :: ks=>tms k + Kq9 ks
end
theorem Kqa (t:K01):tms t=t.fType.length + t.fKids.length + Kq9 t.fKids:=by cases t; rw [tms]
def Kqb (left n:Nat):Int:=if n ≤ left then ((left - n:Nat):Int) else -1
theorem Kqc {left n:Nat} (h:n ≤ left):Kqb left n=((left - n:Nat):Int):=if_pos h
theorem Kqd {left n:Nat} (h:¬ n ≤ left):Kqb left n=-1:=if_neg h
theorem Kqe (t:K01) (i:Int):Kbx (t,-1,i)=some (-1):=by
 rw [Kbx.eq_def]
 simp only
 cases decide (i < (t.fKids.length:Int)) <;> rfl
mutual
theorem Kqf:∀ (t:K01) (left:Nat),tms t ≤ 1099511627776→left ≤ 1048576→Kbw (t,(left:Int))=some (Kqb left (tsz t))
 | ⟨op,N,ty,ks⟩,left,ht,hl=>by
  rw [tms] at ht
  rw [Kbw.eq_def,tsz]
  simp only
  rcases left with _ | l
  ·rw [show wr (((0:Nat):Int) - 1)=-1 from Knw (by omega) (by omega),Kqe,bs,Kqd (by omega)]
  ·have h:=Kqg ks ⟨op,N,ty,ks⟩ 0 l rfl (by simp only; omega) (by omega) (by omega)
   rw [Knw (by omega) (by omega),show ((l + 1:Nat):Int) - 1=(l:Int) by omega,show (0:Int)=((0:Nat):Int) from rfl,h,bs]
   unfold Kqb
   by_cases q:Kq8 ks ≤ l
   ·rw [if_pos q,if_pos (by omega),show l + 1 - (1 + Kq8 ks)=l - Kq8 ks by omega]
   ·rw [if_neg q,if_neg (by omega)]
theorem Kqg:∀ (ks:List K01) (t:K01) (i left:Nat),t.fKids.drop i=ks→t.fKids.length ≤ 1099511627776→Kq9 ks ≤ 1099511627776→left ≤ 1048576→Kbx (t,(left:Int),(i:Int))=some (Kqb left (Kq8 ks))
 | [],t,i,left,hd,hk,ht,hl=>by
  rw [Kbx.eq_def,Kq8]
  simp only
  rw [Ko0 (Kpe hd)]
  simp [bs,Kqb]
 | k :: ks,t,i,left,hd,hk,ht,hl=>by
  obtain ⟨hi,hx,hd'⟩:=Kpd hd
  rw [Kq9] at ht
  rw [Kbx.eq_def,Kq8]
  simp only
  rw [Knz hi,if_pos rfl,bs,decide_eq_true (by omega:((left:Nat):Int) ≥ 0),if_pos rfl,hx,bs,Kqf k left (by omega) hl,bs,Kny (by omega)]
  by_cases q:tsz k ≤ left
  ·rw [Kqc q,Kqg ks t (i + 1) (left - tsz k) hd' hk (by omega) (by omega)]
   unfold Kqb
   by_cases q2:Kq8 ks ≤ left - tsz k
   ·rw [if_pos q2,if_pos (by omega)]; congr 2; omega
   ·rw [if_neg q2,if_neg (by omega)]
  ·rw [Kqd q,Kqe,Kqd (by omega)]
end
def Kqh (op:Int):Int:=if inB op 0 12 then ([0,0,2,3,2,2,1,1,3,1,2,1,2]:List Int).getD op.toNat 0 else -1
def Kqi (op:Int):Bool:=op == 5 || op == 8 || op == 9 || op == 11 || op == 12
def Kqj (op:Int):Bool:=op == 6 || op == 7 || op == 9
def Kqk (op:Int):ByteArray:=([ByteArray.mk #[120],ByteArray.empty,ByteArray.mk #[97,100,100],ByteArray.mk #[105,102],ByteArray.mk #[112,97,105,114],ByteArray.mk #[115,112,108,105,116],ByteArray.mk #[108,101,102,116],
 ByteArray.mk #[114,105,103,104,116],ByteArray.mk #[99,97,115,101],ByteArray.mk #[102,117,110],ByteArray.mk #[97,112,112],ByteArray.mk #[98,111,120],ByteArray.mk #[111,112,101,110]]:List ByteArray).getD op.toNat ByteArray.empty
theorem Kql {op:Int} (h:inB op 0 12=true):op=0∨op=1∨op=2∨op=3∨op=4∨op=5∨op=6∨op=7∨op=8∨op=9∨op=10∨op=11∨op=12:=by
 simp only [inB,Bool.and_eq_true,decide_eq_true_eq] at h
 omega
theorem Kqm (op:Int):Kc3 op=some (Kqh op):=by
 unfold Kc3 Kqh
 rw [sIn,bs]
 cases h:inB op 0 12
 ·rfl
 ·rcases Kql h with rfl | rfl | rfl | rfl | rfl | rfl | rfl | rfl | rfl | rfl | rfl | rfl | rfl <;> rfl
theorem Kqn (op:Int):Kc6 op=some (Kqi op):=by
 unfold Kc6 Kqi
 cases op == 5 <;> cases op == 8 <;> cases op == 9 <;> cases op == 11 <;> rfl
theorem Kqo (op:Int):Kc9 op=some (Kqj op):=by
 unfold Kc9 Kqj
 cases op == 6 <;> cases op == 7 <;> rfl
def Kqp (op:Int):K04 × Bool:=if inB op 0 12 then (K04.mk (Kqk op) (Kqh op) (Kqi op) (Kqj op),true) else (K04.mk ByteArray.empty 0 false false,false)
theorem Kqq (op:Int):Kh9 op=some (Kqp op):=by
 unfold Kh9 Kqp
 rw [iIn,bs]
 cases h:inB op 0 12
 ·rfl
 ·rcases Kql h with rfl | rfl | rfl | rfl | rfl | rfl | rfl | rfl | rfl | rfl | rfl | rfl | rfl <;> rfl
def Kqr (op kid:Int):Nat:=if op == 5 && kid == 1 then 2 else if (op == 8 && decide (kid > 0)) || op == 9 || (op == 12 && kid == 1) then 1 else 0
theorem Kqs (op kid:Int):Kqr op kid ≤ 2:=by unfold Kqr; split <;> (try split) <;> omega
theorem Kqt (op kid:Int):Kci (op,kid)=some ((Kqr op kid:Nat):Int):=by
 unfold Kci Kqr
 simp only
 generalize (op == 5)=b1
 generalize (op == 8)=b2
 generalize (op == 9)=b3
 generalize (op == 12)=b4
 generalize (kid == 1)=b5
 generalize decide (kid > 0)=b6
 cases b1 <;> cases b2 <;> cases b3 <;> cases b4 <;> cases b5 <;> cases b6 <;> rfl
theorem Kqu (op kid:Int):Khf (op,kid)=some ((Kqr op kid:Nat):Int):=by
 unfold Khf Kqr
 simp only
 generalize (op == 5)=b1
 generalize (op == 8)=b2
 generalize (op == 9)=b3
 generalize (op == 12)=b4
 generalize (kid == 1)=b5
 generalize decide (kid > 0)=b6
 cases b1 <;> cases b2 <;> cases b3 <;> cases b4 <;> cases b5 <;> cases b6 <;> rfl
def Kqv (g:Int→Bool) (n:Int) (t:K01):Bool:=if t.fOp == 0 then inB t.fN 0 (n - 1) else if t.fOp == 1 then inB t.fN 0 2 else if Kqi t.fOp then g t.fN else t.fN == 0
def Kqw (y:List Int→Bool) (t:K01):Bool:=if Kqj t.fOp then y t.fType else (t.fType.length:Int) == 0
def Kqx (g:Int→Bool) (y:List Int→Bool) (n:Int) (t:K01):Bool:=inB t.fOp 0 12 && ((t.fKids.length:Int) == Kqh t.fOp) && Kqv g n t && Kqw y t
mutual
def tOk (g:Int→Bool) (y:List Int→Bool):Nat→K01→Bool
 | n,⟨op,N,ty,ks⟩=>Kqx g y (n:Int) ⟨op,N,ty,ks⟩ && Kqy g y op n 0 ks
def Kqy (g:Int→Bool) (y:List Int→Bool):Int→Nat→Nat→List K01→Bool
 | _,_,_,[]=>true
 | op,n,i,k :: ks=>tOk g y (n + Kqr op (i:Int)) k && Kqy g y op n (i + 1) ks
end
theorem Kqz (g:Int→Bool) (y:List Int→Bool) (n:Nat) (t:K01):tOk g y n t=(Kqx g y (n:Int) t && Kqy g y t.fOp n 0 t.fKids):=by cases t; rw [tOk]
def gN (size:Int) (cl:Bool) (x:Int):Bool:=!(decide (x ≥ size) || decide (x < -1) || cl && decide (x < 0))
def yN (size:Int) (cl:Bool) (ty:List Int):Bool:=wtB ty && ty.all (Kq3 size cl)
theorem Kr0 (t:K01) (n:Nat) (size:Int) (cl:Bool) (hty:t.fType.length ≤ 1099511627776) (hn:n ≤ 35184372088832):Kcf (t,(n:Int),size,cl)=some (Kqx (gN size cl) (yN size cl) (n:Int) t):=by
 unfold Kcf Kqx
 simp only
 rw [Kqm,bs]
 by_cases hk:(t.fKids.length:Int)=Kqh t.fOp
 ·have hop:inB t.fOp 0 12=true:=by
   cases h:inB t.fOp 0 12
   ·unfold Kqh at hk; rw [h] at hk; simp at hk
   ·rfl
  rw [show ((t.fKids.length:Int) != Kqh t.fOp)=false by rw [hk]; exact Ko6,if_neg (by decide),show ((t.fKids.length:Int) == Kqh t.fOp)=true by rw [hk]; simp,hop]
  refine (Kq7 (x:=if Kqv (gN size cl) (n:Int) t then .inl () else .inr false) ?_).trans ?_
  ·unfold Kqv gN
   rw [sIn,Knw (by omega) (by omega),sIn,Kqn]
   simp only [bs]
   generalize inB t.fN 0 ((n:Int) - 1)=b1
   generalize inB t.fN 0 2=b2
   generalize Kqi t.fOp=b3
   rw [show (t.fN != 0)=!(t.fN == 0) from rfl]
   generalize (t.fN == 0)=b4
   generalize decide (t.fN ≥ size)=b5
   generalize decide (t.fN < -1)=b6
   generalize decide (t.fN < 0)=b7
   generalize (t.fOp == 0)=b8
   generalize (t.fOp == 1)=b9
   cases b8
   ·cases b9
    ·cases b3
     ·cases b4 <;> rfl
     ·cases b5 <;> cases b6 <;> cases cl <;> cases b7 <;> rfl
    ·cases b2 <;> rfl
   ·cases b1 <;> rfl
  ·cases Kqv (gN size cl) (n:Int) t
   ·simp
   ·unfold Kqw yN
    simp only [if_true]
    rw [Kqo,bs]
    cases Kqj t.fOp
    ·simp
    ·simp only [if_true]
     rw [Kq0 _ hty,Kq6 _ hty]
     cases wtB t.fType <;> simp [bs]
 ·rw [show ((t.fKids.length:Int) != Kqh t.fOp)=true by simpa using hk,if_pos rfl,show ((t.fKids.length:Int) == Kqh t.fOp)=false by simpa using hk]
  simp
mutual
theorem Kr1 (size:Int) (cl:Bool):∀ (t:K01) (n:Nat),tms t ≤ 1099511627776→n + 2 * tms t ≤ 35184372088832→Kcm (t,(n:Int),size,cl)=some (tOk (gN size cl) (yN size cl) n t)
 | ⟨op,N,ty,ks⟩,n,ht,hn=>by
  rw [tms] at ht hn
  rw [Kcm.eq_def,tOk]
  simp only
  rw [Kr0 _ n size cl (by simp only; omega) (by omega),bs]
  cases hb:Kqx (gN size cl) (yN size cl) (n:Int) ⟨op,N,ty,ks⟩
  ·rfl
  ·have h:=Kr2 size cl ks ⟨op,N,ty,ks⟩ n 0 rfl (by simp only; omega) (by omega) (by omega)
   rw [if_pos rfl,show (0:Int)=((0:Nat):Int) from rfl,h,bs]
   simp only
   cases Kqy (gN size cl) (yN size cl) op n 0 ks <;> rfl
theorem Kr2 (size:Int) (cl:Bool):∀ (ks:List K01) (t:K01) (n i:Nat),t.fKids.drop i=ks→t.fKids.length ≤ 1099511627776→Kq9 ks ≤ 1099511627776→n + 2 * (ks.length + Kq9 ks) ≤ 35184372088832 →
  Kcn (t,(n:Int),size,cl,(i:Int))=some (if Kqy (gN size cl) (yN size cl) t.fOp n i ks then .inl () else .inr false)
 | [],t,n,i,hd,hk,ht,hn=>by
  rw [Kcn.eq_def,Kqy]
  simp only
  rw [Ko0 (Kpe hd)]; rfl
 | k :: ks,t,n,i,hd,hk,ht,hn=>by
  obtain ⟨hi,hx,hd'⟩:=Kpd hd
  rw [Kq9] at ht hn
  rw [List.length_cons] at hn
  have ha:=Kqs t.fOp (i:Int)
  rw [Kcn.eq_def,Kqy]
  simp only
  rw [Knz hi,if_pos rfl,hx,bs,Kqt,bs,Knw (by omega) (by omega),show (n:Int) + ((Kqr t.fOp (i:Int):Nat):Int)=((n + Kqr t.fOp (i:Int):Nat):Int) by omega]
  rw [Kr1 size cl k (n + Kqr t.fOp (i:Int)) (by omega) (by omega),bs,Kny (by omega)]
  cases tOk (gN size cl) (yN size cl) (n + Kqr t.fOp (i:Int)) k
  ·rfl
  ·rw [if_pos rfl,Kr2 size cl ks t n (i + 1) hd' hk (by omega) (by omega),Bool.true_and]
end
def Kr3 (ok:Bool) (nodes sz:Nat):Int:=if ok && decide (nodes + sz ≤ 400) then ((nodes + sz:Nat):Int) else 401
def szB (left:Int) (n:Nat):Int:=if left - (n:Int) < 0 then -1 else left - (n:Int)
theorem Kr4 (left:Int) (n:Nat):(szB left n=-1∧left < n)∨(szB left n=left - n∧(n:Int) ≤ left):=by
 unfold szB
 by_cases h:left - (n:Int) < 0
 ·rw [if_pos h]; left; omega
 ·rw [if_neg h]; right; omega
theorem Kr5 (a:List Int) (left:Int) (h1:0 ≤ left) (h2:left ≤ 1048576) (ha:a.length ≤ 9223372036854775807):K7h (a,left)=some (szB left a.length):=by
 unfold K7h szB
 simp only
 rw [Knw (by omega) (by omega)]
 by_cases h:left - (a.length:Int) < 0
 ·rw [decide_eq_true h,if_pos rfl,if_pos h]
 ·rw [decide_eq_false h,if_neg (by decide),if_neg h]
mutual
def tln:K01→Prop
 | ⟨_,N,ty,ks⟩=>ty.length ≤ 9223372036854775807∧ks.length ≤ 9223372036854775807∧Kr6 ks∧(-9223372036854775808 ≤ N∧N ≤ 9223372036854775807)
def Kr6:List K01→Prop
 | []=>True
 | k :: ks=>tln k∧Kr6 ks
end
mutual
theorem Kr7:∀ (t:K01) (left:Int),tln t→0 ≤ left→left ≤ 1048576→K7y (t,left)=some (szB left (tms t))
 | ⟨op,N,ty,ks⟩,left,hl,h1,h2=>by
  rw [tln] at hl
  rw [K7y.eq_def,tms]
  simp only
  rw [Kr5 ty left h1 h2 hl.1,bs]
  rcases Kr4 left ty.length with ⟨e,h⟩ | ⟨e,h⟩
  ·rw [e,decide_eq_true (by decide),if_pos rfl]
   unfold szB; rw [if_pos (by omega)]
  ·rw [e,decide_eq_false (by omega),if_neg (by decide),K7z.eq_def]
   simp only
   rw [Knw (by omega) (by omega)]
   by_cases h3:left - (ty.length:Int) - (ks.length:Int) < 0
   ·rw [decide_eq_true h3,if_pos rfl,bs,decide_eq_true (by decide),if_pos rfl]
    unfold szB; rw [if_pos (by omega)]
   ·obtain ⟨m,hm⟩:∃ m:Nat,left - (ty.length:Int) - (ks.length:Int)=(m:Int):=⟨(left - (ty.length:Int) - (ks.length:Int)).toNat,by omega⟩
    rw [decide_eq_false h3,if_neg (by decide),hm,show (0:Int)=((0:Nat):Int) from rfl,Kr8 ks ks 0 m rfl hl.2.1 hl.2.2.1 (by omega),bs]
    unfold szB
    by_cases q:m < Kq9 ks
    ·rw [if_pos q,if_pos (by omega)]; rfl
    ·rw [if_neg q,if_neg (by omega)]
     simp only [bs]
     rw [decide_eq_false (by omega),if_neg (by decide)]; congr 1; omega
theorem Kr8:∀ (ks a:List K01) (i left:Nat),a.drop i=ks→a.length ≤ 9223372036854775807→Kr6 ks→left ≤ 1048576→K80 (a,(left:Int),(i:Int))=some (if left < Kq9 ks then .inr (-1) else .inl ((left - Kq9 ks:Nat):Int))
 | [],a,i,left,hd,ha,hl,h=>by
  rw [K80.eq_def,Kq9]
  simp only
  rw [Ko0 (Kpe hd)]
  simp
 | k :: ks,a,i,left,hd,ha,hl,h=>by
  obtain ⟨hi,hx,hd'⟩:=Kpd hd
  rw [Kr6] at hl
  rw [K80.eq_def,Kq9]
  simp only
  rw [Knz hi,if_pos rfl,hx,bs,Kr7 k left hl.1 (by omega) (by omega),bs,Kny (by omega)]
  rcases Kr4 left (tms k) with ⟨e,q⟩ | ⟨e,q⟩
  ·rw [e,decide_eq_true (by decide),if_pos rfl,if_pos (by omega)]
  ·rw [e,decide_eq_false (by omega),if_neg (by decide),show (left:Int) - ((tms k:Nat):Int)=((left - tms k:Nat):Int) by omega,Kr8 ks a (i + 1) (left - tms k) hd' ha hl.2 (by omega)]
   by_cases q2:left - tms k < Kq9 ks
   ·rw [if_pos q2,if_pos (by omega)]
   ·rw [if_neg q2,if_neg (by omega)]; congr 3; omega
end
mutual
theorem Kr9:∀ (t:K01),tms t ≤ 1099511627776→K8x t=some t
 | ⟨op,N,ty,ks⟩,h=>by
  rw [tms] at h
  rw [K8x.eq_def]
  simp only
  rw [Ko3 ty (by omega),bs,K8y.eq_def]
  have:chk (0 ≤ (ks.length:Int)∧(Int.toNat (ks.length:Int)) * 64 ≤ 140737488355328)=some ():=by
   unfold chk; rw [if_pos]; refine ⟨by omega,?_⟩; rw [Int.toNat_natCast]; omega
  rw [this,bs,Int.toNat_natCast,show (0:Int)=((0:Nat):Int) from rfl,Kra ks ks (List.replicate ks.length (K01.mk ((0:Nat):Int) ((0:Nat):Int) [] [])) 0 rfl (by omega) (by omega) (by simp) rfl]
  rfl
theorem Kra:∀ (ks a out:List K01) (i:Nat),a.drop i=ks→a.length ≤ 1099511627776→Kq9 ks ≤ 1099511627776→out.length=a.length→out.take i=a.take i→K8z (a,out,(i:Int))=some a
 | [],a,out,i,hd,ha,hl,ho,ht=>by
  rw [K8z.eq_def]
  simp only
  have hle:=Kpe hd
  rw [Ko0 hle]
  rw [List.take_of_length_le (by omega),List.take_of_length_le (by omega)] at ht
  simp [ht]
 | k :: ks,a,out,i,hd,ha,hl,ho,ht=>by
  obtain ⟨hi,hx,hd'⟩:=Kpd hd
  have hk:a[i]=k:=by rw [Knx hi] at hx; exact Option.some.inj hx
  rw [Kq9] at hl
  rw [K8z.eq_def]
  simp only
  rw [Knz hi,if_pos rfl,hx,bs,Kr9 k (by omega),bs,Knx (by omega),bs,Kny (by omega),Int.toNat_natCast]
  exact Kra ks a _ (i + 1) hd' ha (by omega) (by simpa using ho) (by rw [← hk]; exact Ko1 ho hi ht)
end
mutual
theorem Krb:∀ (t:K01),tms t ≤ 1099511627776→Kmb (t,t)=some true
 | ⟨op,N,ty,ks⟩,h=>by
  rw [tms] at h
  rw [Kmb.eq_def]
  simp only
  rw [Ko6,if_neg (by decide),Ko6,if_neg (by decide),Ko8 ty (by omega),bs,if_pos rfl,Kmc.eq_def]
  simp only
  rw [Ko6,if_neg (by decide),show (0:Int)=((0:Nat):Int) from rfl,Krc ks ks 0 rfl (by omega) (by omega)]
  rfl
theorem Krc:∀ (ks a:List K01) (i:Nat),a.drop i=ks→a.length ≤ 1099511627776→Kq9 ks ≤ 1099511627776→Kmd (a,a,(i:Int))=some (.inl ())
 | [],a,i,hd,ha,hl=>by
  rw [Kmd.eq_def]
  simp only
  rw [Ko0 (Kpe hd)]
  rfl
 | k :: ks,a,i,hd,ha,hl=>by
  obtain ⟨hi,hx,hd'⟩:=Kpd hd
  rw [Kq9] at hl
  rw [Kmd.eq_def]
  simp only
  rw [Knz hi,if_pos rfl,hx,bs,bs,Krb k (by omega),bs,if_pos rfl,Kny (by omega)]
  exact Krc ks a (i + 1) hd' ha (by omega)
end
theorem Krd {ty:List Int} (h:wtB ty=true):ty.length ≤ 40:=by
 unfold wtB at h
 rw [Bool.and_eq_true,decide_eq_true_eq] at h
 exact h.1
theorem Kre {g:Int→Bool} {y:List Int→Bool} {n:Nat} {t:K01} (h:tOk g y n t=true):Kqx g y (n:Int) t=true∧Kqy g y t.fOp n 0 t.fKids=true:=by
 rw [Kqz,Bool.and_eq_true] at h; exact h
theorem Krf {n b:Nat} (h:n * b ≤ 140737488355328):Qdq n b=some ():=by unfold Qdq chk; rw [if_pos h]
theorem Krg {g:Int→Bool} {y:List Int→Bool} {n:Int} {t:K01} (h:Kqx g y n t=true):inB t.fOp 0 12=true∧(t.fKids.length:Int)=Kqh t.fOp:=by
 unfold Kqx at h
 simp only [Bool.and_eq_true,beq_iff_eq] at h
 exact ⟨h.1.1.1,h.1.1.2⟩
theorem Krh (l:List Int) (h:l.length ≤ 1099511627776):Kd2 l=some l:=by
 unfold Kd2
 rw [Krf (by simp only [List.length_nil]; omega),bs]
theorem Kri (l:List Int) (h:l.length ≤ 1099511627776):Kis l=some l:=by
 unfold Kis
 rw [Krf (by simp only [List.length_nil]; omega),bs]
structure Krj (s:K00) (n:Nat):Prop where
 size:s.fSize=(n:Int)
 lo:2 ≤ n
 hi:n ≤ 16
 lp:s.fPlus.length=n * n
 lt:s.fTimes.length=n * n
 lb:s.fBelow.length=n * n
def Krk (s:K00) (n i:Nat):Bool:=inB (s.fPlus.getD i 0) 0 ((n:Int) - 1) && inB (s.fTimes.getD i 0) 0 ((n:Int) - 1)
section
variable {s:K00} {n:Nat} (h:Krj s n)
include h
theorem nn:n * n ≤ 256:=Nat.le_trans (Nat.mul_le_mul h.hi h.hi) (by decide)
theorem Krl {i:Nat} (hi:i < n * n):idx s.fPlus (i:Int)=some (s.fPlus.getD i 0):=by
 have hl:i < s.fPlus.length:=by rw [h.lp]; exact hi
 rw [Knx hl,List.getD_eq_getElem?_getD,List.getElem?_eq_getElem hl]; rfl
theorem Krm {i:Nat} (hi:i < n * n):idx s.fTimes (i:Int)=some (s.fTimes.getD i 0):=by
 have hl:i < s.fTimes.length:=by rw [h.lt]; exact hi
 rw [Knx hl,List.getD_eq_getElem?_getD,List.getElem?_eq_getElem hl]; rfl
theorem Krn:wr (s.fSize - 1)=(n:Int) - 1:=by
 have:=h.lo; have:=h.hi
 rw [h.size,Knw (by omega) (by omega)]
theorem Kro:∀ (k i:Nat),i + k=n * n→K9b (s,(i:Int))=some (if (List.range' i k).all (Krk s n) then .inl () else .inr false):=by
 have hn:=nn h
 intro k
 induction k with
 | zero =>
  intro i hm
  rw [K9b.eq_def]
  simp only
  rw [h.lp,Ko0 (by omega)]
  rfl
 | succ k ih =>
  intro i hm
  rw [K9b.eq_def]
  simp only
  rw [h.lp,Knz (by omega),if_pos rfl,Krl h (by omega),Krm h (by omega),Krn h]
  have ih:=ih (i + 1) (by omega)
  rw [Kny (by omega),List.range'_succ,List.all_cons]
  generalize ((i + 1:Nat):Int)=M at ih ⊢
  generalize (List.range' (i + 1) k).all (Krk s n)=r at ih ⊢
  simp only [bs,sIn]
  cases h1:inB (s.fPlus.getD i 0) 0 ((n:Int) - 1) <;> cases h2:inB (s.fTimes.getD i 0) 0 ((n:Int) - 1) <;> cases r <;> simp only [Krk,h1,h2,ih,bs,Bool.not_true,Bool.not_false,Bool.true_and,Bool.false_and,Bool.and_true,Bool.and_false,if_true,if_false,Bool.false_eq_true]
theorem Krp:∀ (k i:Nat),i + k=n * n→Kfu (s,(i:Int))=some (if (List.range' i k).all (Krk s n) then .inl () else .inr false):=by
 have hn:=nn h
 intro k
 induction k with
 | zero =>
  intro i hm
  rw [Kfu.eq_def]
  simp only
  rw [h.lp,Ko0 (by omega)]
  rfl
 | succ k ih =>
  intro i hm
  rw [Kfu.eq_def]
  simp only
  rw [h.lp,Knz (by omega),if_pos rfl,Krl h (by omega),Krm h (by omega)]
  have ih:=ih (i + 1) (by omega)
  rw [Kny (by omega),List.range'_succ,List.all_cons]
  generalize ((i + 1:Nat):Int)=M at ih ⊢
  generalize (List.range' (i + 1) k).all (Krk s n)=r at ih ⊢
  have hh:∀ x,Kf2 (s,x)=some (inB x 0 ((n:Int) - 1)):=fun x=>by
   unfold Kf2
   simp only
   rw [Krn h,iIn,bs]
  simp only [bs,hh]
  cases h1:inB (s.fPlus.getD i 0) 0 ((n:Int) - 1) <;> cases h2:inB (s.fTimes.getD i 0) 0 ((n:Int) - 1) <;> cases r <;> simp only [Krk,h1,h2,ih,bs,Bool.not_true,Bool.not_false,Bool.true_and,Bool.false_and,Bool.and_true,Bool.and_false,if_true,if_false,Bool.false_eq_true]
theorem Krq (he:(List.range' 0 (n * n)).all (Krk s n)=true):Tab s n:=by
 rw [List.all_eq_true] at he
 have hent:∀ i,i < n * n→Krk s n i=true:=fun i hi=>he i (by rw [List.mem_range'_1]; omega)
 refine ⟨h.size,h.lo,h.hi,h.lp,h.lt,h.lb,fun i hi=>?_,fun i hi=>?_⟩
 ·have:=hent i (by rw [← h.lp]; exact hi)
  simp only [Krk,inB,Bool.and_eq_true,decide_eq_true_eq,List.getD_eq_getElem?_getD,List.getElem?_eq_getElem hi,Option.getD_some] at this
  omega
 ·have:=hent i (by rw [← h.lt]; exact hi)
  simp only [Krk,inB,Bool.and_eq_true,decide_eq_true_eq,List.getD_eq_getElem?_getD,List.getElem?_eq_getElem hi,Option.getD_some] at this
  omega
end
def Krr (s:K00):Bool:=inB s.fSize 2 16 && !((s.fPlus.length:Int) != (wr (s.fSize * s.fSize))) && !((s.fTimes.length:Int) != (wr (s.fSize * s.fSize))) && !((s.fBelow.length:Int) != (wr (s.fSize * s.fSize)))
theorem Krs {s:K00} (h:Krr s=true):Krj s s.fSize.toNat:=by
 unfold Krr at h
 simp only [Bool.and_eq_true,Bool.not_eq_true',inB,decide_eq_true_eq,bne_eq_false_iff_eq] at h
 obtain ⟨⟨⟨⟨h1,h2⟩,h3⟩,h4⟩,h5⟩:=h
 obtain ⟨n,hn⟩:∃ n:Nat,s.fSize=(n:Int):=⟨s.fSize.toNat,by omega⟩
 rw [hn] at h1 h2 h3 h4 h5 ⊢
 have h256:n * n ≤ 256:=Nat.le_trans (Nat.mul_le_mul (by omega:n ≤ 16) (by omega:n ≤ 16)) (by decide)
 have e:(n:Int) * (n:Int)=((n * n:Nat):Int):=by simp
 rw [e] at h3 h4 h5
 generalize hm:n * n=m at *
 rw [Knw (by omega) (by omega)] at h3 h4 h5
 rw [Int.toNat_natCast]
 exact ⟨hn,by omega,by omega,by omega,by omega,by omega⟩
def Krt (s:K00):Bool:=Krr s && (List.range' 0 (s.fSize.toNat * s.fSize.toNat)).all (Krk s s.fSize.toNat) && Kp6 s s.fSize.toNat
theorem Kru {s:K00} (h:Krt s=true):Tab s s.fSize.toNat:=by
 unfold Krt at h
 simp only [Bool.and_eq_true] at h
 exact Krq (Krs h.1.1) h.1.2
theorem Krv (s:K00):Kar s=some (Krt s):=by
 unfold Kar K9e Krt
 rw [sIn]
 cases hf:Krr s with
 | false =>
  unfold Krr at hf
  cases h1:inB s.fSize 2 16 <;> cases h2:((s.fPlus.length:Int) != (wr (s.fSize * s.fSize))) <;> cases h3:((s.fTimes.length:Int) != (wr (s.fSize * s.fSize))) <;> cases h4:((s.fBelow.length:Int) != (wr (s.fSize * s.fSize))) <;> simp_all [bs]
 | true =>
  have F:=Krs hf
  have hl:=Kro F (s.fSize.toNat * s.fSize.toNat) 0 (by omega)
  rw [show ((0:Nat):Int)=0 from rfl] at hl
  unfold Krr at hf
  simp only [Bool.and_eq_true,Bool.not_eq_true'] at hf
  obtain ⟨⟨⟨h1,h2⟩,h3⟩,h4⟩:=hf
  cases he:(List.range' 0 (s.fSize.toNat * s.fSize.toNat)).all (Krk s s.fSize.toNat) with
  | false=>rw [he] at hl; simp [bs,h1,h2,h3,h4,hl]
  | true =>
   have T:=Krq F he
   have hl2:=Kpb T s.fSize.toNat 0 (by omega)
   rw [show ((0:Nat):Int)=0 from rfl] at hl2
   rw [he] at hl
   have hm:(List.range' 0 s.fSize.toNat).all (fun a=>Koq s s.fSize.toNat a && (List.range' 0 s.fSize.toNat).all fun b=>Kp3 s s.fSize.toNat a b && (List.range' 0 s.fSize.toNat).all fun c=>Kor s s.fSize.toNat a b c)=Kp6 s s.fSize.toNat:=rfl
   rw [hm] at hl2
   cases hs:Kp6 s s.fSize.toNat <;> rw [hs] at hl2 <;> simp [bs,h1,h2,h3,h4,hl,hl2]
theorem Krw (s:K00):Kga s=some (Krt s):=by
 unfold Kga Krt
 rw [iIn]
 cases hf:Krr s with
 | false =>
  unfold Krr at hf
  cases h1:inB s.fSize 2 16 <;> cases h2:((s.fPlus.length:Int) != (wr (s.fSize * s.fSize))) <;> cases h3:((s.fTimes.length:Int) != (wr (s.fSize * s.fSize))) <;> cases h4:((s.fBelow.length:Int) != (wr (s.fSize * s.fSize))) <;> simp_all [bs]
 | true =>
  have F:=Krs hf
  have hl:=Krp F (s.fSize.toNat * s.fSize.toNat) 0 (by omega)
  rw [show ((0:Nat):Int)=0 from rfl] at hl
  unfold Krr at hf
  simp only [Bool.and_eq_true,Bool.not_eq_true'] at hf
  obtain ⟨⟨⟨h1,h2⟩,h3⟩,h4⟩:=hf
  cases he:(List.range' 0 (s.fSize.toNat * s.fSize.toNat)).all (Krk s s.fSize.toNat) with
  | false=>rw [he] at hl; simp [bs,h1,h2,h3,h4,hl]
  | true =>
   have T:=Krq F he
   have hl2:=Kpc T s.fSize.toNat 0 (by omega)
   rw [show ((0:Nat):Int)=0 from rfl] at hl2
   rw [he] at hl
   have hm:(List.range' 0 s.fSize.toNat).all (fun a=>Koq s s.fSize.toNat a && (List.range' 0 s.fSize.toNat).all fun b=>Kp3 s s.fSize.toNat a b && (List.range' 0 s.fSize.toNat).all fun c=>Kor s s.fSize.toNat a b c)=Kp6 s s.fSize.toNat:=rfl
   rw [hm] at hl2
   cases hs:Kp6 s s.fSize.toNat <;> rw [hs] at hl2 <;> simp [bs,h1,h2,h3,h4,hl,hl2]
section
variable {s:K00} {n:Nat} (h:Tab s n)
include h
theorem Krx:wr (s.fSize - 1)=(n:Int) - 1:=by
 have:=h.lo; have:=h.hi
 rw [h.size,Knw (by omega) (by omega)]
end
inductive Ty where
 | num
 | bin (c:Int) (a b:Ty)
 | un (c:Int) (a:Ty)
namespace Ty
def code:Ty→List Int
 | num=>[0]
 | bin c a b=>c :: (a.code ++ b.code)
 | un c a=>c :: a.code
def ok:Ty→Prop
 | num=>True
 | bin c a b=>Kph c=2∧a.ok∧b.ok
 | un c a=>Kph c=1∧a.ok
def kids:Ty→List Ty
 | num=>[]
 | bin _ a b=>[a,b]
 | un _ a=>[a]
def hd:Ty→Int
 | num=>0
 | bin c _ _=>c
 | un c _=>c
end Ty
def Kry:List Ty→List Int
 | []=>[]
 | t :: l=>t.code ++ Kry l
theorem Krz (T:Ty):T.code=T.hd :: Kry T.kids:=by cases T <;> simp [Ty.code,Ty.hd,Ty.kids,Kry]
theorem Ks0 (T:Ty):1 ≤ T.code.length:=by rw [Krz]; simp
theorem Ks1 (T:Ty):∀ (m:Nat) (l:List Int),T.ok→skip (m + 1) (T.code ++ l)=skip m l:=by
 induction T with
 | num =>
  intro m l _
  rw [Ty.code,List.singleton_append,Kpr,show Kph 0=0 from rfl,if_neg (by decide)]; rfl
 | bin c a b iha ihb =>
  intro m l h
  rw [Ty.code,List.cons_append,Kpr,h.1,if_neg (by decide),List.append_assoc,show m + (2:Int).toNat=(m + 1) + 1 from rfl,iha _ _ h.2.1,ihb _ _ h.2.2]
 | un c a ih =>
  intro m l h
  rw [Ty.code,List.cons_append,Kpr,h.1,if_neg (by decide),show m + (1:Int).toNat=m + 1 from rfl,ih _ _ h.2]
theorem Ks2 (l:List Int):∀ (m:Nat) (r:List Int),skip m l=some r→∃ Ts:List Ty,Ts.length=m∧(∀ T ∈ Ts,T.ok)∧l=Kry Ts ++ r:=by
 induction l with
 | nil =>
  intro m r h
  cases m with
  | zero=>rw [Kpp] at h; cases h; exact ⟨[],rfl,fun _ h=>(by cases h),rfl⟩
  | succ m=>rw [Kpq] at h; cases h
 | cons c l ih =>
  intro m r h
  cases m with
  | zero=>rw [Kpp] at h; cases h; exact ⟨[],rfl,fun _ h=>(by cases h),rfl⟩
  | succ m =>
   rw [Kpr] at h
   by_cases hk:Kph c=-1
   ·rw [if_pos hk] at h; cases h
   ·rw [if_neg hk] at h
    obtain ⟨Ts,h1,h2,h3⟩:=ih _ _ h
    rcases Kpl c with ⟨q,e⟩ | ⟨q,e⟩ | ⟨q,e⟩ | ⟨q,e⟩
    ·subst q
     rw [e] at h1
     exact ⟨.num :: Ts,by simpa using h1,fun T hT=>by rcases List.mem_cons.1 hT with rfl | hT; exact trivial; exact h2 T hT,by rw [h3]; rfl⟩
    ·rw [e] at h1
     match Ts,h1 with
     | a :: b :: Ts,h1 =>
      refine ⟨.bin c a b :: Ts,by simpa using h1,fun T hT=>?_,by rw [h3]; simp [Kry,Ty.code]⟩
      rcases List.mem_cons.1 hT with rfl | hT
      ·exact ⟨e,h2 a List.mem_cons_self,h2 b (List.mem_cons_of_mem _ List.mem_cons_self)⟩
      ·exact h2 T (List.mem_cons_of_mem _ (List.mem_cons_of_mem _ hT))
     | [_],h1=>exact absurd h1 (by simp)
     | [],h1=>exact absurd h1 (by simp)
    ·rw [e] at h1
     match Ts,h1 with
     | a :: Ts,h1 =>
      refine ⟨.un c a :: Ts,by simpa using h1,fun T hT=>?_,by rw [h3]; simp [Kry,Ty.code]⟩
      rcases List.mem_cons.1 hT with rfl | hT
      ·exact ⟨e,h2 a List.mem_cons_self⟩
      ·exact h2 T (List.mem_cons_of_mem _ hT)
     | [],h1=>exact absurd h1 (by simp)
    ·exact absurd e hk
theorem Ks3 {ty:List Int} (h:wtB ty=true):∃ T:Ty,T.ok∧ty=T.code∧ty.length ≤ 40:=by
 have hl:=Krd h
 unfold wtB at h
 rw [Bool.and_eq_true,beq_iff_eq] at h
 obtain ⟨Ts,h1,h2,h3⟩:=Ks2 _ _ _ h.2
 match Ts,h1 with
 | [T],_=>exact ⟨T,h2 T List.mem_cons_self,by rw [h3]; simp [Kry],hl⟩
theorem Ks4 {T:Ty} (h:T.ok) (hl:T.code.length ≤ 40):wtB T.code=true:=by
 unfold wtB
 have:=Ks1 T 0 [] h
 rw [List.append_nil,Kpp] at this
 rw [decide_eq_true hl,show (1:Nat)=0 + 1 from rfl,this]; rfl
theorem Ks5 {T:Ty} (h:T.ok):∀ K ∈ T.kids,K.ok:=by
 intro K hK
 cases T with
 | num=>cases hK
 | bin c a b=>rcases List.mem_cons.1 hK with rfl | hK; exact h.2.1; rw [List.mem_singleton.1 hK]; exact h.2.2
 | un c a=>rw [List.mem_singleton.1 hK]; exact h.2
theorem Ks6 {pre:List Int} {T:Ty} {post:List Int} (h:T.ok):Kpu (pre ++ (T.code ++ post)) 1 pre.length=((pre.length + T.code.length:Nat):Int):=by
 unfold Kpu
 rw [List.drop_left,show (1:Nat)=0 + 1 from rfl,Ks1 T 0 post h,Kpp]
 simp only [List.length_append]
 omega
theorem Ks7 {α:Type} (p m q:List α) (mx:Option Int) (hmx:mx=none∨mx=some ((p.length + m.length:Nat):Int)):cut (p ++ (m ++ q)) (some (p.length:Int)) (some ((p.length + m.length:Nat):Int)) mx=some m:=by
 unfold cut
 have e:((p ++ (m ++ q)).take (p.length + m.length)).drop p.length=m:=by
  rw [← List.append_assoc,← List.length_append,List.take_left,List.drop_left]
 rw [if_pos]
 ·simp only [Option.getD_some,Int.toNat_natCast,e]
 ·rcases hmx with rfl | rfl <;> simp only [Option.getD_some,Option.getD_none,List.length_append] <;> omega
theorem Ks8 {α:Type} (p q:List α):cut (p ++ q) (some (p.length:Int)) none none=some q:=by
 unfold cut
 rw [if_pos]
 ·simp only [Option.getD_some,Option.getD_none,Int.toNat_natCast,List.take_length,List.drop_left]
 ·simp only [Option.getD_some,Option.getD_none,List.length_append]; omega
theorem Ks9 (Ks:List Ty):∀ (pre:List Int) (out:List (List Int)),(∀ K ∈ Ks,K.ok)→(pre ++ Kry Ks).length ≤ 1099511627776→out.length + Ks.length ≤ 1099511627776→Khu (pre ++ Kry Ks,out,(pre.length:Int))=some (out ++ Ks.map Ty.code):=by
 induction Ks with
 | nil =>
  intro pre out hk hl ho
  rw [show Kry []=[] from rfl,List.append_nil,Khu.eq_def]
  simp only
  rw [Ko0 (Nat.le_refl _)]; simp
 | cons K Ks ih =>
  intro pre out hk hl ho
  have hK:=hk K List.mem_cons_self
  have hp:=Ks0 K
  rw [show Kry (K :: Ks)=K.code ++ Kry Ks from rfl] at hl ⊢
  rw [List.length_cons] at ho
  rw [Khu.eq_def]
  simp only
  rw [Knz (by simp only [List.length_append]; omega),if_pos rfl,Kpy _ hl _ pre.length rfl,Ks6 hK,bs,Ks7 _ _ _ _ (.inr rfl),bs,Krf (by simp only [List.length_singleton]; omega),bs]
  have:=ih (pre ++ K.code) (out ++ [K.code]) (fun K hK=>hk K (List.mem_cons_of_mem _ hK)) (by rw [List.append_assoc]; exact hl) (by simp; omega)
  rw [List.append_assoc,List.length_append] at this
  rw [this,List.map_cons,List.append_assoc]; rfl
theorem Ksa {T:Ty} (h:T.ok) (hl:T.code.length ≤ 1048576):Khx T.code=some (T.kids.map Ty.code):=by
 unfold Khx
 have hk:T.kids.length ≤ 2:=by cases T <;> simp [Ty.kids]
 have e:[T.hd] ++ Kry T.kids=T.code:=(Krz T).symm
 have:=Ks9 T.kids [T.hd] [] (Ks5 h) (by rw [e]; omega) (by simp only [List.length_nil]; omega)
 rw [e] at this
 rw [show (1:Int)=(([T.hd].length:Nat):Int) from rfl,this,bs]; rfl
theorem Ksb {c:Int} {a:Ty} {r:List Int} (ha:a.ok) (hl:(c :: (a.code ++ r)).length ≤ 1099511627776):Kds (c :: (a.code ++ r),0)=some a.code:=by
 unfold Kds
 simp only
 have e:=Ks6 (pre:=[c]) (post:=r) ha
 have h1:=Kpw (c :: (a.code ++ r)) hl 1 (by simp)
 rw [show (((1:Nat)):Int)=1 from rfl] at h1
 rw [List.length_singleton] at e
 have e':Kpu (c :: (a.code ++ r)) 1 1=((1 + a.code.length:Nat):Int):=e
 rw [h1,bs,e',if_pos (by rfl)]
 have h2:=Ks7 [c] a.code r none (.inl rfl)
 rw [List.length_singleton] at h2
 have h2':cut (c :: (a.code ++ r)) (some 1) (some ((1 + a.code.length:Nat):Int)) none=some a.code:=h2
 simp only [List.length_cons,List.length_append] at hl
 rw [h2',bs,Krh _ (by omega),bs]
theorem Ksc {c:Int} {a:Ty} {r:List Int} (ha:a.ok) (hl:(c :: (a.code ++ r)).length ≤ 1099511627776):Kds (c :: (a.code ++ r),1)=some r:=by
 unfold Kds
 simp only
 have e:=Ks6 (pre:=[c]) (post:=r) ha
 have h1:=Kpw (c :: (a.code ++ r)) hl 1 (by simp)
 rw [show (((1:Nat)):Int)=1 from rfl] at h1
 rw [List.length_singleton] at e
 have e':Kpu (c :: (a.code ++ r)) 1 1=((1 + a.code.length:Nat):Int):=e
 rw [h1,bs,e',if_neg (by decide)]
 have h2:=Ks8 (c :: a.code) r
 rw [List.length_cons,List.cons_append,Nat.add_comm] at h2
 simp only [List.length_cons,List.length_append] at hl
 rw [h2,bs,Krh _ (by omega),bs]
def Ksd (s:K00) (g:Int):Bool:=inB g 0 (wr (s.fSize - 1))
theorem Kse (s:K00) (g:Int):Kf2 (s,g)=some (Ksd s g):=by
 unfold Kf2 Ksd
 simp only
 rw [iIn,bs]
def Ksf (s:K00) (c:Int):Bool:=!(((Kpm c).1 == 3 || (Kpm c).1 == 4) && !Ksd s (Kpm c).2)
def Ksg (s:K00) (ty:List Int):Bool:=wtB ty && ty.all (Ksf s)
theorem Ksh (s:K00) (ty:List Int) (hty:ty.length ≤ 1099511627776):∀ (l:List Int) (i:Nat),ty.drop i=l→Kgn (s,ty,(i:Int))=some (if l.all (Ksf s) then .inl () else .inr false):=by
 intro l
 induction l with
 | nil =>
  intro i hd
  rw [Kgn.eq_def]
  simp only
  rw [Ko0 (Kpe hd)]; rfl
 | cons c l ih =>
  intro i hd
  obtain ⟨hi,hx,hd'⟩:=Kpd hd
  rw [Kgn.eq_def]
  simp only
  rw [Knz hi,if_pos rfl,hx,bs,Kpn,bs,Kny (by omega),ih (i + 1) hd',List.all_cons]
  unfold Ksf
  rcases Kpm c with ⟨a,b⟩
  simp only [Kse,bs]
  cases a == 3 <;> cases a == 4 <;> cases Ksd s b <;> simp [bs]
theorem Ksi (s:K00) (ty:List Int) (hty:ty.length ≤ 1099511627776):Kgq (s,ty)=some (Ksg s ty):=by
 unfold Kgq Ksg
 simp only
 rw [Kq1 ty hty,bs]
 cases wtB ty
 ·rfl
 ·rw [if_pos rfl,show (0:Int)=((0:Nat):Int) from rfl,Ksh s ty hty _ 0 rfl,List.drop_zero,bs]
  cases ty.all (Ksf s) <;> rfl
theorem Ksj {s:K00} {n:Nat} (h:Tab s n) (g:Int):Ksd s g=inB g 0 ((n:Int) - 1):=by
 unfold Ksd; rw [Krx h]
theorem Ksk {s:K00} {n:Nat} (h:Tab s n) {c:Int}:Ksf s c=Kq3 s.fSize true c:=by
 unfold Ksf Kq3 Kq2
 have hn:=h.lo
 rw [Ksj h,h.size]
 rcases Kpo c with ⟨q,e⟩ | ⟨q,e⟩ | ⟨q,e⟩ | ⟨q,e⟩ | ⟨q,e⟩ | ⟨q,e⟩ | ⟨q,e⟩ | ⟨q,e⟩ <;> rw [e]
 ·subst q; rfl
 ·subst q; rfl
 ·subst q; rfl
 ·have hk:Kph c=2:=by rcases Kpl c with h | h | h | h <;> omega
  rw [hk,if_neg (by omega),if_neg (by omega),decide_eq_true (by omega:c > 2)]
  unfold inB
  rw [decide_eq_true (by omega:c - 3 ≥ 0),decide_eq_false (by omega:¬ c - 3 < 0)]
  by_cases hc:c - 3 ≤ (n:Int) - 1
  ·rw [decide_eq_true hc,decide_eq_false (by omega:¬ c - 3 ≥ (n:Int))]; rfl
  ·rw [decide_eq_false hc,decide_eq_true (by omega:c - 3 ≥ (n:Int))]; rfl
 ·subst q; unfold inB; simp [Kph,Kpf,Kpg,inB]
 ·have hk:Kph c=1:=by rcases Kpl c with h | h | h | h <;> omega
  rw [hk,if_neg (by omega),if_pos (by omega),decide_eq_true (by omega:c > 2)]
  unfold inB
  rw [decide_eq_true (by omega:c - 19 ≥ 0),decide_eq_false (by omega:¬ c - 19 < 0)]
  by_cases hc:c - 19 ≤ (n:Int) - 1
  ·rw [decide_eq_true hc,decide_eq_false (by omega:¬ c - 19 ≥ (n:Int))]; rfl
  ·rw [decide_eq_false hc,decide_eq_true (by omega:c - 19 ≥ (n:Int))]; rfl
 ·subst q; unfold inB; simp [Kph,Kpf,Kpg,inB]
 ·have hk:Kph c=-1:=by rcases Kpl c with h | h | h | h <;> omega
  rw [hk]; simp
theorem Ksl {s:K00} {n:Nat} (h:Tab s n) (ty:List Int):Ksg s ty=yN s.fSize true ty:=by
 unfold Ksg yN
 rw [show Ksf s=Kq3 s.fSize true from funext fun c=>Ksk h]
theorem Ksm {α:Type} (x:α) (l:List α):idx (x :: l) 0=some x:=rfl
theorem Ksn {a b:Nat} (ha:a ≤ 1099511627776) (hb:b ≤ 1099511627776):wr ((a:Int) + (b:Int))=((a + b:Nat):Int):=by rw [Knw (by omega) (by omega)]; omega
theorem Kso (a:List Bool) (left:Int) (h1:0 ≤ left) (h2:left ≤ 1048576) (ha:a.length ≤ 9223372036854775807):K7k (a,left)=some (szB left a.length):=by
 unfold K7k szB
 simp only
 rw [Knw (by omega) (by omega)]
 by_cases h:left - (a.length:Int) < 0
 ·rw [decide_eq_true h,if_pos rfl,if_pos h]
 ·rw [decide_eq_false h,if_neg (by decide),if_neg h]
def sln (s:K00):Prop:=s.fPlus.length ≤ 9223372036854775807∧s.fTimes.length ≤ 9223372036854775807∧s.fBelow.length ≤ 9223372036854775807
def sms (s:K00):Nat:=s.fPlus.length + s.fTimes.length + s.fBelow.length
theorem Ksp (s:K00) (left:Int) (hs:sln s) (h1:0 ≤ left) (h2:left ≤ 1048576):K7n (s,left)=some (szB left (sms s)):=by
 obtain ⟨l1,l2,l3⟩:=hs
 unfold K7n sms
 simp only
 rw [Kr5 _ _ h1 h2 l1,bs]
 rcases Kr4 left s.fPlus.length with ⟨e,hl⟩ | ⟨e,hl⟩
 ·rw [e,decide_eq_true (by decide),if_pos rfl]; unfold szB; rw [if_pos (by omega)]
 ·rw [e,decide_eq_false (by omega),if_neg (by decide),Kr5 _ _ (by omega) (by omega) l2,bs]
  rcases Kr4 (left - (s.fPlus.length:Int)) s.fTimes.length with ⟨e2,hl2⟩ | ⟨e2,hl2⟩
  ·rw [e2,decide_eq_true (by decide),if_pos rfl]; unfold szB; rw [if_pos (by omega)]
  ·rw [e2,decide_eq_false (by omega),if_neg (by decide),Kso _ _ (by omega) (by omega) l3,bs]
   rcases Kr4 (left - (s.fPlus.length:Int) - (s.fTimes.length:Int)) s.fBelow.length with ⟨e3,hl3⟩ | ⟨e3,hl3⟩
   ·rw [e3,decide_eq_true (by decide),if_pos rfl]; unfold szB; rw [if_pos (by omega)]
   ·rw [e3,decide_eq_false (by omega),if_neg (by decide)]; unfold szB; rw [if_neg (by omega)]; congr 1; omega
theorem Ksq {s:K00} (h:sms s ≤ 1048576):K8m s=some s:=by unfold sms at h; exact Kob s (by omega) (by omega) (by omega)
theorem Ksr {s:K00} (h:sms s ≤ 1048576):Km0 (s,s)=some true:=by unfold sms at h; exact Koc s (by omega) (by omega) (by omega)
theorem Kss:∀ (l a:List Int) (i k:Nat),a.drop i=l→a.length ≤ 1099511627776→k + l.length ≤ 1152921504606846976 + 1099511627776 →
  ∃ M,Kmm (a,(k:Int),(i:Int))=some (((k + l.length:Nat):Int),M)∧M.length=a.length∧M.take i=a.take i∧M.drop i=(List.range' k l.length).map (fun n:Nat=>(n:Int)):=by
 intro l
 induction l with
 | nil =>
  intro a i k hd ha hk
  rw [Kmm.eq_def]
  simp only
  rw [Ko0 (Kpe hd)]
  exact ⟨a,by simp,rfl,rfl,by rw [hd]; rfl⟩
 | cons x l ih =>
  intro a i k hd ha hk
  obtain ⟨hi,hx,hd'⟩:=Kpd hd
  have hl:(x :: l).length ≤ 1099511627776:=by rw [← hd,List.length_drop]; omega
  rw [List.length_cons] at hl hk
  rw [Kmm.eq_def]
  simp only
  rw [Knz hi,if_pos rfl,hx,bs,Int.toNat_natCast,Kny (by omega),Kny (by omega)]
  obtain ⟨M,h1,h2,h3,h4⟩:=ih (a.set i (k:Int)) (i + 1) (k + 1) (by rw [List.drop_set_of_lt (by omega)]; exact hd') (by simpa using ha) (by omega)
  have hMl:i < M.length:=by rw [h2,List.length_set]; exact hi
  have hMi:M[i]=(k:Int):=by
   have:=congrArg (fun l=>l[i]?) h3
   simp only [List.getElem?_take] at this
   rw [if_pos (by omega),if_pos (by omega),List.getElem?_eq_getElem hMl,List.getElem?_set_self hi] at this
   exact Option.some.inj this
  refine ⟨M,by rw [h1,List.length_cons]; congr 3; omega,by simpa using h2,?_,?_⟩
  ·have:=congrArg (List.take i) h3
   rw [List.take_take,List.take_take,Nat.min_eq_left (by omega),List.take_set_of_le (Nat.le_refl i)] at this
   exact this
  ·rw [List.drop_eq_getElem_cons hMl,h4,hMi,List.length_cons,List.range'_succ,List.map_cons]
theorem Kst (a:List Int) (k:Nat) (ha:a.length ≤ 1099511627776) (hk:k ≤ 1152921504606846976) :
  Kmp (a,(k:Int))=some (((k + a.length:Nat):Int),(List.range' k a.length).map (fun n:Nat=>(n:Int))):=by
 unfold Kmp
 simp only
 obtain ⟨M,h1,h2,h3,h4⟩:=Kss a a 0 k rfl ha (by omega)
 rw [List.drop_zero] at h4
 rw [show (0:Int)=((0:Nat):Int) from rfl,h1,bs,h4]
theorem Ksu (m:Nat):∀ (n k i:Nat) (a:List Int),a.length ≤ 1099511627776→a.drop i=(List.range' k n).map (fun n:Nat=>(n:Int))→k + n ≤ 1152921504606846976 + 1099511627776→Knl (a,(k:Int),(i:Int))=some (.inl ((k + n:Nat):Int)):=by
 intro n
 induction n with
 | zero =>
  intro k i a ha hd hk
  rw [Knl.eq_def]
  simp only
  rw [Ko0 (Kpe hd)]; rfl
 | succ n ih =>
  intro k i a ha hd hk
  rw [List.range'_succ,List.map_cons] at hd
  obtain ⟨hi,hx,hd'⟩:=Kpd hd
  rw [Knl.eq_def]
  simp only
  rw [Knz hi,if_pos rfl,hx,bs,Ko6,if_neg (by decide),Kny (by omega),Kny (by omega),ih (k + 1) (i + 1) a ha hd' (by omega)]
  congr 3; omega
theorem Ksv (n k:Nat) (hn:n ≤ 1099511627776) (hk:k ≤ 1152921504606846976):Kno ((List.range' k n).map (fun n:Nat=>(n:Int)),(k:Int))=some ((k + n:Nat):Int):=by
 unfold Kno
 simp only
 rw [show (0:Int)=((0:Nat):Int) from rfl,Ksu 0 n k 0 _ (by simpa using hn) (by rw [List.drop_zero]) (by omega),bs]
mutual
def mct:K01→Nat
 | ⟨_,_,ty,ks⟩=>ty.length + Ksw ks
def Ksw:List K01→Nat
 | []=>0
 | k :: ks=>2 + mct k + Ksw ks
end
mutual
theorem Ksx:∀ (t:K01),mct t ≤ 2 * tms t
 | ⟨op,N,ty,ks⟩=>by rw [mct,tms]; have:=Ksy ks; omega
theorem Ksy:∀ (ks:List K01),Ksw ks ≤ 2 * (ks.length + Kq9 ks)
 | []=>by simp [Ksw]
 | k :: ks=>by rw [Ksw,Kq9,List.length_cons]; have:=Ksx k; have:=Ksy ks; omega
end
theorem Ksz {α:Type} (l:List α) (i:Nat) (a b:α):(l.set i a).set i b=l.set i b:=List.set_set ..
theorem Kt0 {α:Type} {l:List α} {i:Nat} (h:i < l.length) (a:α):idx (l.set i a) (i:Int)=some a:=by
 rw [Knx (by simpa using h)]; simp
mutual
theorem Kt1:∀ (t:K01) (k:Nat),tms t ≤ 1099511627776→k + mct t ≤ 1152921504606846976→∃ ks,Kna (t.fKids,((k + t.fType.length:Nat):Int))=some (((k + mct t:Nat):Int),ks)
 | ⟨op,N,ty,ks⟩,k,hm,hk=>by
  rw [tms] at hm
  rw [mct] at hk ⊢
  simp only
  obtain ⟨M,h1⟩:=Kt2 ks ks 0 (k + ty.length) rfl (by omega) (by omega) (by omega)
  refine ⟨M,?_⟩
  rw [Kna.eq_def]
  simp only
  rw [show (0:Int)=((0:Nat):Int) from rfl,h1,bs,Nat.add_assoc]
theorem Kt2:∀ (ks a:List K01) (i k:Nat),a.drop i=ks→a.length ≤ 1099511627776→Kq9 ks ≤ 1099511627776→k + Ksw ks ≤ 1152921504606846976 →
  ∃ M,Knb (a,(k:Int),(i:Int))=some (((k + Ksw ks:Nat):Int),M)
 | [],a,i,k,hd,ha,hm,hk=>by
  rw [Knb.eq_def,Ksw]
  simp only
  rw [Ko0 (Kpe hd)]
  exact ⟨a,rfl⟩
 | x :: ks,a,i,k,hd,ha,hm,hk=>by
  obtain ⟨hi,hx,hd'⟩:=Kpd hd
  rw [Kq9] at hm
  rw [Ksw] at hk ⊢
  rw [Knb.eq_def]
  simp only
  rw [Knz hi,if_pos rfl,hx,bs,Kny (n:=k) (by omega),Kny (n:=k + 1) (by omega),Int.toNat_natCast]
  obtain ⟨kk,m2⟩:=Kt1 x (k + 1 + 1) (by omega) (by omega)
  have m1:=Kst x.fType (k + 1 + 1) (by have:=Kqa x; omega) (by omega)
  simp only [Ksz,Kt0 hi,bs,m1,m2]
  rw [Kny (by omega)]
  obtain ⟨M,h1⟩:=Kt2 ks (a.set i ⟨(k:Int),((k + 1:Nat):Int),(List.range' (k + 1 + 1) x.fType.length).map (fun n:Nat=>(n:Int)),kk⟩) (i + 1) (k + 1 + 1 + mct x) (by rw [List.drop_set_of_lt (by omega)]; exact hd') (by simpa using ha) (by omega) (by omega)
  exact ⟨M,by rw [h1]; congr 3; omega⟩
end
theorem Kt3 (t:K01) (k:Nat) (hm:tms t ≤ 1099511627776) (hk:k ≤ 1000000000000000000):∃ M,Knh (t,(k:Int))=some (((k + mct t:Nat):Int),M):=by
 have hc:=Ksx t
 obtain ⟨ks,m2⟩:=Kt1 t k hm (by omega)
 unfold Knh
 simp only
 rw [Kst t.fType k (by have:=Kqa t; omega) (by omega),bs]
 simp only
 rw [m2,bs]
 exact ⟨_,rfl⟩
theorem Kt4 (b:Bool):(!(b == b))=false:=by cases b <;> rfl
def lct:List (List Int)→Nat
 | []=>0
 | x :: l=>x.length + lct l
def lok (l:List (List Int)):Prop:=l.length ≤ 1099511627776∧lct l ≤ 1099511627776
theorem Kt5 {l:List (List Int)} {x:List Int} (h:x ∈ l):x.length ≤ lct l:=by
 induction l with
 | nil=>cases h
 | cons y l ih =>
  rw [lct]
  rcases List.mem_cons.1 h with rfl | h
  ·omega
  ·have:=ih h; omega
theorem Kt6 (a:List (List Int)) (ha:a.length ≤ 1099511627776):∀ (l:List (List Int)) (i:Nat),a.drop i=l→lct l ≤ 1099511627776→Km4 (a,a,(i:Int))=some (.inl ()):=by
 intro l
 induction l with
 | nil =>
  intro i hd _
  rw [Km4.eq_def]
  simp only
  rw [Ko0 (Kpe hd)]; rfl
 | cons x l ih =>
  intro i hd hl
  obtain ⟨hi,hx,hd'⟩:=Kpd hd
  rw [lct] at hl
  rw [Km4.eq_def]
  simp only
  rw [Knz hi,if_pos rfl,hx,bs,bs,Ko8 x (by omega),bs,if_pos rfl,Kny (by omega),ih (i + 1) hd' (by omega)]
theorem Kt7 (a:List (List Int)) (h:lok a):Km7 (a,a)=some true:=by
 unfold Km7
 simp only
 rw [Ko6,if_neg (by decide),show (0:Int)=((0:Nat):Int) from rfl,Kt6 a h.1 a 0 rfl h.2]; rfl
theorem Kt8:∀ (l a:List (List Int)) (i k:Nat),a.drop i=l→a.length ≤ 1099511627776→lct l ≤ 1099511627776→k + lct l ≤ 1152921504606846976→∃ M,Kn3 (a,(k:Int),(i:Int))=some (((k + lct l:Nat):Int),M):=by
 intro l
 induction l with
 | nil =>
  intro a i k hd ha hl hk
  rw [Kn3.eq_def,lct]
  simp only
  rw [Ko0 (Kpe hd)]
  exact ⟨a,rfl⟩
 | cons x l ih =>
  intro a i k hd ha hl hk
  obtain ⟨hi,hx,hd'⟩:=Kpd hd
  rw [lct] at hl hk ⊢
  rw [Kn3.eq_def]
  simp only
  rw [Knz hi,if_pos rfl,hx,bs,Kst x k (by omega) (by omega),bs,Kny (by omega),Int.toNat_natCast]
  simp only
  obtain ⟨M,h1⟩:=ih (a.set i ((List.range' k x.length).map (fun n:Nat=>(n:Int)))) (i + 1) (k + x.length) (by rw [List.drop_set_of_lt (by omega)]; exact hd') (by simpa using ha) (by omega) (by omega)
  exact ⟨M,by rw [h1]; congr 3; omega⟩
theorem Kt9 (a:List (List Int)) (k:Nat) (h:lok a) (hk:k ≤ 1000000000000000000):∃ M,Kn6 (a,(k:Int))=some (((k + lct a:Nat):Int),M):=by
 have:=h.2
 obtain ⟨M,h1⟩:=Kt8 a a 0 k rfl h.1 h.2 (by omega)
 refine ⟨M,?_⟩
 unfold Kn6
 simp only
 rw [show (0:Int)=((0:Nat):Int) from rfl,h1,bs]
theorem Kta {α:Type} (x:α) (l:List α):cut (x :: l) (some 1) none none=some l:=Ks8 [x] l
theorem Ktb {a:Int}:(a == a)=true:=by simp
structure Ktc (c:Int) (a b:Ty):Prop where
 p0:Kds (c :: (a.code ++ b.code),0)=some a.code
 p1:Kds (c :: (a.code ++ b.code),1)=some b.code
 pp:Khx (c :: (a.code ++ b.code))=some [a.code,b.code]
 ok:a.ok∧b.ok
 la:a.code.length + b.code.length + 1 ≤ 1048576
theorem Ktd {c:Int} {a b:Ty} (h:(Ty.bin c a b).ok) (hl:(Ty.bin c a b).code.length ≤ 1048576):Ktc c a b:=by
 have hl':=hl
 rw [Ty.code] at hl'
 have h3:=Ksa h hl
 rw [Ty.kids,List.map_cons,List.map_cons,List.map_nil,Ty.code] at h3
 refine ⟨Ksb h.2.1 (by omega),Ksc h.2.1 (by omega),h3,h.2,?_⟩
 rw [List.length_cons,List.length_append] at hl'
 omega
structure UnP (c:Int) (a:Ty):Prop where
 p0:Kds (c :: a.code,0)=some a.code
 pp:Khx (c :: a.code)=some [a.code]
 ok:a.ok
 la:a.code.length + 1 ≤ 1048576
theorem unP {c:Int} {a:Ty} (h:(Ty.un c a).ok) (hl:(Ty.un c a).code.length ≤ 1048576):UnP c a:=by
 have hl':=hl
 rw [Ty.code] at hl'
 have h3:=Ksa h hl
 rw [Ty.kids,List.map_cons,List.map_nil,Ty.code] at h3
 have h4:=Ksb (c:=c) (r:=[]) h.2 (by rw [List.append_nil]; omega)
 rw [List.append_nil] at h4
 refine ⟨h4,h3,h.2,?_⟩
 rw [List.length_cons] at hl'
 omega
theorem Kte:∀ (l a:List Bool) (i k:Nat),a.drop i=l→a.length ≤ 1099511627776→k + l.length ≤ 1152921504606846976 + 1099511627776→∃ M,Kmt (a,(k:Int),(i:Int))=some (((k + l.length:Nat):Int),M):=by
 intro l
 induction l with
 | nil =>
  intro a i k hd ha hk
  rw [Kmt.eq_def]
  simp only
  rw [Ko0 (Kpe hd)]
  exact ⟨a,rfl⟩
 | cons x l ih =>
  intro a i k hd ha hk
  obtain ⟨hi,hx,hd'⟩:=Kpd hd
  have hl:(x :: l).length ≤ 1099511627776:=by rw [← hd,List.length_drop]; omega
  rw [List.length_cons] at hl hk
  rw [Kmt.eq_def]
  simp only
  rw [Knz hi,if_pos rfl,hx,bs,Int.toNat_natCast,Kny (by omega),Kny (by omega)]
  obtain ⟨M,h1⟩:=ih (a.set i (Int.tmod (k:Int) 3 == 0)) (i + 1) (k + 1) (by rw [List.drop_set_of_lt (by omega)]; exact hd') (by simpa using ha) (by omega)
  exact ⟨M,by rw [h1,List.length_cons]; congr 3; omega⟩
theorem Ktf (s:K00) (k:Nat) (hs:sms s ≤ 1099511627776) (hk:k ≤ 1000000000000000000):∃ M,Kmz (s,(k:Int))=some (((k + sms s:Nat):Int),M):=by
 unfold sms at hs ⊢
 unfold Kmz
 simp only
 rw [Kst s.fPlus k (by omega) (by omega),bs]
 simp only
 rw [Kst s.fTimes _ (by omega) (by omega),bs]
 simp only
 obtain ⟨M,h⟩:=Kte s.fBelow s.fBelow 0 (k + s.fPlus.length + s.fTimes.length) rfl (by omega) (by omega)
 unfold Kmw
 simp only
 rw [show (0:Int)=((0:Nat):Int) from rfl,h,bs,bs]
 exact ⟨_,by congr 3; omega⟩
theorem Ktg {p:Prop} [Decidable p] (h:p):chk p=some ():=by unfold chk; rw [if_pos h]
theorem Kth (x y:Int) (l r:List Int):(x :: l == y :: r)=(x == y && l == r):=rfl
theorem Kti (a b:List Int) (ha:a.length ≤ 1099511627776) (hab:a.length=b.length):∀ (l r:List Int) (i:Nat),a.drop i=l→b.drop i=r→Kdw (a,b,(i:Int))=some (if l == r then .inl () else .inr false):=by
 intro l
 induction l with
 | nil =>
  intro r i h1 h2
  have hi:=Kpe h1
  rw [Kdw.eq_def]
  simp only
  rw [Ko0 hi]
  have:r=[]:=by rw [← h2]; exact List.drop_eq_nil_of_le (by omega)
  subst this; rfl
 | cons x l ih =>
  intro r i h1 h2
  obtain ⟨hi,hx,hd⟩:=Kpd h1
  cases r with
  | nil=>have:=Kpe h2; omega
  | cons y r =>
   obtain ⟨_,hy,hd2⟩:=Kpd h2
   rw [Kdw.eq_def]
   simp only
   rw [Knz hi,if_pos rfl,hx,hy,bs,bs,Kny (by omega),ih r (i + 1) hd hd2,Kth]
   by_cases e:x=y
   ·subst e; simp
   ·rw [bne_iff_ne.2 e,if_pos rfl,beq_eq_false_iff_ne.2 e]; rfl
theorem Ktj (a b:List Int) (hb:b.length ≤ 1099511627776):Kdz (a,b)=some (a == b):=by
 unfold Kdz
 simp only
 by_cases h:a.length=b.length
 ·rw [h,Ko6,if_neg (by decide)]
  have:=Kti a b (by omega) h a b 0 rfl rfl
  rw [show ((0:Nat):Int)=0 from rfl] at this
  rw [this]
  cases a == b <;> rfl
 ·rw [bne_iff_ne.2 (by omega),if_pos rfl]
  have:a ≠ b:=fun e=>h (by rw [e])
  rw [beq_eq_false_iff_ne.2 this]
theorem Ktk (a b:List Int) (ha:a.length ≤ 1099511627776) (hab:a.length=b.length):∀ (l r:List Int) (i:Nat),a.drop i=l→b.drop i=r→Kim (a,b,(i:Int))=some (if l == r then .inl () else .inr false):=by
 intro l
 induction l with
 | nil =>
  intro r i h1 h2
  have hi:=Kpe h1
  rw [Kim.eq_def]
  simp only
  rw [Ko0 hi]
  have:r=[]:=by rw [← h2]; exact List.drop_eq_nil_of_le (by omega)
  subst this; rfl
 | cons x l ih =>
  intro r i h1 h2
  obtain ⟨hi,hx,hd⟩:=Kpd h1
  cases r with
  | nil=>have:=Kpe h2; omega
  | cons y r =>
   obtain ⟨_,hy,hd2⟩:=Kpd h2
   rw [Kim.eq_def]
   simp only
   rw [Knz hi,if_pos rfl,hx,hy,bs,bs,Kny (by omega),ih r (i + 1) hd hd2,Kth]
   by_cases e:x=y
   ·subst e; simp
   ·rw [bne_iff_ne.2 e,if_pos rfl,beq_eq_false_iff_ne.2 e]; rfl
theorem Ktl (a b:List Int) (hb:b.length ≤ 1099511627776):Kip (a,b)=some (a == b):=by
 unfold Kip
 simp only
 by_cases h:a.length=b.length
 ·rw [h,Ko6,if_neg (by decide)]
  have:=Ktk a b (by omega) h a b 0 rfl rfl
  rw [show ((0:Nat):Int)=0 from rfl] at this
  rw [this]
  cases a == b <;> rfl
 ·rw [bne_iff_ne.2 (by omega),if_pos rfl]
  have:a ≠ b:=fun e=>h (by rw [e])
  rw [beq_eq_false_iff_ne.2 this]
theorem Ktm (g:Int→Bool) (y:List Int→Bool) (op:Int) (n i:Nat) (k:K01) (ks:List K01):Kqy g y op n i (k :: ks)=(tOk g y (n + Kqr op i) k && Kqy g y op n (i + 1) ks):=by rw [Kqy]
theorem Ktn {l:List K01} (h:((l.length:Int) == 1)=true):∃ k,l=[k]:=by
 rw [beq_iff_eq] at h; match l,h with | [k],_=>exact ⟨k,rfl⟩ | [],h=>exact absurd h (by simp) | _ :: _ :: _,h=>exact absurd h (by simp only [List.length_cons]; omega)
theorem Kto {l:List K01} (h:((l.length:Int) == 2)=true):∃ k m,l=[k,m]:=by
 rw [beq_iff_eq] at h; match l,h with | [k,m],_=>exact ⟨k,m,rfl⟩ | [],h=>exact absurd h (by simp) | [_],h=>exact absurd h (by simp) | _ :: _ :: _ :: _,h=>exact absurd h (by simp only [List.length_cons]; omega)
def Ktp (s:K00) (t:K01) (n:Nat):Bool:=Krt s && decide (tsz t ≤ 400) && tOk (gN s.fSize true) (yN s.fSize true) n t
theorem Ktq (s:K00) (t:K01) (n:Nat) (hn:n ≤ 8) (ht:tms t ≤ 1099511627776):Kct (s,t,(n:Int))=some (Ktp s t n):=by
 unfold Kct Ktp
 simp only
 rw [Krv,bs]
 cases Krt s
 ·rfl
 ·rw [if_pos rfl,sIn,bs]
  have:inB (n:Int) 0 8=true:=by unfold inB; rw [decide_eq_true (by omega),decide_eq_true (by omega)]; rfl
  have hl:=Kqf t 400 ht (by decide)
  rw [show ((400:Nat):Int)=400 from rfl] at hl
  rw [this,if_pos rfl,hl,bs]
  by_cases h:tsz t ≤ 400
  ·rw [Kqc h,decide_eq_true (by omega),decide_eq_true h,if_pos rfl,Kr1 _ _ t n ht (by omega)]
   cases tOk (gN s.fSize true) (yN s.fSize true) n t <;> rfl
  ·rw [Kqd h,decide_eq_false h]; rfl
theorem Ktr (op N:Int) (ty:List Int) (a:K01):tsz ⟨op,N,ty,[a]⟩=1 + tsz a:=by simp [tsz,Kq8]
theorem Kts (op N:Int) (ty:List Int) (a b:K01):tsz ⟨op,N,ty,[a,b]⟩=1 + (tsz a + tsz b):=by simp [tsz,Kq8]
theorem Ktt (op N:Int) (ty:List Int) (a b c:K01):tsz ⟨op,N,ty,[a,b,c]⟩=1 + (tsz a + (tsz b + tsz c)):=by simp [tsz,Kq8]
theorem Ktu {l:List K01} (h:(l.length:Int)=3):∃ a b c,l=[a,b,c]:=by
 match l,h with | [a,b,c],_=>exact ⟨a,b,c,rfl⟩ | [],h=>exact absurd h (by simp) | [_],h=>exact absurd h (by simp) | [_,_],h=>exact absurd h (by simp) | _ :: _ :: _ :: _ :: _,h=>exact absurd h (by simp only [List.length_cons]; omega)
def lms (l:List (List Int)):Nat:=l.length + lct l
theorem Ktv {l:List (List Int)} (h:lms l ≤ 1099511627776):lok l:=by unfold lms at h; exact ⟨by omega,by omega⟩
def lln (l:List (List Int)):Prop:=l.length ≤ 9223372036854775807∧∀ v ∈ l,v.length ≤ 9223372036854775807
theorem Ktw:∀ (l a:List (List Int)) (i left:Nat),a.drop i=l→a.length ≤ 9223372036854775807→(∀ v ∈ l,v.length ≤ 9223372036854775807)→left ≤ 1048576→K7r (a,(left:Int),(i:Int))=some (if left < lct l then .inr (-1) else .inl ((left - lct l:Nat):Int)):=by
 intro l
 induction l with
 | nil =>
  intro a i left hd ha hl h
  rw [K7r.eq_def,lct]
  simp only
  rw [Ko0 (Kpe hd)]; simp
 | cons x l ih =>
  intro a i left hd ha hl h
  obtain ⟨hi,hx,hd'⟩:=Kpd hd
  rw [K7r.eq_def,lct]
  simp only
  rw [Knz hi,if_pos rfl,hx,bs,Kr5 x left (by omega) (by omega) (hl x List.mem_cons_self),bs,Kny (by omega)]
  rcases Kr4 left x.length with ⟨e,q⟩ | ⟨e,q⟩
  ·rw [e,decide_eq_true (by decide),if_pos rfl,if_pos (by omega)]
  ·rw [e,decide_eq_false (by omega),if_neg (by decide),show (left:Int) - (x.length:Int)=((left - x.length:Nat):Int) by omega,ih a (i + 1) (left - x.length) hd' ha (fun v hv=>hl v (List.mem_cons_of_mem _ hv)) (by omega)]
   by_cases q2:left - x.length < lct l
   ·rw [if_pos q2,if_pos (by omega)]
   ·rw [if_neg q2,if_neg (by omega)]; congr 3; omega
theorem Ktx (a:List (List Int)) (left:Int) (ha:lln a) (h1:0 ≤ left) (h2:left ≤ 1048576):K7u (a,left)=some (szB left (lms a)):=by
 have hl:=ha.1
 unfold K7u lms
 simp only
 rw [Knw (by omega) (by omega)]
 by_cases h3:left - (a.length:Int) < 0
 ·rw [decide_eq_true h3,if_pos rfl]; unfold szB; rw [if_pos (by omega)]
 ·obtain ⟨m,hm⟩:∃ m:Nat,left - (a.length:Int)=(m:Int):=⟨(left - (a.length:Int)).toNat,by omega⟩
  have h:=Ktw a a 0 m rfl hl ha.2 (by omega)
  rw [show ((0:Nat):Int)=0 from rfl] at h
  rw [decide_eq_false h3,if_neg (by decide),hm,h,bs]
  unfold szB
  by_cases q:m < lct a
  ·rw [if_pos q,if_pos (by omega)]
  ·rw [if_neg q,if_neg (by omega)]; simp only; congr 1; omega
theorem Kty:∀ (l a out:List (List Int)) (i:Nat),a.drop i=l→a.length ≤ 1099511627776→lct l ≤ 1099511627776→out.length=a.length→out.take i=a.take i→K8q (a,out,(i:Int))=some a:=by
 intro l
 induction l with
 | nil =>
  intro a out i hd ha hl ho ht
  rw [K8q.eq_def]
  simp only
  have hle:=Kpe hd
  rw [Ko0 hle]
  rw [List.take_of_length_le (by omega),List.take_of_length_le (by omega)] at ht
  simp [ht]
 | cons x l ih =>
  intro a out i hd ha hl ho ht
  obtain ⟨hi,hx,hd'⟩:=Kpd hd
  have hk:a[i]=x:=by rw [Knx hi] at hx; exact Option.some.inj hx
  rw [lct] at hl
  rw [K8q.eq_def]
  simp only
  rw [Knz hi,if_pos rfl,hx,bs,Ko3 x (by omega),bs,Knx (by omega),bs,Kny (by omega),Int.toNat_natCast]
  exact ih a _ (i + 1) hd' ha (by omega) (by simpa using ho) (by rw [← hk]; exact Ko1 ho hi ht)
theorem Ktz (a:List (List Int)) (h:lms a ≤ 1099511627776):K8t a=some a:=by
 unfold lms at h
 unfold K8t
 have:chk (0 ≤ (a.length:Int)∧(Int.toNat (a.length:Int)) * 24 ≤ 140737488355328)=some ():=by
  unfold chk; rw [if_pos]; refine ⟨by omega,?_⟩; rw [Int.toNat_natCast]; omega
 have h0:=Kty a a (List.replicate a.length []) 0 rfl (by omega) (by omega) (by simp) rfl
 rw [show ((0:Nat):Int)=0 from rfl] at h0
 rw [this,bs,Int.toNat_natCast,h0,bs]
def Ku0 (l:List Nat):List Int:=l.map fun x:Nat=>(x:Int)
theorem Ku1 (l:List Nat):(Ku0 l).length=l.length:=List.length_map ..
theorem Ku2 (l:List Nat) (i:Nat):(Ku0 l).drop i=Ku0 (l.drop i):=(List.map_drop ..).symm
theorem Ku3 (l:List Nat) (i:Nat):(Ku0 l).take i=Ku0 (l.take i):=(List.map_take ..).symm
theorem Ku4 {l r:List Nat} {x i:Nat} (h:l.drop i=x :: r):i < l.length∧idx (Ku0 l) (i:Int)=some (x:Int)∧l.drop (i + 1)=r:=by
 have h2:(Ku0 l).drop i=(x:Int) :: Ku0 r:=by rw [Ku2,h]; rfl
 obtain ⟨q1,q2,q3⟩:=Kpd h2
 rw [Ku1] at q1
 refine ⟨q1,q2,?_⟩
 rw [← List.drop_drop,h]
 rfl
structure Ku5 (s:K00) (n:Nat):Prop where
 tab:Tab s n
 one:∀ a,a < n→Koq s n a=true
 two:∀ a b,a < n→b < n→Kp3 s n a b=true
theorem Ku6 {s:K00} (h:Krt s=true):Ku5 s s.fSize.toNat:=by
 have ht:=Kru h
 unfold Krt at h
 simp only [Bool.and_eq_true] at h
 have hm:=h.2
 unfold Kp6 at hm
 rw [List.all_eq_true] at hm
 refine ⟨ht,fun a ha=>?_,fun a b ha hb=>?_⟩
 ·have:=hm a (by rw [List.mem_range'_1]; omega)
  simp only [Bool.and_eq_true] at this
  exact this.1
 ·have:=hm a (by rw [List.mem_range'_1]; omega)
  simp only [Bool.and_eq_true,List.all_eq_true] at this
  exact (this.2 b (by rw [List.mem_range'_1]; omega)).1
section
variable {s:K00} {n:Nat} (hs:Ku5 s n)
include hs
theorem Ku7:1 < n:=by have:=hs.tab.lo; omega
theorem Ku8:0 < n:=by have:=hs.tab.lo; omega
theorem Ku9 {a:Nat} (ha:a < n):pl s n 0 a=a:=by
 have:=hs.one a ha
 simp only [Koq,Bool.and_eq_true,beq_iff_eq] at this
 exact this.1.1.1.1.1
theorem Kua {a:Nat} (ha:a < n):ti s n 1 a=a:=by
 have:=hs.one a ha
 simp only [Koq,Bool.and_eq_true,beq_iff_eq] at this
 exact this.1.1.1.1.2
def Kub (s:K00) (n a b:Nat):Nat:=(Kow s n a b).toNat
theorem Kuc {a b:Nat} (ha:a < n) (hb:b < n):Kow s n a b=((Kub s n a b:Nat):Int)∧Kub s n a b < n:=by
 have h:=hs.two a b ha hb
 simp only [Kp3,Bool.and_eq_true,decide_eq_true_eq] at h
 have h0:=h.2
 unfold Kub
 refine ⟨by omega,?_⟩
 unfold Kow at h0 ⊢
 cases hf:(List.range' 0 n).find? (jok s n a b) with
 | none=>rw [hf] at h0; exact absurd h0 (by decide)
 | some g =>
  have:=List.mem_of_find?_eq_some hf
  rw [List.mem_range'_1] at this
  simp only [Int.toNat_natCast]
  omega
end
def Kud (s:K00) (n:Nat) (a b:List Nat):List Nat:=List.zipWith (pl s n) a b
def Kue (s:K00) (n g:Nat) (a:List Nat):List Nat:=a.map (ti s n g)
def Kuf (s:K00) (n:Nat) (a b:List Nat):List Nat:=List.zipWith (Kub s n) a b
def Kug (n:Nat) (l:List Nat):Prop:=∀ x ∈ l,x < n
theorem Kuh {n x:Nat} {l:List Nat} (h:Kug n (x :: l)):x < n∧Kug n l:=⟨h x List.mem_cons_self,fun y hy=>h y (List.mem_cons_of_mem _ hy)⟩
theorem Kui {n:Nat} {l:List Nat} (h:Kug n l) (i:Nat):Kug n (l.drop i):=fun x hx=>h x (List.mem_of_mem_drop hx)
section
variable {s:K00} {n:Nat} (hs:Ku5 s n)
include hs
theorem Kuj:∀ {a b:List Nat},Kug n a→Kug n b→Kug n (Kud s n a b)
 | [],_,_,_=>fun x hx=>by cases hx
 | _ :: _,[],_,_=>fun x hx=>by cases hx
 | x :: a,y :: b,ha,hb=>fun z hz=>by
  obtain ⟨h1,h2⟩:=Kuh ha
  obtain ⟨h3,h4⟩:=Kuh hb
  rcases List.mem_cons.1 hz with rfl | hz
  ·exact Kof hs.tab h1 h3
  ·exact Kuj h2 h4 z hz
theorem Kuk {g:Nat} (hg:g < n) {a:List Nat} (ha:Kug n a):Kug n (Kue s n g a):=fun x hx=>by
 obtain ⟨y,hy,rfl⟩:=List.mem_map.1 hx
 exact Kog hs.tab hg (ha y hy)
theorem Kul:∀ {a b:List Nat},Kug n a→Kug n b→Kug n (Kuf s n a b)
 | [],_,_,_=>fun x hx=>by cases hx
 | _ :: _,[],_,_=>fun x hx=>by cases hx
 | x :: a,y :: b,ha,hb=>fun z hz=>by
  obtain ⟨h1,h2⟩:=Kuh ha
  obtain ⟨h3,h4⟩:=Kuh hb
  rcases List.mem_cons.1 hz with rfl | hz
  ·exact (Kuc hs h1 h3).2
  ·exact Kul h2 h4 z hz
theorem Kum {a:List Nat} (ha:Kug n a):Kue s n 1 a=a:=by
 induction a with
 | nil=>rfl
 | cons x a ih =>
  obtain ⟨h1,h2⟩:=Kuh ha
  show ti s n 1 x :: Kue s n 1 a=_
  rw [Kua hs h1,ih h2]
theorem Kun {a:List Nat} (ha:Kug n a):Kud s n (List.replicate a.length 0) a=a:=by
 induction a with
 | nil=>rfl
 | cons x a ih =>
  obtain ⟨h1,h2⟩:=Kuh ha
  show pl s n 0 x :: Kud s n (List.replicate a.length 0) a=_
  rw [Ku9 hs h1,ih h2]
theorem Kuo (g:Nat) (hg:g < n) (a b:List Nat) (ha:Kug n a) (hb:Kug n b) (hl:a.length ≤ 1099511627776):∀ (al bl:List Nat) (i:Nat) (out:List Int),a.drop i=al→b.drop i=bl→al.length=bl.length→out.length + al.length ≤ 1099511627776 →
  Kdj (s,Ku0 a,(g:Int),Ku0 b,out,(i:Int))=some (out ++ Ku0 (Kud s n al (Kue s n g bl))):=by
 intro al
 induction al with
 | nil =>
  intro bl i out hd _ _ _
  rw [Kdj.eq_def]
  simp only
  rw [Ku1,Ko0 (Kpe hd)]
  simp [Kud,Ku0]
 | cons x al ih =>
  intro bl i out hd hd2 hll ho
  cases bl with
  | nil=>simp at hll
  | cons y bl =>
   obtain ⟨h1,h2,h3⟩:=Ku4 hd
   obtain ⟨k1,k2,k3⟩:=Ku4 hd2
   have hx:x < n:=Kui ha i x (by rw [hd]; exact List.mem_cons_self)
   have hy:y < n:=Kui hb i y (by rw [hd2]; exact List.mem_cons_self)
   rw [Kdj.eq_def]
   simp only
   simp only [List.length_cons] at ho hll
   rw [Ku1,Knz h1,if_pos rfl,h2,bs,k2,bs,Kol hs.tab hg hy,bs,Kok hs.tab hx (Kog hs.tab hg hy),bs,Krf (by simp; omega),bs,Kny (by omega),ih bl (i + 1) _ h3 k3 (by omega) (by simp; omega)]
   rw [List.append_assoc]
   rfl
theorem Kup (g:Nat) (hg:g < n) (a b:List Nat) (ha:Kug n a) (hb:Kug n b) (hl:a.length ≤ 1048576) (hab:a.length=b.length):Kdm (s,Ku0 a,(g:Int),Ku0 b)=some (Ku0 (Kud s n a (Kue s n g b))):=by
 unfold Kdm
 simp only
 rw [show (0:Int)=((0:Nat):Int) from rfl,Kuo hs g hg a b ha hb (by omega) a b 0 [] rfl rfl hab (by simp; omega)]
 rfl
theorem Kuq (a b:List Nat) (ha:Kug n a) (hb:Kug n b) (hl:a.length ≤ 1048576) (hab:a.length=b.length):Kdm (s,Ku0 a,1,Ku0 b)=some (Ku0 (Kud s n a b)):=by
 have:=Kup hs 1 (Ku7 hs) a b ha hb hl hab
 rw [Kum hs hb] at this
 exact this
theorem Kur (a b:List Nat) (ha:Kug n a) (hb:Kug n b) (hl:a.length ≤ 1099511627776):∀ (al bl:List Nat) (i:Nat) (out:List Int),a.drop i=al→b.drop i=bl→al.length=bl.length→out.length + al.length ≤ 1099511627776 →
  Ke3 (s,Ku0 a,Ku0 b,out,(i:Int))=some (out ++ Ku0 (Kuf s n al bl)):=by
 intro al
 induction al with
 | nil =>
  intro bl i out hd _ _ _
  rw [Ke3.eq_def]
  simp only
  rw [Ku1,Ko0 (Kpe hd)]
  simp [Kuf,Ku0]
 | cons x al ih =>
  intro bl i out hd hd2 hll ho
  cases bl with
  | nil=>simp at hll
  | cons y bl =>
   obtain ⟨h1,h2,h3⟩:=Ku4 hd
   obtain ⟨k1,k2,k3⟩:=Ku4 hd2
   have hx:x < n:=Kui ha i x (by rw [hd]; exact List.mem_cons_self)
   have hy:y < n:=Kui hb i y (by rw [hd2]; exact List.mem_cons_self)
   rw [Ke3.eq_def]
   simp only
   simp only [List.length_cons] at ho hll
   rw [Ku1,Knz h1,if_pos rfl,h2,bs,k2,bs,Kp1 hs.tab hx hy,bs,(Kuc hs hx hy).1,Krf (by simp; omega),bs,Kny (by omega),ih bl (i + 1) _ h3 k3 (by omega) (by simp; omega)]
   rw [List.append_assoc]
   rfl
theorem Kus (a b:List Nat) (ha:Kug n a) (hb:Kug n b) (hl:a.length ≤ 1048576) (hab:a.length=b.length):Ke6 (s,Ku0 a,Ku0 b)=some (Ku0 (Kuf s n a b)):=by
 unfold Ke6
 simp only
 rw [show (0:Int)=((0:Nat):Int) from rfl,Kur hs a b ha hb (by omega) a b 0 [] rfl rfl hab (by simp; omega)]
 rfl
end
theorem Kut {α:Type} {out:List α} {i:Nat} (h:i < out.length) (x:α):(out.set i x).take (i + 1)=out.take i ++ [x]:=by
 rw [List.take_set,List.take_succ_eq_append_getElem h,List.set_append_right _ _ (by simp; omega)]
 simp [Nat.min_eq_left (Nat.le_of_lt h)]
section
variable {s:K00} {n:Nat} (hs:Ku5 s n)
include hs
theorem Kuu (a b:List Nat) (ha:Kug n a) (hb:Kug n b) (hl:a.length ≤ 1099511627776):∀ (al bl:List Nat) (i:Nat) (out:List Int),a.drop i=al→b.drop i=bl→al.length=bl.length→out.length=a.length →
  Kiw (s,Ku0 a,Ku0 b,out,(i:Int))=some (out.take i ++ Ku0 (Kud s n al bl)):=by
 intro al
 induction al with
 | nil =>
  intro bl i out hd _ _ ho
  rw [Kiw.eq_def]
  simp only
  have:=Kpe hd
  rw [Ku1,Ko0 this]
  simp [Kud,Ku0,List.take_of_length_le (show out.length ≤ i by omega)]
 | cons x al ih =>
  intro bl i out hd hd2 hll ho
  cases bl with
  | nil=>simp at hll
  | cons y bl =>
   obtain ⟨h1,h2,h3⟩:=Ku4 hd
   obtain ⟨k1,k2,k3⟩:=Ku4 hd2
   have hx:x < n:=Kui ha i x (by rw [hd]; exact List.mem_cons_self)
   have hy:y < n:=Kui hb i y (by rw [hd2]; exact List.mem_cons_self)
   rw [Kiw.eq_def]
   simp only
   simp only [List.length_cons] at hll
   have hio:i < out.length:=by omega
   rw [Ku1,Knz h1,if_pos rfl,h2,bs,k2,bs,Kom hs.tab hx hy,bs,Knx hio,bs,Kny (by omega),Int.toNat_natCast,ih bl (i + 1) _ h3 k3 (by omega) (by rw [List.length_set]; exact ho)]
   rw [Kut hio,List.append_assoc]
   rfl
theorem Kuv (a b:List Nat) (ha:Kug n a) (hb:Kug n b) (hl:a.length ≤ 1048576) (hab:a.length=b.length):Kj2 (⟨s⟩,Ku0 a,Ku0 b)=some (Ku0 (Kud s n a b)):=by
 unfold Kj2 Kiz
 simp only
 rw [Ku1,Ktg (by simp; omega),bs,Int.toNat_natCast,show (0:Int)=((0:Nat):Int) from rfl]
 rw [show (List.replicate a.length (((0:Nat):Int)))=List.replicate a.length (0:Int) from rfl,Kuu hs a b ha hb (by omega) a b 0 _ rfl rfl hab (by simp)]
 rfl
theorem Kuw (a b:List Nat) (ha:Kug n a) (hb:Kug n b) (hl:a.length ≤ 1099511627776):∀ (al bl:List Nat) (i:Nat) (out:List Int),a.drop i=al→b.drop i=bl→al.length=bl.length→out.length=a.length →
  Kj9 (s,Ku0 a,Ku0 b,out,(i:Int))=some (out.take i ++ Ku0 (Kuf s n al bl)):=by
 intro al
 induction al with
 | nil =>
  intro bl i out hd _ _ ho
  rw [Kj9.eq_def]
  simp only
  have:=Kpe hd
  rw [Ku1,Ko0 this]
  simp [Kuf,Ku0,List.take_of_length_le (show out.length ≤ i by omega)]
 | cons x al ih =>
  intro bl i out hd hd2 hll ho
  cases bl with
  | nil=>simp at hll
  | cons y bl =>
   obtain ⟨h1,h2,h3⟩:=Ku4 hd
   obtain ⟨k1,k2,k3⟩:=Ku4 hd2
   have hx:x < n:=Kui ha i x (by rw [hd]; exact List.mem_cons_self)
   have hy:y < n:=Kui hb i y (by rw [hd2]; exact List.mem_cons_self)
   rw [Kj9.eq_def]
   simp only
   simp only [List.length_cons] at hll
   have hio:i < out.length:=by omega
   rw [Ku1,Knz h1,if_pos rfl,h2,bs,k2,bs,Kp2 hs.tab hx hy,bs,(Kuc hs hx hy).1,Knx hio,bs,Kny (by omega),Int.toNat_natCast,ih bl (i + 1) _ h3 k3 (by omega) (by rw [List.length_set]; exact ho)]
   rw [Kut hio,List.append_assoc]
   rfl
theorem Kux (a b:List Nat) (ha:Kug n a) (hb:Kug n b) (hl:a.length ≤ 1048576) (hab:a.length=b.length):Kjf (⟨s⟩,Ku0 a,Ku0 b)=some (Ku0 (Kuf s n a b)):=by
 unfold Kjf Kjc
 simp only
 rw [Ku1,Ktg (by simp; omega),bs,Int.toNat_natCast,show (0:Int)=((0:Nat):Int) from rfl]
 rw [show (List.replicate a.length (((0:Nat):Int)))=List.replicate a.length (0:Int) from rfl,Kuw hs a b ha hb (by omega) a b 0 _ rfl rfl hab (by simp)]
 rfl
theorem Kuy (g:Nat) (hg:g < n) (a:List Nat) (ha:Kug n a) (hl:a.length ≤ 1099511627776):∀ (al:List Nat) (i:Nat) (out:List Int),a.drop i=al→out.length=a.length →
  Kkd (⟨s⟩,(g:Int),Ku0 a,out,(i:Int))=some (out.take i ++ Ku0 (Kue s n g al)):=by
 intro al
 induction al with
 | nil =>
  intro i out hd ho
  rw [Kkd.eq_def]
  simp only
  have:=Kpe hd
  rw [Ku1,Ko0 this]
  simp [Kue,Ku0,List.take_of_length_le (show out.length ≤ i by omega)]
 | cons x al ih =>
  intro i out hd ho
  obtain ⟨h1,h2,h3⟩:=Ku4 hd
  have hx:x < n:=Kui ha i x (by rw [hd]; exact List.mem_cons_self)
  rw [Kkd.eq_def]
  simp only
  have hio:i < out.length:=by omega
  rw [Ku1,Knz h1,if_pos rfl,h2,bs,Kon hs.tab hg hx,bs,Knx hio,bs,Kny (by omega),Int.toNat_natCast,ih (i + 1) _ h3 (by rw [List.length_set]; exact ho)]
  rw [Kut hio,List.append_assoc]
  rfl
theorem Kuz (g:Nat) (hg:g < n) (a:List Nat) (ha:Kug n a) (hl:a.length ≤ 1048576):Kkg (⟨s⟩,(g:Int),Ku0 a)=some (Ku0 (Kue s n g a)):=by
 unfold Kkg
 simp only
 rw [Ku1,Ktg (by simp; omega),bs,Int.toNat_natCast,show (0:Int)=((0:Nat):Int) from rfl]
 rw [show (List.replicate a.length (((0:Nat):Int)))=List.replicate a.length (0:Int) from rfl,Kuy hs g hg a ha (by omega) a 0 _ rfl (by simp)]
 rfl
theorem Kv0 (g:Nat) (hg:g < n) (a:List Nat) (ha:Kug n a) (hl:a.length ≤ 1099511627776):∀ (al:List Nat) (i:Nat),a.drop i=al →
  ∃ r,Kk0 (Ku0 a,⟨s⟩,(g:Int),(i:Int))=some r∧(match r with | .inl _=>(al.all fun x=>le s n x g)=true | .inr j=>(al.all fun x=>le s n x g)=false∧0 ≤ j):=by
 intro al
 induction al with
 | nil =>
  intro i hd
  rw [Kk0.eq_def]
  simp only
  rw [Ku1,Ko0 (Kpe hd)]
  exact ⟨_,rfl,rfl⟩
 | cons x al ih =>
  intro i hd
  obtain ⟨h1,h2,h3⟩:=Ku4 hd
  have hx:x < n:=Kui ha i x (by rw [hd]; exact List.mem_cons_self)
  rw [Kk0.eq_def]
  simp only
  rw [Ku1,Knz h1,if_pos rfl,h2,bs]
  unfold Kjw
  simp only
  rw [iLe hs.tab hx hg]
  simp only [bs]
  cases hle:le s n x g with
  | true =>
   obtain ⟨r,hr,hm⟩:=ih (i + 1) h3
   refine ⟨r,?_,?_⟩
   ·rw [if_neg (by simp),Kny (by omega)]; exact hr
   ·rw [List.all_cons,hle,Bool.true_and]; exact hm
  | false =>
   exact ⟨_,if_pos rfl,by simp [List.all_cons,hle]⟩
theorem Kv1 (g:Nat) (hg:g < n) (a:List Nat) (ha:Kug n a) (hl:a.length ≤ 1048576):Kk9 (⟨s⟩,Ku0 a,(g:Int))=some (a.all fun x=>le s n x g):=by
 obtain ⟨r,hr,hm⟩:=Kv0 hs g hg a ha (by omega) a 0 rfl
 unfold Kk9 Kk6 Kk3
 simp only
 rw [show (0:Int)=((0:Nat):Int) from rfl,hr]
 cases r with
 | inl _=>simp only [bs] at hm ⊢; rw [hm]; rfl
 | inr j =>
  simp only [bs] at hm ⊢
  rw [hm.1,decide_eq_true (by omega)]; rfl
end
end Go.Am
