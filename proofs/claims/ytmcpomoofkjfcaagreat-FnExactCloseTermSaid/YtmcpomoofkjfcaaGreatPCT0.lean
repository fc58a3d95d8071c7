/- Plain laws of the printed functions. -/
import Derived.Test.YtmcpomoofkjfcaaGreatGCTF14
set_option linter.unusedSimpArgs false
set_option linter.unusedVariables false
namespace Go.Am
theorem Kra {x:Int} (h1:-9223372036854775808 ≤ x) (h2:x ≤ 9223372036854775807):wr x=x:=by
 unfold wr IntKind.wrap
 simp [IntKind.bits,IntKind.signed]
 omega
theorem Krb {α:Type} {l:List α} {n:Nat} (h:n < l.length):idx l (n:Int)=some l[n]:=by
 unfold idx
 rw [if_pos (by omega)]
 simp [h]
theorem bs {α β:Type} (a:α) (f:α→Option β):(some a >>= f)=f a:=rfl
theorem Krc {n:Nat} (h:n < 9223372036854775807):wr ((n:Int) + 1)=((n + 1:Nat):Int):=by
 rw [Kra (by omega) (by omega)]; omega
theorem Krd {n m:Nat} (h:n < m):decide ((n:Int) < (m:Int))=true:=decide_eq_true (by omega)
theorem Kre {n m:Nat} (h:m ≤ n):decide ((n:Int) < (m:Int))=false:=decide_eq_false (by omega)
theorem Krf {α:Type} {l a:List α} {n:Nat} (hl:l.length=a.length) (hn:n < a.length) (h:l.take n=a.take n):(l.set n a[n]).take (n + 1)=a.take (n + 1):=by
 apply List.ext_getElem?
 intro i
 rw [List.getElem?_take,List.getElem?_take]
 by_cases hi:i < n + 1
 ·rw [if_pos hi,if_pos hi,List.getElem?_set]
  by_cases e:n=i
  ·subst e
   rw [if_pos rfl,if_pos (by omega),List.getElem?_eq_getElem hn]
  ·rw [if_neg e]
   have:=congrArg (fun l=>l[i]?) h
   simp only [List.getElem?_take] at this
   rw [if_pos (by omega),if_pos (by omega)] at this
   exact this
 ·rw [if_neg hi,if_neg hi]
theorem Krg (a:List Int) (ha:a.length ≤ 1099511627776):∀ (k n:Nat) (out:List Int),n + k=a.length→out.length=a.length→out.take n=a.take n→K9e (a,out,(n:Int))=some a:=by
 intro k
 induction k with
 | zero =>
  intro n out hn hl ht
  rw [K9e.eq_def]
  simp only
  rw [Kre (by omega)]
  have h1:out.take n=out:=List.take_of_length_le (by omega)
  have h2:a.take n=a:=List.take_of_length_le (by omega)
  rw [h1,h2] at ht
  simp [ht]
 | succ k ih =>
  intro n out hn hl ht
  rw [K9e.eq_def]
  simp only
  rw [Krd (by omega),if_pos rfl,Krb (by omega),bs,Krb (by omega),bs,Krc (by omega),Int.toNat_natCast]
  exact ih (n + 1) _ (by omega) (by simpa using hl) (Krf hl (by omega) ht)
theorem Krh (a:List Int) (ha:a.length ≤ 1099511627776):K9h a=some a:=by
 unfold K9h
 have:chk (0 ≤ (a.length:Int)∧(Int.toNat (a.length:Int)) * 8 ≤ 140737488355328)=some ():=by
  unfold chk; rw [if_pos]; refine ⟨by omega,?_⟩; rw [Int.toNat_natCast]; omega
 rw [this,bs,Int.toNat_natCast]
 have:=Krg a ha a.length 0 (List.replicate a.length 0) (by omega) (by simp) rfl
 rw [show ((0:Nat):Int)=0 from rfl] at this
 rw [this,bs]
theorem Kri (a:List Bool) (ha:a.length ≤ 1099511627776):∀ (k n:Nat) (out:List Bool),n + k=a.length→out.length=a.length→out.take n=a.take n→K9l (a,out,(n:Int))=some a:=by
 intro k
 induction k with
 | zero =>
  intro n out hn hl ht
  rw [K9l.eq_def]
  simp only
  rw [Kre (by omega)]
  have h1:out.take n=out:=List.take_of_length_le (by omega)
  have h2:a.take n=a:=List.take_of_length_le (by omega)
  rw [h1,h2] at ht
  simp [ht]
 | succ k ih =>
  intro n out hn hl ht
  rw [K9l.eq_def]
  simp only
  rw [Krd (by omega),if_pos rfl,Krb (by omega),bs,Krb (by omega),bs,Krc (by omega),Int.toNat_natCast]
  exact ih (n + 1) _ (by omega) (by simpa using hl) (Krf hl (by omega) ht)
theorem Krj (a:List Bool) (ha:a.length ≤ 1099511627776):K9o a=some a:=by
 unfold K9o
 have:chk (0 ≤ (a.length:Int)∧(Int.toNat (a.length:Int)) * 1 ≤ 140737488355328)=some ():=by
  unfold chk; rw [if_pos]; refine ⟨by omega,?_⟩; rw [Int.toNat_natCast]; omega
 rw [this,bs,Int.toNat_natCast]
 have:=Kri a ha a.length 0 (List.replicate a.length false) (by omega) (by simp) rfl
 rw [show ((0:Nat):Int)=0 from rfl] at this
 rw [this,bs]
theorem Krk {a:Int}:(a != a)=false:=by simp
theorem Krl (a:List Int) (ha:a.length ≤ 1099511627776):∀ (k n:Nat),n + k=a.length→Koq (a,a,(n:Int))=some (.inl ()):=by
 intro k
 induction k with
 | zero =>
  intro n hn
  rw [Koq.eq_def]
  simp only
  rw [Kre (by omega)]
  rfl
 | succ k ih =>
  intro n hn
  rw [Koq.eq_def]
  simp only
  rw [Krd (by omega),if_pos rfl,Krb (by omega),bs,bs,Krk,if_neg (by decide),Krc (by omega)]
  exact ih (n + 1) (by omega)
theorem Krm (a:List Int) (ha:a.length ≤ 1099511627776):Kot (a,a)=some true:=by
 unfold Kot
 simp only
 have:=Krl a ha a.length 0 (by omega)
 rw [show ((0:Nat):Int)=0 from rfl] at this
 rw [Krk,if_neg (by decide),this]
 rfl
theorem Krn (a:List Bool) (ha:a.length ≤ 1099511627776):∀ (k n:Nat),n + k=a.length→Kp8 (a,a,(n:Int))=some (.inl ()):=by
 intro k
 induction k with
 | zero =>
  intro n hn
  rw [Kp8.eq_def]
  simp only
  rw [Kre (by omega)]
  rfl
 | succ k ih =>
  intro n hn
  rw [Kp8.eq_def]
  simp only
  rw [Krd (by omega),if_pos rfl,Krb (by omega),bs,bs,show ∀ b:Bool,(b == b)=true from by decide,if_pos rfl,Krc (by omega)]
  exact ih (n + 1) (by omega)
theorem Kro (a:List Bool) (ha:a.length ≤ 1099511627776):Kpb (a,a)=some true:=by
 unfold Kpb
 simp only
 have:=Krn a ha a.length 0 (by omega)
 rw [show ((0:Nat):Int)=0 from rfl] at this
 rw [Krk,if_neg (by decide),this]
 rfl
theorem Krp (s:K00) (h1:s.fPlus.length ≤ 1099511627776) (h2:s.fTimes.length ≤ 1099511627776) (h3:s.fBelow.length ≤ 1099511627776):K9r s=some s:=by
 unfold K9r
 rw [Krh _ h1,bs,Krh _ h2,bs,Krj _ h3,bs]
theorem Krq (s:K00) (h1:s.fPlus.length ≤ 1099511627776) (h2:s.fTimes.length ≤ 1099511627776) (h3:s.fBelow.length ≤ 1099511627776):Kpe (s,s)=some true:=by
 unfold Kpe
 simp only
 rw [Krk,if_neg (by decide),Krm _ h1,bs,if_pos rfl,Krm _ h2,bs,if_pos rfl,Kro _ h3,bs,if_pos rfl]
structure Tab (s:K00) (n:Nat):Prop where
 size:s.fSize=(n:Int)
 lo:2 ≤ n
 hi:n ≤ 16
 lp:s.fPlus.length=n * n
 lt:s.fTimes.length=n * n
 lb:s.fBelow.length=n * n
 rp:∀ i (h:i < s.fPlus.length),0 ≤ s.fPlus[i]∧s.fPlus[i] < (n:Int)
 rt:∀ i (h:i < s.fTimes.length),0 ≤ s.fTimes[i]∧s.fTimes[i] < (n:Int)
def pl (s:K00) (n a b:Nat):Nat:=(s.fPlus.getD (a * n + b) 0).toNat
def ti (s:K00) (n a b:Nat):Nat:=(s.fTimes.getD (a * n + b) 0).toNat
def le (s:K00) (n a b:Nat):Bool:=s.fBelow.getD (a * n + b) false
theorem Krr {n a b:Nat} (ha:a < n) (hb:b < n):a * n + b < n * n:=by
 have:(a + 1) * n ≤ n * n:=Nat.mul_le_mul_right _ (by omega)
 rw [Nat.add_mul,Nat.one_mul] at this
 omega
theorem Krs {n a b:Nat} (hn:n ≤ 16) (ha:a < n) (hb:b < n):wr ((wr ((a:Int) * (n:Int))) + (b:Int))=((a * n + b:Nat):Int):=by
 have h1:a * n ≤ 256:=Nat.le_trans (Nat.mul_le_mul (by omega:a ≤ 16) hn) (by decide)
 have e:(a:Int) * (n:Int)=((a * n:Nat):Int):=by simp
 rw [e]
 generalize a * n=m at h1
 rw [Kra (x:=(m:Int)) (by omega) (by omega),Kra (by omega) (by omega)]
 omega
section
variable {s:K00} {n:Nat} (h:Tab s n)
include h
theorem Krt {a b:Nat} (ha:a < n) (hb:b < n):pl s n a b < n:=by
 have hl:a * n + b < s.fPlus.length:=by rw [h.lp]; exact Krr ha hb
 unfold pl
 rw [List.getD_eq_getElem?_getD,List.getElem?_eq_getElem hl]
 have:=h.rp _ hl
 simp only [Option.getD_some]
 omega
theorem Kru {a b:Nat} (ha:a < n) (hb:b < n):ti s n a b < n:=by
 have hl:a * n + b < s.fTimes.length:=by rw [h.lt]; exact Krr ha hb
 unfold ti
 rw [List.getD_eq_getElem?_getD,List.getElem?_eq_getElem hl]
 have:=h.rt _ hl
 simp only [Option.getD_some]
 omega
theorem Krv {a b:Nat} (ha:a < n) (hb:b < n):idx s.fPlus ((a * n + b:Nat):Int)=some ((pl s n a b:Nat):Int):=by
 have hl:a * n + b < s.fPlus.length:=by rw [h.lp]; exact Krr ha hb
 rw [Krb hl]
 unfold pl
 rw [List.getD_eq_getElem?_getD,List.getElem?_eq_getElem hl]
 have:=h.rp _ hl
 simp only [Option.getD_some]
 congr 1
 omega
theorem Krw {a b:Nat} (ha:a < n) (hb:b < n):idx s.fTimes ((a * n + b:Nat):Int)=some ((ti s n a b:Nat):Int):=by
 have hl:a * n + b < s.fTimes.length:=by rw [h.lt]; exact Krr ha hb
 rw [Krb hl]
 unfold ti
 rw [List.getD_eq_getElem?_getD,List.getElem?_eq_getElem hl]
 have:=h.rt _ hl
 simp only [Option.getD_some]
 congr 1
 omega
theorem Krx {a b:Nat} (ha:a < n) (hb:b < n):idx s.fBelow ((a * n + b:Nat):Int)=some (le s n a b):=by
 have hl:a * n + b < s.fBelow.length:=by rw [h.lb]; exact Krr ha hb
 rw [Krb hl]
 unfold le
 rw [List.getD_eq_getElem?_getD,List.getElem?_eq_getElem hl]
 rfl
theorem Kry {a b:Nat} (ha:a < n) (hb:b < n):Kam (s,(a:Int),(b:Int))=some ((pl s n a b:Nat):Int):=by
 unfold Kam
 simp only
 rw [h.size,Krs h.hi ha hb,Krv h ha hb,bs]
theorem Krz {a b:Nat} (ha:a < n) (hb:b < n):Kap (s,(a:Int),(b:Int))=some ((ti s n a b:Nat):Int):=by
 unfold Kap
 simp only
 rw [h.size,Krs h.hi ha hb,Krw h ha hb,bs]
theorem sLe {a b:Nat} (ha:a < n) (hb:b < n):Kas (s,(a:Int),(b:Int))=some (le s n a b):=by
 unfold Kas
 simp only
 rw [h.size,Krs h.hi ha hb,Krx h ha hb,bs]
theorem Ks0 {a b:Nat} (ha:a < n) (hb:b < n):Kgz (s,(a:Int),(b:Int))=some ((pl s n a b:Nat):Int):=by
 unfold Kgz
 simp only
 rw [h.size,Krs h.hi ha hb,Krv h ha hb,bs]
theorem Ks1 {a b:Nat} (ha:a < n) (hb:b < n):Kh2 (s,(a:Int),(b:Int))=some ((ti s n a b:Nat):Int):=by
 unfold Kh2
 simp only
 rw [h.size,Krs h.hi ha hb,Krw h ha hb,bs]
theorem iLe {a b:Nat} (ha:a < n) (hb:b < n):Kh5 (s,(a:Int),(b:Int))=some (le s n a b):=by
 unfold Kh5
 simp only
 rw [h.size,Krs h.hi ha hb,Krx h ha hb,bs]
end
theorem Ks2 (x y:Nat):(((x:Nat):Int) == ((y:Nat):Int))=(x == y):=by
 cases hb:(x == y) with
 | true=>have:=eq_of_beq hb; subst this; simp
 | false=>simp at hb ⊢; omega
theorem Ks3 (x y:Nat):(((x:Nat):Int) != ((y:Nat):Int))=(x != y):=by
 simp only [bne,Ks2]
def Ks4 (s:K00) (n a:Nat):Bool:=(pl s n 0 a == a) && (ti s n 1 a == a) && (ti s n a 1 == a) && (ti s n 0 a == 0) && (ti s n a 0 == 0) && le s n a a
def Ks5 (s:K00) (n a b c:Nat):Bool :=
 (pl s n (pl s n a b) c == pl s n a (pl s n b c)) && (ti s n (ti s n a b) c == ti s n a (ti s n b c)) &&
 (ti s n a (pl s n b c) == pl s n (ti s n a b) (ti s n a c)) && (ti s n (pl s n a b) c == pl s n (ti s n a c) (ti s n b c)) &&
 (!(le s n a b) || ((!(le s n b c) || le s n a c) && le s n (pl s n a c) (pl s n b c) && le s n (ti s n a c) (ti s n b c) && le s n (ti s n c a) (ti s n c b)))
section
variable {s:K00} {n:Nat} (h:Tab s n)
include h
theorem Ks6 {a:Nat} (ha:a < n):Kaz (s,(a:Int))=some (Ks4 s n a):=by
 have l0:(0:Nat) < n:=by have:=h.lo; omega
 have l1:(1:Nat) < n:=by have:=h.lo; omega
 have e0:(0:Int)=((0:Nat):Int):=rfl
 have e1:(1:Int)=((1:Nat):Int):=rfl
 unfold Kaz Ks4
 simp only
 rw [e0,e1]
 simp only [Kry h l0 ha,Krz h l1 ha,Krz h ha l1,Krz h l0 ha,Krz h ha l0,sLe h ha ha,bs,Ks2]
 generalize (pl s n 0 a == a)=b1
 generalize (ti s n 1 a == a)=b2
 generalize (ti s n a 1 == a)=b3
 generalize (ti s n 0 a == 0)=b4
 generalize (ti s n a 0 == 0)=b5
 generalize le s n a a=b6
 cases b1 <;> cases b2 <;> cases b3 <;> cases b4 <;> cases b5 <;> cases b6 <;> rfl
theorem Ks7 {a b c:Nat} (ha:a < n) (hb:b < n) (hc:c < n):Kbg (s,(a:Int),(b:Int),(c:Int))=some (Ks5 s n a b c):=by
 unfold Kbg Ks5
 simp only
 simp only [Kry h,Krz h,sLe h,Krt h,Kru h,ha,hb,hc,bs,Ks3]
 generalize e1:pl s n (pl s n a b) c=x1
 generalize e2:pl s n a (pl s n b c)=x2
 generalize e3:ti s n (ti s n a b) c=x3
 generalize e4:ti s n a (ti s n b c)=x4
 generalize ti s n a (pl s n b c)=x5
 generalize pl s n (ti s n a b) (ti s n a c)=x6
 generalize ti s n (pl s n a b) c=x7
 generalize pl s n (ti s n a c) (ti s n b c)=x8
 generalize le s n (pl s n a c) (pl s n b c)=y1
 generalize le s n (ti s n a c) (ti s n b c)=y2
 generalize le s n (ti s n c a) (ti s n c b)=y3
 generalize le s n a b=y4
 generalize le s n b c=y5
 generalize le s n a c=y6
 simp only [bne]
 generalize (x1 == x2)=b1
 generalize (x3 == x4)=b2
 generalize (x5 == x6)=b3
 generalize (x7 == x8)=b4
 cases b1 <;> cases b2 <;> cases b3 <;> cases b4 <;> first | rfl | (cases y4 <;> cases y5 <;> cases y6 <;> cases y1 <;> cases y2 <;> cases y3 <;> rfl)
theorem Ks8 {a b c:Nat} (ha:a < n) (hb:b < n) (hc:c < n):Khp (s,(a:Int),(b:Int),(c:Int))=some (Ks5 s n a b c):=by
 unfold Khp Ks5
 simp only
 simp only [Ks0 h,Ks1 h,iLe h,Krt h,Kru h,ha,hb,hc,bs,Ks3]
 generalize e1:pl s n (pl s n a b) c=x1
 generalize e2:pl s n a (pl s n b c)=x2
 generalize e3:ti s n (ti s n a b) c=x3
 generalize e4:ti s n a (ti s n b c)=x4
 generalize ti s n a (pl s n b c)=x5
 generalize pl s n (ti s n a b) (ti s n a c)=x6
 generalize ti s n (pl s n a b) c=x7
 generalize pl s n (ti s n a c) (ti s n b c)=x8
 generalize le s n (pl s n a c) (pl s n b c)=y1
 generalize le s n (ti s n a c) (ti s n b c)=y2
 generalize le s n (ti s n c a) (ti s n c b)=y3
 generalize le s n a b=y4
 generalize le s n b c=y5
 generalize le s n a c=y6
 simp only [bne]
 generalize (x1 == x2)=b1
 generalize (x3 == x4)=b2
 generalize (x5 == x6)=b3
 generalize (x7 == x8)=b4
 cases b1 <;> cases b2 <;> cases b3 <;> cases b4 <;> first | rfl | (cases y4 <;> cases y5 <;> cases y6 <;> cases y1 <;> cases y2 <;> cases y3 <;> rfl)
end
def Ks9 (s:K00) (n a b g h:Nat):Bool:=!le s n a h || !le s n b h || le s n g h
def jok (s:K00) (n a b g:Nat):Bool:=le s n a g && le s n b g && (List.range' 0 n).all (Ks9 s n a b g)
def Ksa (s:K00) (n a b:Nat):Int:=match (List.range' 0 n).find? (jok s n a b) with | some g=>(g:Int) | none=>-1
section
variable {s:K00} {n:Nat} (h:Tab s n)
include h
theorem Ksb {a b g:Nat} (ha:a < n) (hb:b < n) (hg:g < n):∀ (k m:Nat) (ok:Bool),m + k=n→Kb3 (s,(a:Int),(b:Int),(g:Int),ok,(m:Int))=some (ok && (List.range' m k).all (Ks9 s n a b g)):=by
 have hhi:=h.hi
 intro k
 induction k with
 | zero =>
  intro m ok hm
  rw [Kb3.eq_def]
  simp only
  rw [h.size,Kre (by omega)]
  simp [bs]
 | succ k ih =>
  intro m ok hm
  rw [Kb3.eq_def]
  simp only
  rw [h.size,Krd (by omega),if_pos rfl,bs,sLe h ha (by omega),sLe h hb (by omega),sLe h hg (by omega)]
  cases ok with
  | false=>rfl
  | true =>
   rw [if_pos rfl]
   rw [List.range'_succ,List.all_cons]
   have ih:∀ ok,_:=fun ok=>ih (m + 1) ok (by omega)
   rw [Krc (by omega)]
   generalize ((m + 1:Nat):Int)=M at ih ⊢
   simp only [bs,Ks9]
   cases le s n a m <;> cases le s n b m <;> cases le s n g m <;> simp [bs,ih,Ks9]
theorem Ksc {a b g:Nat} (ha:a < n) (hb:b < n) (hg:g < n):∀ (k m:Nat) (ok:Bool),m + k=n→Kh9 (s,(a:Int),(b:Int),(g:Int),ok,(m:Int))=some (ok && (List.range' m k).all (Ks9 s n a b g)):=by
 have hhi:=h.hi
 intro k
 induction k with
 | zero =>
  intro m ok hm
  rw [Kh9.eq_def]
  simp only
  rw [h.size,Kre (by omega)]
  simp [bs]
 | succ k ih =>
  intro m ok hm
  rw [Kh9.eq_def]
  simp only
  rw [h.size,Krd (by omega),if_pos rfl,iLe h ha (by omega),iLe h hb (by omega),iLe h hg (by omega)]
  rw [List.range'_succ,List.all_cons]
  have ih:∀ ok,_:=fun ok=>ih (m + 1) ok (by omega)
  rw [Krc (by omega)]
  generalize ((m + 1:Nat):Int)=M at ih ⊢
  simp only [bs,Ks9]
  cases ok <;> cases le s n a m <;> cases le s n b m <;> cases le s n g m <;> simp [bs,ih,Ks9]
theorem Ksd {a b:Nat} (ha:a < n) (hb:b < n):∀ (k g:Nat),g + k=n→Kb7 (s,(a:Int),(b:Int),(g:Int))=some (match (List.range' g k).find? (jok s n a b) with | some g=>.inr (g:Int) | none=>.inl ()):=by
 have hhi:=h.hi
 intro k
 induction k with
 | zero =>
  intro g hm
  rw [Kb7.eq_def]
  simp only
  rw [h.size,Kre (by omega)]
  rfl
 | succ k ih =>
  intro g hm
  rw [Kb7.eq_def]
  simp only
  rw [h.size,Krd (by omega),if_pos rfl,sLe h ha (by omega),sLe h hb (by omega)]
  have ih:=ih (g + 1) (by omega)
  rw [Krc (by omega),List.range'_succ,List.find?_cons]
  have hl:=fun ok=>Ksb h ha hb (g:=g) (by omega) n 0 ok (by omega)
  rw [show ((0:Nat):Int)=0 from rfl] at hl
  generalize ((g + 1:Nat):Int)=M at ih ⊢
  have hj:jok s n a b g=(le s n a g && le s n b g && (List.range' 0 n).all (Ks9 s n a b g)):=rfl
  rw [hj]
  cases le s n a g <;> cases le s n b g <;> cases hq:(List.range' 0 n).all (Ks9 s n a b g) <;> simp [bs,hl,hq,ih]
theorem Kse {a b:Nat} (ha:a < n) (hb:b < n):∀ (k g:Nat),g + k=n→Khe (s,(a:Int),(b:Int),(g:Int))=some (match (List.range' g k).find? (jok s n a b) with | some g=>.inr (g:Int) | none=>.inl ()):=by
 have hhi:=h.hi
 intro k
 induction k with
 | zero =>
  intro g hm
  rw [Khe.eq_def]
  simp only
  rw [h.size,Kre (by omega)]
  rfl
 | succ k ih =>
  intro g hm
  rw [Khe.eq_def]
  simp only
  rw [h.size,Krd (by omega),if_pos rfl,iLe h ha (by omega),iLe h hb (by omega)]
  have ih:=ih (g + 1) (by omega)
  rw [Krc (by omega),List.range'_succ,List.find?_cons]
  have hl:=fun ok=>Ksc h ha hb (g:=g) (by omega) n 0 ok (by omega)
  rw [show ((0:Nat):Int)=0 from rfl] at hl
  generalize ((g + 1:Nat):Int)=M at ih ⊢
  have hj:jok s n a b g=(le s n a g && le s n b g && (List.range' 0 n).all (Ks9 s n a b g)):=rfl
  rw [hj]
  cases le s n a g <;> cases le s n b g <;> cases hq:(List.range' 0 n).all (Ks9 s n a b g) <;> simp [bs,hl,hq,ih]
theorem Ksf {a b:Nat} (ha:a < n) (hb:b < n):Kba (s,(a:Int),(b:Int))=some (Ksa s n a b):=by
 unfold Kba Ksa
 simp only
 have:=Ksd h ha hb n 0 (by omega)
 rw [show ((0:Nat):Int)=0 from rfl] at this
 rw [this,bs]
 cases (List.range' 0 n).find? (jok s n a b) <;> rfl
theorem Ksg {a b:Nat} (ha:a < n) (hb:b < n):Khh (s,(a:Int),(b:Int))=some (Ksa s n a b):=by
 unfold Khh Ksa
 simp only
 have:=Kse h ha hb n 0 (by omega)
 rw [show ((0:Nat):Int)=0 from rfl] at this
 rw [this,bs]
 cases (List.range' 0 n).find? (jok s n a b) <;> rfl
def Ksh (s:K00) (n a b:Nat):Bool:=(pl s n a b == pl s n b a) && ((a == b) || !le s n a b || !le s n b a) && decide (Ksa s n a b ≥ 0)
omit h in
theorem Ksi (x:Int):decide (x < 0)=!decide (x ≥ 0):=by
 by_cases h:x < 0
 ·rw [decide_eq_true h,decide_eq_false (by omega)]; rfl
 ·rw [decide_eq_false h,decide_eq_true (by omega)]; rfl
theorem Ksj {a b:Nat} (ha:a < n) (hb:b < n):Kbd (s,(a:Int),(b:Int))=some (Ksh s n a b):=by
 unfold Kbd Ksh
 simp only
 rw [Kry h ha hb,Kry h hb ha,sLe h ha hb,sLe h hb ha,Ksf h ha hb]
 simp only [bs,Ks2]
 generalize (pl s n a b == pl s n b a)=b1
 generalize (a == b)=b2
 cases b1 <;> cases b2 <;> cases le s n a b <;> cases le s n b a <;> simp [bs]
end
def inB (x lo hi:Int):Bool:=decide (x ≥ lo) && decide (x ≤ hi)
theorem sIn (x lo hi:Int):Kac (x,lo,hi)=some (inB x lo hi):=by
 unfold Kac inB
 simp only
 cases decide (x ≥ lo) <;> simp [bs]
theorem iIn (x lo hi:Int):Kgt (x,lo,hi)=some (inB x lo hi):=by
 unfold Kgt inB
 simp only
 cases decide (x ≥ lo) <;> simp [bs]
def Ksk (s:K00) (n:Nat):Bool:=(List.range' 0 n).all fun a=>Ks4 s n a && (List.range' 0 n).all fun b=>Ksh s n a b && (List.range' 0 n).all fun c=>Ks5 s n a b c
section
variable {s:K00} {n:Nat} (h:Tab s n)
include h
theorem Ksl {a b:Nat} (ha:a < n) (hb:b < n):∀ (k c:Nat),c + k=n→Kbk (s,(a:Int),(b:Int),(c:Int))=some (if (List.range' c k).all (fun c=>Ks5 s n a b c) then .inl () else .inr false):=by
 have hhi:=h.hi
 intro k
 induction k with
 | zero =>
  intro c hm
  rw [Kbk.eq_def]
  simp only
  rw [h.size,Kre (by omega)]
  rfl
 | succ k ih =>
  intro c hm
  rw [Kbk.eq_def]
  simp only
  rw [h.size,Krd (by omega),if_pos rfl,Ks7 h ha hb (by omega),bs]
  have ih:=ih (c + 1) (by omega)
  rw [Krc (by omega),List.range'_succ,List.all_cons]
  generalize ((c + 1:Nat):Int)=M at ih ⊢
  generalize (List.range' (c + 1) k).all (fun c=>Ks5 s n a b c)=r at ih ⊢
  cases Ks5 s n a b c <;> cases r <;> simp [ih]
theorem Ksm {a b:Nat} (ha:a < n) (hb:b < n):∀ (k c:Nat),c + k=n→Khx (s,(a:Int),(b:Int),(c:Int))=some (if (List.range' c k).all (fun c=>Ks5 s n a b c) then .inl () else .inr false):=by
 have hhi:=h.hi
 intro k
 induction k with
 | zero =>
  intro c hm
  rw [Khx.eq_def]
  simp only
  rw [h.size,Kre (by omega)]
  rfl
 | succ k ih =>
  intro c hm
  rw [Khx.eq_def]
  simp only
  rw [h.size,Krd (by omega),if_pos rfl,Ks8 h ha hb (by omega),bs]
  have ih:=ih (c + 1) (by omega)
  rw [Krc (by omega),List.range'_succ,List.all_cons]
  generalize ((c + 1:Nat):Int)=M at ih ⊢
  generalize (List.range' (c + 1) k).all (fun c=>Ks5 s n a b c)=r at ih ⊢
  cases Ks5 s n a b c <;> cases r <;> simp [ih]
theorem Ksn {a:Nat} (ha:a < n):∀ (k b:Nat),b + k=n→Kbo (s,(a:Int),(b:Int))=some (if (List.range' b k).all (fun b=>Ksh s n a b && (List.range' 0 n).all fun c=>Ks5 s n a b c) then .inl () else .inr false):=by
 have hhi:=h.hi
 intro k
 induction k with
 | zero =>
  intro c hm
  rw [Kbo.eq_def]
  simp only
  rw [h.size,Kre (by omega)]
  rfl
 | succ k ih =>
  intro b hm
  rw [Kbo.eq_def]
  simp only
  have hl:=Ksl h ha (b:=b) (by omega) n 0 (by omega)
  rw [show ((0:Nat):Int)=0 from rfl] at hl
  rw [h.size,Krd (by omega),if_pos rfl,Ksj h ha (by omega),bs,hl]
  have ih:=ih (b + 1) (by omega)
  rw [Krc (by omega),List.range'_succ,List.all_cons]
  generalize ((b + 1:Nat):Int)=M at ih ⊢
  generalize (List.range' (b + 1) k).all (fun b=>Ksh s n a b && (List.range' 0 n).all fun c=>Ks5 s n a b c)=r at ih ⊢
  cases Ksh s n a b <;> cases (List.range' 0 n).all (fun c=>Ks5 s n a b c) <;> cases r <;> simp [ih,bs]
theorem Kso {a:Nat} (ha:a < n):∀ (k b:Nat),b + k=n→Ki1 (s,(a:Int),(b:Int))=some (if (List.range' b k).all (fun b=>Ksh s n a b && (List.range' 0 n).all fun c=>Ks5 s n a b c) then .inl () else .inr false):=by
 have hhi:=h.hi
 intro k
 induction k with
 | zero =>
  intro c hm
  rw [Ki1.eq_def]
  simp only
  rw [h.size,Kre (by omega)]
  rfl
 | succ k ih =>
  intro b hm
  have hb:b < n:=by omega
  rw [Ki1.eq_def]
  simp only
  have hl:=Ksm h ha (b:=b) (by omega) n 0 (by omega)
  rw [show ((0:Nat):Int)=0 from rfl] at hl
  rw [h.size,Krd (by omega),if_pos rfl,Ks0 h ha hb,Ks0 h hb ha,iLe h ha hb,iLe h hb ha,Ksg h ha hb,hl]
  have ih:=ih (b + 1) (by omega)
  rw [Krc (by omega),List.range'_succ,List.all_cons]
  generalize ((b + 1:Nat):Int)=M at ih ⊢
  generalize (List.range' (b + 1) k).all (fun b=>Ksh s n a b && (List.range' 0 n).all fun c=>Ks5 s n a b c)=r at ih ⊢
  simp only [bs,Ks3,Ksi]
  cases h1:(pl s n a b == pl s n b a) <;> cases h2:(a == b) <;> cases h3:decide (Ksa s n a b ≥ 0) <;> cases h4:le s n a b <;> cases h5:le s n b a <;> cases h6:(List.range' 0 n).all (fun c=>Ks5 s n a b c) <;> cases r <;> simp only [Ksh,bne,h1,h2,h3,h4,h5,h6,ih,bs,Bool.not_true,Bool.not_false,Bool.true_and,Bool.false_and,Bool.and_true,Bool.and_false,Bool.true_or,Bool.false_or,Bool.or_true,Bool.or_false,if_true,if_false,Bool.false_eq_true]
theorem Ksp:∀ (k a:Nat),a + k=n→Kbt (s,(a:Int))=some (if (List.range' a k).all (fun a=>Ks4 s n a && (List.range' 0 n).all fun b=>Ksh s n a b && (List.range' 0 n).all fun c=>Ks5 s n a b c) then .inl () else .inr false):=by
 have hhi:=h.hi
 intro k
 induction k with
 | zero =>
  intro c hm
  rw [Kbt.eq_def]
  simp only
  rw [h.size,Kre (by omega)]
  rfl
 | succ k ih =>
  intro a hm
  have ha:a < n:=by omega
  rw [Kbt.eq_def]
  simp only
  have hl:=Ksn h ha n 0 (by omega)
  rw [show ((0:Nat):Int)=0 from rfl] at hl
  rw [h.size,Krd (by omega),if_pos rfl,Ks6 h ha,bs,hl]
  have ih:=ih (a + 1) (by omega)
  rw [Krc (by omega),List.range'_succ,List.all_cons]
  generalize ((a + 1:Nat):Int)=M at ih ⊢
  generalize (List.range' (a + 1) k).all (fun a=>Ks4 s n a && (List.range' 0 n).all fun b=>Ksh s n a b && (List.range' 0 n).all fun c=>Ks5 s n a b c)=r at ih ⊢
  cases Ks4 s n a <;> cases (List.range' 0 n).all (fun b=>Ksh s n a b && (List.range' 0 n).all fun c=>Ks5 s n a b c) <;> cases r <;> simp [ih,bs]
theorem Ksq:∀ (k a:Nat),a + k=n→Ki5 (s,(a:Int))=some (if (List.range' a k).all (fun a=>Ks4 s n a && (List.range' 0 n).all fun b=>Ksh s n a b && (List.range' 0 n).all fun c=>Ks5 s n a b c) then .inl () else .inr false):=by
 have hhi:=h.hi
 have l0:(0:Nat) < n:=by have:=h.lo; omega
 have l1:(1:Nat) < n:=by have:=h.lo; omega
 intro k
 induction k with
 | zero =>
  intro c hm
  rw [Ki5.eq_def]
  simp only
  rw [h.size,Kre (by omega)]
  rfl
 | succ k ih =>
  intro a hm
  have ha:a < n:=by omega
  rw [Ki5.eq_def]
  simp only
  have hl:=Kso h ha n 0 (by omega)
  have q1:Kgz (s,0,(a:Int))=_:=Ks0 h l0 ha
  have q2:Kh2 (s,1,(a:Int))=_:=Ks1 h l1 ha
  have q3:Kh2 (s,(a:Int),1)=_:=Ks1 h ha l1
  have q4:Kh2 (s,0,(a:Int))=_:=Ks1 h l0 ha
  have q5:Kh2 (s,(a:Int),0)=_:=Ks1 h ha l0
  have z1:(((ti s n 0 a:Nat):Int) != 0)=(ti s n 0 a != 0):=Ks3 _ 0
  have z2:(((ti s n a 0:Nat):Int) != 0)=(ti s n a 0 != 0):=Ks3 _ 0
  rw [show ((0:Nat):Int)=0 from rfl] at hl
  rw [h.size,Krd (by omega),if_pos rfl,q1,q2,q3,q4,q5,iLe h ha ha,hl]
  have ih:=ih (a + 1) (by omega)
  rw [Krc (by omega),List.range'_succ,List.all_cons]
  generalize ((a + 1:Nat):Int)=M at ih ⊢
  generalize (List.range' (a + 1) k).all (fun a=>Ks4 s n a && (List.range' 0 n).all fun b=>Ksh s n a b && (List.range' 0 n).all fun c=>Ks5 s n a b c)=r at ih ⊢
  simp only [bs,Ks3,z1,z2]
  cases h1:(pl s n 0 a == a) <;> cases h2:(ti s n 1 a == a) <;> cases h3:(ti s n a 1 == a) <;> cases h4:(ti s n 0 a == 0) <;> cases h5:(ti s n a 0 == 0) <;> cases h6:le s n a a <;> cases h7:(List.range' 0 n).all (fun b=>Ksh s n a b && (List.range' 0 n).all fun c=>Ks5 s n a b c) <;> cases r <;> simp only [Ks4,bne,h1,h2,h3,h4,h5,h6,h7,ih,bs,Bool.not_true,Bool.not_false,Bool.true_and,Bool.false_and,Bool.and_true,Bool.and_false,if_true,if_false,Bool.false_eq_true]
end
theorem Ksr {α:Type} {l r:List α} {x:α} {i:Nat} (h:l.drop i=x :: r):i < l.length∧idx l (i:Int)=some x∧l.drop (i + 1)=r:=by
 have hi:i < l.length:=by
  rcases Nat.lt_or_ge i l.length with h' | h'
  ·exact h'
  ·rw [List.drop_eq_nil_of_le h'] at h; cases h
 have e:=List.drop_eq_getElem_cons hi
 rw [h] at e
 obtain ⟨e1,e2⟩:=List.cons.inj e
 exact ⟨hi,by rw [Krb hi,e1],e2.symm⟩
theorem Kss {α:Type} {l:List α} {i:Nat} (h:l.drop i=[]):l.length ≤ i:=by
 rcases Nat.lt_or_ge i l.length with h' | h'
 ·rw [List.drop_eq_getElem_cons h'] at h; cases h
 ·exact h'
def Kst (c:Int):Bool:=inB c 3 18 || c == 35
def Ksu (c:Int):Bool:=inB c 19 34 || c == 36
def Ksv (c:Int):Int:=if c == 0 then 0 else if c == 1 || c == 2 || Kst c then 2 else if Ksu c then 1 else -1
theorem Ksw (c:Int):Kbz c=some (Kst c):=by
 unfold Kbz Kst
 simp only [sIn,bs]
 cases inB c 3 18 <;> rfl
theorem Ksx (c:Int):Kc2 c=some (Ksu c):=by
 unfold Kc2 Ksu
 simp only [sIn,bs]
 cases inB c 19 34 <;> rfl
theorem Ksy (c:Int):Kc5 c=some (Ksv c):=by
 unfold Kc5 Ksv
 simp only [Ksw,Ksx,bs]
 cases c == 0 <;> cases c == 1 <;> cases c == 2 <;> cases Kst c <;> cases Ksu c <;> rfl
theorem Ksz (c:Int):(c=0∧Ksv c=0)∨((c=1∨c=2∨(3 ≤ c∧c ≤ 18)∨c=35)∧Ksv c=2)∨(((19 ≤ c∧c ≤ 34)∨c=36)∧Ksv c=1)∨((c < 0∨36 < c)∧Ksv c=-1):=by
 unfold Ksv Kst Ksu inB
 by_cases h0:c=0
 ·left; subst h0; exact ⟨rfl,rfl⟩
 ·right
  have e0:(c == 0)=false:=by simpa using h0
  by_cases h1:c=1∨c=2∨(3 ≤ c∧c ≤ 18)∨c=35
  ·left
   refine ⟨h1,?_⟩
   have:(c == 1 || c == 2 || (decide (c ≥ 3) && decide (c ≤ 18) || c == 35))=true:=by
    simp only [Bool.or_eq_true,Bool.and_eq_true,beq_iff_eq,decide_eq_true_eq]; omega
   rw [e0,this]; rfl
  ·right
   have q:(c == 1 || c == 2 || (decide (c ≥ 3) && decide (c ≤ 18) || c == 35))=false:=by
    rw [Bool.eq_false_iff]; intro h
    simp only [Bool.or_eq_true,Bool.and_eq_true,beq_iff_eq,decide_eq_true_eq] at h; omega
   rw [e0,q]
   by_cases h2:(19 ≤ c∧c ≤ 34)∨c=36
   ·left
    refine ⟨h2,?_⟩
    have:(decide (c ≥ 19) && decide (c ≤ 34) || c == 36)=true:=by
     simp only [Bool.or_eq_true,Bool.and_eq_true,beq_iff_eq,decide_eq_true_eq]; omega
    rw [this]; rfl
   ·right
    refine ⟨by omega,?_⟩
    have:(decide (c ≥ 19) && decide (c ≤ 34) || c == 36)=false:=by
     rw [Bool.eq_false_iff]; intro h
     simp only [Bool.or_eq_true,Bool.and_eq_true,beq_iff_eq,decide_eq_true_eq] at h; omega
    rw [this]; rfl
def Kt0 (c:Int):Int × Int :=
 if inB c 0 2 then (c,-1) else if inB c 3 18 then (3,c - 3) else if inB c 19 34 then (4,c - 19) else if c == 35 then (3,-1) else if c == 36 then (4,-1) else (5,-1)
theorem Kt1 (c:Int):Kib c=some (Kt0 c):=by
 unfold Kib Kt0
 simp only [iIn,bs]
 cases h1:inB c 0 2
 ·cases h2:inB c 3 18
  ·cases h3:inB c 19 34
   ·cases c == 35 <;> cases c == 36 <;> rfl
   ·simp only [inB,Bool.and_eq_true,decide_eq_true_eq] at h3
    simp only [Bool.false_eq_true,if_false,if_true]
    rw [Kra (by omega) (by omega)]
  ·simp only [inB,Bool.and_eq_true,decide_eq_true_eq] at h2
   simp only [Bool.false_eq_true,if_false,if_true]
   rw [Kra (by omega) (by omega)]
 ·rfl
theorem Kt2 (c:Int):(c=0∧Kt0 c=(0,-1))∨(c=1∧Kt0 c=(1,-1))∨(c=2∧Kt0 c=(2,-1))∨((3 ≤ c∧c ≤ 18)∧Kt0 c=(3,c - 3))∨(c=35∧Kt0 c=(3,-1)) ∨
  ((19 ≤ c∧c ≤ 34)∧Kt0 c=(4,c - 19))∨(c=36∧Kt0 c=(4,-1))∨((c < 0∨36 < c)∧Kt0 c=(5,-1)):=by
 have inT:∀ lo hi,lo ≤ c→c ≤ hi→inB c lo hi=true:=fun lo hi h1 h2=>by simp only [inB,Bool.and_eq_true,decide_eq_true_eq]; omega
 have inF:∀ lo hi,(c < lo∨hi < c)→inB c lo hi=false:=fun lo hi h=>by rw [Bool.eq_false_iff]; intro h'; simp only [inB,Bool.and_eq_true,decide_eq_true_eq] at h'; omega
 unfold Kt0
 by_cases h0:0 ≤ c∧c ≤ 2
 ·rw [inT 0 2 h0.1 h0.2]
  have:c=0∨c=1∨c=2:=by omega
  rcases this with rfl | rfl | rfl <;> simp
 ·rw [inF 0 2 (by omega)]
  by_cases h1:3 ≤ c∧c ≤ 18
  ·rw [inT 3 18 h1.1 h1.2]
   exact .inr (.inr (.inr (.inl ⟨h1,rfl⟩)))
  ·rw [inF 3 18 (by omega)]
   by_cases h2:19 ≤ c∧c ≤ 34
   ·rw [inT 19 34 h2.1 h2.2]
    exact .inr (.inr (.inr (.inr (.inr (.inl ⟨h2,rfl⟩)))))
   ·rw [inF 19 34 (by omega)]
    by_cases h3:c=35
    ·subst h3; simp
    ·by_cases h4:c=36
     ·subst h4; simp
     ·have e3:(c == 35)=false:=by simpa using h3
      have e4:(c == 36)=false:=by simpa using h4
      rw [e3,e4]
      refine .inr (.inr (.inr (.inr (.inr (.inr (.inr ⟨by omega,rfl⟩))))))
def skip:Nat→List Int→Option (List Int)
 | 0,l=>some l
 | _ + 1,[]=>none
 | m + 1,c :: l=>if Ksv c=-1 then none else skip (m + (Ksv c).toNat) l
theorem Kt3 (l:List Int):skip 0 l=some l:=by cases l <;> rfl
theorem Kt4 (m:Nat):skip (m + 1) []=none:=rfl
theorem Kt5 (m:Nat) (c:Int) (l:List Int):skip (m + 1) (c :: l)=if Ksv c=-1 then none else skip (m + (Ksv c).toNat) l:=rfl
theorem Kt6 (l:List Int):∀ (m k:Nat),skip (m + k) l=(skip m l).bind (skip k):=by
 induction l with
 | nil =>
  intro m k
  cases m with
  | zero=>rw [Nat.zero_add,Kt3]; rfl
  | succ m=>rw [show m + 1 + k=(m + k) + 1 by omega,Kt4,Kt4]; rfl
 | cons c l ih =>
  intro m k
  cases m with
  | zero=>rw [Nat.zero_add,Kt3]; rfl
  | succ m =>
   rw [show m + 1 + k=(m + k) + 1 by omega,Kt5,Kt5]
   by_cases h:Ksv c=-1
   ·rw [if_pos h,if_pos h]; rfl
   ·rw [if_neg h,if_neg h,← ih]; congr 1; omega
theorem Kt7 (l:List Int):∀ (m:Nat) (r:List Int),skip m l=some r→∃ p,l=p ++ r∧m ≤ p.length:=by
 induction l with
 | nil =>
  intro m r h
  cases m with
  | zero=>rw [Kt3] at h; cases h; exact ⟨[],rfl,Nat.le_refl _⟩
  | succ m=>rw [Kt4] at h; cases h
 | cons c l ih =>
  intro m r h
  cases m with
  | zero=>rw [Kt3] at h; cases h; exact ⟨[],rfl,Nat.le_refl _⟩
  | succ m =>
   rw [Kt5] at h
   by_cases hk:Ksv c=-1
   ·rw [if_pos hk] at h; cases h
   ·rw [if_neg hk] at h
    obtain ⟨p,e,hp⟩:=ih _ _ h
    exact ⟨c :: p,by rw [e]; rfl,by simp; omega⟩
def Kt8 (ty:List Int) (m i:Nat):Int:=match skip m (ty.drop i) with | some r=>((ty.length - r.length:Nat):Int) | none=>-1
theorem Kt9 (ty:List Int) (hty:ty.length ≤ 1099511627776):∀ (l:List Int) (i m:Nat),ty.drop i=l→m ≤ 1099511627776 + 2 * i→∃ x,Kc9 (ty,((m + 1:Nat):Int),(i:Int))=some x∧(match x with | .inl ()=>-1 | .inr r=>r)=Kt8 ty (m + 1) i:=by
 intro l
 induction l with
 | nil =>
  intro i m hl hm
  rw [Kc9.eq_def]
  simp only
  rw [Kre (Kss hl)]
  exact ⟨.inl (),rfl,by unfold Kt8; rw [hl,Kt4]⟩
 | cons c l ih =>
  intro i m hl hm
  obtain ⟨hi,hx,hd⟩:=Ksr hl
  have hi2:(i:Int) < 1099511627776:=by omega
  rw [Kc9.eq_def]
  simp only
  rw [Krd hi,if_pos rfl,hx,bs,Ksy,bs]
  have he:Kt8 ty (m + 1) i=(match (if Ksv c=-1 then none else skip (m + (Ksv c).toNat) l) with | some r=>((ty.length - r.length:Nat):Int) | none=>-1):=by
   unfold Kt8; rw [hl,Kt5]
  rw [he]
  by_cases hk:Ksv c=-1
  ·rw [if_pos hk,hk]
   exact ⟨.inr (-1),rfl,rfl⟩
  ·rw [if_neg hk]
   have hk0:0 ≤ Ksv c∧Ksv c ≤ 2:=by rcases Ksz c with h | h | h | h <;> omega
   obtain ⟨k,hkk⟩:∃ k:Nat,Ksv c=(k:Int):=⟨(Ksv c).toNat,by omega⟩
   rw [decide_eq_false (by omega),if_neg (by decide),hkk,Int.toNat_natCast]
   rw [Kra (x:=((m + 1:Nat):Int) - 1) (by omega) (by omega),show ((m + 1:Nat):Int) - 1=(m:Int) by omega,Kra (x:=(m:Int) + (k:Int)) (by omega) (by omega),Krc (by omega)]
   by_cases h0:m + k=0
   ·rw [show ((m:Int) + (k:Int) == 0)=true by simp; omega,if_pos rfl,h0,Kt3]
    refine ⟨_,rfl,?_⟩
    have:l.length=ty.length - (i + 1):=by rw [← hd,List.length_drop]
    simp only
    omega
   ·rw [show ((m:Int) + (k:Int) == 0)=false by simp; omega,if_neg (by decide)]
    obtain ⟨q,hq⟩:∃ q,m + k=q + 1:=⟨m + k - 1,by omega⟩
    have:=ih (i + 1) q hd (by omega)
    rw [show (m:Int) + (k:Int)=((q + 1:Nat):Int) by omega]
    obtain ⟨x,h1,h2⟩:=this
    exact ⟨x,h1,by rw [h2,hq]; unfold Kt8; rw [hd]⟩
theorem Kta (ty:List Int) (hty:ty.length ≤ 1099511627776) (i:Nat) (hi:i ≤ ty.length):Kcc (ty,(i:Int))=some (Kt8 ty 1 i):=by
 unfold Kcc
 obtain ⟨x,h1,h2⟩:=Kt9 ty hty _ i 0 rfl (by omega)
 simp only
 rw [show (1:Int)=((0 + 1:Nat):Int) from rfl,h1,bs]
 rw [← h2]
 cases x <;> rfl
theorem Ktb (ty:List Int) (i:Nat) (hi:i ≤ ty.length):Kt8 ty 2 i=(if Kt8 ty 1 i=-1 then -1 else Kt8 ty 1 (Kt8 ty 1 i).toNat):=by
 unfold Kt8
 rw [show 2=1 + 1 from rfl,Kt6]
 cases h:skip 1 (ty.drop i) with
 | none=>simp
 | some r =>
  obtain ⟨p,hp,hl⟩:=Kt7 _ _ _ h
  have hlen:ty.length - i=p.length + r.length:=by rw [← List.length_drop,hp,List.length_append]
  have:ty.drop (ty.length - r.length)=r:=by
   have e:ty.drop (ty.length - r.length)=(ty.drop i).drop p.length:=by rw [List.drop_drop]; congr 1; omega
   rw [e,hp,List.drop_left]
  simp only [Option.bind_some]
  rw [if_neg (by omega),Int.toNat_natCast,this]
theorem Ktc (ty:List Int) (hty:ty.length ≤ 1099511627776):∀ (d i:Nat),ty.length - i=d→Kie (ty,(i:Int))=some (Kt8 ty 1 i):=by
 intro d
 induction d using Nat.strongRecOn with
 | ind d ih =>
  intro i hd
  rw [Kie.eq_def]
  simp only
  rw [decide_eq_false (by omega:¬ (i:Int) < 0)]
  simp only [Bool.false_eq_true,if_false,bs]
  by_cases hi:i < ty.length
  ·rw [decide_eq_false (by omega),if_neg (by decide),Krb hi,bs,Kt1,bs]
   have hdr:=List.drop_eq_getElem_cons hi
   have he:∀ k:Nat,Ksv ty[i]=(k:Int)→Kt8 ty 1 i=Kt8 ty k (i + 1):=fun k hk=>by
    unfold Kt8
    rw [hdr,show 1=0 + 1 from rfl,Kt5,hk,if_neg (by omega),Int.toNat_natCast,Nat.zero_add]
   have hn:Ksv ty[i]=-1→Kt8 ty 1 i=-1:=fun hk=>by
    unfold Kt8
    rw [hdr,show 1=0 + 1 from rfl,Kt5,if_pos hk]
   have i1:=ih (ty.length - (i + 1)) (by omega) (i + 1) rfl
   have hz:∀ i:Nat,i ≤ ty.length→Kt8 ty 0 i=(i:Int):=fun i hi=>by unfold Kt8; rw [Kt3]; simp only [List.length_drop]; omega
   rw [Krc (by omega)]
   have two:Ksv ty[i]=2→((Kie (ty,((i + 1:Nat):Int))) >>= fun r_11_4=>(Kie (ty,r_11_4)) >>= fun r_11_5=>some r_11_5)=some (Kt8 ty 1 i):=fun hk=>by
    rw [i1,bs,he 2 hk,Ktb ty (i + 1) (by omega)]
    by_cases h1:Kt8 ty 1 (i + 1)=-1
    ·rw [h1,if_pos rfl,Kie.eq_def]; rfl
    ·rw [if_neg h1]
     obtain ⟨e,hee,hlo⟩:∃ e:Nat,Kt8 ty 1 (i + 1)=(e:Int)∧i + 1 < e:=by
      unfold Kt8 at h1 ⊢
      cases hs:skip 1 (ty.drop (i + 1)) with
      | none=>rw [hs] at h1; exact absurd rfl h1
      | some r =>
       obtain ⟨p,hp,hl⟩:=Kt7 _ _ _ hs
       have hlen:ty.length - (i + 1)=p.length + r.length:=by rw [← List.length_drop,hp,List.length_append]
       exact ⟨_,rfl,by omega⟩
     rw [hee,Int.toNat_natCast,ih (ty.length - e) (by omega) e rfl,bs]
   rcases Kt2 ty[i] with ⟨h,e⟩ | ⟨h,e⟩ | ⟨h,e⟩ | ⟨h,e⟩ | ⟨h,e⟩ | ⟨h,e⟩ | ⟨h,e⟩ | ⟨h,e⟩ <;> rw [e] <;> simp only []
   ·have hk:Ksv ty[i]=0:=by rcases Ksz ty[i] with h | h | h | h <;> omega
    rw [if_pos (by rfl),he 0 hk,hz _ (by omega)]
   ·have hk:Ksv ty[i]=2:=by rcases Ksz ty[i] with h | h | h | h <;> omega
    exact two hk
   ·have hk:Ksv ty[i]=2:=by rcases Ksz ty[i] with h | h | h | h <;> omega
    exact two hk
   ·have hk:Ksv ty[i]=2:=by rcases Ksz ty[i] with h | h | h | h <;> omega
    exact two hk
   ·have hk:Ksv ty[i]=2:=by rcases Ksz ty[i] with h | h | h | h <;> omega
    exact two hk
   ·have hk:Ksv ty[i]=1:=by rcases Ksz ty[i] with h | h | h | h <;> omega
    rw [he 1 hk,if_neg (by decide),if_pos (by rfl),i1,bs]
   ·have hk:Ksv ty[i]=1:=by rcases Ksz ty[i] with h | h | h | h <;> omega
    rw [he 1 hk,if_neg (by decide),if_pos (by rfl),i1,bs]
   ·have hk:Ksv ty[i]=-1:=by rcases Ksz ty[i] with h | h | h | h <;> omega
    rw [hn hk]; rfl
  ·rw [decide_eq_true (by omega),if_pos rfl]
   unfold Kt8
   rw [List.drop_eq_nil_of_le (by omega),Kt4]
def wtB (ty:List Int):Bool:=decide (ty.length ≤ 40) && (skip 1 ty == some [])
theorem Ktd (ty:List Int):(Kt8 ty 1 0 == (ty.length:Int))=(skip 1 ty == some []):=by
 unfold Kt8
 rw [List.drop_zero]
 cases h:skip 1 ty with
 | none=>simp
 | some r =>
  obtain ⟨p,hp,hl⟩:=Kt7 _ _ _ h
  have hlen:ty.length=p.length + r.length:=by rw [hp,List.length_append]
  cases r with
  | nil=>simp
  | cons x xs =>
   simp only [List.length_cons] at hlen ⊢
   simp
   omega
theorem Kte (ty:List Int) (hty:ty.length ≤ 1099511627776):Kcf ty=some (wtB ty):=by
 unfold Kcf wtB
 by_cases h:ty.length ≤ 40
 ·rw [decide_eq_true (by omega:(ty.length:Int) ≤ 40),if_pos rfl,show (0:Int)=((0:Nat):Int) from rfl,Kta ty hty 0 (by omega),bs,Ktd,decide_eq_true h]
  cases hs:skip 1 ty == some [] with
  | false=>rfl
  | true =>
   have:0 < ty.length:=by
    rcases ty with _ | ⟨c,l⟩
    ·rw [show skip 1 []=none from rfl] at hs; cases hs
    ·simp
   rw [if_pos rfl,decide_eq_true (by omega:(ty.length:Int) > ((0:Nat):Int))]; rfl
 ·rw [decide_eq_false (by omega:¬ (ty.length:Int) ≤ 40),decide_eq_false h]; rfl
theorem Ktf (ty:List Int) (hty:ty.length ≤ 1099511627776):Kih ty=some (wtB ty):=by
 unfold Kih wtB
 rw [iIn,bs]
 by_cases h:ty.length ≤ 40
 ·rw [decide_eq_true h]
  by_cases h1:1 ≤ ty.length
  ·have:inB (ty.length:Int) 1 40=true:=by simp only [inB,Bool.and_eq_true,decide_eq_true_eq]; omega
   rw [this,if_pos rfl,show (0:Int)=((0:Nat):Int) from rfl,Ktc ty hty _ 0 rfl,bs,Ktd]; rfl
  ·have:inB (ty.length:Int) 1 40=false:=by rw [Bool.eq_false_iff]; intro h'; simp only [inB,Bool.and_eq_true,decide_eq_true_eq] at h'; omega
   have e:ty=[]:=List.length_eq_zero_iff.1 (by omega)
   rw [this,e]; rfl
 ·have:inB (ty.length:Int) 1 40=false:=by rw [Bool.eq_false_iff]; intro h'; simp only [inB,Bool.and_eq_true,decide_eq_true_eq] at h'; omega
  rw [this,decide_eq_false h]; rfl
def Ktg (c:Int):Int:=if 35 ≤ c then -1 else if 19 ≤ c then c - 19 else c - 3
def Kth (size:Int) (closed:Bool) (c:Int):Bool:=!(decide (Ksv c > 0) && decide (c > 2) && (decide (Ktg c ≥ size) || closed && decide (Ktg c < 0)))
theorem Kti {c:Int} (h:Ksv c > 0):Kci c=some (Ktg c):=by
 have:0 ≤ c∧c ≤ 36:=by rcases Ksz c with h | h | h | h <;> omega
 unfold Kci Ktg
 by_cases h1:35 ≤ c
 ·rw [decide_eq_true (by omega:c ≥ 35),if_pos rfl,if_pos h1]
 ·rw [decide_eq_false (by omega:¬ c ≥ 35),if_neg (by decide),if_neg h1]
  by_cases h2:19 ≤ c
  ·rw [decide_eq_true (by omega:c ≥ 19),if_pos rfl,if_pos h2,Kra (by omega) (by omega)]
  ·rw [decide_eq_false (by omega:¬ c ≥ 19),if_neg (by decide),if_neg h2,Kra (by omega) (by omega)]
theorem Ktj (ty:List Int) (hty:ty.length ≤ 1099511627776) (size:Int) (cl:Bool):∀ (l:List Int) (i:Nat),ty.drop i=l→Kcn (ty,size,cl,(i:Int))=some (if l.all (Kth size cl) then .inl () else .inr false):=by
 intro l
 induction l with
 | nil =>
  intro i hl
  rw [Kcn.eq_def]
  simp only
  rw [Kre (Kss hl)]; rfl
 | cons c l ih =>
  intro i hl
  obtain ⟨hi,hx,hd⟩:=Ksr hl
  rw [Kcn.eq_def]
  simp only
  rw [Krd hi,if_pos rfl,hx,bs,bs,Ksy,bs,Krc (by omega)]
  have ih:=ih (i + 1) hd
  generalize ((i + 1:Nat):Int)=M at ih ⊢
  rw [List.all_cons]
  unfold Kth at ih ⊢
  by_cases hk:Ksv c > 0
  ·simp only [bs,Kti hk]
   rw [decide_eq_true hk]
   generalize Ktg c=g at ih ⊢
   cases decide (c > 2) <;> cases decide (g ≥ size) <;> cases cl <;> cases decide (g < 0) <;> simp [bs,ih]
  ·rw [decide_eq_false hk]; simp [bs,ih]
theorem Ktk (ty:List Int) (hty:ty.length ≤ 1099511627776) (size:Int) (cl:Bool):Kcq (ty,size,cl)=some (ty.all (Kth size cl)):=by
 unfold Kcq
 simp only
 rw [show (0:Int)=((0:Nat):Int) from rfl,Ktj ty hty size cl _ 0 rfl,List.drop_zero,bs]
 cases ty.all (Kth size cl) <;> rfl
theorem Ktl (c:Int):Kth 16 false c=true:=by
 unfold Kth Ktg
 rcases Ksz c with ⟨h,e⟩ | ⟨h,e⟩ | ⟨h,e⟩ | ⟨h,e⟩ <;> rw [e] <;> simp <;> split <;> (try split) <;> omega
theorem Ktm {α β:Type} {a:Option α} {f:α→Option β} {x:α} (h:a=some x):(a >>= f)=f x:=by rw [h]; rfl
mutual
def tsz:K01→Nat
 | ⟨_,_,_,ks⟩=>1 + Ktn ks
def Ktn:List K01→Nat
 | []=>0
 | k :: ks=>tsz k + Ktn ks
end
mutual
def tms:K01→Nat
 | ⟨_,_,ty,ks⟩=>ty.length + ks.length + Kto ks
def Kto:List K01→Nat
 | []=>0
 | k :: ks=>tms k + Kto ks
end
theorem Ktp (t:K01):tms t=t.fType.length + t.fKids.length + Kto t.fKids:=by cases t; rw [tms]
def Ktq (left n:Nat):Int:=if n ≤ left then ((left - n:Nat):Int) else -1
theorem Ktr {left n:Nat} (h:n ≤ left):Ktq left n=((left - n:Nat):Int):=if_pos h
theorem Kts {left n:Nat} (h:¬ n ≤ left):Ktq left n=-1:=if_neg h
theorem Ktt (t:K01) (i:Int):Kd2 (t,-1,i)=some (-1):=by
 rw [Kd2.eq_def]
 simp only
 cases decide (i < (t.fKids.length:Int)) <;> rfl
mutual
theorem Ktu:∀ (t:K01) (left:Nat),tms t ≤ 1099511627776→left ≤ 1048576→Kd1 (t,(left:Int))=some (Ktq left (tsz t))
 | ⟨op,N,ty,ks⟩,left,ht,hl=>by
  rw [tms] at ht
  rw [Kd1.eq_def,tsz]
  simp only
  rcases left with _ | l
  ·rw [show wr (((0:Nat):Int) - 1)=-1 from Kra (by omega) (by omega),Ktt,bs,Kts (by omega)]
  ·have h:=Ktv ks ⟨op,N,ty,ks⟩ 0 l rfl (by simp only; omega) (by omega) (by omega)
   rw [Kra (by omega) (by omega),show ((l + 1:Nat):Int) - 1=(l:Int) by omega,show (0:Int)=((0:Nat):Int) from rfl,h,bs]
   unfold Ktq
   by_cases q:Ktn ks ≤ l
   ·rw [if_pos q,if_pos (by omega),show l + 1 - (1 + Ktn ks)=l - Ktn ks by omega]
   ·rw [if_neg q,if_neg (by omega)]
theorem Ktv:∀ (ks:List K01) (t:K01) (i left:Nat),t.fKids.drop i=ks→t.fKids.length ≤ 1099511627776→Kto ks ≤ 1099511627776→left ≤ 1048576→Kd2 (t,(left:Int),(i:Int))=some (Ktq left (Ktn ks))
 | [],t,i,left,hd,hk,ht,hl=>by
  rw [Kd2.eq_def,Ktn]
  simp only
  rw [Kre (Kss hd)]
  simp [bs,Ktq]
 | k :: ks,t,i,left,hd,hk,ht,hl=>by
  obtain ⟨hi,hx,hd'⟩:=Ksr hd
  rw [Kto] at ht
  rw [Kd2.eq_def,Ktn]
  simp only
  rw [Krd hi,if_pos rfl,bs,decide_eq_true (by omega:((left:Nat):Int) ≥ 0),if_pos rfl,hx,bs,Ktu k left (by omega) hl,bs,Krc (by omega)]
  by_cases q:tsz k ≤ left
  ·rw [Ktr q,Ktv ks t (i + 1) (left - tsz k) hd' hk (by omega) (by omega)]
   unfold Ktq
   by_cases q2:Ktn ks ≤ left - tsz k
   ·rw [if_pos q2,if_pos (by omega)]; congr 2; omega
   ·rw [if_neg q2,if_neg (by omega)]
  ·rw [Kts q,Ktt,Kts (by omega)]
end
def Ktw (op:Int):Int:=if inB op 0 12 then ([0,0,2,3,2,2,1,1,3,1,2,1,2]:List Int).getD op.toNat 0 else -1
def Ktx (op:Int):Bool:=op == 5 || op == 8 || op == 9 || op == 11 || op == 12
def Kty (op:Int):Bool:=op == 6 || op == 7 || op == 9
def Ktz (op:Int):ByteArray:=([ByteArray.mk #[120],ByteArray.empty,ByteArray.mk #[97,100,100],ByteArray.mk #[105,102],ByteArray.mk #[112,97,105,114],ByteArray.mk #[115,112,108,105,116],ByteArray.mk #[108,101,102,116],
 ByteArray.mk #[114,105,103,104,116],ByteArray.mk #[99,97,115,101],ByteArray.mk #[102,117,110],ByteArray.mk #[97,112,112],ByteArray.mk #[98,111,120],ByteArray.mk #[111,112,101,110]]:List ByteArray).getD op.toNat ByteArray.empty
theorem Ku0 {op:Int} (h:inB op 0 12=true):op=0∨op=1∨op=2∨op=3∨op=4∨op=5∨op=6∨op=7∨op=8∨op=9∨op=10∨op=11∨op=12:=by
 simp only [inB,Bool.and_eq_true,decide_eq_true_eq] at h
 omega
theorem Ku1 (op:Int):Kd8 op=some (Ktw op):=by
 unfold Kd8 Ktw
 rw [sIn,bs]
 cases h:inB op 0 12
 ·rfl
 ·rcases Ku0 h with rfl | rfl | rfl | rfl | rfl | rfl | rfl | rfl | rfl | rfl | rfl | rfl | rfl <;> rfl
theorem Ku2 (op:Int):Kdb op=some (Ktx op):=by
 unfold Kdb Ktx
 cases op == 5 <;> cases op == 8 <;> cases op == 9 <;> cases op == 11 <;> rfl
theorem Ku3 (op:Int):Kde op=some (Kty op):=by
 unfold Kde Kty
 cases op == 6 <;> cases op == 7 <;> rfl
def Ku4 (op:Int):K04 × Bool:=if inB op 0 12 then (K04.mk (Ktz op) (Ktw op) (Ktx op) (Kty op),true) else (K04.mk ByteArray.empty 0 false false,false)
theorem Ku5 (op:Int):Kj7 op=some (Ku4 op):=by
 unfold Kj7 Ku4
 rw [iIn,bs]
 cases h:inB op 0 12
 ·rfl
 ·rcases Ku0 h with rfl | rfl | rfl | rfl | rfl | rfl | rfl | rfl | rfl | rfl | rfl | rfl | rfl <;> rfl
def Ku6 (op kid:Int):Nat:=if op == 5 && kid == 1 then 2 else if (op == 8 && decide (kid > 0)) || op == 9 || (op == 12 && kid == 1) then 1 else 0
theorem Ku7 (op kid:Int):Ku6 op kid ≤ 2:=by unfold Ku6; split <;> (try split) <;> omega
theorem Ku8 (op kid:Int):Kdn (op,kid)=some ((Ku6 op kid:Nat):Int):=by
 unfold Kdn Ku6
 simp only
 generalize (op == 5)=b1
 generalize (op == 8)=b2
 generalize (op == 9)=b3
 generalize (op == 12)=b4
 generalize (kid == 1)=b5
 generalize decide (kid > 0)=b6
 cases b1 <;> cases b2 <;> cases b3 <;> cases b4 <;> cases b5 <;> cases b6 <;> rfl
theorem Ku9 (op kid:Int):Kjd (op,kid)=some ((Ku6 op kid:Nat):Int):=by
 unfold Kjd Ku6
 simp only
 generalize (op == 5)=b1
 generalize (op == 8)=b2
 generalize (op == 9)=b3
 generalize (op == 12)=b4
 generalize (kid == 1)=b5
 generalize decide (kid > 0)=b6
 cases b1 <;> cases b2 <;> cases b3 <;> cases b4 <;> cases b5 <;> cases b6 <;> rfl
def Kua (g:Int→Bool) (n:Int) (t:K01):Bool:=if t.fOp == 0 then inB t.fN 0 (n - 1) else if t.fOp == 1 then inB t.fN 0 2 else if Ktx t.fOp then g t.fN else t.fN == 0
def Kub (y:List Int→Bool) (t:K01):Bool:=if Kty t.fOp then y t.fType else (t.fType.length:Int) == 0
def Kuc (g:Int→Bool) (y:List Int→Bool) (n:Int) (t:K01):Bool:=inB t.fOp 0 12 && ((t.fKids.length:Int) == Ktw t.fOp) && Kua g n t && Kub y t
mutual
def tOk (g:Int→Bool) (y:List Int→Bool):Nat→K01→Bool
 | n,⟨op,N,ty,ks⟩=>Kuc g y (n:Int) ⟨op,N,ty,ks⟩ && Kud g y op n 0 ks
def Kud (g:Int→Bool) (y:List Int→Bool):Int→Nat→Nat→List K01→Bool
 | _,_,_,[]=>true
 | op,n,i,k :: ks=>tOk g y (n + Ku6 op (i:Int)) k && Kud g y op n (i + 1) ks
end
theorem Kue (g:Int→Bool) (y:List Int→Bool) (n:Nat) (t:K01):tOk g y n t=(Kuc g y (n:Int) t && Kud g y t.fOp n 0 t.fKids):=by cases t; rw [tOk]
def gN (size:Int) (cl:Bool) (x:Int):Bool:=!(decide (x ≥ size) || decide (x < -1) || cl && decide (x < 0))
def yN (size:Int) (cl:Bool) (ty:List Int):Bool:=wtB ty && ty.all (Kth size cl)
theorem Kuf (t:K01) (n:Nat) (size:Int) (cl:Bool) (hty:t.fType.length ≤ 1099511627776) (hn:n ≤ 35184372088832):Kdk (t,(n:Int),size,cl)=some (Kuc (gN size cl) (yN size cl) (n:Int) t):=by
 unfold Kdk Kuc
 simp only
 rw [Ku1,bs]
 by_cases hk:(t.fKids.length:Int)=Ktw t.fOp
 ·have hop:inB t.fOp 0 12=true:=by
   cases h:inB t.fOp 0 12
   ·unfold Ktw at hk; rw [h] at hk; simp at hk
   ·rfl
  rw [show ((t.fKids.length:Int) != Ktw t.fOp)=false by rw [hk]; exact Krk,if_neg (by decide),show ((t.fKids.length:Int) == Ktw t.fOp)=true by rw [hk]; simp,hop]
  refine (Ktm (x:=if Kua (gN size cl) (n:Int) t then .inl () else .inr false) ?_).trans ?_
  ·unfold Kua gN
   rw [sIn,Kra (by omega) (by omega),sIn,Ku2]
   simp only [bs]
   generalize inB t.fN 0 ((n:Int) - 1)=b1
   generalize inB t.fN 0 2=b2
   generalize Ktx t.fOp=b3
   rw [show (t.fN != 0)=!(t.fN == 0) from rfl]
   generalize (t.fN == 0)=b4
   generalize decide (t.fN ≥ size)=b5
   generalize decide (t.fN < -1)=b6
   generalize decide (t.fN < 0)=b7
   generalize (t.fOp == 0)=b8
   generalize (t.fOp == 1)=b9
   cases b8
   ·cases b9
    ·cases b3
     ·cases b4 <;> rfl
     ·cases b5 <;> cases b6 <;> cases cl <;> cases b7 <;> rfl
    ·cases b2 <;> rfl
   ·cases b1 <;> rfl
  ·cases Kua (gN size cl) (n:Int) t
   ·simp
   ·unfold Kub yN
    simp only [if_true]
    rw [Ku3,bs]
    cases Kty t.fOp
    ·simp
    ·simp only [if_true]
     rw [Kte _ hty,Ktk _ hty]
     cases wtB t.fType <;> simp [bs]
 ·rw [show ((t.fKids.length:Int) != Ktw t.fOp)=true by simpa using hk,if_pos rfl,show ((t.fKids.length:Int) == Ktw t.fOp)=false by simpa using hk]
  simp
mutual
theorem Kug (size:Int) (cl:Bool):∀ (t:K01) (n:Nat),tms t ≤ 1099511627776→n + 2 * tms t ≤ 35184372088832→Kdr (t,(n:Int),size,cl)=some (tOk (gN size cl) (yN size cl) n t)
 | ⟨op,N,ty,ks⟩,n,ht,hn=>by
  rw [tms] at ht hn
  rw [Kdr.eq_def,tOk]
  simp only
  rw [Kuf _ n size cl (by simp only; omega) (by omega),bs]
  cases hb:Kuc (gN size cl) (yN size cl) (n:Int) ⟨op,N,ty,ks⟩
  ·rfl
  ·have h:=Kuh size cl ks ⟨op,N,ty,ks⟩ n 0 rfl (by simp only; omega) (by omega) (by omega)
   rw [if_pos rfl,show (0:Int)=((0:Nat):Int) from rfl,h,bs]
   simp only
   cases Kud (gN size cl) (yN size cl) op n 0 ks <;> rfl
theorem Kuh (size:Int) (cl:Bool):∀ (ks:List K01) (t:K01) (n i:Nat),t.fKids.drop i=ks→t.fKids.length ≤ 1099511627776→Kto ks ≤ 1099511627776→n + 2 * (ks.length + Kto ks) ≤ 35184372088832 →
  Kds (t,(n:Int),size,cl,(i:Int))=some (if Kud (gN size cl) (yN size cl) t.fOp n i ks then .inl () else .inr false)
 | [],t,n,i,hd,hk,ht,hn=>by
  rw [Kds.eq_def,Kud]
  simp only
  rw [Kre (Kss hd)]; rfl
 | k :: ks,t,n,i,hd,hk,ht,hn=>by
  obtain ⟨hi,hx,hd'⟩:=Ksr hd
  rw [Kto] at ht hn
  rw [List.length_cons] at hn
  have ha:=Ku7 t.fOp (i:Int)
  rw [Kds.eq_def,Kud]
  simp only
  rw [Krd hi,if_pos rfl,hx,bs,Ku8,bs,Kra (by omega) (by omega),show (n:Int) + ((Ku6 t.fOp (i:Int):Nat):Int)=((n + Ku6 t.fOp (i:Int):Nat):Int) by omega]
  rw [Kug size cl k (n + Ku6 t.fOp (i:Int)) (by omega) (by omega),bs,Krc (by omega)]
  cases tOk (gN size cl) (yN size cl) (n + Ku6 t.fOp (i:Int)) k
  ·rfl
  ·rw [if_pos rfl,Kuh size cl ks t n (i + 1) hd' hk (by omega) (by omega),Bool.true_and]
end
def Kui (ok:Bool) (nodes sz:Nat):Int:=if ok && decide (nodes + sz ≤ 400) then ((nodes + sz:Nat):Int) else 401
theorem iWs (x:Int):Ko1 x=some (gN 16 false x):=by
 unfold Ko1
 rw [iIn,bs]
 congr 1
 unfold gN inB
 by_cases h1:x ≥ 16 <;> by_cases h2:x < -1 <;> simp [h1,h2] <;> omega
mutual
theorem Kuj:∀ (t:K01) (n nodes:Nat),tms t ≤ 1099511627776→n + 2 * tms t ≤ 35184372088832→nodes ≤ 400→Ko5 (t,(n:Int),(nodes:Int))=some (Kui (tOk (gN 16 false) wtB n t) nodes (tsz t))
 | ⟨op,N,ty,ks⟩,n,nodes,ht,hn,hd=>by
  rw [tms] at ht hn
  rw [Ko5.eq_def,tOk,tsz]
  simp only
  rw [Ku5,bs]
  unfold Ku4
  cases hop:inB op 0 12
  ·simp [Kuc,hop,Kui]
  ·simp only [if_true]
   rw [Krc (by omega)]
   by_cases h4:nodes + 1 ≤ 400
   ·rw [decide_eq_false (by omega:¬ ((nodes + 1:Nat):Int) > 400)]
    by_cases hk:(ks.length:Int)=Ktw op
    ·rw [show ((ks.length:Int) != Ktw op)=false by rw [hk]; exact Krk]
     simp only [Bool.false_eq_true,if_false,bs]
     refine (Ktm (x:=Kua (gN 16 false) (n:Int) ⟨op,N,ty,ks⟩) ?_).trans ?_
     ·unfold Kua
      simp only [iIn,Kra (x:=(n:Int) - 1) (by omega) (by omega),iWs,bs]
      cases op == 0 <;> cases op == 1 <;> cases Ktx op <;> rfl
     refine (Ktm (x:=Kua (gN 16 false) (n:Int) ⟨op,N,ty,ks⟩ && Kub wtB ⟨op,N,ty,ks⟩) ?_).trans ?_
     ·unfold Kub
      simp only [Ktf ty (by omega),bs]
      cases Kty op <;> cases Kua (gN 16 false) (n:Int) ⟨op,N,ty,ks⟩ <;> rfl
     have e:Kuc (gN 16 false) wtB (n:Int) ⟨op,N,ty,ks⟩=(Kua (gN 16 false) (n:Int) ⟨op,N,ty,ks⟩ && Kub wtB ⟨op,N,ty,ks⟩):=by
      unfold Kuc
      simp only
      rw [hop,hk]; simp
     rw [e]
     cases Kua (gN 16 false) (n:Int) ⟨op,N,ty,ks⟩ && Kub wtB ⟨op,N,ty,ks⟩
     ·simp [Kui]
     ·have h:=Kuk ks ⟨op,N,ty,ks⟩ n (nodes + 1) 0 rfl (by simp only; omega) (by omega) (by omega) h4
      rw [if_pos rfl,show (0:Int)=((0:Nat):Int) from rfl,h]
      simp only [Bool.true_and]
      unfold Kui
      rw [show nodes + (1 + Ktn ks)=nodes + 1 + Ktn ks by omega]
      cases Kud (gN 16 false) wtB op n 0 ks && decide (nodes + 1 + Ktn ks ≤ 400) <;> rfl
    ·rw [show ((ks.length:Int) != Ktw op)=true by simpa using hk]
     have e:Kuc (gN 16 false) wtB (n:Int) ⟨op,N,ty,ks⟩=false:=by
      unfold Kuc
      simp only
      rw [show ((ks.length:Int) == Ktw op)=false by simpa using hk]; simp
     simp [e,Kui]
   ·rw [decide_eq_true (by omega:((nodes + 1:Nat):Int) > 400)]
    have:¬ nodes + (1 + Ktn ks) ≤ 400:=by omega
    simp [Kui,this]
theorem Kuk:∀ (ks:List K01) (t:K01) (n nodes i:Nat),t.fKids.drop i=ks→t.fKids.length ≤ 1099511627776→Kto ks ≤ 1099511627776→n + 2 * (ks.length + Kto ks) ≤ 35184372088832→nodes ≤ 400 →
  Ko6 (t,(n:Int),(nodes:Int),(i:Int))=some (if Kud (gN 16 false) wtB t.fOp n i ks && decide (nodes + Ktn ks ≤ 400) then .inl ((nodes + Ktn ks:Nat):Int) else .inr 401)
 | [],t,n,nodes,i,hd,hk,ht,hn,h4=>by
  rw [Ko6.eq_def,Kud,Ktn]
  simp only
  rw [Kre (Kss hd)]
  simp [h4]
 | k :: ks,t,n,nodes,i,hd,hk,ht,hn,h4=>by
  obtain ⟨hi,hx,hd'⟩:=Ksr hd
  rw [Kto] at ht hn
  rw [List.length_cons] at hn
  have ha:=Ku7 t.fOp (i:Int)
  rw [Ko6.eq_def,Kud,Ktn]
  simp only
  rw [Krd hi,if_pos rfl,hx,bs,Ku9,bs,Kra (by omega) (by omega),show (n:Int) + ((Ku6 t.fOp (i:Int):Nat):Int)=((n + Ku6 t.fOp (i:Int):Nat):Int) by omega]
  rw [Kuj k (n + Ku6 t.fOp (i:Int)) nodes (by omega) (by omega) h4,bs,Krc (by omega)]
  unfold Kui
  cases tOk (gN 16 false) wtB (n + Ku6 t.fOp (i:Int)) k
  ·rfl
  ·by_cases q:nodes + tsz k ≤ 400
   ·rw [decide_eq_true q,Bool.true_and,if_pos rfl,decide_eq_false (by omega:¬ ((nodes + tsz k:Nat):Int) > 400),if_neg (by decide),Kuk ks t n (nodes + tsz k) (i + 1) hd' hk (by omega) (by omega) q,Nat.add_assoc,Bool.true_and]
   ·rw [decide_eq_false q,decide_eq_false (by omega:¬ nodes + (tsz k + Ktn ks) ≤ 400)]
    simp
end
theorem Kul (ty:List Int):yN 16 false ty=wtB ty:=by
 unfold yN
 have:ty.all (Kth 16 false)=true:=by rw [List.all_eq_true]; intro x _; exact Ktl x
 rw [this,Bool.and_true]
def wB (t:K01):Bool:=tOk (gN 16 false) wtB 8 t && decide (tsz t ≤ 400)
theorem Kum (t:K01) (ht:tms t ≤ 1099511627776):Koc t=some (Kui (tOk (gN 16 false) wtB 8 t) 0 (tsz t)):=by
 unfold Koc
 have:=Kuj t 8 0 ht (by omega) (by omega)
 rw [show ((8:Nat):Int)=8 from rfl,show ((0:Nat):Int)=0 from rfl] at this
 rw [this,bs]
theorem Kun (t:K01) (ht:tms t ≤ 1099511627776):Kof t=some (wB t):=by
 unfold Kof
 rw [Kum t ht,bs]
 unfold Kui wB
 rw [Nat.zero_add]
 congr 1
 cases h:tOk (gN 16 false) wtB 8 t && decide (tsz t ≤ 400)
 ·rfl
 ·simp only [Bool.and_eq_true,decide_eq_true_eq] at h
  rw [if_pos rfl,decide_eq_true (by omega)]
theorem Kuo (t:K01) (ht:tms t ≤ 1099511627776):Kgb t=some (wB t):=by
 unfold Kgb wB
 have h1:=Ktu t 400 ht (by omega)
 have h2:=Kug 16 false t 8 ht (by omega)
 rw [show ((400:Nat):Int)=400 from rfl] at h1
 rw [show ((8:Nat):Int)=8 from rfl,show yN 16 false=wtB from funext Kul] at h2
 rw [h1,bs,h2]
 unfold Ktq
 by_cases q:tsz t ≤ 400
 ·rw [if_pos q,decide_eq_true (by omega:(((400 - tsz t:Nat)):Int) ≥ 0),decide_eq_true q,Bool.and_true]; rfl
 ·rw [if_neg q,decide_eq_false q,Bool.and_false]; rfl
def szB (left:Int) (n:Nat):Int:=if left - (n:Int) < 0 then -1 else left - (n:Int)
theorem Kup (left:Int) (n:Nat):(szB left n=-1∧left < n)∨(szB left n=left - n∧(n:Int) ≤ left):=by
 unfold szB
 by_cases h:left - (n:Int) < 0
 ·rw [if_pos h]; left; omega
 ·rw [if_neg h]; right; omega
theorem Kuq (a:List Int) (left:Int) (h1:0 ≤ left) (h2:left ≤ 1048576) (ha:a.length ≤ 9223372036854775807):K8m (a,left)=some (szB left a.length):=by
 unfold K8m szB
 simp only
 rw [Kra (by omega) (by omega)]
 by_cases h:left - (a.length:Int) < 0
 ·rw [decide_eq_true h,if_pos rfl,if_pos h]
 ·rw [decide_eq_false h,if_neg (by decide),if_neg h]
mutual
def tln:K01→Prop
 | ⟨_,N,ty,ks⟩=>ty.length ≤ 9223372036854775807∧ks.length ≤ 9223372036854775807∧Kur ks∧(-9223372036854775808 ≤ N∧N ≤ 9223372036854775807)
def Kur:List K01→Prop
 | []=>True
 | k :: ks=>tln k∧Kur ks
end
mutual
theorem Kus:∀ (t:K01) (left:Int),tln t→0 ≤ left→left ≤ 1048576→K93 (t,left)=some (szB left (tms t))
 | ⟨op,N,ty,ks⟩,left,hl,h1,h2=>by
  rw [tln] at hl
  rw [K93.eq_def,tms]
  simp only
  rw [Kuq ty left h1 h2 hl.1,bs]
  rcases Kup left ty.length with ⟨e,h⟩ | ⟨e,h⟩
  ·rw [e,decide_eq_true (by decide),if_pos rfl]
   unfold szB; rw [if_pos (by omega)]
  ·rw [e,decide_eq_false (by omega),if_neg (by decide),K94.eq_def]
   simp only
   rw [Kra (by omega) (by omega)]
   by_cases h3:left - (ty.length:Int) - (ks.length:Int) < 0
   ·rw [decide_eq_true h3,if_pos rfl,bs,decide_eq_true (by decide),if_pos rfl]
    unfold szB; rw [if_pos (by omega)]
   ·obtain ⟨m,hm⟩:∃ m:Nat,left - (ty.length:Int) - (ks.length:Int)=(m:Int):=⟨(left - (ty.length:Int) - (ks.length:Int)).toNat,by omega⟩
    rw [decide_eq_false h3,if_neg (by decide),hm,show (0:Int)=((0:Nat):Int) from rfl,Kut ks ks 0 m rfl hl.2.1 hl.2.2.1 (by omega),bs]
    unfold szB
    by_cases q:m < Kto ks
    ·rw [if_pos q,if_pos (by omega)]; rfl
    ·rw [if_neg q,if_neg (by omega)]
     simp only [bs]
     rw [decide_eq_false (by omega),if_neg (by decide)]; congr 1; omega
theorem Kut:∀ (ks a:List K01) (i left:Nat),a.drop i=ks→a.length ≤ 9223372036854775807→Kur ks→left ≤ 1048576→K95 (a,(left:Int),(i:Int))=some (if left < Kto ks then .inr (-1) else .inl ((left - Kto ks:Nat):Int))
 | [],a,i,left,hd,ha,hl,h=>by
  rw [K95.eq_def,Kto]
  simp only
  rw [Kre (Kss hd)]
  simp
 | k :: ks,a,i,left,hd,ha,hl,h=>by
  obtain ⟨hi,hx,hd'⟩:=Ksr hd
  rw [Kur] at hl
  rw [K95.eq_def,Kto]
  simp only
  rw [Krd hi,if_pos rfl,hx,bs,Kus k left hl.1 (by omega) (by omega),bs,Krc (by omega)]
  rcases Kup left (tms k) with ⟨e,q⟩ | ⟨e,q⟩
  ·rw [e,decide_eq_true (by decide),if_pos rfl,if_pos (by omega)]
  ·rw [e,decide_eq_false (by omega),if_neg (by decide),show (left:Int) - ((tms k:Nat):Int)=((left - tms k:Nat):Int) by omega,Kut ks a (i + 1) (left - tms k) hd' ha hl.2 (by omega)]
   by_cases q2:left - tms k < Kto ks
   ·rw [if_pos q2,if_pos (by omega)]
   ·rw [if_neg q2,if_neg (by omega)]; congr 3; omega
end
mutual
theorem Kuu:∀ (t:K01),tms t ≤ 1099511627776→Ka2 t=some t
 | ⟨op,N,ty,ks⟩,h=>by
  rw [tms] at h
  rw [Ka2.eq_def]
  simp only
  rw [Krh ty (by omega),bs,Ka3.eq_def]
  have:chk (0 ≤ (ks.length:Int)∧(Int.toNat (ks.length:Int)) * 64 ≤ 140737488355328)=some ():=by
   unfold chk; rw [if_pos]; refine ⟨by omega,?_⟩; rw [Int.toNat_natCast]; omega
  rw [this,bs,Int.toNat_natCast,show (0:Int)=((0:Nat):Int) from rfl,Kuv ks ks (List.replicate ks.length (K01.mk ((0:Nat):Int) ((0:Nat):Int) [] [])) 0 rfl (by omega) (by omega) (by simp) rfl]
  rfl
theorem Kuv:∀ (ks a out:List K01) (i:Nat),a.drop i=ks→a.length ≤ 1099511627776→Kto ks ≤ 1099511627776→out.length=a.length→out.take i=a.take i→Ka4 (a,out,(i:Int))=some a
 | [],a,out,i,hd,ha,hl,ho,ht=>by
  rw [Ka4.eq_def]
  simp only
  have hle:=Kss hd
  rw [Kre hle]
  rw [List.take_of_length_le (by omega),List.take_of_length_le (by omega)] at ht
  simp [ht]
 | k :: ks,a,out,i,hd,ha,hl,ho,ht=>by
  obtain ⟨hi,hx,hd'⟩:=Ksr hd
  have hk:a[i]=k:=by rw [Krb hi] at hx; exact Option.some.inj hx
  rw [Kto] at hl
  rw [Ka4.eq_def]
  simp only
  rw [Krd hi,if_pos rfl,hx,bs,Kuu k (by omega),bs,Krb (by omega),bs,Krc (by omega),Int.toNat_natCast]
  exact Kuv ks a _ (i + 1) hd' ha (by omega) (by simpa using ho) (by rw [← hk]; exact Krf ho hi ht)
end
mutual
theorem Kuw:∀ (t:K01),tms t ≤ 1099511627776→Kox (t,t)=some true
 | ⟨op,N,ty,ks⟩,h=>by
  rw [tms] at h
  rw [Kox.eq_def]
  simp only
  rw [Krk,if_neg (by decide),Krk,if_neg (by decide),Krm ty (by omega),bs,if_pos rfl,Koy.eq_def]
  simp only
  rw [Krk,if_neg (by decide),show (0:Int)=((0:Nat):Int) from rfl,Kux ks ks 0 rfl (by omega) (by omega)]
  rfl
theorem Kux:∀ (ks a:List K01) (i:Nat),a.drop i=ks→a.length ≤ 1099511627776→Kto ks ≤ 1099511627776→Koz (a,a,(i:Int))=some (.inl ())
 | [],a,i,hd,ha,hl=>by
  rw [Koz.eq_def]
  simp only
  rw [Kre (Kss hd)]
  rfl
 | k :: ks,a,i,hd,ha,hl=>by
  obtain ⟨hi,hx,hd'⟩:=Ksr hd
  rw [Kto] at hl
  rw [Koz.eq_def]
  simp only
  rw [Krd hi,if_pos rfl,hx,bs,bs,Kuw k (by omega),bs,if_pos rfl,Krc (by omega)]
  exact Kux ks a (i + 1) hd' ha (by omega)
end
theorem Kuy {ty:List Int} (h:wtB ty=true):ty.length ≤ 40:=by
 unfold wtB at h
 rw [Bool.and_eq_true,decide_eq_true_eq] at h
 exact h.1
theorem Kuz {g:Int→Bool} {y:List Int→Bool} {n:Nat} {t:K01} (h:tOk g y n t=true):Kuc g y (n:Int) t=true∧Kud g y t.fOp n 0 t.fKids=true:=by
 rw [Kue,Bool.and_eq_true] at h; exact h
theorem Kv0 {n b:Nat} (h:n * b ≤ 140737488355328):Qd6 n b=some ():=by unfold Qd6 chk; rw [if_pos h]
theorem Kv1 {g:Int→Bool} {y:List Int→Bool} {n:Int} {t:K01} (h:Kuc g y n t=true):inB t.fOp 0 12=true∧(t.fKids.length:Int)=Ktw t.fOp:=by
 unfold Kuc at h
 simp only [Bool.and_eq_true,beq_iff_eq] at h
 exact ⟨h.1.1.1,h.1.1.2⟩
theorem Kv2 (l:List Int) (h:l.length ≤ 1099511627776):Ke7 l=some l:=by
 unfold Ke7
 rw [Kv0 (by simp only [List.length_nil]; omega),bs]
theorem Kv3 (l:List Int) (h:l.length ≤ 1099511627776):Kkq l=some l:=by
 unfold Kkq
 rw [Kv0 (by simp only [List.length_nil]; omega),bs]
structure Kv4 (s:K00) (n:Nat):Prop where
 size:s.fSize=(n:Int)
 lo:2 ≤ n
 hi:n ≤ 16
 lp:s.fPlus.length=n * n
 lt:s.fTimes.length=n * n
 lb:s.fBelow.length=n * n
def Kv5 (s:K00) (n i:Nat):Bool:=inB (s.fPlus.getD i 0) 0 ((n:Int) - 1) && inB (s.fTimes.getD i 0) 0 ((n:Int) - 1)
section
variable {s:K00} {n:Nat} (h:Kv4 s n)
include h
theorem nn:n * n ≤ 256:=Nat.le_trans (Nat.mul_le_mul h.hi h.hi) (by decide)
theorem Kv6 {i:Nat} (hi:i < n * n):idx s.fPlus (i:Int)=some (s.fPlus.getD i 0):=by
 have hl:i < s.fPlus.length:=by rw [h.lp]; exact hi
 rw [Krb hl,List.getD_eq_getElem?_getD,List.getElem?_eq_getElem hl]; rfl
theorem Kv7 {i:Nat} (hi:i < n * n):idx s.fTimes (i:Int)=some (s.fTimes.getD i 0):=by
 have hl:i < s.fTimes.length:=by rw [h.lt]; exact hi
 rw [Krb hl,List.getD_eq_getElem?_getD,List.getElem?_eq_getElem hl]; rfl
theorem Kv8:wr (s.fSize - 1)=(n:Int) - 1:=by
 have:=h.lo; have:=h.hi
 rw [h.size,Kra (by omega) (by omega)]
theorem Kv9:∀ (k i:Nat),i + k=n * n→Kag (s,(i:Int))=some (if (List.range' i k).all (Kv5 s n) then .inl () else .inr false):=by
 have hn:=nn h
 intro k
 induction k with
 | zero =>
  intro i hm
  rw [Kag.eq_def]
  simp only
  rw [h.lp,Kre (by omega)]
  rfl
 | succ k ih =>
  intro i hm
  rw [Kag.eq_def]
  simp only
  rw [h.lp,Krd (by omega),if_pos rfl,Kv6 h (by omega),Kv7 h (by omega),Kv8 h]
  have ih:=ih (i + 1) (by omega)
  rw [Krc (by omega),List.range'_succ,List.all_cons]
  generalize ((i + 1:Nat):Int)=M at ih ⊢
  generalize (List.range' (i + 1) k).all (Kv5 s n)=r at ih ⊢
  simp only [bs,sIn]
  cases h1:inB (s.fPlus.getD i 0) 0 ((n:Int) - 1) <;> cases h2:inB (s.fTimes.getD i 0) 0 ((n:Int) - 1) <;> cases r <;> simp only [Kv5,h1,h2,ih,bs,Bool.not_true,Bool.not_false,Bool.true_and,Bool.false_and,Bool.and_true,Bool.and_false,if_true,if_false,Bool.false_eq_true]
theorem Kva:∀ (k i:Nat),i + k=n * n→Kht (s,(i:Int))=some (if (List.range' i k).all (Kv5 s n) then .inl () else .inr false):=by
 have hn:=nn h
 intro k
 induction k with
 | zero =>
  intro i hm
  rw [Kht.eq_def]
  simp only
  rw [h.lp,Kre (by omega)]
  rfl
 | succ k ih =>
  intro i hm
  rw [Kht.eq_def]
  simp only
  rw [h.lp,Krd (by omega),if_pos rfl,Kv6 h (by omega),Kv7 h (by omega)]
  have ih:=ih (i + 1) (by omega)
  rw [Krc (by omega),List.range'_succ,List.all_cons]
  generalize ((i + 1:Nat):Int)=M at ih ⊢
  generalize (List.range' (i + 1) k).all (Kv5 s n)=r at ih ⊢
  have hh:∀ x,Kgw (s,x)=some (inB x 0 ((n:Int) - 1)):=fun x=>by
   unfold Kgw
   simp only
   rw [Kv8 h,iIn,bs]
  simp only [bs,hh]
  cases h1:inB (s.fPlus.getD i 0) 0 ((n:Int) - 1) <;> cases h2:inB (s.fTimes.getD i 0) 0 ((n:Int) - 1) <;> cases r <;> simp only [Kv5,h1,h2,ih,bs,Bool.not_true,Bool.not_false,Bool.true_and,Bool.false_and,Bool.and_true,Bool.and_false,if_true,if_false,Bool.false_eq_true]
theorem Kvb (he:(List.range' 0 (n * n)).all (Kv5 s n)=true):Tab s n:=by
 rw [List.all_eq_true] at he
 have hent:∀ i,i < n * n→Kv5 s n i=true:=fun i hi=>he i (by rw [List.mem_range'_1]; omega)
 refine ⟨h.size,h.lo,h.hi,h.lp,h.lt,h.lb,fun i hi=>?_,fun i hi=>?_⟩
 ·have:=hent i (by rw [← h.lp]; exact hi)
  simp only [Kv5,inB,Bool.and_eq_true,decide_eq_true_eq,List.getD_eq_getElem?_getD,List.getElem?_eq_getElem hi,Option.getD_some] at this
  omega
 ·have:=hent i (by rw [← h.lt]; exact hi)
  simp only [Kv5,inB,Bool.and_eq_true,decide_eq_true_eq,List.getD_eq_getElem?_getD,List.getElem?_eq_getElem hi,Option.getD_some] at this
  omega
end
def Kvc (s:K00):Bool:=inB s.fSize 2 16 && !((s.fPlus.length:Int) != (wr (s.fSize * s.fSize))) && !((s.fTimes.length:Int) != (wr (s.fSize * s.fSize))) && !((s.fBelow.length:Int) != (wr (s.fSize * s.fSize)))
theorem Kvd {s:K00} (h:Kvc s=true):Kv4 s s.fSize.toNat:=by
 unfold Kvc at h
 simp only [Bool.and_eq_true,Bool.not_eq_true',inB,decide_eq_true_eq,bne_eq_false_iff_eq] at h
 obtain ⟨⟨⟨⟨h1,h2⟩,h3⟩,h4⟩,h5⟩:=h
 obtain ⟨n,hn⟩:∃ n:Nat,s.fSize=(n:Int):=⟨s.fSize.toNat,by omega⟩
 rw [hn] at h1 h2 h3 h4 h5 ⊢
 have h256:n * n ≤ 256:=Nat.le_trans (Nat.mul_le_mul (by omega:n ≤ 16) (by omega:n ≤ 16)) (by decide)
 have e:(n:Int) * (n:Int)=((n * n:Nat):Int):=by simp
 rw [e] at h3 h4 h5
 generalize hm:n * n=m at *
 rw [Kra (by omega) (by omega)] at h3 h4 h5
 rw [Int.toNat_natCast]
 exact ⟨hn,by omega,by omega,by omega,by omega,by omega⟩
def Kve (s:K00):Bool:=Kvc s && (List.range' 0 (s.fSize.toNat * s.fSize.toNat)).all (Kv5 s s.fSize.toNat) && Ksk s s.fSize.toNat
theorem Kvf {s:K00} (h:Kve s=true):Tab s s.fSize.toNat:=by
 unfold Kve at h
 simp only [Bool.and_eq_true] at h
 exact Kvb (Kvd h.1.1) h.1.2
theorem Kvg (s:K00):Kbw s=some (Kve s):=by
 unfold Kbw Kaj Kve
 rw [sIn]
 cases hf:Kvc s with
 | false =>
  unfold Kvc at hf
  cases h1:inB s.fSize 2 16 <;> cases h2:((s.fPlus.length:Int) != (wr (s.fSize * s.fSize))) <;> cases h3:((s.fTimes.length:Int) != (wr (s.fSize * s.fSize))) <;> cases h4:((s.fBelow.length:Int) != (wr (s.fSize * s.fSize))) <;> simp_all [bs]
 | true =>
  have F:=Kvd hf
  have hl:=Kv9 F (s.fSize.toNat * s.fSize.toNat) 0 (by omega)
  rw [show ((0:Nat):Int)=0 from rfl] at hl
  unfold Kvc at hf
  simp only [Bool.and_eq_true,Bool.not_eq_true'] at hf
  obtain ⟨⟨⟨h1,h2⟩,h3⟩,h4⟩:=hf
  cases he:(List.range' 0 (s.fSize.toNat * s.fSize.toNat)).all (Kv5 s s.fSize.toNat) with
  | false=>rw [he] at hl; simp [bs,h1,h2,h3,h4,hl]
  | true =>
   have T:=Kvb F he
   have hl2:=Ksp T s.fSize.toNat 0 (by omega)
   rw [show ((0:Nat):Int)=0 from rfl] at hl2
   rw [he] at hl
   have hm:(List.range' 0 s.fSize.toNat).all (fun a=>Ks4 s s.fSize.toNat a && (List.range' 0 s.fSize.toNat).all fun b=>Ksh s s.fSize.toNat a b && (List.range' 0 s.fSize.toNat).all fun c=>Ks5 s s.fSize.toNat a b c)=Ksk s s.fSize.toNat:=rfl
   rw [hm] at hl2
   cases hs:Ksk s s.fSize.toNat <;> rw [hs] at hl2 <;> simp [bs,h1,h2,h3,h4,hl,hl2]
theorem Kvh (s:K00):Ki8 s=some (Kve s):=by
 unfold Ki8 Kve
 rw [iIn]
 cases hf:Kvc s with
 | false =>
  unfold Kvc at hf
  cases h1:inB s.fSize 2 16 <;> cases h2:((s.fPlus.length:Int) != (wr (s.fSize * s.fSize))) <;> cases h3:((s.fTimes.length:Int) != (wr (s.fSize * s.fSize))) <;> cases h4:((s.fBelow.length:Int) != (wr (s.fSize * s.fSize))) <;> simp_all [bs]
 | true =>
  have F:=Kvd hf
  have hl:=Kva F (s.fSize.toNat * s.fSize.toNat) 0 (by omega)
  rw [show ((0:Nat):Int)=0 from rfl] at hl
  unfold Kvc at hf
  simp only [Bool.and_eq_true,Bool.not_eq_true'] at hf
  obtain ⟨⟨⟨h1,h2⟩,h3⟩,h4⟩:=hf
  cases he:(List.range' 0 (s.fSize.toNat * s.fSize.toNat)).all (Kv5 s s.fSize.toNat) with
  | false=>rw [he] at hl; simp [bs,h1,h2,h3,h4,hl]
  | true =>
   have T:=Kvb F he
   have hl2:=Ksq T s.fSize.toNat 0 (by omega)
   rw [show ((0:Nat):Int)=0 from rfl] at hl2
   rw [he] at hl
   have hm:(List.range' 0 s.fSize.toNat).all (fun a=>Ks4 s s.fSize.toNat a && (List.range' 0 s.fSize.toNat).all fun b=>Ksh s s.fSize.toNat a b && (List.range' 0 s.fSize.toNat).all fun c=>Ks5 s s.fSize.toNat a b c)=Ksk s s.fSize.toNat:=rfl
   rw [hm] at hl2
   cases hs:Ksk s s.fSize.toNat <;> rw [hs] at hl2 <;> simp [bs,h1,h2,h3,h4,hl,hl2]
section
variable {s:K00} {n:Nat} (h:Tab s n)
include h
theorem Kvi:wr (s.fSize - 1)=(n:Int) - 1:=by
 have:=h.lo; have:=h.hi
 rw [h.size,Kra (by omega) (by omega)]
end
inductive Ty where
 | num
 | bin (c:Int) (a b:Ty)
 | un (c:Int) (a:Ty)
namespace Ty
def code:Ty→List Int
 | num=>[0]
 | bin c a b=>c :: (a.code ++ b.code)
 | un c a=>c :: a.code
def ok:Ty→Prop
 | num=>True
 | bin c a b=>Ksv c=2∧a.ok∧b.ok
 | un c a=>Ksv c=1∧a.ok
def kids:Ty→List Ty
 | num=>[]
 | bin _ a b=>[a,b]
 | un _ a=>[a]
def hd:Ty→Int
 | num=>0
 | bin c _ _=>c
 | un c _=>c
end Ty
def Kvj:List Ty→List Int
 | []=>[]
 | t :: l=>t.code ++ Kvj l
theorem Kvk (T:Ty):T.code=T.hd :: Kvj T.kids:=by cases T <;> simp [Ty.code,Ty.hd,Ty.kids,Kvj]
theorem Kvl (T:Ty):1 ≤ T.code.length:=by rw [Kvk]; simp
theorem Kvm (T:Ty):∀ (m:Nat) (l:List Int),T.ok→skip (m + 1) (T.code ++ l)=skip m l:=by
 induction T with
 | num =>
  intro m l _
  rw [Ty.code,List.singleton_append,Kt5,show Ksv 0=0 from rfl,if_neg (by decide)]; rfl
 | bin c a b iha ihb =>
  intro m l h
  rw [Ty.code,List.cons_append,Kt5,h.1,if_neg (by decide),List.append_assoc,show m + (2:Int).toNat=(m + 1) + 1 from rfl,iha _ _ h.2.1,ihb _ _ h.2.2]
 | un c a ih =>
  intro m l h
  rw [Ty.code,List.cons_append,Kt5,h.1,if_neg (by decide),show m + (1:Int).toNat=m + 1 from rfl,ih _ _ h.2]
theorem Kvn (l:List Int):∀ (m:Nat) (r:List Int),skip m l=some r→∃ Ts:List Ty,Ts.length=m∧(∀ T ∈ Ts,T.ok)∧l=Kvj Ts ++ r:=by
 induction l with
 | nil =>
  intro m r h
  cases m with
  | zero=>rw [Kt3] at h; cases h; exact ⟨[],rfl,fun _ h=>(by cases h),rfl⟩
  | succ m=>rw [Kt4] at h; cases h
 | cons c l ih =>
  intro m r h
  cases m with
  | zero=>rw [Kt3] at h; cases h; exact ⟨[],rfl,fun _ h=>(by cases h),rfl⟩
  | succ m =>
   rw [Kt5] at h
   by_cases hk:Ksv c=-1
   ·rw [if_pos hk] at h; cases h
   ·rw [if_neg hk] at h
    obtain ⟨Ts,h1,h2,h3⟩:=ih _ _ h
    rcases Ksz c with ⟨q,e⟩ | ⟨q,e⟩ | ⟨q,e⟩ | ⟨q,e⟩
    ·subst q
     rw [e] at h1
     exact ⟨.num :: Ts,by simpa using h1,fun T hT=>by rcases List.mem_cons.1 hT with rfl | hT; exact trivial; exact h2 T hT,by rw [h3]; rfl⟩
    ·rw [e] at h1
     match Ts,h1 with
     | a :: b :: Ts,h1 =>
      refine ⟨.bin c a b :: Ts,by simpa using h1,fun T hT=>?_,by rw [h3]; simp [Kvj,Ty.code]⟩
      rcases List.mem_cons.1 hT with rfl | hT
      ·exact ⟨e,h2 a List.mem_cons_self,h2 b (List.mem_cons_of_mem _ List.mem_cons_self)⟩
      ·exact h2 T (List.mem_cons_of_mem _ (List.mem_cons_of_mem _ hT))
     | [_],h1=>exact absurd h1 (by simp)
     | [],h1=>exact absurd h1 (by simp)
    ·rw [e] at h1
     match Ts,h1 with
     | a :: Ts,h1 =>
      refine ⟨.un c a :: Ts,by simpa using h1,fun T hT=>?_,by rw [h3]; simp [Kvj,Ty.code]⟩
      rcases List.mem_cons.1 hT with rfl | hT
      ·exact ⟨e,h2 a List.mem_cons_self⟩
      ·exact h2 T (List.mem_cons_of_mem _ hT)
     | [],h1=>exact absurd h1 (by simp)
    ·exact absurd e hk
theorem Kvo {ty:List Int} (h:wtB ty=true):∃ T:Ty,T.ok∧ty=T.code∧ty.length ≤ 40:=by
 have hl:=Kuy h
 unfold wtB at h
 rw [Bool.and_eq_true,beq_iff_eq] at h
 obtain ⟨Ts,h1,h2,h3⟩:=Kvn _ _ _ h.2
 match Ts,h1 with
 | [T],_=>exact ⟨T,h2 T List.mem_cons_self,by rw [h3]; simp [Kvj],hl⟩
theorem Kvp {T:Ty} (h:T.ok) (hl:T.code.length ≤ 40):wtB T.code=true:=by
 unfold wtB
 have:=Kvm T 0 [] h
 rw [List.append_nil,Kt3] at this
 rw [decide_eq_true hl,show (1:Nat)=0 + 1 from rfl,this]; rfl
theorem Kvq {T:Ty} (h:T.ok):∀ K ∈ T.kids,K.ok:=by
 intro K hK
 cases T with
 | num=>cases hK
 | bin c a b=>rcases List.mem_cons.1 hK with rfl | hK; exact h.2.1; rw [List.mem_singleton.1 hK]; exact h.2.2
 | un c a=>rw [List.mem_singleton.1 hK]; exact h.2
theorem Kvr {pre:List Int} {T:Ty} {post:List Int} (h:T.ok):Kt8 (pre ++ (T.code ++ post)) 1 pre.length=((pre.length + T.code.length:Nat):Int):=by
 unfold Kt8
 rw [List.drop_left,show (1:Nat)=0 + 1 from rfl,Kvm T 0 post h,Kt3]
 simp only [List.length_append]
 omega
theorem Kvs {α:Type} (p m q:List α) (mx:Option Int) (hmx:mx=none∨mx=some ((p.length + m.length:Nat):Int)):cut (p ++ (m ++ q)) (some (p.length:Int)) (some ((p.length + m.length:Nat):Int)) mx=some m:=by
 unfold cut
 have e:((p ++ (m ++ q)).take (p.length + m.length)).drop p.length=m:=by
  rw [← List.append_assoc,← List.length_append,List.take_left,List.drop_left]
 rw [if_pos]
 ·simp only [Option.getD_some,Int.toNat_natCast,e]
 ·rcases hmx with rfl | rfl <;> simp only [Option.getD_some,Option.getD_none,List.length_append] <;> omega
theorem Kvt {α:Type} (p q:List α):cut (p ++ q) (some (p.length:Int)) none none=some q:=by
 unfold cut
 rw [if_pos]
 ·simp only [Option.getD_some,Option.getD_none,Int.toNat_natCast,List.take_length,List.drop_left]
 ·simp only [Option.getD_some,Option.getD_none,List.length_append]; omega
theorem Kvu (Ks:List Ty):∀ (pre:List Int) (out:List (List Int)),(∀ K ∈ Ks,K.ok)→(pre ++ Kvj Ks).length ≤ 1099511627776→out.length + Ks.length ≤ 1099511627776→Kjs (pre ++ Kvj Ks,out,(pre.length:Int))=some (out ++ Ks.map Ty.code):=by
 induction Ks with
 | nil =>
  intro pre out hk hl ho
  rw [show Kvj []=[] from rfl,List.append_nil,Kjs.eq_def]
  simp only
  rw [Kre (Nat.le_refl _)]; simp
 | cons K Ks ih =>
  intro pre out hk hl ho
  have hK:=hk K List.mem_cons_self
  have hp:=Kvl K
  rw [show Kvj (K :: Ks)=K.code ++ Kvj Ks from rfl] at hl ⊢
  rw [List.length_cons] at ho
  rw [Kjs.eq_def]
  simp only
  rw [Krd (by simp only [List.length_append]; omega),if_pos rfl,Ktc _ hl _ pre.length rfl,Kvr hK,bs,Kvs _ _ _ _ (.inr rfl),bs,Kv0 (by simp only [List.length_singleton]; omega),bs]
  have:=ih (pre ++ K.code) (out ++ [K.code]) (fun K hK=>hk K (List.mem_cons_of_mem _ hK)) (by rw [List.append_assoc]; exact hl) (by simp; omega)
  rw [List.append_assoc,List.length_append] at this
  rw [this,List.map_cons,List.append_assoc]; rfl
theorem Kvv {T:Ty} (h:T.ok) (hl:T.code.length ≤ 1048576):Kjv T.code=some (T.kids.map Ty.code):=by
 unfold Kjv
 have hk:T.kids.length ≤ 2:=by cases T <;> simp [Ty.kids]
 have e:[T.hd] ++ Kvj T.kids=T.code:=(Kvk T).symm
 have:=Kvu T.kids [T.hd] [] (Kvq h) (by rw [e]; omega) (by simp only [List.length_nil]; omega)
 rw [e] at this
 rw [show (1:Int)=(([T.hd].length:Nat):Int) from rfl,this,bs]; rfl
theorem Kvw {c:Int} {a:Ty} {r:List Int} (ha:a.ok) (hl:(c :: (a.code ++ r)).length ≤ 1099511627776):Kex (c :: (a.code ++ r),0)=some a.code:=by
 unfold Kex
 simp only
 have e:=Kvr (pre:=[c]) (post:=r) ha
 have h1:=Kta (c :: (a.code ++ r)) hl 1 (by simp)
 rw [show (((1:Nat)):Int)=1 from rfl] at h1
 rw [List.length_singleton] at e
 have e':Kt8 (c :: (a.code ++ r)) 1 1=((1 + a.code.length:Nat):Int):=e
 rw [h1,bs,e',if_pos (by rfl)]
 have h2:=Kvs [c] a.code r none (.inl rfl)
 rw [List.length_singleton] at h2
 have h2':cut (c :: (a.code ++ r)) (some 1) (some ((1 + a.code.length:Nat):Int)) none=some a.code:=h2
 simp only [List.length_cons,List.length_append] at hl
 rw [h2',bs,Kv2 _ (by omega),bs]
theorem Kvx {c:Int} {a:Ty} {r:List Int} (ha:a.ok) (hl:(c :: (a.code ++ r)).length ≤ 1099511627776):Kex (c :: (a.code ++ r),1)=some r:=by
 unfold Kex
 simp only
 have e:=Kvr (pre:=[c]) (post:=r) ha
 have h1:=Kta (c :: (a.code ++ r)) hl 1 (by simp)
 rw [show (((1:Nat)):Int)=1 from rfl] at h1
 rw [List.length_singleton] at e
 have e':Kt8 (c :: (a.code ++ r)) 1 1=((1 + a.code.length:Nat):Int):=e
 rw [h1,bs,e',if_neg (by decide)]
 have h2:=Kvt (c :: a.code) r
 rw [List.length_cons,List.cons_append,Nat.add_comm] at h2
 simp only [List.length_cons,List.length_append] at hl
 rw [h2,bs,Kv2 _ (by omega),bs]
def Kvy (s:K00) (g:Int):Bool:=inB g 0 (wr (s.fSize - 1))
theorem Kvz (s:K00) (g:Int):Kgw (s,g)=some (Kvy s g):=by
 unfold Kgw Kvy
 simp only
 rw [iIn,bs]
def Kw0 (s:K00) (c:Int):Bool:=!(((Kt0 c).1 == 3 || (Kt0 c).1 == 4) && !Kvy s (Kt0 c).2)
def Kw1 (s:K00) (ty:List Int):Bool:=wtB ty && ty.all (Kw0 s)
theorem Kw2 (s:K00) (ty:List Int) (hty:ty.length ≤ 1099511627776):∀ (l:List Int) (i:Nat),ty.drop i=l→Kil (s,ty,(i:Int))=some (if l.all (Kw0 s) then .inl () else .inr false):=by
 intro l
 induction l with
 | nil =>
  intro i hd
  rw [Kil.eq_def]
  simp only
  rw [Kre (Kss hd)]; rfl
 | cons c l ih =>
  intro i hd
  obtain ⟨hi,hx,hd'⟩:=Ksr hd
  rw [Kil.eq_def]
  simp only
  rw [Krd hi,if_pos rfl,hx,bs,Kt1,bs,Krc (by omega),ih (i + 1) hd',List.all_cons]
  unfold Kw0
  rcases Kt0 c with ⟨a,b⟩
  simp only [Kvz,bs]
  cases a == 3 <;> cases a == 4 <;> cases Kvy s b <;> simp [bs]
theorem Kw3 (s:K00) (ty:List Int) (hty:ty.length ≤ 1099511627776):Kio (s,ty)=some (Kw1 s ty):=by
 unfold Kio Kw1
 simp only
 rw [Ktf ty hty,bs]
 cases wtB ty
 ·rfl
 ·rw [if_pos rfl,show (0:Int)=((0:Nat):Int) from rfl,Kw2 s ty hty _ 0 rfl,List.drop_zero,bs]
  cases ty.all (Kw0 s) <;> rfl
theorem Kw4 {s:K00} {n:Nat} (h:Tab s n) (g:Int):Kvy s g=inB g 0 ((n:Int) - 1):=by
 unfold Kvy; rw [Kvi h]
theorem Kw5 {s:K00} {n:Nat} (h:Tab s n) {c:Int}:Kw0 s c=Kth s.fSize true c:=by
 unfold Kw0 Kth Ktg
 have hn:=h.lo
 rw [Kw4 h,h.size]
 rcases Kt2 c with ⟨q,e⟩ | ⟨q,e⟩ | ⟨q,e⟩ | ⟨q,e⟩ | ⟨q,e⟩ | ⟨q,e⟩ | ⟨q,e⟩ | ⟨q,e⟩ <;> rw [e]
 ·subst q; rfl
 ·subst q; rfl
 ·subst q; rfl
 ·have hk:Ksv c=2:=by rcases Ksz c with h | h | h | h <;> omega
  rw [hk,if_neg (by omega),if_neg (by omega),decide_eq_true (by omega:c > 2)]
  unfold inB
  rw [decide_eq_true (by omega:c - 3 ≥ 0),decide_eq_false (by omega:¬ c - 3 < 0)]
  by_cases hc:c - 3 ≤ (n:Int) - 1
  ·rw [decide_eq_true hc,decide_eq_false (by omega:¬ c - 3 ≥ (n:Int))]; rfl
  ·rw [decide_eq_false hc,decide_eq_true (by omega:c - 3 ≥ (n:Int))]; rfl
 ·subst q; unfold inB; simp [Ksv,Kst,Ksu,inB]
 ·have hk:Ksv c=1:=by rcases Ksz c with h | h | h | h <;> omega
  rw [hk,if_neg (by omega),if_pos (by omega),decide_eq_true (by omega:c > 2)]
  unfold inB
  rw [decide_eq_true (by omega:c - 19 ≥ 0),decide_eq_false (by omega:¬ c - 19 < 0)]
  by_cases hc:c - 19 ≤ (n:Int) - 1
  ·rw [decide_eq_true hc,decide_eq_false (by omega:¬ c - 19 ≥ (n:Int))]; rfl
  ·rw [decide_eq_false hc,decide_eq_true (by omega:c - 19 ≥ (n:Int))]; rfl
 ·subst q; unfold inB; simp [Ksv,Kst,Ksu,inB]
 ·have hk:Ksv c=-1:=by rcases Ksz c with h | h | h | h <;> omega
  rw [hk]; simp
theorem Kw6 {s:K00} {n:Nat} (h:Tab s n) (ty:List Int):Kw1 s ty=yN s.fSize true ty:=by
 unfold Kw1 yN
 rw [show Kw0 s=Kth s.fSize true from funext fun c=>Kw5 h]
theorem Kw7 {α:Type} (x:α) (l:List α):idx (x :: l) 0=some x:=rfl
theorem Kw8 {a b:Nat} (ha:a ≤ 1099511627776) (hb:b ≤ 1099511627776):wr ((a:Int) + (b:Int))=((a + b:Nat):Int):=by rw [Kra (by omega) (by omega)]; omega
theorem Kw9 (a:List Bool) (left:Int) (h1:0 ≤ left) (h2:left ≤ 1048576) (ha:a.length ≤ 9223372036854775807):K8p (a,left)=some (szB left a.length):=by
 unfold K8p szB
 simp only
 rw [Kra (by omega) (by omega)]
 by_cases h:left - (a.length:Int) < 0
 ·rw [decide_eq_true h,if_pos rfl,if_pos h]
 ·rw [decide_eq_false h,if_neg (by decide),if_neg h]
def sln (s:K00):Prop:=s.fPlus.length ≤ 9223372036854775807∧s.fTimes.length ≤ 9223372036854775807∧s.fBelow.length ≤ 9223372036854775807
def sms (s:K00):Nat:=s.fPlus.length + s.fTimes.length + s.fBelow.length
theorem Kwa (s:K00) (left:Int) (hs:sln s) (h1:0 ≤ left) (h2:left ≤ 1048576):K8s (s,left)=some (szB left (sms s)):=by
 obtain ⟨l1,l2,l3⟩:=hs
 unfold K8s sms
 simp only
 rw [Kuq _ _ h1 h2 l1,bs]
 rcases Kup left s.fPlus.length with ⟨e,hl⟩ | ⟨e,hl⟩
 ·rw [e,decide_eq_true (by decide),if_pos rfl]; unfold szB; rw [if_pos (by omega)]
 ·rw [e,decide_eq_false (by omega),if_neg (by decide),Kuq _ _ (by omega) (by omega) l2,bs]
  rcases Kup (left - (s.fPlus.length:Int)) s.fTimes.length with ⟨e2,hl2⟩ | ⟨e2,hl2⟩
  ·rw [e2,decide_eq_true (by decide),if_pos rfl]; unfold szB; rw [if_pos (by omega)]
  ·rw [e2,decide_eq_false (by omega),if_neg (by decide),Kw9 _ _ (by omega) (by omega) l3,bs]
   rcases Kup (left - (s.fPlus.length:Int) - (s.fTimes.length:Int)) s.fBelow.length with ⟨e3,hl3⟩ | ⟨e3,hl3⟩
   ·rw [e3,decide_eq_true (by decide),if_pos rfl]; unfold szB; rw [if_pos (by omega)]
   ·rw [e3,decide_eq_false (by omega),if_neg (by decide)]; unfold szB; rw [if_neg (by omega)]; congr 1; omega
theorem Kwb {s:K00} (h:sms s ≤ 1048576):K9r s=some s:=by unfold sms at h; exact Krp s (by omega) (by omega) (by omega)
theorem Kwc {s:K00} (h:sms s ≤ 1048576):Kpe (s,s)=some true:=by unfold sms at h; exact Krq s (by omega) (by omega) (by omega)
mutual
theorem Kwd:∀ (t:K01),tms t ≤ 1099511627776→Kns t=some t
 | ⟨op,N,ty,ks⟩,h=>by
  rw [tms] at h
  rw [Kns.eq_def]
  simp only
  rw [Kv3 ty (by omega),bs,show (0:Int)=((0:Nat):Int) from rfl,Kwe ks ⟨op,N,ty,ks⟩ 0 ty [] rfl (by simp only; omega) (by omega) (by simp),bs]
  rfl
theorem Kwe:∀ (ks:List K01) (t:K01) (i:Nat) (r:List Int) (out:List K01),t.fKids.drop i=ks→t.fKids.length ≤ 1099511627776→Kto ks ≤ 1099511627776→out.length=i→Knt (t,r,out,(i:Int))=some (out ++ ks)
 | [],t,i,r,out,hd,hk,hm,ho=>by
  rw [Knt.eq_def]
  simp only
  rw [Kre (Kss hd),List.append_nil]; rfl
 | k :: ks,t,i,r,out,hd,hk,hm,ho=>by
  obtain ⟨hi,hx,hd'⟩:=Ksr hd
  rw [Kto] at hm
  rw [Knt.eq_def]
  simp only
  rw [Krd hi,if_pos rfl,hx,bs,Kwd k (by omega),bs,Kv0 (by simp only [List.length_singleton]; omega),bs,Krc (by omega),Kwe ks t (i + 1) r _ hd' hk (by omega) (by simp [ho]),List.append_assoc]
  rfl
end
mutual
def tNb (hi:Int):K01→Prop
 | ⟨op,N,_,ks⟩=>(op=0→-9223372036854775808 ≤ N∧N ≤ hi)∧Kwf hi ks
def Kwf (hi:Int):List K01→Prop
 | []=>True
 | k :: ks=>tNb hi k∧Kwf hi ks
end
mutual
def shf (by_:Int):Int→K01→K01
 | from_,⟨op,N,ty,ks⟩=>⟨op,if op == 0 && decide (N ≥ from_) then N + by_ else N,ty,Kwg by_ op from_ 0 ks⟩
def Kwg (by_:Int):Int→Int→Nat→List K01→List K01
 | _,_,_,[]=>[]
 | op,from_,i,k :: ks=>shf by_ (from_ + ((Ku6 op (i:Int):Nat):Int)) k :: Kwg by_ op from_ (i + 1) ks
end
mutual
theorem Kwh:∀ (t:K01) (fr:Int),shf 0 fr t=t
 | ⟨op,N,ty,ks⟩,fr=>by
  rw [shf,Kwi ks]
  simp
theorem Kwi:∀ (ks:List K01) (op fr:Int) (i:Nat),Kwg 0 op fr i ks=ks
 | [],op,fr,i=>by rw [Kwg]
 | k :: ks,op,fr,i=>by rw [Kwg,Kwh k,Kwi ks]
end
mutual
theorem Kwj (b hi:Int) (hb:0 ≤ b) (hh:hi + b ≤ 9223372036854775807):∀ (t:K01) (fr:Int),tNb hi t→tms t ≤ 1099511627776→-35184372088832 ≤ fr→fr + 2 * tms t ≤ 35184372088832→Kgf (t,b,fr)=some (shf b fr t)
 | ⟨op,N,ty,ks⟩,fr,hn,hm,h1,h2=>by
  rw [tms] at hm h2
  rw [tNb] at hn
  rw [Kgf.eq_def,shf]
  simp only
  rw [Kv2 ty (by omega),bs]
  refine (Ktm (x:=op == 0 && decide (N ≥ fr)) ?_).trans ?_
  ·cases op == 0 <;> rfl
  refine (Ktm (x:=if op == 0 && decide (N ≥ fr) then N + b else N) ?_).trans ?_
  ·cases h:op == 0 && decide (N ≥ fr)
   ·rfl
   ·rw [Bool.and_eq_true] at h
    have:=hn.1 (eq_of_beq h.1)
    rw [if_pos rfl,Kra (by omega) (by omega)]; rfl
  rw [show (0:Int)=((0:Nat):Int) from rfl,Kwk b hi hb hh ks ⟨op,N,ty,ks⟩ fr 0 ty _ [] rfl (by simp only; omega) hn.2 (by omega) h1 (by omega) (by simp),bs]
  rfl
theorem Kwk (b hi:Int) (hb:0 ≤ b) (hh:hi + b ≤ 9223372036854775807):∀ (ks:List K01) (t:K01) (fr:Int) (i:Nat) (r:List Int) (o:Int) (out:List K01),t.fKids.drop i=ks→t.fKids.length ≤ 1099511627776→Kwf hi ks→Kto ks ≤ 1099511627776→-35184372088832 ≤ fr →
  fr + 2 * (ks.length + Kto ks) ≤ 35184372088832→out.length=i→Kgg (t,b,fr,r,o,out,(i:Int))=some (out ++ Kwg b t.fOp fr i ks)
 | [],t,fr,i,r,o,out,hd,hk,hn,hm,h1,h2,ho=>by
  rw [Kgg.eq_def,Kwg]
  simp only
  rw [Kre (Kss hd),List.append_nil]; rfl
 | k :: ks,t,fr,i,r,o,out,hd,hk,hn,hm,h1,h2,ho=>by
  obtain ⟨hi',hx,hd'⟩:=Ksr hd
  rw [Kto] at hm h2
  rw [List.length_cons] at h2
  rw [Kwf] at hn
  have ha:=Ku7 t.fOp (i:Int)
  rw [Kgg.eq_def,Kwg]
  simp only
  rw [Krd hi',if_pos rfl,hx,bs,Ku8,bs,Kra (by omega) (by omega),Kwj b hi hb hh k _ hn.1 (by omega) (by omega) (by omega),bs,Kv0 (by simp only [List.length_singleton]; omega),bs,Krc (by omega)]
  rw [Kwk b hi hb hh ks t fr (i + 1) r o _ hd' hk hn.2 (by omega) h1 (by omega) (by simp [ho]),List.append_assoc]
  rfl
end
mutual
theorem Kwl {a b:Int} (h:a ≤ b):∀ (t:K01),tNb a t→tNb b t
 | ⟨op,N,ty,ks⟩,hn=>by
  rw [tNb] at hn ⊢
  exact ⟨fun e=>by have:=hn.1 e; omega,Kwm h ks hn.2⟩
theorem Kwm {a b:Int} (h:a ≤ b):∀ (ks:List K01),Kwf a ks→Kwf b ks
 | [],_=>by rw [Kwf]; trivial
 | k :: ks,hn=>by rw [Kwf] at hn ⊢; exact ⟨Kwl h k hn.1,Kwm h ks hn.2⟩
end
mutual
theorem Kwn (g:Int→Bool) (y:List Int→Bool):∀ (t:K01) (n:Nat),tOk g y n t=true→tNb ((n:Int) + 2 * tsz t) t
 | ⟨op,N,ty,ks⟩,n,h=>by
  obtain ⟨h1,h2⟩:=Kuz h
  rw [tNb]
  refine ⟨fun e=>?_,?_⟩
  ·subst e
   unfold Kuc Kua at h1
   simp only [Bool.and_eq_true] at h1
   have h3:=h1.1.2
   rw [show ((0:Int) == 0)=true from rfl,if_pos rfl] at h3
   unfold inB at h3
   simp only [Bool.and_eq_true,decide_eq_true_eq] at h3
   omega
  ·rw [tsz]
   exact Kwm (by omega) ks (Kwo g y ks op n 0 h2)
theorem Kwo (g:Int→Bool) (y:List Int→Bool):∀ (ks:List K01) (op:Int) (n i:Nat),Kud g y op n i ks=true→Kwf ((n:Int) + 2 * Ktn ks + 2) ks
 | [],op,n,i,h=>by rw [Kwf]; trivial
 | k :: ks,op,n,i,h=>by
  rw [Kud,Bool.and_eq_true] at h
  have ha:=Ku7 op (i:Int)
  rw [Kwf,Ktn]
  exact ⟨Kwl (by omega) k (Kwn g y k _ h.1),Kwm (by omega) ks (Kwo g y ks op n (i + 1) h.2)⟩
end
theorem Kwp {t:K01} (h:wB t=true):tOk (gN 16 false) wtB 8 t=true∧tsz t ≤ 400:=by
 unfold wB at h
 rw [Bool.and_eq_true,decide_eq_true_eq] at h
 exact h
theorem Kwq {t:K01} (h:wB t=true):tNb 1048576 t:=by
 obtain ⟨h1,h2⟩:=Kwp h
 exact Kwl (by omega) t (Kwn _ _ t 8 h1)
theorem Kwr {t:K01} (hn:tNb 9223372036854775807 t) (hm:tms t ≤ 1099511627776):Kgf (t,0,0)=some t:=by
 rw [Kwj 0 9223372036854775807 (by omega) (by omega) t 0 hn hm (by omega) (by omega),Kwh]
theorem Kws:∀ (l a:List Int) (i k:Nat),a.drop i=l→a.length ≤ 1099511627776→k + l.length ≤ 1152921504606846976 + 1099511627776 →
  ∃ M,Kpp (a,(k:Int),(i:Int))=some (((k + l.length:Nat):Int),M)∧M.length=a.length∧M.take i=a.take i∧M.drop i=(List.range' k l.length).map (fun n:Nat=>(n:Int)):=by
 intro l
 induction l with
 | nil =>
  intro a i k hd ha hk
  rw [Kpp.eq_def]
  simp only
  rw [Kre (Kss hd)]
  exact ⟨a,by simp,rfl,rfl,by rw [hd]; rfl⟩
 | cons x l ih =>
  intro a i k hd ha hk
  obtain ⟨hi,hx,hd'⟩:=Ksr hd
  have hl:(x :: l).length ≤ 1099511627776:=by rw [← hd,List.length_drop]; omega
  rw [List.length_cons] at hl hk
  rw [Kpp.eq_def]
  simp only
  rw [Krd hi,if_pos rfl,hx,bs,Int.toNat_natCast,Krc (by omega),Krc (by omega)]
  obtain ⟨M,h1,h2,h3,h4⟩:=ih (a.set i (k:Int)) (i + 1) (k + 1) (by rw [List.drop_set_of_lt (by omega)]; exact hd') (by simpa using ha) (by omega)
  have hMl:i < M.length:=by rw [h2,List.length_set]; exact hi
  have hMi:M[i]=(k:Int):=by
   have:=congrArg (fun l=>l[i]?) h3
   simp only [List.getElem?_take] at this
   rw [if_pos (by omega),if_pos (by omega),List.getElem?_eq_getElem hMl,List.getElem?_set_self hi] at this
   exact Option.some.inj this
  refine ⟨M,by rw [h1,List.length_cons]; congr 3; omega,by simpa using h2,?_,?_⟩
  ·have:=congrArg (List.take i) h3
   rw [List.take_take,List.take_take,Nat.min_eq_left (by omega),List.take_set_of_le (Nat.le_refl i)] at this
   exact this
  ·rw [List.drop_eq_getElem_cons hMl,h4,hMi,List.length_cons,List.range'_succ,List.map_cons]
theorem Kwt (a:List Int) (k:Nat) (ha:a.length ≤ 1099511627776) (hk:k ≤ 1152921504606846976) :
  Kps (a,(k:Int))=some (((k + a.length:Nat):Int),(List.range' k a.length).map (fun n:Nat=>(n:Int))):=by
 unfold Kps
 simp only
 obtain ⟨M,h1,h2,h3,h4⟩:=Kws a a 0 k rfl ha (by omega)
 rw [List.drop_zero] at h4
 rw [show (0:Int)=((0:Nat):Int) from rfl,h1,bs,h4]
theorem Kwu (m:Nat):∀ (n k i:Nat) (a:List Int),a.length ≤ 1099511627776→a.drop i=(List.range' k n).map (fun n:Nat=>(n:Int))→k + n ≤ 1152921504606846976 + 1099511627776→Kqo (a,(k:Int),(i:Int))=some (.inl ((k + n:Nat):Int)):=by
 intro n
 induction n with
 | zero =>
  intro k i a ha hd hk
  rw [Kqo.eq_def]
  simp only
  rw [Kre (Kss hd)]; rfl
 | succ n ih =>
  intro k i a ha hd hk
  rw [List.range'_succ,List.map_cons] at hd
  obtain ⟨hi,hx,hd'⟩:=Ksr hd
  rw [Kqo.eq_def]
  simp only
  rw [Krd hi,if_pos rfl,hx,bs,Krk,if_neg (by decide),Krc (by omega),Krc (by omega),ih (k + 1) (i + 1) a ha hd' (by omega)]
  congr 3; omega
theorem Kwv (n k:Nat) (hn:n ≤ 1099511627776) (hk:k ≤ 1152921504606846976):Kqr ((List.range' k n).map (fun n:Nat=>(n:Int)),(k:Int))=some ((k + n:Nat):Int):=by
 unfold Kqr
 simp only
 rw [show (0:Int)=((0:Nat):Int) from rfl,Kwu 0 n k 0 _ (by simpa using hn) (by rw [List.drop_zero]) (by omega),bs]
mutual
def mct:K01→Nat
 | ⟨_,_,ty,ks⟩=>ty.length + Kww ks
def Kww:List K01→Nat
 | []=>0
 | k :: ks=>2 + mct k + Kww ks
end
mutual
theorem Kwx:∀ (t:K01),mct t ≤ 2 * tms t
 | ⟨op,N,ty,ks⟩=>by rw [mct,tms]; have:=Kwy ks; omega
theorem Kwy:∀ (ks:List K01),Kww ks ≤ 2 * (ks.length + Kto ks)
 | []=>by simp [Kww]
 | k :: ks=>by rw [Kww,Kto,List.length_cons]; have:=Kwx k; have:=Kwy ks; omega
end
theorem Kwz {α:Type} (l:List α) (i:Nat) (a b:α):(l.set i a).set i b=l.set i b:=List.set_set ..
theorem Kx0 {α:Type} {l:List α} {i:Nat} (h:i < l.length) (a:α):idx (l.set i a) (i:Int)=some a:=by
 rw [Krb (by simpa using h)]; simp
mutual
theorem Kx1:∀ (t:K01) (k:Nat),tms t ≤ 1099511627776→k + mct t ≤ 1152921504606846976→∃ ty ks,Kps (t.fType,(k:Int))=some (((k + t.fType.length:Nat):Int),ty)∧Kqd (t.fKids,((k + t.fType.length:Nat):Int))=some (((k + mct t:Nat):Int),ks) ∧
  Kqr (ty,(k:Int))=some ((k + t.fType.length:Nat):Int)∧Kqv (ks,((k + t.fType.length:Nat):Int))=some ((k + mct t:Nat):Int)∧ks.length=t.fKids.length
 | ⟨op,N,ty,ks⟩,k,hm,hk=>by
  rw [tms] at hm
  rw [mct] at hk ⊢
  simp only
  refine ⟨(List.range' k ty.length).map (fun n:Nat=>(n:Int)),?_⟩
  obtain ⟨M,h1,h2,h3,h4⟩:=Kx2 ks ks 0 (k + ty.length) rfl (by omega) (by omega) (by omega)
  refine ⟨M,Kwt ty k (by omega) (by omega),?_,Kwv ty.length k (by omega) (by omega),?_,h2⟩
  ·rw [Kqd.eq_def]
   simp only
   rw [show (0:Int)=((0:Nat):Int) from rfl,h1,bs,Nat.add_assoc]
  ·rw [Kqv.eq_def]
   simp only
   rw [show (0:Int)=((0:Nat):Int) from rfl,h4 M h2 rfl,bs,Nat.add_assoc]
theorem Kx2:∀ (ks a:List K01) (i k:Nat),a.drop i=ks→a.length ≤ 1099511627776→Kto ks ≤ 1099511627776→k + Kww ks ≤ 1152921504606846976 →
  ∃ M,Kqe (a,(k:Int),(i:Int))=some (((k + Kww ks:Nat):Int),M)∧M.length=a.length∧M.take i=a.take i∧∀ A:List K01,A.length=a.length→A.drop i=M.drop i→Kqw (A,(k:Int),(i:Int))=some (.inl ((k + Kww ks:Nat):Int))
 | [],a,i,k,hd,ha,hm,hk=>by
  rw [Kqe.eq_def,Kww]
  simp only
  rw [Kre (Kss hd)]
  refine ⟨a,rfl,rfl,rfl,fun A hA _=>?_⟩
  rw [Kqw.eq_def]
  simp only
  have:=Kss hd
  rw [Kre (by omega)]; rfl
 | x :: ks,a,i,k,hd,ha,hm,hk=>by
  obtain ⟨hi,hx,hd'⟩:=Ksr hd
  rw [Kto] at hm
  rw [Kww] at hk ⊢
  rw [Kqe.eq_def]
  simp only
  rw [Krd hi,if_pos rfl,hx,bs,Krc (n:=k) (by omega),Krc (n:=k + 1) (by omega),Int.toNat_natCast]
  obtain ⟨ty,kk,m1,m2,m3,m4,m5⟩:=Kx1 x (k + 1 + 1) (by omega) (by omega)
  simp only [Kwz,Kx0 hi,bs,m1,m2]
  rw [Krc (by omega)]
  obtain ⟨M,h1,h2,h3,h4⟩:=Kx2 ks (a.set i ⟨(k:Int),((k + 1:Nat):Int),ty,kk⟩) (i + 1) (k + 1 + 1 + mct x) (by rw [List.drop_set_of_lt (by omega)]; exact hd') (by simpa using ha) (by omega) (by omega)
  have hMl:i < M.length:=by rw [h2,List.length_set]; exact hi
  have hMi:M[i]=⟨(k:Int),((k + 1:Nat):Int),ty,kk⟩:=by
   have:=congrArg (fun l=>l[i]?) h3
   simp only [List.getElem?_take] at this
   rw [if_pos (by omega),if_pos (by omega),List.getElem?_eq_getElem hMl,List.getElem?_set_self hi] at this
   exact Option.some.inj this
  refine ⟨M,by rw [h1]; congr 3; omega,by simpa using h2,?_,fun A hA hAd=>?_⟩
  ·have:=congrArg (List.take i) h3
   rw [List.take_take,List.take_take,Nat.min_eq_left (by omega),List.take_set_of_le (Nat.le_refl i)] at this
   exact this
  ·rw [List.drop_eq_getElem_cons hMl,hMi] at hAd
   obtain ⟨qi,qx,qd⟩:=Ksr hAd
   rw [Kqw.eq_def]
   simp only
   rw [Krd qi,if_pos rfl,qx,bs,Krc (n:=k) (by omega),Krc (n:=k + 1) (by omega)]
   simp only
   rw [Krk,if_neg (by decide),bs]
   simp only
   rw [Krk,if_neg (by decide),bs]
   simp only
   rw [m3,bs,decide_eq_false (by omega),if_neg (by decide),bs]
   simp only
   rw [m4,bs,decide_eq_false (by omega),if_neg (by decide),Krc (by omega),h4 A (by simpa using hA) qd]
   congr 3; omega
end
theorem Kx3 (t:K01) (k:Nat) (hm:tms t ≤ 1099511627776) (hk:k ≤ 1000000000000000000):∃ M,Kqk (t,(k:Int))=some (((k + mct t:Nat):Int),M)∧∀ op N,Kr2 (⟨op,N,M.fType,M.fKids⟩,(k:Int))=some ((k + mct t:Nat):Int):=by
 have hc:=Kwx t
 obtain ⟨ty,ks,m1,m2,m3,m4,_⟩:=Kx1 t k hm (by omega)
 unfold Kqk
 simp only
 rw [m1,bs]
 simp only
 rw [m2,bs]
 refine ⟨_,rfl,fun op N=>?_⟩
 unfold Kr2
 simp only
 rw [m3,bs,decide_eq_false (by omega),if_neg (by decide),m4,bs,decide_eq_false (by omega),if_neg (by decide)]
mutual
theorem Kx4:∀ (t:K01) (k:Nat),tms t ≤ 1099511627776→k + mct t ≤ 1152921504606846976→∃ ks,Kqd (t.fKids,((k + t.fType.length:Nat):Int))=some (((k + mct t:Nat):Int),ks)
 | ⟨op,N,ty,ks⟩,k,hm,hk=>by
  rw [tms] at hm
  rw [mct] at hk ⊢
  simp only
  obtain ⟨M,h1⟩:=Kx5 ks ks 0 (k + ty.length) rfl (by omega) (by omega) (by omega)
  refine ⟨M,?_⟩
  rw [Kqd.eq_def]
  simp only
  rw [show (0:Int)=((0:Nat):Int) from rfl,h1,bs,Nat.add_assoc]
theorem Kx5:∀ (ks a:List K01) (i k:Nat),a.drop i=ks→a.length ≤ 1099511627776→Kto ks ≤ 1099511627776→k + Kww ks ≤ 1152921504606846976 →
  ∃ M,Kqe (a,(k:Int),(i:Int))=some (((k + Kww ks:Nat):Int),M)
 | [],a,i,k,hd,ha,hm,hk=>by
  rw [Kqe.eq_def,Kww]
  simp only
  rw [Kre (Kss hd)]
  exact ⟨a,rfl⟩
 | x :: ks,a,i,k,hd,ha,hm,hk=>by
  obtain ⟨hi,hx,hd'⟩:=Ksr hd
  rw [Kto] at hm
  rw [Kww] at hk ⊢
  rw [Kqe.eq_def]
  simp only
  rw [Krd hi,if_pos rfl,hx,bs,Krc (n:=k) (by omega),Krc (n:=k + 1) (by omega),Int.toNat_natCast]
  obtain ⟨kk,m2⟩:=Kx4 x (k + 1 + 1) (by omega) (by omega)
  have m1:=Kwt x.fType (k + 1 + 1) (by have:=Ktp x; omega) (by omega)
  simp only [Kwz,Kx0 hi,bs,m1,m2]
  rw [Krc (by omega)]
  obtain ⟨M,h1⟩:=Kx5 ks (a.set i ⟨(k:Int),((k + 1:Nat):Int),(List.range' (k + 1 + 1) x.fType.length).map (fun n:Nat=>(n:Int)),kk⟩) (i + 1) (k + 1 + 1 + mct x) (by rw [List.drop_set_of_lt (by omega)]; exact hd') (by simpa using ha) (by omega) (by omega)
  exact ⟨M,by rw [h1]; congr 3; omega⟩
end
theorem Kx6 (t:K01) (k:Nat) (hm:tms t ≤ 1099511627776) (hk:k ≤ 1000000000000000000):∃ M,Kqk (t,(k:Int))=some (((k + mct t:Nat):Int),M):=by
 have hc:=Kwx t
 obtain ⟨ks,m2⟩:=Kx4 t k hm (by omega)
 unfold Kqk
 simp only
 rw [Kwt t.fType k (by have:=Ktp t; omega) (by omega),bs]
 simp only
 rw [m2,bs]
 exact ⟨_,rfl⟩
theorem Kx7 (b:Bool):(!(b == b))=false:=by cases b <;> rfl
def lct:List (List Int)→Nat
 | []=>0
 | x :: l=>x.length + lct l
def lok (l:List (List Int)):Prop:=l.length ≤ 1099511627776∧lct l ≤ 1099511627776
theorem Kx8 {l:List (List Int)} {x:List Int} (h:x ∈ l):x.length ≤ lct l:=by
 induction l with
 | nil=>cases h
 | cons y l ih =>
  rw [lct]
  rcases List.mem_cons.1 h with rfl | h
  ·omega
  ·have:=ih h; omega
theorem Kx9 (a:List (List Int)) (ha:a.length ≤ 1099511627776):∀ (l:List (List Int)) (i:Nat),a.drop i=l→lct l ≤ 1099511627776→Kpi (a,a,(i:Int))=some (.inl ()):=by
 intro l
 induction l with
 | nil =>
  intro i hd _
  rw [Kpi.eq_def]
  simp only
  rw [Kre (Kss hd)]; rfl
 | cons x l ih =>
  intro i hd hl
  obtain ⟨hi,hx,hd'⟩:=Ksr hd
  rw [lct] at hl
  rw [Kpi.eq_def]
  simp only
  rw [Krd hi,if_pos rfl,hx,bs,bs,Krm x (by omega),bs,if_pos rfl,Krc (by omega),ih (i + 1) hd' (by omega)]
theorem Kxa (a:List (List Int)) (h:lok a):Kpl (a,a)=some true:=by
 unfold Kpl
 simp only
 rw [Krk,if_neg (by decide),show (0:Int)=((0:Nat):Int) from rfl,Kx9 a h.1 a 0 rfl h.2]; rfl
theorem Kxb:∀ (l a:List (List Int)) (i k:Nat),a.drop i=l→a.length ≤ 1099511627776→lct l ≤ 1099511627776→k + lct l ≤ 1152921504606846976→∃ M,Kq6 (a,(k:Int),(i:Int))=some (((k + lct l:Nat):Int),M):=by
 intro l
 induction l with
 | nil =>
  intro a i k hd ha hl hk
  rw [Kq6.eq_def,lct]
  simp only
  rw [Kre (Kss hd)]
  exact ⟨a,rfl⟩
 | cons x l ih =>
  intro a i k hd ha hl hk
  obtain ⟨hi,hx,hd'⟩:=Ksr hd
  rw [lct] at hl hk ⊢
  rw [Kq6.eq_def]
  simp only
  rw [Krd hi,if_pos rfl,hx,bs,Kwt x k (by omega) (by omega),bs,Krc (by omega),Int.toNat_natCast]
  simp only
  obtain ⟨M,h1⟩:=ih (a.set i ((List.range' k x.length).map (fun n:Nat=>(n:Int)))) (i + 1) (k + x.length) (by rw [List.drop_set_of_lt (by omega)]; exact hd') (by simpa using ha) (by omega) (by omega)
  exact ⟨M,by rw [h1]; congr 3; omega⟩
theorem Kxc (a:List (List Int)) (k:Nat) (h:lok a) (hk:k ≤ 1000000000000000000):∃ M,Kq9 (a,(k:Int))=some (((k + lct a:Nat):Int),M):=by
 have:=h.2
 obtain ⟨M,h1⟩:=Kxb a a 0 k rfl h.1 h.2 (by omega)
 refine ⟨M,?_⟩
 unfold Kq9
 simp only
 rw [show (0:Int)=((0:Nat):Int) from rfl,h1,bs]
theorem Kxd {α:Type} (x:α) (l:List α):cut (x :: l) (some 1) none none=some l:=Kvt [x] l
theorem Kxe {a:Int}:(a == a)=true:=by simp
structure Kxf (c:Int) (a b:Ty):Prop where
 p0:Kex (c :: (a.code ++ b.code),0)=some a.code
 p1:Kex (c :: (a.code ++ b.code),1)=some b.code
 pp:Kjv (c :: (a.code ++ b.code))=some [a.code,b.code]
 ok:a.ok∧b.ok
 la:a.code.length + b.code.length + 1 ≤ 1048576
theorem Kxg {c:Int} {a b:Ty} (h:(Ty.bin c a b).ok) (hl:(Ty.bin c a b).code.length ≤ 1048576):Kxf c a b:=by
 have hl':=hl
 rw [Ty.code] at hl'
 have h3:=Kvv h hl
 rw [Ty.kids,List.map_cons,List.map_cons,List.map_nil,Ty.code] at h3
 refine ⟨Kvw h.2.1 (by omega),Kvx h.2.1 (by omega),h3,h.2,?_⟩
 rw [List.length_cons,List.length_append] at hl'
 omega
structure UnP (c:Int) (a:Ty):Prop where
 p0:Kex (c :: a.code,0)=some a.code
 pp:Kjv (c :: a.code)=some [a.code]
 ok:a.ok
 la:a.code.length + 1 ≤ 1048576
theorem unP {c:Int} {a:Ty} (h:(Ty.un c a).ok) (hl:(Ty.un c a).code.length ≤ 1048576):UnP c a:=by
 have hl':=hl
 rw [Ty.code] at hl'
 have h3:=Kvv h hl
 rw [Ty.kids,List.map_cons,List.map_nil,Ty.code] at h3
 have h4:=Kvw (c:=c) (r:=[]) h.2 (by rw [List.append_nil]; omega)
 rw [List.append_nil] at h4
 refine ⟨h4,h3,h.2,?_⟩
 rw [List.length_cons] at hl'
 omega
theorem Kxh:∀ (l a:List Bool) (i k:Nat),a.drop i=l→a.length ≤ 1099511627776→k + l.length ≤ 1152921504606846976 + 1099511627776→∃ M,Kpw (a,(k:Int),(i:Int))=some (((k + l.length:Nat):Int),M):=by
 intro l
 induction l with
 | nil =>
  intro a i k hd ha hk
  rw [Kpw.eq_def]
  simp only
  rw [Kre (Kss hd)]
  exact ⟨a,rfl⟩
 | cons x l ih =>
  intro a i k hd ha hk
  obtain ⟨hi,hx,hd'⟩:=Ksr hd
  have hl:(x :: l).length ≤ 1099511627776:=by rw [← hd,List.length_drop]; omega
  rw [List.length_cons] at hl hk
  rw [Kpw.eq_def]
  simp only
  rw [Krd hi,if_pos rfl,hx,bs,Int.toNat_natCast,Krc (by omega),Krc (by omega)]
  obtain ⟨M,h1⟩:=ih (a.set i (Int.tmod (k:Int) 3 == 0)) (i + 1) (k + 1) (by rw [List.drop_set_of_lt (by omega)]; exact hd') (by simpa using ha) (by omega)
  exact ⟨M,by rw [h1,List.length_cons]; congr 3; omega⟩
theorem Kxi (s:K00) (k:Nat) (hs:sms s ≤ 1099511627776) (hk:k ≤ 1000000000000000000):∃ M,Kq2 (s,(k:Int))=some (((k + sms s:Nat):Int),M):=by
 unfold sms at hs ⊢
 unfold Kq2
 simp only
 rw [Kwt s.fPlus k (by omega) (by omega),bs]
 simp only
 rw [Kwt s.fTimes _ (by omega) (by omega),bs]
 simp only
 obtain ⟨M,h⟩:=Kxh s.fBelow s.fBelow 0 (k + s.fPlus.length + s.fTimes.length) rfl (by omega) (by omega)
 unfold Kpz
 simp only
 rw [show (0:Int)=((0:Nat):Int) from rfl,h,bs,bs]
 exact ⟨_,by congr 3; omega⟩
theorem Kxj {p:Prop} [Decidable p] (h:p):chk p=some ():=by unfold chk; rw [if_pos h]
theorem Kxk (x y:Int) (l r:List Int):(x :: l == y :: r)=(x == y && l == r):=rfl
theorem Kxl (a b:List Int) (ha:a.length ≤ 1099511627776) (hab:a.length=b.length):∀ (l r:List Int) (i:Nat),a.drop i=l→b.drop i=r→Kf1 (a,b,(i:Int))=some (if l == r then .inl () else .inr false):=by
 intro l
 induction l with
 | nil =>
  intro r i h1 h2
  have hi:=Kss h1
  rw [Kf1.eq_def]
  simp only
  rw [Kre hi]
  have:r=[]:=by rw [← h2]; exact List.drop_eq_nil_of_le (by omega)
  subst this; rfl
 | cons x l ih =>
  intro r i h1 h2
  obtain ⟨hi,hx,hd⟩:=Ksr h1
  cases r with
  | nil=>have:=Kss h2; omega
  | cons y r =>
   obtain ⟨_,hy,hd2⟩:=Ksr h2
   rw [Kf1.eq_def]
   simp only
   rw [Krd hi,if_pos rfl,hx,hy,bs,bs,Krc (by omega),ih r (i + 1) hd hd2,Kxk]
   by_cases e:x=y
   ·subst e; simp
   ·rw [bne_iff_ne.2 e,if_pos rfl,beq_eq_false_iff_ne.2 e]; rfl
theorem Kxm (a b:List Int) (hb:b.length ≤ 1099511627776):Kf4 (a,b)=some (a == b):=by
 unfold Kf4
 simp only
 by_cases h:a.length=b.length
 ·rw [h,Krk,if_neg (by decide)]
  have:=Kxl a b (by omega) h a b 0 rfl rfl
  rw [show ((0:Nat):Int)=0 from rfl] at this
  rw [this]
  cases a == b <;> rfl
 ·rw [bne_iff_ne.2 (by omega),if_pos rfl]
  have:a ≠ b:=fun e=>h (by rw [e])
  rw [beq_eq_false_iff_ne.2 this]
theorem Kxn (a b:List Int) (ha:a.length ≤ 1099511627776) (hab:a.length=b.length):∀ (l r:List Int) (i:Nat),a.drop i=l→b.drop i=r→Kkk (a,b,(i:Int))=some (if l == r then .inl () else .inr false):=by
 intro l
 induction l with
 | nil =>
  intro r i h1 h2
  have hi:=Kss h1
  rw [Kkk.eq_def]
  simp only
  rw [Kre hi]
  have:r=[]:=by rw [← h2]; exact List.drop_eq_nil_of_le (by omega)
  subst this; rfl
 | cons x l ih =>
  intro r i h1 h2
  obtain ⟨hi,hx,hd⟩:=Ksr h1
  cases r with
  | nil=>have:=Kss h2; omega
  | cons y r =>
   obtain ⟨_,hy,hd2⟩:=Ksr h2
   rw [Kkk.eq_def]
   simp only
   rw [Krd hi,if_pos rfl,hx,hy,bs,bs,Krc (by omega),ih r (i + 1) hd hd2,Kxk]
   by_cases e:x=y
   ·subst e; simp
   ·rw [bne_iff_ne.2 e,if_pos rfl,beq_eq_false_iff_ne.2 e]; rfl
theorem Kxo (a b:List Int) (hb:b.length ≤ 1099511627776):Kkn (a,b)=some (a == b):=by
 unfold Kkn
 simp only
 by_cases h:a.length=b.length
 ·rw [h,Krk,if_neg (by decide)]
  have:=Kxn a b (by omega) h a b 0 rfl rfl
  rw [show ((0:Nat):Int)=0 from rfl] at this
  rw [this]
  cases a == b <;> rfl
 ·rw [bne_iff_ne.2 (by omega),if_pos rfl]
  have:a ≠ b:=fun e=>h (by rw [e])
  rw [beq_eq_false_iff_ne.2 this]
theorem Kxp (g:Int→Bool) (y:List Int→Bool) (op:Int) (n i:Nat) (k:K01) (ks:List K01):Kud g y op n i (k :: ks)=(tOk g y (n + Ku6 op i) k && Kud g y op n (i + 1) ks):=by rw [Kud]
theorem Kxq {l:List K01} (h:((l.length:Int) == 1)=true):∃ k,l=[k]:=by
 rw [beq_iff_eq] at h; match l,h with | [k],_=>exact ⟨k,rfl⟩ | [],h=>exact absurd h (by simp) | _ :: _ :: _,h=>exact absurd h (by simp only [List.length_cons]; omega)
theorem Kxr {l:List K01} (h:((l.length:Int) == 2)=true):∃ k m,l=[k,m]:=by
 rw [beq_iff_eq] at h; match l,h with | [k,m],_=>exact ⟨k,m,rfl⟩ | [],h=>exact absurd h (by simp) | [_],h=>exact absurd h (by simp) | _ :: _ :: _ :: _,h=>exact absurd h (by simp only [List.length_cons]; omega)
def Kxs (s:K00) (t:K01) (n:Nat):Bool:=Kve s && decide (tsz t ≤ 400) && tOk (gN s.fSize true) (yN s.fSize true) n t
theorem Kxt (s:K00) (t:K01) (n:Nat) (hn:n ≤ 8) (ht:tms t ≤ 1099511627776):Kdy (s,t,(n:Int))=some (Kxs s t n):=by
 unfold Kdy Kxs
 simp only
 rw [Kvg,bs]
 cases Kve s
 ·rfl
 ·rw [if_pos rfl,sIn,bs]
  have:inB (n:Int) 0 8=true:=by unfold inB; rw [decide_eq_true (by omega),decide_eq_true (by omega)]; rfl
  have hl:=Ktu t 400 ht (by decide)
  rw [show ((400:Nat):Int)=400 from rfl] at hl
  rw [this,if_pos rfl,hl,bs]
  by_cases h:tsz t ≤ 400
  ·rw [Ktr h,decide_eq_true (by omega),decide_eq_true h,if_pos rfl,Kug _ _ t n ht (by omega)]
   cases tOk (gN s.fSize true) (yN s.fSize true) n t <;> rfl
  ·rw [Kts h,decide_eq_false h]; rfl
theorem Kxu (op N:Int) (ty:List Int) (a:K01):tsz ⟨op,N,ty,[a]⟩=1 + tsz a:=by simp [tsz,Ktn]
theorem Kxv (op N:Int) (ty:List Int) (a b:K01):tsz ⟨op,N,ty,[a,b]⟩=1 + (tsz a + tsz b):=by simp [tsz,Ktn]
theorem Kxw (op N:Int) (ty:List Int) (a b c:K01):tsz ⟨op,N,ty,[a,b,c]⟩=1 + (tsz a + (tsz b + tsz c)):=by simp [tsz,Ktn]
theorem Kxx {l:List K01} (h:(l.length:Int)=3):∃ a b c,l=[a,b,c]:=by
 match l,h with | [a,b,c],_=>exact ⟨a,b,c,rfl⟩ | [],h=>exact absurd h (by simp) | [_],h=>exact absurd h (by simp) | [_,_],h=>exact absurd h (by simp) | _ :: _ :: _ :: _ :: _,h=>exact absurd h (by simp only [List.length_cons]; omega)
def lms (l:List (List Int)):Nat:=l.length + lct l
theorem Kxy {l:List (List Int)} (h:lms l ≤ 1099511627776):lok l:=by unfold lms at h; exact ⟨by omega,by omega⟩
def lln (l:List (List Int)):Prop:=l.length ≤ 9223372036854775807∧∀ v ∈ l,v.length ≤ 9223372036854775807
theorem Kxz:∀ (l a:List (List Int)) (i left:Nat),a.drop i=l→a.length ≤ 9223372036854775807→(∀ v ∈ l,v.length ≤ 9223372036854775807)→left ≤ 1048576→K8w (a,(left:Int),(i:Int))=some (if left < lct l then .inr (-1) else .inl ((left - lct l:Nat):Int)):=by
 intro l
 induction l with
 | nil =>
  intro a i left hd ha hl h
  rw [K8w.eq_def,lct]
  simp only
  rw [Kre (Kss hd)]; simp
 | cons x l ih =>
  intro a i left hd ha hl h
  obtain ⟨hi,hx,hd'⟩:=Ksr hd
  rw [K8w.eq_def,lct]
  simp only
  rw [Krd hi,if_pos rfl,hx,bs,Kuq x left (by omega) (by omega) (hl x List.mem_cons_self),bs,Krc (by omega)]
  rcases Kup left x.length with ⟨e,q⟩ | ⟨e,q⟩
  ·rw [e,decide_eq_true (by decide),if_pos rfl,if_pos (by omega)]
  ·rw [e,decide_eq_false (by omega),if_neg (by decide),show (left:Int) - (x.length:Int)=((left - x.length:Nat):Int) by omega,ih a (i + 1) (left - x.length) hd' ha (fun v hv=>hl v (List.mem_cons_of_mem _ hv)) (by omega)]
   by_cases q2:left - x.length < lct l
   ·rw [if_pos q2,if_pos (by omega)]
   ·rw [if_neg q2,if_neg (by omega)]; congr 3; omega
theorem Ky0 (a:List (List Int)) (left:Int) (ha:lln a) (h1:0 ≤ left) (h2:left ≤ 1048576):K8z (a,left)=some (szB left (lms a)):=by
 have hl:=ha.1
 unfold K8z lms
 simp only
 rw [Kra (by omega) (by omega)]
 by_cases h3:left - (a.length:Int) < 0
 ·rw [decide_eq_true h3,if_pos rfl]; unfold szB; rw [if_pos (by omega)]
 ·obtain ⟨m,hm⟩:∃ m:Nat,left - (a.length:Int)=(m:Int):=⟨(left - (a.length:Int)).toNat,by omega⟩
  have h:=Kxz a a 0 m rfl hl ha.2 (by omega)
  rw [show ((0:Nat):Int)=0 from rfl] at h
  rw [decide_eq_false h3,if_neg (by decide),hm,h,bs]
  unfold szB
  by_cases q:m < lct a
  ·rw [if_pos q,if_pos (by omega)]
  ·rw [if_neg q,if_neg (by omega)]; simp only; congr 1; omega
theorem Ky1:∀ (l a out:List (List Int)) (i:Nat),a.drop i=l→a.length ≤ 1099511627776→lct l ≤ 1099511627776→out.length=a.length→out.take i=a.take i→K9v (a,out,(i:Int))=some a:=by
 intro l
 induction l with
 | nil =>
  intro a out i hd ha hl ho ht
  rw [K9v.eq_def]
  simp only
  have hle:=Kss hd
  rw [Kre hle]
  rw [List.take_of_length_le (by omega),List.take_of_length_le (by omega)] at ht
  simp [ht]
 | cons x l ih =>
  intro a out i hd ha hl ho ht
  obtain ⟨hi,hx,hd'⟩:=Ksr hd
  have hk:a[i]=x:=by rw [Krb hi] at hx; exact Option.some.inj hx
  rw [lct] at hl
  rw [K9v.eq_def]
  simp only
  rw [Krd hi,if_pos rfl,hx,bs,Krh x (by omega),bs,Krb (by omega),bs,Krc (by omega),Int.toNat_natCast]
  exact ih a _ (i + 1) hd' ha (by omega) (by simpa using ho) (by rw [← hk]; exact Krf ho hi ht)
theorem Ky2 (a:List (List Int)) (h:lms a ≤ 1099511627776):K9y a=some a:=by
 unfold lms at h
 unfold K9y
 have:chk (0 ≤ (a.length:Int)∧(Int.toNat (a.length:Int)) * 24 ≤ 140737488355328)=some ():=by
  unfold chk; rw [if_pos]; refine ⟨by omega,?_⟩; rw [Int.toNat_natCast]; omega
 have h0:=Ky1 a a (List.replicate a.length []) 0 rfl (by omega) (by omega) (by simp) rfl
 rw [show ((0:Nat):Int)=0 from rfl] at h0
 rw [this,bs,Int.toNat_natCast,h0,bs]
end Go.Am
