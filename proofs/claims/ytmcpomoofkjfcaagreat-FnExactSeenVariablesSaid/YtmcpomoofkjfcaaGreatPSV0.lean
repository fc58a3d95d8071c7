/- Plain laws of the printed functions. -/
import Derived.Test.YtmcpomoofkjfcaaGreatGSVF17
set_option linter.unusedSimpArgs false
set_option linter.unusedVariables false
namespace Go.Am
theorem Kqx {x:Int} (h1:-9223372036854775808 ≤ x) (h2:x ≤ 9223372036854775807):wr x=x:=by
 unfold wr IntKind.wrap
 simp [IntKind.bits,IntKind.signed]
 omega
theorem Kqy {α:Type} {l:List α} {n:Nat} (h:n < l.length):idx l (n:Int)=some l[n]:=by
 unfold idx
 rw [if_pos (by omega)]
 simp [h]
theorem bs {α β:Type} (a:α) (f:α→Option β):(some a >>= f)=f a:=rfl
theorem Kqz {n:Nat} (h:n < 9223372036854775807):wr ((n:Int) + 1)=((n + 1:Nat):Int):=by
 rw [Kqx (by omega) (by omega)]; omega
theorem Kr0 {n m:Nat} (h:n < m):decide ((n:Int) < (m:Int))=true:=decide_eq_true (by omega)
theorem Kr1 {n m:Nat} (h:m ≤ n):decide ((n:Int) < (m:Int))=false:=decide_eq_false (by omega)
theorem Kr2 {α:Type} {l a:List α} {n:Nat} (hl:l.length=a.length) (hn:n < a.length) (h:l.take n=a.take n):(l.set n a[n]).take (n + 1)=a.take (n + 1):=by
 apply List.ext_getElem?
 intro i
 rw [List.getElem?_take,List.getElem?_take]
 by_cases hi:i < n + 1
 ·rw [if_pos hi,if_pos hi,List.getElem?_set]
  by_cases e:n=i
  ·subst e
   rw [if_pos rfl,if_pos (by omega),List.getElem?_eq_getElem hn]
  ·rw [if_neg e]
   have:=congrArg (fun l=>l[i]?) h
   simp only [List.getElem?_take] at this
   rw [if_pos (by omega),if_pos (by omega)] at this
   exact this
 ·rw [if_neg hi,if_neg hi]
theorem Kr3 (a:List Int) (ha:a.length ≤ 1099511627776):∀ (k n:Nat) (out:List Int),n + k=a.length→out.length=a.length→out.take n=a.take n→K9b (a,out,(n:Int))=some a:=by
 intro k
 induction k with
 | zero =>
  intro n out hn hl ht
  rw [K9b.eq_def]
  simp only
  rw [Kr1 (by omega)]
  have h1:out.take n=out:=List.take_of_length_le (by omega)
  have h2:a.take n=a:=List.take_of_length_le (by omega)
  rw [h1,h2] at ht
  simp [ht]
 | succ k ih =>
  intro n out hn hl ht
  rw [K9b.eq_def]
  simp only
  rw [Kr0 (by omega),if_pos rfl,Kqy (by omega),bs,Kqy (by omega),bs,Kqz (by omega),Int.toNat_natCast]
  exact ih (n + 1) _ (by omega) (by simpa using hl) (Kr2 hl (by omega) ht)
theorem Kr4 (a:List Int) (ha:a.length ≤ 1099511627776):K9e a=some a:=by
 unfold K9e
 have:chk (0 ≤ (a.length:Int)∧(Int.toNat (a.length:Int)) * 8 ≤ 140737488355328)=some ():=by
  unfold chk; rw [if_pos]; refine ⟨by omega,?_⟩; rw [Int.toNat_natCast]; omega
 rw [this,bs,Int.toNat_natCast]
 have:=Kr3 a ha a.length 0 (List.replicate a.length 0) (by omega) (by simp) rfl
 rw [show ((0:Nat):Int)=0 from rfl] at this
 rw [this,bs]
theorem Kr5 (a:List Bool) (ha:a.length ≤ 1099511627776):∀ (k n:Nat) (out:List Bool),n + k=a.length→out.length=a.length→out.take n=a.take n→K9i (a,out,(n:Int))=some a:=by
 intro k
 induction k with
 | zero =>
  intro n out hn hl ht
  rw [K9i.eq_def]
  simp only
  rw [Kr1 (by omega)]
  have h1:out.take n=out:=List.take_of_length_le (by omega)
  have h2:a.take n=a:=List.take_of_length_le (by omega)
  rw [h1,h2] at ht
  simp [ht]
 | succ k ih =>
  intro n out hn hl ht
  rw [K9i.eq_def]
  simp only
  rw [Kr0 (by omega),if_pos rfl,Kqy (by omega),bs,Kqy (by omega),bs,Kqz (by omega),Int.toNat_natCast]
  exact ih (n + 1) _ (by omega) (by simpa using hl) (Kr2 hl (by omega) ht)
theorem Kr6 (a:List Bool) (ha:a.length ≤ 1099511627776):K9l a=some a:=by
 unfold K9l
 have:chk (0 ≤ (a.length:Int)∧(Int.toNat (a.length:Int)) * 1 ≤ 140737488355328)=some ():=by
  unfold chk; rw [if_pos]; refine ⟨by omega,?_⟩; rw [Int.toNat_natCast]; omega
 rw [this,bs,Int.toNat_natCast]
 have:=Kr5 a ha a.length 0 (List.replicate a.length false) (by omega) (by simp) rfl
 rw [show ((0:Nat):Int)=0 from rfl] at this
 rw [this,bs]
theorem Kr7 {a:Int}:(a != a)=false:=by simp
theorem Kr8 (a:List Int) (ha:a.length ≤ 1099511627776):∀ (k n:Nat),n + k=a.length→Koo (a,a,(n:Int))=some (.inl ()):=by
 intro k
 induction k with
 | zero =>
  intro n hn
  rw [Koo.eq_def]
  simp only
  rw [Kr1 (by omega)]
  rfl
 | succ k ih =>
  intro n hn
  rw [Koo.eq_def]
  simp only
  rw [Kr0 (by omega),if_pos rfl,Kqy (by omega),bs,bs,Kr7,if_neg (by decide),Kqz (by omega)]
  exact ih (n + 1) (by omega)
theorem Kr9 (a:List Int) (ha:a.length ≤ 1099511627776):Kor (a,a)=some true:=by
 unfold Kor
 simp only
 have:=Kr8 a ha a.length 0 (by omega)
 rw [show ((0:Nat):Int)=0 from rfl] at this
 rw [Kr7,if_neg (by decide),this]
 rfl
theorem Kra (a:List Bool) (ha:a.length ≤ 1099511627776):∀ (k n:Nat),n + k=a.length→Kov (a,a,(n:Int))=some (.inl ()):=by
 intro k
 induction k with
 | zero =>
  intro n hn
  rw [Kov.eq_def]
  simp only
  rw [Kr1 (by omega)]
  rfl
 | succ k ih =>
  intro n hn
  rw [Kov.eq_def]
  simp only
  rw [Kr0 (by omega),if_pos rfl,Kqy (by omega),bs,bs,show ∀ b:Bool,(b == b)=true from by decide,if_pos rfl,Kqz (by omega)]
  exact ih (n + 1) (by omega)
theorem Krb (a:List Bool) (ha:a.length ≤ 1099511627776):Koy (a,a)=some true:=by
 unfold Koy
 simp only
 have:=Kra a ha a.length 0 (by omega)
 rw [show ((0:Nat):Int)=0 from rfl] at this
 rw [Kr7,if_neg (by decide),this]
 rfl
theorem Krc (s:K00) (h1:s.fPlus.length ≤ 1099511627776) (h2:s.fTimes.length ≤ 1099511627776) (h3:s.fBelow.length ≤ 1099511627776):K9o s=some s:=by
 unfold K9o
 rw [Kr4 _ h1,bs,Kr4 _ h2,bs,Kr6 _ h3,bs]
theorem Krd (s:K00) (h1:s.fPlus.length ≤ 1099511627776) (h2:s.fTimes.length ≤ 1099511627776) (h3:s.fBelow.length ≤ 1099511627776):Kp1 (s,s)=some true:=by
 unfold Kp1
 simp only
 rw [Kr7,if_neg (by decide),Kr9 _ h1,bs,if_pos rfl,Kr9 _ h2,bs,if_pos rfl,Krb _ h3,bs,if_pos rfl]
structure Tab (s:K00) (n:Nat):Prop where
 size:s.fSize=(n:Int)
 lo:2 ≤ n
 hi:n ≤ 16
 lp:s.fPlus.length=n * n
 lt:s.fTimes.length=n * n
 lb:s.fBelow.length=n * n
 rp:∀ i (h:i < s.fPlus.length),0 ≤ s.fPlus[i]∧s.fPlus[i] < (n:Int)
 rt:∀ i (h:i < s.fTimes.length),0 ≤ s.fTimes[i]∧s.fTimes[i] < (n:Int)
def pl (s:K00) (n a b:Nat):Nat:=(s.fPlus.getD (a * n + b) 0).toNat
def ti (s:K00) (n a b:Nat):Nat:=(s.fTimes.getD (a * n + b) 0).toNat
def le (s:K00) (n a b:Nat):Bool:=s.fBelow.getD (a * n + b) false
theorem Kre {n a b:Nat} (ha:a < n) (hb:b < n):a * n + b < n * n:=by
 have:(a + 1) * n ≤ n * n:=Nat.mul_le_mul_right _ (by omega)
 rw [Nat.add_mul,Nat.one_mul] at this
 omega
theorem Krf {n a b:Nat} (hn:n ≤ 16) (ha:a < n) (hb:b < n):wr ((wr ((a:Int) * (n:Int))) + (b:Int))=((a * n + b:Nat):Int):=by
 have h1:a * n ≤ 256:=Nat.le_trans (Nat.mul_le_mul (by omega:a ≤ 16) hn) (by decide)
 have e:(a:Int) * (n:Int)=((a * n:Nat):Int):=by simp
 rw [e]
 generalize a * n=m at h1
 rw [Kqx (x:=(m:Int)) (by omega) (by omega),Kqx (by omega) (by omega)]
 omega
section
variable {s:K00} {n:Nat} (h:Tab s n)
include h
theorem Krg {a b:Nat} (ha:a < n) (hb:b < n):pl s n a b < n:=by
 have hl:a * n + b < s.fPlus.length:=by rw [h.lp]; exact Kre ha hb
 unfold pl
 rw [List.getD_eq_getElem?_getD,List.getElem?_eq_getElem hl]
 have:=h.rp _ hl
 simp only [Option.getD_some]
 omega
theorem Krh {a b:Nat} (ha:a < n) (hb:b < n):ti s n a b < n:=by
 have hl:a * n + b < s.fTimes.length:=by rw [h.lt]; exact Kre ha hb
 unfold ti
 rw [List.getD_eq_getElem?_getD,List.getElem?_eq_getElem hl]
 have:=h.rt _ hl
 simp only [Option.getD_some]
 omega
theorem Kri {a b:Nat} (ha:a < n) (hb:b < n):idx s.fPlus ((a * n + b:Nat):Int)=some ((pl s n a b:Nat):Int):=by
 have hl:a * n + b < s.fPlus.length:=by rw [h.lp]; exact Kre ha hb
 rw [Kqy hl]
 unfold pl
 rw [List.getD_eq_getElem?_getD,List.getElem?_eq_getElem hl]
 have:=h.rp _ hl
 simp only [Option.getD_some]
 congr 1
 omega
theorem Krj {a b:Nat} (ha:a < n) (hb:b < n):idx s.fTimes ((a * n + b:Nat):Int)=some ((ti s n a b:Nat):Int):=by
 have hl:a * n + b < s.fTimes.length:=by rw [h.lt]; exact Kre ha hb
 rw [Kqy hl]
 unfold ti
 rw [List.getD_eq_getElem?_getD,List.getElem?_eq_getElem hl]
 have:=h.rt _ hl
 simp only [Option.getD_some]
 congr 1
 omega
theorem Krk {a b:Nat} (ha:a < n) (hb:b < n):idx s.fBelow ((a * n + b:Nat):Int)=some (le s n a b):=by
 have hl:a * n + b < s.fBelow.length:=by rw [h.lb]; exact Kre ha hb
 rw [Kqy hl]
 unfold le
 rw [List.getD_eq_getElem?_getD,List.getElem?_eq_getElem hl]
 rfl
theorem Krl {a b:Nat} (ha:a < n) (hb:b < n):Kaj (s,(a:Int),(b:Int))=some ((pl s n a b:Nat):Int):=by
 unfold Kaj
 simp only
 rw [h.size,Krf h.hi ha hb,Kri h ha hb,bs]
theorem Krm {a b:Nat} (ha:a < n) (hb:b < n):Kam (s,(a:Int),(b:Int))=some ((ti s n a b:Nat):Int):=by
 unfold Kam
 simp only
 rw [h.size,Krf h.hi ha hb,Krj h ha hb,bs]
theorem sLe {a b:Nat} (ha:a < n) (hb:b < n):Kap (s,(a:Int),(b:Int))=some (le s n a b):=by
 unfold Kap
 simp only
 rw [h.size,Krf h.hi ha hb,Krk h ha hb,bs]
theorem Krn {a b:Nat} (ha:a < n) (hb:b < n):Kh1 (s,(a:Int),(b:Int))=some ((pl s n a b:Nat):Int):=by
 unfold Kh1
 simp only
 rw [h.size,Krf h.hi ha hb,Kri h ha hb,bs]
theorem Kro {a b:Nat} (ha:a < n) (hb:b < n):Kh4 (s,(a:Int),(b:Int))=some ((ti s n a b:Nat):Int):=by
 unfold Kh4
 simp only
 rw [h.size,Krf h.hi ha hb,Krj h ha hb,bs]
theorem iLe {a b:Nat} (ha:a < n) (hb:b < n):Kh7 (s,(a:Int),(b:Int))=some (le s n a b):=by
 unfold Kh7
 simp only
 rw [h.size,Krf h.hi ha hb,Krk h ha hb,bs]
end
theorem Krp (x y:Nat):(((x:Nat):Int) == ((y:Nat):Int))=(x == y):=by
 cases hb:(x == y) with
 | true=>have:=eq_of_beq hb; subst this; simp
 | false=>simp at hb ⊢; omega
theorem Krq (x y:Nat):(((x:Nat):Int) != ((y:Nat):Int))=(x != y):=by
 simp only [bne,Krp]
def Krr (s:K00) (n a:Nat):Bool:=(pl s n 0 a == a) && (ti s n 1 a == a) && (ti s n a 1 == a) && (ti s n 0 a == 0) && (ti s n a 0 == 0) && le s n a a
def Krs (s:K00) (n a b c:Nat):Bool :=
 (pl s n (pl s n a b) c == pl s n a (pl s n b c)) && (ti s n (ti s n a b) c == ti s n a (ti s n b c)) &&
 (ti s n a (pl s n b c) == pl s n (ti s n a b) (ti s n a c)) && (ti s n (pl s n a b) c == pl s n (ti s n a c) (ti s n b c)) &&
 (!(le s n a b) || ((!(le s n b c) || le s n a c) && le s n (pl s n a c) (pl s n b c) && le s n (ti s n a c) (ti s n b c) && le s n (ti s n c a) (ti s n c b)))
section
variable {s:K00} {n:Nat} (h:Tab s n)
include h
theorem Krt {a:Nat} (ha:a < n):Kaw (s,(a:Int))=some (Krr s n a):=by
 have l0:(0:Nat) < n:=by have:=h.lo; omega
 have l1:(1:Nat) < n:=by have:=h.lo; omega
 have e0:(0:Int)=((0:Nat):Int):=rfl
 have e1:(1:Int)=((1:Nat):Int):=rfl
 unfold Kaw Krr
 simp only
 rw [e0,e1]
 simp only [Krl h l0 ha,Krm h l1 ha,Krm h ha l1,Krm h l0 ha,Krm h ha l0,sLe h ha ha,bs,Krp]
 generalize (pl s n 0 a == a)=b1
 generalize (ti s n 1 a == a)=b2
 generalize (ti s n a 1 == a)=b3
 generalize (ti s n 0 a == 0)=b4
 generalize (ti s n a 0 == 0)=b5
 generalize le s n a a=b6
 cases b1 <;> cases b2 <;> cases b3 <;> cases b4 <;> cases b5 <;> cases b6 <;> rfl
theorem Kru {a b c:Nat} (ha:a < n) (hb:b < n) (hc:c < n):Kbd (s,(a:Int),(b:Int),(c:Int))=some (Krs s n a b c):=by
 unfold Kbd Krs
 simp only
 simp only [Krl h,Krm h,sLe h,Krg h,Krh h,ha,hb,hc,bs,Krq]
 generalize e1:pl s n (pl s n a b) c=x1
 generalize e2:pl s n a (pl s n b c)=x2
 generalize e3:ti s n (ti s n a b) c=x3
 generalize e4:ti s n a (ti s n b c)=x4
 generalize ti s n a (pl s n b c)=x5
 generalize pl s n (ti s n a b) (ti s n a c)=x6
 generalize ti s n (pl s n a b) c=x7
 generalize pl s n (ti s n a c) (ti s n b c)=x8
 generalize le s n (pl s n a c) (pl s n b c)=y1
 generalize le s n (ti s n a c) (ti s n b c)=y2
 generalize le s n (ti s n c a) (ti s n c b)=y3
 generalize le s n a b=y4
 generalize le s n b c=y5
 generalize le s n a c=y6
 simp only [bne]
 generalize (x1 == x2)=b1
 generalize (x3 == x4)=b2
 generalize (x5 == x6)=b3
 generalize (x7 == x8)=b4
 cases b1 <;> cases b2 <;> cases b3 <;> cases b4 <;> first | rfl | (cases y4 <;> cases y5 <;> cases y6 <;> cases y1 <;> cases y2 <;> cases y3 <;> rfl)
theorem Krv {a b c:Nat} (ha:a < n) (hb:b < n) (hc:c < n):Khr (s,(a:Int),(b:Int),(c:Int))=some (Krs s n a b c):=by
 unfold Khr Krs
 simp only
 simp only [Krn h,Kro h,iLe h,Krg h,Krh h,ha,hb,hc,bs,Krq]
 generalize e1:pl s n (pl s n a b) c=x1
 generalize e2:pl s n a (pl s n b c)=x2
 generalize e3:ti s n (ti s n a b) c=x3
 generalize e4:ti s n a (ti s n b c)=x4
 generalize ti s n a (pl s n b c)=x5
 generalize pl s n (ti s n a b) (ti s n a c)=x6
 generalize ti s n (pl s n a b) c=x7
 generalize pl s n (ti s n a c) (ti s n b c)=x8
 generalize le s n (pl s n a c) (pl s n b c)=y1
 generalize le s n (ti s n a c) (ti s n b c)=y2
 generalize le s n (ti s n c a) (ti s n c b)=y3
 generalize le s n a b=y4
 generalize le s n b c=y5
 generalize le s n a c=y6
 simp only [bne]
 generalize (x1 == x2)=b1
 generalize (x3 == x4)=b2
 generalize (x5 == x6)=b3
 generalize (x7 == x8)=b4
 cases b1 <;> cases b2 <;> cases b3 <;> cases b4 <;> first | rfl | (cases y4 <;> cases y5 <;> cases y6 <;> cases y1 <;> cases y2 <;> cases y3 <;> rfl)
end
def Krw (s:K00) (n a b g h:Nat):Bool:=!le s n a h || !le s n b h || le s n g h
def jok (s:K00) (n a b g:Nat):Bool:=le s n a g && le s n b g && (List.range' 0 n).all (Krw s n a b g)
def Krx (s:K00) (n a b:Nat):Int:=match (List.range' 0 n).find? (jok s n a b) with | some g=>(g:Int) | none=>-1
section
variable {s:K00} {n:Nat} (h:Tab s n)
include h
theorem Kry {a b g:Nat} (ha:a < n) (hb:b < n) (hg:g < n):∀ (k m:Nat) (ok:Bool),m + k=n→Kb0 (s,(a:Int),(b:Int),(g:Int),ok,(m:Int))=some (ok && (List.range' m k).all (Krw s n a b g)):=by
 have hhi:=h.hi
 intro k
 induction k with
 | zero =>
  intro m ok hm
  rw [Kb0.eq_def]
  simp only
  rw [h.size,Kr1 (by omega)]
  simp [bs]
 | succ k ih =>
  intro m ok hm
  rw [Kb0.eq_def]
  simp only
  rw [h.size,Kr0 (by omega),if_pos rfl,bs,sLe h ha (by omega),sLe h hb (by omega),sLe h hg (by omega)]
  cases ok with
  | false=>rfl
  | true =>
   rw [if_pos rfl]
   rw [List.range'_succ,List.all_cons]
   have ih:∀ ok,_:=fun ok=>ih (m + 1) ok (by omega)
   rw [Kqz (by omega)]
   generalize ((m + 1:Nat):Int)=M at ih ⊢
   simp only [bs,Krw]
   cases le s n a m <;> cases le s n b m <;> cases le s n g m <;> simp [bs,ih,Krw]
theorem Krz {a b g:Nat} (ha:a < n) (hb:b < n) (hg:g < n):∀ (k m:Nat) (ok:Bool),m + k=n→Khb (s,(a:Int),(b:Int),(g:Int),ok,(m:Int))=some (ok && (List.range' m k).all (Krw s n a b g)):=by
 have hhi:=h.hi
 intro k
 induction k with
 | zero =>
  intro m ok hm
  rw [Khb.eq_def]
  simp only
  rw [h.size,Kr1 (by omega)]
  simp [bs]
 | succ k ih =>
  intro m ok hm
  rw [Khb.eq_def]
  simp only
  rw [h.size,Kr0 (by omega),if_pos rfl,iLe h ha (by omega),iLe h hb (by omega),iLe h hg (by omega)]
  rw [List.range'_succ,List.all_cons]
  have ih:∀ ok,_:=fun ok=>ih (m + 1) ok (by omega)
  rw [Kqz (by omega)]
  generalize ((m + 1:Nat):Int)=M at ih ⊢
  simp only [bs,Krw]
  cases ok <;> cases le s n a m <;> cases le s n b m <;> cases le s n g m <;> simp [bs,ih,Krw]
theorem Ks0 {a b:Nat} (ha:a < n) (hb:b < n):∀ (k g:Nat),g + k=n→Kb4 (s,(a:Int),(b:Int),(g:Int))=some (match (List.range' g k).find? (jok s n a b) with | some g=>.inr (g:Int) | none=>.inl ()):=by
 have hhi:=h.hi
 intro k
 induction k with
 | zero =>
  intro g hm
  rw [Kb4.eq_def]
  simp only
  rw [h.size,Kr1 (by omega)]
  rfl
 | succ k ih =>
  intro g hm
  rw [Kb4.eq_def]
  simp only
  rw [h.size,Kr0 (by omega),if_pos rfl,sLe h ha (by omega),sLe h hb (by omega)]
  have ih:=ih (g + 1) (by omega)
  rw [Kqz (by omega),List.range'_succ,List.find?_cons]
  have hl:=fun ok=>Kry h ha hb (g:=g) (by omega) n 0 ok (by omega)
  rw [show ((0:Nat):Int)=0 from rfl] at hl
  generalize ((g + 1:Nat):Int)=M at ih ⊢
  have hj:jok s n a b g=(le s n a g && le s n b g && (List.range' 0 n).all (Krw s n a b g)):=rfl
  rw [hj]
  cases le s n a g <;> cases le s n b g <;> cases hq:(List.range' 0 n).all (Krw s n a b g) <;> simp [bs,hl,hq,ih]
theorem Ks1 {a b:Nat} (ha:a < n) (hb:b < n):∀ (k g:Nat),g + k=n→Khg (s,(a:Int),(b:Int),(g:Int))=some (match (List.range' g k).find? (jok s n a b) with | some g=>.inr (g:Int) | none=>.inl ()):=by
 have hhi:=h.hi
 intro k
 induction k with
 | zero =>
  intro g hm
  rw [Khg.eq_def]
  simp only
  rw [h.size,Kr1 (by omega)]
  rfl
 | succ k ih =>
  intro g hm
  rw [Khg.eq_def]
  simp only
  rw [h.size,Kr0 (by omega),if_pos rfl,iLe h ha (by omega),iLe h hb (by omega)]
  have ih:=ih (g + 1) (by omega)
  rw [Kqz (by omega),List.range'_succ,List.find?_cons]
  have hl:=fun ok=>Krz h ha hb (g:=g) (by omega) n 0 ok (by omega)
  rw [show ((0:Nat):Int)=0 from rfl] at hl
  generalize ((g + 1:Nat):Int)=M at ih ⊢
  have hj:jok s n a b g=(le s n a g && le s n b g && (List.range' 0 n).all (Krw s n a b g)):=rfl
  rw [hj]
  cases le s n a g <;> cases le s n b g <;> cases hq:(List.range' 0 n).all (Krw s n a b g) <;> simp [bs,hl,hq,ih]
theorem Ks2 {a b:Nat} (ha:a < n) (hb:b < n):Kb7 (s,(a:Int),(b:Int))=some (Krx s n a b):=by
 unfold Kb7 Krx
 simp only
 have:=Ks0 h ha hb n 0 (by omega)
 rw [show ((0:Nat):Int)=0 from rfl] at this
 rw [this,bs]
 cases (List.range' 0 n).find? (jok s n a b) <;> rfl
theorem Ks3 {a b:Nat} (ha:a < n) (hb:b < n):Khj (s,(a:Int),(b:Int))=some (Krx s n a b):=by
 unfold Khj Krx
 simp only
 have:=Ks1 h ha hb n 0 (by omega)
 rw [show ((0:Nat):Int)=0 from rfl] at this
 rw [this,bs]
 cases (List.range' 0 n).find? (jok s n a b) <;> rfl
def Ks4 (s:K00) (n a b:Nat):Bool:=(pl s n a b == pl s n b a) && ((a == b) || !le s n a b || !le s n b a) && decide (Krx s n a b ≥ 0)
omit h in
theorem Ks5 (x:Int):decide (x < 0)=!decide (x ≥ 0):=by
 by_cases h:x < 0
 ·rw [decide_eq_true h,decide_eq_false (by omega)]; rfl
 ·rw [decide_eq_false h,decide_eq_true (by omega)]; rfl
theorem Ks6 {a b:Nat} (ha:a < n) (hb:b < n):Kba (s,(a:Int),(b:Int))=some (Ks4 s n a b):=by
 unfold Kba Ks4
 simp only
 rw [Krl h ha hb,Krl h hb ha,sLe h ha hb,sLe h hb ha,Ks2 h ha hb]
 simp only [bs,Krp]
 generalize (pl s n a b == pl s n b a)=b1
 generalize (a == b)=b2
 cases b1 <;> cases b2 <;> cases le s n a b <;> cases le s n b a <;> simp [bs]
end
def inB (x lo hi:Int):Bool:=decide (x ≥ lo) && decide (x ≤ hi)
theorem sIn (x lo hi:Int):Ka9 (x,lo,hi)=some (inB x lo hi):=by
 unfold Ka9 inB
 simp only
 cases decide (x ≥ lo) <;> simp [bs]
theorem iIn (x lo hi:Int):Kgv (x,lo,hi)=some (inB x lo hi):=by
 unfold Kgv inB
 simp only
 cases decide (x ≥ lo) <;> simp [bs]
def Ks7 (s:K00) (n:Nat):Bool:=(List.range' 0 n).all fun a=>Krr s n a && (List.range' 0 n).all fun b=>Ks4 s n a b && (List.range' 0 n).all fun c=>Krs s n a b c
section
variable {s:K00} {n:Nat} (h:Tab s n)
include h
theorem Ks8 {a b:Nat} (ha:a < n) (hb:b < n):∀ (k c:Nat),c + k=n→Kbh (s,(a:Int),(b:Int),(c:Int))=some (if (List.range' c k).all (fun c=>Krs s n a b c) then .inl () else .inr false):=by
 have hhi:=h.hi
 intro k
 induction k with
 | zero =>
  intro c hm
  rw [Kbh.eq_def]
  simp only
  rw [h.size,Kr1 (by omega)]
  rfl
 | succ k ih =>
  intro c hm
  rw [Kbh.eq_def]
  simp only
  rw [h.size,Kr0 (by omega),if_pos rfl,Kru h ha hb (by omega),bs]
  have ih:=ih (c + 1) (by omega)
  rw [Kqz (by omega),List.range'_succ,List.all_cons]
  generalize ((c + 1:Nat):Int)=M at ih ⊢
  generalize (List.range' (c + 1) k).all (fun c=>Krs s n a b c)=r at ih ⊢
  cases Krs s n a b c <;> cases r <;> simp [ih]
theorem Ks9 {a b:Nat} (ha:a < n) (hb:b < n):∀ (k c:Nat),c + k=n→Khz (s,(a:Int),(b:Int),(c:Int))=some (if (List.range' c k).all (fun c=>Krs s n a b c) then .inl () else .inr false):=by
 have hhi:=h.hi
 intro k
 induction k with
 | zero =>
  intro c hm
  rw [Khz.eq_def]
  simp only
  rw [h.size,Kr1 (by omega)]
  rfl
 | succ k ih =>
  intro c hm
  rw [Khz.eq_def]
  simp only
  rw [h.size,Kr0 (by omega),if_pos rfl,Krv h ha hb (by omega),bs]
  have ih:=ih (c + 1) (by omega)
  rw [Kqz (by omega),List.range'_succ,List.all_cons]
  generalize ((c + 1:Nat):Int)=M at ih ⊢
  generalize (List.range' (c + 1) k).all (fun c=>Krs s n a b c)=r at ih ⊢
  cases Krs s n a b c <;> cases r <;> simp [ih]
theorem Ksa {a:Nat} (ha:a < n):∀ (k b:Nat),b + k=n→Kbl (s,(a:Int),(b:Int))=some (if (List.range' b k).all (fun b=>Ks4 s n a b && (List.range' 0 n).all fun c=>Krs s n a b c) then .inl () else .inr false):=by
 have hhi:=h.hi
 intro k
 induction k with
 | zero =>
  intro c hm
  rw [Kbl.eq_def]
  simp only
  rw [h.size,Kr1 (by omega)]
  rfl
 | succ k ih =>
  intro b hm
  rw [Kbl.eq_def]
  simp only
  have hl:=Ks8 h ha (b:=b) (by omega) n 0 (by omega)
  rw [show ((0:Nat):Int)=0 from rfl] at hl
  rw [h.size,Kr0 (by omega),if_pos rfl,Ks6 h ha (by omega),bs,hl]
  have ih:=ih (b + 1) (by omega)
  rw [Kqz (by omega),List.range'_succ,List.all_cons]
  generalize ((b + 1:Nat):Int)=M at ih ⊢
  generalize (List.range' (b + 1) k).all (fun b=>Ks4 s n a b && (List.range' 0 n).all fun c=>Krs s n a b c)=r at ih ⊢
  cases Ks4 s n a b <;> cases (List.range' 0 n).all (fun c=>Krs s n a b c) <;> cases r <;> simp [ih,bs]
theorem Ksb {a:Nat} (ha:a < n):∀ (k b:Nat),b + k=n→Ki3 (s,(a:Int),(b:Int))=some (if (List.range' b k).all (fun b=>Ks4 s n a b && (List.range' 0 n).all fun c=>Krs s n a b c) then .inl () else .inr false):=by
 have hhi:=h.hi
 intro k
 induction k with
 | zero =>
  intro c hm
  rw [Ki3.eq_def]
  simp only
  rw [h.size,Kr1 (by omega)]
  rfl
 | succ k ih =>
  intro b hm
  have hb:b < n:=by omega
  rw [Ki3.eq_def]
  simp only
  have hl:=Ks9 h ha (b:=b) (by omega) n 0 (by omega)
  rw [show ((0:Nat):Int)=0 from rfl] at hl
  rw [h.size,Kr0 (by omega),if_pos rfl,Krn h ha hb,Krn h hb ha,iLe h ha hb,iLe h hb ha,Ks3 h ha hb,hl]
  have ih:=ih (b + 1) (by omega)
  rw [Kqz (by omega),List.range'_succ,List.all_cons]
  generalize ((b + 1:Nat):Int)=M at ih ⊢
  generalize (List.range' (b + 1) k).all (fun b=>Ks4 s n a b && (List.range' 0 n).all fun c=>Krs s n a b c)=r at ih ⊢
  simp only [bs,Krq,Ks5]
  cases h1:(pl s n a b == pl s n b a) <;> cases h2:(a == b) <;> cases h3:decide (Krx s n a b ≥ 0) <;> cases h4:le s n a b <;> cases h5:le s n b a <;> cases h6:(List.range' 0 n).all (fun c=>Krs s n a b c) <;> cases r <;> simp only [Ks4,bne,h1,h2,h3,h4,h5,h6,ih,bs,Bool.not_true,Bool.not_false,Bool.true_and,Bool.false_and,Bool.and_true,Bool.and_false,Bool.true_or,Bool.false_or,Bool.or_true,Bool.or_false,if_true,if_false,Bool.false_eq_true]
theorem Ksc:∀ (k a:Nat),a + k=n→Kbq (s,(a:Int))=some (if (List.range' a k).all (fun a=>Krr s n a && (List.range' 0 n).all fun b=>Ks4 s n a b && (List.range' 0 n).all fun c=>Krs s n a b c) then .inl () else .inr false):=by
 have hhi:=h.hi
 intro k
 induction k with
 | zero =>
  intro c hm
  rw [Kbq.eq_def]
  simp only
  rw [h.size,Kr1 (by omega)]
  rfl
 | succ k ih =>
  intro a hm
  have ha:a < n:=by omega
  rw [Kbq.eq_def]
  simp only
  have hl:=Ksa h ha n 0 (by omega)
  rw [show ((0:Nat):Int)=0 from rfl] at hl
  rw [h.size,Kr0 (by omega),if_pos rfl,Krt h ha,bs,hl]
  have ih:=ih (a + 1) (by omega)
  rw [Kqz (by omega),List.range'_succ,List.all_cons]
  generalize ((a + 1:Nat):Int)=M at ih ⊢
  generalize (List.range' (a + 1) k).all (fun a=>Krr s n a && (List.range' 0 n).all fun b=>Ks4 s n a b && (List.range' 0 n).all fun c=>Krs s n a b c)=r at ih ⊢
  cases Krr s n a <;> cases (List.range' 0 n).all (fun b=>Ks4 s n a b && (List.range' 0 n).all fun c=>Krs s n a b c) <;> cases r <;> simp [ih,bs]
theorem Ksd:∀ (k a:Nat),a + k=n→Ki7 (s,(a:Int))=some (if (List.range' a k).all (fun a=>Krr s n a && (List.range' 0 n).all fun b=>Ks4 s n a b && (List.range' 0 n).all fun c=>Krs s n a b c) then .inl () else .inr false):=by
 have hhi:=h.hi
 have l0:(0:Nat) < n:=by have:=h.lo; omega
 have l1:(1:Nat) < n:=by have:=h.lo; omega
 intro k
 induction k with
 | zero =>
  intro c hm
  rw [Ki7.eq_def]
  simp only
  rw [h.size,Kr1 (by omega)]
  rfl
 | succ k ih =>
  intro a hm
  have ha:a < n:=by omega
  rw [Ki7.eq_def]
  simp only
  have hl:=Ksb h ha n 0 (by omega)
  have q1:Kh1 (s,0,(a:Int))=_:=Krn h l0 ha
  have q2:Kh4 (s,1,(a:Int))=_:=Kro h l1 ha
  have q3:Kh4 (s,(a:Int),1)=_:=Kro h ha l1
  have q4:Kh4 (s,0,(a:Int))=_:=Kro h l0 ha
  have q5:Kh4 (s,(a:Int),0)=_:=Kro h ha l0
  have z1:(((ti s n 0 a:Nat):Int) != 0)=(ti s n 0 a != 0):=Krq _ 0
  have z2:(((ti s n a 0:Nat):Int) != 0)=(ti s n a 0 != 0):=Krq _ 0
  rw [show ((0:Nat):Int)=0 from rfl] at hl
  rw [h.size,Kr0 (by omega),if_pos rfl,q1,q2,q3,q4,q5,iLe h ha ha,hl]
  have ih:=ih (a + 1) (by omega)
  rw [Kqz (by omega),List.range'_succ,List.all_cons]
  generalize ((a + 1:Nat):Int)=M at ih ⊢
  generalize (List.range' (a + 1) k).all (fun a=>Krr s n a && (List.range' 0 n).all fun b=>Ks4 s n a b && (List.range' 0 n).all fun c=>Krs s n a b c)=r at ih ⊢
  simp only [bs,Krq,z1,z2]
  cases h1:(pl s n 0 a == a) <;> cases h2:(ti s n 1 a == a) <;> cases h3:(ti s n a 1 == a) <;> cases h4:(ti s n 0 a == 0) <;> cases h5:(ti s n a 0 == 0) <;> cases h6:le s n a a <;> cases h7:(List.range' 0 n).all (fun b=>Ks4 s n a b && (List.range' 0 n).all fun c=>Krs s n a b c) <;> cases r <;> simp only [Krr,bne,h1,h2,h3,h4,h5,h6,h7,ih,bs,Bool.not_true,Bool.not_false,Bool.true_and,Bool.false_and,Bool.and_true,Bool.and_false,if_true,if_false,Bool.false_eq_true]
end
theorem Kse {α:Type} {l r:List α} {x:α} {i:Nat} (h:l.drop i=x :: r):i < l.length∧idx l (i:Int)=some x∧l.drop (i + 1)=r:=by
 have hi:i < l.length:=by
  rcases Nat.lt_or_ge i l.length with h' | h'
  ·exact h'
  ·rw [List.drop_eq_nil_of_le h'] at h; cases h
 have e:=List.drop_eq_getElem_cons hi
 rw [h] at e
 obtain ⟨e1,e2⟩:=List.cons.inj e
 exact ⟨hi,by rw [Kqy hi,e1],e2.symm⟩
theorem Ksf {α:Type} {l:List α} {i:Nat} (h:l.drop i=[]):l.length ≤ i:=by
 rcases Nat.lt_or_ge i l.length with h' | h'
 ·rw [List.drop_eq_getElem_cons h'] at h; cases h
 ·exact h'
def Ksg (c:Int):Bool:=inB c 3 18 || c == 35
def Ksh (c:Int):Bool:=inB c 19 34 || c == 36
def Ksi (c:Int):Int:=if c == 0 then 0 else if c == 1 || c == 2 || Ksg c then 2 else if Ksh c then 1 else -1
theorem Ksj (c:Int):Kbw c=some (Ksg c):=by
 unfold Kbw Ksg
 simp only [sIn,bs]
 cases inB c 3 18 <;> rfl
theorem Ksk (c:Int):Kbz c=some (Ksh c):=by
 unfold Kbz Ksh
 simp only [sIn,bs]
 cases inB c 19 34 <;> rfl
theorem Ksl (c:Int):Kc2 c=some (Ksi c):=by
 unfold Kc2 Ksi
 simp only [Ksj,Ksk,bs]
 cases c == 0 <;> cases c == 1 <;> cases c == 2 <;> cases Ksg c <;> cases Ksh c <;> rfl
theorem Ksm (c:Int):(c=0∧Ksi c=0)∨((c=1∨c=2∨(3 ≤ c∧c ≤ 18)∨c=35)∧Ksi c=2)∨(((19 ≤ c∧c ≤ 34)∨c=36)∧Ksi c=1)∨((c < 0∨36 < c)∧Ksi c=-1):=by
 unfold Ksi Ksg Ksh inB
 by_cases h0:c=0
 ·left; subst h0; exact ⟨rfl,rfl⟩
 ·right
  have e0:(c == 0)=false:=by simpa using h0
  by_cases h1:c=1∨c=2∨(3 ≤ c∧c ≤ 18)∨c=35
  ·left
   refine ⟨h1,?_⟩
   have:(c == 1 || c == 2 || (decide (c ≥ 3) && decide (c ≤ 18) || c == 35))=true:=by
    simp only [Bool.or_eq_true,Bool.and_eq_true,beq_iff_eq,decide_eq_true_eq]; omega
   rw [e0,this]; rfl
  ·right
   have q:(c == 1 || c == 2 || (decide (c ≥ 3) && decide (c ≤ 18) || c == 35))=false:=by
    rw [Bool.eq_false_iff]; intro h
    simp only [Bool.or_eq_true,Bool.and_eq_true,beq_iff_eq,decide_eq_true_eq] at h; omega
   rw [e0,q]
   by_cases h2:(19 ≤ c∧c ≤ 34)∨c=36
   ·left
    refine ⟨h2,?_⟩
    have:(decide (c ≥ 19) && decide (c ≤ 34) || c == 36)=true:=by
     simp only [Bool.or_eq_true,Bool.and_eq_true,beq_iff_eq,decide_eq_true_eq]; omega
    rw [this]; rfl
   ·right
    refine ⟨by omega,?_⟩
    have:(decide (c ≥ 19) && decide (c ≤ 34) || c == 36)=false:=by
     rw [Bool.eq_false_iff]; intro h
     simp only [Bool.or_eq_true,Bool.and_eq_true,beq_iff_eq,decide_eq_true_eq] at h; omega
    rw [this]; rfl
def Ksn (c:Int):Int × Int :=
 if inB c 0 2 then (c,-1) else if inB c 3 18 then (3,c - 3) else if inB c 19 34 then (4,c - 19) else if c == 35 then (3,-1) else if c == 36 then (4,-1) else (5,-1)
theorem Kso (c:Int):Kid c=some (Ksn c):=by
 unfold Kid Ksn
 simp only [iIn,bs]
 cases h1:inB c 0 2
 ·cases h2:inB c 3 18
  ·cases h3:inB c 19 34
   ·cases c == 35 <;> cases c == 36 <;> rfl
   ·simp only [inB,Bool.and_eq_true,decide_eq_true_eq] at h3
    simp only [Bool.false_eq_true,if_false,if_true]
    rw [Kqx (by omega) (by omega)]
  ·simp only [inB,Bool.and_eq_true,decide_eq_true_eq] at h2
   simp only [Bool.false_eq_true,if_false,if_true]
   rw [Kqx (by omega) (by omega)]
 ·rfl
theorem Ksp (c:Int):(c=0∧Ksn c=(0,-1))∨(c=1∧Ksn c=(1,-1))∨(c=2∧Ksn c=(2,-1))∨((3 ≤ c∧c ≤ 18)∧Ksn c=(3,c - 3))∨(c=35∧Ksn c=(3,-1)) ∨
  ((19 ≤ c∧c ≤ 34)∧Ksn c=(4,c - 19))∨(c=36∧Ksn c=(4,-1))∨((c < 0∨36 < c)∧Ksn c=(5,-1)):=by
 have inT:∀ lo hi,lo ≤ c→c ≤ hi→inB c lo hi=true:=fun lo hi h1 h2=>by simp only [inB,Bool.and_eq_true,decide_eq_true_eq]; omega
 have inF:∀ lo hi,(c < lo∨hi < c)→inB c lo hi=false:=fun lo hi h=>by rw [Bool.eq_false_iff]; intro h'; simp only [inB,Bool.and_eq_true,decide_eq_true_eq] at h'; omega
 unfold Ksn
 by_cases h0:0 ≤ c∧c ≤ 2
 ·rw [inT 0 2 h0.1 h0.2]
  have:c=0∨c=1∨c=2:=by omega
  rcases this with rfl | rfl | rfl <;> simp
 ·rw [inF 0 2 (by omega)]
  by_cases h1:3 ≤ c∧c ≤ 18
  ·rw [inT 3 18 h1.1 h1.2]
   exact .inr (.inr (.inr (.inl ⟨h1,rfl⟩)))
  ·rw [inF 3 18 (by omega)]
   by_cases h2:19 ≤ c∧c ≤ 34
   ·rw [inT 19 34 h2.1 h2.2]
    exact .inr (.inr (.inr (.inr (.inr (.inl ⟨h2,rfl⟩)))))
   ·rw [inF 19 34 (by omega)]
    by_cases h3:c=35
    ·subst h3; simp
    ·by_cases h4:c=36
     ·subst h4; simp
     ·have e3:(c == 35)=false:=by simpa using h3
      have e4:(c == 36)=false:=by simpa using h4
      rw [e3,e4]
      refine .inr (.inr (.inr (.inr (.inr (.inr (.inr ⟨by omega,rfl⟩))))))
def skip:Nat→List Int→Option (List Int)
 | 0,l=>some l
 | _ + 1,[]=>none
 | m + 1,c :: l=>if Ksi c=-1 then none else skip (m + (Ksi c).toNat) l
theorem Ksq (l:List Int):skip 0 l=some l:=by cases l <;> rfl
theorem Ksr (m:Nat):skip (m + 1) []=none:=rfl
theorem Kss (m:Nat) (c:Int) (l:List Int):skip (m + 1) (c :: l)=if Ksi c=-1 then none else skip (m + (Ksi c).toNat) l:=rfl
theorem Kst (l:List Int):∀ (m k:Nat),skip (m + k) l=(skip m l).bind (skip k):=by
 induction l with
 | nil =>
  intro m k
  cases m with
  | zero=>rw [Nat.zero_add,Ksq]; rfl
  | succ m=>rw [show m + 1 + k=(m + k) + 1 by omega,Ksr,Ksr]; rfl
 | cons c l ih =>
  intro m k
  cases m with
  | zero=>rw [Nat.zero_add,Ksq]; rfl
  | succ m =>
   rw [show m + 1 + k=(m + k) + 1 by omega,Kss,Kss]
   by_cases h:Ksi c=-1
   ·rw [if_pos h,if_pos h]; rfl
   ·rw [if_neg h,if_neg h,← ih]; congr 1; omega
theorem Ksu (l:List Int):∀ (m:Nat) (r:List Int),skip m l=some r→∃ p,l=p ++ r∧m ≤ p.length:=by
 induction l with
 | nil =>
  intro m r h
  cases m with
  | zero=>rw [Ksq] at h; cases h; exact ⟨[],rfl,Nat.le_refl _⟩
  | succ m=>rw [Ksr] at h; cases h
 | cons c l ih =>
  intro m r h
  cases m with
  | zero=>rw [Ksq] at h; cases h; exact ⟨[],rfl,Nat.le_refl _⟩
  | succ m =>
   rw [Kss] at h
   by_cases hk:Ksi c=-1
   ·rw [if_pos hk] at h; cases h
   ·rw [if_neg hk] at h
    obtain ⟨p,e,hp⟩:=ih _ _ h
    exact ⟨c :: p,by rw [e]; rfl,by simp; omega⟩
def Ksv (ty:List Int) (m i:Nat):Int:=match skip m (ty.drop i) with | some r=>((ty.length - r.length:Nat):Int) | none=>-1
theorem Ksw (ty:List Int) (hty:ty.length ≤ 1099511627776):∀ (l:List Int) (i m:Nat),ty.drop i=l→m ≤ 1099511627776 + 2 * i→∃ x,Kc6 (ty,((m + 1:Nat):Int),(i:Int))=some x∧(match x with | .inl ()=>-1 | .inr r=>r)=Ksv ty (m + 1) i:=by
 intro l
 induction l with
 | nil =>
  intro i m hl hm
  rw [Kc6.eq_def]
  simp only
  rw [Kr1 (Ksf hl)]
  exact ⟨.inl (),rfl,by unfold Ksv; rw [hl,Ksr]⟩
 | cons c l ih =>
  intro i m hl hm
  obtain ⟨hi,hx,hd⟩:=Kse hl
  have hi2:(i:Int) < 1099511627776:=by omega
  rw [Kc6.eq_def]
  simp only
  rw [Kr0 hi,if_pos rfl,hx,bs,Ksl,bs]
  have he:Ksv ty (m + 1) i=(match (if Ksi c=-1 then none else skip (m + (Ksi c).toNat) l) with | some r=>((ty.length - r.length:Nat):Int) | none=>-1):=by
   unfold Ksv; rw [hl,Kss]
  rw [he]
  by_cases hk:Ksi c=-1
  ·rw [if_pos hk,hk]
   exact ⟨.inr (-1),rfl,rfl⟩
  ·rw [if_neg hk]
   have hk0:0 ≤ Ksi c∧Ksi c ≤ 2:=by rcases Ksm c with h | h | h | h <;> omega
   obtain ⟨k,hkk⟩:∃ k:Nat,Ksi c=(k:Int):=⟨(Ksi c).toNat,by omega⟩
   rw [decide_eq_false (by omega),if_neg (by decide),hkk,Int.toNat_natCast]
   rw [Kqx (x:=((m + 1:Nat):Int) - 1) (by omega) (by omega),show ((m + 1:Nat):Int) - 1=(m:Int) by omega,Kqx (x:=(m:Int) + (k:Int)) (by omega) (by omega),Kqz (by omega)]
   by_cases h0:m + k=0
   ·rw [show ((m:Int) + (k:Int) == 0)=true by simp; omega,if_pos rfl,h0,Ksq]
    refine ⟨_,rfl,?_⟩
    have:l.length=ty.length - (i + 1):=by rw [← hd,List.length_drop]
    simp only
    omega
   ·rw [show ((m:Int) + (k:Int) == 0)=false by simp; omega,if_neg (by decide)]
    obtain ⟨q,hq⟩:∃ q,m + k=q + 1:=⟨m + k - 1,by omega⟩
    have:=ih (i + 1) q hd (by omega)
    rw [show (m:Int) + (k:Int)=((q + 1:Nat):Int) by omega]
    obtain ⟨x,h1,h2⟩:=this
    exact ⟨x,h1,by rw [h2,hq]; unfold Ksv; rw [hd]⟩
theorem Ksx (ty:List Int) (hty:ty.length ≤ 1099511627776) (i:Nat) (hi:i ≤ ty.length):Kc9 (ty,(i:Int))=some (Ksv ty 1 i):=by
 unfold Kc9
 obtain ⟨x,h1,h2⟩:=Ksw ty hty _ i 0 rfl (by omega)
 simp only
 rw [show (1:Int)=((0 + 1:Nat):Int) from rfl,h1,bs]
 rw [← h2]
 cases x <;> rfl
theorem Ksy (ty:List Int) (i:Nat) (hi:i ≤ ty.length):Ksv ty 2 i=(if Ksv ty 1 i=-1 then -1 else Ksv ty 1 (Ksv ty 1 i).toNat):=by
 unfold Ksv
 rw [show 2=1 + 1 from rfl,Kst]
 cases h:skip 1 (ty.drop i) with
 | none=>simp
 | some r =>
  obtain ⟨p,hp,hl⟩:=Ksu _ _ _ h
  have hlen:ty.length - i=p.length + r.length:=by rw [← List.length_drop,hp,List.length_append]
  have:ty.drop (ty.length - r.length)=r:=by
   have e:ty.drop (ty.length - r.length)=(ty.drop i).drop p.length:=by rw [List.drop_drop]; congr 1; omega
   rw [e,hp,List.drop_left]
  simp only [Option.bind_some]
  rw [if_neg (by omega),Int.toNat_natCast,this]
theorem Ksz (ty:List Int) (hty:ty.length ≤ 1099511627776):∀ (d i:Nat),ty.length - i=d→Kig (ty,(i:Int))=some (Ksv ty 1 i):=by
 intro d
 induction d using Nat.strongRecOn with
 | ind d ih =>
  intro i hd
  rw [Kig.eq_def]
  simp only
  rw [decide_eq_false (by omega:¬ (i:Int) < 0)]
  simp only [Bool.false_eq_true,if_false,bs]
  by_cases hi:i < ty.length
  ·rw [decide_eq_false (by omega),if_neg (by decide),Kqy hi,bs,Kso,bs]
   have hdr:=List.drop_eq_getElem_cons hi
   have he:∀ k:Nat,Ksi ty[i]=(k:Int)→Ksv ty 1 i=Ksv ty k (i + 1):=fun k hk=>by
    unfold Ksv
    rw [hdr,show 1=0 + 1 from rfl,Kss,hk,if_neg (by omega),Int.toNat_natCast,Nat.zero_add]
   have hn:Ksi ty[i]=-1→Ksv ty 1 i=-1:=fun hk=>by
    unfold Ksv
    rw [hdr,show 1=0 + 1 from rfl,Kss,if_pos hk]
   have i1:=ih (ty.length - (i + 1)) (by omega) (i + 1) rfl
   have hz:∀ i:Nat,i ≤ ty.length→Ksv ty 0 i=(i:Int):=fun i hi=>by unfold Ksv; rw [Ksq]; simp only [List.length_drop]; omega
   rw [Kqz (by omega)]
   have two:Ksi ty[i]=2→((Kig (ty,((i + 1:Nat):Int))) >>= fun r_11_4=>(Kig (ty,r_11_4)) >>= fun r_11_5=>some r_11_5)=some (Ksv ty 1 i):=fun hk=>by
    rw [i1,bs,he 2 hk,Ksy ty (i + 1) (by omega)]
    by_cases h1:Ksv ty 1 (i + 1)=-1
    ·rw [h1,if_pos rfl,Kig.eq_def]; rfl
    ·rw [if_neg h1]
     obtain ⟨e,hee,hlo⟩:∃ e:Nat,Ksv ty 1 (i + 1)=(e:Int)∧i + 1 < e:=by
      unfold Ksv at h1 ⊢
      cases hs:skip 1 (ty.drop (i + 1)) with
      | none=>rw [hs] at h1; exact absurd rfl h1
      | some r =>
       obtain ⟨p,hp,hl⟩:=Ksu _ _ _ hs
       have hlen:ty.length - (i + 1)=p.length + r.length:=by rw [← List.length_drop,hp,List.length_append]
       exact ⟨_,rfl,by omega⟩
     rw [hee,Int.toNat_natCast,ih (ty.length - e) (by omega) e rfl,bs]
   rcases Ksp ty[i] with ⟨h,e⟩ | ⟨h,e⟩ | ⟨h,e⟩ | ⟨h,e⟩ | ⟨h,e⟩ | ⟨h,e⟩ | ⟨h,e⟩ | ⟨h,e⟩ <;> rw [e] <;> simp only []
   ·have hk:Ksi ty[i]=0:=by rcases Ksm ty[i] with h | h | h | h <;> omega
    rw [if_pos (by rfl),he 0 hk,hz _ (by omega)]
   ·have hk:Ksi ty[i]=2:=by rcases Ksm ty[i] with h | h | h | h <;> omega
    exact two hk
   ·have hk:Ksi ty[i]=2:=by rcases Ksm ty[i] with h | h | h | h <;> omega
    exact two hk
   ·have hk:Ksi ty[i]=2:=by rcases Ksm ty[i] with h | h | h | h <;> omega
    exact two hk
   ·have hk:Ksi ty[i]=2:=by rcases Ksm ty[i] with h | h | h | h <;> omega
    exact two hk
   ·have hk:Ksi ty[i]=1:=by rcases Ksm ty[i] with h | h | h | h <;> omega
    rw [he 1 hk,if_neg (by decide),if_pos (by rfl),i1,bs]
   ·have hk:Ksi ty[i]=1:=by rcases Ksm ty[i] with h | h | h | h <;> omega
    rw [he 1 hk,if_neg (by decide),if_pos (by rfl),i1,bs]
   ·have hk:Ksi ty[i]=-1:=by rcases Ksm ty[i] with h | h | h | h <;> omega
    rw [hn hk]; rfl
  ·rw [decide_eq_true (by omega),if_pos rfl]
   unfold Ksv
   rw [List.drop_eq_nil_of_le (by omega),Ksr]
def wtB (ty:List Int):Bool:=decide (ty.length ≤ 40) && (skip 1 ty == some [])
theorem Kt0 (ty:List Int):(Ksv ty 1 0 == (ty.length:Int))=(skip 1 ty == some []):=by
 unfold Ksv
 rw [List.drop_zero]
 cases h:skip 1 ty with
 | none=>simp
 | some r =>
  obtain ⟨p,hp,hl⟩:=Ksu _ _ _ h
  have hlen:ty.length=p.length + r.length:=by rw [hp,List.length_append]
  cases r with
  | nil=>simp
  | cons x xs =>
   simp only [List.length_cons] at hlen ⊢
   simp
   omega
theorem Kt1 (ty:List Int) (hty:ty.length ≤ 1099511627776):Kcc ty=some (wtB ty):=by
 unfold Kcc wtB
 by_cases h:ty.length ≤ 40
 ·rw [decide_eq_true (by omega:(ty.length:Int) ≤ 40),if_pos rfl,show (0:Int)=((0:Nat):Int) from rfl,Ksx ty hty 0 (by omega),bs,Kt0,decide_eq_true h]
  cases hs:skip 1 ty == some [] with
  | false=>rfl
  | true =>
   have:0 < ty.length:=by
    rcases ty with _ | ⟨c,l⟩
    ·rw [show skip 1 []=none from rfl] at hs; cases hs
    ·simp
   rw [if_pos rfl,decide_eq_true (by omega:(ty.length:Int) > ((0:Nat):Int))]; rfl
 ·rw [decide_eq_false (by omega:¬ (ty.length:Int) ≤ 40),decide_eq_false h]; rfl
theorem Kt2 (ty:List Int) (hty:ty.length ≤ 1099511627776):Kij ty=some (wtB ty):=by
 unfold Kij wtB
 rw [iIn,bs]
 by_cases h:ty.length ≤ 40
 ·rw [decide_eq_true h]
  by_cases h1:1 ≤ ty.length
  ·have:inB (ty.length:Int) 1 40=true:=by simp only [inB,Bool.and_eq_true,decide_eq_true_eq]; omega
   rw [this,if_pos rfl,show (0:Int)=((0:Nat):Int) from rfl,Ksz ty hty _ 0 rfl,bs,Kt0]; rfl
  ·have:inB (ty.length:Int) 1 40=false:=by rw [Bool.eq_false_iff]; intro h'; simp only [inB,Bool.and_eq_true,decide_eq_true_eq] at h'; omega
   have e:ty=[]:=List.length_eq_zero_iff.1 (by omega)
   rw [this,e]; rfl
 ·have:inB (ty.length:Int) 1 40=false:=by rw [Bool.eq_false_iff]; intro h'; simp only [inB,Bool.and_eq_true,decide_eq_true_eq] at h'; omega
  rw [this,decide_eq_false h]; rfl
def Kt3 (c:Int):Int:=if 35 ≤ c then -1 else if 19 ≤ c then c - 19 else c - 3
def Kt4 (size:Int) (closed:Bool) (c:Int):Bool:=!(decide (Ksi c > 0) && decide (c > 2) && (decide (Kt3 c ≥ size) || closed && decide (Kt3 c < 0)))
theorem Kt5 {c:Int} (h:Ksi c > 0):Kcf c=some (Kt3 c):=by
 have:0 ≤ c∧c ≤ 36:=by rcases Ksm c with h | h | h | h <;> omega
 unfold Kcf Kt3
 by_cases h1:35 ≤ c
 ·rw [decide_eq_true (by omega:c ≥ 35),if_pos rfl,if_pos h1]
 ·rw [decide_eq_false (by omega:¬ c ≥ 35),if_neg (by decide),if_neg h1]
  by_cases h2:19 ≤ c
  ·rw [decide_eq_true (by omega:c ≥ 19),if_pos rfl,if_pos h2,Kqx (by omega) (by omega)]
  ·rw [decide_eq_false (by omega:¬ c ≥ 19),if_neg (by decide),if_neg h2,Kqx (by omega) (by omega)]
theorem Kt6 (ty:List Int) (hty:ty.length ≤ 1099511627776) (size:Int) (cl:Bool):∀ (l:List Int) (i:Nat),ty.drop i=l→Kck (ty,size,cl,(i:Int))=some (if l.all (Kt4 size cl) then .inl () else .inr false):=by
 intro l
 induction l with
 | nil =>
  intro i hl
  rw [Kck.eq_def]
  simp only
  rw [Kr1 (Ksf hl)]; rfl
 | cons c l ih =>
  intro i hl
  obtain ⟨hi,hx,hd⟩:=Kse hl
  rw [Kck.eq_def]
  simp only
  rw [Kr0 hi,if_pos rfl,hx,bs,bs,Ksl,bs,Kqz (by omega)]
  have ih:=ih (i + 1) hd
  generalize ((i + 1:Nat):Int)=M at ih ⊢
  rw [List.all_cons]
  unfold Kt4 at ih ⊢
  by_cases hk:Ksi c > 0
  ·simp only [bs,Kt5 hk]
   rw [decide_eq_true hk]
   generalize Kt3 c=g at ih ⊢
   cases decide (c > 2) <;> cases decide (g ≥ size) <;> cases cl <;> cases decide (g < 0) <;> simp [bs,ih]
  ·rw [decide_eq_false hk]; simp [bs,ih]
theorem Kt7 (ty:List Int) (hty:ty.length ≤ 1099511627776) (size:Int) (cl:Bool):Kcn (ty,size,cl)=some (ty.all (Kt4 size cl)):=by
 unfold Kcn
 simp only
 rw [show (0:Int)=((0:Nat):Int) from rfl,Kt6 ty hty size cl _ 0 rfl,List.drop_zero,bs]
 cases ty.all (Kt4 size cl) <;> rfl
theorem Kt8 {α β:Type} {a:Option α} {f:α→Option β} {x:α} (h:a=some x):(a >>= f)=f x:=by rw [h]; rfl
mutual
def tsz:K01→Nat
 | ⟨_,_,_,ks⟩=>1 + Kt9 ks
def Kt9:List K01→Nat
 | []=>0
 | k :: ks=>tsz k + Kt9 ks
end
mutual
def tms:K01→Nat
 | ⟨_,_,ty,ks⟩=>ty.length + ks.length + Kta ks
def Kta:List K01→Nat
 | []=>0
 | k :: ks=>tms k + Kta ks
end
theorem Ktb (t:K01):tms t=t.fType.length + t.fKids.length + Kta t.fKids:=by cases t; rw [tms]
def Ktc (left n:Nat):Int:=if n ≤ left then ((left - n:Nat):Int) else -1
theorem Ktd {left n:Nat} (h:n ≤ left):Ktc left n=((left - n:Nat):Int):=if_pos h
theorem Kte {left n:Nat} (h:¬ n ≤ left):Ktc left n=-1:=if_neg h
theorem Ktf (t:K01) (i:Int):Kcz (t,-1,i)=some (-1):=by
 rw [Kcz.eq_def]
 simp only
 cases decide (i < (t.fKids.length:Int)) <;> rfl
mutual
theorem Ktg:∀ (t:K01) (left:Nat),tms t ≤ 1099511627776→left ≤ 1048576→Kcy (t,(left:Int))=some (Ktc left (tsz t))
 | ⟨op,N,ty,ks⟩,left,ht,hl=>by
  rw [tms] at ht
  rw [Kcy.eq_def,tsz]
  simp only
  rcases left with _ | l
  ·rw [show wr (((0:Nat):Int) - 1)=-1 from Kqx (by omega) (by omega),Ktf,bs,Kte (by omega)]
  ·have h:=Kth ks ⟨op,N,ty,ks⟩ 0 l rfl (by simp only; omega) (by omega) (by omega)
   rw [Kqx (by omega) (by omega),show ((l + 1:Nat):Int) - 1=(l:Int) by omega,show (0:Int)=((0:Nat):Int) from rfl,h,bs]
   unfold Ktc
   by_cases q:Kt9 ks ≤ l
   ·rw [if_pos q,if_pos (by omega),show l + 1 - (1 + Kt9 ks)=l - Kt9 ks by omega]
   ·rw [if_neg q,if_neg (by omega)]
theorem Kth:∀ (ks:List K01) (t:K01) (i left:Nat),t.fKids.drop i=ks→t.fKids.length ≤ 1099511627776→Kta ks ≤ 1099511627776→left ≤ 1048576→Kcz (t,(left:Int),(i:Int))=some (Ktc left (Kt9 ks))
 | [],t,i,left,hd,hk,ht,hl=>by
  rw [Kcz.eq_def,Kt9]
  simp only
  rw [Kr1 (Ksf hd)]
  simp [bs,Ktc]
 | k :: ks,t,i,left,hd,hk,ht,hl=>by
  obtain ⟨hi,hx,hd'⟩:=Kse hd
  rw [Kta] at ht
  rw [Kcz.eq_def,Kt9]
  simp only
  rw [Kr0 hi,if_pos rfl,bs,decide_eq_true (by omega:((left:Nat):Int) ≥ 0),if_pos rfl,hx,bs,Ktg k left (by omega) hl,bs,Kqz (by omega)]
  by_cases q:tsz k ≤ left
  ·rw [Ktd q,Kth ks t (i + 1) (left - tsz k) hd' hk (by omega) (by omega)]
   unfold Ktc
   by_cases q2:Kt9 ks ≤ left - tsz k
   ·rw [if_pos q2,if_pos (by omega)]; congr 2; omega
   ·rw [if_neg q2,if_neg (by omega)]
  ·rw [Kte q,Ktf,Kte (by omega)]
end
def Kti (op:Int):Int:=if inB op 0 12 then ([0,0,2,3,2,2,1,1,3,1,2,1,2]:List Int).getD op.toNat 0 else -1
def Ktj (op:Int):Bool:=op == 5 || op == 8 || op == 9 || op == 11 || op == 12
def Ktk (op:Int):Bool:=op == 6 || op == 7 || op == 9
def Ktl (op:Int):ByteArray:=([ByteArray.mk #[120],ByteArray.empty,ByteArray.mk #[97,100,100],ByteArray.mk #[105,102],ByteArray.mk #[112,97,105,114],ByteArray.mk #[115,112,108,105,116],ByteArray.mk #[108,101,102,116],
 ByteArray.mk #[114,105,103,104,116],ByteArray.mk #[99,97,115,101],ByteArray.mk #[102,117,110],ByteArray.mk #[97,112,112],ByteArray.mk #[98,111,120],ByteArray.mk #[111,112,101,110]]:List ByteArray).getD op.toNat ByteArray.empty
theorem Ktm {op:Int} (h:inB op 0 12=true):op=0∨op=1∨op=2∨op=3∨op=4∨op=5∨op=6∨op=7∨op=8∨op=9∨op=10∨op=11∨op=12:=by
 simp only [inB,Bool.and_eq_true,decide_eq_true_eq] at h
 omega
theorem Ktn (op:Int):Kd5 op=some (Kti op):=by
 unfold Kd5 Kti
 rw [sIn,bs]
 cases h:inB op 0 12
 ·rfl
 ·rcases Ktm h with rfl | rfl | rfl | rfl | rfl | rfl | rfl | rfl | rfl | rfl | rfl | rfl | rfl <;> rfl
theorem Kto (op:Int):Kd8 op=some (Ktj op):=by
 unfold Kd8 Ktj
 cases op == 5 <;> cases op == 8 <;> cases op == 9 <;> cases op == 11 <;> rfl
theorem Ktp (op:Int):Kdb op=some (Ktk op):=by
 unfold Kdb Ktk
 cases op == 6 <;> cases op == 7 <;> rfl
def Ktq (op:Int):K04 × Bool:=if inB op 0 12 then (K04.mk (Ktl op) (Kti op) (Ktj op) (Ktk op),true) else (K04.mk ByteArray.empty 0 false false,false)
theorem Ktr (op:Int):Kj9 op=some (Ktq op):=by
 unfold Kj9 Ktq
 rw [iIn,bs]
 cases h:inB op 0 12
 ·rfl
 ·rcases Ktm h with rfl | rfl | rfl | rfl | rfl | rfl | rfl | rfl | rfl | rfl | rfl | rfl | rfl <;> rfl
def Kts (op kid:Int):Nat:=if op == 5 && kid == 1 then 2 else if (op == 8 && decide (kid > 0)) || op == 9 || (op == 12 && kid == 1) then 1 else 0
theorem Ktt (op kid:Int):Kts op kid ≤ 2:=by unfold Kts; split <;> (try split) <;> omega
theorem Ktu (op kid:Int):Kdk (op,kid)=some ((Kts op kid:Nat):Int):=by
 unfold Kdk Kts
 simp only
 generalize (op == 5)=b1
 generalize (op == 8)=b2
 generalize (op == 9)=b3
 generalize (op == 12)=b4
 generalize (kid == 1)=b5
 generalize decide (kid > 0)=b6
 cases b1 <;> cases b2 <;> cases b3 <;> cases b4 <;> cases b5 <;> cases b6 <;> rfl
theorem Ktv (op kid:Int):Kjf (op,kid)=some ((Kts op kid:Nat):Int):=by
 unfold Kjf Kts
 simp only
 generalize (op == 5)=b1
 generalize (op == 8)=b2
 generalize (op == 9)=b3
 generalize (op == 12)=b4
 generalize (kid == 1)=b5
 generalize decide (kid > 0)=b6
 cases b1 <;> cases b2 <;> cases b3 <;> cases b4 <;> cases b5 <;> cases b6 <;> rfl
def Ktw (g:Int→Bool) (n:Int) (t:K01):Bool:=if t.fOp == 0 then inB t.fN 0 (n - 1) else if t.fOp == 1 then inB t.fN 0 2 else if Ktj t.fOp then g t.fN else t.fN == 0
def Ktx (y:List Int→Bool) (t:K01):Bool:=if Ktk t.fOp then y t.fType else (t.fType.length:Int) == 0
def Kty (g:Int→Bool) (y:List Int→Bool) (n:Int) (t:K01):Bool:=inB t.fOp 0 12 && ((t.fKids.length:Int) == Kti t.fOp) && Ktw g n t && Ktx y t
mutual
def tOk (g:Int→Bool) (y:List Int→Bool):Nat→K01→Bool
 | n,⟨op,N,ty,ks⟩=>Kty g y (n:Int) ⟨op,N,ty,ks⟩ && Ktz g y op n 0 ks
def Ktz (g:Int→Bool) (y:List Int→Bool):Int→Nat→Nat→List K01→Bool
 | _,_,_,[]=>true
 | op,n,i,k :: ks=>tOk g y (n + Kts op (i:Int)) k && Ktz g y op n (i + 1) ks
end
theorem Ku0 (g:Int→Bool) (y:List Int→Bool) (n:Nat) (t:K01):tOk g y n t=(Kty g y (n:Int) t && Ktz g y t.fOp n 0 t.fKids):=by cases t; rw [tOk]
def gN (size:Int) (cl:Bool) (x:Int):Bool:=!(decide (x ≥ size) || decide (x < -1) || cl && decide (x < 0))
def yN (size:Int) (cl:Bool) (ty:List Int):Bool:=wtB ty && ty.all (Kt4 size cl)
theorem Ku1 (t:K01) (n:Nat) (size:Int) (cl:Bool) (hty:t.fType.length ≤ 1099511627776) (hn:n ≤ 35184372088832):Kdh (t,(n:Int),size,cl)=some (Kty (gN size cl) (yN size cl) (n:Int) t):=by
 unfold Kdh Kty
 simp only
 rw [Ktn,bs]
 by_cases hk:(t.fKids.length:Int)=Kti t.fOp
 ·have hop:inB t.fOp 0 12=true:=by
   cases h:inB t.fOp 0 12
   ·unfold Kti at hk; rw [h] at hk; simp at hk
   ·rfl
  rw [show ((t.fKids.length:Int) != Kti t.fOp)=false by rw [hk]; exact Kr7,if_neg (by decide),show ((t.fKids.length:Int) == Kti t.fOp)=true by rw [hk]; simp,hop]
  refine (Kt8 (x:=if Ktw (gN size cl) (n:Int) t then .inl () else .inr false) ?_).trans ?_
  ·unfold Ktw gN
   rw [sIn,Kqx (by omega) (by omega),sIn,Kto]
   simp only [bs]
   generalize inB t.fN 0 ((n:Int) - 1)=b1
   generalize inB t.fN 0 2=b2
   generalize Ktj t.fOp=b3
   rw [show (t.fN != 0)=!(t.fN == 0) from rfl]
   generalize (t.fN == 0)=b4
   generalize decide (t.fN ≥ size)=b5
   generalize decide (t.fN < -1)=b6
   generalize decide (t.fN < 0)=b7
   generalize (t.fOp == 0)=b8
   generalize (t.fOp == 1)=b9
   cases b8
   ·cases b9
    ·cases b3
     ·cases b4 <;> rfl
     ·cases b5 <;> cases b6 <;> cases cl <;> cases b7 <;> rfl
    ·cases b2 <;> rfl
   ·cases b1 <;> rfl
  ·cases Ktw (gN size cl) (n:Int) t
   ·simp
   ·unfold Ktx yN
    simp only [if_true]
    rw [Ktp,bs]
    cases Ktk t.fOp
    ·simp
    ·simp only [if_true]
     rw [Kt1 _ hty,Kt7 _ hty]
     cases wtB t.fType <;> simp [bs]
 ·rw [show ((t.fKids.length:Int) != Kti t.fOp)=true by simpa using hk,if_pos rfl,show ((t.fKids.length:Int) == Kti t.fOp)=false by simpa using hk]
  simp
mutual
theorem Ku2 (size:Int) (cl:Bool):∀ (t:K01) (n:Nat),tms t ≤ 1099511627776→n + 2 * tms t ≤ 35184372088832→Kdo (t,(n:Int),size,cl)=some (tOk (gN size cl) (yN size cl) n t)
 | ⟨op,N,ty,ks⟩,n,ht,hn=>by
  rw [tms] at ht hn
  rw [Kdo.eq_def,tOk]
  simp only
  rw [Ku1 _ n size cl (by simp only; omega) (by omega),bs]
  cases hb:Kty (gN size cl) (yN size cl) (n:Int) ⟨op,N,ty,ks⟩
  ·rfl
  ·have h:=Ku3 size cl ks ⟨op,N,ty,ks⟩ n 0 rfl (by simp only; omega) (by omega) (by omega)
   rw [if_pos rfl,show (0:Int)=((0:Nat):Int) from rfl,h,bs]
   simp only
   cases Ktz (gN size cl) (yN size cl) op n 0 ks <;> rfl
theorem Ku3 (size:Int) (cl:Bool):∀ (ks:List K01) (t:K01) (n i:Nat),t.fKids.drop i=ks→t.fKids.length ≤ 1099511627776→Kta ks ≤ 1099511627776→n + 2 * (ks.length + Kta ks) ≤ 35184372088832 →
  Kdp (t,(n:Int),size,cl,(i:Int))=some (if Ktz (gN size cl) (yN size cl) t.fOp n i ks then .inl () else .inr false)
 | [],t,n,i,hd,hk,ht,hn=>by
  rw [Kdp.eq_def,Ktz]
  simp only
  rw [Kr1 (Ksf hd)]; rfl
 | k :: ks,t,n,i,hd,hk,ht,hn=>by
  obtain ⟨hi,hx,hd'⟩:=Kse hd
  rw [Kta] at ht hn
  rw [List.length_cons] at hn
  have ha:=Ktt t.fOp (i:Int)
  rw [Kdp.eq_def,Ktz]
  simp only
  rw [Kr0 hi,if_pos rfl,hx,bs,Ktu,bs,Kqx (by omega) (by omega),show (n:Int) + ((Kts t.fOp (i:Int):Nat):Int)=((n + Kts t.fOp (i:Int):Nat):Int) by omega]
  rw [Ku2 size cl k (n + Kts t.fOp (i:Int)) (by omega) (by omega),bs,Kqz (by omega)]
  cases tOk (gN size cl) (yN size cl) (n + Kts t.fOp (i:Int)) k
  ·rfl
  ·rw [if_pos rfl,Ku3 size cl ks t n (i + 1) hd' hk (by omega) (by omega),Bool.true_and]
end
def Ku4 (ok:Bool) (nodes sz:Nat):Int:=if ok && decide (nodes + sz ≤ 400) then ((nodes + sz:Nat):Int) else 401
def szB (left:Int) (n:Nat):Int:=if left - (n:Int) < 0 then -1 else left - (n:Int)
theorem Ku5 (left:Int) (n:Nat):(szB left n=-1∧left < n)∨(szB left n=left - n∧(n:Int) ≤ left):=by
 unfold szB
 by_cases h:left - (n:Int) < 0
 ·rw [if_pos h]; left; omega
 ·rw [if_neg h]; right; omega
theorem Ku6 (a:List Int) (left:Int) (h1:0 ≤ left) (h2:left ≤ 1048576) (ha:a.length ≤ 9223372036854775807):K8j (a,left)=some (szB left a.length):=by
 unfold K8j szB
 simp only
 rw [Kqx (by omega) (by omega)]
 by_cases h:left - (a.length:Int) < 0
 ·rw [decide_eq_true h,if_pos rfl,if_pos h]
 ·rw [decide_eq_false h,if_neg (by decide),if_neg h]
mutual
def tln:K01→Prop
 | ⟨_,N,ty,ks⟩=>ty.length ≤ 9223372036854775807∧ks.length ≤ 9223372036854775807∧Ku7 ks∧(-9223372036854775808 ≤ N∧N ≤ 9223372036854775807)
def Ku7:List K01→Prop
 | []=>True
 | k :: ks=>tln k∧Ku7 ks
end
mutual
theorem Ku8:∀ (t:K01) (left:Int),tln t→0 ≤ left→left ≤ 1048576→K90 (t,left)=some (szB left (tms t))
 | ⟨op,N,ty,ks⟩,left,hl,h1,h2=>by
  rw [tln] at hl
  rw [K90.eq_def,tms]
  simp only
  rw [Ku6 ty left h1 h2 hl.1,bs]
  rcases Ku5 left ty.length with ⟨e,h⟩ | ⟨e,h⟩
  ·rw [e,decide_eq_true (by decide),if_pos rfl]
   unfold szB; rw [if_pos (by omega)]
  ·rw [e,decide_eq_false (by omega),if_neg (by decide),K91.eq_def]
   simp only
   rw [Kqx (by omega) (by omega)]
   by_cases h3:left - (ty.length:Int) - (ks.length:Int) < 0
   ·rw [decide_eq_true h3,if_pos rfl,bs,decide_eq_true (by decide),if_pos rfl]
    unfold szB; rw [if_pos (by omega)]
   ·obtain ⟨m,hm⟩:∃ m:Nat,left - (ty.length:Int) - (ks.length:Int)=(m:Int):=⟨(left - (ty.length:Int) - (ks.length:Int)).toNat,by omega⟩
    rw [decide_eq_false h3,if_neg (by decide),hm,show (0:Int)=((0:Nat):Int) from rfl,Ku9 ks ks 0 m rfl hl.2.1 hl.2.2.1 (by omega),bs]
    unfold szB
    by_cases q:m < Kta ks
    ·rw [if_pos q,if_pos (by omega)]; rfl
    ·rw [if_neg q,if_neg (by omega)]
     simp only [bs]
     rw [decide_eq_false (by omega),if_neg (by decide)]; congr 1; omega
theorem Ku9:∀ (ks a:List K01) (i left:Nat),a.drop i=ks→a.length ≤ 9223372036854775807→Ku7 ks→left ≤ 1048576→K92 (a,(left:Int),(i:Int))=some (if left < Kta ks then .inr (-1) else .inl ((left - Kta ks:Nat):Int))
 | [],a,i,left,hd,ha,hl,h=>by
  rw [K92.eq_def,Kta]
  simp only
  rw [Kr1 (Ksf hd)]
  simp
 | k :: ks,a,i,left,hd,ha,hl,h=>by
  obtain ⟨hi,hx,hd'⟩:=Kse hd
  rw [Ku7] at hl
  rw [K92.eq_def,Kta]
  simp only
  rw [Kr0 hi,if_pos rfl,hx,bs,Ku8 k left hl.1 (by omega) (by omega),bs,Kqz (by omega)]
  rcases Ku5 left (tms k) with ⟨e,q⟩ | ⟨e,q⟩
  ·rw [e,decide_eq_true (by decide),if_pos rfl,if_pos (by omega)]
  ·rw [e,decide_eq_false (by omega),if_neg (by decide),show (left:Int) - ((tms k:Nat):Int)=((left - tms k:Nat):Int) by omega,Ku9 ks a (i + 1) (left - tms k) hd' ha hl.2 (by omega)]
   by_cases q2:left - tms k < Kta ks
   ·rw [if_pos q2,if_pos (by omega)]
   ·rw [if_neg q2,if_neg (by omega)]; congr 3; omega
end
mutual
theorem Kua:∀ (t:K01),tms t ≤ 1099511627776→K9z t=some t
 | ⟨op,N,ty,ks⟩,h=>by
  rw [tms] at h
  rw [K9z.eq_def]
  simp only
  rw [Kr4 ty (by omega),bs,Ka0.eq_def]
  have:chk (0 ≤ (ks.length:Int)∧(Int.toNat (ks.length:Int)) * 64 ≤ 140737488355328)=some ():=by
   unfold chk; rw [if_pos]; refine ⟨by omega,?_⟩; rw [Int.toNat_natCast]; omega
  rw [this,bs,Int.toNat_natCast,show (0:Int)=((0:Nat):Int) from rfl,Kub ks ks (List.replicate ks.length (K01.mk ((0:Nat):Int) ((0:Nat):Int) [] [])) 0 rfl (by omega) (by omega) (by simp) rfl]
  rfl
theorem Kub:∀ (ks a out:List K01) (i:Nat),a.drop i=ks→a.length ≤ 1099511627776→Kta ks ≤ 1099511627776→out.length=a.length→out.take i=a.take i→Ka1 (a,out,(i:Int))=some a
 | [],a,out,i,hd,ha,hl,ho,ht=>by
  rw [Ka1.eq_def]
  simp only
  have hle:=Ksf hd
  rw [Kr1 hle]
  rw [List.take_of_length_le (by omega),List.take_of_length_le (by omega)] at ht
  simp [ht]
 | k :: ks,a,out,i,hd,ha,hl,ho,ht=>by
  obtain ⟨hi,hx,hd'⟩:=Kse hd
  have hk:a[i]=k:=by rw [Kqy hi] at hx; exact Option.some.inj hx
  rw [Kta] at hl
  rw [Ka1.eq_def]
  simp only
  rw [Kr0 hi,if_pos rfl,hx,bs,Kua k (by omega),bs,Kqy (by omega),bs,Kqz (by omega),Int.toNat_natCast]
  exact Kub ks a _ (i + 1) hd' ha (by omega) (by simpa using ho) (by rw [← hk]; exact Kr2 ho hi ht)
end
mutual
theorem Kuc:∀ (t:K01),tms t ≤ 1099511627776→Kpc (t,t)=some true
 | ⟨op,N,ty,ks⟩,h=>by
  rw [tms] at h
  rw [Kpc.eq_def]
  simp only
  rw [Kr7,if_neg (by decide),Kr7,if_neg (by decide),Kr9 ty (by omega),bs,if_pos rfl,Kpd.eq_def]
  simp only
  rw [Kr7,if_neg (by decide),show (0:Int)=((0:Nat):Int) from rfl,Kud ks ks 0 rfl (by omega) (by omega)]
  rfl
theorem Kud:∀ (ks a:List K01) (i:Nat),a.drop i=ks→a.length ≤ 1099511627776→Kta ks ≤ 1099511627776→Kpe (a,a,(i:Int))=some (.inl ())
 | [],a,i,hd,ha,hl=>by
  rw [Kpe.eq_def]
  simp only
  rw [Kr1 (Ksf hd)]
  rfl
 | k :: ks,a,i,hd,ha,hl=>by
  obtain ⟨hi,hx,hd'⟩:=Kse hd
  rw [Kta] at hl
  rw [Kpe.eq_def]
  simp only
  rw [Kr0 hi,if_pos rfl,hx,bs,bs,Kuc k (by omega),bs,if_pos rfl,Kqz (by omega)]
  exact Kud ks a (i + 1) hd' ha (by omega)
end
theorem Kue {ty:List Int} (h:wtB ty=true):ty.length ≤ 40:=by
 unfold wtB at h
 rw [Bool.and_eq_true,decide_eq_true_eq] at h
 exact h.1
theorem Kuf {g:Int→Bool} {y:List Int→Bool} {n:Nat} {t:K01} (h:tOk g y n t=true):Kty g y (n:Int) t=true∧Ktz g y t.fOp n 0 t.fKids=true:=by
 rw [Ku0,Bool.and_eq_true] at h; exact h
theorem Kug {n b:Nat} (h:n * b ≤ 140737488355328):Qd6 n b=some ():=by unfold Qd6 chk; rw [if_pos h]
theorem Kuh {g:Int→Bool} {y:List Int→Bool} {n:Int} {t:K01} (h:Kty g y n t=true):inB t.fOp 0 12=true∧(t.fKids.length:Int)=Kti t.fOp:=by
 unfold Kty at h
 simp only [Bool.and_eq_true,beq_iff_eq] at h
 exact ⟨h.1.1.1,h.1.1.2⟩
theorem Kui (l:List Int) (h:l.length ≤ 1099511627776):Ke4 l=some l:=by
 unfold Ke4
 rw [Kug (by simp only [List.length_nil]; omega),bs]
theorem Kuj (l:List Int) (h:l.length ≤ 1099511627776):Kks l=some l:=by
 unfold Kks
 rw [Kug (by simp only [List.length_nil]; omega),bs]
structure Kuk (s:K00) (n:Nat):Prop where
 size:s.fSize=(n:Int)
 lo:2 ≤ n
 hi:n ≤ 16
 lp:s.fPlus.length=n * n
 lt:s.fTimes.length=n * n
 lb:s.fBelow.length=n * n
def Kul (s:K00) (n i:Nat):Bool:=inB (s.fPlus.getD i 0) 0 ((n:Int) - 1) && inB (s.fTimes.getD i 0) 0 ((n:Int) - 1)
section
variable {s:K00} {n:Nat} (h:Kuk s n)
include h
theorem nn:n * n ≤ 256:=Nat.le_trans (Nat.mul_le_mul h.hi h.hi) (by decide)
theorem Kum {i:Nat} (hi:i < n * n):idx s.fPlus (i:Int)=some (s.fPlus.getD i 0):=by
 have hl:i < s.fPlus.length:=by rw [h.lp]; exact hi
 rw [Kqy hl,List.getD_eq_getElem?_getD,List.getElem?_eq_getElem hl]; rfl
theorem Kun {i:Nat} (hi:i < n * n):idx s.fTimes (i:Int)=some (s.fTimes.getD i 0):=by
 have hl:i < s.fTimes.length:=by rw [h.lt]; exact hi
 rw [Kqy hl,List.getD_eq_getElem?_getD,List.getElem?_eq_getElem hl]; rfl
theorem Kuo:wr (s.fSize - 1)=(n:Int) - 1:=by
 have:=h.lo; have:=h.hi
 rw [h.size,Kqx (by omega) (by omega)]
theorem Kup:∀ (k i:Nat),i + k=n * n→Kad (s,(i:Int))=some (if (List.range' i k).all (Kul s n) then .inl () else .inr false):=by
 have hn:=nn h
 intro k
 induction k with
 | zero =>
  intro i hm
  rw [Kad.eq_def]
  simp only
  rw [h.lp,Kr1 (by omega)]
  rfl
 | succ k ih =>
  intro i hm
  rw [Kad.eq_def]
  simp only
  rw [h.lp,Kr0 (by omega),if_pos rfl,Kum h (by omega),Kun h (by omega),Kuo h]
  have ih:=ih (i + 1) (by omega)
  rw [Kqz (by omega),List.range'_succ,List.all_cons]
  generalize ((i + 1:Nat):Int)=M at ih ⊢
  generalize (List.range' (i + 1) k).all (Kul s n)=r at ih ⊢
  simp only [bs,sIn]
  cases h1:inB (s.fPlus.getD i 0) 0 ((n:Int) - 1) <;> cases h2:inB (s.fTimes.getD i 0) 0 ((n:Int) - 1) <;> cases r <;> simp only [Kul,h1,h2,ih,bs,Bool.not_true,Bool.not_false,Bool.true_and,Bool.false_and,Bool.and_true,Bool.and_false,if_true,if_false,Bool.false_eq_true]
theorem Kuq:∀ (k i:Nat),i + k=n * n→Khv (s,(i:Int))=some (if (List.range' i k).all (Kul s n) then .inl () else .inr false):=by
 have hn:=nn h
 intro k
 induction k with
 | zero =>
  intro i hm
  rw [Khv.eq_def]
  simp only
  rw [h.lp,Kr1 (by omega)]
  rfl
 | succ k ih =>
  intro i hm
  rw [Khv.eq_def]
  simp only
  rw [h.lp,Kr0 (by omega),if_pos rfl,Kum h (by omega),Kun h (by omega)]
  have ih:=ih (i + 1) (by omega)
  rw [Kqz (by omega),List.range'_succ,List.all_cons]
  generalize ((i + 1:Nat):Int)=M at ih ⊢
  generalize (List.range' (i + 1) k).all (Kul s n)=r at ih ⊢
  have hh:∀ x,Kgy (s,x)=some (inB x 0 ((n:Int) - 1)):=fun x=>by
   unfold Kgy
   simp only
   rw [Kuo h,iIn,bs]
  simp only [bs,hh]
  cases h1:inB (s.fPlus.getD i 0) 0 ((n:Int) - 1) <;> cases h2:inB (s.fTimes.getD i 0) 0 ((n:Int) - 1) <;> cases r <;> simp only [Kul,h1,h2,ih,bs,Bool.not_true,Bool.not_false,Bool.true_and,Bool.false_and,Bool.and_true,Bool.and_false,if_true,if_false,Bool.false_eq_true]
theorem Kur (he:(List.range' 0 (n * n)).all (Kul s n)=true):Tab s n:=by
 rw [List.all_eq_true] at he
 have hent:∀ i,i < n * n→Kul s n i=true:=fun i hi=>he i (by rw [List.mem_range'_1]; omega)
 refine ⟨h.size,h.lo,h.hi,h.lp,h.lt,h.lb,fun i hi=>?_,fun i hi=>?_⟩
 ·have:=hent i (by rw [← h.lp]; exact hi)
  simp only [Kul,inB,Bool.and_eq_true,decide_eq_true_eq,List.getD_eq_getElem?_getD,List.getElem?_eq_getElem hi,Option.getD_some] at this
  omega
 ·have:=hent i (by rw [← h.lt]; exact hi)
  simp only [Kul,inB,Bool.and_eq_true,decide_eq_true_eq,List.getD_eq_getElem?_getD,List.getElem?_eq_getElem hi,Option.getD_some] at this
  omega
end
def Kus (s:K00):Bool:=inB s.fSize 2 16 && !((s.fPlus.length:Int) != (wr (s.fSize * s.fSize))) && !((s.fTimes.length:Int) != (wr (s.fSize * s.fSize))) && !((s.fBelow.length:Int) != (wr (s.fSize * s.fSize)))
theorem Kut {s:K00} (h:Kus s=true):Kuk s s.fSize.toNat:=by
 unfold Kus at h
 simp only [Bool.and_eq_true,Bool.not_eq_true',inB,decide_eq_true_eq,bne_eq_false_iff_eq] at h
 obtain ⟨⟨⟨⟨h1,h2⟩,h3⟩,h4⟩,h5⟩:=h
 obtain ⟨n,hn⟩:∃ n:Nat,s.fSize=(n:Int):=⟨s.fSize.toNat,by omega⟩
 rw [hn] at h1 h2 h3 h4 h5 ⊢
 have h256:n * n ≤ 256:=Nat.le_trans (Nat.mul_le_mul (by omega:n ≤ 16) (by omega:n ≤ 16)) (by decide)
 have e:(n:Int) * (n:Int)=((n * n:Nat):Int):=by simp
 rw [e] at h3 h4 h5
 generalize hm:n * n=m at *
 rw [Kqx (by omega) (by omega)] at h3 h4 h5
 rw [Int.toNat_natCast]
 exact ⟨hn,by omega,by omega,by omega,by omega,by omega⟩
def Kuu (s:K00):Bool:=Kus s && (List.range' 0 (s.fSize.toNat * s.fSize.toNat)).all (Kul s s.fSize.toNat) && Ks7 s s.fSize.toNat
theorem Kuv {s:K00} (h:Kuu s=true):Tab s s.fSize.toNat:=by
 unfold Kuu at h
 simp only [Bool.and_eq_true] at h
 exact Kur (Kut h.1.1) h.1.2
theorem Kuw (s:K00):Kbt s=some (Kuu s):=by
 unfold Kbt Kag Kuu
 rw [sIn]
 cases hf:Kus s with
 | false =>
  unfold Kus at hf
  cases h1:inB s.fSize 2 16 <;> cases h2:((s.fPlus.length:Int) != (wr (s.fSize * s.fSize))) <;> cases h3:((s.fTimes.length:Int) != (wr (s.fSize * s.fSize))) <;> cases h4:((s.fBelow.length:Int) != (wr (s.fSize * s.fSize))) <;> simp_all [bs]
 | true =>
  have F:=Kut hf
  have hl:=Kup F (s.fSize.toNat * s.fSize.toNat) 0 (by omega)
  rw [show ((0:Nat):Int)=0 from rfl] at hl
  unfold Kus at hf
  simp only [Bool.and_eq_true,Bool.not_eq_true'] at hf
  obtain ⟨⟨⟨h1,h2⟩,h3⟩,h4⟩:=hf
  cases he:(List.range' 0 (s.fSize.toNat * s.fSize.toNat)).all (Kul s s.fSize.toNat) with
  | false=>rw [he] at hl; simp [bs,h1,h2,h3,h4,hl]
  | true =>
   have T:=Kur F he
   have hl2:=Ksc T s.fSize.toNat 0 (by omega)
   rw [show ((0:Nat):Int)=0 from rfl] at hl2
   rw [he] at hl
   have hm:(List.range' 0 s.fSize.toNat).all (fun a=>Krr s s.fSize.toNat a && (List.range' 0 s.fSize.toNat).all fun b=>Ks4 s s.fSize.toNat a b && (List.range' 0 s.fSize.toNat).all fun c=>Krs s s.fSize.toNat a b c)=Ks7 s s.fSize.toNat:=rfl
   rw [hm] at hl2
   cases hs:Ks7 s s.fSize.toNat <;> rw [hs] at hl2 <;> simp [bs,h1,h2,h3,h4,hl,hl2]
theorem Kux (s:K00):Kia s=some (Kuu s):=by
 unfold Kia Kuu
 rw [iIn]
 cases hf:Kus s with
 | false =>
  unfold Kus at hf
  cases h1:inB s.fSize 2 16 <;> cases h2:((s.fPlus.length:Int) != (wr (s.fSize * s.fSize))) <;> cases h3:((s.fTimes.length:Int) != (wr (s.fSize * s.fSize))) <;> cases h4:((s.fBelow.length:Int) != (wr (s.fSize * s.fSize))) <;> simp_all [bs]
 | true =>
  have F:=Kut hf
  have hl:=Kuq F (s.fSize.toNat * s.fSize.toNat) 0 (by omega)
  rw [show ((0:Nat):Int)=0 from rfl] at hl
  unfold Kus at hf
  simp only [Bool.and_eq_true,Bool.not_eq_true'] at hf
  obtain ⟨⟨⟨h1,h2⟩,h3⟩,h4⟩:=hf
  cases he:(List.range' 0 (s.fSize.toNat * s.fSize.toNat)).all (Kul s s.fSize.toNat) with
  | false=>rw [he] at hl; simp [bs,h1,h2,h3,h4,hl]
  | true =>
   have T:=Kur F he
   have hl2:=Ksd T s.fSize.toNat 0 (by omega)
   rw [show ((0:Nat):Int)=0 from rfl] at hl2
   rw [he] at hl
   have hm:(List.range' 0 s.fSize.toNat).all (fun a=>Krr s s.fSize.toNat a && (List.range' 0 s.fSize.toNat).all fun b=>Ks4 s s.fSize.toNat a b && (List.range' 0 s.fSize.toNat).all fun c=>Krs s s.fSize.toNat a b c)=Ks7 s s.fSize.toNat:=rfl
   rw [hm] at hl2
   cases hs:Ks7 s s.fSize.toNat <;> rw [hs] at hl2 <;> simp [bs,h1,h2,h3,h4,hl,hl2]
theorem Kuy {x:Int} {n:Nat} (h:inB x 0 ((n:Int) - 1)=true):x=((x.toNat:Nat):Int)∧x.toNat < n:=by
 simp only [inB,Bool.and_eq_true,decide_eq_true_eq] at h
 omega
section
variable {s:K00} {n:Nat} (h:Tab s n)
include h
theorem Kuz:wr (s.fSize - 1)=(n:Int) - 1:=by
 have:=h.lo; have:=h.hi
 rw [h.size,Kqx (by omega) (by omega)]
end
inductive Ty where
 | num
 | bin (c:Int) (a b:Ty)
 | un (c:Int) (a:Ty)
namespace Ty
def code:Ty→List Int
 | num=>[0]
 | bin c a b=>c :: (a.code ++ b.code)
 | un c a=>c :: a.code
def ok:Ty→Prop
 | num=>True
 | bin c a b=>Ksi c=2∧a.ok∧b.ok
 | un c a=>Ksi c=1∧a.ok
def kids:Ty→List Ty
 | num=>[]
 | bin _ a b=>[a,b]
 | un _ a=>[a]
def hd:Ty→Int
 | num=>0
 | bin c _ _=>c
 | un c _=>c
end Ty
def Kv0:List Ty→List Int
 | []=>[]
 | t :: l=>t.code ++ Kv0 l
theorem Kv1 (T:Ty):T.code=T.hd :: Kv0 T.kids:=by cases T <;> simp [Ty.code,Ty.hd,Ty.kids,Kv0]
theorem Kv2 (T:Ty):1 ≤ T.code.length:=by rw [Kv1]; simp
theorem Kv3 (T:Ty):∀ (m:Nat) (l:List Int),T.ok→skip (m + 1) (T.code ++ l)=skip m l:=by
 induction T with
 | num =>
  intro m l _
  rw [Ty.code,List.singleton_append,Kss,show Ksi 0=0 from rfl,if_neg (by decide)]; rfl
 | bin c a b iha ihb =>
  intro m l h
  rw [Ty.code,List.cons_append,Kss,h.1,if_neg (by decide),List.append_assoc,show m + (2:Int).toNat=(m + 1) + 1 from rfl,iha _ _ h.2.1,ihb _ _ h.2.2]
 | un c a ih =>
  intro m l h
  rw [Ty.code,List.cons_append,Kss,h.1,if_neg (by decide),show m + (1:Int).toNat=m + 1 from rfl,ih _ _ h.2]
theorem Kv4 (l:List Int):∀ (m:Nat) (r:List Int),skip m l=some r→∃ Ts:List Ty,Ts.length=m∧(∀ T ∈ Ts,T.ok)∧l=Kv0 Ts ++ r:=by
 induction l with
 | nil =>
  intro m r h
  cases m with
  | zero=>rw [Ksq] at h; cases h; exact ⟨[],rfl,fun _ h=>(by cases h),rfl⟩
  | succ m=>rw [Ksr] at h; cases h
 | cons c l ih =>
  intro m r h
  cases m with
  | zero=>rw [Ksq] at h; cases h; exact ⟨[],rfl,fun _ h=>(by cases h),rfl⟩
  | succ m =>
   rw [Kss] at h
   by_cases hk:Ksi c=-1
   ·rw [if_pos hk] at h; cases h
   ·rw [if_neg hk] at h
    obtain ⟨Ts,h1,h2,h3⟩:=ih _ _ h
    rcases Ksm c with ⟨q,e⟩ | ⟨q,e⟩ | ⟨q,e⟩ | ⟨q,e⟩
    ·subst q
     rw [e] at h1
     exact ⟨.num :: Ts,by simpa using h1,fun T hT=>by rcases List.mem_cons.1 hT with rfl | hT; exact trivial; exact h2 T hT,by rw [h3]; rfl⟩
    ·rw [e] at h1
     match Ts,h1 with
     | a :: b :: Ts,h1 =>
      refine ⟨.bin c a b :: Ts,by simpa using h1,fun T hT=>?_,by rw [h3]; simp [Kv0,Ty.code]⟩
      rcases List.mem_cons.1 hT with rfl | hT
      ·exact ⟨e,h2 a List.mem_cons_self,h2 b (List.mem_cons_of_mem _ List.mem_cons_self)⟩
      ·exact h2 T (List.mem_cons_of_mem _ (List.mem_cons_of_mem _ hT))
     | [_],h1=>exact absurd h1 (by simp)
     | [],h1=>exact absurd h1 (by simp)
    ·rw [e] at h1
     match Ts,h1 with
     | a :: Ts,h1 =>
      refine ⟨.un c a :: Ts,by simpa using h1,fun T hT=>?_,by rw [h3]; simp [Kv0,Ty.code]⟩
      rcases List.mem_cons.1 hT with rfl | hT
      ·exact ⟨e,h2 a List.mem_cons_self⟩
      ·exact h2 T (List.mem_cons_of_mem _ hT)
     | [],h1=>exact absurd h1 (by simp)
    ·exact absurd e hk
theorem Kv5 {ty:List Int} (h:wtB ty=true):∃ T:Ty,T.ok∧ty=T.code∧ty.length ≤ 40:=by
 have hl:=Kue h
 unfold wtB at h
 rw [Bool.and_eq_true,beq_iff_eq] at h
 obtain ⟨Ts,h1,h2,h3⟩:=Kv4 _ _ _ h.2
 match Ts,h1 with
 | [T],_=>exact ⟨T,h2 T List.mem_cons_self,by rw [h3]; simp [Kv0],hl⟩
theorem Kv6 {T:Ty} (h:T.ok) (hl:T.code.length ≤ 40):wtB T.code=true:=by
 unfold wtB
 have:=Kv3 T 0 [] h
 rw [List.append_nil,Ksq] at this
 rw [decide_eq_true hl,show (1:Nat)=0 + 1 from rfl,this]; rfl
theorem Kv7 {T:Ty} (h:T.ok):∀ K ∈ T.kids,K.ok:=by
 intro K hK
 cases T with
 | num=>cases hK
 | bin c a b=>rcases List.mem_cons.1 hK with rfl | hK; exact h.2.1; rw [List.mem_singleton.1 hK]; exact h.2.2
 | un c a=>rw [List.mem_singleton.1 hK]; exact h.2
theorem Kv8 {pre:List Int} {T:Ty} {post:List Int} (h:T.ok):Ksv (pre ++ (T.code ++ post)) 1 pre.length=((pre.length + T.code.length:Nat):Int):=by
 unfold Ksv
 rw [List.drop_left,show (1:Nat)=0 + 1 from rfl,Kv3 T 0 post h,Ksq]
 simp only [List.length_append]
 omega
theorem Kv9 {α:Type} (p m q:List α) (mx:Option Int) (hmx:mx=none∨mx=some ((p.length + m.length:Nat):Int)):cut (p ++ (m ++ q)) (some (p.length:Int)) (some ((p.length + m.length:Nat):Int)) mx=some m:=by
 unfold cut
 have e:((p ++ (m ++ q)).take (p.length + m.length)).drop p.length=m:=by
  rw [← List.append_assoc,← List.length_append,List.take_left,List.drop_left]
 rw [if_pos]
 ·simp only [Option.getD_some,Int.toNat_natCast,e]
 ·rcases hmx with rfl | rfl <;> simp only [Option.getD_some,Option.getD_none,List.length_append] <;> omega
theorem Kva {α:Type} (p q:List α):cut (p ++ q) (some (p.length:Int)) none none=some q:=by
 unfold cut
 rw [if_pos]
 ·simp only [Option.getD_some,Option.getD_none,Int.toNat_natCast,List.take_length,List.drop_left]
 ·simp only [Option.getD_some,Option.getD_none,List.length_append]; omega
theorem Kvb (Ks:List Ty):∀ (pre:List Int) (out:List (List Int)),(∀ K ∈ Ks,K.ok)→(pre ++ Kv0 Ks).length ≤ 1099511627776→out.length + Ks.length ≤ 1099511627776→Kju (pre ++ Kv0 Ks,out,(pre.length:Int))=some (out ++ Ks.map Ty.code):=by
 induction Ks with
 | nil =>
  intro pre out hk hl ho
  rw [show Kv0 []=[] from rfl,List.append_nil,Kju.eq_def]
  simp only
  rw [Kr1 (Nat.le_refl _)]; simp
 | cons K Ks ih =>
  intro pre out hk hl ho
  have hK:=hk K List.mem_cons_self
  have hp:=Kv2 K
  rw [show Kv0 (K :: Ks)=K.code ++ Kv0 Ks from rfl] at hl ⊢
  rw [List.length_cons] at ho
  rw [Kju.eq_def]
  simp only
  rw [Kr0 (by simp only [List.length_append]; omega),if_pos rfl,Ksz _ hl _ pre.length rfl,Kv8 hK,bs,Kv9 _ _ _ _ (.inr rfl),bs,Kug (by simp only [List.length_singleton]; omega),bs]
  have:=ih (pre ++ K.code) (out ++ [K.code]) (fun K hK=>hk K (List.mem_cons_of_mem _ hK)) (by rw [List.append_assoc]; exact hl) (by simp; omega)
  rw [List.append_assoc,List.length_append] at this
  rw [this,List.map_cons,List.append_assoc]; rfl
theorem Kvc {T:Ty} (h:T.ok) (hl:T.code.length ≤ 1048576):Kjx T.code=some (T.kids.map Ty.code):=by
 unfold Kjx
 have hk:T.kids.length ≤ 2:=by cases T <;> simp [Ty.kids]
 have e:[T.hd] ++ Kv0 T.kids=T.code:=(Kv1 T).symm
 have:=Kvb T.kids [T.hd] [] (Kv7 h) (by rw [e]; omega) (by simp only [List.length_nil]; omega)
 rw [e] at this
 rw [show (1:Int)=(([T.hd].length:Nat):Int) from rfl,this,bs]; rfl
theorem Kvd {c:Int} {a:Ty} {r:List Int} (ha:a.ok) (hl:(c :: (a.code ++ r)).length ≤ 1099511627776):Keu (c :: (a.code ++ r),0)=some a.code:=by
 unfold Keu
 simp only
 have e:=Kv8 (pre:=[c]) (post:=r) ha
 have h1:=Ksx (c :: (a.code ++ r)) hl 1 (by simp)
 rw [show (((1:Nat)):Int)=1 from rfl] at h1
 rw [List.length_singleton] at e
 have e':Ksv (c :: (a.code ++ r)) 1 1=((1 + a.code.length:Nat):Int):=e
 rw [h1,bs,e',if_pos (by rfl)]
 have h2:=Kv9 [c] a.code r none (.inl rfl)
 rw [List.length_singleton] at h2
 have h2':cut (c :: (a.code ++ r)) (some 1) (some ((1 + a.code.length:Nat):Int)) none=some a.code:=h2
 simp only [List.length_cons,List.length_append] at hl
 rw [h2',bs,Kui _ (by omega),bs]
theorem Kve {c:Int} {a:Ty} {r:List Int} (ha:a.ok) (hl:(c :: (a.code ++ r)).length ≤ 1099511627776):Keu (c :: (a.code ++ r),1)=some r:=by
 unfold Keu
 simp only
 have e:=Kv8 (pre:=[c]) (post:=r) ha
 have h1:=Ksx (c :: (a.code ++ r)) hl 1 (by simp)
 rw [show (((1:Nat)):Int)=1 from rfl] at h1
 rw [List.length_singleton] at e
 have e':Ksv (c :: (a.code ++ r)) 1 1=((1 + a.code.length:Nat):Int):=e
 rw [h1,bs,e',if_neg (by decide)]
 have h2:=Kva (c :: a.code) r
 rw [List.length_cons,List.cons_append,Nat.add_comm] at h2
 simp only [List.length_cons,List.length_append] at hl
 rw [h2,bs,Kui _ (by omega),bs]
def Kvf (s:K00) (g:Int):Bool:=inB g 0 (wr (s.fSize - 1))
theorem Kvg (s:K00) (g:Int):Kgy (s,g)=some (Kvf s g):=by
 unfold Kgy Kvf
 simp only
 rw [iIn,bs]
def Kvh (s:K00) (c:Int):Bool:=!(((Ksn c).1 == 3 || (Ksn c).1 == 4) && !Kvf s (Ksn c).2)
def Kvi (s:K00) (ty:List Int):Bool:=wtB ty && ty.all (Kvh s)
theorem Kvj (s:K00) (ty:List Int) (hty:ty.length ≤ 1099511627776):∀ (l:List Int) (i:Nat),ty.drop i=l→Kin (s,ty,(i:Int))=some (if l.all (Kvh s) then .inl () else .inr false):=by
 intro l
 induction l with
 | nil =>
  intro i hd
  rw [Kin.eq_def]
  simp only
  rw [Kr1 (Ksf hd)]; rfl
 | cons c l ih =>
  intro i hd
  obtain ⟨hi,hx,hd'⟩:=Kse hd
  rw [Kin.eq_def]
  simp only
  rw [Kr0 hi,if_pos rfl,hx,bs,Kso,bs,Kqz (by omega),ih (i + 1) hd',List.all_cons]
  unfold Kvh
  rcases Ksn c with ⟨a,b⟩
  simp only [Kvg,bs]
  cases a == 3 <;> cases a == 4 <;> cases Kvf s b <;> simp [bs]
theorem Kvk (s:K00) (ty:List Int) (hty:ty.length ≤ 1099511627776):Kiq (s,ty)=some (Kvi s ty):=by
 unfold Kiq Kvi
 simp only
 rw [Kt2 ty hty,bs]
 cases wtB ty
 ·rfl
 ·rw [if_pos rfl,show (0:Int)=((0:Nat):Int) from rfl,Kvj s ty hty _ 0 rfl,List.drop_zero,bs]
  cases ty.all (Kvh s) <;> rfl
theorem Kvl {s:K00} {n:Nat} (h:Tab s n) (g:Int):Kvf s g=inB g 0 ((n:Int) - 1):=by
 unfold Kvf; rw [Kuz h]
theorem Kvm {s:K00} {n:Nat} (h:Tab s n) {c:Int}:Kvh s c=Kt4 s.fSize true c:=by
 unfold Kvh Kt4 Kt3
 have hn:=h.lo
 rw [Kvl h,h.size]
 rcases Ksp c with ⟨q,e⟩ | ⟨q,e⟩ | ⟨q,e⟩ | ⟨q,e⟩ | ⟨q,e⟩ | ⟨q,e⟩ | ⟨q,e⟩ | ⟨q,e⟩ <;> rw [e]
 ·subst q; rfl
 ·subst q; rfl
 ·subst q; rfl
 ·have hk:Ksi c=2:=by rcases Ksm c with h | h | h | h <;> omega
  rw [hk,if_neg (by omega),if_neg (by omega),decide_eq_true (by omega:c > 2)]
  unfold inB
  rw [decide_eq_true (by omega:c - 3 ≥ 0),decide_eq_false (by omega:¬ c - 3 < 0)]
  by_cases hc:c - 3 ≤ (n:Int) - 1
  ·rw [decide_eq_true hc,decide_eq_false (by omega:¬ c - 3 ≥ (n:Int))]; rfl
  ·rw [decide_eq_false hc,decide_eq_true (by omega:c - 3 ≥ (n:Int))]; rfl
 ·subst q; unfold inB; simp [Ksi,Ksg,Ksh,inB]
 ·have hk:Ksi c=1:=by rcases Ksm c with h | h | h | h <;> omega
  rw [hk,if_neg (by omega),if_pos (by omega),decide_eq_true (by omega:c > 2)]
  unfold inB
  rw [decide_eq_true (by omega:c - 19 ≥ 0),decide_eq_false (by omega:¬ c - 19 < 0)]
  by_cases hc:c - 19 ≤ (n:Int) - 1
  ·rw [decide_eq_true hc,decide_eq_false (by omega:¬ c - 19 ≥ (n:Int))]; rfl
  ·rw [decide_eq_false hc,decide_eq_true (by omega:c - 19 ≥ (n:Int))]; rfl
 ·subst q; unfold inB; simp [Ksi,Ksg,Ksh,inB]
 ·have hk:Ksi c=-1:=by rcases Ksm c with h | h | h | h <;> omega
  rw [hk]; simp
theorem Kvn {s:K00} {n:Nat} (h:Tab s n) (ty:List Int):Kvi s ty=yN s.fSize true ty:=by
 unfold Kvi yN
 rw [show Kvh s=Kt4 s.fSize true from funext fun c=>Kvm h]
theorem Kvo {α:Type} (x:α) (l:List α):idx (x :: l) 0=some x:=rfl
theorem Kvp {a b:Nat} (ha:a ≤ 1099511627776) (hb:b ≤ 1099511627776):wr ((a:Int) + (b:Int))=((a + b:Nat):Int):=by rw [Kqx (by omega) (by omega)]; omega
theorem Kvq (a:List Bool) (left:Int) (h1:0 ≤ left) (h2:left ≤ 1048576) (ha:a.length ≤ 9223372036854775807):K8m (a,left)=some (szB left a.length):=by
 unfold K8m szB
 simp only
 rw [Kqx (by omega) (by omega)]
 by_cases h:left - (a.length:Int) < 0
 ·rw [decide_eq_true h,if_pos rfl,if_pos h]
 ·rw [decide_eq_false h,if_neg (by decide),if_neg h]
def sln (s:K00):Prop:=s.fPlus.length ≤ 9223372036854775807∧s.fTimes.length ≤ 9223372036854775807∧s.fBelow.length ≤ 9223372036854775807
def sms (s:K00):Nat:=s.fPlus.length + s.fTimes.length + s.fBelow.length
theorem Kvr (s:K00) (left:Int) (hs:sln s) (h1:0 ≤ left) (h2:left ≤ 1048576):K8p (s,left)=some (szB left (sms s)):=by
 obtain ⟨l1,l2,l3⟩:=hs
 unfold K8p sms
 simp only
 rw [Ku6 _ _ h1 h2 l1,bs]
 rcases Ku5 left s.fPlus.length with ⟨e,hl⟩ | ⟨e,hl⟩
 ·rw [e,decide_eq_true (by decide),if_pos rfl]; unfold szB; rw [if_pos (by omega)]
 ·rw [e,decide_eq_false (by omega),if_neg (by decide),Ku6 _ _ (by omega) (by omega) l2,bs]
  rcases Ku5 (left - (s.fPlus.length:Int)) s.fTimes.length with ⟨e2,hl2⟩ | ⟨e2,hl2⟩
  ·rw [e2,decide_eq_true (by decide),if_pos rfl]; unfold szB; rw [if_pos (by omega)]
  ·rw [e2,decide_eq_false (by omega),if_neg (by decide),Kvq _ _ (by omega) (by omega) l3,bs]
   rcases Ku5 (left - (s.fPlus.length:Int) - (s.fTimes.length:Int)) s.fBelow.length with ⟨e3,hl3⟩ | ⟨e3,hl3⟩
   ·rw [e3,decide_eq_true (by decide),if_pos rfl]; unfold szB; rw [if_pos (by omega)]
   ·rw [e3,decide_eq_false (by omega),if_neg (by decide)]; unfold szB; rw [if_neg (by omega)]; congr 1; omega
theorem Kvs {s:K00} (h:sms s ≤ 1048576):K9o s=some s:=by unfold sms at h; exact Krc s (by omega) (by omega) (by omega)
theorem Kvt {s:K00} (h:sms s ≤ 1048576):Kp1 (s,s)=some true:=by unfold sms at h; exact Krd s (by omega) (by omega) (by omega)
theorem Kvu:∀ (l a:List Int) (i k:Nat),a.drop i=l→a.length ≤ 1099511627776→k + l.length ≤ 1152921504606846976 + 1099511627776 →
  ∃ M,Kpn (a,(k:Int),(i:Int))=some (((k + l.length:Nat):Int),M)∧M.length=a.length∧M.take i=a.take i∧M.drop i=(List.range' k l.length).map (fun n:Nat=>(n:Int)):=by
 intro l
 induction l with
 | nil =>
  intro a i k hd ha hk
  rw [Kpn.eq_def]
  simp only
  rw [Kr1 (Ksf hd)]
  exact ⟨a,by simp,rfl,rfl,by rw [hd]; rfl⟩
 | cons x l ih =>
  intro a i k hd ha hk
  obtain ⟨hi,hx,hd'⟩:=Kse hd
  have hl:(x :: l).length ≤ 1099511627776:=by rw [← hd,List.length_drop]; omega
  rw [List.length_cons] at hl hk
  rw [Kpn.eq_def]
  simp only
  rw [Kr0 hi,if_pos rfl,hx,bs,Int.toNat_natCast,Kqz (by omega),Kqz (by omega)]
  obtain ⟨M,h1,h2,h3,h4⟩:=ih (a.set i (k:Int)) (i + 1) (k + 1) (by rw [List.drop_set_of_lt (by omega)]; exact hd') (by simpa using ha) (by omega)
  have hMl:i < M.length:=by rw [h2,List.length_set]; exact hi
  have hMi:M[i]=(k:Int):=by
   have:=congrArg (fun l=>l[i]?) h3
   simp only [List.getElem?_take] at this
   rw [if_pos (by omega),if_pos (by omega),List.getElem?_eq_getElem hMl,List.getElem?_set_self hi] at this
   exact Option.some.inj this
  refine ⟨M,by rw [h1,List.length_cons]; congr 3; omega,by simpa using h2,?_,?_⟩
  ·have:=congrArg (List.take i) h3
   rw [List.take_take,List.take_take,Nat.min_eq_left (by omega),List.take_set_of_le (Nat.le_refl i)] at this
   exact this
  ·rw [List.drop_eq_getElem_cons hMl,h4,hMi,List.length_cons,List.range'_succ,List.map_cons]
theorem Kvv (a:List Int) (k:Nat) (ha:a.length ≤ 1099511627776) (hk:k ≤ 1152921504606846976) :
  Kpq (a,(k:Int))=some (((k + a.length:Nat):Int),(List.range' k a.length).map (fun n:Nat=>(n:Int))):=by
 unfold Kpq
 simp only
 obtain ⟨M,h1,h2,h3,h4⟩:=Kvu a a 0 k rfl ha (by omega)
 rw [List.drop_zero] at h4
 rw [show (0:Int)=((0:Nat):Int) from rfl,h1,bs,h4]
theorem Kvw (m:Nat):∀ (n k i:Nat) (a:List Int),a.length ≤ 1099511627776→a.drop i=(List.range' k n).map (fun n:Nat=>(n:Int))→k + n ≤ 1152921504606846976 + 1099511627776→Kqo (a,(k:Int),(i:Int))=some (.inl ((k + n:Nat):Int)):=by
 intro n
 induction n with
 | zero =>
  intro k i a ha hd hk
  rw [Kqo.eq_def]
  simp only
  rw [Kr1 (Ksf hd)]; rfl
 | succ n ih =>
  intro k i a ha hd hk
  rw [List.range'_succ,List.map_cons] at hd
  obtain ⟨hi,hx,hd'⟩:=Kse hd
  rw [Kqo.eq_def]
  simp only
  rw [Kr0 hi,if_pos rfl,hx,bs,Kr7,if_neg (by decide),Kqz (by omega),Kqz (by omega),ih (k + 1) (i + 1) a ha hd' (by omega)]
  congr 3; omega
theorem Kvx (n k:Nat) (hn:n ≤ 1099511627776) (hk:k ≤ 1152921504606846976):Kqr ((List.range' k n).map (fun n:Nat=>(n:Int)),(k:Int))=some ((k + n:Nat):Int):=by
 unfold Kqr
 simp only
 rw [show (0:Int)=((0:Nat):Int) from rfl,Kvw 0 n k 0 _ (by simpa using hn) (by rw [List.drop_zero]) (by omega),bs]
mutual
def mct:K01→Nat
 | ⟨_,_,ty,ks⟩=>ty.length + Kvy ks
def Kvy:List K01→Nat
 | []=>0
 | k :: ks=>2 + mct k + Kvy ks
end
mutual
theorem Kvz:∀ (t:K01),mct t ≤ 2 * tms t
 | ⟨op,N,ty,ks⟩=>by rw [mct,tms]; have:=Kw0 ks; omega
theorem Kw0:∀ (ks:List K01),Kvy ks ≤ 2 * (ks.length + Kta ks)
 | []=>by simp [Kvy]
 | k :: ks=>by rw [Kvy,Kta,List.length_cons]; have:=Kvz k; have:=Kw0 ks; omega
end
theorem Kw1 {α:Type} (l:List α) (i:Nat) (a b:α):(l.set i a).set i b=l.set i b:=List.set_set ..
theorem Kw2 {α:Type} {l:List α} {i:Nat} (h:i < l.length) (a:α):idx (l.set i a) (i:Int)=some a:=by
 rw [Kqy (by simpa using h)]; simp
mutual
theorem Kw3:∀ (t:K01) (k:Nat),tms t ≤ 1099511627776→k + mct t ≤ 1152921504606846976→∃ ks,Kqd (t.fKids,((k + t.fType.length:Nat):Int))=some (((k + mct t:Nat):Int),ks)
 | ⟨op,N,ty,ks⟩,k,hm,hk=>by
  rw [tms] at hm
  rw [mct] at hk ⊢
  simp only
  obtain ⟨M,h1⟩:=Kw4 ks ks 0 (k + ty.length) rfl (by omega) (by omega) (by omega)
  refine ⟨M,?_⟩
  rw [Kqd.eq_def]
  simp only
  rw [show (0:Int)=((0:Nat):Int) from rfl,h1,bs,Nat.add_assoc]
theorem Kw4:∀ (ks a:List K01) (i k:Nat),a.drop i=ks→a.length ≤ 1099511627776→Kta ks ≤ 1099511627776→k + Kvy ks ≤ 1152921504606846976 →
  ∃ M,Kqe (a,(k:Int),(i:Int))=some (((k + Kvy ks:Nat):Int),M)
 | [],a,i,k,hd,ha,hm,hk=>by
  rw [Kqe.eq_def,Kvy]
  simp only
  rw [Kr1 (Ksf hd)]
  exact ⟨a,rfl⟩
 | x :: ks,a,i,k,hd,ha,hm,hk=>by
  obtain ⟨hi,hx,hd'⟩:=Kse hd
  rw [Kta] at hm
  rw [Kvy] at hk ⊢
  rw [Kqe.eq_def]
  simp only
  rw [Kr0 hi,if_pos rfl,hx,bs,Kqz (n:=k) (by omega),Kqz (n:=k + 1) (by omega),Int.toNat_natCast]
  obtain ⟨kk,m2⟩:=Kw3 x (k + 1 + 1) (by omega) (by omega)
  have m1:=Kvv x.fType (k + 1 + 1) (by have:=Ktb x; omega) (by omega)
  simp only [Kw1,Kw2 hi,bs,m1,m2]
  rw [Kqz (by omega)]
  obtain ⟨M,h1⟩:=Kw4 ks (a.set i ⟨(k:Int),((k + 1:Nat):Int),(List.range' (k + 1 + 1) x.fType.length).map (fun n:Nat=>(n:Int)),kk⟩) (i + 1) (k + 1 + 1 + mct x) (by rw [List.drop_set_of_lt (by omega)]; exact hd') (by simpa using ha) (by omega) (by omega)
  exact ⟨M,by rw [h1]; congr 3; omega⟩
end
theorem Kw5 (t:K01) (k:Nat) (hm:tms t ≤ 1099511627776) (hk:k ≤ 1000000000000000000):∃ M,Kqk (t,(k:Int))=some (((k + mct t:Nat):Int),M):=by
 have hc:=Kvz t
 obtain ⟨ks,m2⟩:=Kw3 t k hm (by omega)
 unfold Kqk
 simp only
 rw [Kvv t.fType k (by have:=Ktb t; omega) (by omega),bs]
 simp only
 rw [m2,bs]
 exact ⟨_,rfl⟩
theorem Kw6 (b:Bool):(!(b == b))=false:=by cases b <;> rfl
def lct:List (List Int)→Nat
 | []=>0
 | x :: l=>x.length + lct l
def lok (l:List (List Int)):Prop:=l.length ≤ 1099511627776∧lct l ≤ 1099511627776
theorem Kw7 {l:List (List Int)} {x:List Int} (h:x ∈ l):x.length ≤ lct l:=by
 induction l with
 | nil=>cases h
 | cons y l ih =>
  rw [lct]
  rcases List.mem_cons.1 h with rfl | h
  ·omega
  ·have:=ih h; omega
theorem Kw8 (a:List (List Int)) (ha:a.length ≤ 1099511627776):∀ (l:List (List Int)) (i:Nat),a.drop i=l→lct l ≤ 1099511627776→Kp5 (a,a,(i:Int))=some (.inl ()):=by
 intro l
 induction l with
 | nil =>
  intro i hd _
  rw [Kp5.eq_def]
  simp only
  rw [Kr1 (Ksf hd)]; rfl
 | cons x l ih =>
  intro i hd hl
  obtain ⟨hi,hx,hd'⟩:=Kse hd
  rw [lct] at hl
  rw [Kp5.eq_def]
  simp only
  rw [Kr0 hi,if_pos rfl,hx,bs,bs,Kr9 x (by omega),bs,if_pos rfl,Kqz (by omega),ih (i + 1) hd' (by omega)]
theorem Kw9 (a:List (List Int)) (h:lok a):Kp8 (a,a)=some true:=by
 unfold Kp8
 simp only
 rw [Kr7,if_neg (by decide),show (0:Int)=((0:Nat):Int) from rfl,Kw8 a h.1 a 0 rfl h.2]; rfl
theorem Kwa:∀ (l a:List (List Int)) (i k:Nat),a.drop i=l→a.length ≤ 1099511627776→lct l ≤ 1099511627776→k + lct l ≤ 1152921504606846976→∃ M,Kq6 (a,(k:Int),(i:Int))=some (((k + lct l:Nat):Int),M):=by
 intro l
 induction l with
 | nil =>
  intro a i k hd ha hl hk
  rw [Kq6.eq_def,lct]
  simp only
  rw [Kr1 (Ksf hd)]
  exact ⟨a,rfl⟩
 | cons x l ih =>
  intro a i k hd ha hl hk
  obtain ⟨hi,hx,hd'⟩:=Kse hd
  rw [lct] at hl hk ⊢
  rw [Kq6.eq_def]
  simp only
  rw [Kr0 hi,if_pos rfl,hx,bs,Kvv x k (by omega) (by omega),bs,Kqz (by omega),Int.toNat_natCast]
  simp only
  obtain ⟨M,h1⟩:=ih (a.set i ((List.range' k x.length).map (fun n:Nat=>(n:Int)))) (i + 1) (k + x.length) (by rw [List.drop_set_of_lt (by omega)]; exact hd') (by simpa using ha) (by omega) (by omega)
  exact ⟨M,by rw [h1]; congr 3; omega⟩
theorem Kwb (a:List (List Int)) (k:Nat) (h:lok a) (hk:k ≤ 1000000000000000000):∃ M,Kq9 (a,(k:Int))=some (((k + lct a:Nat):Int),M):=by
 have:=h.2
 obtain ⟨M,h1⟩:=Kwa a a 0 k rfl h.1 h.2 (by omega)
 refine ⟨M,?_⟩
 unfold Kq9
 simp only
 rw [show (0:Int)=((0:Nat):Int) from rfl,h1,bs]
theorem Kwc {α:Type} (x:α) (l:List α):cut (x :: l) (some 1) none none=some l:=Kva [x] l
theorem Kwd {a:Int}:(a == a)=true:=by simp
structure Kwe (c:Int) (a b:Ty):Prop where
 p0:Keu (c :: (a.code ++ b.code),0)=some a.code
 p1:Keu (c :: (a.code ++ b.code),1)=some b.code
 pp:Kjx (c :: (a.code ++ b.code))=some [a.code,b.code]
 ok:a.ok∧b.ok
 la:a.code.length + b.code.length + 1 ≤ 1048576
theorem Kwf {c:Int} {a b:Ty} (h:(Ty.bin c a b).ok) (hl:(Ty.bin c a b).code.length ≤ 1048576):Kwe c a b:=by
 have hl':=hl
 rw [Ty.code] at hl'
 have h3:=Kvc h hl
 rw [Ty.kids,List.map_cons,List.map_cons,List.map_nil,Ty.code] at h3
 refine ⟨Kvd h.2.1 (by omega),Kve h.2.1 (by omega),h3,h.2,?_⟩
 rw [List.length_cons,List.length_append] at hl'
 omega
structure UnP (c:Int) (a:Ty):Prop where
 p0:Keu (c :: a.code,0)=some a.code
 pp:Kjx (c :: a.code)=some [a.code]
 ok:a.ok
 la:a.code.length + 1 ≤ 1048576
theorem unP {c:Int} {a:Ty} (h:(Ty.un c a).ok) (hl:(Ty.un c a).code.length ≤ 1048576):UnP c a:=by
 have hl':=hl
 rw [Ty.code] at hl'
 have h3:=Kvc h hl
 rw [Ty.kids,List.map_cons,List.map_nil,Ty.code] at h3
 have h4:=Kvd (c:=c) (r:=[]) h.2 (by rw [List.append_nil]; omega)
 rw [List.append_nil] at h4
 refine ⟨h4,h3,h.2,?_⟩
 rw [List.length_cons] at hl'
 omega
theorem Kwg:∀ (l a:List Bool) (i k:Nat),a.drop i=l→a.length ≤ 1099511627776→k + l.length ≤ 1152921504606846976 + 1099511627776→∃ M,Kpu (a,(k:Int),(i:Int))=some (((k + l.length:Nat):Int),M):=by
 intro l
 induction l with
 | nil =>
  intro a i k hd ha hk
  rw [Kpu.eq_def]
  simp only
  rw [Kr1 (Ksf hd)]
  exact ⟨a,rfl⟩
 | cons x l ih =>
  intro a i k hd ha hk
  obtain ⟨hi,hx,hd'⟩:=Kse hd
  have hl:(x :: l).length ≤ 1099511627776:=by rw [← hd,List.length_drop]; omega
  rw [List.length_cons] at hl hk
  rw [Kpu.eq_def]
  simp only
  rw [Kr0 hi,if_pos rfl,hx,bs,Int.toNat_natCast,Kqz (by omega),Kqz (by omega)]
  obtain ⟨M,h1⟩:=ih (a.set i (Int.tmod (k:Int) 3 == 0)) (i + 1) (k + 1) (by rw [List.drop_set_of_lt (by omega)]; exact hd') (by simpa using ha) (by omega)
  exact ⟨M,by rw [h1,List.length_cons]; congr 3; omega⟩
theorem Kwh (s:K00) (k:Nat) (hs:sms s ≤ 1099511627776) (hk:k ≤ 1000000000000000000):∃ M,Kq2 (s,(k:Int))=some (((k + sms s:Nat):Int),M):=by
 unfold sms at hs ⊢
 unfold Kq2
 simp only
 rw [Kvv s.fPlus k (by omega) (by omega),bs]
 simp only
 rw [Kvv s.fTimes _ (by omega) (by omega),bs]
 simp only
 obtain ⟨M,h⟩:=Kwg s.fBelow s.fBelow 0 (k + s.fPlus.length + s.fTimes.length) rfl (by omega) (by omega)
 unfold Kpx
 simp only
 rw [show (0:Int)=((0:Nat):Int) from rfl,h,bs,bs]
 exact ⟨_,by congr 3; omega⟩
theorem Kwi {p:Prop} [Decidable p] (h:p):chk p=some ():=by unfold chk; rw [if_pos h]
def inG (b:List Bool) (a:Nat):Bool:=b.getD a false
def vwC (s:K00) (n:Nat) (b:List Bool) (x y:Nat):Bool :=
 (inG b (pl s n x y) == (inG b x || inG b y)) && (inG b (ti s n x y) == (inG b x && inG b y)) && !(inG b x && le s n x y && !inG b y)
def vwI (s:K00) (n:Nat) (b:List Bool):Bool:=!inG b 0 && inG b 1 && (List.range' 0 n).all fun x=>(List.range' 0 n).all fun y=>vwC s n b x y
theorem Kwj {b:List Bool} {n a:Nat} (hb:b.length=n) (ha:a < n):idx b (a:Int)=some (inG b a):=by
 rw [Kqy (by omega)]; unfold inG; rw [List.getD_eq_getElem?_getD,List.getElem?_eq_getElem (by omega)]; rfl
def Kwk (n:Nat):Option Int→List Int→Bool
 | _,[]=>true
 | p,g :: l=>inB g 0 ((n:Int) - 1) && (match p with | none=>true | some q=>!decide (g ≤ q)) && Kwk n (some g) l
theorem Kwl (n:Nat) (p:Option Int) (g:Int) (l:List Int):Kwk n p (g :: l)=(inB g 0 ((n:Int) - 1) && (match p with | none=>true | some q=>!decide (g ≤ q)) && Kwk n (some g) l):=by
 cases p <;> rfl
def vIn:List Int→List Bool→List Bool
 | [],b=>b
 | g :: l,b=>vIn l (b.set g.toNat true)
theorem Kwm (l:List Int):∀ b,(vIn l b).length=b.length:=by
 induction l with
 | nil=>intro b; rfl
 | cons g l ih=>intro b; rw [vIn,ih,List.length_set]
section
variable {s:K00} {n:Nat} (h:Tab s n)
include h
theorem Kwn {b:List Bool} (hb:b.length=n) {x:Nat} (hx:x < n):∀ (k y:Nat),y + k=n→Kfz (s,b,(x:Int),(y:Int))=some (if (List.range' y k).all (fun y=>vwC s n b x y) then .inl () else .inr false):=by
 have hhi:=h.hi
 intro k
 induction k with
 | zero =>
  intro y hm
  rw [Kfz.eq_def]
  simp only
  rw [h.size,Kr1 (by omega)]
  rfl
 | succ k ih =>
  intro y hm
  have hy:y < n:=by omega
  have ih:=ih (y + 1) (by omega)
  rw [Kfz.eq_def]
  simp only
  rw [h.size,Kr0 (by omega),if_pos rfl,Kqz (by omega),List.range'_succ,List.all_cons,ih]
  refine (Kt8 (x:=!vwC s n b x y) ?_).trans ?_
  ·rw [Krl h hx hy]
   simp only [bs]
   rw [Kwj hb (Krg h hx hy),Kwj hb hx,Kwj hb hy]
   simp only [bs,Krm h hx hy,sLe h hx hy]
   rw [Kwj hb (Krh h hx hy)]
   simp only [bs]
   unfold vwC
   generalize inG b (pl s n x y)=p
   generalize inG b (ti s n x y)=q
   generalize inG b x=u
   generalize inG b y=v
   generalize le s n x y=w
   cases u <;> cases v <;> cases p <;> cases q <;> cases w <;> rfl
  ·cases vwC s n b x y <;> rfl
theorem Kwo {b:List Bool} (hb:b.length=n):∀ (k x:Nat),x + k=n→Kg4 (s,b,(x:Int))=some (if (List.range' x k).all (fun x=>(List.range' 0 n).all fun y=>vwC s n b x y) then .inl () else .inr false):=by
 have hhi:=h.hi
 intro k
 induction k with
 | zero =>
  intro x hm
  rw [Kg4.eq_def]
  simp only
  rw [h.size,Kr1 (by omega)]
  rfl
 | succ k ih =>
  intro x hm
  have ih:=ih (x + 1) (by omega)
  have hl:=Kwn h hb (x:=x) (by omega) n 0 (by omega)
  rw [show ((0:Nat):Int)=0 from rfl] at hl
  rw [Kg4.eq_def]
  simp only
  rw [h.size,Kr0 (by omega),if_pos rfl,Kqz (by omega),List.range'_succ,List.all_cons,hl,bs,ih]
  cases (List.range' 0 n).all (fun y=>vwC s n b x y) <;> rfl
theorem Kwp {b:List Bool} (hb:b.length=n):Kg7 (s,b)=some (vwI s n b):=by
 have hlo:=h.lo
 unfold Kg7 vwI
 simp only
 have hl:=Kwo h hb n 0 (by omega)
 rw [show ((0:Nat):Int)=0 from rfl] at hl
 have h0:=Kwj hb (a:=0) (by omega)
 have h1:=Kwj hb (a:=1) (by omega)
 rw [show ((0:Nat):Int)=0 from rfl] at h0
 rw [show ((1:Nat):Int)=1 from rfl] at h1
 rw [h0,h1,hl]
 cases inG b 0 <;> cases inG b 1 <;> cases (List.range' 0 n).all (fun x=>(List.range' 0 n).all fun y=>vwC s n b x y) <;> rfl
theorem Kwq (v:List Int) (hv:v.length ≤ 1099511627776):∀ (l:List Int) (i:Nat) (b:List Bool),v.drop i=l→b.length=n →
  Kgb (s,v,b,(i:Int))=some (if Kwk n (if i=0 then none else v[i - 1]?) l then .inl (vIn l b) else .inr false):=by
 have hhi:=h.hi
 intro l
 induction l with
 | nil =>
  intro i b hd hb
  rw [Kgb.eq_def]
  simp only
  rw [Kr1 (Ksf hd)]; simp [Kwk,vIn]
 | cons g l ih =>
  intro i b hd hb
  obtain ⟨hi,hx,hd'⟩:=Kse hd
  have hg:v[i]?=some g:=by rw [Kqy hi] at hx; rw [List.getElem?_eq_getElem hi]; exact hx
  rw [Kgb.eq_def]
  simp only
  rw [Kr0 hi,if_pos rfl,hx]
  simp only [bs]
  refine (Kt8 (x:=!(inB g 0 ((n:Int) - 1) && (match (if i=0 then none else v[i - 1]?) with | none=>true | some q=>!decide (g ≤ q)))) ?_).trans ?_
  ·rw [Kuz h,sIn,bs]
   cases inB g 0 ((n:Int) - 1)
   ·rfl
   ·by_cases h0:i=0
    ·subst h0; rfl
    ·have hp:i - 1 < v.length:=by omega
     rw [if_pos rfl,decide_eq_true (by omega:(i:Int) > 0),if_pos rfl,Kqx (by omega) (by omega),show (i:Int) - 1=((i - 1:Nat):Int) by omega,Kqy hp,bs,if_neg h0,List.getElem?_eq_getElem hp]
     simp
  ·rw [Kwl]
   cases hc:(inB g 0 ((n:Int) - 1) && (match (if i=0 then none else v[i - 1]?) with | none=>true | some q=>!decide (g ≤ q)))
   ·rfl
   ·rw [Bool.and_eq_true] at hc
    obtain ⟨e1,l1⟩:=Kuy hc.1
    rw [Bool.not_true,if_neg (by decide),Bool.true_and]
    have hidx:idx b g=some (inG b g.toNat):=by rw [e1,Kwj hb l1,Int.toNat_natCast]
    simp only [bs,hidx]
    rw [Kqz (by omega),ih (i + 1) _ hd' (by simpa using hb),if_neg (by omega:¬ i + 1=0),Nat.add_sub_cancel,hg,vIn]
end
theorem Kwr (s:K00) (v:List Int) (hv:v.length ≤ 1099511627776):Kge (s,v)=some (Kuu s && Kwk s.fSize.toNat none v && vwI s s.fSize.toNat (vIn v (List.replicate s.fSize.toNat false))):=by
 unfold Kge
 simp only
 rw [Kuw,bs]
 cases hs:Kuu s
 ·rfl
 ·have T:=Kuv hs
  have hsz:=T.size
  have hhi:=T.hi
  rw [if_pos rfl,Kwi (by omega),bs]
  have hl:=Kwq T v hv v 0 (List.replicate s.fSize.toNat false) rfl (by simp)
  rw [show ((0:Nat):Int)=0 from rfl,if_pos rfl] at hl
  rw [hl,bs]
  cases Kwk s.fSize.toNat none v
  ·rfl
  ·simp only [if_true]
   rw [Kwp T (by rw [Kwm]; simp),bs]; rfl
section
variable {s:K00} {n:Nat} (h:Tab s n)
include h
theorem Kws {b:List Bool} (hb:b.length=n) {x:Nat} (hx:x < n):∀ (k y:Nat),y + k=n→Knn (s,b,(x:Int),(y:Int))=some (if (List.range' y k).all (fun y=>vwC s n b x y) then .inl () else .inr false):=by
 have hhi:=h.hi
 intro k
 induction k with
 | zero =>
  intro y hm
  rw [Knn.eq_def]
  simp only
  rw [h.size,Kr1 (by omega)]
  rfl
 | succ k ih =>
  intro y hm
  have hy:y < n:=by omega
  have ih:=ih (y + 1) (by omega)
  rw [Knn.eq_def]
  simp only
  rw [h.size,Kr0 (by omega),if_pos rfl,Kqz (by omega),List.range'_succ,List.all_cons,ih]
  refine (Kt8 (x:=!vwC s n b x y) ?_).trans ?_
  ·rw [Krn h hx hy]
   simp only [bs]
   rw [Kwj hb (Krg h hx hy),Kwj hb hx,Kwj hb hy]
   simp only [bs,Kro h hx hy,iLe h hx hy]
   rw [Kwj hb (Krh h hx hy)]
   simp only [bs]
   unfold vwC
   generalize inG b (pl s n x y)=p
   generalize inG b (ti s n x y)=q
   generalize inG b x=u
   generalize inG b y=v
   generalize le s n x y=w
   cases u <;> cases v <;> cases p <;> cases q <;> cases w <;> rfl
  ·cases vwC s n b x y <;> rfl
theorem Kwt {b:List Bool} (hb:b.length=n):∀ (k x:Nat),x + k=n→Knt (s,b,(x:Int))=some (if (List.range' x k).all (fun x=>(List.range' 0 n).all fun y=>vwC s n b x y) then .inl () else .inr false):=by
 have hhi:=h.hi
 intro k
 induction k with
 | zero =>
  intro x hm
  rw [Knt.eq_def]
  simp only
  rw [h.size,Kr1 (by omega)]
  rfl
 | succ k ih =>
  intro x hm
  have ih:=ih (x + 1) (by omega)
  have hl:=Kws h hb (x:=x) (by omega) n 0 (by omega)
  rw [show ((0:Nat):Int)=0 from rfl] at hl
  rw [Knt.eq_def]
  simp only
  rw [h.size,Kr0 (by omega),if_pos rfl,Kqz (by omega),List.range'_succ,List.all_cons,hl,bs,ih]
  cases (List.range' 0 n).all (fun y=>vwC s n b x y) <;> rfl
theorem Kwu {b:List Bool} (hb:b.length=n):Knw (s,b)=some (vwI s n b):=by
 have hlo:=h.lo
 unfold Knw vwI
 simp only
 have hl:=Kwt h hb n 0 (by omega)
 rw [show ((0:Nat):Int)=0 from rfl] at hl
 have h0:=Kwj hb (a:=0) (by omega)
 have h1:=Kwj hb (a:=1) (by omega)
 rw [show ((0:Nat):Int)=0 from rfl] at h0
 rw [show ((1:Nat):Int)=1 from rfl] at h1
 rw [h0,h1,hl]
 cases inG b 0 <;> cases inG b 1 <;> cases (List.range' 0 n).all (fun x=>(List.range' 0 n).all fun y=>vwC s n b x y) <;> rfl
theorem Kwv (v:List Int) (hv:v.length ≤ 1099511627776):∀ (l:List Int) (i:Nat) (b:List Bool),v.drop i=l→b.length=n →
  Ko0 (s,v,b,(i:Int))=some (if Kwk n (if i=0 then none else v[i - 1]?) l then .inl (vIn l b) else .inr false):=by
 have hhi:=h.hi
 intro l
 induction l with
 | nil =>
  intro i b hd hb
  rw [Ko0.eq_def]
  simp only
  rw [Kr1 (Ksf hd)]; simp [Kwk,vIn]
 | cons g l ih =>
  intro i b hd hb
  obtain ⟨hi,hx,hd'⟩:=Kse hd
  have hg:v[i]?=some g:=by rw [Kqy hi] at hx; rw [List.getElem?_eq_getElem hi]; exact hx
  rw [Ko0.eq_def]
  simp only
  rw [Kr0 hi,if_pos rfl,hx]
  simp only [bs]
  refine (Kt8 (x:=!(inB g 0 ((n:Int) - 1) && (match (if i=0 then none else v[i - 1]?) with | none=>true | some q=>!decide (g ≤ q)))) ?_).trans ?_
  ·rw [Kvg,Kvl h,bs]
   cases inB g 0 ((n:Int) - 1)
   ·rfl
   ·by_cases h0:i=0
    ·subst h0; rfl
    ·have hp:i - 1 < v.length:=by omega
     rw [if_pos rfl,decide_eq_true (by omega:(i:Int) > 0),if_pos rfl,Kqx (by omega) (by omega),show (i:Int) - 1=((i - 1:Nat):Int) by omega,Kqy hp,bs,if_neg h0,List.getElem?_eq_getElem hp]
     simp
  ·rw [Kwl]
   cases hc:(inB g 0 ((n:Int) - 1) && (match (if i=0 then none else v[i - 1]?) with | none=>true | some q=>!decide (g ≤ q)))
   ·rfl
   ·rw [Bool.and_eq_true] at hc
    obtain ⟨e1,l1⟩:=Kuy hc.1
    rw [Bool.not_true,if_neg (by decide),Bool.true_and]
    have hidx:idx b g=some (inG b g.toNat):=by rw [e1,Kwj hb l1,Int.toNat_natCast]
    rw [hidx,bs]
    rw [Kqz (by omega),ih (i + 1) _ hd' (by simpa using hb),if_neg (by omega:¬ i + 1=0),Nat.add_sub_cancel,hg,vIn]
end
theorem Kww (s:K00) (v:List Int) (hv:v.length ≤ 1099511627776):Ko3 (s,v)=some (Kuu s && Kwk s.fSize.toNat none v && vwI s s.fSize.toNat (vIn v (List.replicate s.fSize.toNat false))):=by
 unfold Ko3
 simp only
 rw [Kux,bs]
 cases hs:Kuu s
 ·rfl
 ·have T:=Kuv hs
  have hsz:=T.size
  have hhi:=T.hi
  rw [if_pos rfl,Kwi (by omega),bs]
  have hl:=Kwv T v hv v 0 (List.replicate s.fSize.toNat false) rfl (by simp)
  rw [show ((0:Nat):Int)=0 from rfl,if_pos rfl] at hl
  rw [hl,bs]
  cases Kwk s.fSize.toNat none v
  ·rfl
  ·simp only [if_true]
   rw [Kwu T (by rw [Kwm]; simp),bs]; rfl
def vwB (s:K00) (v:List Int):Bool:=Kuu s && Kwk s.fSize.toNat none v && vwI s s.fSize.toNat (vIn v (List.replicate s.fSize.toNat false))
theorem sVw (s:K00) (v:List Int) (hv:v.length ≤ 1099511627776):Kge (s,v)=some (vwB s v):=Kwr s v hv
theorem iVw (s:K00) (v:List Int) (hv:v.length ≤ 1099511627776):Ko3 (s,v)=some (vwB s v):=Kww s v hv
theorem Kwx (l:List Int) (n:Int) (hl:l.length ≤ 1099511627776):∀ (m:List Int) (i:Nat),l.drop i=m→Kgi (l,n,(i:Int))=some (if m.contains n then .inr true else .inl ()):=by
 intro m
 induction m with
 | nil =>
  intro i hd
  rw [Kgi.eq_def]
  simp only
  rw [Kr1 (Ksf hd)]; rfl
 | cons x m ih =>
  intro i hd
  obtain ⟨hi,hx,hd'⟩:=Kse hd
  rw [Kgi.eq_def]
  simp only
  rw [Kr0 hi,if_pos rfl,hx,bs,Kqz (by omega),ih (i + 1) hd',List.contains_cons,show (n == x)=(x == n) from by rw [Bool.eq_iff_iff]; simp; exact eq_comm]
  cases x == n <;> simp
theorem Kwy (l:List Int) (n:Int) (hl:l.length ≤ 1099511627776):Kgl (l,n)=some (l.contains n):=by
 unfold Kgl
 simp only
 rw [show (0:Int)=((0:Nat):Int) from rfl,Kwx l n hl l 0 rfl,bs]
 cases l.contains n <;> rfl
theorem Kwz (l:List Int) (n:Int) (hl:l.length ≤ 1099511627776):∀ (m:List Int) (i:Nat),l.drop i=m→∃ r,Ko7 (l,n,(i:Int))=some r∧(match r with | .inl _=>m.contains n=false | .inr k=>m.contains n=true∧0 ≤ k):=by
 intro m
 induction m with
 | nil =>
  intro i hd
  rw [Ko7.eq_def]
  simp only
  rw [Kr1 (Ksf hd)]
  exact ⟨_,rfl,rfl⟩
 | cons x m ih =>
  intro i hd
  obtain ⟨hi,hx,hd'⟩:=Kse hd
  rw [Ko7.eq_def]
  simp only
  rw [Kr0 hi,if_pos rfl,hx,bs,Kqz (by omega),List.contains_cons]
  cases n == x
  ·obtain ⟨r,h1,h2⟩:=ih (i + 1) hd'
   exact ⟨r,by rw [if_neg (by decide)]; exact h1,by simpa using h2⟩
  ·exact ⟨.inr (i:Int),rfl,by simp⟩
theorem Kx0 (l:List Int) (n:Int) (hl:l.length ≤ 1099511627776):Kod (l,n)=some (l.contains n):=by
 unfold Kod Koa
 simp only
 obtain ⟨r,h1,h2⟩:=Kwz l n hl l 0 rfl
 rw [show (0:Int)=((0:Nat):Int) from rfl,h1,bs]
 cases r with
 | inl u=>simp only at h2; rw [h2]; rfl
 | inr m=>simp only at h2; rw [h2.1]; simp [bs,h2.2]
theorem Kx1 (x y:Int) (l r:List Int):(x :: l == y :: r)=(x == y && l == r):=rfl
theorem Kx2 (a b:List Int) (ha:a.length ≤ 1099511627776) (hab:a.length=b.length):∀ (l r:List Int) (i:Nat),a.drop i=l→b.drop i=r→Key (a,b,(i:Int))=some (if l == r then .inl () else .inr false):=by
 intro l
 induction l with
 | nil =>
  intro r i h1 h2
  have hi:=Ksf h1
  rw [Key.eq_def]
  simp only
  rw [Kr1 hi]
  have:r=[]:=by rw [← h2]; exact List.drop_eq_nil_of_le (by omega)
  subst this; rfl
 | cons x l ih =>
  intro r i h1 h2
  obtain ⟨hi,hx,hd⟩:=Kse h1
  cases r with
  | nil=>have:=Ksf h2; omega
  | cons y r =>
   obtain ⟨_,hy,hd2⟩:=Kse h2
   rw [Key.eq_def]
   simp only
   rw [Kr0 hi,if_pos rfl,hx,hy,bs,bs,Kqz (by omega),ih r (i + 1) hd hd2,Kx1]
   by_cases e:x=y
   ·subst e; simp
   ·rw [bne_iff_ne.2 e,if_pos rfl,beq_eq_false_iff_ne.2 e]; rfl
theorem Kx3 (a b:List Int) (hb:b.length ≤ 1099511627776):Kf1 (a,b)=some (a == b):=by
 unfold Kf1
 simp only
 by_cases h:a.length=b.length
 ·rw [h,Kr7,if_neg (by decide)]
  have:=Kx2 a b (by omega) h a b 0 rfl rfl
  rw [show ((0:Nat):Int)=0 from rfl] at this
  rw [this]
  cases a == b <;> rfl
 ·rw [bne_iff_ne.2 (by omega),if_pos rfl]
  have:a ≠ b:=fun e=>h (by rw [e])
  rw [beq_eq_false_iff_ne.2 this]
theorem Kx4 (a b:List Int) (ha:a.length ≤ 1099511627776) (hab:a.length=b.length):∀ (l r:List Int) (i:Nat),a.drop i=l→b.drop i=r→Kkm (a,b,(i:Int))=some (if l == r then .inl () else .inr false):=by
 intro l
 induction l with
 | nil =>
  intro r i h1 h2
  have hi:=Ksf h1
  rw [Kkm.eq_def]
  simp only
  rw [Kr1 hi]
  have:r=[]:=by rw [← h2]; exact List.drop_eq_nil_of_le (by omega)
  subst this; rfl
 | cons x l ih =>
  intro r i h1 h2
  obtain ⟨hi,hx,hd⟩:=Kse h1
  cases r with
  | nil=>have:=Ksf h2; omega
  | cons y r =>
   obtain ⟨_,hy,hd2⟩:=Kse h2
   rw [Kkm.eq_def]
   simp only
   rw [Kr0 hi,if_pos rfl,hx,hy,bs,bs,Kqz (by omega),ih r (i + 1) hd hd2,Kx1]
   by_cases e:x=y
   ·subst e; simp
   ·rw [bne_iff_ne.2 e,if_pos rfl,beq_eq_false_iff_ne.2 e]; rfl
theorem Kx5 (a b:List Int) (hb:b.length ≤ 1099511627776):Kkp (a,b)=some (a == b):=by
 unfold Kkp
 simp only
 by_cases h:a.length=b.length
 ·rw [h,Kr7,if_neg (by decide)]
  have:=Kx4 a b (by omega) h a b 0 rfl rfl
  rw [show ((0:Nat):Int)=0 from rfl] at this
  rw [this]
  cases a == b <;> rfl
 ·rw [bne_iff_ne.2 (by omega),if_pos rfl]
  have:a ≠ b:=fun e=>h (by rw [e])
  rw [beq_eq_false_iff_ne.2 this]
theorem Kx6 (g:Int→Bool) (y:List Int→Bool) (op:Int) (n i:Nat) (k:K01) (ks:List K01):Ktz g y op n i (k :: ks)=(tOk g y (n + Kts op i) k && Ktz g y op n (i + 1) ks):=by rw [Ktz]
theorem Kx7 {l:List K01} (h:((l.length:Int) == 1)=true):∃ k,l=[k]:=by
 rw [beq_iff_eq] at h; match l,h with | [k],_=>exact ⟨k,rfl⟩ | [],h=>exact absurd h (by simp) | _ :: _ :: _,h=>exact absurd h (by simp only [List.length_cons]; omega)
theorem Kx8 {l:List K01} (h:((l.length:Int) == 2)=true):∃ k m,l=[k,m]:=by
 rw [beq_iff_eq] at h; match l,h with | [k,m],_=>exact ⟨k,m,rfl⟩ | [],h=>exact absurd h (by simp) | [_],h=>exact absurd h (by simp) | _ :: _ :: _ :: _,h=>exact absurd h (by simp only [List.length_cons]; omega)
def Kx9 (s:K00) (t:K01) (n:Nat):Bool:=Kuu s && decide (tsz t ≤ 400) && tOk (gN s.fSize true) (yN s.fSize true) n t
theorem Kxa (s:K00) (t:K01) (n:Nat) (hn:n ≤ 8) (ht:tms t ≤ 1099511627776):Kdv (s,t,(n:Int))=some (Kx9 s t n):=by
 unfold Kdv Kx9
 simp only
 rw [Kuw,bs]
 cases Kuu s
 ·rfl
 ·rw [if_pos rfl,sIn,bs]
  have:inB (n:Int) 0 8=true:=by unfold inB; rw [decide_eq_true (by omega),decide_eq_true (by omega)]; rfl
  have hl:=Ktg t 400 ht (by decide)
  rw [show ((400:Nat):Int)=400 from rfl] at hl
  rw [this,if_pos rfl,hl,bs]
  by_cases h:tsz t ≤ 400
  ·rw [Ktd h,decide_eq_true (by omega),decide_eq_true h,if_pos rfl,Ku2 _ _ t n ht (by omega)]
   cases tOk (gN s.fSize true) (yN s.fSize true) n t <;> rfl
  ·rw [Kte h,decide_eq_false h]; rfl
theorem Kxb (op N:Int) (ty:List Int) (a:K01):tsz ⟨op,N,ty,[a]⟩=1 + tsz a:=by simp [tsz,Kt9]
theorem Kxc (op N:Int) (ty:List Int) (a b:K01):tsz ⟨op,N,ty,[a,b]⟩=1 + (tsz a + tsz b):=by simp [tsz,Kt9]
theorem Kxd (op N:Int) (ty:List Int) (a b c:K01):tsz ⟨op,N,ty,[a,b,c]⟩=1 + (tsz a + (tsz b + tsz c)):=by simp [tsz,Kt9]
theorem Kxe {l:List K01} (h:(l.length:Int)=3):∃ a b c,l=[a,b,c]:=by
 match l,h with | [a,b,c],_=>exact ⟨a,b,c,rfl⟩ | [],h=>exact absurd h (by simp) | [_],h=>exact absurd h (by simp) | [_,_],h=>exact absurd h (by simp) | _ :: _ :: _ :: _ :: _,h=>exact absurd h (by simp only [List.length_cons]; omega)
def lms (l:List (List Int)):Nat:=l.length + lct l
theorem Kxf {l:List (List Int)} (h:lms l ≤ 1099511627776):lok l:=by unfold lms at h; exact ⟨by omega,by omega⟩
def lln (l:List (List Int)):Prop:=l.length ≤ 9223372036854775807∧∀ v ∈ l,v.length ≤ 9223372036854775807
theorem Kxg:∀ (l a:List (List Int)) (i left:Nat),a.drop i=l→a.length ≤ 9223372036854775807→(∀ v ∈ l,v.length ≤ 9223372036854775807)→left ≤ 1048576→K8t (a,(left:Int),(i:Int))=some (if left < lct l then .inr (-1) else .inl ((left - lct l:Nat):Int)):=by
 intro l
 induction l with
 | nil =>
  intro a i left hd ha hl h
  rw [K8t.eq_def,lct]
  simp only
  rw [Kr1 (Ksf hd)]; simp
 | cons x l ih =>
  intro a i left hd ha hl h
  obtain ⟨hi,hx,hd'⟩:=Kse hd
  rw [K8t.eq_def,lct]
  simp only
  rw [Kr0 hi,if_pos rfl,hx,bs,Ku6 x left (by omega) (by omega) (hl x List.mem_cons_self),bs,Kqz (by omega)]
  rcases Ku5 left x.length with ⟨e,q⟩ | ⟨e,q⟩
  ·rw [e,decide_eq_true (by decide),if_pos rfl,if_pos (by omega)]
  ·rw [e,decide_eq_false (by omega),if_neg (by decide),show (left:Int) - (x.length:Int)=((left - x.length:Nat):Int) by omega,ih a (i + 1) (left - x.length) hd' ha (fun v hv=>hl v (List.mem_cons_of_mem _ hv)) (by omega)]
   by_cases q2:left - x.length < lct l
   ·rw [if_pos q2,if_pos (by omega)]
   ·rw [if_neg q2,if_neg (by omega)]; congr 3; omega
theorem Kxh (a:List (List Int)) (left:Int) (ha:lln a) (h1:0 ≤ left) (h2:left ≤ 1048576):K8w (a,left)=some (szB left (lms a)):=by
 have hl:=ha.1
 unfold K8w lms
 simp only
 rw [Kqx (by omega) (by omega)]
 by_cases h3:left - (a.length:Int) < 0
 ·rw [decide_eq_true h3,if_pos rfl]; unfold szB; rw [if_pos (by omega)]
 ·obtain ⟨m,hm⟩:∃ m:Nat,left - (a.length:Int)=(m:Int):=⟨(left - (a.length:Int)).toNat,by omega⟩
  have h:=Kxg a a 0 m rfl hl ha.2 (by omega)
  rw [show ((0:Nat):Int)=0 from rfl] at h
  rw [decide_eq_false h3,if_neg (by decide),hm,h,bs]
  unfold szB
  by_cases q:m < lct a
  ·rw [if_pos q,if_pos (by omega)]
  ·rw [if_neg q,if_neg (by omega)]; simp only; congr 1; omega
theorem Kxi:∀ (l a out:List (List Int)) (i:Nat),a.drop i=l→a.length ≤ 1099511627776→lct l ≤ 1099511627776→out.length=a.length→out.take i=a.take i→K9s (a,out,(i:Int))=some a:=by
 intro l
 induction l with
 | nil =>
  intro a out i hd ha hl ho ht
  rw [K9s.eq_def]
  simp only
  have hle:=Ksf hd
  rw [Kr1 hle]
  rw [List.take_of_length_le (by omega),List.take_of_length_le (by omega)] at ht
  simp [ht]
 | cons x l ih =>
  intro a out i hd ha hl ho ht
  obtain ⟨hi,hx,hd'⟩:=Kse hd
  have hk:a[i]=x:=by rw [Kqy hi] at hx; exact Option.some.inj hx
  rw [lct] at hl
  rw [K9s.eq_def]
  simp only
  rw [Kr0 hi,if_pos rfl,hx,bs,Kr4 x (by omega),bs,Kqy (by omega),bs,Kqz (by omega),Int.toNat_natCast]
  exact ih a _ (i + 1) hd' ha (by omega) (by simpa using ho) (by rw [← hk]; exact Kr2 ho hi ht)
theorem Kxj (a:List (List Int)) (h:lms a ≤ 1099511627776):K9v a=some a:=by
 unfold lms at h
 unfold K9v
 have:chk (0 ≤ (a.length:Int)∧(Int.toNat (a.length:Int)) * 24 ≤ 140737488355328)=some ():=by
  unfold chk; rw [if_pos]; refine ⟨by omega,?_⟩; rw [Int.toNat_natCast]; omega
 have h0:=Kxi a a (List.replicate a.length []) 0 rfl (by omega) (by omega) (by simp) rfl
 rw [show ((0:Nat):Int)=0 from rfl] at h0
 rw [this,bs,Int.toNat_natCast,h0,bs]
end Go.Am
