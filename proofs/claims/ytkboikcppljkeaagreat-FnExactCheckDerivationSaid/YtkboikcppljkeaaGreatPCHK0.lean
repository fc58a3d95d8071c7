/- Plain laws of the printed functions. -/
import Derived.Test.YtkboikcppljkeaaGreatGCHKF15
set_option linter.unusedSimpArgs false
set_option linter.unusedVariables false
namespace Go.Am
theorem Kqb {x:Int} (h1:-9223372036854775808 ≤ x) (h2:x ≤ 9223372036854775807):wr x=x:=by
 unfold wr IntKind.wrap
 simp [IntKind.bits,IntKind.signed]
 omega
theorem Kqc {α:Type} {l:List α} {n:Nat} (h:n < l.length):idx l (n:Int)=some l[n]:=by
 unfold idx
 rw [if_pos (by omega)]
 simp [h]
theorem bs {α β:Type} (a:α) (f:α→Option β):(some a >>= f)=f a:=rfl
theorem Kqd {n:Nat} (h:n < 9223372036854775807):wr ((n:Int) + 1)=((n + 1:Nat):Int):=by
 rw [Kqb (by omega) (by omega)]; omega
theorem Kqe {n m:Nat} (h:n < m):decide ((n:Int) < (m:Int))=true:=decide_eq_true (by omega)
theorem Kqf {n m:Nat} (h:m ≤ n):decide ((n:Int) < (m:Int))=false:=decide_eq_false (by omega)
theorem Kqg {α:Type} {l a:List α} {n:Nat} (hl:l.length=a.length) (hn:n < a.length) (h:l.take n=a.take n):(l.set n a[n]).take (n + 1)=a.take (n + 1):=by
 apply List.ext_getElem?
 intro i
 rw [List.getElem?_take,List.getElem?_take]
 by_cases hi:i < n + 1
 ·rw [if_pos hi,if_pos hi,List.getElem?_set]
  by_cases e:n=i
  ·subst e
   rw [if_pos rfl,if_pos (by omega),List.getElem?_eq_getElem hn]
  ·rw [if_neg e]
   have:=congrArg (fun l=>l[i]?) h
   simp only [List.getElem?_take] at this
   rw [if_pos (by omega),if_pos (by omega)] at this
   exact this
 ·rw [if_neg hi,if_neg hi]
theorem Kqh (a:List Int) (ha:a.length ≤ 1099511627776):∀ (k n:Nat) (out:List Int),n + k=a.length→out.length=a.length→out.take n=a.take n→K9g (a,out,(n:Int))=some a:=by
 intro k
 induction k with
 | zero =>
  intro n out hn hl ht
  rw [K9g.eq_def]
  simp only
  rw [Kqf (by omega)]
  have h1:out.take n=out:=List.take_of_length_le (by omega)
  have h2:a.take n=a:=List.take_of_length_le (by omega)
  rw [h1,h2] at ht
  simp [ht]
 | succ k ih =>
  intro n out hn hl ht
  rw [K9g.eq_def]
  simp only
  rw [Kqe (by omega),if_pos rfl,Kqc (by omega),bs,Kqc (by omega),bs,Kqd (by omega),Int.toNat_natCast]
  exact ih (n + 1) _ (by omega) (by simpa using hl) (Kqg hl (by omega) ht)
theorem Kqi (a:List Int) (ha:a.length ≤ 1099511627776):K9j a=some a:=by
 unfold K9j
 have:chk (0 ≤ (a.length:Int)∧(Int.toNat (a.length:Int)) * 8 ≤ 140737488355328)=some ():=by
  unfold chk; rw [if_pos]; refine ⟨by omega,?_⟩; rw [Int.toNat_natCast]; omega
 rw [this,bs,Int.toNat_natCast]
 have:=Kqh a ha a.length 0 (List.replicate a.length 0) (by omega) (by simp) rfl
 rw [show ((0:Nat):Int)=0 from rfl] at this
 rw [this,bs]
theorem Kqj (a:List Bool) (ha:a.length ≤ 1099511627776):∀ (k n:Nat) (out:List Bool),n + k=a.length→out.length=a.length→out.take n=a.take n→K9n (a,out,(n:Int))=some a:=by
 intro k
 induction k with
 | zero =>
  intro n out hn hl ht
  rw [K9n.eq_def]
  simp only
  rw [Kqf (by omega)]
  have h1:out.take n=out:=List.take_of_length_le (by omega)
  have h2:a.take n=a:=List.take_of_length_le (by omega)
  rw [h1,h2] at ht
  simp [ht]
 | succ k ih =>
  intro n out hn hl ht
  rw [K9n.eq_def]
  simp only
  rw [Kqe (by omega),if_pos rfl,Kqc (by omega),bs,Kqc (by omega),bs,Kqd (by omega),Int.toNat_natCast]
  exact ih (n + 1) _ (by omega) (by simpa using hl) (Kqg hl (by omega) ht)
theorem Kqk (a:List Bool) (ha:a.length ≤ 1099511627776):K9q a=some a:=by
 unfold K9q
 have:chk (0 ≤ (a.length:Int)∧(Int.toNat (a.length:Int)) * 1 ≤ 140737488355328)=some ():=by
  unfold chk; rw [if_pos]; refine ⟨by omega,?_⟩; rw [Int.toNat_natCast]; omega
 rw [this,bs,Int.toNat_natCast]
 have:=Kqj a ha a.length 0 (List.replicate a.length false) (by omega) (by simp) rfl
 rw [show ((0:Nat):Int)=0 from rfl] at this
 rw [this,bs]
theorem Kql {a:Int}:(a != a)=false:=by simp
theorem Kqm (a:List Int) (ha:a.length ≤ 1099511627776):∀ (k n:Nat),n + k=a.length→Kp0 (a,a,(n:Int))=some (.inl ()):=by
 intro k
 induction k with
 | zero =>
  intro n hn
  rw [Kp0.eq_def]
  simp only
  rw [Kqf (by omega)]
  rfl
 | succ k ih =>
  intro n hn
  rw [Kp0.eq_def]
  simp only
  rw [Kqe (by omega),if_pos rfl,Kqc (by omega),bs,bs,Kql,if_neg (by decide),Kqd (by omega)]
  exact ih (n + 1) (by omega)
theorem Kqn (a:List Int) (ha:a.length ≤ 1099511627776):Kp3 (a,a)=some true:=by
 unfold Kp3
 simp only
 have:=Kqm a ha a.length 0 (by omega)
 rw [show ((0:Nat):Int)=0 from rfl] at this
 rw [Kql,if_neg (by decide),this]
 rfl
theorem Kqo (a:List Bool) (ha:a.length ≤ 1099511627776):∀ (k n:Nat),n + k=a.length→Kp7 (a,a,(n:Int))=some (.inl ()):=by
 intro k
 induction k with
 | zero =>
  intro n hn
  rw [Kp7.eq_def]
  simp only
  rw [Kqf (by omega)]
  rfl
 | succ k ih =>
  intro n hn
  rw [Kp7.eq_def]
  simp only
  rw [Kqe (by omega),if_pos rfl,Kqc (by omega),bs,bs,show ∀ b:Bool,(b == b)=true from by decide,if_pos rfl,Kqd (by omega)]
  exact ih (n + 1) (by omega)
theorem Kqp (a:List Bool) (ha:a.length ≤ 1099511627776):Kpa (a,a)=some true:=by
 unfold Kpa
 simp only
 have:=Kqo a ha a.length 0 (by omega)
 rw [show ((0:Nat):Int)=0 from rfl] at this
 rw [Kql,if_neg (by decide),this]
 rfl
theorem Kqq (s:K00) (h1:s.fPlus.length ≤ 1099511627776) (h2:s.fTimes.length ≤ 1099511627776) (h3:s.fBelow.length ≤ 1099511627776):K9t s=some s:=by
 unfold K9t
 rw [Kqi _ h1,bs,Kqi _ h2,bs,Kqk _ h3,bs]
theorem Kqr (s:K00) (h1:s.fPlus.length ≤ 1099511627776) (h2:s.fTimes.length ≤ 1099511627776) (h3:s.fBelow.length ≤ 1099511627776):Kpd (s,s)=some true:=by
 unfold Kpd
 simp only
 rw [Kql,if_neg (by decide),Kqn _ h1,bs,if_pos rfl,Kqn _ h2,bs,if_pos rfl,Kqp _ h3,bs,if_pos rfl]
structure Tab (s:K00) (n:Nat):Prop where
 size:s.fSize=(n:Int)
 lo:2 ≤ n
 hi:n ≤ 16
 lp:s.fPlus.length=n * n
 lt:s.fTimes.length=n * n
 lb:s.fBelow.length=n * n
 rp:∀ i (h:i < s.fPlus.length),0 ≤ s.fPlus[i]∧s.fPlus[i] < (n:Int)
 rt:∀ i (h:i < s.fTimes.length),0 ≤ s.fTimes[i]∧s.fTimes[i] < (n:Int)
def pl (s:K00) (n a b:Nat):Nat:=(s.fPlus.getD (a * n + b) 0).toNat
def ti (s:K00) (n a b:Nat):Nat:=(s.fTimes.getD (a * n + b) 0).toNat
def le (s:K00) (n a b:Nat):Bool:=s.fBelow.getD (a * n + b) false
theorem Kqs {n a b:Nat} (ha:a < n) (hb:b < n):a * n + b < n * n:=by
 have:(a + 1) * n ≤ n * n:=Nat.mul_le_mul_right _ (by omega)
 rw [Nat.add_mul,Nat.one_mul] at this
 omega
theorem Kqt {n a b:Nat} (hn:n ≤ 16) (ha:a < n) (hb:b < n):wr ((wr ((a:Int) * (n:Int))) + (b:Int))=((a * n + b:Nat):Int):=by
 have h1:a * n ≤ 256:=Nat.le_trans (Nat.mul_le_mul (by omega:a ≤ 16) hn) (by decide)
 have e:(a:Int) * (n:Int)=((a * n:Nat):Int):=by simp
 rw [e]
 generalize a * n=m at h1
 rw [Kqb (x:=(m:Int)) (by omega) (by omega),Kqb (by omega) (by omega)]
 omega
section
variable {s:K00} {n:Nat} (h:Tab s n)
include h
theorem Kqu {a b:Nat} (ha:a < n) (hb:b < n):pl s n a b < n:=by
 have hl:a * n + b < s.fPlus.length:=by rw [h.lp]; exact Kqs ha hb
 unfold pl
 rw [List.getD_eq_getElem?_getD,List.getElem?_eq_getElem hl]
 have:=h.rp _ hl
 simp only [Option.getD_some]
 omega
theorem Kqv {a b:Nat} (ha:a < n) (hb:b < n):ti s n a b < n:=by
 have hl:a * n + b < s.fTimes.length:=by rw [h.lt]; exact Kqs ha hb
 unfold ti
 rw [List.getD_eq_getElem?_getD,List.getElem?_eq_getElem hl]
 have:=h.rt _ hl
 simp only [Option.getD_some]
 omega
theorem Kqw {a b:Nat} (ha:a < n) (hb:b < n):idx s.fPlus ((a * n + b:Nat):Int)=some ((pl s n a b:Nat):Int):=by
 have hl:a * n + b < s.fPlus.length:=by rw [h.lp]; exact Kqs ha hb
 rw [Kqc hl]
 unfold pl
 rw [List.getD_eq_getElem?_getD,List.getElem?_eq_getElem hl]
 have:=h.rp _ hl
 simp only [Option.getD_some]
 congr 1
 omega
theorem Kqx {a b:Nat} (ha:a < n) (hb:b < n):idx s.fTimes ((a * n + b:Nat):Int)=some ((ti s n a b:Nat):Int):=by
 have hl:a * n + b < s.fTimes.length:=by rw [h.lt]; exact Kqs ha hb
 rw [Kqc hl]
 unfold ti
 rw [List.getD_eq_getElem?_getD,List.getElem?_eq_getElem hl]
 have:=h.rt _ hl
 simp only [Option.getD_some]
 congr 1
 omega
theorem Kqy {a b:Nat} (ha:a < n) (hb:b < n):idx s.fBelow ((a * n + b:Nat):Int)=some (le s n a b):=by
 have hl:a * n + b < s.fBelow.length:=by rw [h.lb]; exact Kqs ha hb
 rw [Kqc hl]
 unfold le
 rw [List.getD_eq_getElem?_getD,List.getElem?_eq_getElem hl]
 rfl
theorem Kqz {a b:Nat} (ha:a < n) (hb:b < n):Kb0 (s,(a:Int),(b:Int))=some ((pl s n a b:Nat):Int):=by
 unfold Kb0
 simp only
 rw [h.size,Kqt h.hi ha hb,Kqw h ha hb,bs]
theorem Kr0 {a b:Nat} (ha:a < n) (hb:b < n):Kb3 (s,(a:Int),(b:Int))=some ((ti s n a b:Nat):Int):=by
 unfold Kb3
 simp only
 rw [h.size,Kqt h.hi ha hb,Kqx h ha hb,bs]
theorem sLe {a b:Nat} (ha:a < n) (hb:b < n):Kb6 (s,(a:Int),(b:Int))=some (le s n a b):=by
 unfold Kb6
 simp only
 rw [h.size,Kqt h.hi ha hb,Kqy h ha hb,bs]
theorem Kr1 {a b:Nat} (ha:a < n) (hb:b < n):Kht (s,(a:Int),(b:Int))=some ((pl s n a b:Nat):Int):=by
 unfold Kht
 simp only
 rw [h.size,Kqt h.hi ha hb,Kqw h ha hb,bs]
theorem Kr2 {a b:Nat} (ha:a < n) (hb:b < n):Khw (s,(a:Int),(b:Int))=some ((ti s n a b:Nat):Int):=by
 unfold Khw
 simp only
 rw [h.size,Kqt h.hi ha hb,Kqx h ha hb,bs]
theorem iLe {a b:Nat} (ha:a < n) (hb:b < n):Khz (s,(a:Int),(b:Int))=some (le s n a b):=by
 unfold Khz
 simp only
 rw [h.size,Kqt h.hi ha hb,Kqy h ha hb,bs]
end
theorem Kr3 (x y:Nat):(((x:Nat):Int) == ((y:Nat):Int))=(x == y):=by
 cases hb:(x == y) with
 | true=>have:=eq_of_beq hb; subst this; simp
 | false=>simp at hb ⊢; omega
theorem Kr4 (x y:Nat):(((x:Nat):Int) != ((y:Nat):Int))=(x != y):=by
 simp only [bne,Kr3]
def Kr5 (s:K00) (n a:Nat):Bool:=(pl s n 0 a == a) && (ti s n 1 a == a) && (ti s n a 1 == a) && (ti s n 0 a == 0) && (ti s n a 0 == 0) && le s n a a
def Kr6 (s:K00) (n a b c:Nat):Bool :=
 (pl s n (pl s n a b) c == pl s n a (pl s n b c)) && (ti s n (ti s n a b) c == ti s n a (ti s n b c)) &&
 (ti s n a (pl s n b c) == pl s n (ti s n a b) (ti s n a c)) && (ti s n (pl s n a b) c == pl s n (ti s n a c) (ti s n b c)) &&
 (!(le s n a b) || ((!(le s n b c) || le s n a c) && le s n (pl s n a c) (pl s n b c) && le s n (ti s n a c) (ti s n b c) && le s n (ti s n c a) (ti s n c b)))
section
variable {s:K00} {n:Nat} (h:Tab s n)
include h
theorem Kr7 {a:Nat} (ha:a < n):Kb9 (s,(a:Int))=some (Kr5 s n a):=by
 have l0:(0:Nat) < n:=by have:=h.lo; omega
 have l1:(1:Nat) < n:=by have:=h.lo; omega
 have e0:(0:Int)=((0:Nat):Int):=rfl
 have e1:(1:Int)=((1:Nat):Int):=rfl
 unfold Kb9 Kr5
 simp only
 rw [e0,e1]
 simp only [Kqz h l0 ha,Kr0 h l1 ha,Kr0 h ha l1,Kr0 h l0 ha,Kr0 h ha l0,sLe h ha ha,bs,Kr3]
 generalize (pl s n 0 a == a)=b1
 generalize (ti s n 1 a == a)=b2
 generalize (ti s n a 1 == a)=b3
 generalize (ti s n 0 a == 0)=b4
 generalize (ti s n a 0 == 0)=b5
 generalize le s n a a=b6
 cases b1 <;> cases b2 <;> cases b3 <;> cases b4 <;> cases b5 <;> cases b6 <;> rfl
theorem Kr8 {a b c:Nat} (ha:a < n) (hb:b < n) (hc:c < n):Kbt (s,(a:Int),(b:Int),(c:Int))=some (Kr6 s n a b c):=by
 unfold Kbt Kr6
 simp only
 simp only [Kqz h,Kr0 h,sLe h,Kqu h,Kqv h,ha,hb,hc,bs,Kr4]
 generalize e1:pl s n (pl s n a b) c=x1
 generalize e2:pl s n a (pl s n b c)=x2
 generalize e3:ti s n (ti s n a b) c=x3
 generalize e4:ti s n a (ti s n b c)=x4
 generalize ti s n a (pl s n b c)=x5
 generalize pl s n (ti s n a b) (ti s n a c)=x6
 generalize ti s n (pl s n a b) c=x7
 generalize pl s n (ti s n a c) (ti s n b c)=x8
 generalize le s n (pl s n a c) (pl s n b c)=y1
 generalize le s n (ti s n a c) (ti s n b c)=y2
 generalize le s n (ti s n c a) (ti s n c b)=y3
 generalize le s n a b=y4
 generalize le s n b c=y5
 generalize le s n a c=y6
 simp only [bne]
 generalize (x1 == x2)=b1
 generalize (x3 == x4)=b2
 generalize (x5 == x6)=b3
 generalize (x7 == x8)=b4
 cases b1 <;> cases b2 <;> cases b3 <;> cases b4 <;> first | rfl | (cases y4 <;> cases y5 <;> cases y6 <;> cases y1 <;> cases y2 <;> cases y3 <;> rfl)
theorem Kr9 {a b c:Nat} (ha:a < n) (hb:b < n) (hc:c < n):Kij (s,(a:Int),(b:Int),(c:Int))=some (Kr6 s n a b c):=by
 unfold Kij Kr6
 simp only
 simp only [Kr1 h,Kr2 h,iLe h,Kqu h,Kqv h,ha,hb,hc,bs,Kr4]
 generalize e1:pl s n (pl s n a b) c=x1
 generalize e2:pl s n a (pl s n b c)=x2
 generalize e3:ti s n (ti s n a b) c=x3
 generalize e4:ti s n a (ti s n b c)=x4
 generalize ti s n a (pl s n b c)=x5
 generalize pl s n (ti s n a b) (ti s n a c)=x6
 generalize ti s n (pl s n a b) c=x7
 generalize pl s n (ti s n a c) (ti s n b c)=x8
 generalize le s n (pl s n a c) (pl s n b c)=y1
 generalize le s n (ti s n a c) (ti s n b c)=y2
 generalize le s n (ti s n c a) (ti s n c b)=y3
 generalize le s n a b=y4
 generalize le s n b c=y5
 generalize le s n a c=y6
 simp only [bne]
 generalize (x1 == x2)=b1
 generalize (x3 == x4)=b2
 generalize (x5 == x6)=b3
 generalize (x7 == x8)=b4
 cases b1 <;> cases b2 <;> cases b3 <;> cases b4 <;> first | rfl | (cases y4 <;> cases y5 <;> cases y6 <;> cases y1 <;> cases y2 <;> cases y3 <;> rfl)
end
def Kra (s:K00) (n a b g h:Nat):Bool:=!le s n a h || !le s n b h || le s n g h
def jok (s:K00) (n a b g:Nat):Bool:=le s n a g && le s n b g && (List.range' 0 n).all (Kra s n a b g)
def Krb (s:K00) (n a b:Nat):Int:=match (List.range' 0 n).find? (jok s n a b) with | some g=>(g:Int) | none=>-1
section
variable {s:K00} {n:Nat} (h:Tab s n)
include h
theorem Krc {a b g:Nat} (ha:a < n) (hb:b < n) (hg:g < n):∀ (k m:Nat) (ok:Bool),m + k=n→Kbd (s,(a:Int),(b:Int),(g:Int),ok,(m:Int))=some (ok && (List.range' m k).all (Kra s n a b g)):=by
 have hhi:=h.hi
 intro k
 induction k with
 | zero =>
  intro m ok hm
  rw [Kbd.eq_def]
  simp only
  rw [h.size,Kqf (by omega)]
  simp [bs]
 | succ k ih =>
  intro m ok hm
  rw [Kbd.eq_def]
  simp only
  rw [h.size,Kqe (by omega),if_pos rfl,bs,sLe h ha (by omega),sLe h hb (by omega),sLe h hg (by omega)]
  cases ok with
  | false=>rfl
  | true =>
   rw [if_pos rfl]
   rw [List.range'_succ,List.all_cons]
   have ih:∀ ok,_:=fun ok=>ih (m + 1) ok (by omega)
   rw [Kqd (by omega)]
   generalize ((m + 1:Nat):Int)=M at ih ⊢
   simp only [bs,Kra]
   cases le s n a m <;> cases le s n b m <;> cases le s n g m <;> simp [bs,ih,Kra]
theorem Krd {a b g:Nat} (ha:a < n) (hb:b < n) (hg:g < n):∀ (k m:Nat) (ok:Bool),m + k=n→Ki3 (s,(a:Int),(b:Int),(g:Int),ok,(m:Int))=some (ok && (List.range' m k).all (Kra s n a b g)):=by
 have hhi:=h.hi
 intro k
 induction k with
 | zero =>
  intro m ok hm
  rw [Ki3.eq_def]
  simp only
  rw [h.size,Kqf (by omega)]
  simp [bs]
 | succ k ih =>
  intro m ok hm
  rw [Ki3.eq_def]
  simp only
  rw [h.size,Kqe (by omega),if_pos rfl,iLe h ha (by omega),iLe h hb (by omega),iLe h hg (by omega)]
  rw [List.range'_succ,List.all_cons]
  have ih:∀ ok,_:=fun ok=>ih (m + 1) ok (by omega)
  rw [Kqd (by omega)]
  generalize ((m + 1:Nat):Int)=M at ih ⊢
  simp only [bs,Kra]
  cases ok <;> cases le s n a m <;> cases le s n b m <;> cases le s n g m <;> simp [bs,ih,Kra]
theorem Kre {a b:Nat} (ha:a < n) (hb:b < n):∀ (k g:Nat),g + k=n→Kbh (s,(a:Int),(b:Int),(g:Int))=some (match (List.range' g k).find? (jok s n a b) with | some g=>.inr (g:Int) | none=>.inl ()):=by
 have hhi:=h.hi
 intro k
 induction k with
 | zero =>
  intro g hm
  rw [Kbh.eq_def]
  simp only
  rw [h.size,Kqf (by omega)]
  rfl
 | succ k ih =>
  intro g hm
  rw [Kbh.eq_def]
  simp only
  rw [h.size,Kqe (by omega),if_pos rfl,sLe h ha (by omega),sLe h hb (by omega)]
  have ih:=ih (g + 1) (by omega)
  rw [Kqd (by omega),List.range'_succ,List.find?_cons]
  have hl:=fun ok=>Krc h ha hb (g:=g) (by omega) n 0 ok (by omega)
  rw [show ((0:Nat):Int)=0 from rfl] at hl
  generalize ((g + 1:Nat):Int)=M at ih ⊢
  have hj:jok s n a b g=(le s n a g && le s n b g && (List.range' 0 n).all (Kra s n a b g)):=rfl
  rw [hj]
  cases le s n a g <;> cases le s n b g <;> cases hq:(List.range' 0 n).all (Kra s n a b g) <;> simp [bs,hl,hq,ih]
theorem Krf {a b:Nat} (ha:a < n) (hb:b < n):∀ (k g:Nat),g + k=n→Ki8 (s,(a:Int),(b:Int),(g:Int))=some (match (List.range' g k).find? (jok s n a b) with | some g=>.inr (g:Int) | none=>.inl ()):=by
 have hhi:=h.hi
 intro k
 induction k with
 | zero =>
  intro g hm
  rw [Ki8.eq_def]
  simp only
  rw [h.size,Kqf (by omega)]
  rfl
 | succ k ih =>
  intro g hm
  rw [Ki8.eq_def]
  simp only
  rw [h.size,Kqe (by omega),if_pos rfl,iLe h ha (by omega),iLe h hb (by omega)]
  have ih:=ih (g + 1) (by omega)
  rw [Kqd (by omega),List.range'_succ,List.find?_cons]
  have hl:=fun ok=>Krd h ha hb (g:=g) (by omega) n 0 ok (by omega)
  rw [show ((0:Nat):Int)=0 from rfl] at hl
  generalize ((g + 1:Nat):Int)=M at ih ⊢
  have hj:jok s n a b g=(le s n a g && le s n b g && (List.range' 0 n).all (Kra s n a b g)):=rfl
  rw [hj]
  cases le s n a g <;> cases le s n b g <;> cases hq:(List.range' 0 n).all (Kra s n a b g) <;> simp [bs,hl,hq,ih]
theorem Krg {a b:Nat} (ha:a < n) (hb:b < n):Kbk (s,(a:Int),(b:Int))=some (Krb s n a b):=by
 unfold Kbk Krb
 simp only
 have:=Kre h ha hb n 0 (by omega)
 rw [show ((0:Nat):Int)=0 from rfl] at this
 rw [this,bs]
 cases (List.range' 0 n).find? (jok s n a b) <;> rfl
theorem Krh {a b:Nat} (ha:a < n) (hb:b < n):Kib (s,(a:Int),(b:Int))=some (Krb s n a b):=by
 unfold Kib Krb
 simp only
 have:=Krf h ha hb n 0 (by omega)
 rw [show ((0:Nat):Int)=0 from rfl] at this
 rw [this,bs]
 cases (List.range' 0 n).find? (jok s n a b) <;> rfl
def Kri (s:K00) (n a b:Nat):Bool:=(pl s n a b == pl s n b a) && ((a == b) || !le s n a b || !le s n b a) && decide (Krb s n a b ≥ 0)
omit h in
theorem Krj (x:Int):decide (x < 0)=!decide (x ≥ 0):=by
 by_cases h:x < 0
 ·rw [decide_eq_true h,decide_eq_false (by omega)]; rfl
 ·rw [decide_eq_false h,decide_eq_true (by omega)]; rfl
theorem Krk {a b:Nat} (ha:a < n) (hb:b < n):Kbn (s,(a:Int),(b:Int))=some (Kri s n a b):=by
 unfold Kbn Kri
 simp only
 rw [Kqz h ha hb,Kqz h hb ha,sLe h ha hb,sLe h hb ha,Krg h ha hb]
 simp only [bs,Kr3]
 generalize (pl s n a b == pl s n b a)=b1
 generalize (a == b)=b2
 cases b1 <;> cases b2 <;> cases le s n a b <;> cases le s n b a <;> simp [bs]
end
def inB (x lo hi:Int):Bool:=decide (x ≥ lo) && decide (x ≤ hi)
theorem sIn (x lo hi:Int):Kaq (x,lo,hi)=some (inB x lo hi):=by
 unfold Kaq inB
 simp only
 cases decide (x ≥ lo) <;> simp [bs]
theorem iIn (x lo hi:Int):Khn (x,lo,hi)=some (inB x lo hi):=by
 unfold Khn inB
 simp only
 cases decide (x ≥ lo) <;> simp [bs]
def Krl (s:K00) (n:Nat):Bool:=(List.range' 0 n).all fun a=>Kr5 s n a && (List.range' 0 n).all fun b=>Kri s n a b && (List.range' 0 n).all fun c=>Kr6 s n a b c
section
variable {s:K00} {n:Nat} (h:Tab s n)
include h
theorem Krm {a b:Nat} (ha:a < n) (hb:b < n):∀ (k c:Nat),c + k=n→Kbx (s,(a:Int),(b:Int),(c:Int))=some (if (List.range' c k).all (fun c=>Kr6 s n a b c) then .inl () else .inr false):=by
 have hhi:=h.hi
 intro k
 induction k with
 | zero =>
  intro c hm
  rw [Kbx.eq_def]
  simp only
  rw [h.size,Kqf (by omega)]
  rfl
 | succ k ih =>
  intro c hm
  rw [Kbx.eq_def]
  simp only
  rw [h.size,Kqe (by omega),if_pos rfl,Kr8 h ha hb (by omega),bs]
  have ih:=ih (c + 1) (by omega)
  rw [Kqd (by omega),List.range'_succ,List.all_cons]
  generalize ((c + 1:Nat):Int)=M at ih ⊢
  generalize (List.range' (c + 1) k).all (fun c=>Kr6 s n a b c)=r at ih ⊢
  cases Kr6 s n a b c <;> cases r <;> simp [ih]
theorem Krn {a b:Nat} (ha:a < n) (hb:b < n):∀ (k c:Nat),c + k=n→Kir (s,(a:Int),(b:Int),(c:Int))=some (if (List.range' c k).all (fun c=>Kr6 s n a b c) then .inl () else .inr false):=by
 have hhi:=h.hi
 intro k
 induction k with
 | zero =>
  intro c hm
  rw [Kir.eq_def]
  simp only
  rw [h.size,Kqf (by omega)]
  rfl
 | succ k ih =>
  intro c hm
  rw [Kir.eq_def]
  simp only
  rw [h.size,Kqe (by omega),if_pos rfl,Kr9 h ha hb (by omega),bs]
  have ih:=ih (c + 1) (by omega)
  rw [Kqd (by omega),List.range'_succ,List.all_cons]
  generalize ((c + 1:Nat):Int)=M at ih ⊢
  generalize (List.range' (c + 1) k).all (fun c=>Kr6 s n a b c)=r at ih ⊢
  cases Kr6 s n a b c <;> cases r <;> simp [ih]
theorem Kro {a:Nat} (ha:a < n):∀ (k b:Nat),b + k=n→Kc1 (s,(a:Int),(b:Int))=some (if (List.range' b k).all (fun b=>Kri s n a b && (List.range' 0 n).all fun c=>Kr6 s n a b c) then .inl () else .inr false):=by
 have hhi:=h.hi
 intro k
 induction k with
 | zero =>
  intro c hm
  rw [Kc1.eq_def]
  simp only
  rw [h.size,Kqf (by omega)]
  rfl
 | succ k ih =>
  intro b hm
  rw [Kc1.eq_def]
  simp only
  have hl:=Krm h ha (b:=b) (by omega) n 0 (by omega)
  rw [show ((0:Nat):Int)=0 from rfl] at hl
  rw [h.size,Kqe (by omega),if_pos rfl,Krk h ha (by omega),bs,hl]
  have ih:=ih (b + 1) (by omega)
  rw [Kqd (by omega),List.range'_succ,List.all_cons]
  generalize ((b + 1:Nat):Int)=M at ih ⊢
  generalize (List.range' (b + 1) k).all (fun b=>Kri s n a b && (List.range' 0 n).all fun c=>Kr6 s n a b c)=r at ih ⊢
  cases Kri s n a b <;> cases (List.range' 0 n).all (fun c=>Kr6 s n a b c) <;> cases r <;> simp [ih,bs]
theorem Krp {a:Nat} (ha:a < n):∀ (k b:Nat),b + k=n→Kiv (s,(a:Int),(b:Int))=some (if (List.range' b k).all (fun b=>Kri s n a b && (List.range' 0 n).all fun c=>Kr6 s n a b c) then .inl () else .inr false):=by
 have hhi:=h.hi
 intro k
 induction k with
 | zero =>
  intro c hm
  rw [Kiv.eq_def]
  simp only
  rw [h.size,Kqf (by omega)]
  rfl
 | succ k ih =>
  intro b hm
  have hb:b < n:=by omega
  rw [Kiv.eq_def]
  simp only
  have hl:=Krn h ha (b:=b) (by omega) n 0 (by omega)
  rw [show ((0:Nat):Int)=0 from rfl] at hl
  rw [h.size,Kqe (by omega),if_pos rfl,Kr1 h ha hb,Kr1 h hb ha,iLe h ha hb,iLe h hb ha,Krh h ha hb,hl]
  have ih:=ih (b + 1) (by omega)
  rw [Kqd (by omega),List.range'_succ,List.all_cons]
  generalize ((b + 1:Nat):Int)=M at ih ⊢
  generalize (List.range' (b + 1) k).all (fun b=>Kri s n a b && (List.range' 0 n).all fun c=>Kr6 s n a b c)=r at ih ⊢
  simp only [bs,Kr4,Krj]
  cases h1:(pl s n a b == pl s n b a) <;> cases h2:(a == b) <;> cases h3:decide (Krb s n a b ≥ 0) <;> cases h4:le s n a b <;> cases h5:le s n b a <;> cases h6:(List.range' 0 n).all (fun c=>Kr6 s n a b c) <;> cases r <;> simp only [Kri,bne,h1,h2,h3,h4,h5,h6,ih,bs,Bool.not_true,Bool.not_false,Bool.true_and,Bool.false_and,Bool.and_true,Bool.and_false,Bool.true_or,Bool.false_or,Bool.or_true,Bool.or_false,if_true,if_false,Bool.false_eq_true]
theorem Krq:∀ (k a:Nat),a + k=n→Kc5 (s,(a:Int))=some (if (List.range' a k).all (fun a=>Kr5 s n a && (List.range' 0 n).all fun b=>Kri s n a b && (List.range' 0 n).all fun c=>Kr6 s n a b c) then .inl () else .inr false):=by
 have hhi:=h.hi
 intro k
 induction k with
 | zero =>
  intro c hm
  rw [Kc5.eq_def]
  simp only
  rw [h.size,Kqf (by omega)]
  rfl
 | succ k ih =>
  intro a hm
  have ha:a < n:=by omega
  rw [Kc5.eq_def]
  simp only
  have hl:=Kro h ha n 0 (by omega)
  rw [show ((0:Nat):Int)=0 from rfl] at hl
  rw [h.size,Kqe (by omega),if_pos rfl,Kr7 h ha,bs,hl]
  have ih:=ih (a + 1) (by omega)
  rw [Kqd (by omega),List.range'_succ,List.all_cons]
  generalize ((a + 1:Nat):Int)=M at ih ⊢
  generalize (List.range' (a + 1) k).all (fun a=>Kr5 s n a && (List.range' 0 n).all fun b=>Kri s n a b && (List.range' 0 n).all fun c=>Kr6 s n a b c)=r at ih ⊢
  cases Kr5 s n a <;> cases (List.range' 0 n).all (fun b=>Kri s n a b && (List.range' 0 n).all fun c=>Kr6 s n a b c) <;> cases r <;> simp [ih,bs]
theorem Krr:∀ (k a:Nat),a + k=n→Kiz (s,(a:Int))=some (if (List.range' a k).all (fun a=>Kr5 s n a && (List.range' 0 n).all fun b=>Kri s n a b && (List.range' 0 n).all fun c=>Kr6 s n a b c) then .inl () else .inr false):=by
 have hhi:=h.hi
 have l0:(0:Nat) < n:=by have:=h.lo; omega
 have l1:(1:Nat) < n:=by have:=h.lo; omega
 intro k
 induction k with
 | zero =>
  intro c hm
  rw [Kiz.eq_def]
  simp only
  rw [h.size,Kqf (by omega)]
  rfl
 | succ k ih =>
  intro a hm
  have ha:a < n:=by omega
  rw [Kiz.eq_def]
  simp only
  have hl:=Krp h ha n 0 (by omega)
  have q1:Kht (s,0,(a:Int))=_:=Kr1 h l0 ha
  have q2:Khw (s,1,(a:Int))=_:=Kr2 h l1 ha
  have q3:Khw (s,(a:Int),1)=_:=Kr2 h ha l1
  have q4:Khw (s,0,(a:Int))=_:=Kr2 h l0 ha
  have q5:Khw (s,(a:Int),0)=_:=Kr2 h ha l0
  have z1:(((ti s n 0 a:Nat):Int) != 0)=(ti s n 0 a != 0):=Kr4 _ 0
  have z2:(((ti s n a 0:Nat):Int) != 0)=(ti s n a 0 != 0):=Kr4 _ 0
  rw [show ((0:Nat):Int)=0 from rfl] at hl
  rw [h.size,Kqe (by omega),if_pos rfl,q1,q2,q3,q4,q5,iLe h ha ha,hl]
  have ih:=ih (a + 1) (by omega)
  rw [Kqd (by omega),List.range'_succ,List.all_cons]
  generalize ((a + 1:Nat):Int)=M at ih ⊢
  generalize (List.range' (a + 1) k).all (fun a=>Kr5 s n a && (List.range' 0 n).all fun b=>Kri s n a b && (List.range' 0 n).all fun c=>Kr6 s n a b c)=r at ih ⊢
  simp only [bs,Kr4,z1,z2]
  cases h1:(pl s n 0 a == a) <;> cases h2:(ti s n 1 a == a) <;> cases h3:(ti s n a 1 == a) <;> cases h4:(ti s n 0 a == 0) <;> cases h5:(ti s n a 0 == 0) <;> cases h6:le s n a a <;> cases h7:(List.range' 0 n).all (fun b=>Kri s n a b && (List.range' 0 n).all fun c=>Kr6 s n a b c) <;> cases r <;> simp only [Kr5,bne,h1,h2,h3,h4,h5,h6,h7,ih,bs,Bool.not_true,Bool.not_false,Bool.true_and,Bool.false_and,Bool.and_true,Bool.and_false,if_true,if_false,Bool.false_eq_true]
end
theorem Krs {α:Type} {l r:List α} {x:α} {i:Nat} (h:l.drop i=x :: r):i < l.length∧idx l (i:Int)=some x∧l.drop (i + 1)=r:=by
 have hi:i < l.length:=by
  rcases Nat.lt_or_ge i l.length with h' | h'
  ·exact h'
  ·rw [List.drop_eq_nil_of_le h'] at h; cases h
 have e:=List.drop_eq_getElem_cons hi
 rw [h] at e
 obtain ⟨e1,e2⟩:=List.cons.inj e
 exact ⟨hi,by rw [Kqc hi,e1],e2.symm⟩
theorem Krt {α:Type} {l:List α} {i:Nat} (h:l.drop i=[]):l.length ≤ i:=by
 rcases Nat.lt_or_ge i l.length with h' | h'
 ·rw [List.drop_eq_getElem_cons h'] at h; cases h
 ·exact h'
def Kru (c:Int):Bool:=inB c 3 18 || c == 35
def Krv (c:Int):Bool:=inB c 19 34 || c == 36
def Krw (c:Int):Int:=if c == 0 then 0 else if c == 1 || c == 2 || Kru c then 2 else if Krv c then 1 else -1
theorem Krx (c:Int):Kcb c=some (Kru c):=by
 unfold Kcb Kru
 simp only [sIn,bs]
 cases inB c 3 18 <;> rfl
theorem Kry (c:Int):Kce c=some (Krv c):=by
 unfold Kce Krv
 simp only [sIn,bs]
 cases inB c 19 34 <;> rfl
theorem Krz (c:Int):Kch c=some (Krw c):=by
 unfold Kch Krw
 simp only [Krx,Kry,bs]
 cases c == 0 <;> cases c == 1 <;> cases c == 2 <;> cases Kru c <;> cases Krv c <;> rfl
theorem Ks0 (c:Int):(c=0∧Krw c=0)∨((c=1∨c=2∨(3 ≤ c∧c ≤ 18)∨c=35)∧Krw c=2)∨(((19 ≤ c∧c ≤ 34)∨c=36)∧Krw c=1)∨((c < 0∨36 < c)∧Krw c=-1):=by
 unfold Krw Kru Krv inB
 by_cases h0:c=0
 ·left; subst h0; exact ⟨rfl,rfl⟩
 ·right
  have e0:(c == 0)=false:=by simpa using h0
  by_cases h1:c=1∨c=2∨(3 ≤ c∧c ≤ 18)∨c=35
  ·left
   refine ⟨h1,?_⟩
   have:(c == 1 || c == 2 || (decide (c ≥ 3) && decide (c ≤ 18) || c == 35))=true:=by
    simp only [Bool.or_eq_true,Bool.and_eq_true,beq_iff_eq,decide_eq_true_eq]; omega
   rw [e0,this]; rfl
  ·right
   have q:(c == 1 || c == 2 || (decide (c ≥ 3) && decide (c ≤ 18) || c == 35))=false:=by
    rw [Bool.eq_false_iff]; intro h
    simp only [Bool.or_eq_true,Bool.and_eq_true,beq_iff_eq,decide_eq_true_eq] at h; omega
   rw [e0,q]
   by_cases h2:(19 ≤ c∧c ≤ 34)∨c=36
   ·left
    refine ⟨h2,?_⟩
    have:(decide (c ≥ 19) && decide (c ≤ 34) || c == 36)=true:=by
     simp only [Bool.or_eq_true,Bool.and_eq_true,beq_iff_eq,decide_eq_true_eq]; omega
    rw [this]; rfl
   ·right
    refine ⟨by omega,?_⟩
    have:(decide (c ≥ 19) && decide (c ≤ 34) || c == 36)=false:=by
     rw [Bool.eq_false_iff]; intro h
     simp only [Bool.or_eq_true,Bool.and_eq_true,beq_iff_eq,decide_eq_true_eq] at h; omega
    rw [this]; rfl
def Ks1 (c:Int):Int × Int :=
 if inB c 0 2 then (c,-1) else if inB c 3 18 then (3,c - 3) else if inB c 19 34 then (4,c - 19) else if c == 35 then (3,-1) else if c == 36 then (4,-1) else (5,-1)
theorem Ks2 (c:Int):Kj5 c=some (Ks1 c):=by
 unfold Kj5 Ks1
 simp only [iIn,bs]
 cases h1:inB c 0 2
 ·cases h2:inB c 3 18
  ·cases h3:inB c 19 34
   ·cases c == 35 <;> cases c == 36 <;> rfl
   ·simp only [inB,Bool.and_eq_true,decide_eq_true_eq] at h3
    simp only [Bool.false_eq_true,if_false,if_true]
    rw [Kqb (by omega) (by omega)]
  ·simp only [inB,Bool.and_eq_true,decide_eq_true_eq] at h2
   simp only [Bool.false_eq_true,if_false,if_true]
   rw [Kqb (by omega) (by omega)]
 ·rfl
theorem Ks3 (c:Int):(c=0∧Ks1 c=(0,-1))∨(c=1∧Ks1 c=(1,-1))∨(c=2∧Ks1 c=(2,-1))∨((3 ≤ c∧c ≤ 18)∧Ks1 c=(3,c - 3))∨(c=35∧Ks1 c=(3,-1)) ∨
  ((19 ≤ c∧c ≤ 34)∧Ks1 c=(4,c - 19))∨(c=36∧Ks1 c=(4,-1))∨((c < 0∨36 < c)∧Ks1 c=(5,-1)):=by
 have inT:∀ lo hi,lo ≤ c→c ≤ hi→inB c lo hi=true:=fun lo hi h1 h2=>by simp only [inB,Bool.and_eq_true,decide_eq_true_eq]; omega
 have inF:∀ lo hi,(c < lo∨hi < c)→inB c lo hi=false:=fun lo hi h=>by rw [Bool.eq_false_iff]; intro h'; simp only [inB,Bool.and_eq_true,decide_eq_true_eq] at h'; omega
 unfold Ks1
 by_cases h0:0 ≤ c∧c ≤ 2
 ·rw [inT 0 2 h0.1 h0.2]
  have:c=0∨c=1∨c=2:=by omega
  rcases this with rfl | rfl | rfl <;> simp
 ·rw [inF 0 2 (by omega)]
  by_cases h1:3 ≤ c∧c ≤ 18
  ·rw [inT 3 18 h1.1 h1.2]
   exact .inr (.inr (.inr (.inl ⟨h1,rfl⟩)))
  ·rw [inF 3 18 (by omega)]
   by_cases h2:19 ≤ c∧c ≤ 34
   ·rw [inT 19 34 h2.1 h2.2]
    exact .inr (.inr (.inr (.inr (.inr (.inl ⟨h2,rfl⟩)))))
   ·rw [inF 19 34 (by omega)]
    by_cases h3:c=35
    ·subst h3; simp
    ·by_cases h4:c=36
     ·subst h4; simp
     ·have e3:(c == 35)=false:=by simpa using h3
      have e4:(c == 36)=false:=by simpa using h4
      rw [e3,e4]
      refine .inr (.inr (.inr (.inr (.inr (.inr (.inr ⟨by omega,rfl⟩))))))
def skip:Nat→List Int→Option (List Int)
 | 0,l=>some l
 | _ + 1,[]=>none
 | m + 1,c :: l=>if Krw c=-1 then none else skip (m + (Krw c).toNat) l
theorem Ks4 (l:List Int):skip 0 l=some l:=by cases l <;> rfl
theorem Ks5 (m:Nat):skip (m + 1) []=none:=rfl
theorem Ks6 (m:Nat) (c:Int) (l:List Int):skip (m + 1) (c :: l)=if Krw c=-1 then none else skip (m + (Krw c).toNat) l:=rfl
theorem Ks7 (l:List Int):∀ (m k:Nat),skip (m + k) l=(skip m l).bind (skip k):=by
 induction l with
 | nil =>
  intro m k
  cases m with
  | zero=>rw [Nat.zero_add,Ks4]; rfl
  | succ m=>rw [show m + 1 + k=(m + k) + 1 by omega,Ks5,Ks5]; rfl
 | cons c l ih =>
  intro m k
  cases m with
  | zero=>rw [Nat.zero_add,Ks4]; rfl
  | succ m =>
   rw [show m + 1 + k=(m + k) + 1 by omega,Ks6,Ks6]
   by_cases h:Krw c=-1
   ·rw [if_pos h,if_pos h]; rfl
   ·rw [if_neg h,if_neg h,← ih]; congr 1; omega
theorem Ks8 (l:List Int):∀ (m:Nat) (r:List Int),skip m l=some r→∃ p,l=p ++ r∧m ≤ p.length:=by
 induction l with
 | nil =>
  intro m r h
  cases m with
  | zero=>rw [Ks4] at h; cases h; exact ⟨[],rfl,Nat.le_refl _⟩
  | succ m=>rw [Ks5] at h; cases h
 | cons c l ih =>
  intro m r h
  cases m with
  | zero=>rw [Ks4] at h; cases h; exact ⟨[],rfl,Nat.le_refl _⟩
  | succ m =>
   rw [Ks6] at h
   by_cases hk:Krw c=-1
   ·rw [if_pos hk] at h; cases h
   ·rw [if_neg hk] at h
    obtain ⟨p,e,hp⟩:=ih _ _ h
    exact ⟨c :: p,by rw [e]; rfl,by simp; omega⟩
def Ks9 (ty:List Int) (m i:Nat):Int:=match skip m (ty.drop i) with | some r=>((ty.length - r.length:Nat):Int) | none=>-1
theorem Ksa (ty:List Int) (hty:ty.length ≤ 1099511627776):∀ (l:List Int) (i m:Nat),ty.drop i=l→m ≤ 1099511627776 + 2 * i→∃ x,Kcl (ty,((m + 1:Nat):Int),(i:Int))=some x∧(match x with | .inl ()=>-1 | .inr r=>r)=Ks9 ty (m + 1) i:=by
 intro l
 induction l with
 | nil =>
  intro i m hl hm
  rw [Kcl.eq_def]
  simp only
  rw [Kqf (Krt hl)]
  exact ⟨.inl (),rfl,by unfold Ks9; rw [hl,Ks5]⟩
 | cons c l ih =>
  intro i m hl hm
  obtain ⟨hi,hx,hd⟩:=Krs hl
  have hi2:(i:Int) < 1099511627776:=by omega
  rw [Kcl.eq_def]
  simp only
  rw [Kqe hi,if_pos rfl,hx,bs,Krz,bs]
  have he:Ks9 ty (m + 1) i=(match (if Krw c=-1 then none else skip (m + (Krw c).toNat) l) with | some r=>((ty.length - r.length:Nat):Int) | none=>-1):=by
   unfold Ks9; rw [hl,Ks6]
  rw [he]
  by_cases hk:Krw c=-1
  ·rw [if_pos hk,hk]
   exact ⟨.inr (-1),rfl,rfl⟩
  ·rw [if_neg hk]
   have hk0:0 ≤ Krw c∧Krw c ≤ 2:=by rcases Ks0 c with h | h | h | h <;> omega
   obtain ⟨k,hkk⟩:∃ k:Nat,Krw c=(k:Int):=⟨(Krw c).toNat,by omega⟩
   rw [decide_eq_false (by omega),if_neg (by decide),hkk,Int.toNat_natCast]
   rw [Kqb (x:=((m + 1:Nat):Int) - 1) (by omega) (by omega),show ((m + 1:Nat):Int) - 1=(m:Int) by omega,Kqb (x:=(m:Int) + (k:Int)) (by omega) (by omega),Kqd (by omega)]
   by_cases h0:m + k=0
   ·rw [show ((m:Int) + (k:Int) == 0)=true by simp; omega,if_pos rfl,h0,Ks4]
    refine ⟨_,rfl,?_⟩
    have:l.length=ty.length - (i + 1):=by rw [← hd,List.length_drop]
    simp only
    omega
   ·rw [show ((m:Int) + (k:Int) == 0)=false by simp; omega,if_neg (by decide)]
    obtain ⟨q,hq⟩:∃ q,m + k=q + 1:=⟨m + k - 1,by omega⟩
    have:=ih (i + 1) q hd (by omega)
    rw [show (m:Int) + (k:Int)=((q + 1:Nat):Int) by omega]
    obtain ⟨x,h1,h2⟩:=this
    exact ⟨x,h1,by rw [h2,hq]; unfold Ks9; rw [hd]⟩
theorem Ksb (ty:List Int) (hty:ty.length ≤ 1099511627776) (i:Nat) (hi:i ≤ ty.length):Kco (ty,(i:Int))=some (Ks9 ty 1 i):=by
 unfold Kco
 obtain ⟨x,h1,h2⟩:=Ksa ty hty _ i 0 rfl (by omega)
 simp only
 rw [show (1:Int)=((0 + 1:Nat):Int) from rfl,h1,bs]
 rw [← h2]
 cases x <;> rfl
theorem Ksc (ty:List Int) (i:Nat) (hi:i ≤ ty.length):Ks9 ty 2 i=(if Ks9 ty 1 i=-1 then -1 else Ks9 ty 1 (Ks9 ty 1 i).toNat):=by
 unfold Ks9
 rw [show 2=1 + 1 from rfl,Ks7]
 cases h:skip 1 (ty.drop i) with
 | none=>simp
 | some r =>
  obtain ⟨p,hp,hl⟩:=Ks8 _ _ _ h
  have hlen:ty.length - i=p.length + r.length:=by rw [← List.length_drop,hp,List.length_append]
  have:ty.drop (ty.length - r.length)=r:=by
   have e:ty.drop (ty.length - r.length)=(ty.drop i).drop p.length:=by rw [List.drop_drop]; congr 1; omega
   rw [e,hp,List.drop_left]
  simp only [Option.bind_some]
  rw [if_neg (by omega),Int.toNat_natCast,this]
theorem Ksd (ty:List Int) (hty:ty.length ≤ 1099511627776):∀ (d i:Nat),ty.length - i=d→Kj8 (ty,(i:Int))=some (Ks9 ty 1 i):=by
 intro d
 induction d using Nat.strongRecOn with
 | ind d ih =>
  intro i hd
  rw [Kj8.eq_def]
  simp only
  rw [decide_eq_false (by omega:¬ (i:Int) < 0)]
  simp only [Bool.false_eq_true,if_false,bs]
  by_cases hi:i < ty.length
  ·rw [decide_eq_false (by omega),if_neg (by decide),Kqc hi,bs,Ks2,bs]
   have hdr:=List.drop_eq_getElem_cons hi
   have he:∀ k:Nat,Krw ty[i]=(k:Int)→Ks9 ty 1 i=Ks9 ty k (i + 1):=fun k hk=>by
    unfold Ks9
    rw [hdr,show 1=0 + 1 from rfl,Ks6,hk,if_neg (by omega),Int.toNat_natCast,Nat.zero_add]
   have hn:Krw ty[i]=-1→Ks9 ty 1 i=-1:=fun hk=>by
    unfold Ks9
    rw [hdr,show 1=0 + 1 from rfl,Ks6,if_pos hk]
   have i1:=ih (ty.length - (i + 1)) (by omega) (i + 1) rfl
   have hz:∀ i:Nat,i ≤ ty.length→Ks9 ty 0 i=(i:Int):=fun i hi=>by unfold Ks9; rw [Ks4]; simp only [List.length_drop]; omega
   rw [Kqd (by omega)]
   have two:Krw ty[i]=2→((Kj8 (ty,((i + 1:Nat):Int))) >>= fun r_11_4=>(Kj8 (ty,r_11_4)) >>= fun r_11_5=>some r_11_5)=some (Ks9 ty 1 i):=fun hk=>by
    rw [i1,bs,he 2 hk,Ksc ty (i + 1) (by omega)]
    by_cases h1:Ks9 ty 1 (i + 1)=-1
    ·rw [h1,if_pos rfl,Kj8.eq_def]; rfl
    ·rw [if_neg h1]
     obtain ⟨e,hee,hlo⟩:∃ e:Nat,Ks9 ty 1 (i + 1)=(e:Int)∧i + 1 < e:=by
      unfold Ks9 at h1 ⊢
      cases hs:skip 1 (ty.drop (i + 1)) with
      | none=>rw [hs] at h1; exact absurd rfl h1
      | some r =>
       obtain ⟨p,hp,hl⟩:=Ks8 _ _ _ hs
       have hlen:ty.length - (i + 1)=p.length + r.length:=by rw [← List.length_drop,hp,List.length_append]
       exact ⟨_,rfl,by omega⟩
     rw [hee,Int.toNat_natCast,ih (ty.length - e) (by omega) e rfl,bs]
   rcases Ks3 ty[i] with ⟨h,e⟩ | ⟨h,e⟩ | ⟨h,e⟩ | ⟨h,e⟩ | ⟨h,e⟩ | ⟨h,e⟩ | ⟨h,e⟩ | ⟨h,e⟩ <;> rw [e] <;> simp only []
   ·have hk:Krw ty[i]=0:=by rcases Ks0 ty[i] with h | h | h | h <;> omega
    rw [if_pos (by rfl),he 0 hk,hz _ (by omega)]
   ·have hk:Krw ty[i]=2:=by rcases Ks0 ty[i] with h | h | h | h <;> omega
    exact two hk
   ·have hk:Krw ty[i]=2:=by rcases Ks0 ty[i] with h | h | h | h <;> omega
    exact two hk
   ·have hk:Krw ty[i]=2:=by rcases Ks0 ty[i] with h | h | h | h <;> omega
    exact two hk
   ·have hk:Krw ty[i]=2:=by rcases Ks0 ty[i] with h | h | h | h <;> omega
    exact two hk
   ·have hk:Krw ty[i]=1:=by rcases Ks0 ty[i] with h | h | h | h <;> omega
    rw [he 1 hk,if_neg (by decide),if_pos (by rfl),i1,bs]
   ·have hk:Krw ty[i]=1:=by rcases Ks0 ty[i] with h | h | h | h <;> omega
    rw [he 1 hk,if_neg (by decide),if_pos (by rfl),i1,bs]
   ·have hk:Krw ty[i]=-1:=by rcases Ks0 ty[i] with h | h | h | h <;> omega
    rw [hn hk]; rfl
  ·rw [decide_eq_true (by omega),if_pos rfl]
   unfold Ks9
   rw [List.drop_eq_nil_of_le (by omega),Ks5]
def wtB (ty:List Int):Bool:=decide (ty.length ≤ 40) && (skip 1 ty == some [])
theorem Kse (ty:List Int):(Ks9 ty 1 0 == (ty.length:Int))=(skip 1 ty == some []):=by
 unfold Ks9
 rw [List.drop_zero]
 cases h:skip 1 ty with
 | none=>simp
 | some r =>
  obtain ⟨p,hp,hl⟩:=Ks8 _ _ _ h
  have hlen:ty.length=p.length + r.length:=by rw [hp,List.length_append]
  cases r with
  | nil=>simp
  | cons x xs =>
   simp only [List.length_cons] at hlen ⊢
   simp
   omega
theorem Ksf (ty:List Int) (hty:ty.length ≤ 1099511627776):Kcr ty=some (wtB ty):=by
 unfold Kcr wtB
 by_cases h:ty.length ≤ 40
 ·rw [decide_eq_true (by omega:(ty.length:Int) ≤ 40),if_pos rfl,show (0:Int)=((0:Nat):Int) from rfl,Ksb ty hty 0 (by omega),bs,Kse,decide_eq_true h]
  cases hs:skip 1 ty == some [] with
  | false=>rfl
  | true =>
   have:0 < ty.length:=by
    rcases ty with _ | ⟨c,l⟩
    ·rw [show skip 1 []=none from rfl] at hs; cases hs
    ·simp
   rw [if_pos rfl,decide_eq_true (by omega:(ty.length:Int) > ((0:Nat):Int))]; rfl
 ·rw [decide_eq_false (by omega:¬ (ty.length:Int) ≤ 40),decide_eq_false h]; rfl
theorem Ksg (ty:List Int) (hty:ty.length ≤ 1099511627776):Kjb ty=some (wtB ty):=by
 unfold Kjb wtB
 rw [iIn,bs]
 by_cases h:ty.length ≤ 40
 ·rw [decide_eq_true h]
  by_cases h1:1 ≤ ty.length
  ·have:inB (ty.length:Int) 1 40=true:=by simp only [inB,Bool.and_eq_true,decide_eq_true_eq]; omega
   rw [this,if_pos rfl,show (0:Int)=((0:Nat):Int) from rfl,Ksd ty hty _ 0 rfl,bs,Kse]; rfl
  ·have:inB (ty.length:Int) 1 40=false:=by rw [Bool.eq_false_iff]; intro h'; simp only [inB,Bool.and_eq_true,decide_eq_true_eq] at h'; omega
   have e:ty=[]:=List.length_eq_zero_iff.1 (by omega)
   rw [this,e]; rfl
 ·have:inB (ty.length:Int) 1 40=false:=by rw [Bool.eq_false_iff]; intro h'; simp only [inB,Bool.and_eq_true,decide_eq_true_eq] at h'; omega
  rw [this,decide_eq_false h]; rfl
def Ksh (c:Int):Int:=if 35 ≤ c then -1 else if 19 ≤ c then c - 19 else c - 3
def Ksi (size:Int) (closed:Bool) (c:Int):Bool:=!(decide (Krw c > 0) && decide (c > 2) && (decide (Ksh c ≥ size) || closed && decide (Ksh c < 0)))
theorem Ksj {c:Int} (h:Krw c > 0):Kcu c=some (Ksh c):=by
 have:0 ≤ c∧c ≤ 36:=by rcases Ks0 c with h | h | h | h <;> omega
 unfold Kcu Ksh
 by_cases h1:35 ≤ c
 ·rw [decide_eq_true (by omega:c ≥ 35),if_pos rfl,if_pos h1]
 ·rw [decide_eq_false (by omega:¬ c ≥ 35),if_neg (by decide),if_neg h1]
  by_cases h2:19 ≤ c
  ·rw [decide_eq_true (by omega:c ≥ 19),if_pos rfl,if_pos h2,Kqb (by omega) (by omega)]
  ·rw [decide_eq_false (by omega:¬ c ≥ 19),if_neg (by decide),if_neg h2,Kqb (by omega) (by omega)]
theorem Ksk (ty:List Int) (hty:ty.length ≤ 1099511627776) (size:Int) (cl:Bool):∀ (l:List Int) (i:Nat),ty.drop i=l→Kcz (ty,size,cl,(i:Int))=some (if l.all (Ksi size cl) then .inl () else .inr false):=by
 intro l
 induction l with
 | nil =>
  intro i hl
  rw [Kcz.eq_def]
  simp only
  rw [Kqf (Krt hl)]; rfl
 | cons c l ih =>
  intro i hl
  obtain ⟨hi,hx,hd⟩:=Krs hl
  rw [Kcz.eq_def]
  simp only
  rw [Kqe hi,if_pos rfl,hx,bs,bs,Krz,bs,Kqd (by omega)]
  have ih:=ih (i + 1) hd
  generalize ((i + 1:Nat):Int)=M at ih ⊢
  rw [List.all_cons]
  unfold Ksi at ih ⊢
  by_cases hk:Krw c > 0
  ·simp only [bs,Ksj hk]
   rw [decide_eq_true hk]
   generalize Ksh c=g at ih ⊢
   cases decide (c > 2) <;> cases decide (g ≥ size) <;> cases cl <;> cases decide (g < 0) <;> simp [bs,ih]
  ·rw [decide_eq_false hk]; simp [bs,ih]
theorem Ksl (ty:List Int) (hty:ty.length ≤ 1099511627776) (size:Int) (cl:Bool):Kd2 (ty,size,cl)=some (ty.all (Ksi size cl)):=by
 unfold Kd2
 simp only
 rw [show (0:Int)=((0:Nat):Int) from rfl,Ksk ty hty size cl _ 0 rfl,List.drop_zero,bs]
 cases ty.all (Ksi size cl) <;> rfl
theorem Ksm {α β:Type} {a:Option α} {f:α→Option β} {x:α} (h:a=some x):(a >>= f)=f x:=by rw [h]; rfl
mutual
def tsz:K01→Nat
 | ⟨_,_,_,ks⟩=>1 + Ksn ks
def Ksn:List K01→Nat
 | []=>0
 | k :: ks=>tsz k + Ksn ks
end
mutual
def tms:K01→Nat
 | ⟨_,_,ty,ks⟩=>ty.length + ks.length + Kso ks
def Kso:List K01→Nat
 | []=>0
 | k :: ks=>tms k + Kso ks
end
theorem Ksp (t:K01):tms t=t.fType.length + t.fKids.length + Kso t.fKids:=by cases t; rw [tms]
def Ksq (left n:Nat):Int:=if n ≤ left then ((left - n:Nat):Int) else -1
theorem Ksr {left n:Nat} (h:n ≤ left):Ksq left n=((left - n:Nat):Int):=if_pos h
theorem Kss {left n:Nat} (h:¬ n ≤ left):Ksq left n=-1:=if_neg h
theorem Kst (t:K01) (i:Int):Kdb (t,-1,i)=some (-1):=by
 rw [Kdb.eq_def]
 simp only
 cases decide (i < (t.fKids.length:Int)) <;> rfl
mutual
theorem Ksu:∀ (t:K01) (left:Nat),tms t ≤ 1099511627776→left ≤ 1048576→Kda (t,(left:Int))=some (Ksq left (tsz t))
 | ⟨op,N,ty,ks⟩,left,ht,hl=>by
  rw [tms] at ht
  rw [Kda.eq_def,tsz]
  simp only
  rcases left with _ | l
  ·rw [show wr (((0:Nat):Int) - 1)=-1 from Kqb (by omega) (by omega),Kst,bs,Kss (by omega)]
  ·have h:=Ksv ks ⟨op,N,ty,ks⟩ 0 l rfl (by simp only; omega) (by omega) (by omega)
   rw [Kqb (by omega) (by omega),show ((l + 1:Nat):Int) - 1=(l:Int) by omega,show (0:Int)=((0:Nat):Int) from rfl,h,bs]
   unfold Ksq
   by_cases q:Ksn ks ≤ l
   ·rw [if_pos q,if_pos (by omega),show l + 1 - (1 + Ksn ks)=l - Ksn ks by omega]
   ·rw [if_neg q,if_neg (by omega)]
theorem Ksv:∀ (ks:List K01) (t:K01) (i left:Nat),t.fKids.drop i=ks→t.fKids.length ≤ 1099511627776→Kso ks ≤ 1099511627776→left ≤ 1048576→Kdb (t,(left:Int),(i:Int))=some (Ksq left (Ksn ks))
 | [],t,i,left,hd,hk,ht,hl=>by
  rw [Kdb.eq_def,Ksn]
  simp only
  rw [Kqf (Krt hd)]
  simp [bs,Ksq]
 | k :: ks,t,i,left,hd,hk,ht,hl=>by
  obtain ⟨hi,hx,hd'⟩:=Krs hd
  rw [Kso] at ht
  rw [Kdb.eq_def,Ksn]
  simp only
  rw [Kqe hi,if_pos rfl,bs,decide_eq_true (by omega:((left:Nat):Int) ≥ 0),if_pos rfl,hx,bs,Ksu k left (by omega) hl,bs,Kqd (by omega)]
  by_cases q:tsz k ≤ left
  ·rw [Ksr q,Ksv ks t (i + 1) (left - tsz k) hd' hk (by omega) (by omega)]
   unfold Ksq
   by_cases q2:Ksn ks ≤ left - tsz k
   ·rw [if_pos q2,if_pos (by omega)]; congr 2; omega
   ·rw [if_neg q2,if_neg (by omega)]
  ·rw [Kss q,Kst,Kss (by omega)]
end
def Ksw (op:Int):Int:=if inB op 0 12 then ([0,0,2,3,2,2,1,1,3,1,2,1,2]:List Int).getD op.toNat 0 else -1
def Ksx (op:Int):Bool:=op == 5 || op == 8 || op == 9 || op == 11 || op == 12
def Ksy (op:Int):Bool:=op == 6 || op == 7 || op == 9
def Ksz (op:Int):ByteArray:=([ByteArray.mk #[120],ByteArray.empty,ByteArray.mk #[97,100,100],ByteArray.mk #[105,102],ByteArray.mk #[112,97,105,114],ByteArray.mk #[115,112,108,105,116],ByteArray.mk #[108,101,102,116],
 ByteArray.mk #[114,105,103,104,116],ByteArray.mk #[99,97,115,101],ByteArray.mk #[102,117,110],ByteArray.mk #[97,112,112],ByteArray.mk #[98,111,120],ByteArray.mk #[111,112,101,110]]:List ByteArray).getD op.toNat ByteArray.empty
theorem Kt0 {op:Int} (h:inB op 0 12=true):op=0∨op=1∨op=2∨op=3∨op=4∨op=5∨op=6∨op=7∨op=8∨op=9∨op=10∨op=11∨op=12:=by
 simp only [inB,Bool.and_eq_true,decide_eq_true_eq] at h
 omega
theorem Kt1 (op:Int):Kdh op=some (Ksw op):=by
 unfold Kdh Ksw
 rw [sIn,bs]
 cases h:inB op 0 12
 ·rfl
 ·rcases Kt0 h with rfl | rfl | rfl | rfl | rfl | rfl | rfl | rfl | rfl | rfl | rfl | rfl | rfl <;> rfl
theorem Kt2 (op:Int):Kdk op=some (Ksx op):=by
 unfold Kdk Ksx
 cases op == 5 <;> cases op == 8 <;> cases op == 9 <;> cases op == 11 <;> rfl
theorem Kt3 (op:Int):Kdn op=some (Ksy op):=by
 unfold Kdn Ksy
 cases op == 6 <;> cases op == 7 <;> rfl
def Kt4 (op:Int):K04 × Bool:=if inB op 0 12 then (K04.mk (Ksz op) (Ksw op) (Ksx op) (Ksy op),true) else (K04.mk ByteArray.empty 0 false false,false)
theorem Kt5 (op:Int):Kjl op=some (Kt4 op):=by
 unfold Kjl Kt4
 rw [iIn,bs]
 cases h:inB op 0 12
 ·rfl
 ·rcases Kt0 h with rfl | rfl | rfl | rfl | rfl | rfl | rfl | rfl | rfl | rfl | rfl | rfl | rfl <;> rfl
def Kt6 (op kid:Int):Nat:=if op == 5 && kid == 1 then 2 else if (op == 8 && decide (kid > 0)) || op == 9 || (op == 12 && kid == 1) then 1 else 0
theorem Kt7 (op kid:Int):Kt6 op kid ≤ 2:=by unfold Kt6; split <;> (try split) <;> omega
theorem Kt8 (op kid:Int):Kdw (op,kid)=some ((Kt6 op kid:Nat):Int):=by
 unfold Kdw Kt6
 simp only
 generalize (op == 5)=b1
 generalize (op == 8)=b2
 generalize (op == 9)=b3
 generalize (op == 12)=b4
 generalize (kid == 1)=b5
 generalize decide (kid > 0)=b6
 cases b1 <;> cases b2 <;> cases b3 <;> cases b4 <;> cases b5 <;> cases b6 <;> rfl
theorem Kt9 (op kid:Int):Kjr (op,kid)=some ((Kt6 op kid:Nat):Int):=by
 unfold Kjr Kt6
 simp only
 generalize (op == 5)=b1
 generalize (op == 8)=b2
 generalize (op == 9)=b3
 generalize (op == 12)=b4
 generalize (kid == 1)=b5
 generalize decide (kid > 0)=b6
 cases b1 <;> cases b2 <;> cases b3 <;> cases b4 <;> cases b5 <;> cases b6 <;> rfl
def Kta (g:Int→Bool) (n:Int) (t:K01):Bool:=if t.fOp == 0 then inB t.fN 0 (n - 1) else if t.fOp == 1 then inB t.fN 0 2 else if Ksx t.fOp then g t.fN else t.fN == 0
def Ktb (y:List Int→Bool) (t:K01):Bool:=if Ksy t.fOp then y t.fType else (t.fType.length:Int) == 0
def Ktc (g:Int→Bool) (y:List Int→Bool) (n:Int) (t:K01):Bool:=inB t.fOp 0 12 && ((t.fKids.length:Int) == Ksw t.fOp) && Kta g n t && Ktb y t
mutual
def tOk (g:Int→Bool) (y:List Int→Bool):Nat→K01→Bool
 | n,⟨op,N,ty,ks⟩=>Ktc g y (n:Int) ⟨op,N,ty,ks⟩ && Ktd g y op n 0 ks
def Ktd (g:Int→Bool) (y:List Int→Bool):Int→Nat→Nat→List K01→Bool
 | _,_,_,[]=>true
 | op,n,i,k :: ks=>tOk g y (n + Kt6 op (i:Int)) k && Ktd g y op n (i + 1) ks
end
theorem Kte (g:Int→Bool) (y:List Int→Bool) (n:Nat) (t:K01):tOk g y n t=(Ktc g y (n:Int) t && Ktd g y t.fOp n 0 t.fKids):=by cases t; rw [tOk]
def gN (size:Int) (cl:Bool) (x:Int):Bool:=!(decide (x ≥ size) || decide (x < -1) || cl && decide (x < 0))
def yN (size:Int) (cl:Bool) (ty:List Int):Bool:=wtB ty && ty.all (Ksi size cl)
theorem Ktf (t:K01) (n:Nat) (size:Int) (cl:Bool) (hty:t.fType.length ≤ 1099511627776) (hn:n ≤ 35184372088832):Kdt (t,(n:Int),size,cl)=some (Ktc (gN size cl) (yN size cl) (n:Int) t):=by
 unfold Kdt Ktc
 simp only
 rw [Kt1,bs]
 by_cases hk:(t.fKids.length:Int)=Ksw t.fOp
 ·have hop:inB t.fOp 0 12=true:=by
   cases h:inB t.fOp 0 12
   ·unfold Ksw at hk; rw [h] at hk; simp at hk
   ·rfl
  rw [show ((t.fKids.length:Int) != Ksw t.fOp)=false by rw [hk]; exact Kql,if_neg (by decide),show ((t.fKids.length:Int) == Ksw t.fOp)=true by rw [hk]; simp,hop]
  refine (Ksm (x:=if Kta (gN size cl) (n:Int) t then .inl () else .inr false) ?_).trans ?_
  ·unfold Kta gN
   rw [sIn,Kqb (by omega) (by omega),sIn,Kt2]
   simp only [bs]
   generalize inB t.fN 0 ((n:Int) - 1)=b1
   generalize inB t.fN 0 2=b2
   generalize Ksx t.fOp=b3
   rw [show (t.fN != 0)=!(t.fN == 0) from rfl]
   generalize (t.fN == 0)=b4
   generalize decide (t.fN ≥ size)=b5
   generalize decide (t.fN < -1)=b6
   generalize decide (t.fN < 0)=b7
   generalize (t.fOp == 0)=b8
   generalize (t.fOp == 1)=b9
   cases b8
   ·cases b9
    ·cases b3
     ·cases b4 <;> rfl
     ·cases b5 <;> cases b6 <;> cases cl <;> cases b7 <;> rfl
    ·cases b2 <;> rfl
   ·cases b1 <;> rfl
  ·cases Kta (gN size cl) (n:Int) t
   ·simp
   ·unfold Ktb yN
    simp only [if_true]
    rw [Kt3,bs]
    cases Ksy t.fOp
    ·simp
    ·simp only [if_true]
     rw [Ksf _ hty,Ksl _ hty]
     cases wtB t.fType <;> simp [bs]
 ·rw [show ((t.fKids.length:Int) != Ksw t.fOp)=true by simpa using hk,if_pos rfl,show ((t.fKids.length:Int) == Ksw t.fOp)=false by simpa using hk]
  simp
mutual
theorem Ktg (size:Int) (cl:Bool):∀ (t:K01) (n:Nat),tms t ≤ 1099511627776→n + 2 * tms t ≤ 35184372088832→Ke0 (t,(n:Int),size,cl)=some (tOk (gN size cl) (yN size cl) n t)
 | ⟨op,N,ty,ks⟩,n,ht,hn=>by
  rw [tms] at ht hn
  rw [Ke0.eq_def,tOk]
  simp only
  rw [Ktf _ n size cl (by simp only; omega) (by omega),bs]
  cases hb:Ktc (gN size cl) (yN size cl) (n:Int) ⟨op,N,ty,ks⟩
  ·rfl
  ·have h:=Kth size cl ks ⟨op,N,ty,ks⟩ n 0 rfl (by simp only; omega) (by omega) (by omega)
   rw [if_pos rfl,show (0:Int)=((0:Nat):Int) from rfl,h,bs]
   simp only
   cases Ktd (gN size cl) (yN size cl) op n 0 ks <;> rfl
theorem Kth (size:Int) (cl:Bool):∀ (ks:List K01) (t:K01) (n i:Nat),t.fKids.drop i=ks→t.fKids.length ≤ 1099511627776→Kso ks ≤ 1099511627776→n + 2 * (ks.length + Kso ks) ≤ 35184372088832 →
  Ke1 (t,(n:Int),size,cl,(i:Int))=some (if Ktd (gN size cl) (yN size cl) t.fOp n i ks then .inl () else .inr false)
 | [],t,n,i,hd,hk,ht,hn=>by
  rw [Ke1.eq_def,Ktd]
  simp only
  rw [Kqf (Krt hd)]; rfl
 | k :: ks,t,n,i,hd,hk,ht,hn=>by
  obtain ⟨hi,hx,hd'⟩:=Krs hd
  rw [Kso] at ht hn
  rw [List.length_cons] at hn
  have ha:=Kt7 t.fOp (i:Int)
  rw [Ke1.eq_def,Ktd]
  simp only
  rw [Kqe hi,if_pos rfl,hx,bs,Kt8,bs,Kqb (by omega) (by omega),show (n:Int) + ((Kt6 t.fOp (i:Int):Nat):Int)=((n + Kt6 t.fOp (i:Int):Nat):Int) by omega]
  rw [Ktg size cl k (n + Kt6 t.fOp (i:Int)) (by omega) (by omega),bs,Kqd (by omega)]
  cases tOk (gN size cl) (yN size cl) (n + Kt6 t.fOp (i:Int)) k
  ·rfl
  ·rw [if_pos rfl,Kth size cl ks t n (i + 1) hd' hk (by omega) (by omega),Bool.true_and]
end
def Kti (ok:Bool) (nodes sz:Nat):Int:=if ok && decide (nodes + sz ≤ 400) then ((nodes + sz:Nat):Int) else 401
def szB (left:Int) (n:Nat):Int:=if left - (n:Int) < 0 then -1 else left - (n:Int)
theorem Ktj (left:Int) (n:Nat):(szB left n=-1∧left < n)∨(szB left n=left - n∧(n:Int) ≤ left):=by
 unfold szB
 by_cases h:left - (n:Int) < 0
 ·rw [if_pos h]; left; omega
 ·rw [if_neg h]; right; omega
theorem Ktk (a:List Int) (left:Int) (h1:0 ≤ left) (h2:left ≤ 1048576) (ha:a.length ≤ 9223372036854775807):K8e (a,left)=some (szB left a.length):=by
 unfold K8e szB
 simp only
 rw [Kqb (by omega) (by omega)]
 by_cases h:left - (a.length:Int) < 0
 ·rw [decide_eq_true h,if_pos rfl,if_pos h]
 ·rw [decide_eq_false h,if_neg (by decide),if_neg h]
mutual
def tln:K01→Prop
 | ⟨_,N,ty,ks⟩=>ty.length ≤ 9223372036854775807∧ks.length ≤ 9223372036854775807∧Ktl ks∧(-9223372036854775808 ≤ N∧N ≤ 9223372036854775807)
def Ktl:List K01→Prop
 | []=>True
 | k :: ks=>tln k∧Ktl ks
end
mutual
theorem Ktm:∀ (t:K01) (left:Int),tln t→0 ≤ left→left ≤ 1048576→K8v (t,left)=some (szB left (tms t))
 | ⟨op,N,ty,ks⟩,left,hl,h1,h2=>by
  rw [tln] at hl
  rw [K8v.eq_def,tms]
  simp only
  rw [Ktk ty left h1 h2 hl.1,bs]
  rcases Ktj left ty.length with ⟨e,h⟩ | ⟨e,h⟩
  ·rw [e,decide_eq_true (by decide),if_pos rfl]
   unfold szB; rw [if_pos (by omega)]
  ·rw [e,decide_eq_false (by omega),if_neg (by decide),K8w.eq_def]
   simp only
   rw [Kqb (by omega) (by omega)]
   by_cases h3:left - (ty.length:Int) - (ks.length:Int) < 0
   ·rw [decide_eq_true h3,if_pos rfl,bs,decide_eq_true (by decide),if_pos rfl]
    unfold szB; rw [if_pos (by omega)]
   ·obtain ⟨m,hm⟩:∃ m:Nat,left - (ty.length:Int) - (ks.length:Int)=(m:Int):=⟨(left - (ty.length:Int) - (ks.length:Int)).toNat,by omega⟩
    rw [decide_eq_false h3,if_neg (by decide),hm,show (0:Int)=((0:Nat):Int) from rfl,Ktn ks ks 0 m rfl hl.2.1 hl.2.2.1 (by omega),bs]
    unfold szB
    by_cases q:m < Kso ks
    ·rw [if_pos q,if_pos (by omega)]; rfl
    ·rw [if_neg q,if_neg (by omega)]
     simp only [bs]
     rw [decide_eq_false (by omega),if_neg (by decide)]; congr 1; omega
theorem Ktn:∀ (ks a:List K01) (i left:Nat),a.drop i=ks→a.length ≤ 9223372036854775807→Ktl ks→left ≤ 1048576→K8x (a,(left:Int),(i:Int))=some (if left < Kso ks then .inr (-1) else .inl ((left - Kso ks:Nat):Int))
 | [],a,i,left,hd,ha,hl,h=>by
  rw [K8x.eq_def,Kso]
  simp only
  rw [Kqf (Krt hd)]
  simp
 | k :: ks,a,i,left,hd,ha,hl,h=>by
  obtain ⟨hi,hx,hd'⟩:=Krs hd
  rw [Ktl] at hl
  rw [K8x.eq_def,Kso]
  simp only
  rw [Kqe hi,if_pos rfl,hx,bs,Ktm k left hl.1 (by omega) (by omega),bs,Kqd (by omega)]
  rcases Ktj left (tms k) with ⟨e,q⟩ | ⟨e,q⟩
  ·rw [e,decide_eq_true (by decide),if_pos rfl,if_pos (by omega)]
  ·rw [e,decide_eq_false (by omega),if_neg (by decide),show (left:Int) - ((tms k:Nat):Int)=((left - tms k:Nat):Int) by omega,Ktn ks a (i + 1) (left - tms k) hd' ha hl.2 (by omega)]
   by_cases q2:left - tms k < Kso ks
   ·rw [if_pos q2,if_pos (by omega)]
   ·rw [if_neg q2,if_neg (by omega)]; congr 3; omega
end
mutual
theorem Kto:∀ (t:K01),tms t ≤ 1099511627776→Ka4 t=some t
 | ⟨op,N,ty,ks⟩,h=>by
  rw [tms] at h
  rw [Ka4.eq_def]
  simp only
  rw [Kqi ty (by omega),bs,Ka5.eq_def]
  have:chk (0 ≤ (ks.length:Int)∧(Int.toNat (ks.length:Int)) * 64 ≤ 140737488355328)=some ():=by
   unfold chk; rw [if_pos]; refine ⟨by omega,?_⟩; rw [Int.toNat_natCast]; omega
  rw [this,bs,Int.toNat_natCast,show (0:Int)=((0:Nat):Int) from rfl,Ktp ks ks (List.replicate ks.length (K01.mk ((0:Nat):Int) ((0:Nat):Int) [] [])) 0 rfl (by omega) (by omega) (by simp) rfl]
  rfl
theorem Ktp:∀ (ks a out:List K01) (i:Nat),a.drop i=ks→a.length ≤ 1099511627776→Kso ks ≤ 1099511627776→out.length=a.length→out.take i=a.take i→Ka6 (a,out,(i:Int))=some a
 | [],a,out,i,hd,ha,hl,ho,ht=>by
  rw [Ka6.eq_def]
  simp only
  have hle:=Krt hd
  rw [Kqf hle]
  rw [List.take_of_length_le (by omega),List.take_of_length_le (by omega)] at ht
  simp [ht]
 | k :: ks,a,out,i,hd,ha,hl,ho,ht=>by
  obtain ⟨hi,hx,hd'⟩:=Krs hd
  have hk:a[i]=k:=by rw [Kqc hi] at hx; exact Option.some.inj hx
  rw [Kso] at hl
  rw [Ka6.eq_def]
  simp only
  rw [Kqe hi,if_pos rfl,hx,bs,Kto k (by omega),bs,Kqc (by omega),bs,Kqd (by omega),Int.toNat_natCast]
  exact Ktp ks a _ (i + 1) hd' ha (by omega) (by simpa using ho) (by rw [← hk]; exact Kqg ho hi ht)
end
mutual
theorem Ktq:∀ (t:K01),tms t ≤ 1099511627776→Kpo (t,t)=some true
 | ⟨op,N,ty,ks⟩,h=>by
  rw [tms] at h
  rw [Kpo.eq_def]
  simp only
  rw [Kql,if_neg (by decide),Kql,if_neg (by decide),Kqn ty (by omega),bs,if_pos rfl,Kpp.eq_def]
  simp only
  rw [Kql,if_neg (by decide),show (0:Int)=((0:Nat):Int) from rfl,Ktr ks ks 0 rfl (by omega) (by omega)]
  rfl
theorem Ktr:∀ (ks a:List K01) (i:Nat),a.drop i=ks→a.length ≤ 1099511627776→Kso ks ≤ 1099511627776→Kpq (a,a,(i:Int))=some (.inl ())
 | [],a,i,hd,ha,hl=>by
  rw [Kpq.eq_def]
  simp only
  rw [Kqf (Krt hd)]
  rfl
 | k :: ks,a,i,hd,ha,hl=>by
  obtain ⟨hi,hx,hd'⟩:=Krs hd
  rw [Kso] at hl
  rw [Kpq.eq_def]
  simp only
  rw [Kqe hi,if_pos rfl,hx,bs,bs,Ktq k (by omega),bs,if_pos rfl,Kqd (by omega)]
  exact Ktr ks a (i + 1) hd' ha (by omega)
end
theorem Kts {ty:List Int} (h:wtB ty=true):ty.length ≤ 40:=by
 unfold wtB at h
 rw [Bool.and_eq_true,decide_eq_true_eq] at h
 exact h.1
theorem Ktt {g:Int→Bool} {y:List Int→Bool} {n:Nat} {t:K01} (h:tOk g y n t=true):Ktc g y (n:Int) t=true∧Ktd g y t.fOp n 0 t.fKids=true:=by
 rw [Kte,Bool.and_eq_true] at h; exact h
theorem Ktu {n b:Nat} (h:n * b ≤ 140737488355328):Qdq n b=some ():=by unfold Qdq chk; rw [if_pos h]
theorem Ktv {g:Int→Bool} {y:List Int→Bool} {n:Int} {t:K01} (h:Ktc g y n t=true):inB t.fOp 0 12=true∧(t.fKids.length:Int)=Ksw t.fOp:=by
 unfold Ktc at h
 simp only [Bool.and_eq_true,beq_iff_eq] at h
 exact ⟨h.1.1.1,h.1.1.2⟩
theorem Ktw (l:List Int) (h:l.length ≤ 1099511627776):Ket l=some l:=by
 unfold Ket
 rw [Ktu (by simp only [List.length_nil]; omega),bs]
theorem Ktx (l:List Int) (h:l.length ≤ 1099511627776):Klx l=some l:=by
 unfold Klx
 rw [Ktu (by simp only [List.length_nil]; omega),bs]
structure Kty (s:K00) (n:Nat):Prop where
 size:s.fSize=(n:Int)
 lo:2 ≤ n
 hi:n ≤ 16
 lp:s.fPlus.length=n * n
 lt:s.fTimes.length=n * n
 lb:s.fBelow.length=n * n
def Ktz (s:K00) (n i:Nat):Bool:=inB (s.fPlus.getD i 0) 0 ((n:Int) - 1) && inB (s.fTimes.getD i 0) 0 ((n:Int) - 1)
section
variable {s:K00} {n:Nat} (h:Kty s n)
include h
theorem nn:n * n ≤ 256:=Nat.le_trans (Nat.mul_le_mul h.hi h.hi) (by decide)
theorem Ku0 {i:Nat} (hi:i < n * n):idx s.fPlus (i:Int)=some (s.fPlus.getD i 0):=by
 have hl:i < s.fPlus.length:=by rw [h.lp]; exact hi
 rw [Kqc hl,List.getD_eq_getElem?_getD,List.getElem?_eq_getElem hl]; rfl
theorem Ku1 {i:Nat} (hi:i < n * n):idx s.fTimes (i:Int)=some (s.fTimes.getD i 0):=by
 have hl:i < s.fTimes.length:=by rw [h.lt]; exact hi
 rw [Kqc hl,List.getD_eq_getElem?_getD,List.getElem?_eq_getElem hl]; rfl
theorem Ku2:wr (s.fSize - 1)=(n:Int) - 1:=by
 have:=h.lo; have:=h.hi
 rw [h.size,Kqb (by omega) (by omega)]
theorem Ku3:∀ (k i:Nat),i + k=n * n→Kau (s,(i:Int))=some (if (List.range' i k).all (Ktz s n) then .inl () else .inr false):=by
 have hn:=nn h
 intro k
 induction k with
 | zero =>
  intro i hm
  rw [Kau.eq_def]
  simp only
  rw [h.lp,Kqf (by omega)]
  rfl
 | succ k ih =>
  intro i hm
  rw [Kau.eq_def]
  simp only
  rw [h.lp,Kqe (by omega),if_pos rfl,Ku0 h (by omega),Ku1 h (by omega),Ku2 h]
  have ih:=ih (i + 1) (by omega)
  rw [Kqd (by omega),List.range'_succ,List.all_cons]
  generalize ((i + 1:Nat):Int)=M at ih ⊢
  generalize (List.range' (i + 1) k).all (Ktz s n)=r at ih ⊢
  simp only [bs,sIn]
  cases h1:inB (s.fPlus.getD i 0) 0 ((n:Int) - 1) <;> cases h2:inB (s.fTimes.getD i 0) 0 ((n:Int) - 1) <;> cases r <;> simp only [Ktz,h1,h2,ih,bs,Bool.not_true,Bool.not_false,Bool.true_and,Bool.false_and,Bool.and_true,Bool.and_false,if_true,if_false,Bool.false_eq_true]
theorem Ku4:∀ (k i:Nat),i + k=n * n→Kin (s,(i:Int))=some (if (List.range' i k).all (Ktz s n) then .inl () else .inr false):=by
 have hn:=nn h
 intro k
 induction k with
 | zero =>
  intro i hm
  rw [Kin.eq_def]
  simp only
  rw [h.lp,Kqf (by omega)]
  rfl
 | succ k ih =>
  intro i hm
  rw [Kin.eq_def]
  simp only
  rw [h.lp,Kqe (by omega),if_pos rfl,Ku0 h (by omega),Ku1 h (by omega)]
  have ih:=ih (i + 1) (by omega)
  rw [Kqd (by omega),List.range'_succ,List.all_cons]
  generalize ((i + 1:Nat):Int)=M at ih ⊢
  generalize (List.range' (i + 1) k).all (Ktz s n)=r at ih ⊢
  have hh:∀ x,Khq (s,x)=some (inB x 0 ((n:Int) - 1)):=fun x=>by
   unfold Khq
   simp only
   rw [Ku2 h,iIn,bs]
  simp only [bs,hh]
  cases h1:inB (s.fPlus.getD i 0) 0 ((n:Int) - 1) <;> cases h2:inB (s.fTimes.getD i 0) 0 ((n:Int) - 1) <;> cases r <;> simp only [Ktz,h1,h2,ih,bs,Bool.not_true,Bool.not_false,Bool.true_and,Bool.false_and,Bool.and_true,Bool.and_false,if_true,if_false,Bool.false_eq_true]
theorem Ku5 (he:(List.range' 0 (n * n)).all (Ktz s n)=true):Tab s n:=by
 rw [List.all_eq_true] at he
 have hent:∀ i,i < n * n→Ktz s n i=true:=fun i hi=>he i (by rw [List.mem_range'_1]; omega)
 refine ⟨h.size,h.lo,h.hi,h.lp,h.lt,h.lb,fun i hi=>?_,fun i hi=>?_⟩
 ·have:=hent i (by rw [← h.lp]; exact hi)
  simp only [Ktz,inB,Bool.and_eq_true,decide_eq_true_eq,List.getD_eq_getElem?_getD,List.getElem?_eq_getElem hi,Option.getD_some] at this
  omega
 ·have:=hent i (by rw [← h.lt]; exact hi)
  simp only [Ktz,inB,Bool.and_eq_true,decide_eq_true_eq,List.getD_eq_getElem?_getD,List.getElem?_eq_getElem hi,Option.getD_some] at this
  omega
end
def Ku6 (s:K00):Bool:=inB s.fSize 2 16 && !((s.fPlus.length:Int) != (wr (s.fSize * s.fSize))) && !((s.fTimes.length:Int) != (wr (s.fSize * s.fSize))) && !((s.fBelow.length:Int) != (wr (s.fSize * s.fSize)))
theorem Ku7 {s:K00} (h:Ku6 s=true):Kty s s.fSize.toNat:=by
 unfold Ku6 at h
 simp only [Bool.and_eq_true,Bool.not_eq_true',inB,decide_eq_true_eq,bne_eq_false_iff_eq] at h
 obtain ⟨⟨⟨⟨h1,h2⟩,h3⟩,h4⟩,h5⟩:=h
 obtain ⟨n,hn⟩:∃ n:Nat,s.fSize=(n:Int):=⟨s.fSize.toNat,by omega⟩
 rw [hn] at h1 h2 h3 h4 h5 ⊢
 have h256:n * n ≤ 256:=Nat.le_trans (Nat.mul_le_mul (by omega:n ≤ 16) (by omega:n ≤ 16)) (by decide)
 have e:(n:Int) * (n:Int)=((n * n:Nat):Int):=by simp
 rw [e] at h3 h4 h5
 generalize hm:n * n=m at *
 rw [Kqb (by omega) (by omega)] at h3 h4 h5
 rw [Int.toNat_natCast]
 exact ⟨hn,by omega,by omega,by omega,by omega,by omega⟩
def Ku8 (s:K00):Bool:=Ku6 s && (List.range' 0 (s.fSize.toNat * s.fSize.toNat)).all (Ktz s s.fSize.toNat) && Krl s s.fSize.toNat
theorem Ku9 {s:K00} (h:Ku8 s=true):Tab s s.fSize.toNat:=by
 unfold Ku8 at h
 simp only [Bool.and_eq_true] at h
 exact Ku5 (Ku7 h.1.1) h.1.2
theorem Kua (s:K00):Kc8 s=some (Ku8 s):=by
 unfold Kc8 Kax Ku8
 rw [sIn]
 cases hf:Ku6 s with
 | false =>
  unfold Ku6 at hf
  cases h1:inB s.fSize 2 16 <;> cases h2:((s.fPlus.length:Int) != (wr (s.fSize * s.fSize))) <;> cases h3:((s.fTimes.length:Int) != (wr (s.fSize * s.fSize))) <;> cases h4:((s.fBelow.length:Int) != (wr (s.fSize * s.fSize))) <;> simp_all [bs]
 | true =>
  have F:=Ku7 hf
  have hl:=Ku3 F (s.fSize.toNat * s.fSize.toNat) 0 (by omega)
  rw [show ((0:Nat):Int)=0 from rfl] at hl
  unfold Ku6 at hf
  simp only [Bool.and_eq_true,Bool.not_eq_true'] at hf
  obtain ⟨⟨⟨h1,h2⟩,h3⟩,h4⟩:=hf
  cases he:(List.range' 0 (s.fSize.toNat * s.fSize.toNat)).all (Ktz s s.fSize.toNat) with
  | false=>rw [he] at hl; simp [bs,h1,h2,h3,h4,hl]
  | true =>
   have T:=Ku5 F he
   have hl2:=Krq T s.fSize.toNat 0 (by omega)
   rw [show ((0:Nat):Int)=0 from rfl] at hl2
   rw [he] at hl
   have hm:(List.range' 0 s.fSize.toNat).all (fun a=>Kr5 s s.fSize.toNat a && (List.range' 0 s.fSize.toNat).all fun b=>Kri s s.fSize.toNat a b && (List.range' 0 s.fSize.toNat).all fun c=>Kr6 s s.fSize.toNat a b c)=Krl s s.fSize.toNat:=rfl
   rw [hm] at hl2
   cases hs:Krl s s.fSize.toNat <;> rw [hs] at hl2 <;> simp [bs,h1,h2,h3,h4,hl,hl2]
theorem Kub (s:K00):Kj2 s=some (Ku8 s):=by
 unfold Kj2 Ku8
 rw [iIn]
 cases hf:Ku6 s with
 | false =>
  unfold Ku6 at hf
  cases h1:inB s.fSize 2 16 <;> cases h2:((s.fPlus.length:Int) != (wr (s.fSize * s.fSize))) <;> cases h3:((s.fTimes.length:Int) != (wr (s.fSize * s.fSize))) <;> cases h4:((s.fBelow.length:Int) != (wr (s.fSize * s.fSize))) <;> simp_all [bs]
 | true =>
  have F:=Ku7 hf
  have hl:=Ku4 F (s.fSize.toNat * s.fSize.toNat) 0 (by omega)
  rw [show ((0:Nat):Int)=0 from rfl] at hl
  unfold Ku6 at hf
  simp only [Bool.and_eq_true,Bool.not_eq_true'] at hf
  obtain ⟨⟨⟨h1,h2⟩,h3⟩,h4⟩:=hf
  cases he:(List.range' 0 (s.fSize.toNat * s.fSize.toNat)).all (Ktz s s.fSize.toNat) with
  | false=>rw [he] at hl; simp [bs,h1,h2,h3,h4,hl]
  | true =>
   have T:=Ku5 F he
   have hl2:=Krr T s.fSize.toNat 0 (by omega)
   rw [show ((0:Nat):Int)=0 from rfl] at hl2
   rw [he] at hl
   have hm:(List.range' 0 s.fSize.toNat).all (fun a=>Kr5 s s.fSize.toNat a && (List.range' 0 s.fSize.toNat).all fun b=>Kri s s.fSize.toNat a b && (List.range' 0 s.fSize.toNat).all fun c=>Kr6 s s.fSize.toNat a b c)=Krl s s.fSize.toNat:=rfl
   rw [hm] at hl2
   cases hs:Krl s s.fSize.toNat <;> rw [hs] at hl2 <;> simp [bs,h1,h2,h3,h4,hl,hl2]
section
variable {s:K00} {n:Nat} (h:Tab s n)
include h
theorem Kuc:wr (s.fSize - 1)=(n:Int) - 1:=by
 have:=h.lo; have:=h.hi
 rw [h.size,Kqb (by omega) (by omega)]
end
inductive Ty where
 | num
 | bin (c:Int) (a b:Ty)
 | un (c:Int) (a:Ty)
namespace Ty
def code:Ty→List Int
 | num=>[0]
 | bin c a b=>c :: (a.code ++ b.code)
 | un c a=>c :: a.code
def ok:Ty→Prop
 | num=>True
 | bin c a b=>Krw c=2∧a.ok∧b.ok
 | un c a=>Krw c=1∧a.ok
def kids:Ty→List Ty
 | num=>[]
 | bin _ a b=>[a,b]
 | un _ a=>[a]
def hd:Ty→Int
 | num=>0
 | bin c _ _=>c
 | un c _=>c
end Ty
def Kud:List Ty→List Int
 | []=>[]
 | t :: l=>t.code ++ Kud l
theorem Kue (T:Ty):T.code=T.hd :: Kud T.kids:=by cases T <;> simp [Ty.code,Ty.hd,Ty.kids,Kud]
theorem Kuf (T:Ty):1 ≤ T.code.length:=by rw [Kue]; simp
theorem Kug (T:Ty):∀ (m:Nat) (l:List Int),T.ok→skip (m + 1) (T.code ++ l)=skip m l:=by
 induction T with
 | num =>
  intro m l _
  rw [Ty.code,List.singleton_append,Ks6,show Krw 0=0 from rfl,if_neg (by decide)]; rfl
 | bin c a b iha ihb =>
  intro m l h
  rw [Ty.code,List.cons_append,Ks6,h.1,if_neg (by decide),List.append_assoc,show m + (2:Int).toNat=(m + 1) + 1 from rfl,iha _ _ h.2.1,ihb _ _ h.2.2]
 | un c a ih =>
  intro m l h
  rw [Ty.code,List.cons_append,Ks6,h.1,if_neg (by decide),show m + (1:Int).toNat=m + 1 from rfl,ih _ _ h.2]
theorem Kuh (l:List Int):∀ (m:Nat) (r:List Int),skip m l=some r→∃ Ts:List Ty,Ts.length=m∧(∀ T ∈ Ts,T.ok)∧l=Kud Ts ++ r:=by
 induction l with
 | nil =>
  intro m r h
  cases m with
  | zero=>rw [Ks4] at h; cases h; exact ⟨[],rfl,fun _ h=>(by cases h),rfl⟩
  | succ m=>rw [Ks5] at h; cases h
 | cons c l ih =>
  intro m r h
  cases m with
  | zero=>rw [Ks4] at h; cases h; exact ⟨[],rfl,fun _ h=>(by cases h),rfl⟩
  | succ m =>
   rw [Ks6] at h
   by_cases hk:Krw c=-1
   ·rw [if_pos hk] at h; cases h
   ·rw [if_neg hk] at h
    obtain ⟨Ts,h1,h2,h3⟩:=ih _ _ h
    rcases Ks0 c with ⟨q,e⟩ | ⟨q,e⟩ | ⟨q,e⟩ | ⟨q,e⟩
    ·subst q
     rw [e] at h1
     exact ⟨.num :: Ts,by simpa using h1,fun T hT=>by rcases List.mem_cons.1 hT with rfl | hT; exact trivial; exact h2 T hT,by rw [h3]; rfl⟩
    ·rw [e] at h1
     match Ts,h1 with
     | a :: b :: Ts,h1 =>
      refine ⟨.bin c a b :: Ts,by simpa using h1,fun T hT=>?_,by rw [h3]; simp [Kud,Ty.code]⟩
      rcases List.mem_cons.1 hT with rfl | hT
      ·exact ⟨e,h2 a List.mem_cons_self,h2 b (List.mem_cons_of_mem _ List.mem_cons_self)⟩
      ·exact h2 T (List.mem_cons_of_mem _ (List.mem_cons_of_mem _ hT))
     | [_],h1=>exact absurd h1 (by simp)
     | [],h1=>exact absurd h1 (by simp)
    ·rw [e] at h1
     match Ts,h1 with
     | a :: Ts,h1 =>
      refine ⟨.un c a :: Ts,by simpa using h1,fun T hT=>?_,by rw [h3]; simp [Kud,Ty.code]⟩
      rcases List.mem_cons.1 hT with rfl | hT
      ·exact ⟨e,h2 a List.mem_cons_self⟩
      ·exact h2 T (List.mem_cons_of_mem _ hT)
     | [],h1=>exact absurd h1 (by simp)
    ·exact absurd e hk
theorem Kui {ty:List Int} (h:wtB ty=true):∃ T:Ty,T.ok∧ty=T.code∧ty.length ≤ 40:=by
 have hl:=Kts h
 unfold wtB at h
 rw [Bool.and_eq_true,beq_iff_eq] at h
 obtain ⟨Ts,h1,h2,h3⟩:=Kuh _ _ _ h.2
 match Ts,h1 with
 | [T],_=>exact ⟨T,h2 T List.mem_cons_self,by rw [h3]; simp [Kud],hl⟩
theorem Kuj {T:Ty} (h:T.ok) (hl:T.code.length ≤ 40):wtB T.code=true:=by
 unfold wtB
 have:=Kug T 0 [] h
 rw [List.append_nil,Ks4] at this
 rw [decide_eq_true hl,show (1:Nat)=0 + 1 from rfl,this]; rfl
theorem Kuk {T:Ty} (h:T.ok):∀ K ∈ T.kids,K.ok:=by
 intro K hK
 cases T with
 | num=>cases hK
 | bin c a b=>rcases List.mem_cons.1 hK with rfl | hK; exact h.2.1; rw [List.mem_singleton.1 hK]; exact h.2.2
 | un c a=>rw [List.mem_singleton.1 hK]; exact h.2
theorem Kul {pre:List Int} {T:Ty} {post:List Int} (h:T.ok):Ks9 (pre ++ (T.code ++ post)) 1 pre.length=((pre.length + T.code.length:Nat):Int):=by
 unfold Ks9
 rw [List.drop_left,show (1:Nat)=0 + 1 from rfl,Kug T 0 post h,Ks4]
 simp only [List.length_append]
 omega
theorem Kum {α:Type} (p m q:List α) (mx:Option Int) (hmx:mx=none∨mx=some ((p.length + m.length:Nat):Int)):cut (p ++ (m ++ q)) (some (p.length:Int)) (some ((p.length + m.length:Nat):Int)) mx=some m:=by
 unfold cut
 have e:((p ++ (m ++ q)).take (p.length + m.length)).drop p.length=m:=by
  rw [← List.append_assoc,← List.length_append,List.take_left,List.drop_left]
 rw [if_pos]
 ·simp only [Option.getD_some,Int.toNat_natCast,e]
 ·rcases hmx with rfl | rfl <;> simp only [Option.getD_some,Option.getD_none,List.length_append] <;> omega
theorem Kun {α:Type} (p q:List α):cut (p ++ q) (some (p.length:Int)) none none=some q:=by
 unfold cut
 rw [if_pos]
 ·simp only [Option.getD_some,Option.getD_none,Int.toNat_natCast,List.take_length,List.drop_left]
 ·simp only [Option.getD_some,Option.getD_none,List.length_append]; omega
theorem Kuo (Ks:List Ty):∀ (pre:List Int) (out:List (List Int)),(∀ K ∈ Ks,K.ok)→(pre ++ Kud Ks).length ≤ 1099511627776→out.length + Ks.length ≤ 1099511627776→Kkt (pre ++ Kud Ks,out,(pre.length:Int))=some (out ++ Ks.map Ty.code):=by
 induction Ks with
 | nil =>
  intro pre out hk hl ho
  rw [show Kud []=[] from rfl,List.append_nil,Kkt.eq_def]
  simp only
  rw [Kqf (Nat.le_refl _)]; simp
 | cons K Ks ih =>
  intro pre out hk hl ho
  have hK:=hk K List.mem_cons_self
  have hp:=Kuf K
  rw [show Kud (K :: Ks)=K.code ++ Kud Ks from rfl] at hl ⊢
  rw [List.length_cons] at ho
  rw [Kkt.eq_def]
  simp only
  rw [Kqe (by simp only [List.length_append]; omega),if_pos rfl,Ksd _ hl _ pre.length rfl,Kul hK,bs,Kum _ _ _ _ (.inr rfl),bs,Ktu (by simp only [List.length_singleton]; omega),bs]
  have:=ih (pre ++ K.code) (out ++ [K.code]) (fun K hK=>hk K (List.mem_cons_of_mem _ hK)) (by rw [List.append_assoc]; exact hl) (by simp; omega)
  rw [List.append_assoc,List.length_append] at this
  rw [this,List.map_cons,List.append_assoc]; rfl
theorem Kup {T:Ty} (h:T.ok) (hl:T.code.length ≤ 1048576):Kkw T.code=some (T.kids.map Ty.code):=by
 unfold Kkw
 have hk:T.kids.length ≤ 2:=by cases T <;> simp [Ty.kids]
 have e:[T.hd] ++ Kud T.kids=T.code:=(Kue T).symm
 have:=Kuo T.kids [T.hd] [] (Kuk h) (by rw [e]; omega) (by simp only [List.length_nil]; omega)
 rw [e] at this
 rw [show (1:Int)=(([T.hd].length:Nat):Int) from rfl,this,bs]; rfl
theorem Kuq {c:Int} {a:Ty} {r:List Int} (ha:a.ok) (hl:(c :: (a.code ++ r)).length ≤ 1099511627776):Kew (c :: (a.code ++ r),0)=some a.code:=by
 unfold Kew
 simp only
 have e:=Kul (pre:=[c]) (post:=r) ha
 have h1:=Ksb (c :: (a.code ++ r)) hl 1 (by simp)
 rw [show (((1:Nat)):Int)=1 from rfl] at h1
 rw [List.length_singleton] at e
 have e':Ks9 (c :: (a.code ++ r)) 1 1=((1 + a.code.length:Nat):Int):=e
 rw [h1,bs,e',if_pos (by rfl)]
 have h2:=Kum [c] a.code r none (.inl rfl)
 rw [List.length_singleton] at h2
 have h2':cut (c :: (a.code ++ r)) (some 1) (some ((1 + a.code.length:Nat):Int)) none=some a.code:=h2
 simp only [List.length_cons,List.length_append] at hl
 rw [h2',bs,Ktw _ (by omega),bs]
theorem Kur {c:Int} {a:Ty} {r:List Int} (ha:a.ok) (hl:(c :: (a.code ++ r)).length ≤ 1099511627776):Kew (c :: (a.code ++ r),1)=some r:=by
 unfold Kew
 simp only
 have e:=Kul (pre:=[c]) (post:=r) ha
 have h1:=Ksb (c :: (a.code ++ r)) hl 1 (by simp)
 rw [show (((1:Nat)):Int)=1 from rfl] at h1
 rw [List.length_singleton] at e
 have e':Ks9 (c :: (a.code ++ r)) 1 1=((1 + a.code.length:Nat):Int):=e
 rw [h1,bs,e',if_neg (by decide)]
 have h2:=Kun (c :: a.code) r
 rw [List.length_cons,List.cons_append,Nat.add_comm] at h2
 simp only [List.length_cons,List.length_append] at hl
 rw [h2,bs,Ktw _ (by omega),bs]
def Kus (s:K00) (g:Int):Bool:=inB g 0 (wr (s.fSize - 1))
theorem Kut (s:K00) (g:Int):Khq (s,g)=some (Kus s g):=by
 unfold Khq Kus
 simp only
 rw [iIn,bs]
def Kuu (s:K00) (c:Int):Bool:=!(((Ks1 c).1 == 3 || (Ks1 c).1 == 4) && !Kus s (Ks1 c).2)
def Kuv (s:K00) (ty:List Int):Bool:=wtB ty && ty.all (Kuu s)
theorem Kuw (s:K00) (ty:List Int) (hty:ty.length ≤ 1099511627776):∀ (l:List Int) (i:Nat),ty.drop i=l→Kjf (s,ty,(i:Int))=some (if l.all (Kuu s) then .inl () else .inr false):=by
 intro l
 induction l with
 | nil =>
  intro i hd
  rw [Kjf.eq_def]
  simp only
  rw [Kqf (Krt hd)]; rfl
 | cons c l ih =>
  intro i hd
  obtain ⟨hi,hx,hd'⟩:=Krs hd
  rw [Kjf.eq_def]
  simp only
  rw [Kqe hi,if_pos rfl,hx,bs,Ks2,bs,Kqd (by omega),ih (i + 1) hd',List.all_cons]
  unfold Kuu
  rcases Ks1 c with ⟨a,b⟩
  simp only [Kut,bs]
  cases a == 3 <;> cases a == 4 <;> cases Kus s b <;> simp [bs]
theorem Kux (s:K00) (ty:List Int) (hty:ty.length ≤ 1099511627776):Kji (s,ty)=some (Kuv s ty):=by
 unfold Kji Kuv
 simp only
 rw [Ksg ty hty,bs]
 cases wtB ty
 ·rfl
 ·rw [if_pos rfl,show (0:Int)=((0:Nat):Int) from rfl,Kuw s ty hty _ 0 rfl,List.drop_zero,bs]
  cases ty.all (Kuu s) <;> rfl
theorem Kuy {s:K00} {n:Nat} (h:Tab s n) (g:Int):Kus s g=inB g 0 ((n:Int) - 1):=by
 unfold Kus; rw [Kuc h]
theorem Kuz {s:K00} {n:Nat} (h:Tab s n) {c:Int}:Kuu s c=Ksi s.fSize true c:=by
 unfold Kuu Ksi Ksh
 have hn:=h.lo
 rw [Kuy h,h.size]
 rcases Ks3 c with ⟨q,e⟩ | ⟨q,e⟩ | ⟨q,e⟩ | ⟨q,e⟩ | ⟨q,e⟩ | ⟨q,e⟩ | ⟨q,e⟩ | ⟨q,e⟩ <;> rw [e]
 ·subst q; rfl
 ·subst q; rfl
 ·subst q; rfl
 ·have hk:Krw c=2:=by rcases Ks0 c with h | h | h | h <;> omega
  rw [hk,if_neg (by omega),if_neg (by omega),decide_eq_true (by omega:c > 2)]
  unfold inB
  rw [decide_eq_true (by omega:c - 3 ≥ 0),decide_eq_false (by omega:¬ c - 3 < 0)]
  by_cases hc:c - 3 ≤ (n:Int) - 1
  ·rw [decide_eq_true hc,decide_eq_false (by omega:¬ c - 3 ≥ (n:Int))]; rfl
  ·rw [decide_eq_false hc,decide_eq_true (by omega:c - 3 ≥ (n:Int))]; rfl
 ·subst q; unfold inB; simp [Krw,Kru,Krv,inB]
 ·have hk:Krw c=1:=by rcases Ks0 c with h | h | h | h <;> omega
  rw [hk,if_neg (by omega),if_pos (by omega),decide_eq_true (by omega:c > 2)]
  unfold inB
  rw [decide_eq_true (by omega:c - 19 ≥ 0),decide_eq_false (by omega:¬ c - 19 < 0)]
  by_cases hc:c - 19 ≤ (n:Int) - 1
  ·rw [decide_eq_true hc,decide_eq_false (by omega:¬ c - 19 ≥ (n:Int))]; rfl
  ·rw [decide_eq_false hc,decide_eq_true (by omega:c - 19 ≥ (n:Int))]; rfl
 ·subst q; unfold inB; simp [Krw,Kru,Krv,inB]
 ·have hk:Krw c=-1:=by rcases Ks0 c with h | h | h | h <;> omega
  rw [hk]; simp
theorem Kv0 {s:K00} {n:Nat} (h:Tab s n) (ty:List Int):Kuv s ty=yN s.fSize true ty:=by
 unfold Kuv yN
 rw [show Kuu s=Ksi s.fSize true from funext fun c=>Kuz h]
def Kv1 (s:K00) (ty:List Int):Bool:=Ku8 s && Kuv s ty
theorem Kv2 (s:K00) (ty:List Int) (hty:ty.length ≤ 1099511627776):Kd5 (s,ty)=some (Kv1 s ty):=by
 unfold Kd5 Kv1
 simp only
 rw [Kua,bs]
 cases hs:Ku8 s
 ·rfl
 ·rw [if_pos rfl,Ksf ty hty,bs,Ksl ty hty,Bool.true_and,Kv0 (Ku9 hs)]
  unfold yN
  cases wtB ty <;> rfl
theorem Kv3 {α:Type} (x:α) (l:List α):idx (x :: l) 0=some x:=rfl
theorem Kv4 {a b:Nat} (ha:a ≤ 1099511627776) (hb:b ≤ 1099511627776):wr ((a:Int) + (b:Int))=((a + b:Nat):Int):=by rw [Kqb (by omega) (by omega)]; omega
theorem Kv5 (a:List Bool) (left:Int) (h1:0 ≤ left) (h2:left ≤ 1048576) (ha:a.length ≤ 9223372036854775807):K8h (a,left)=some (szB left a.length):=by
 unfold K8h szB
 simp only
 rw [Kqb (by omega) (by omega)]
 by_cases h:left - (a.length:Int) < 0
 ·rw [decide_eq_true h,if_pos rfl,if_pos h]
 ·rw [decide_eq_false h,if_neg (by decide),if_neg h]
def sln (s:K00):Prop:=s.fPlus.length ≤ 9223372036854775807∧s.fTimes.length ≤ 9223372036854775807∧s.fBelow.length ≤ 9223372036854775807
def sms (s:K00):Nat:=s.fPlus.length + s.fTimes.length + s.fBelow.length
theorem Kv6 (s:K00) (left:Int) (hs:sln s) (h1:0 ≤ left) (h2:left ≤ 1048576):K8k (s,left)=some (szB left (sms s)):=by
 obtain ⟨l1,l2,l3⟩:=hs
 unfold K8k sms
 simp only
 rw [Ktk _ _ h1 h2 l1,bs]
 rcases Ktj left s.fPlus.length with ⟨e,hl⟩ | ⟨e,hl⟩
 ·rw [e,decide_eq_true (by decide),if_pos rfl]; unfold szB; rw [if_pos (by omega)]
 ·rw [e,decide_eq_false (by omega),if_neg (by decide),Ktk _ _ (by omega) (by omega) l2,bs]
  rcases Ktj (left - (s.fPlus.length:Int)) s.fTimes.length with ⟨e2,hl2⟩ | ⟨e2,hl2⟩
  ·rw [e2,decide_eq_true (by decide),if_pos rfl]; unfold szB; rw [if_pos (by omega)]
  ·rw [e2,decide_eq_false (by omega),if_neg (by decide),Kv5 _ _ (by omega) (by omega) l3,bs]
   rcases Ktj (left - (s.fPlus.length:Int) - (s.fTimes.length:Int)) s.fBelow.length with ⟨e3,hl3⟩ | ⟨e3,hl3⟩
   ·rw [e3,decide_eq_true (by decide),if_pos rfl]; unfold szB; rw [if_pos (by omega)]
   ·rw [e3,decide_eq_false (by omega),if_neg (by decide)]; unfold szB; rw [if_neg (by omega)]; congr 1; omega
theorem Kv7 {s:K00} (h:sms s ≤ 1048576):K9t s=some s:=by unfold sms at h; exact Kqq s (by omega) (by omega) (by omega)
theorem Kv8 {s:K00} (h:sms s ≤ 1048576):Kpd (s,s)=some true:=by unfold sms at h; exact Kqr s (by omega) (by omega) (by omega)
theorem Kv9 {l:List K01} {t:K01} (h:t ∈ l):tms t + l.length ≤ Kso l + l.length:=by
 induction l with
 | nil=>cases h
 | cons x l ih =>
  rw [Kso]
  rcases List.mem_cons.1 h with rfl | h
  ·omega
  ·have:=ih h; omega
theorem Kva {t k:K01} (h:k ∈ t.fKids):tms k + 1 ≤ tms t:=by
 rw [Ksp t]
 have:=Kv9 h
 have:1 ≤ t.fKids.length:=List.length_pos_of_mem h
 omega
theorem Kvb (b:Bool):(!(b == b))=false:=by cases b <;> rfl
def lct:List (List Int)→Nat
 | []=>0
 | x :: l=>x.length + lct l
def lok (l:List (List Int)):Prop:=l.length ≤ 1099511627776∧lct l ≤ 1099511627776
theorem Kvc {l:List (List Int)} {x:List Int} (h:x ∈ l):x.length ≤ lct l:=by
 induction l with
 | nil=>cases h
 | cons y l ih =>
  rw [lct]
  rcases List.mem_cons.1 h with rfl | h
  ·omega
  ·have:=ih h; omega
theorem Kvd (a:List (List Int)) (ha:a.length ≤ 1099511627776):∀ (l:List (List Int)) (i:Nat),a.drop i=l→lct l ≤ 1099511627776→Kph (a,a,(i:Int))=some (.inl ()):=by
 intro l
 induction l with
 | nil =>
  intro i hd _
  rw [Kph.eq_def]
  simp only
  rw [Kqf (Krt hd)]; rfl
 | cons x l ih =>
  intro i hd hl
  obtain ⟨hi,hx,hd'⟩:=Krs hd
  rw [lct] at hl
  rw [Kph.eq_def]
  simp only
  rw [Kqe hi,if_pos rfl,hx,bs,bs,Kqn x (by omega),bs,if_pos rfl,Kqd (by omega),ih (i + 1) hd' (by omega)]
theorem Kve (a:List (List Int)) (h:lok a):Kpk (a,a)=some true:=by
 unfold Kpk
 simp only
 rw [Kql,if_neg (by decide),show (0:Int)=((0:Nat):Int) from rfl,Kvd a h.1 a 0 rfl h.2]; rfl
theorem Kvf {a:Int}:(a == a)=true:=by simp
structure Kvg (c:Int) (a b:Ty):Prop where
 p0:Kew (c :: (a.code ++ b.code),0)=some a.code
 p1:Kew (c :: (a.code ++ b.code),1)=some b.code
 pp:Kkw (c :: (a.code ++ b.code))=some [a.code,b.code]
 ok:a.ok∧b.ok
 la:a.code.length + b.code.length + 1 ≤ 1048576
theorem Kvh {c:Int} {a b:Ty} (h:(Ty.bin c a b).ok) (hl:(Ty.bin c a b).code.length ≤ 1048576):Kvg c a b:=by
 have hl':=hl
 rw [Ty.code] at hl'
 have h3:=Kup h hl
 rw [Ty.kids,List.map_cons,List.map_cons,List.map_nil,Ty.code] at h3
 refine ⟨Kuq h.2.1 (by omega),Kur h.2.1 (by omega),h3,h.2,?_⟩
 rw [List.length_cons,List.length_append] at hl'
 omega
structure UnP (c:Int) (a:Ty):Prop where
 p0:Kew (c :: a.code,0)=some a.code
 pp:Kkw (c :: a.code)=some [a.code]
 ok:a.ok
 la:a.code.length + 1 ≤ 1048576
theorem unP {c:Int} {a:Ty} (h:(Ty.un c a).ok) (hl:(Ty.un c a).code.length ≤ 1048576):UnP c a:=by
 have hl':=hl
 rw [Ty.code] at hl'
 have h3:=Kup h hl
 rw [Ty.kids,List.map_cons,List.map_nil,Ty.code] at h3
 have h4:=Kuq (c:=c) (r:=[]) h.2 (by rw [List.append_nil]; omega)
 rw [List.append_nil] at h4
 refine ⟨h4,h3,h.2,?_⟩
 rw [List.length_cons] at hl'
 omega
theorem Kvi {p:Prop} [Decidable p] (h:p):chk p=some ():=by unfold chk; rw [if_pos h]
theorem Kvj (x y:Int) (l r:List Int):(x :: l == y :: r)=(x == y && l == r):=rfl
theorem Kvk (a b:List Int) (ha:a.length ≤ 1099511627776) (hab:a.length=b.length):∀ (l r:List Int) (i:Nat),a.drop i=l→b.drop i=r→Kef (a,b,(i:Int))=some (if l == r then .inl () else .inr false):=by
 intro l
 induction l with
 | nil =>
  intro r i h1 h2
  have hi:=Krt h1
  rw [Kef.eq_def]
  simp only
  rw [Kqf hi]
  have:r=[]:=by rw [← h2]; exact List.drop_eq_nil_of_le (by omega)
  subst this; rfl
 | cons x l ih =>
  intro r i h1 h2
  obtain ⟨hi,hx,hd⟩:=Krs h1
  cases r with
  | nil=>have:=Krt h2; omega
  | cons y r =>
   obtain ⟨_,hy,hd2⟩:=Krs h2
   rw [Kef.eq_def]
   simp only
   rw [Kqe hi,if_pos rfl,hx,hy,bs,bs,Kqd (by omega),ih r (i + 1) hd hd2,Kvj]
   by_cases e:x=y
   ·subst e; simp
   ·rw [bne_iff_ne.2 e,if_pos rfl,beq_eq_false_iff_ne.2 e]; rfl
theorem Kvl (a b:List Int) (hb:b.length ≤ 1099511627776):Kei (a,b)=some (a == b):=by
 unfold Kei
 simp only
 by_cases h:a.length=b.length
 ·rw [h,Kql,if_neg (by decide)]
  have:=Kvk a b (by omega) h a b 0 rfl rfl
  rw [show ((0:Nat):Int)=0 from rfl] at this
  rw [this]
  cases a == b <;> rfl
 ·rw [bne_iff_ne.2 (by omega),if_pos rfl]
  have:a ≠ b:=fun e=>h (by rw [e])
  rw [beq_eq_false_iff_ne.2 this]
theorem Kvm (a b:List Int) (ha:a.length ≤ 1099511627776) (hab:a.length=b.length):∀ (l r:List Int) (i:Nat),a.drop i=l→b.drop i=r→Kkb (a,b,(i:Int))=some (if l == r then .inl () else .inr false):=by
 intro l
 induction l with
 | nil =>
  intro r i h1 h2
  have hi:=Krt h1
  rw [Kkb.eq_def]
  simp only
  rw [Kqf hi]
  have:r=[]:=by rw [← h2]; exact List.drop_eq_nil_of_le (by omega)
  subst this; rfl
 | cons x l ih =>
  intro r i h1 h2
  obtain ⟨hi,hx,hd⟩:=Krs h1
  cases r with
  | nil=>have:=Krt h2; omega
  | cons y r =>
   obtain ⟨_,hy,hd2⟩:=Krs h2
   rw [Kkb.eq_def]
   simp only
   rw [Kqe hi,if_pos rfl,hx,hy,bs,bs,Kqd (by omega),ih r (i + 1) hd hd2,Kvj]
   by_cases e:x=y
   ·subst e; simp
   ·rw [bne_iff_ne.2 e,if_pos rfl,beq_eq_false_iff_ne.2 e]; rfl
theorem Kvn (a b:List Int) (hb:b.length ≤ 1099511627776):Kke (a,b)=some (a == b):=by
 unfold Kke
 simp only
 by_cases h:a.length=b.length
 ·rw [h,Kql,if_neg (by decide)]
  have:=Kvm a b (by omega) h a b 0 rfl rfl
  rw [show ((0:Nat):Int)=0 from rfl] at this
  rw [this]
  cases a == b <;> rfl
 ·rw [bne_iff_ne.2 (by omega),if_pos rfl]
  have:a ≠ b:=fun e=>h (by rw [e])
  rw [beq_eq_false_iff_ne.2 this]
theorem Kvo (g:Int→Bool) (y:List Int→Bool) (op:Int) (n i:Nat) (k:K01) (ks:List K01):Ktd g y op n i (k :: ks)=(tOk g y (n + Kt6 op i) k && Ktd g y op n (i + 1) ks):=by rw [Ktd]
theorem Kvp {l:List K01} (h:((l.length:Int) == 1)=true):∃ k,l=[k]:=by
 rw [beq_iff_eq] at h; match l,h with | [k],_=>exact ⟨k,rfl⟩ | [],h=>exact absurd h (by simp) | _ :: _ :: _,h=>exact absurd h (by simp only [List.length_cons]; omega)
theorem Kvq {l:List K01} (h:((l.length:Int) == 2)=true):∃ k m,l=[k,m]:=by
 rw [beq_iff_eq] at h; match l,h with | [k,m],_=>exact ⟨k,m,rfl⟩ | [],h=>exact absurd h (by simp) | [_],h=>exact absurd h (by simp) | _ :: _ :: _ :: _,h=>exact absurd h (by simp only [List.length_cons]; omega)
theorem Kvr (op N:Int) (ty:List Int) (a:K01):tsz ⟨op,N,ty,[a]⟩=1 + tsz a:=by simp [tsz,Ksn]
theorem Kvs (op N:Int) (ty:List Int) (a b:K01):tsz ⟨op,N,ty,[a,b]⟩=1 + (tsz a + tsz b):=by simp [tsz,Ksn]
theorem Kvt (op N:Int) (ty:List Int) (a b c:K01):tsz ⟨op,N,ty,[a,b,c]⟩=1 + (tsz a + (tsz b + tsz c)):=by simp [tsz,Ksn]
theorem Kvu {l:List K01} (h:(l.length:Int)=3):∃ a b c,l=[a,b,c]:=by
 match l,h with | [a,b,c],_=>exact ⟨a,b,c,rfl⟩ | [],h=>exact absurd h (by simp) | [_],h=>exact absurd h (by simp) | [_,_],h=>exact absurd h (by simp) | _ :: _ :: _ :: _ :: _,h=>exact absurd h (by simp only [List.length_cons]; omega)
def lms (l:List (List Int)):Nat:=l.length + lct l
theorem Kvv {l:List (List Int)} (h:lms l ≤ 1099511627776):lok l:=by unfold lms at h; exact ⟨by omega,by omega⟩
def lln (l:List (List Int)):Prop:=l.length ≤ 9223372036854775807∧∀ v ∈ l,v.length ≤ 9223372036854775807
theorem Kvw:∀ (l a:List (List Int)) (i left:Nat),a.drop i=l→a.length ≤ 9223372036854775807→(∀ v ∈ l,v.length ≤ 9223372036854775807)→left ≤ 1048576→K8o (a,(left:Int),(i:Int))=some (if left < lct l then .inr (-1) else .inl ((left - lct l:Nat):Int)):=by
 intro l
 induction l with
 | nil =>
  intro a i left hd ha hl h
  rw [K8o.eq_def,lct]
  simp only
  rw [Kqf (Krt hd)]; simp
 | cons x l ih =>
  intro a i left hd ha hl h
  obtain ⟨hi,hx,hd'⟩:=Krs hd
  rw [K8o.eq_def,lct]
  simp only
  rw [Kqe hi,if_pos rfl,hx,bs,Ktk x left (by omega) (by omega) (hl x List.mem_cons_self),bs,Kqd (by omega)]
  rcases Ktj left x.length with ⟨e,q⟩ | ⟨e,q⟩
  ·rw [e,decide_eq_true (by decide),if_pos rfl,if_pos (by omega)]
  ·rw [e,decide_eq_false (by omega),if_neg (by decide),show (left:Int) - (x.length:Int)=((left - x.length:Nat):Int) by omega,ih a (i + 1) (left - x.length) hd' ha (fun v hv=>hl v (List.mem_cons_of_mem _ hv)) (by omega)]
   by_cases q2:left - x.length < lct l
   ·rw [if_pos q2,if_pos (by omega)]
   ·rw [if_neg q2,if_neg (by omega)]; congr 3; omega
theorem Kvx (a:List (List Int)) (left:Int) (ha:lln a) (h1:0 ≤ left) (h2:left ≤ 1048576):K8r (a,left)=some (szB left (lms a)):=by
 have hl:=ha.1
 unfold K8r lms
 simp only
 rw [Kqb (by omega) (by omega)]
 by_cases h3:left - (a.length:Int) < 0
 ·rw [decide_eq_true h3,if_pos rfl]; unfold szB; rw [if_pos (by omega)]
 ·obtain ⟨m,hm⟩:∃ m:Nat,left - (a.length:Int)=(m:Int):=⟨(left - (a.length:Int)).toNat,by omega⟩
  have h:=Kvw a a 0 m rfl hl ha.2 (by omega)
  rw [show ((0:Nat):Int)=0 from rfl] at h
  rw [decide_eq_false h3,if_neg (by decide),hm,h,bs]
  unfold szB
  by_cases q:m < lct a
  ·rw [if_pos q,if_pos (by omega)]
  ·rw [if_neg q,if_neg (by omega)]; simp only; congr 1; omega
theorem Kvy:∀ (l a out:List (List Int)) (i:Nat),a.drop i=l→a.length ≤ 1099511627776→lct l ≤ 1099511627776→out.length=a.length→out.take i=a.take i→K9x (a,out,(i:Int))=some a:=by
 intro l
 induction l with
 | nil =>
  intro a out i hd ha hl ho ht
  rw [K9x.eq_def]
  simp only
  have hle:=Krt hd
  rw [Kqf hle]
  rw [List.take_of_length_le (by omega),List.take_of_length_le (by omega)] at ht
  simp [ht]
 | cons x l ih =>
  intro a out i hd ha hl ho ht
  obtain ⟨hi,hx,hd'⟩:=Krs hd
  have hk:a[i]=x:=by rw [Kqc hi] at hx; exact Option.some.inj hx
  rw [lct] at hl
  rw [K9x.eq_def]
  simp only
  rw [Kqe hi,if_pos rfl,hx,bs,Kqi x (by omega),bs,Kqc (by omega),bs,Kqd (by omega),Int.toNat_natCast]
  exact ih a _ (i + 1) hd' ha (by omega) (by simpa using ho) (by rw [← hk]; exact Kqg ho hi ht)
theorem Kvz (a:List (List Int)) (h:lms a ≤ 1099511627776):Ka0 a=some a:=by
 unfold lms at h
 unfold Ka0
 have:chk (0 ≤ (a.length:Int)∧(Int.toNat (a.length:Int)) * 24 ≤ 140737488355328)=some ():=by
  unfold chk; rw [if_pos]; refine ⟨by omega,?_⟩; rw [Int.toNat_natCast]; omega
 have h0:=Kvy a a (List.replicate a.length []) 0 rfl (by omega) (by omega) (by simp) rfl
 rw [show ((0:Nat):Int)=0 from rfl] at h0
 rw [this,bs,Int.toNat_natCast,h0,bs]
def jms (j:K02):Nat:=lms j.fCtx + j.fBudgets.length + tms j.fTerm + j.fType.length + j.fFrom.length
def jln (j:K02):Prop:=lln j.fCtx∧j.fBudgets.length ≤ 9223372036854775807∧tln j.fTerm∧j.fType.length ≤ 9223372036854775807∧j.fFrom.length ≤ 9223372036854775807
theorem Kw0 (left:Int) (m n:Nat) (h:(m:Int) ≤ left):szB (left - (m:Int)) n=szB left (m + n):=by
 unfold szB
 rw [show left - (m:Int) - (n:Int)=left - ((m + n:Nat):Int) by omega]
theorem Kw1 (left:Int) (m n:Nat) (h:left < (m:Int)):szB left (m + n)=-1:=by unfold szB; rw [if_pos (by omega)]
theorem Kw2 (j:K02) (left:Int) (hj:jln j) (h1:0 ≤ left) (h2:left ≤ 1048576):K95 (j,left)=some (szB left (jms j)):=by
 obtain ⟨l1,l2,l3,l4,l5⟩:=hj
 unfold K95 jms
 simp only
 rw [Kvx j.fCtx left l1 h1 h2,bs]
 rcases Ktj left (lms j.fCtx) with ⟨e,q⟩ | ⟨e,q⟩
 ·rw [e,Kw1 left _ _ (by omega)]; rfl
 rw [e,decide_eq_false (by omega),if_neg (by decide),Ktk _ _ (by omega) (by omega) l2,bs,Kw0 _ _ _ (by omega)]
 rcases Ktj left (lms j.fCtx + j.fBudgets.length) with ⟨e,q⟩ | ⟨e,q⟩
 ·rw [e,Kw1 left _ _ (by omega)]; rfl
 rw [e,decide_eq_false (by omega),if_neg (by decide),Ktm _ _ l3 (by omega) (by omega),bs,Kw0 _ _ _ (by omega)]
 rcases Ktj left (lms j.fCtx + j.fBudgets.length + tms j.fTerm) with ⟨e,q⟩ | ⟨e,q⟩
 ·rw [e,Kw1 left _ _ (by omega)]; rfl
 rw [e,decide_eq_false (by omega),if_neg (by decide),Ktk _ _ (by omega) (by omega) l4,bs,Kw0 _ _ _ (by omega)]
 rcases Ktj left (lms j.fCtx + j.fBudgets.length + tms j.fTerm + j.fType.length) with ⟨e,q⟩ | ⟨e,q⟩
 ·rw [e,Kw1 left _ _ (by omega)]; rfl
 rw [e,decide_eq_false (by omega),if_neg (by decide),Ktk _ _ (by omega) (by omega) l5,bs,Kw0 _ _ _ (by omega)]
 rcases Ktj left (lms j.fCtx + j.fBudgets.length + tms j.fTerm + j.fType.length + j.fFrom.length) with ⟨e,q⟩ | ⟨e,q⟩
 ·rw [e]; rfl
 ·rw [e,decide_eq_false (by omega),if_neg (by decide)]
theorem Kw3 (j:K02) (h:jms j ≤ 1099511627776):Kae j=some j:=by
 unfold jms at h
 unfold Kae
 rw [Kvz j.fCtx (by omega),bs,Kqi j.fBudgets (by omega),bs,Kto j.fTerm (by omega),bs,Kqi j.fType (by omega),bs,Kqi j.fFrom (by omega),bs]
theorem Kw4 (j:K02) (h:jms j ≤ 1099511627776):Kpy (j,j)=some true:=by
 unfold jms at h
 unfold Kpy
 simp only
 rw [Kve j.fCtx (Kvv (by omega)),bs,if_pos rfl,Kqn j.fBudgets (by omega),bs,if_pos rfl,Ktq j.fTerm (by omega),bs,if_pos rfl,Kqn j.fType (by omega),bs,if_pos rfl,Kqn j.fFrom (by omega),bs,if_pos rfl]
theorem Kw5 {s:K00} (ty:List Int) (h:ty.length ≤ 1099511627776):Kjo (ty,s)=some (Kuv s ty):=by
 unfold Kjo
 simp only
 rw [Kux s ty h,bs]
mutual
theorem Kw6 (s:K00):∀ (t:K01) (n nodes:Nat),tms t ≤ 1099511627776→n + 2 * tms t ≤ 35184372088832→nodes ≤ 400→Kjv (t,(n:Int),s,s,(nodes:Int))=some (Kti (tOk (Kus s) (Kuv s) n t) nodes (tsz t))
 | ⟨op,N,ty,ks⟩,n,nodes,ht,hn,hd=>by
  rw [tms] at ht hn
  rw [Kjv.eq_def,tOk,tsz]
  simp only
  rw [Kt5,bs]
  unfold Kt4
  cases hop:inB op 0 12
  ·simp [Ktc,hop,Kti]
  ·simp only [if_true]
   rw [Kqd (by omega)]
   by_cases h4:nodes + 1 ≤ 400
   ·rw [decide_eq_false (by omega:¬ ((nodes + 1:Nat):Int) > 400)]
    by_cases hk:(ks.length:Int)=Ksw op
    ·rw [show ((ks.length:Int) != Ksw op)=false by rw [hk]; exact Kql]
     simp only [Bool.false_eq_true,if_false,bs]
     refine (Ksm (x:=Kta (Kus s) (n:Int) ⟨op,N,ty,ks⟩) ?_).trans ?_
     ·unfold Kta
      simp only [iIn,Kqb (x:=(n:Int) - 1) (by omega) (by omega),Kut,bs]
      cases op == 0 <;> cases op == 1 <;> cases Ksx op <;> rfl
     refine (Ksm (x:=Kta (Kus s) (n:Int) ⟨op,N,ty,ks⟩ && Ktb (Kuv s) ⟨op,N,ty,ks⟩) ?_).trans ?_
     ·unfold Ktb
      simp only [Kw5 ty (by omega),bs]
      cases Ksy op <;> cases Kta (Kus s) (n:Int) ⟨op,N,ty,ks⟩ <;> rfl
     have e:Ktc (Kus s) (Kuv s) (n:Int) ⟨op,N,ty,ks⟩=(Kta (Kus s) (n:Int) ⟨op,N,ty,ks⟩ && Ktb (Kuv s) ⟨op,N,ty,ks⟩):=by
      unfold Ktc
      simp only
      rw [hop,hk]; simp
     rw [e]
     cases Kta (Kus s) (n:Int) ⟨op,N,ty,ks⟩ && Ktb (Kuv s) ⟨op,N,ty,ks⟩
     ·simp [Kti]
     ·have h:=Kw7 s ks ⟨op,N,ty,ks⟩ n (nodes + 1) 0 rfl (by simp only; omega) (by omega) (by omega) h4
      rw [if_pos rfl,show (0:Int)=((0:Nat):Int) from rfl,h]
      simp only [Bool.true_and]
      unfold Kti
      rw [show nodes + (1 + Ksn ks)=nodes + 1 + Ksn ks by omega]
      cases Ktd (Kus s) (Kuv s) op n 0 ks && decide (nodes + 1 + Ksn ks ≤ 400) <;> rfl
    ·rw [show ((ks.length:Int) != Ksw op)=true by simpa using hk]
     have e:Ktc (Kus s) (Kuv s) (n:Int) ⟨op,N,ty,ks⟩=false:=by
      unfold Ktc
      simp only
      rw [show ((ks.length:Int) == Ksw op)=false by simpa using hk]; simp
     simp [e,Kti]
   ·rw [decide_eq_true (by omega:((nodes + 1:Nat):Int) > 400)]
    have:¬ nodes + (1 + Ksn ks) ≤ 400:=by omega
    simp [Kti,this]
theorem Kw7 (s:K00):∀ (ks:List K01) (t:K01) (n nodes i:Nat),t.fKids.drop i=ks→t.fKids.length ≤ 1099511627776→Kso ks ≤ 1099511627776→n + 2 * (ks.length + Kso ks) ≤ 35184372088832→nodes ≤ 400 →
  Kjw (t,(n:Int),s,s,(nodes:Int),(i:Int))=some (if Ktd (Kus s) (Kuv s) t.fOp n i ks && decide (nodes + Ksn ks ≤ 400) then .inl ((nodes + Ksn ks:Nat):Int) else .inr 401)
 | [],t,n,nodes,i,hd,hk,ht,hn,h4=>by
  rw [Kjw.eq_def,Ktd,Ksn]
  simp only
  rw [Kqf (Krt hd)]
  simp [h4]
 | k :: ks,t,n,nodes,i,hd,hk,ht,hn,h4=>by
  obtain ⟨hi,hx,hd'⟩:=Krs hd
  rw [Kso] at ht hn
  rw [List.length_cons] at hn
  have ha:=Kt7 t.fOp (i:Int)
  rw [Kjw.eq_def,Ktd,Ksn]
  simp only
  rw [Kqe hi,if_pos rfl,hx,bs,Kt9,bs,Kqb (by omega) (by omega),show (n:Int) + ((Kt6 t.fOp (i:Int):Nat):Int)=((n + Kt6 t.fOp (i:Int):Nat):Int) by omega]
  rw [Kw6 s k (n + Kt6 t.fOp (i:Int)) nodes (by omega) (by omega) h4,bs,Kqd (by omega)]
  unfold Kti
  cases tOk (Kus s) (Kuv s) (n + Kt6 t.fOp (i:Int)) k
  ·rfl
  ·by_cases q:nodes + tsz k ≤ 400
   ·rw [decide_eq_true q,Bool.true_and,if_pos rfl,decide_eq_false (by omega:¬ ((nodes + tsz k:Nat):Int) > 400),if_neg (by decide),Kw7 s ks t n (nodes + tsz k) (i + 1) hd' hk (by omega) (by omega) q,Nat.add_assoc,Bool.true_and]
   ·rw [decide_eq_false q,decide_eq_false (by omega:¬ nodes + (tsz k + Ksn ks) ≤ 400)]
    simp
end
theorem Kw8 {s:K00} {n:Nat} (h:Tab s n):Kus s=gN s.fSize true:=by
 funext x
 rw [Kuy h,h.size]
 unfold inB gN
 by_cases h0:x ≥ 0
 ·rw [decide_eq_true h0,decide_eq_false (by omega:¬ x < -1),decide_eq_false (by omega:¬ x < 0)]
  by_cases h1:x ≤ (n:Int) - 1
  ·rw [decide_eq_true h1,decide_eq_false (by omega:¬ x ≥ (n:Int))]; rfl
  ·rw [decide_eq_false h1,decide_eq_true (by omega:x ≥ (n:Int))]; rfl
 ·rw [decide_eq_false h0,decide_eq_true (by omega:x < 0)]; simp
def Kw9 (s:K00):List (List Int)→List Int→Bool
 | [],_=>true
 | _ :: _,[]=>true
 | c :: cs,b :: bl=>inB b 0 (wr (s.fSize - 1)) && Kuv s c && Kw9 s cs bl
theorem Kwa (s:K00) {n:Nat} (T:Tab s n) (j:K02) (hl:j.fBudgets.length=j.fCtx.length) (hc:lok j.fCtx):∀ (cs:List (List Int)) (bl:List Int) (i:Nat),j.fCtx.drop i=cs→j.fBudgets.drop i=bl→Ke8 (s,j,(i:Int))=some (if Kw9 s cs bl then .inl () else .inr false):=by
 have hc1:=hc.1
 intro cs
 induction cs with
 | nil =>
  intro bl i h1 h2
  have:=Krt h1
  rw [Ke8.eq_def]
  simp only
  rw [Kqf (by omega),Kw9]; rfl
 | cons c cs ih =>
  intro bl i h1 h2
  obtain ⟨hi,hx,hd⟩:=Krs h1
  cases bl with
  | nil=>have:=Krt h2; omega
  | cons b bl =>
   obtain ⟨hi2,hx2,hd2⟩:=Krs h2
   have hm:c ∈ j.fCtx:=List.mem_of_mem_drop (h1 ▸ List.mem_cons_self)
   have hcl:=Kvc hm
   have hc2:=hc.2
   rw [Ke8.eq_def,Kw9]
   simp only
   rw [Kqe hi2,if_pos rfl,hx2,hx]
   simp only [bs]
   rw [sIn,bs,Ksf c (by omega),Ksl c (by omega),Kqd (by omega),ih bl (i + 1) hd hd2]
   have e:Kuv s c=(wtB c && c.all (Ksi s.fSize true)):=by rw [Kv0 T]; rfl
   rw [e]
   cases inB b 0 (wr (s.fSize - 1)) <;> cases wtB c <;> cases c.all (Ksi s.fSize true) <;> rfl
theorem Kwb (s:K00) (j:K02) (hl:j.fBudgets.length=j.fCtx.length) (hc:lok j.fCtx):∀ (cs:List (List Int)) (bl:List Int) (i:Nat),j.fCtx.drop i=cs→j.fBudgets.drop i=bl→Kk4 (s,j,(i:Int))=some (if Kw9 s cs bl then .inl () else .inr false):=by
 have hc1:=hc.1
 intro cs
 induction cs with
 | nil =>
  intro bl i h1 h2
  have:=Krt h1
  rw [Kk4.eq_def]
  simp only
  rw [Kqf (by omega),Kw9]; rfl
 | cons c cs ih =>
  intro bl i h1 h2
  obtain ⟨hi,hx,hd⟩:=Krs h1
  cases bl with
  | nil=>have:=Krt h2; omega
  | cons b bl =>
   obtain ⟨hi2,hx2,hd2⟩:=Krs h2
   have hm:c ∈ j.fCtx:=List.mem_of_mem_drop (h1 ▸ List.mem_cons_self)
   have hcl:=Kvc hm
   have hc2:=hc.2
   rw [Kk4.eq_def,Kw9]
   simp only
   rw [Kqe hi,if_pos rfl,hx,bs,hx2,Kux s c (by omega),Kqd (by omega),ih bl (i + 1) hd hd2]
   simp only [bs,Kut]
   rw [show inB b 0 (wr (s.fSize - 1))=Kus s b from rfl]
   cases Kus s b <;> cases Kuv s c <;> rfl
def Kwc (s:K00) (j:K02):Bool:=decide (j.fCtx.length ≤ 400) && (j.fBudgets.length == j.fCtx.length) && Kuv s j.fType && Kw9 s j.fCtx j.fBudgets && (tOk (Kus s) (Kuv s) j.fCtx.length j.fTerm && decide (tsz j.fTerm ≤ 400))
theorem Kwd (b:Bool) (m:Nat):decide (Kti b 0 m ≤ 400)=(b && decide (m ≤ 400)):=by
 unfold Kti
 rw [Nat.zero_add]
 by_cases h:m ≤ 400
 ·rw [decide_eq_true h,Bool.and_true]
  cases b
  ·rfl
  ·rw [if_pos rfl,decide_eq_true (by omega)]
 ·rw [decide_eq_false h,Bool.and_false]; rfl
theorem Kwe (s:K00) (j:K02) (hj:jms j ≤ 1099511627776):Kk7 (s,j)=some (Kwc s j):=by
 unfold jms lms at hj
 unfold Kk7 Kwc
 simp only
 by_cases h1:j.fCtx.length ≤ 400
 ·rw [decide_eq_false (by omega),decide_eq_true h1,if_neg (by decide)]
  by_cases h2:j.fBudgets.length=j.fCtx.length
  ·rw [h2,Kql,if_neg (by decide),Kux s _ (by omega),bs,bs,beq_self_eq_true]
   cases Kuv s j.fType
   ·rfl
   ·have hl:=Kwb s j h2 ⟨by omega,by omega⟩ j.fCtx j.fBudgets 0 rfl rfl
    have hk:=Kw6 s j.fTerm j.fCtx.length 0 (by omega) (by omega) (by decide)
    rw [show ((0:Nat):Int)=0 from rfl] at hl hk
    rw [hl,hk]
    cases Kw9 s j.fCtx j.fBudgets
    ·rfl
    ·simp only [Bool.not_true,Bool.false_eq_true,if_false,if_true,bs,Bool.true_and,Bool.and_true]
     rw [Kwd]
  ·rw [bne_iff_ne.2 (by omega),beq_eq_false_iff_ne.2 h2]; rfl
 ·rw [decide_eq_true (by omega),decide_eq_false h1]; rfl
mutual
def tEq:K01→K01→Bool
 | ⟨o,N,t,k⟩,⟨o',N',t',k'⟩=>o == o' && N == N' && t == t' && (k.length == k'.length) && Kwf k k'
def Kwf:List K01→List K01→Bool
 | [],_=>true
 | _ :: _,[]=>false
 | a :: k,b :: k'=>tEq a b && Kwf k k'
end
mutual
theorem Kwg:∀ (a b:K01),tms a ≤ 1099511627776→tms b ≤ 1099511627776→Kem (a,b)=some (tEq a b)
 | ⟨o,N,t,k⟩,⟨o',N',t',k'⟩,ha,hb=>by
  rw [tms] at ha hb
  rw [Kem.eq_def,tEq]
  simp only
  rw [Kvl t t' (by omega)]
  by_cases h1:o=o'
  ·by_cases h2:N=N'
   ·subst h1 h2
    rw [Kql,Kql,beq_self_eq_true,beq_self_eq_true]
    cases t == t'
    ·rfl
    ·by_cases h4:k.length=k'.length
     ·have hl:=Kwh k k' ⟨o,N,t,k⟩ ⟨o,N,t',k'⟩ 0 rfl rfl h4 (by simp only; omega) (by omega) (by omega)
      rw [show ((0:Nat):Int)=0 from rfl] at hl
      simp only [Bool.false_eq_true,if_false,if_true,bs]
      rw [show ((k.length:Int) != (k'.length:Int))=false by rw [h4]; exact Kql,if_neg (by decide),hl,bs,beq_iff_eq.2 h4]
      cases Kwf k k' <;> rfl
     ·simp only [Bool.false_eq_true,if_false,if_true,bs]
      rw [bne_iff_ne.2 (by omega),if_pos rfl,beq_eq_false_iff_ne.2 h4]; rfl
   ·rw [bne_iff_ne.2 h2,beq_eq_false_iff_ne.2 h2]
    cases o != o' <;> cases o == o' <;> rfl
  ·rw [bne_iff_ne.2 h1,beq_eq_false_iff_ne.2 h1]; rfl
theorem Kwh:∀ (ks js:List K01) (a b:K01) (i:Nat),a.fKids.drop i=ks→b.fKids.drop i=js→ks.length=js.length→a.fKids.length ≤ 1099511627776→Kso ks ≤ 1099511627776→Kso js ≤ 1099511627776→Ken (a,b,(i:Int))=some (if Kwf ks js then .inl () else .inr false)
 | [],js,a,b,i,h1,h2,hl,hk,m1,m2=>by
  rw [Ken.eq_def,Kwf]
  simp only
  rw [Kqf (Krt h1)]; rfl
 | x :: ks,[],a,b,i,h1,h2,hl,hk,m1,m2=>by simp at hl
 | x :: ks,y :: js,a,b,i,h1,h2,hl,hk,m1,m2=>by
  obtain ⟨hi,hx,hd⟩:=Krs h1
  obtain ⟨_,hy,hd2⟩:=Krs h2
  rw [Kso] at m1 m2
  rw [Ken.eq_def,Kwf]
  simp only
  rw [Kqe hi,if_pos rfl,hx,bs,hy,bs,Kwg x y (by omega) (by omega),bs,Kqd (by omega),Kwh ks js a b (i + 1) hd hd2 (by simpa using hl) hk (by omega) (by omega)]
  cases tEq x y <;> rfl
end
def Kwi (l:List Nat):List Int:=l.map fun x:Nat=>(x:Int)
theorem Kwj (l:List Nat):(Kwi l).length=l.length:=List.length_map ..
theorem Kwk (l:List Nat) (i:Nat):(Kwi l).drop i=Kwi (l.drop i):=(List.map_drop ..).symm
theorem Kwl (l:List Nat) (i:Nat):(Kwi l).take i=Kwi (l.take i):=(List.map_take ..).symm
theorem Kwm {l r:List Nat} {x i:Nat} (h:l.drop i=x :: r):i < l.length∧idx (Kwi l) (i:Int)=some (x:Int)∧l.drop (i + 1)=r:=by
 have h2:(Kwi l).drop i=(x:Int) :: Kwi r:=by rw [Kwk,h]; rfl
 obtain ⟨q1,q2,q3⟩:=Krs h2
 rw [Kwj] at q1
 refine ⟨q1,q2,?_⟩
 rw [← List.drop_drop,h]
 rfl
structure Kwn (s:K00) (n:Nat):Prop where
 tab:Tab s n
 one:∀ a,a < n→Kr5 s n a=true
 two:∀ a b,a < n→b < n→Kri s n a b=true
theorem Kwo {s:K00} (h:Ku8 s=true):Kwn s s.fSize.toNat:=by
 have ht:=Ku9 h
 unfold Ku8 at h
 simp only [Bool.and_eq_true] at h
 have hm:=h.2
 unfold Krl at hm
 rw [List.all_eq_true] at hm
 refine ⟨ht,fun a ha=>?_,fun a b ha hb=>?_⟩
 ·have:=hm a (by rw [List.mem_range'_1]; omega)
  simp only [Bool.and_eq_true] at this
  exact this.1
 ·have:=hm a (by rw [List.mem_range'_1]; omega)
  simp only [Bool.and_eq_true,List.all_eq_true] at this
  exact (this.2 b (by rw [List.mem_range'_1]; omega)).1
section
variable {s:K00} {n:Nat} (hs:Kwn s n)
include hs
theorem Kwp:1 < n:=by have:=hs.tab.lo; omega
theorem Kwq:0 < n:=by have:=hs.tab.lo; omega
theorem Kwr {a:Nat} (ha:a < n):pl s n 0 a=a:=by
 have:=hs.one a ha
 simp only [Kr5,Bool.and_eq_true,beq_iff_eq] at this
 exact this.1.1.1.1.1
theorem Kws {a:Nat} (ha:a < n):ti s n 1 a=a:=by
 have:=hs.one a ha
 simp only [Kr5,Bool.and_eq_true,beq_iff_eq] at this
 exact this.1.1.1.1.2
def Kwt (s:K00) (n a b:Nat):Nat:=(Krb s n a b).toNat
theorem Kwu {a b:Nat} (ha:a < n) (hb:b < n):Krb s n a b=((Kwt s n a b:Nat):Int)∧Kwt s n a b < n:=by
 have h:=hs.two a b ha hb
 simp only [Kri,Bool.and_eq_true,decide_eq_true_eq] at h
 have h0:=h.2
 unfold Kwt
 refine ⟨by omega,?_⟩
 unfold Krb at h0 ⊢
 cases hf:(List.range' 0 n).find? (jok s n a b) with
 | none=>rw [hf] at h0; exact absurd h0 (by decide)
 | some g =>
  have:=List.mem_of_find?_eq_some hf
  rw [List.mem_range'_1] at this
  simp only [Int.toNat_natCast]
  omega
end
def Kwv (s:K00) (n:Nat) (a b:List Nat):List Nat:=List.zipWith (pl s n) a b
def Kww (s:K00) (n g:Nat) (a:List Nat):List Nat:=a.map (ti s n g)
def Kwx (s:K00) (n:Nat) (a b:List Nat):List Nat:=List.zipWith (Kwt s n) a b
def Kwy (n:Nat) (l:List Nat):Prop:=∀ x ∈ l,x < n
theorem Kwz (n:Nat):Kwy n []:=fun _ h=>by cases h
theorem Kx0 {n x:Nat} {l:List Nat} (h:Kwy n (x :: l)):x < n∧Kwy n l:=⟨h x List.mem_cons_self,fun y hy=>h y (List.mem_cons_of_mem _ hy)⟩
theorem Kx1 {n:Nat} {l:List Nat} (h:Kwy n l) (i:Nat):Kwy n (l.drop i):=fun x hx=>h x (List.mem_of_mem_drop hx)
section
variable {s:K00} {n:Nat} (hs:Kwn s n)
include hs
theorem Kx2:∀ {a b:List Nat},Kwy n a→Kwy n b→Kwy n (Kwv s n a b)
 | [],_,_,_=>fun x hx=>by cases hx
 | _ :: _,[],_,_=>fun x hx=>by cases hx
 | x :: a,y :: b,ha,hb=>fun z hz=>by
  obtain ⟨h1,h2⟩:=Kx0 ha
  obtain ⟨h3,h4⟩:=Kx0 hb
  rcases List.mem_cons.1 hz with rfl | hz
  ·exact Kqu hs.tab h1 h3
  ·exact Kx2 h2 h4 z hz
theorem Kx3 {g:Nat} (hg:g < n) {a:List Nat} (ha:Kwy n a):Kwy n (Kww s n g a):=fun x hx=>by
 obtain ⟨y,hy,rfl⟩:=List.mem_map.1 hx
 exact Kqv hs.tab hg (ha y hy)
theorem Kx4:∀ {a b:List Nat},Kwy n a→Kwy n b→Kwy n (Kwx s n a b)
 | [],_,_,_=>fun x hx=>by cases hx
 | _ :: _,[],_,_=>fun x hx=>by cases hx
 | x :: a,y :: b,ha,hb=>fun z hz=>by
  obtain ⟨h1,h2⟩:=Kx0 ha
  obtain ⟨h3,h4⟩:=Kx0 hb
  rcases List.mem_cons.1 hz with rfl | hz
  ·exact (Kwu hs h1 h3).2
  ·exact Kx4 h2 h4 z hz
theorem Kx5 {a:List Nat} (ha:Kwy n a):Kww s n 1 a=a:=by
 induction a with
 | nil=>rfl
 | cons x a ih =>
  obtain ⟨h1,h2⟩:=Kx0 ha
  show ti s n 1 x :: Kww s n 1 a=_
  rw [Kws hs h1,ih h2]
theorem Kx6 {a:List Nat} (ha:Kwy n a):Kwv s n (List.replicate a.length 0) a=a:=by
 induction a with
 | nil=>rfl
 | cons x a ih =>
  obtain ⟨h1,h2⟩:=Kx0 ha
  show pl s n 0 x :: Kwv s n (List.replicate a.length 0) a=_
  rw [Kwr hs h1,ih h2]
theorem Kx7 (g:Nat) (hg:g < n) (a b:List Nat) (ha:Kwy n a) (hb:Kwy n b) (hl:a.length ≤ 1099511627776):∀ (al bl:List Nat) (i:Nat) (out:List Int),a.drop i=al→b.drop i=bl→al.length=bl.length→out.length + al.length ≤ 1099511627776 →
  Kfq (s,Kwi a,(g:Int),Kwi b,out,(i:Int))=some (out ++ Kwi (Kwv s n al (Kww s n g bl))):=by
 intro al
 induction al with
 | nil =>
  intro bl i out hd _ _ _
  rw [Kfq.eq_def]
  simp only
  rw [Kwj,Kqf (Krt hd)]
  simp [Kwv,Kwi]
 | cons x al ih =>
  intro bl i out hd hd2 hll ho
  cases bl with
  | nil=>simp at hll
  | cons y bl =>
   obtain ⟨h1,h2,h3⟩:=Kwm hd
   obtain ⟨k1,k2,k3⟩:=Kwm hd2
   have hx:x < n:=Kx1 ha i x (by rw [hd]; exact List.mem_cons_self)
   have hy:y < n:=Kx1 hb i y (by rw [hd2]; exact List.mem_cons_self)
   rw [Kfq.eq_def]
   simp only
   simp only [List.length_cons] at ho hll
   rw [Kwj,Kqe h1,if_pos rfl,h2,bs,k2,bs,Kr0 hs.tab hg hy,bs,Kqz hs.tab hx (Kqv hs.tab hg hy),bs,Ktu (by simp; omega),bs,Kqd (by omega),ih bl (i + 1) _ h3 k3 (by omega) (by simp; omega)]
   rw [List.append_assoc]
   rfl
theorem Kx8 (g:Nat) (hg:g < n) (a b:List Nat) (ha:Kwy n a) (hb:Kwy n b) (hl:a.length ≤ 1048576) (hab:a.length=b.length):Kft (s,Kwi a,(g:Int),Kwi b)=some (Kwi (Kwv s n a (Kww s n g b))):=by
 unfold Kft
 simp only
 rw [show (0:Int)=((0:Nat):Int) from rfl,Kx7 hs g hg a b ha hb (by omega) a b 0 [] rfl rfl hab (by simp; omega)]
 rfl
theorem Kx9 (a b:List Nat) (ha:Kwy n a) (hb:Kwy n b) (hl:a.length ≤ 1048576) (hab:a.length=b.length):Kft (s,Kwi a,1,Kwi b)=some (Kwi (Kwv s n a b)):=by
 have:=Kx8 hs 1 (Kwp hs) a b ha hb hl hab
 rw [Kx5 hs hb] at this
 exact this
theorem Kxa (a b:List Nat) (ha:Kwy n a) (hb:Kwy n b) (hl:a.length ≤ 1099511627776):∀ (al bl:List Nat) (i:Nat) (out:List Int),a.drop i=al→b.drop i=bl→al.length=bl.length→out.length + al.length ≤ 1099511627776 →
  Kg0 (s,Kwi a,Kwi b,out,(i:Int))=some (out ++ Kwi (Kwx s n al bl)):=by
 intro al
 induction al with
 | nil =>
  intro bl i out hd _ _ _
  rw [Kg0.eq_def]
  simp only
  rw [Kwj,Kqf (Krt hd)]
  simp [Kwx,Kwi]
 | cons x al ih =>
  intro bl i out hd hd2 hll ho
  cases bl with
  | nil=>simp at hll
  | cons y bl =>
   obtain ⟨h1,h2,h3⟩:=Kwm hd
   obtain ⟨k1,k2,k3⟩:=Kwm hd2
   have hx:x < n:=Kx1 ha i x (by rw [hd]; exact List.mem_cons_self)
   have hy:y < n:=Kx1 hb i y (by rw [hd2]; exact List.mem_cons_self)
   rw [Kg0.eq_def]
   simp only
   simp only [List.length_cons] at ho hll
   rw [Kwj,Kqe h1,if_pos rfl,h2,bs,k2,bs,Krg hs.tab hx hy,bs,(Kwu hs hx hy).1,Ktu (by simp; omega),bs,Kqd (by omega),ih bl (i + 1) _ h3 k3 (by omega) (by simp; omega)]
   rw [List.append_assoc]
   rfl
theorem Kxb (a b:List Nat) (ha:Kwy n a) (hb:Kwy n b) (hl:a.length ≤ 1048576) (hab:a.length=b.length):Kg3 (s,Kwi a,Kwi b)=some (Kwi (Kwx s n a b)):=by
 unfold Kg3
 simp only
 rw [show (0:Int)=((0:Nat):Int) from rfl,Kxa hs a b ha hb (by omega) a b 0 [] rfl rfl hab (by simp; omega)]
 rfl
end
theorem Kxc {α:Type} {out:List α} {i:Nat} (h:i < out.length) (x:α):(out.set i x).take (i + 1)=out.take i ++ [x]:=by
 rw [List.take_set,List.take_succ_eq_append_getElem h,List.set_append_right _ _ (by simp; omega)]
 simp [Nat.min_eq_left (Nat.le_of_lt h)]
section
variable {s:K00} {n:Nat} (hs:Kwn s n)
include hs
theorem Kxd (a b:List Nat) (ha:Kwy n a) (hb:Kwy n b) (hl:a.length ≤ 1099511627776):∀ (al bl:List Nat) (i:Nat) (out:List Int),a.drop i=al→b.drop i=bl→al.length=bl.length→out.length=a.length →
  Km1 (s,Kwi a,Kwi b,out,(i:Int))=some (out.take i ++ Kwi (Kwv s n al bl)):=by
 intro al
 induction al with
 | nil =>
  intro bl i out hd _ _ ho
  rw [Km1.eq_def]
  simp only
  have:=Krt hd
  rw [Kwj,Kqf this]
  simp [Kwv,Kwi,List.take_of_length_le (show out.length ≤ i by omega)]
 | cons x al ih =>
  intro bl i out hd hd2 hll ho
  cases bl with
  | nil=>simp at hll
  | cons y bl =>
   obtain ⟨h1,h2,h3⟩:=Kwm hd
   obtain ⟨k1,k2,k3⟩:=Kwm hd2
   have hx:x < n:=Kx1 ha i x (by rw [hd]; exact List.mem_cons_self)
   have hy:y < n:=Kx1 hb i y (by rw [hd2]; exact List.mem_cons_self)
   rw [Km1.eq_def]
   simp only
   simp only [List.length_cons] at hll
   have hio:i < out.length:=by omega
   rw [Kwj,Kqe h1,if_pos rfl,h2,bs,k2,bs,Kr1 hs.tab hx hy,bs,Kqc hio,bs,Kqd (by omega),Int.toNat_natCast,ih bl (i + 1) _ h3 k3 (by omega) (by rw [List.length_set]; exact ho)]
   rw [Kxc hio,List.append_assoc]
   rfl
theorem Kxe (a b:List Nat) (ha:Kwy n a) (hb:Kwy n b) (hl:a.length ≤ 1048576) (hab:a.length=b.length):Km7 (⟨s⟩,Kwi a,Kwi b)=some (Kwi (Kwv s n a b)):=by
 unfold Km7 Km4
 simp only
 rw [Kwj,Kvi (by simp; omega),bs,Int.toNat_natCast,show (0:Int)=((0:Nat):Int) from rfl]
 rw [show (List.replicate a.length (((0:Nat):Int)))=List.replicate a.length (0:Int) from rfl,Kxd hs a b ha hb (by omega) a b 0 _ rfl rfl hab (by simp)]
 rfl
theorem Kxf (a b:List Nat) (ha:Kwy n a) (hb:Kwy n b) (hl:a.length ≤ 1099511627776):∀ (al bl:List Nat) (i:Nat) (out:List Int),a.drop i=al→b.drop i=bl→al.length=bl.length→out.length=a.length →
  Kme (s,Kwi a,Kwi b,out,(i:Int))=some (out.take i ++ Kwi (Kwx s n al bl)):=by
 intro al
 induction al with
 | nil =>
  intro bl i out hd _ _ ho
  rw [Kme.eq_def]
  simp only
  have:=Krt hd
  rw [Kwj,Kqf this]
  simp [Kwx,Kwi,List.take_of_length_le (show out.length ≤ i by omega)]
 | cons x al ih =>
  intro bl i out hd hd2 hll ho
  cases bl with
  | nil=>simp at hll
  | cons y bl =>
   obtain ⟨h1,h2,h3⟩:=Kwm hd
   obtain ⟨k1,k2,k3⟩:=Kwm hd2
   have hx:x < n:=Kx1 ha i x (by rw [hd]; exact List.mem_cons_self)
   have hy:y < n:=Kx1 hb i y (by rw [hd2]; exact List.mem_cons_self)
   rw [Kme.eq_def]
   simp only
   simp only [List.length_cons] at hll
   have hio:i < out.length:=by omega
   rw [Kwj,Kqe h1,if_pos rfl,h2,bs,k2,bs,Krh hs.tab hx hy,bs,(Kwu hs hx hy).1,Kqc hio,bs,Kqd (by omega),Int.toNat_natCast,ih bl (i + 1) _ h3 k3 (by omega) (by rw [List.length_set]; exact ho)]
   rw [Kxc hio,List.append_assoc]
   rfl
theorem Kxg (a b:List Nat) (ha:Kwy n a) (hb:Kwy n b) (hl:a.length ≤ 1048576) (hab:a.length=b.length):Kmk (⟨s⟩,Kwi a,Kwi b)=some (Kwi (Kwx s n a b)):=by
 unfold Kmk Kmh
 simp only
 rw [Kwj,Kvi (by simp; omega),bs,Int.toNat_natCast,show (0:Int)=((0:Nat):Int) from rfl]
 rw [show (List.replicate a.length (((0:Nat):Int)))=List.replicate a.length (0:Int) from rfl,Kxf hs a b ha hb (by omega) a b 0 _ rfl rfl hab (by simp)]
 rfl
theorem Kxh (g:Nat) (hg:g < n) (a:List Nat) (ha:Kwy n a) (hl:a.length ≤ 1099511627776):∀ (al:List Nat) (i:Nat) (out:List Int),a.drop i=al→out.length=a.length →
  Kni (⟨s⟩,(g:Int),Kwi a,out,(i:Int))=some (out.take i ++ Kwi (Kww s n g al)):=by
 intro al
 induction al with
 | nil =>
  intro i out hd ho
  rw [Kni.eq_def]
  simp only
  have:=Krt hd
  rw [Kwj,Kqf this]
  simp [Kww,Kwi,List.take_of_length_le (show out.length ≤ i by omega)]
 | cons x al ih =>
  intro i out hd ho
  obtain ⟨h1,h2,h3⟩:=Kwm hd
  have hx:x < n:=Kx1 ha i x (by rw [hd]; exact List.mem_cons_self)
  rw [Kni.eq_def]
  simp only
  have hio:i < out.length:=by omega
  rw [Kwj,Kqe h1,if_pos rfl,h2,bs,Kr2 hs.tab hg hx,bs,Kqc hio,bs,Kqd (by omega),Int.toNat_natCast,ih (i + 1) _ h3 (by rw [List.length_set]; exact ho)]
  rw [Kxc hio,List.append_assoc]
  rfl
theorem Kxi (g:Nat) (hg:g < n) (a:List Nat) (ha:Kwy n a) (hl:a.length ≤ 1048576):Knl (⟨s⟩,(g:Int),Kwi a)=some (Kwi (Kww s n g a)):=by
 unfold Knl
 simp only
 rw [Kwj,Kvi (by simp; omega),bs,Int.toNat_natCast,show (0:Int)=((0:Nat):Int) from rfl]
 rw [show (List.replicate a.length (((0:Nat):Int)))=List.replicate a.length (0:Int) from rfl,Kxh hs g hg a ha (by omega) a 0 _ rfl (by simp)]
 rfl
theorem Kxj (g:Nat) (hg:g < n) (a:List Nat) (ha:Kwy n a) (hl:a.length ≤ 1099511627776):∀ (al:List Nat) (i:Nat),a.drop i=al →
  ∃ r,Kn5 (Kwi a,⟨s⟩,(g:Int),(i:Int))=some r∧(match r with | .inl _=>(al.all fun x=>le s n x g)=true | .inr j=>(al.all fun x=>le s n x g)=false∧0 ≤ j):=by
 intro al
 induction al with
 | nil =>
  intro i hd
  rw [Kn5.eq_def]
  simp only
  rw [Kwj,Kqf (Krt hd)]
  exact ⟨_,rfl,rfl⟩
 | cons x al ih =>
  intro i hd
  obtain ⟨h1,h2,h3⟩:=Kwm hd
  have hx:x < n:=Kx1 ha i x (by rw [hd]; exact List.mem_cons_self)
  rw [Kn5.eq_def]
  simp only
  rw [Kwj,Kqe h1,if_pos rfl,h2,bs]
  unfold Kn1
  simp only
  rw [iLe hs.tab hx hg]
  simp only [bs]
  cases hle:le s n x g with
  | true =>
   obtain ⟨r,hr,hm⟩:=ih (i + 1) h3
   refine ⟨r,?_,?_⟩
   ·rw [if_neg (by simp),Kqd (by omega)]; exact hr
   ·rw [List.all_cons,hle,Bool.true_and]; exact hm
  | false =>
   exact ⟨_,if_pos rfl,by simp [List.all_cons,hle]⟩
theorem Kxk (g:Nat) (hg:g < n) (a:List Nat) (ha:Kwy n a) (hl:a.length ≤ 1048576):Kne (⟨s⟩,Kwi a,(g:Int))=some (a.all fun x=>le s n x g):=by
 obtain ⟨r,hr,hm⟩:=Kxj hs g hg a ha (by omega) a 0 rfl
 unfold Kne Knb Kn8
 simp only
 rw [show (0:Int)=((0:Nat):Int) from rfl,hr]
 cases r with
 | inl _=>simp only [bs] at hm ⊢; rw [hm]; rfl
 | inr j =>
  simp only [bs] at hm ⊢
  rw [hm.1,decide_eq_true (by omega)]; rfl
end
end Go.Am
