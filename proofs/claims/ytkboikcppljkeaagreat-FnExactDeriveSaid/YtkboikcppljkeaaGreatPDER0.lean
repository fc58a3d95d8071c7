/- Plain laws of the printed functions. -/
import Derived.Test.YtkboikcppljkeaaGreatGDERF14
set_option linter.unusedSimpArgs false
set_option linter.unusedVariables false
namespace Go.Am
theorem Kr3 {x:Int} (h1:-9223372036854775808 ≤ x) (h2:x ≤ 9223372036854775807):wr x=x:=by
 unfold wr IntKind.wrap
 simp [IntKind.bits,IntKind.signed]
 omega
theorem Kr4 {α:Type} {l:List α} {n:Nat} (h:n < l.length):idx l (n:Int)=some l[n]:=by
 unfold idx
 rw [if_pos (by omega)]
 simp [h]
theorem bs {α β:Type} (a:α) (f:α→Option β):(some a >>= f)=f a:=rfl
theorem Kr5 {n:Nat} (h:n < 9223372036854775807):wr ((n:Int) + 1)=((n + 1:Nat):Int):=by
 rw [Kr3 (by omega) (by omega)]; omega
theorem Kr6 {n m:Nat} (h:n < m):decide ((n:Int) < (m:Int))=true:=decide_eq_true (by omega)
theorem Kr7 {n m:Nat} (h:m ≤ n):decide ((n:Int) < (m:Int))=false:=decide_eq_false (by omega)
theorem Kr8 {α:Type} {l a:List α} {n:Nat} (hl:l.length=a.length) (hn:n < a.length) (h:l.take n=a.take n):(l.set n a[n]).take (n + 1)=a.take (n + 1):=by
 apply List.ext_getElem?
 intro i
 rw [List.getElem?_take,List.getElem?_take]
 by_cases hi:i < n + 1
 ·rw [if_pos hi,if_pos hi,List.getElem?_set]
  by_cases e:n=i
  ·subst e
   rw [if_pos rfl,if_pos (by omega),List.getElem?_eq_getElem hn]
  ·rw [if_neg e]
   have:=congrArg (fun l=>l[i]?) h
   simp only [List.getElem?_take] at this
   rw [if_pos (by omega),if_pos (by omega)] at this
   exact this
 ·rw [if_neg hi,if_neg hi]
theorem Kr9 (a:List Int) (ha:a.length ≤ 1099511627776):∀ (k n:Nat) (out:List Int),n + k=a.length→out.length=a.length→out.take n=a.take n→K92 (a,out,(n:Int))=some a:=by
 intro k
 induction k with
 | zero =>
  intro n out hn hl ht
  rw [K92.eq_def]
  simp only
  rw [Kr7 (by omega)]
  have h1:out.take n=out:=List.take_of_length_le (by omega)
  have h2:a.take n=a:=List.take_of_length_le (by omega)
  rw [h1,h2] at ht
  simp [ht]
 | succ k ih =>
  intro n out hn hl ht
  rw [K92.eq_def]
  simp only
  rw [Kr6 (by omega),if_pos rfl,Kr4 (by omega),bs,Kr4 (by omega),bs,Kr5 (by omega),Int.toNat_natCast]
  exact ih (n + 1) _ (by omega) (by simpa using hl) (Kr8 hl (by omega) ht)
theorem Kra (a:List Int) (ha:a.length ≤ 1099511627776):K95 a=some a:=by
 unfold K95
 have:chk (0 ≤ (a.length:Int)∧(Int.toNat (a.length:Int)) * 8 ≤ 140737488355328)=some ():=by
  unfold chk; rw [if_pos]; refine ⟨by omega,?_⟩; rw [Int.toNat_natCast]; omega
 rw [this,bs,Int.toNat_natCast]
 have:=Kr9 a ha a.length 0 (List.replicate a.length 0) (by omega) (by simp) rfl
 rw [show ((0:Nat):Int)=0 from rfl] at this
 rw [this,bs]
theorem Krb (a:List Bool) (ha:a.length ≤ 1099511627776):∀ (k n:Nat) (out:List Bool),n + k=a.length→out.length=a.length→out.take n=a.take n→K99 (a,out,(n:Int))=some a:=by
 intro k
 induction k with
 | zero =>
  intro n out hn hl ht
  rw [K99.eq_def]
  simp only
  rw [Kr7 (by omega)]
  have h1:out.take n=out:=List.take_of_length_le (by omega)
  have h2:a.take n=a:=List.take_of_length_le (by omega)
  rw [h1,h2] at ht
  simp [ht]
 | succ k ih =>
  intro n out hn hl ht
  rw [K99.eq_def]
  simp only
  rw [Kr6 (by omega),if_pos rfl,Kr4 (by omega),bs,Kr4 (by omega),bs,Kr5 (by omega),Int.toNat_natCast]
  exact ih (n + 1) _ (by omega) (by simpa using hl) (Kr8 hl (by omega) ht)
theorem Krc (a:List Bool) (ha:a.length ≤ 1099511627776):K9c a=some a:=by
 unfold K9c
 have:chk (0 ≤ (a.length:Int)∧(Int.toNat (a.length:Int)) * 1 ≤ 140737488355328)=some ():=by
  unfold chk; rw [if_pos]; refine ⟨by omega,?_⟩; rw [Int.toNat_natCast]; omega
 rw [this,bs,Int.toNat_natCast]
 have:=Krb a ha a.length 0 (List.replicate a.length false) (by omega) (by simp) rfl
 rw [show ((0:Nat):Int)=0 from rfl] at this
 rw [this,bs]
theorem Krd {a:Int}:(a != a)=false:=by simp
theorem Kre (a:List Int) (ha:a.length ≤ 1099511627776):∀ (k n:Nat),n + k=a.length→Knr (a,a,(n:Int))=some (.inl ()):=by
 intro k
 induction k with
 | zero =>
  intro n hn
  rw [Knr.eq_def]
  simp only
  rw [Kr7 (by omega)]
  rfl
 | succ k ih =>
  intro n hn
  rw [Knr.eq_def]
  simp only
  rw [Kr6 (by omega),if_pos rfl,Kr4 (by omega),bs,bs,Krd,if_neg (by decide),Kr5 (by omega)]
  exact ih (n + 1) (by omega)
theorem Krf (a:List Int) (ha:a.length ≤ 1099511627776):Knu (a,a)=some true:=by
 unfold Knu
 simp only
 have:=Kre a ha a.length 0 (by omega)
 rw [show ((0:Nat):Int)=0 from rfl] at this
 rw [Krd,if_neg (by decide),this]
 rfl
theorem Krg (a:List Bool) (ha:a.length ≤ 1099511627776):∀ (k n:Nat),n + k=a.length→Koq (a,a,(n:Int))=some (.inl ()):=by
 intro k
 induction k with
 | zero =>
  intro n hn
  rw [Koq.eq_def]
  simp only
  rw [Kr7 (by omega)]
  rfl
 | succ k ih =>
  intro n hn
  rw [Koq.eq_def]
  simp only
  rw [Kr6 (by omega),if_pos rfl,Kr4 (by omega),bs,bs,show ∀ b:Bool,(b == b)=true from by decide,if_pos rfl,Kr5 (by omega)]
  exact ih (n + 1) (by omega)
theorem Krh (a:List Bool) (ha:a.length ≤ 1099511627776):Kot (a,a)=some true:=by
 unfold Kot
 simp only
 have:=Krg a ha a.length 0 (by omega)
 rw [show ((0:Nat):Int)=0 from rfl] at this
 rw [Krd,if_neg (by decide),this]
 rfl
theorem Kri (s:K00) (h1:s.fPlus.length ≤ 1099511627776) (h2:s.fTimes.length ≤ 1099511627776) (h3:s.fBelow.length ≤ 1099511627776):K9f s=some s:=by
 unfold K9f
 rw [Kra _ h1,bs,Kra _ h2,bs,Krc _ h3,bs]
theorem Krj (s:K00) (h1:s.fPlus.length ≤ 1099511627776) (h2:s.fTimes.length ≤ 1099511627776) (h3:s.fBelow.length ≤ 1099511627776):Kow (s,s)=some true:=by
 unfold Kow
 simp only
 rw [Krd,if_neg (by decide),Krf _ h1,bs,if_pos rfl,Krf _ h2,bs,if_pos rfl,Krh _ h3,bs,if_pos rfl]
structure Tab (s:K00) (n:Nat):Prop where
 size:s.fSize=(n:Int)
 lo:2 ≤ n
 hi:n ≤ 16
 lp:s.fPlus.length=n * n
 lt:s.fTimes.length=n * n
 lb:s.fBelow.length=n * n
 rp:∀ i (h:i < s.fPlus.length),0 ≤ s.fPlus[i]∧s.fPlus[i] < (n:Int)
 rt:∀ i (h:i < s.fTimes.length),0 ≤ s.fTimes[i]∧s.fTimes[i] < (n:Int)
def pl (s:K00) (n a b:Nat):Nat:=(s.fPlus.getD (a * n + b) 0).toNat
def ti (s:K00) (n a b:Nat):Nat:=(s.fTimes.getD (a * n + b) 0).toNat
def le (s:K00) (n a b:Nat):Bool:=s.fBelow.getD (a * n + b) false
theorem Krk {n a b:Nat} (ha:a < n) (hb:b < n):a * n + b < n * n:=by
 have:(a + 1) * n ≤ n * n:=Nat.mul_le_mul_right _ (by omega)
 rw [Nat.add_mul,Nat.one_mul] at this
 omega
theorem Krl {n a b:Nat} (hn:n ≤ 16) (ha:a < n) (hb:b < n):wr ((wr ((a:Int) * (n:Int))) + (b:Int))=((a * n + b:Nat):Int):=by
 have h1:a * n ≤ 256:=Nat.le_trans (Nat.mul_le_mul (by omega:a ≤ 16) hn) (by decide)
 have e:(a:Int) * (n:Int)=((a * n:Nat):Int):=by simp
 rw [e]
 generalize a * n=m at h1
 rw [Kr3 (x:=(m:Int)) (by omega) (by omega),Kr3 (by omega) (by omega)]
 omega
section
variable {s:K00} {n:Nat} (h:Tab s n)
include h
theorem Krm {a b:Nat} (ha:a < n) (hb:b < n):pl s n a b < n:=by
 have hl:a * n + b < s.fPlus.length:=by rw [h.lp]; exact Krk ha hb
 unfold pl
 rw [List.getD_eq_getElem?_getD,List.getElem?_eq_getElem hl]
 have:=h.rp _ hl
 simp only [Option.getD_some]
 omega
theorem Krn {a b:Nat} (ha:a < n) (hb:b < n):ti s n a b < n:=by
 have hl:a * n + b < s.fTimes.length:=by rw [h.lt]; exact Krk ha hb
 unfold ti
 rw [List.getD_eq_getElem?_getD,List.getElem?_eq_getElem hl]
 have:=h.rt _ hl
 simp only [Option.getD_some]
 omega
theorem Kro {a b:Nat} (ha:a < n) (hb:b < n):idx s.fPlus ((a * n + b:Nat):Int)=some ((pl s n a b:Nat):Int):=by
 have hl:a * n + b < s.fPlus.length:=by rw [h.lp]; exact Krk ha hb
 rw [Kr4 hl]
 unfold pl
 rw [List.getD_eq_getElem?_getD,List.getElem?_eq_getElem hl]
 have:=h.rp _ hl
 simp only [Option.getD_some]
 congr 1
 omega
theorem Krp {a b:Nat} (ha:a < n) (hb:b < n):idx s.fTimes ((a * n + b:Nat):Int)=some ((ti s n a b:Nat):Int):=by
 have hl:a * n + b < s.fTimes.length:=by rw [h.lt]; exact Krk ha hb
 rw [Kr4 hl]
 unfold ti
 rw [List.getD_eq_getElem?_getD,List.getElem?_eq_getElem hl]
 have:=h.rt _ hl
 simp only [Option.getD_some]
 congr 1
 omega
theorem Krq {a b:Nat} (ha:a < n) (hb:b < n):idx s.fBelow ((a * n + b:Nat):Int)=some (le s n a b):=by
 have hl:a * n + b < s.fBelow.length:=by rw [h.lb]; exact Krk ha hb
 rw [Kr4 hl]
 unfold le
 rw [List.getD_eq_getElem?_getD,List.getElem?_eq_getElem hl]
 rfl
theorem Krr {a b:Nat} (ha:a < n) (hb:b < n):Kaa (s,(a:Int),(b:Int))=some ((pl s n a b:Nat):Int):=by
 unfold Kaa
 simp only
 rw [h.size,Krl h.hi ha hb,Kro h ha hb,bs]
theorem Krs {a b:Nat} (ha:a < n) (hb:b < n):Kad (s,(a:Int),(b:Int))=some ((ti s n a b:Nat):Int):=by
 unfold Kad
 simp only
 rw [h.size,Krl h.hi ha hb,Krp h ha hb,bs]
theorem sLe {a b:Nat} (ha:a < n) (hb:b < n):Kag (s,(a:Int),(b:Int))=some (le s n a b):=by
 unfold Kag
 simp only
 rw [h.size,Krl h.hi ha hb,Krq h ha hb,bs]
theorem Krt {a b:Nat} (ha:a < n) (hb:b < n):Kgk (s,(a:Int),(b:Int))=some ((pl s n a b:Nat):Int):=by
 unfold Kgk
 simp only
 rw [h.size,Krl h.hi ha hb,Kro h ha hb,bs]
theorem Kru {a b:Nat} (ha:a < n) (hb:b < n):Kgn (s,(a:Int),(b:Int))=some ((ti s n a b:Nat):Int):=by
 unfold Kgn
 simp only
 rw [h.size,Krl h.hi ha hb,Krp h ha hb,bs]
theorem iLe {a b:Nat} (ha:a < n) (hb:b < n):Kgq (s,(a:Int),(b:Int))=some (le s n a b):=by
 unfold Kgq
 simp only
 rw [h.size,Krl h.hi ha hb,Krq h ha hb,bs]
end
theorem Krv (x y:Nat):(((x:Nat):Int) == ((y:Nat):Int))=(x == y):=by
 cases hb:(x == y) with
 | true=>have:=eq_of_beq hb; subst this; simp
 | false=>simp at hb ⊢; omega
theorem Krw (x y:Nat):(((x:Nat):Int) != ((y:Nat):Int))=(x != y):=by
 simp only [bne,Krv]
def Krx (s:K00) (n a:Nat):Bool:=(pl s n 0 a == a) && (ti s n 1 a == a) && (ti s n a 1 == a) && (ti s n 0 a == 0) && (ti s n a 0 == 0) && le s n a a
def Kry (s:K00) (n a b c:Nat):Bool :=
 (pl s n (pl s n a b) c == pl s n a (pl s n b c)) && (ti s n (ti s n a b) c == ti s n a (ti s n b c)) &&
 (ti s n a (pl s n b c) == pl s n (ti s n a b) (ti s n a c)) && (ti s n (pl s n a b) c == pl s n (ti s n a c) (ti s n b c)) &&
 (!(le s n a b) || ((!(le s n b c) || le s n a c) && le s n (pl s n a c) (pl s n b c) && le s n (ti s n a c) (ti s n b c) && le s n (ti s n c a) (ti s n c b)))
section
variable {s:K00} {n:Nat} (h:Tab s n)
include h
theorem Krz {a:Nat} (ha:a < n):Kan (s,(a:Int))=some (Krx s n a):=by
 have l0:(0:Nat) < n:=by have:=h.lo; omega
 have l1:(1:Nat) < n:=by have:=h.lo; omega
 have e0:(0:Int)=((0:Nat):Int):=rfl
 have e1:(1:Int)=((1:Nat):Int):=rfl
 unfold Kan Krx
 simp only
 rw [e0,e1]
 simp only [Krr h l0 ha,Krs h l1 ha,Krs h ha l1,Krs h l0 ha,Krs h ha l0,sLe h ha ha,bs,Krv]
 generalize (pl s n 0 a == a)=b1
 generalize (ti s n 1 a == a)=b2
 generalize (ti s n a 1 == a)=b3
 generalize (ti s n 0 a == 0)=b4
 generalize (ti s n a 0 == 0)=b5
 generalize le s n a a=b6
 cases b1 <;> cases b2 <;> cases b3 <;> cases b4 <;> cases b5 <;> cases b6 <;> rfl
theorem Ks0 {a b c:Nat} (ha:a < n) (hb:b < n) (hc:c < n):Kb4 (s,(a:Int),(b:Int),(c:Int))=some (Kry s n a b c):=by
 unfold Kb4 Kry
 simp only
 simp only [Krr h,Krs h,sLe h,Krm h,Krn h,ha,hb,hc,bs,Krw]
 generalize e1:pl s n (pl s n a b) c=x1
 generalize e2:pl s n a (pl s n b c)=x2
 generalize e3:ti s n (ti s n a b) c=x3
 generalize e4:ti s n a (ti s n b c)=x4
 generalize ti s n a (pl s n b c)=x5
 generalize pl s n (ti s n a b) (ti s n a c)=x6
 generalize ti s n (pl s n a b) c=x7
 generalize pl s n (ti s n a c) (ti s n b c)=x8
 generalize le s n (pl s n a c) (pl s n b c)=y1
 generalize le s n (ti s n a c) (ti s n b c)=y2
 generalize le s n (ti s n c a) (ti s n c b)=y3
 generalize le s n a b=y4
 generalize le s n b c=y5
 generalize le s n a c=y6
 simp only [bne]
 generalize (x1 == x2)=b1
 generalize (x3 == x4)=b2
 generalize (x5 == x6)=b3
 generalize (x7 == x8)=b4
 cases b1 <;> cases b2 <;> cases b3 <;> cases b4 <;> first | rfl | (cases y4 <;> cases y5 <;> cases y6 <;> cases y1 <;> cases y2 <;> cases y3 <;> rfl)
theorem Ks1 {a b c:Nat} (ha:a < n) (hb:b < n) (hc:c < n):Kha (s,(a:Int),(b:Int),(c:Int))=some (Kry s n a b c):=by
 unfold Kha Kry
 simp only
 simp only [Krt h,Kru h,iLe h,Krm h,Krn h,ha,hb,hc,bs,Krw]
 generalize e1:pl s n (pl s n a b) c=x1
 generalize e2:pl s n a (pl s n b c)=x2
 generalize e3:ti s n (ti s n a b) c=x3
 generalize e4:ti s n a (ti s n b c)=x4
 generalize ti s n a (pl s n b c)=x5
 generalize pl s n (ti s n a b) (ti s n a c)=x6
 generalize ti s n (pl s n a b) c=x7
 generalize pl s n (ti s n a c) (ti s n b c)=x8
 generalize le s n (pl s n a c) (pl s n b c)=y1
 generalize le s n (ti s n a c) (ti s n b c)=y2
 generalize le s n (ti s n c a) (ti s n c b)=y3
 generalize le s n a b=y4
 generalize le s n b c=y5
 generalize le s n a c=y6
 simp only [bne]
 generalize (x1 == x2)=b1
 generalize (x3 == x4)=b2
 generalize (x5 == x6)=b3
 generalize (x7 == x8)=b4
 cases b1 <;> cases b2 <;> cases b3 <;> cases b4 <;> first | rfl | (cases y4 <;> cases y5 <;> cases y6 <;> cases y1 <;> cases y2 <;> cases y3 <;> rfl)
end
def Ks2 (s:K00) (n a b g h:Nat):Bool:=!le s n a h || !le s n b h || le s n g h
def jok (s:K00) (n a b g:Nat):Bool:=le s n a g && le s n b g && (List.range' 0 n).all (Ks2 s n a b g)
def Ks3 (s:K00) (n a b:Nat):Int:=match (List.range' 0 n).find? (jok s n a b) with | some g=>(g:Int) | none=>-1
section
variable {s:K00} {n:Nat} (h:Tab s n)
include h
theorem Ks4 {a b g:Nat} (ha:a < n) (hb:b < n) (hg:g < n):∀ (k m:Nat) (ok:Bool),m + k=n→Kar (s,(a:Int),(b:Int),(g:Int),ok,(m:Int))=some (ok && (List.range' m k).all (Ks2 s n a b g)):=by
 have hhi:=h.hi
 intro k
 induction k with
 | zero =>
  intro m ok hm
  rw [Kar.eq_def]
  simp only
  rw [h.size,Kr7 (by omega)]
  simp [bs]
 | succ k ih =>
  intro m ok hm
  rw [Kar.eq_def]
  simp only
  rw [h.size,Kr6 (by omega),if_pos rfl,bs,sLe h ha (by omega),sLe h hb (by omega),sLe h hg (by omega)]
  cases ok with
  | false=>rfl
  | true =>
   rw [if_pos rfl]
   rw [List.range'_succ,List.all_cons]
   have ih:∀ ok,_:=fun ok=>ih (m + 1) ok (by omega)
   rw [Kr5 (by omega)]
   generalize ((m + 1:Nat):Int)=M at ih ⊢
   simp only [bs,Ks2]
   cases le s n a m <;> cases le s n b m <;> cases le s n g m <;> simp [bs,ih,Ks2]
theorem Ks5 {a b g:Nat} (ha:a < n) (hb:b < n) (hg:g < n):∀ (k m:Nat) (ok:Bool),m + k=n→Kgu (s,(a:Int),(b:Int),(g:Int),ok,(m:Int))=some (ok && (List.range' m k).all (Ks2 s n a b g)):=by
 have hhi:=h.hi
 intro k
 induction k with
 | zero =>
  intro m ok hm
  rw [Kgu.eq_def]
  simp only
  rw [h.size,Kr7 (by omega)]
  simp [bs]
 | succ k ih =>
  intro m ok hm
  rw [Kgu.eq_def]
  simp only
  rw [h.size,Kr6 (by omega),if_pos rfl,iLe h ha (by omega),iLe h hb (by omega),iLe h hg (by omega)]
  rw [List.range'_succ,List.all_cons]
  have ih:∀ ok,_:=fun ok=>ih (m + 1) ok (by omega)
  rw [Kr5 (by omega)]
  generalize ((m + 1:Nat):Int)=M at ih ⊢
  simp only [bs,Ks2]
  cases ok <;> cases le s n a m <;> cases le s n b m <;> cases le s n g m <;> simp [bs,ih,Ks2]
theorem Ks6 {a b:Nat} (ha:a < n) (hb:b < n):∀ (k g:Nat),g + k=n→Kav (s,(a:Int),(b:Int),(g:Int))=some (match (List.range' g k).find? (jok s n a b) with | some g=>.inr (g:Int) | none=>.inl ()):=by
 have hhi:=h.hi
 intro k
 induction k with
 | zero =>
  intro g hm
  rw [Kav.eq_def]
  simp only
  rw [h.size,Kr7 (by omega)]
  rfl
 | succ k ih =>
  intro g hm
  rw [Kav.eq_def]
  simp only
  rw [h.size,Kr6 (by omega),if_pos rfl,sLe h ha (by omega),sLe h hb (by omega)]
  have ih:=ih (g + 1) (by omega)
  rw [Kr5 (by omega),List.range'_succ,List.find?_cons]
  have hl:=fun ok=>Ks4 h ha hb (g:=g) (by omega) n 0 ok (by omega)
  rw [show ((0:Nat):Int)=0 from rfl] at hl
  generalize ((g + 1:Nat):Int)=M at ih ⊢
  have hj:jok s n a b g=(le s n a g && le s n b g && (List.range' 0 n).all (Ks2 s n a b g)):=rfl
  rw [hj]
  cases le s n a g <;> cases le s n b g <;> cases hq:(List.range' 0 n).all (Ks2 s n a b g) <;> simp [bs,hl,hq,ih]
theorem Ks7 {a b:Nat} (ha:a < n) (hb:b < n):∀ (k g:Nat),g + k=n→Kgz (s,(a:Int),(b:Int),(g:Int))=some (match (List.range' g k).find? (jok s n a b) with | some g=>.inr (g:Int) | none=>.inl ()):=by
 have hhi:=h.hi
 intro k
 induction k with
 | zero =>
  intro g hm
  rw [Kgz.eq_def]
  simp only
  rw [h.size,Kr7 (by omega)]
  rfl
 | succ k ih =>
  intro g hm
  rw [Kgz.eq_def]
  simp only
  rw [h.size,Kr6 (by omega),if_pos rfl,iLe h ha (by omega),iLe h hb (by omega)]
  have ih:=ih (g + 1) (by omega)
  rw [Kr5 (by omega),List.range'_succ,List.find?_cons]
  have hl:=fun ok=>Ks5 h ha hb (g:=g) (by omega) n 0 ok (by omega)
  rw [show ((0:Nat):Int)=0 from rfl] at hl
  generalize ((g + 1:Nat):Int)=M at ih ⊢
  have hj:jok s n a b g=(le s n a g && le s n b g && (List.range' 0 n).all (Ks2 s n a b g)):=rfl
  rw [hj]
  cases le s n a g <;> cases le s n b g <;> cases hq:(List.range' 0 n).all (Ks2 s n a b g) <;> simp [bs,hl,hq,ih]
theorem Ks8 {a b:Nat} (ha:a < n) (hb:b < n):Kay (s,(a:Int),(b:Int))=some (Ks3 s n a b):=by
 unfold Kay Ks3
 simp only
 have:=Ks6 h ha hb n 0 (by omega)
 rw [show ((0:Nat):Int)=0 from rfl] at this
 rw [this,bs]
 cases (List.range' 0 n).find? (jok s n a b) <;> rfl
theorem Ks9 {a b:Nat} (ha:a < n) (hb:b < n):Kh2 (s,(a:Int),(b:Int))=some (Ks3 s n a b):=by
 unfold Kh2 Ks3
 simp only
 have:=Ks7 h ha hb n 0 (by omega)
 rw [show ((0:Nat):Int)=0 from rfl] at this
 rw [this,bs]
 cases (List.range' 0 n).find? (jok s n a b) <;> rfl
def Ksa (s:K00) (n a b:Nat):Bool:=(pl s n a b == pl s n b a) && ((a == b) || !le s n a b || !le s n b a) && decide (Ks3 s n a b ≥ 0)
omit h in
theorem Ksb (x:Int):decide (x < 0)=!decide (x ≥ 0):=by
 by_cases h:x < 0
 ·rw [decide_eq_true h,decide_eq_false (by omega)]; rfl
 ·rw [decide_eq_false h,decide_eq_true (by omega)]; rfl
theorem Ksc {a b:Nat} (ha:a < n) (hb:b < n):Kb1 (s,(a:Int),(b:Int))=some (Ksa s n a b):=by
 unfold Kb1 Ksa
 simp only
 rw [Krr h ha hb,Krr h hb ha,sLe h ha hb,sLe h hb ha,Ks8 h ha hb]
 simp only [bs,Krv]
 generalize (pl s n a b == pl s n b a)=b1
 generalize (a == b)=b2
 cases b1 <;> cases b2 <;> cases le s n a b <;> cases le s n b a <;> simp [bs]
end
def inB (x lo hi:Int):Bool:=decide (x ≥ lo) && decide (x ≤ hi)
theorem sIn (x lo hi:Int):Ka0 (x,lo,hi)=some (inB x lo hi):=by
 unfold Ka0 inB
 simp only
 cases decide (x ≥ lo) <;> simp [bs]
theorem iIn (x lo hi:Int):Kge (x,lo,hi)=some (inB x lo hi):=by
 unfold Kge inB
 simp only
 cases decide (x ≥ lo) <;> simp [bs]
def Ksd (s:K00) (n:Nat):Bool:=(List.range' 0 n).all fun a=>Krx s n a && (List.range' 0 n).all fun b=>Ksa s n a b && (List.range' 0 n).all fun c=>Kry s n a b c
section
variable {s:K00} {n:Nat} (h:Tab s n)
include h
theorem Kse {a b:Nat} (ha:a < n) (hb:b < n):∀ (k c:Nat),c + k=n→Kb8 (s,(a:Int),(b:Int),(c:Int))=some (if (List.range' c k).all (fun c=>Kry s n a b c) then .inl () else .inr false):=by
 have hhi:=h.hi
 intro k
 induction k with
 | zero =>
  intro c hm
  rw [Kb8.eq_def]
  simp only
  rw [h.size,Kr7 (by omega)]
  rfl
 | succ k ih =>
  intro c hm
  rw [Kb8.eq_def]
  simp only
  rw [h.size,Kr6 (by omega),if_pos rfl,Ks0 h ha hb (by omega),bs]
  have ih:=ih (c + 1) (by omega)
  rw [Kr5 (by omega),List.range'_succ,List.all_cons]
  generalize ((c + 1:Nat):Int)=M at ih ⊢
  generalize (List.range' (c + 1) k).all (fun c=>Kry s n a b c)=r at ih ⊢
  cases Kry s n a b c <;> cases r <;> simp [ih]
theorem Ksf {a b:Nat} (ha:a < n) (hb:b < n):∀ (k c:Nat),c + k=n→Khi (s,(a:Int),(b:Int),(c:Int))=some (if (List.range' c k).all (fun c=>Kry s n a b c) then .inl () else .inr false):=by
 have hhi:=h.hi
 intro k
 induction k with
 | zero =>
  intro c hm
  rw [Khi.eq_def]
  simp only
  rw [h.size,Kr7 (by omega)]
  rfl
 | succ k ih =>
  intro c hm
  rw [Khi.eq_def]
  simp only
  rw [h.size,Kr6 (by omega),if_pos rfl,Ks1 h ha hb (by omega),bs]
  have ih:=ih (c + 1) (by omega)
  rw [Kr5 (by omega),List.range'_succ,List.all_cons]
  generalize ((c + 1:Nat):Int)=M at ih ⊢
  generalize (List.range' (c + 1) k).all (fun c=>Kry s n a b c)=r at ih ⊢
  cases Kry s n a b c <;> cases r <;> simp [ih]
theorem Ksg {a:Nat} (ha:a < n):∀ (k b:Nat),b + k=n→Kbc (s,(a:Int),(b:Int))=some (if (List.range' b k).all (fun b=>Ksa s n a b && (List.range' 0 n).all fun c=>Kry s n a b c) then .inl () else .inr false):=by
 have hhi:=h.hi
 intro k
 induction k with
 | zero =>
  intro c hm
  rw [Kbc.eq_def]
  simp only
  rw [h.size,Kr7 (by omega)]
  rfl
 | succ k ih =>
  intro b hm
  rw [Kbc.eq_def]
  simp only
  have hl:=Kse h ha (b:=b) (by omega) n 0 (by omega)
  rw [show ((0:Nat):Int)=0 from rfl] at hl
  rw [h.size,Kr6 (by omega),if_pos rfl,Ksc h ha (by omega),bs,hl]
  have ih:=ih (b + 1) (by omega)
  rw [Kr5 (by omega),List.range'_succ,List.all_cons]
  generalize ((b + 1:Nat):Int)=M at ih ⊢
  generalize (List.range' (b + 1) k).all (fun b=>Ksa s n a b && (List.range' 0 n).all fun c=>Kry s n a b c)=r at ih ⊢
  cases Ksa s n a b <;> cases (List.range' 0 n).all (fun c=>Kry s n a b c) <;> cases r <;> simp [ih,bs]
theorem Ksh {a:Nat} (ha:a < n):∀ (k b:Nat),b + k=n→Khm (s,(a:Int),(b:Int))=some (if (List.range' b k).all (fun b=>Ksa s n a b && (List.range' 0 n).all fun c=>Kry s n a b c) then .inl () else .inr false):=by
 have hhi:=h.hi
 intro k
 induction k with
 | zero =>
  intro c hm
  rw [Khm.eq_def]
  simp only
  rw [h.size,Kr7 (by omega)]
  rfl
 | succ k ih =>
  intro b hm
  have hb:b < n:=by omega
  rw [Khm.eq_def]
  simp only
  have hl:=Ksf h ha (b:=b) (by omega) n 0 (by omega)
  rw [show ((0:Nat):Int)=0 from rfl] at hl
  rw [h.size,Kr6 (by omega),if_pos rfl,Krt h ha hb,Krt h hb ha,iLe h ha hb,iLe h hb ha,Ks9 h ha hb,hl]
  have ih:=ih (b + 1) (by omega)
  rw [Kr5 (by omega),List.range'_succ,List.all_cons]
  generalize ((b + 1:Nat):Int)=M at ih ⊢
  generalize (List.range' (b + 1) k).all (fun b=>Ksa s n a b && (List.range' 0 n).all fun c=>Kry s n a b c)=r at ih ⊢
  simp only [bs,Krw,Ksb]
  cases h1:(pl s n a b == pl s n b a) <;> cases h2:(a == b) <;> cases h3:decide (Ks3 s n a b ≥ 0) <;> cases h4:le s n a b <;> cases h5:le s n b a <;> cases h6:(List.range' 0 n).all (fun c=>Kry s n a b c) <;> cases r <;> simp only [Ksa,bne,h1,h2,h3,h4,h5,h6,ih,bs,Bool.not_true,Bool.not_false,Bool.true_and,Bool.false_and,Bool.and_true,Bool.and_false,Bool.true_or,Bool.false_or,Bool.or_true,Bool.or_false,if_true,if_false,Bool.false_eq_true]
theorem Ksi:∀ (k a:Nat),a + k=n→Kbh (s,(a:Int))=some (if (List.range' a k).all (fun a=>Krx s n a && (List.range' 0 n).all fun b=>Ksa s n a b && (List.range' 0 n).all fun c=>Kry s n a b c) then .inl () else .inr false):=by
 have hhi:=h.hi
 intro k
 induction k with
 | zero =>
  intro c hm
  rw [Kbh.eq_def]
  simp only
  rw [h.size,Kr7 (by omega)]
  rfl
 | succ k ih =>
  intro a hm
  have ha:a < n:=by omega
  rw [Kbh.eq_def]
  simp only
  have hl:=Ksg h ha n 0 (by omega)
  rw [show ((0:Nat):Int)=0 from rfl] at hl
  rw [h.size,Kr6 (by omega),if_pos rfl,Krz h ha,bs,hl]
  have ih:=ih (a + 1) (by omega)
  rw [Kr5 (by omega),List.range'_succ,List.all_cons]
  generalize ((a + 1:Nat):Int)=M at ih ⊢
  generalize (List.range' (a + 1) k).all (fun a=>Krx s n a && (List.range' 0 n).all fun b=>Ksa s n a b && (List.range' 0 n).all fun c=>Kry s n a b c)=r at ih ⊢
  cases Krx s n a <;> cases (List.range' 0 n).all (fun b=>Ksa s n a b && (List.range' 0 n).all fun c=>Kry s n a b c) <;> cases r <;> simp [ih,bs]
theorem Ksj:∀ (k a:Nat),a + k=n→Khq (s,(a:Int))=some (if (List.range' a k).all (fun a=>Krx s n a && (List.range' 0 n).all fun b=>Ksa s n a b && (List.range' 0 n).all fun c=>Kry s n a b c) then .inl () else .inr false):=by
 have hhi:=h.hi
 have l0:(0:Nat) < n:=by have:=h.lo; omega
 have l1:(1:Nat) < n:=by have:=h.lo; omega
 intro k
 induction k with
 | zero =>
  intro c hm
  rw [Khq.eq_def]
  simp only
  rw [h.size,Kr7 (by omega)]
  rfl
 | succ k ih =>
  intro a hm
  have ha:a < n:=by omega
  rw [Khq.eq_def]
  simp only
  have hl:=Ksh h ha n 0 (by omega)
  have q1:Kgk (s,0,(a:Int))=_:=Krt h l0 ha
  have q2:Kgn (s,1,(a:Int))=_:=Kru h l1 ha
  have q3:Kgn (s,(a:Int),1)=_:=Kru h ha l1
  have q4:Kgn (s,0,(a:Int))=_:=Kru h l0 ha
  have q5:Kgn (s,(a:Int),0)=_:=Kru h ha l0
  have z1:(((ti s n 0 a:Nat):Int) != 0)=(ti s n 0 a != 0):=Krw _ 0
  have z2:(((ti s n a 0:Nat):Int) != 0)=(ti s n a 0 != 0):=Krw _ 0
  rw [show ((0:Nat):Int)=0 from rfl] at hl
  rw [h.size,Kr6 (by omega),if_pos rfl,q1,q2,q3,q4,q5,iLe h ha ha,hl]
  have ih:=ih (a + 1) (by omega)
  rw [Kr5 (by omega),List.range'_succ,List.all_cons]
  generalize ((a + 1:Nat):Int)=M at ih ⊢
  generalize (List.range' (a + 1) k).all (fun a=>Krx s n a && (List.range' 0 n).all fun b=>Ksa s n a b && (List.range' 0 n).all fun c=>Kry s n a b c)=r at ih ⊢
  simp only [bs,Krw,z1,z2]
  cases h1:(pl s n 0 a == a) <;> cases h2:(ti s n 1 a == a) <;> cases h3:(ti s n a 1 == a) <;> cases h4:(ti s n 0 a == 0) <;> cases h5:(ti s n a 0 == 0) <;> cases h6:le s n a a <;> cases h7:(List.range' 0 n).all (fun b=>Ksa s n a b && (List.range' 0 n).all fun c=>Kry s n a b c) <;> cases r <;> simp only [Krx,bne,h1,h2,h3,h4,h5,h6,h7,ih,bs,Bool.not_true,Bool.not_false,Bool.true_and,Bool.false_and,Bool.and_true,Bool.and_false,if_true,if_false,Bool.false_eq_true]
end
theorem Ksk {α:Type} {l r:List α} {x:α} {i:Nat} (h:l.drop i=x :: r):i < l.length∧idx l (i:Int)=some x∧l.drop (i + 1)=r:=by
 have hi:i < l.length:=by
  rcases Nat.lt_or_ge i l.length with h' | h'
  ·exact h'
  ·rw [List.drop_eq_nil_of_le h'] at h; cases h
 have e:=List.drop_eq_getElem_cons hi
 rw [h] at e
 obtain ⟨e1,e2⟩:=List.cons.inj e
 exact ⟨hi,by rw [Kr4 hi,e1],e2.symm⟩
theorem Ksl {α:Type} {l:List α} {i:Nat} (h:l.drop i=[]):l.length ≤ i:=by
 rcases Nat.lt_or_ge i l.length with h' | h'
 ·rw [List.drop_eq_getElem_cons h'] at h; cases h
 ·exact h'
def Ksm (c:Int):Bool:=inB c 3 18 || c == 35
def Ksn (c:Int):Bool:=inB c 19 34 || c == 36
def Kso (c:Int):Int:=if c == 0 then 0 else if c == 1 || c == 2 || Ksm c then 2 else if Ksn c then 1 else -1
theorem Ksp (c:Int):Kbn c=some (Ksm c):=by
 unfold Kbn Ksm
 simp only [sIn,bs]
 cases inB c 3 18 <;> rfl
theorem Ksq (c:Int):Kbq c=some (Ksn c):=by
 unfold Kbq Ksn
 simp only [sIn,bs]
 cases inB c 19 34 <;> rfl
theorem Ksr (c:Int):Kbt c=some (Kso c):=by
 unfold Kbt Kso
 simp only [Ksp,Ksq,bs]
 cases c == 0 <;> cases c == 1 <;> cases c == 2 <;> cases Ksm c <;> cases Ksn c <;> rfl
theorem Kss (c:Int):(c=0∧Kso c=0)∨((c=1∨c=2∨(3 ≤ c∧c ≤ 18)∨c=35)∧Kso c=2)∨(((19 ≤ c∧c ≤ 34)∨c=36)∧Kso c=1)∨((c < 0∨36 < c)∧Kso c=-1):=by
 unfold Kso Ksm Ksn inB
 by_cases h0:c=0
 ·left; subst h0; exact ⟨rfl,rfl⟩
 ·right
  have e0:(c == 0)=false:=by simpa using h0
  by_cases h1:c=1∨c=2∨(3 ≤ c∧c ≤ 18)∨c=35
  ·left
   refine ⟨h1,?_⟩
   have:(c == 1 || c == 2 || (decide (c ≥ 3) && decide (c ≤ 18) || c == 35))=true:=by
    simp only [Bool.or_eq_true,Bool.and_eq_true,beq_iff_eq,decide_eq_true_eq]; omega
   rw [e0,this]; rfl
  ·right
   have q:(c == 1 || c == 2 || (decide (c ≥ 3) && decide (c ≤ 18) || c == 35))=false:=by
    rw [Bool.eq_false_iff]; intro h
    simp only [Bool.or_eq_true,Bool.and_eq_true,beq_iff_eq,decide_eq_true_eq] at h; omega
   rw [e0,q]
   by_cases h2:(19 ≤ c∧c ≤ 34)∨c=36
   ·left
    refine ⟨h2,?_⟩
    have:(decide (c ≥ 19) && decide (c ≤ 34) || c == 36)=true:=by
     simp only [Bool.or_eq_true,Bool.and_eq_true,beq_iff_eq,decide_eq_true_eq]; omega
    rw [this]; rfl
   ·right
    refine ⟨by omega,?_⟩
    have:(decide (c ≥ 19) && decide (c ≤ 34) || c == 36)=false:=by
     rw [Bool.eq_false_iff]; intro h
     simp only [Bool.or_eq_true,Bool.and_eq_true,beq_iff_eq,decide_eq_true_eq] at h; omega
    rw [this]; rfl
def Kst (c:Int):Int × Int :=
 if inB c 0 2 then (c,-1) else if inB c 3 18 then (3,c - 3) else if inB c 19 34 then (4,c - 19) else if c == 35 then (3,-1) else if c == 36 then (4,-1) else (5,-1)
theorem Ksu (c:Int):Khw c=some (Kst c):=by
 unfold Khw Kst
 simp only [iIn,bs]
 cases h1:inB c 0 2
 ·cases h2:inB c 3 18
  ·cases h3:inB c 19 34
   ·cases c == 35 <;> cases c == 36 <;> rfl
   ·simp only [inB,Bool.and_eq_true,decide_eq_true_eq] at h3
    simp only [Bool.false_eq_true,if_false,if_true]
    rw [Kr3 (by omega) (by omega)]
  ·simp only [inB,Bool.and_eq_true,decide_eq_true_eq] at h2
   simp only [Bool.false_eq_true,if_false,if_true]
   rw [Kr3 (by omega) (by omega)]
 ·rfl
theorem Ksv (c:Int):(c=0∧Kst c=(0,-1))∨(c=1∧Kst c=(1,-1))∨(c=2∧Kst c=(2,-1))∨((3 ≤ c∧c ≤ 18)∧Kst c=(3,c - 3))∨(c=35∧Kst c=(3,-1)) ∨
  ((19 ≤ c∧c ≤ 34)∧Kst c=(4,c - 19))∨(c=36∧Kst c=(4,-1))∨((c < 0∨36 < c)∧Kst c=(5,-1)):=by
 have inT:∀ lo hi,lo ≤ c→c ≤ hi→inB c lo hi=true:=fun lo hi h1 h2=>by simp only [inB,Bool.and_eq_true,decide_eq_true_eq]; omega
 have inF:∀ lo hi,(c < lo∨hi < c)→inB c lo hi=false:=fun lo hi h=>by rw [Bool.eq_false_iff]; intro h'; simp only [inB,Bool.and_eq_true,decide_eq_true_eq] at h'; omega
 unfold Kst
 by_cases h0:0 ≤ c∧c ≤ 2
 ·rw [inT 0 2 h0.1 h0.2]
  have:c=0∨c=1∨c=2:=by omega
  rcases this with rfl | rfl | rfl <;> simp
 ·rw [inF 0 2 (by omega)]
  by_cases h1:3 ≤ c∧c ≤ 18
  ·rw [inT 3 18 h1.1 h1.2]
   exact .inr (.inr (.inr (.inl ⟨h1,rfl⟩)))
  ·rw [inF 3 18 (by omega)]
   by_cases h2:19 ≤ c∧c ≤ 34
   ·rw [inT 19 34 h2.1 h2.2]
    exact .inr (.inr (.inr (.inr (.inr (.inl ⟨h2,rfl⟩)))))
   ·rw [inF 19 34 (by omega)]
    by_cases h3:c=35
    ·subst h3; simp
    ·by_cases h4:c=36
     ·subst h4; simp
     ·have e3:(c == 35)=false:=by simpa using h3
      have e4:(c == 36)=false:=by simpa using h4
      rw [e3,e4]
      refine .inr (.inr (.inr (.inr (.inr (.inr (.inr ⟨by omega,rfl⟩))))))
def skip:Nat→List Int→Option (List Int)
 | 0,l=>some l
 | _ + 1,[]=>none
 | m + 1,c :: l=>if Kso c=-1 then none else skip (m + (Kso c).toNat) l
theorem Ksw (l:List Int):skip 0 l=some l:=by cases l <;> rfl
theorem Ksx (m:Nat):skip (m + 1) []=none:=rfl
theorem Ksy (m:Nat) (c:Int) (l:List Int):skip (m + 1) (c :: l)=if Kso c=-1 then none else skip (m + (Kso c).toNat) l:=rfl
theorem Ksz (l:List Int):∀ (m k:Nat),skip (m + k) l=(skip m l).bind (skip k):=by
 induction l with
 | nil =>
  intro m k
  cases m with
  | zero=>rw [Nat.zero_add,Ksw]; rfl
  | succ m=>rw [show m + 1 + k=(m + k) + 1 by omega,Ksx,Ksx]; rfl
 | cons c l ih =>
  intro m k
  cases m with
  | zero=>rw [Nat.zero_add,Ksw]; rfl
  | succ m =>
   rw [show m + 1 + k=(m + k) + 1 by omega,Ksy,Ksy]
   by_cases h:Kso c=-1
   ·rw [if_pos h,if_pos h]; rfl
   ·rw [if_neg h,if_neg h,← ih]; congr 1; omega
theorem Kt0 (l:List Int):∀ (m:Nat) (r:List Int),skip m l=some r→∃ p,l=p ++ r∧m ≤ p.length:=by
 induction l with
 | nil =>
  intro m r h
  cases m with
  | zero=>rw [Ksw] at h; cases h; exact ⟨[],rfl,Nat.le_refl _⟩
  | succ m=>rw [Ksx] at h; cases h
 | cons c l ih =>
  intro m r h
  cases m with
  | zero=>rw [Ksw] at h; cases h; exact ⟨[],rfl,Nat.le_refl _⟩
  | succ m =>
   rw [Ksy] at h
   by_cases hk:Kso c=-1
   ·rw [if_pos hk] at h; cases h
   ·rw [if_neg hk] at h
    obtain ⟨p,e,hp⟩:=ih _ _ h
    exact ⟨c :: p,by rw [e]; rfl,by simp; omega⟩
def Kt1 (ty:List Int) (m i:Nat):Int:=match skip m (ty.drop i) with | some r=>((ty.length - r.length:Nat):Int) | none=>-1
theorem Kt2 (ty:List Int) (hty:ty.length ≤ 1099511627776):∀ (l:List Int) (i m:Nat),ty.drop i=l→m ≤ 1099511627776 + 2 * i→∃ x,Kbx (ty,((m + 1:Nat):Int),(i:Int))=some x∧(match x with | .inl ()=>-1 | .inr r=>r)=Kt1 ty (m + 1) i:=by
 intro l
 induction l with
 | nil =>
  intro i m hl hm
  rw [Kbx.eq_def]
  simp only
  rw [Kr7 (Ksl hl)]
  exact ⟨.inl (),rfl,by unfold Kt1; rw [hl,Ksx]⟩
 | cons c l ih =>
  intro i m hl hm
  obtain ⟨hi,hx,hd⟩:=Ksk hl
  have hi2:(i:Int) < 1099511627776:=by omega
  rw [Kbx.eq_def]
  simp only
  rw [Kr6 hi,if_pos rfl,hx,bs,Ksr,bs]
  have he:Kt1 ty (m + 1) i=(match (if Kso c=-1 then none else skip (m + (Kso c).toNat) l) with | some r=>((ty.length - r.length:Nat):Int) | none=>-1):=by
   unfold Kt1; rw [hl,Ksy]
  rw [he]
  by_cases hk:Kso c=-1
  ·rw [if_pos hk,hk]
   exact ⟨.inr (-1),rfl,rfl⟩
  ·rw [if_neg hk]
   have hk0:0 ≤ Kso c∧Kso c ≤ 2:=by rcases Kss c with h | h | h | h <;> omega
   obtain ⟨k,hkk⟩:∃ k:Nat,Kso c=(k:Int):=⟨(Kso c).toNat,by omega⟩
   rw [decide_eq_false (by omega),if_neg (by decide),hkk,Int.toNat_natCast]
   rw [Kr3 (x:=((m + 1:Nat):Int) - 1) (by omega) (by omega),show ((m + 1:Nat):Int) - 1=(m:Int) by omega,Kr3 (x:=(m:Int) + (k:Int)) (by omega) (by omega),Kr5 (by omega)]
   by_cases h0:m + k=0
   ·rw [show ((m:Int) + (k:Int) == 0)=true by simp; omega,if_pos rfl,h0,Ksw]
    refine ⟨_,rfl,?_⟩
    have:l.length=ty.length - (i + 1):=by rw [← hd,List.length_drop]
    simp only
    omega
   ·rw [show ((m:Int) + (k:Int) == 0)=false by simp; omega,if_neg (by decide)]
    obtain ⟨q,hq⟩:∃ q,m + k=q + 1:=⟨m + k - 1,by omega⟩
    have:=ih (i + 1) q hd (by omega)
    rw [show (m:Int) + (k:Int)=((q + 1:Nat):Int) by omega]
    obtain ⟨x,h1,h2⟩:=this
    exact ⟨x,h1,by rw [h2,hq]; unfold Kt1; rw [hd]⟩
theorem Kt3 (ty:List Int) (hty:ty.length ≤ 1099511627776) (i:Nat) (hi:i ≤ ty.length):Kc0 (ty,(i:Int))=some (Kt1 ty 1 i):=by
 unfold Kc0
 obtain ⟨x,h1,h2⟩:=Kt2 ty hty _ i 0 rfl (by omega)
 simp only
 rw [show (1:Int)=((0 + 1:Nat):Int) from rfl,h1,bs]
 rw [← h2]
 cases x <;> rfl
theorem Kt4 (ty:List Int) (i:Nat) (hi:i ≤ ty.length):Kt1 ty 2 i=(if Kt1 ty 1 i=-1 then -1 else Kt1 ty 1 (Kt1 ty 1 i).toNat):=by
 unfold Kt1
 rw [show 2=1 + 1 from rfl,Ksz]
 cases h:skip 1 (ty.drop i) with
 | none=>simp
 | some r =>
  obtain ⟨p,hp,hl⟩:=Kt0 _ _ _ h
  have hlen:ty.length - i=p.length + r.length:=by rw [← List.length_drop,hp,List.length_append]
  have:ty.drop (ty.length - r.length)=r:=by
   have e:ty.drop (ty.length - r.length)=(ty.drop i).drop p.length:=by rw [List.drop_drop]; congr 1; omega
   rw [e,hp,List.drop_left]
  simp only [Option.bind_some]
  rw [if_neg (by omega),Int.toNat_natCast,this]
theorem Kt5 (ty:List Int) (hty:ty.length ≤ 1099511627776):∀ (d i:Nat),ty.length - i=d→Khz (ty,(i:Int))=some (Kt1 ty 1 i):=by
 intro d
 induction d using Nat.strongRecOn with
 | ind d ih =>
  intro i hd
  rw [Khz.eq_def]
  simp only
  rw [decide_eq_false (by omega:¬ (i:Int) < 0)]
  simp only [Bool.false_eq_true,if_false,bs]
  by_cases hi:i < ty.length
  ·rw [decide_eq_false (by omega),if_neg (by decide),Kr4 hi,bs,Ksu,bs]
   have hdr:=List.drop_eq_getElem_cons hi
   have he:∀ k:Nat,Kso ty[i]=(k:Int)→Kt1 ty 1 i=Kt1 ty k (i + 1):=fun k hk=>by
    unfold Kt1
    rw [hdr,show 1=0 + 1 from rfl,Ksy,hk,if_neg (by omega),Int.toNat_natCast,Nat.zero_add]
   have hn:Kso ty[i]=-1→Kt1 ty 1 i=-1:=fun hk=>by
    unfold Kt1
    rw [hdr,show 1=0 + 1 from rfl,Ksy,if_pos hk]
   have i1:=ih (ty.length - (i + 1)) (by omega) (i + 1) rfl
   have hz:∀ i:Nat,i ≤ ty.length→Kt1 ty 0 i=(i:Int):=fun i hi=>by unfold Kt1; rw [Ksw]; simp only [List.length_drop]; omega
   rw [Kr5 (by omega)]
   have two:Kso ty[i]=2→((Khz (ty,((i + 1:Nat):Int))) >>= fun r_11_4=>(Khz (ty,r_11_4)) >>= fun r_11_5=>some r_11_5)=some (Kt1 ty 1 i):=fun hk=>by
    rw [i1,bs,he 2 hk,Kt4 ty (i + 1) (by omega)]
    by_cases h1:Kt1 ty 1 (i + 1)=-1
    ·rw [h1,if_pos rfl,Khz.eq_def]; rfl
    ·rw [if_neg h1]
     obtain ⟨e,hee,hlo⟩:∃ e:Nat,Kt1 ty 1 (i + 1)=(e:Int)∧i + 1 < e:=by
      unfold Kt1 at h1 ⊢
      cases hs:skip 1 (ty.drop (i + 1)) with
      | none=>rw [hs] at h1; exact absurd rfl h1
      | some r =>
       obtain ⟨p,hp,hl⟩:=Kt0 _ _ _ hs
       have hlen:ty.length - (i + 1)=p.length + r.length:=by rw [← List.length_drop,hp,List.length_append]
       exact ⟨_,rfl,by omega⟩
     rw [hee,Int.toNat_natCast,ih (ty.length - e) (by omega) e rfl,bs]
   rcases Ksv ty[i] with ⟨h,e⟩ | ⟨h,e⟩ | ⟨h,e⟩ | ⟨h,e⟩ | ⟨h,e⟩ | ⟨h,e⟩ | ⟨h,e⟩ | ⟨h,e⟩ <;> rw [e] <;> simp only []
   ·have hk:Kso ty[i]=0:=by rcases Kss ty[i] with h | h | h | h <;> omega
    rw [if_pos (by rfl),he 0 hk,hz _ (by omega)]
   ·have hk:Kso ty[i]=2:=by rcases Kss ty[i] with h | h | h | h <;> omega
    exact two hk
   ·have hk:Kso ty[i]=2:=by rcases Kss ty[i] with h | h | h | h <;> omega
    exact two hk
   ·have hk:Kso ty[i]=2:=by rcases Kss ty[i] with h | h | h | h <;> omega
    exact two hk
   ·have hk:Kso ty[i]=2:=by rcases Kss ty[i] with h | h | h | h <;> omega
    exact two hk
   ·have hk:Kso ty[i]=1:=by rcases Kss ty[i] with h | h | h | h <;> omega
    rw [he 1 hk,if_neg (by decide),if_pos (by rfl),i1,bs]
   ·have hk:Kso ty[i]=1:=by rcases Kss ty[i] with h | h | h | h <;> omega
    rw [he 1 hk,if_neg (by decide),if_pos (by rfl),i1,bs]
   ·have hk:Kso ty[i]=-1:=by rcases Kss ty[i] with h | h | h | h <;> omega
    rw [hn hk]; rfl
  ·rw [decide_eq_true (by omega),if_pos rfl]
   unfold Kt1
   rw [List.drop_eq_nil_of_le (by omega),Ksx]
def wtB (ty:List Int):Bool:=decide (ty.length ≤ 40) && (skip 1 ty == some [])
theorem Kt6 (ty:List Int):(Kt1 ty 1 0 == (ty.length:Int))=(skip 1 ty == some []):=by
 unfold Kt1
 rw [List.drop_zero]
 cases h:skip 1 ty with
 | none=>simp
 | some r =>
  obtain ⟨p,hp,hl⟩:=Kt0 _ _ _ h
  have hlen:ty.length=p.length + r.length:=by rw [hp,List.length_append]
  cases r with
  | nil=>simp
  | cons x xs =>
   simp only [List.length_cons] at hlen ⊢
   simp
   omega
theorem Kt7 (ty:List Int) (hty:ty.length ≤ 1099511627776):Kc3 ty=some (wtB ty):=by
 unfold Kc3 wtB
 by_cases h:ty.length ≤ 40
 ·rw [decide_eq_true (by omega:(ty.length:Int) ≤ 40),if_pos rfl,show (0:Int)=((0:Nat):Int) from rfl,Kt3 ty hty 0 (by omega),bs,Kt6,decide_eq_true h]
  cases hs:skip 1 ty == some [] with
  | false=>rfl
  | true =>
   have:0 < ty.length:=by
    rcases ty with _ | ⟨c,l⟩
    ·rw [show skip 1 []=none from rfl] at hs; cases hs
    ·simp
   rw [if_pos rfl,decide_eq_true (by omega:(ty.length:Int) > ((0:Nat):Int))]; rfl
 ·rw [decide_eq_false (by omega:¬ (ty.length:Int) ≤ 40),decide_eq_false h]; rfl
theorem Kt8 (ty:List Int) (hty:ty.length ≤ 1099511627776):Ki2 ty=some (wtB ty):=by
 unfold Ki2 wtB
 rw [iIn,bs]
 by_cases h:ty.length ≤ 40
 ·rw [decide_eq_true h]
  by_cases h1:1 ≤ ty.length
  ·have:inB (ty.length:Int) 1 40=true:=by simp only [inB,Bool.and_eq_true,decide_eq_true_eq]; omega
   rw [this,if_pos rfl,show (0:Int)=((0:Nat):Int) from rfl,Kt5 ty hty _ 0 rfl,bs,Kt6]; rfl
  ·have:inB (ty.length:Int) 1 40=false:=by rw [Bool.eq_false_iff]; intro h'; simp only [inB,Bool.and_eq_true,decide_eq_true_eq] at h'; omega
   have e:ty=[]:=List.length_eq_zero_iff.1 (by omega)
   rw [this,e]; rfl
 ·have:inB (ty.length:Int) 1 40=false:=by rw [Bool.eq_false_iff]; intro h'; simp only [inB,Bool.and_eq_true,decide_eq_true_eq] at h'; omega
  rw [this,decide_eq_false h]; rfl
def Kt9 (c:Int):Int:=if 35 ≤ c then -1 else if 19 ≤ c then c - 19 else c - 3
def Kta (size:Int) (closed:Bool) (c:Int):Bool:=!(decide (Kso c > 0) && decide (c > 2) && (decide (Kt9 c ≥ size) || closed && decide (Kt9 c < 0)))
theorem Ktb {c:Int} (h:Kso c > 0):Kc6 c=some (Kt9 c):=by
 have:0 ≤ c∧c ≤ 36:=by rcases Kss c with h | h | h | h <;> omega
 unfold Kc6 Kt9
 by_cases h1:35 ≤ c
 ·rw [decide_eq_true (by omega:c ≥ 35),if_pos rfl,if_pos h1]
 ·rw [decide_eq_false (by omega:¬ c ≥ 35),if_neg (by decide),if_neg h1]
  by_cases h2:19 ≤ c
  ·rw [decide_eq_true (by omega:c ≥ 19),if_pos rfl,if_pos h2,Kr3 (by omega) (by omega)]
  ·rw [decide_eq_false (by omega:¬ c ≥ 19),if_neg (by decide),if_neg h2,Kr3 (by omega) (by omega)]
theorem Ktc (ty:List Int) (hty:ty.length ≤ 1099511627776) (size:Int) (cl:Bool):∀ (l:List Int) (i:Nat),ty.drop i=l→Kcb (ty,size,cl,(i:Int))=some (if l.all (Kta size cl) then .inl () else .inr false):=by
 intro l
 induction l with
 | nil =>
  intro i hl
  rw [Kcb.eq_def]
  simp only
  rw [Kr7 (Ksl hl)]; rfl
 | cons c l ih =>
  intro i hl
  obtain ⟨hi,hx,hd⟩:=Ksk hl
  rw [Kcb.eq_def]
  simp only
  rw [Kr6 hi,if_pos rfl,hx,bs,bs,Ksr,bs,Kr5 (by omega)]
  have ih:=ih (i + 1) hd
  generalize ((i + 1:Nat):Int)=M at ih ⊢
  rw [List.all_cons]
  unfold Kta at ih ⊢
  by_cases hk:Kso c > 0
  ·simp only [bs,Ktb hk]
   rw [decide_eq_true hk]
   generalize Kt9 c=g at ih ⊢
   cases decide (c > 2) <;> cases decide (g ≥ size) <;> cases cl <;> cases decide (g < 0) <;> simp [bs,ih]
  ·rw [decide_eq_false hk]; simp [bs,ih]
theorem Ktd (ty:List Int) (hty:ty.length ≤ 1099511627776) (size:Int) (cl:Bool):Kce (ty,size,cl)=some (ty.all (Kta size cl)):=by
 unfold Kce
 simp only
 rw [show (0:Int)=((0:Nat):Int) from rfl,Ktc ty hty size cl _ 0 rfl,List.drop_zero,bs]
 cases ty.all (Kta size cl) <;> rfl
theorem Kte {α β:Type} {a:Option α} {f:α→Option β} {x:α} (h:a=some x):(a >>= f)=f x:=by rw [h]; rfl
mutual
def tsz:K01→Nat
 | ⟨_,_,_,ks⟩=>1 + Ktf ks
def Ktf:List K01→Nat
 | []=>0
 | k :: ks=>tsz k + Ktf ks
end
mutual
def tms:K01→Nat
 | ⟨_,_,ty,ks⟩=>ty.length + ks.length + Ktg ks
def Ktg:List K01→Nat
 | []=>0
 | k :: ks=>tms k + Ktg ks
end
theorem Kth (t:K01):tms t=t.fType.length + t.fKids.length + Ktg t.fKids:=by cases t; rw [tms]
theorem Kti (t:K01):tsz t=1 + Ktf t.fKids:=by cases t; rw [tsz]
def Ktj (left n:Nat):Int:=if n ≤ left then ((left - n:Nat):Int) else -1
theorem Ktk {left n:Nat} (h:n ≤ left):Ktj left n=((left - n:Nat):Int):=if_pos h
theorem Ktl {left n:Nat} (h:¬ n ≤ left):Ktj left n=-1:=if_neg h
theorem Ktm (t:K01) (i:Int):Kcq (t,-1,i)=some (-1):=by
 rw [Kcq.eq_def]
 simp only
 cases decide (i < (t.fKids.length:Int)) <;> rfl
mutual
theorem Ktn:∀ (t:K01) (left:Nat),tms t ≤ 1099511627776→left ≤ 1048576→Kcp (t,(left:Int))=some (Ktj left (tsz t))
 | ⟨op,N,ty,ks⟩,left,ht,hl=>by
  rw [tms] at ht
  rw [Kcp.eq_def,tsz]
  simp only
  rcases left with _ | l
  ·rw [show wr (((0:Nat):Int) - 1)=-1 from Kr3 (by omega) (by omega),Ktm,bs,Ktl (by omega)]
  ·have h:=Kto ks ⟨op,N,ty,ks⟩ 0 l rfl (by simp only; omega) (by omega) (by omega)
   rw [Kr3 (by omega) (by omega),show ((l + 1:Nat):Int) - 1=(l:Int) by omega,show (0:Int)=((0:Nat):Int) from rfl,h,bs]
   unfold Ktj
   by_cases q:Ktf ks ≤ l
   ·rw [if_pos q,if_pos (by omega),show l + 1 - (1 + Ktf ks)=l - Ktf ks by omega]
   ·rw [if_neg q,if_neg (by omega)]
theorem Kto:∀ (ks:List K01) (t:K01) (i left:Nat),t.fKids.drop i=ks→t.fKids.length ≤ 1099511627776→Ktg ks ≤ 1099511627776→left ≤ 1048576→Kcq (t,(left:Int),(i:Int))=some (Ktj left (Ktf ks))
 | [],t,i,left,hd,hk,ht,hl=>by
  rw [Kcq.eq_def,Ktf]
  simp only
  rw [Kr7 (Ksl hd)]
  simp [bs,Ktj]
 | k :: ks,t,i,left,hd,hk,ht,hl=>by
  obtain ⟨hi,hx,hd'⟩:=Ksk hd
  rw [Ktg] at ht
  rw [Kcq.eq_def,Ktf]
  simp only
  rw [Kr6 hi,if_pos rfl,bs,decide_eq_true (by omega:((left:Nat):Int) ≥ 0),if_pos rfl,hx,bs,Ktn k left (by omega) hl,bs,Kr5 (by omega)]
  by_cases q:tsz k ≤ left
  ·rw [Ktk q,Kto ks t (i + 1) (left - tsz k) hd' hk (by omega) (by omega)]
   unfold Ktj
   by_cases q2:Ktf ks ≤ left - tsz k
   ·rw [if_pos q2,if_pos (by omega)]; congr 2; omega
   ·rw [if_neg q2,if_neg (by omega)]
  ·rw [Ktl q,Ktm,Ktl (by omega)]
end
def Ktp (op:Int):Int:=if inB op 0 12 then ([0,0,2,3,2,2,1,1,3,1,2,1,2]:List Int).getD op.toNat 0 else -1
def Ktq (op:Int):Bool:=op == 5 || op == 8 || op == 9 || op == 11 || op == 12
def Ktr (op:Int):Bool:=op == 6 || op == 7 || op == 9
def Kts (op:Int):ByteArray:=([ByteArray.mk #[120],ByteArray.empty,ByteArray.mk #[97,100,100],ByteArray.mk #[105,102],ByteArray.mk #[112,97,105,114],ByteArray.mk #[115,112,108,105,116],ByteArray.mk #[108,101,102,116],
 ByteArray.mk #[114,105,103,104,116],ByteArray.mk #[99,97,115,101],ByteArray.mk #[102,117,110],ByteArray.mk #[97,112,112],ByteArray.mk #[98,111,120],ByteArray.mk #[111,112,101,110]]:List ByteArray).getD op.toNat ByteArray.empty
theorem Ktt {op:Int} (h:inB op 0 12=true):op=0∨op=1∨op=2∨op=3∨op=4∨op=5∨op=6∨op=7∨op=8∨op=9∨op=10∨op=11∨op=12:=by
 simp only [inB,Bool.and_eq_true,decide_eq_true_eq] at h
 omega
theorem Ktu (op:Int):Kcw op=some (Ktp op):=by
 unfold Kcw Ktp
 rw [sIn,bs]
 cases h:inB op 0 12
 ·rfl
 ·rcases Ktt h with rfl | rfl | rfl | rfl | rfl | rfl | rfl | rfl | rfl | rfl | rfl | rfl | rfl <;> rfl
theorem Ktv (op:Int):Kcz op=some (Ktq op):=by
 unfold Kcz Ktq
 cases op == 5 <;> cases op == 8 <;> cases op == 9 <;> cases op == 11 <;> rfl
theorem Ktw (op:Int):Kd2 op=some (Ktr op):=by
 unfold Kd2 Ktr
 cases op == 6 <;> cases op == 7 <;> rfl
def Ktx (op:Int):K05 × Bool:=if inB op 0 12 then (K05.mk (Kts op) (Ktp op) (Ktq op) (Ktr op),true) else (K05.mk ByteArray.empty 0 false false,false)
theorem Kty (op:Int):Kis op=some (Ktx op):=by
 unfold Kis Ktx
 rw [iIn,bs]
 cases h:inB op 0 12
 ·rfl
 ·rcases Ktt h with rfl | rfl | rfl | rfl | rfl | rfl | rfl | rfl | rfl | rfl | rfl | rfl | rfl <;> rfl
def Ktz (op kid:Int):Nat:=if op == 5 && kid == 1 then 2 else if (op == 8 && decide (kid > 0)) || op == 9 || (op == 12 && kid == 1) then 1 else 0
theorem Ku0 (op kid:Int):Ktz op kid ≤ 2:=by unfold Ktz; split <;> (try split) <;> omega
theorem Ku1 (op kid:Int):Kdb (op,kid)=some ((Ktz op kid:Nat):Int):=by
 unfold Kdb Ktz
 simp only
 generalize (op == 5)=b1
 generalize (op == 8)=b2
 generalize (op == 9)=b3
 generalize (op == 12)=b4
 generalize (kid == 1)=b5
 generalize decide (kid > 0)=b6
 cases b1 <;> cases b2 <;> cases b3 <;> cases b4 <;> cases b5 <;> cases b6 <;> rfl
theorem Ku2 (op kid:Int):Kiy (op,kid)=some ((Ktz op kid:Nat):Int):=by
 unfold Kiy Ktz
 simp only
 generalize (op == 5)=b1
 generalize (op == 8)=b2
 generalize (op == 9)=b3
 generalize (op == 12)=b4
 generalize (kid == 1)=b5
 generalize decide (kid > 0)=b6
 cases b1 <;> cases b2 <;> cases b3 <;> cases b4 <;> cases b5 <;> cases b6 <;> rfl
def Ku3 (g:Int→Bool) (n:Int) (t:K01):Bool:=if t.fOp == 0 then inB t.fN 0 (n - 1) else if t.fOp == 1 then inB t.fN 0 2 else if Ktq t.fOp then g t.fN else t.fN == 0
def Ku4 (y:List Int→Bool) (t:K01):Bool:=if Ktr t.fOp then y t.fType else (t.fType.length:Int) == 0
def Ku5 (g:Int→Bool) (y:List Int→Bool) (n:Int) (t:K01):Bool:=inB t.fOp 0 12 && ((t.fKids.length:Int) == Ktp t.fOp) && Ku3 g n t && Ku4 y t
mutual
def tOk (g:Int→Bool) (y:List Int→Bool):Nat→K01→Bool
 | n,⟨op,N,ty,ks⟩=>Ku5 g y (n:Int) ⟨op,N,ty,ks⟩ && Ku6 g y op n 0 ks
def Ku6 (g:Int→Bool) (y:List Int→Bool):Int→Nat→Nat→List K01→Bool
 | _,_,_,[]=>true
 | op,n,i,k :: ks=>tOk g y (n + Ktz op (i:Int)) k && Ku6 g y op n (i + 1) ks
end
theorem Ku7 (g:Int→Bool) (y:List Int→Bool) (n:Nat) (t:K01):tOk g y n t=(Ku5 g y (n:Int) t && Ku6 g y t.fOp n 0 t.fKids):=by cases t; rw [tOk]
def gN (size:Int) (cl:Bool) (x:Int):Bool:=!(decide (x ≥ size) || decide (x < -1) || cl && decide (x < 0))
def yN (size:Int) (cl:Bool) (ty:List Int):Bool:=wtB ty && ty.all (Kta size cl)
theorem Ku8 (t:K01) (n:Nat) (size:Int) (cl:Bool) (hty:t.fType.length ≤ 1099511627776) (hn:n ≤ 35184372088832):Kd8 (t,(n:Int),size,cl)=some (Ku5 (gN size cl) (yN size cl) (n:Int) t):=by
 unfold Kd8 Ku5
 simp only
 rw [Ktu,bs]
 by_cases hk:(t.fKids.length:Int)=Ktp t.fOp
 ·have hop:inB t.fOp 0 12=true:=by
   cases h:inB t.fOp 0 12
   ·unfold Ktp at hk; rw [h] at hk; simp at hk
   ·rfl
  rw [show ((t.fKids.length:Int) != Ktp t.fOp)=false by rw [hk]; exact Krd,if_neg (by decide),show ((t.fKids.length:Int) == Ktp t.fOp)=true by rw [hk]; simp,hop]
  refine (Kte (x:=if Ku3 (gN size cl) (n:Int) t then .inl () else .inr false) ?_).trans ?_
  ·unfold Ku3 gN
   rw [sIn,Kr3 (by omega) (by omega),sIn,Ktv]
   simp only [bs]
   generalize inB t.fN 0 ((n:Int) - 1)=b1
   generalize inB t.fN 0 2=b2
   generalize Ktq t.fOp=b3
   rw [show (t.fN != 0)=!(t.fN == 0) from rfl]
   generalize (t.fN == 0)=b4
   generalize decide (t.fN ≥ size)=b5
   generalize decide (t.fN < -1)=b6
   generalize decide (t.fN < 0)=b7
   generalize (t.fOp == 0)=b8
   generalize (t.fOp == 1)=b9
   cases b8
   ·cases b9
    ·cases b3
     ·cases b4 <;> rfl
     ·cases b5 <;> cases b6 <;> cases cl <;> cases b7 <;> rfl
    ·cases b2 <;> rfl
   ·cases b1 <;> rfl
  ·cases Ku3 (gN size cl) (n:Int) t
   ·simp
   ·unfold Ku4 yN
    simp only [if_true]
    rw [Ktw,bs]
    cases Ktr t.fOp
    ·simp
    ·simp only [if_true]
     rw [Kt7 _ hty,Ktd _ hty]
     cases wtB t.fType <;> simp [bs]
 ·rw [show ((t.fKids.length:Int) != Ktp t.fOp)=true by simpa using hk,if_pos rfl,show ((t.fKids.length:Int) == Ktp t.fOp)=false by simpa using hk]
  simp
mutual
theorem Ku9 (size:Int) (cl:Bool):∀ (t:K01) (n:Nat),tms t ≤ 1099511627776→n + 2 * tms t ≤ 35184372088832→Kdf (t,(n:Int),size,cl)=some (tOk (gN size cl) (yN size cl) n t)
 | ⟨op,N,ty,ks⟩,n,ht,hn=>by
  rw [tms] at ht hn
  rw [Kdf.eq_def,tOk]
  simp only
  rw [Ku8 _ n size cl (by simp only; omega) (by omega),bs]
  cases hb:Ku5 (gN size cl) (yN size cl) (n:Int) ⟨op,N,ty,ks⟩
  ·rfl
  ·have h:=Kua size cl ks ⟨op,N,ty,ks⟩ n 0 rfl (by simp only; omega) (by omega) (by omega)
   rw [if_pos rfl,show (0:Int)=((0:Nat):Int) from rfl,h,bs]
   simp only
   cases Ku6 (gN size cl) (yN size cl) op n 0 ks <;> rfl
theorem Kua (size:Int) (cl:Bool):∀ (ks:List K01) (t:K01) (n i:Nat),t.fKids.drop i=ks→t.fKids.length ≤ 1099511627776→Ktg ks ≤ 1099511627776→n + 2 * (ks.length + Ktg ks) ≤ 35184372088832 →
  Kdg (t,(n:Int),size,cl,(i:Int))=some (if Ku6 (gN size cl) (yN size cl) t.fOp n i ks then .inl () else .inr false)
 | [],t,n,i,hd,hk,ht,hn=>by
  rw [Kdg.eq_def,Ku6]
  simp only
  rw [Kr7 (Ksl hd)]; rfl
 | k :: ks,t,n,i,hd,hk,ht,hn=>by
  obtain ⟨hi,hx,hd'⟩:=Ksk hd
  rw [Ktg] at ht hn
  rw [List.length_cons] at hn
  have ha:=Ku0 t.fOp (i:Int)
  rw [Kdg.eq_def,Ku6]
  simp only
  rw [Kr6 hi,if_pos rfl,hx,bs,Ku1,bs,Kr3 (by omega) (by omega),show (n:Int) + ((Ktz t.fOp (i:Int):Nat):Int)=((n + Ktz t.fOp (i:Int):Nat):Int) by omega]
  rw [Ku9 size cl k (n + Ktz t.fOp (i:Int)) (by omega) (by omega),bs,Kr5 (by omega)]
  cases tOk (gN size cl) (yN size cl) (n + Ktz t.fOp (i:Int)) k
  ·rfl
  ·rw [if_pos rfl,Kua size cl ks t n (i + 1) hd' hk (by omega) (by omega),Bool.true_and]
end
def Kub (ok:Bool) (nodes sz:Nat):Int:=if ok && decide (nodes + sz ≤ 400) then ((nodes + sz:Nat):Int) else 401
def szB (left:Int) (n:Nat):Int:=if left - (n:Int) < 0 then -1 else left - (n:Int)
theorem Kuc (left:Int) (n:Nat):(szB left n=-1∧left < n)∨(szB left n=left - n∧(n:Int) ≤ left):=by
 unfold szB
 by_cases h:left - (n:Int) < 0
 ·rw [if_pos h]; left; omega
 ·rw [if_neg h]; right; omega
theorem Kud (a:List Int) (left:Int) (h1:0 ≤ left) (h2:left ≤ 1048576) (ha:a.length ≤ 9223372036854775807):K8a (a,left)=some (szB left a.length):=by
 unfold K8a szB
 simp only
 rw [Kr3 (by omega) (by omega)]
 by_cases h:left - (a.length:Int) < 0
 ·rw [decide_eq_true h,if_pos rfl,if_pos h]
 ·rw [decide_eq_false h,if_neg (by decide),if_neg h]
mutual
def tln:K01→Prop
 | ⟨_,N,ty,ks⟩=>ty.length ≤ 9223372036854775807∧ks.length ≤ 9223372036854775807∧Kue ks∧(-9223372036854775808 ≤ N∧N ≤ 9223372036854775807)
def Kue:List K01→Prop
 | []=>True
 | k :: ks=>tln k∧Kue ks
end
mutual
theorem Kuf:∀ (t:K01) (left:Int),tln t→0 ≤ left→left ≤ 1048576→K8r (t,left)=some (szB left (tms t))
 | ⟨op,N,ty,ks⟩,left,hl,h1,h2=>by
  rw [tln] at hl
  rw [K8r.eq_def,tms]
  simp only
  rw [Kud ty left h1 h2 hl.1,bs]
  rcases Kuc left ty.length with ⟨e,h⟩ | ⟨e,h⟩
  ·rw [e,decide_eq_true (by decide),if_pos rfl]
   unfold szB; rw [if_pos (by omega)]
  ·rw [e,decide_eq_false (by omega),if_neg (by decide),K8s.eq_def]
   simp only
   rw [Kr3 (by omega) (by omega)]
   by_cases h3:left - (ty.length:Int) - (ks.length:Int) < 0
   ·rw [decide_eq_true h3,if_pos rfl,bs,decide_eq_true (by decide),if_pos rfl]
    unfold szB; rw [if_pos (by omega)]
   ·obtain ⟨m,hm⟩:∃ m:Nat,left - (ty.length:Int) - (ks.length:Int)=(m:Int):=⟨(left - (ty.length:Int) - (ks.length:Int)).toNat,by omega⟩
    rw [decide_eq_false h3,if_neg (by decide),hm,show (0:Int)=((0:Nat):Int) from rfl,Kug ks ks 0 m rfl hl.2.1 hl.2.2.1 (by omega),bs]
    unfold szB
    by_cases q:m < Ktg ks
    ·rw [if_pos q,if_pos (by omega)]; rfl
    ·rw [if_neg q,if_neg (by omega)]
     simp only [bs]
     rw [decide_eq_false (by omega),if_neg (by decide)]; congr 1; omega
theorem Kug:∀ (ks a:List K01) (i left:Nat),a.drop i=ks→a.length ≤ 9223372036854775807→Kue ks→left ≤ 1048576→K8t (a,(left:Int),(i:Int))=some (if left < Ktg ks then .inr (-1) else .inl ((left - Ktg ks:Nat):Int))
 | [],a,i,left,hd,ha,hl,h=>by
  rw [K8t.eq_def,Ktg]
  simp only
  rw [Kr7 (Ksl hd)]
  simp
 | k :: ks,a,i,left,hd,ha,hl,h=>by
  obtain ⟨hi,hx,hd'⟩:=Ksk hd
  rw [Kue] at hl
  rw [K8t.eq_def,Ktg]
  simp only
  rw [Kr6 hi,if_pos rfl,hx,bs,Kuf k left hl.1 (by omega) (by omega),bs,Kr5 (by omega)]
  rcases Kuc left (tms k) with ⟨e,q⟩ | ⟨e,q⟩
  ·rw [e,decide_eq_true (by decide),if_pos rfl,if_pos (by omega)]
  ·rw [e,decide_eq_false (by omega),if_neg (by decide),show (left:Int) - ((tms k:Nat):Int)=((left - tms k:Nat):Int) by omega,Kug ks a (i + 1) (left - tms k) hd' ha hl.2 (by omega)]
   by_cases q2:left - tms k < Ktg ks
   ·rw [if_pos q2,if_pos (by omega)]
   ·rw [if_neg q2,if_neg (by omega)]; congr 3; omega
end
mutual
theorem Kuh:∀ (t:K01),tms t ≤ 1099511627776→K9q t=some t
 | ⟨op,N,ty,ks⟩,h=>by
  rw [tms] at h
  rw [K9q.eq_def]
  simp only
  rw [Kra ty (by omega),bs,K9r.eq_def]
  have:chk (0 ≤ (ks.length:Int)∧(Int.toNat (ks.length:Int)) * 64 ≤ 140737488355328)=some ():=by
   unfold chk; rw [if_pos]; refine ⟨by omega,?_⟩; rw [Int.toNat_natCast]; omega
  rw [this,bs,Int.toNat_natCast,show (0:Int)=((0:Nat):Int) from rfl,Kui ks ks (List.replicate ks.length (K01.mk ((0:Nat):Int) ((0:Nat):Int) [] [])) 0 rfl (by omega) (by omega) (by simp) rfl]
  rfl
theorem Kui:∀ (ks a out:List K01) (i:Nat),a.drop i=ks→a.length ≤ 1099511627776→Ktg ks ≤ 1099511627776→out.length=a.length→out.take i=a.take i→K9s (a,out,(i:Int))=some a
 | [],a,out,i,hd,ha,hl,ho,ht=>by
  rw [K9s.eq_def]
  simp only
  have hle:=Ksl hd
  rw [Kr7 hle]
  rw [List.take_of_length_le (by omega),List.take_of_length_le (by omega)] at ht
  simp [ht]
 | k :: ks,a,out,i,hd,ha,hl,ho,ht=>by
  obtain ⟨hi,hx,hd'⟩:=Ksk hd
  have hk:a[i]=k:=by rw [Kr4 hi] at hx; exact Option.some.inj hx
  rw [Ktg] at hl
  rw [K9s.eq_def]
  simp only
  rw [Kr6 hi,if_pos rfl,hx,bs,Kuh k (by omega),bs,Kr4 (by omega),bs,Kr5 (by omega),Int.toNat_natCast]
  exact Kui ks a _ (i + 1) hd' ha (by omega) (by simpa using ho) (by rw [← hk]; exact Kr8 ho hi ht)
end
mutual
theorem Kuj:∀ (t:K01),tms t ≤ 1099511627776→Ko5 (t,t)=some true
 | ⟨op,N,ty,ks⟩,h=>by
  rw [tms] at h
  rw [Ko5.eq_def]
  simp only
  rw [Krd,if_neg (by decide),Krd,if_neg (by decide),Krf ty (by omega),bs,if_pos rfl,Ko6.eq_def]
  simp only
  rw [Krd,if_neg (by decide),show (0:Int)=((0:Nat):Int) from rfl,Kuk ks ks 0 rfl (by omega) (by omega)]
  rfl
theorem Kuk:∀ (ks a:List K01) (i:Nat),a.drop i=ks→a.length ≤ 1099511627776→Ktg ks ≤ 1099511627776→Ko7 (a,a,(i:Int))=some (.inl ())
 | [],a,i,hd,ha,hl=>by
  rw [Ko7.eq_def]
  simp only
  rw [Kr7 (Ksl hd)]
  rfl
 | k :: ks,a,i,hd,ha,hl=>by
  obtain ⟨hi,hx,hd'⟩:=Ksk hd
  rw [Ktg] at hl
  rw [Ko7.eq_def]
  simp only
  rw [Kr6 hi,if_pos rfl,hx,bs,bs,Kuj k (by omega),bs,if_pos rfl,Kr5 (by omega)]
  exact Kuk ks a (i + 1) hd' ha (by omega)
end
theorem Kul {ty:List Int} (h:wtB ty=true):ty.length ≤ 40:=by
 unfold wtB at h
 rw [Bool.and_eq_true,decide_eq_true_eq] at h
 exact h.1
theorem Kum {g:Int→Bool} {y:List Int→Bool} {n:Nat} {t:K01} (h:tOk g y n t=true):Ku5 g y (n:Int) t=true∧Ku6 g y t.fOp n 0 t.fKids=true:=by
 rw [Ku7,Bool.and_eq_true] at h; exact h
theorem Kun {n b:Nat} (h:n * b ≤ 140737488355328):Qdq n b=some ():=by unfold Qdq chk; rw [if_pos h]
theorem Kuo {g:Int→Bool} {y:List Int→Bool} {n:Int} {t:K01} (h:Ku5 g y n t=true):inB t.fOp 0 12=true∧(t.fKids.length:Int)=Ktp t.fOp:=by
 unfold Ku5 at h
 simp only [Bool.and_eq_true,beq_iff_eq] at h
 exact ⟨h.1.1.1,h.1.1.2⟩
theorem Kup (l:List Int) (h:l.length ≤ 1099511627776):Kdv l=some l:=by
 unfold Kdv
 rw [Kun (by simp only [List.length_nil]; omega),bs]
theorem Kuq (l:List Int) (h:l.length ≤ 1099511627776):Kkb l=some l:=by
 unfold Kkb
 rw [Kun (by simp only [List.length_nil]; omega),bs]
structure Kur (s:K00) (n:Nat):Prop where
 size:s.fSize=(n:Int)
 lo:2 ≤ n
 hi:n ≤ 16
 lp:s.fPlus.length=n * n
 lt:s.fTimes.length=n * n
 lb:s.fBelow.length=n * n
def Kus (s:K00) (n i:Nat):Bool:=inB (s.fPlus.getD i 0) 0 ((n:Int) - 1) && inB (s.fTimes.getD i 0) 0 ((n:Int) - 1)
section
variable {s:K00} {n:Nat} (h:Kur s n)
include h
theorem nn:n * n ≤ 256:=Nat.le_trans (Nat.mul_le_mul h.hi h.hi) (by decide)
theorem Kut {i:Nat} (hi:i < n * n):idx s.fPlus (i:Int)=some (s.fPlus.getD i 0):=by
 have hl:i < s.fPlus.length:=by rw [h.lp]; exact hi
 rw [Kr4 hl,List.getD_eq_getElem?_getD,List.getElem?_eq_getElem hl]; rfl
theorem Kuu {i:Nat} (hi:i < n * n):idx s.fTimes (i:Int)=some (s.fTimes.getD i 0):=by
 have hl:i < s.fTimes.length:=by rw [h.lt]; exact hi
 rw [Kr4 hl,List.getD_eq_getElem?_getD,List.getElem?_eq_getElem hl]; rfl
theorem Kuv:wr (s.fSize - 1)=(n:Int) - 1:=by
 have:=h.lo; have:=h.hi
 rw [h.size,Kr3 (by omega) (by omega)]
theorem Kuw:∀ (k i:Nat),i + k=n * n→Ka4 (s,(i:Int))=some (if (List.range' i k).all (Kus s n) then .inl () else .inr false):=by
 have hn:=nn h
 intro k
 induction k with
 | zero =>
  intro i hm
  rw [Ka4.eq_def]
  simp only
  rw [h.lp,Kr7 (by omega)]
  rfl
 | succ k ih =>
  intro i hm
  rw [Ka4.eq_def]
  simp only
  rw [h.lp,Kr6 (by omega),if_pos rfl,Kut h (by omega),Kuu h (by omega),Kuv h]
  have ih:=ih (i + 1) (by omega)
  rw [Kr5 (by omega),List.range'_succ,List.all_cons]
  generalize ((i + 1:Nat):Int)=M at ih ⊢
  generalize (List.range' (i + 1) k).all (Kus s n)=r at ih ⊢
  simp only [bs,sIn]
  cases h1:inB (s.fPlus.getD i 0) 0 ((n:Int) - 1) <;> cases h2:inB (s.fTimes.getD i 0) 0 ((n:Int) - 1) <;> cases r <;> simp only [Kus,h1,h2,ih,bs,Bool.not_true,Bool.not_false,Bool.true_and,Bool.false_and,Bool.and_true,Bool.and_false,if_true,if_false,Bool.false_eq_true]
theorem Kux:∀ (k i:Nat),i + k=n * n→Khe (s,(i:Int))=some (if (List.range' i k).all (Kus s n) then .inl () else .inr false):=by
 have hn:=nn h
 intro k
 induction k with
 | zero =>
  intro i hm
  rw [Khe.eq_def]
  simp only
  rw [h.lp,Kr7 (by omega)]
  rfl
 | succ k ih =>
  intro i hm
  rw [Khe.eq_def]
  simp only
  rw [h.lp,Kr6 (by omega),if_pos rfl,Kut h (by omega),Kuu h (by omega)]
  have ih:=ih (i + 1) (by omega)
  rw [Kr5 (by omega),List.range'_succ,List.all_cons]
  generalize ((i + 1:Nat):Int)=M at ih ⊢
  generalize (List.range' (i + 1) k).all (Kus s n)=r at ih ⊢
  have hh:∀ x,Kgh (s,x)=some (inB x 0 ((n:Int) - 1)):=fun x=>by
   unfold Kgh
   simp only
   rw [Kuv h,iIn,bs]
  simp only [bs,hh]
  cases h1:inB (s.fPlus.getD i 0) 0 ((n:Int) - 1) <;> cases h2:inB (s.fTimes.getD i 0) 0 ((n:Int) - 1) <;> cases r <;> simp only [Kus,h1,h2,ih,bs,Bool.not_true,Bool.not_false,Bool.true_and,Bool.false_and,Bool.and_true,Bool.and_false,if_true,if_false,Bool.false_eq_true]
theorem Kuy (he:(List.range' 0 (n * n)).all (Kus s n)=true):Tab s n:=by
 rw [List.all_eq_true] at he
 have hent:∀ i,i < n * n→Kus s n i=true:=fun i hi=>he i (by rw [List.mem_range'_1]; omega)
 refine ⟨h.size,h.lo,h.hi,h.lp,h.lt,h.lb,fun i hi=>?_,fun i hi=>?_⟩
 ·have:=hent i (by rw [← h.lp]; exact hi)
  simp only [Kus,inB,Bool.and_eq_true,decide_eq_true_eq,List.getD_eq_getElem?_getD,List.getElem?_eq_getElem hi,Option.getD_some] at this
  omega
 ·have:=hent i (by rw [← h.lt]; exact hi)
  simp only [Kus,inB,Bool.and_eq_true,decide_eq_true_eq,List.getD_eq_getElem?_getD,List.getElem?_eq_getElem hi,Option.getD_some] at this
  omega
end
def Kuz (s:K00):Bool:=inB s.fSize 2 16 && !((s.fPlus.length:Int) != (wr (s.fSize * s.fSize))) && !((s.fTimes.length:Int) != (wr (s.fSize * s.fSize))) && !((s.fBelow.length:Int) != (wr (s.fSize * s.fSize)))
theorem Kv0 {s:K00} (h:Kuz s=true):Kur s s.fSize.toNat:=by
 unfold Kuz at h
 simp only [Bool.and_eq_true,Bool.not_eq_true',inB,decide_eq_true_eq,bne_eq_false_iff_eq] at h
 obtain ⟨⟨⟨⟨h1,h2⟩,h3⟩,h4⟩,h5⟩:=h
 obtain ⟨n,hn⟩:∃ n:Nat,s.fSize=(n:Int):=⟨s.fSize.toNat,by omega⟩
 rw [hn] at h1 h2 h3 h4 h5 ⊢
 have h256:n * n ≤ 256:=Nat.le_trans (Nat.mul_le_mul (by omega:n ≤ 16) (by omega:n ≤ 16)) (by decide)
 have e:(n:Int) * (n:Int)=((n * n:Nat):Int):=by simp
 rw [e] at h3 h4 h5
 generalize hm:n * n=m at *
 rw [Kr3 (by omega) (by omega)] at h3 h4 h5
 rw [Int.toNat_natCast]
 exact ⟨hn,by omega,by omega,by omega,by omega,by omega⟩
def Kv1 (s:K00):Bool:=Kuz s && (List.range' 0 (s.fSize.toNat * s.fSize.toNat)).all (Kus s s.fSize.toNat) && Ksd s s.fSize.toNat
theorem Kv2 {s:K00} (h:Kv1 s=true):Tab s s.fSize.toNat:=by
 unfold Kv1 at h
 simp only [Bool.and_eq_true] at h
 exact Kuy (Kv0 h.1.1) h.1.2
theorem Kv3 (s:K00):Kbk s=some (Kv1 s):=by
 unfold Kbk Ka7 Kv1
 rw [sIn]
 cases hf:Kuz s with
 | false =>
  unfold Kuz at hf
  cases h1:inB s.fSize 2 16 <;> cases h2:((s.fPlus.length:Int) != (wr (s.fSize * s.fSize))) <;> cases h3:((s.fTimes.length:Int) != (wr (s.fSize * s.fSize))) <;> cases h4:((s.fBelow.length:Int) != (wr (s.fSize * s.fSize))) <;> simp_all [bs]
 | true =>
  have F:=Kv0 hf
  have hl:=Kuw F (s.fSize.toNat * s.fSize.toNat) 0 (by omega)
  rw [show ((0:Nat):Int)=0 from rfl] at hl
  unfold Kuz at hf
  simp only [Bool.and_eq_true,Bool.not_eq_true'] at hf
  obtain ⟨⟨⟨h1,h2⟩,h3⟩,h4⟩:=hf
  cases he:(List.range' 0 (s.fSize.toNat * s.fSize.toNat)).all (Kus s s.fSize.toNat) with
  | false=>rw [he] at hl; simp [bs,h1,h2,h3,h4,hl]
  | true =>
   have T:=Kuy F he
   have hl2:=Ksi T s.fSize.toNat 0 (by omega)
   rw [show ((0:Nat):Int)=0 from rfl] at hl2
   rw [he] at hl
   have hm:(List.range' 0 s.fSize.toNat).all (fun a=>Krx s s.fSize.toNat a && (List.range' 0 s.fSize.toNat).all fun b=>Ksa s s.fSize.toNat a b && (List.range' 0 s.fSize.toNat).all fun c=>Kry s s.fSize.toNat a b c)=Ksd s s.fSize.toNat:=rfl
   rw [hm] at hl2
   cases hs:Ksd s s.fSize.toNat <;> rw [hs] at hl2 <;> simp [bs,h1,h2,h3,h4,hl,hl2]
theorem Kv4 (s:K00):Kht s=some (Kv1 s):=by
 unfold Kht Kv1
 rw [iIn]
 cases hf:Kuz s with
 | false =>
  unfold Kuz at hf
  cases h1:inB s.fSize 2 16 <;> cases h2:((s.fPlus.length:Int) != (wr (s.fSize * s.fSize))) <;> cases h3:((s.fTimes.length:Int) != (wr (s.fSize * s.fSize))) <;> cases h4:((s.fBelow.length:Int) != (wr (s.fSize * s.fSize))) <;> simp_all [bs]
 | true =>
  have F:=Kv0 hf
  have hl:=Kux F (s.fSize.toNat * s.fSize.toNat) 0 (by omega)
  rw [show ((0:Nat):Int)=0 from rfl] at hl
  unfold Kuz at hf
  simp only [Bool.and_eq_true,Bool.not_eq_true'] at hf
  obtain ⟨⟨⟨h1,h2⟩,h3⟩,h4⟩:=hf
  cases he:(List.range' 0 (s.fSize.toNat * s.fSize.toNat)).all (Kus s s.fSize.toNat) with
  | false=>rw [he] at hl; simp [bs,h1,h2,h3,h4,hl]
  | true =>
   have T:=Kuy F he
   have hl2:=Ksj T s.fSize.toNat 0 (by omega)
   rw [show ((0:Nat):Int)=0 from rfl] at hl2
   rw [he] at hl
   have hm:(List.range' 0 s.fSize.toNat).all (fun a=>Krx s s.fSize.toNat a && (List.range' 0 s.fSize.toNat).all fun b=>Ksa s s.fSize.toNat a b && (List.range' 0 s.fSize.toNat).all fun c=>Kry s s.fSize.toNat a b c)=Ksd s s.fSize.toNat:=rfl
   rw [hm] at hl2
   cases hs:Ksd s s.fSize.toNat <;> rw [hs] at hl2 <;> simp [bs,h1,h2,h3,h4,hl,hl2]
section
variable {s:K00} {n:Nat} (h:Tab s n)
include h
theorem Kv5:wr (s.fSize - 1)=(n:Int) - 1:=by
 have:=h.lo; have:=h.hi
 rw [h.size,Kr3 (by omega) (by omega)]
end
inductive Ty where
 | num
 | bin (c:Int) (a b:Ty)
 | un (c:Int) (a:Ty)
namespace Ty
def code:Ty→List Int
 | num=>[0]
 | bin c a b=>c :: (a.code ++ b.code)
 | un c a=>c :: a.code
def ok:Ty→Prop
 | num=>True
 | bin c a b=>Kso c=2∧a.ok∧b.ok
 | un c a=>Kso c=1∧a.ok
def kids:Ty→List Ty
 | num=>[]
 | bin _ a b=>[a,b]
 | un _ a=>[a]
def hd:Ty→Int
 | num=>0
 | bin c _ _=>c
 | un c _=>c
end Ty
def Kv6:List Ty→List Int
 | []=>[]
 | t :: l=>t.code ++ Kv6 l
theorem Kv7 (T:Ty):T.code=T.hd :: Kv6 T.kids:=by cases T <;> simp [Ty.code,Ty.hd,Ty.kids,Kv6]
theorem Kv8 (T:Ty):1 ≤ T.code.length:=by rw [Kv7]; simp
theorem Kv9 (T:Ty):∀ (m:Nat) (l:List Int),T.ok→skip (m + 1) (T.code ++ l)=skip m l:=by
 induction T with
 | num =>
  intro m l _
  rw [Ty.code,List.singleton_append,Ksy,show Kso 0=0 from rfl,if_neg (by decide)]; rfl
 | bin c a b iha ihb =>
  intro m l h
  rw [Ty.code,List.cons_append,Ksy,h.1,if_neg (by decide),List.append_assoc,show m + (2:Int).toNat=(m + 1) + 1 from rfl,iha _ _ h.2.1,ihb _ _ h.2.2]
 | un c a ih =>
  intro m l h
  rw [Ty.code,List.cons_append,Ksy,h.1,if_neg (by decide),show m + (1:Int).toNat=m + 1 from rfl,ih _ _ h.2]
theorem Kva (l:List Int):∀ (m:Nat) (r:List Int),skip m l=some r→∃ Ts:List Ty,Ts.length=m∧(∀ T ∈ Ts,T.ok)∧l=Kv6 Ts ++ r:=by
 induction l with
 | nil =>
  intro m r h
  cases m with
  | zero=>rw [Ksw] at h; cases h; exact ⟨[],rfl,fun _ h=>(by cases h),rfl⟩
  | succ m=>rw [Ksx] at h; cases h
 | cons c l ih =>
  intro m r h
  cases m with
  | zero=>rw [Ksw] at h; cases h; exact ⟨[],rfl,fun _ h=>(by cases h),rfl⟩
  | succ m =>
   rw [Ksy] at h
   by_cases hk:Kso c=-1
   ·rw [if_pos hk] at h; cases h
   ·rw [if_neg hk] at h
    obtain ⟨Ts,h1,h2,h3⟩:=ih _ _ h
    rcases Kss c with ⟨q,e⟩ | ⟨q,e⟩ | ⟨q,e⟩ | ⟨q,e⟩
    ·subst q
     rw [e] at h1
     exact ⟨.num :: Ts,by simpa using h1,fun T hT=>by rcases List.mem_cons.1 hT with rfl | hT; exact trivial; exact h2 T hT,by rw [h3]; rfl⟩
    ·rw [e] at h1
     match Ts,h1 with
     | a :: b :: Ts,h1 =>
      refine ⟨.bin c a b :: Ts,by simpa using h1,fun T hT=>?_,by rw [h3]; simp [Kv6,Ty.code]⟩
      rcases List.mem_cons.1 hT with rfl | hT
      ·exact ⟨e,h2 a List.mem_cons_self,h2 b (List.mem_cons_of_mem _ List.mem_cons_self)⟩
      ·exact h2 T (List.mem_cons_of_mem _ (List.mem_cons_of_mem _ hT))
     | [_],h1=>exact absurd h1 (by simp)
     | [],h1=>exact absurd h1 (by simp)
    ·rw [e] at h1
     match Ts,h1 with
     | a :: Ts,h1 =>
      refine ⟨.un c a :: Ts,by simpa using h1,fun T hT=>?_,by rw [h3]; simp [Kv6,Ty.code]⟩
      rcases List.mem_cons.1 hT with rfl | hT
      ·exact ⟨e,h2 a List.mem_cons_self⟩
      ·exact h2 T (List.mem_cons_of_mem _ hT)
     | [],h1=>exact absurd h1 (by simp)
    ·exact absurd e hk
theorem Kvb {ty:List Int} (h:wtB ty=true):∃ T:Ty,T.ok∧ty=T.code∧ty.length ≤ 40:=by
 have hl:=Kul h
 unfold wtB at h
 rw [Bool.and_eq_true,beq_iff_eq] at h
 obtain ⟨Ts,h1,h2,h3⟩:=Kva _ _ _ h.2
 match Ts,h1 with
 | [T],_=>exact ⟨T,h2 T List.mem_cons_self,by rw [h3]; simp [Kv6],hl⟩
theorem Kvc {T:Ty} (h:T.ok) (hl:T.code.length ≤ 40):wtB T.code=true:=by
 unfold wtB
 have:=Kv9 T 0 [] h
 rw [List.append_nil,Ksw] at this
 rw [decide_eq_true hl,show (1:Nat)=0 + 1 from rfl,this]; rfl
theorem Kvd {T:Ty} (h:T.ok):∀ K ∈ T.kids,K.ok:=by
 intro K hK
 cases T with
 | num=>cases hK
 | bin c a b=>rcases List.mem_cons.1 hK with rfl | hK; exact h.2.1; rw [List.mem_singleton.1 hK]; exact h.2.2
 | un c a=>rw [List.mem_singleton.1 hK]; exact h.2
theorem Kve {pre:List Int} {T:Ty} {post:List Int} (h:T.ok):Kt1 (pre ++ (T.code ++ post)) 1 pre.length=((pre.length + T.code.length:Nat):Int):=by
 unfold Kt1
 rw [List.drop_left,show (1:Nat)=0 + 1 from rfl,Kv9 T 0 post h,Ksw]
 simp only [List.length_append]
 omega
theorem Kvf {α:Type} (p m q:List α) (mx:Option Int) (hmx:mx=none∨mx=some ((p.length + m.length:Nat):Int)):cut (p ++ (m ++ q)) (some (p.length:Int)) (some ((p.length + m.length:Nat):Int)) mx=some m:=by
 unfold cut
 have e:((p ++ (m ++ q)).take (p.length + m.length)).drop p.length=m:=by
  rw [← List.append_assoc,← List.length_append,List.take_left,List.drop_left]
 rw [if_pos]
 ·simp only [Option.getD_some,Int.toNat_natCast,e]
 ·rcases hmx with rfl | rfl <;> simp only [Option.getD_some,Option.getD_none,List.length_append] <;> omega
theorem Kvg {α:Type} (p q:List α):cut (p ++ q) (some (p.length:Int)) none none=some q:=by
 unfold cut
 rw [if_pos]
 ·simp only [Option.getD_some,Option.getD_none,Int.toNat_natCast,List.take_length,List.drop_left]
 ·simp only [Option.getD_some,Option.getD_none,List.length_append]; omega
theorem Kvh (Ks:List Ty):∀ (pre:List Int) (out:List (List Int)),(∀ K ∈ Ks,K.ok)→(pre ++ Kv6 Ks).length ≤ 1099511627776→out.length + Ks.length ≤ 1099511627776→Kjd (pre ++ Kv6 Ks,out,(pre.length:Int))=some (out ++ Ks.map Ty.code):=by
 induction Ks with
 | nil =>
  intro pre out hk hl ho
  rw [show Kv6 []=[] from rfl,List.append_nil,Kjd.eq_def]
  simp only
  rw [Kr7 (Nat.le_refl _)]; simp
 | cons K Ks ih =>
  intro pre out hk hl ho
  have hK:=hk K List.mem_cons_self
  have hp:=Kv8 K
  rw [show Kv6 (K :: Ks)=K.code ++ Kv6 Ks from rfl] at hl ⊢
  rw [List.length_cons] at ho
  rw [Kjd.eq_def]
  simp only
  rw [Kr6 (by simp only [List.length_append]; omega),if_pos rfl,Kt5 _ hl _ pre.length rfl,Kve hK,bs,Kvf _ _ _ _ (.inr rfl),bs,Kun (by simp only [List.length_singleton]; omega),bs]
  have:=ih (pre ++ K.code) (out ++ [K.code]) (fun K hK=>hk K (List.mem_cons_of_mem _ hK)) (by rw [List.append_assoc]; exact hl) (by simp; omega)
  rw [List.append_assoc,List.length_append] at this
  rw [this,List.map_cons,List.append_assoc]; rfl
theorem Kvi {T:Ty} (h:T.ok) (hl:T.code.length ≤ 1048576):Kjg T.code=some (T.kids.map Ty.code):=by
 unfold Kjg
 have hk:T.kids.length ≤ 2:=by cases T <;> simp [Ty.kids]
 have e:[T.hd] ++ Kv6 T.kids=T.code:=(Kv7 T).symm
 have:=Kvh T.kids [T.hd] [] (Kvd h) (by rw [e]; omega) (by simp only [List.length_nil]; omega)
 rw [e] at this
 rw [show (1:Int)=(([T.hd].length:Nat):Int) from rfl,this,bs]; rfl
theorem Kvj {c:Int} {a:Ty} {r:List Int} (ha:a.ok) (hl:(c :: (a.code ++ r)).length ≤ 1099511627776):Kel (c :: (a.code ++ r),0)=some a.code:=by
 unfold Kel
 simp only
 have e:=Kve (pre:=[c]) (post:=r) ha
 have h1:=Kt3 (c :: (a.code ++ r)) hl 1 (by simp)
 rw [show (((1:Nat)):Int)=1 from rfl] at h1
 rw [List.length_singleton] at e
 have e':Kt1 (c :: (a.code ++ r)) 1 1=((1 + a.code.length:Nat):Int):=e
 rw [h1,bs,e',if_pos (by rfl)]
 have h2:=Kvf [c] a.code r none (.inl rfl)
 rw [List.length_singleton] at h2
 have h2':cut (c :: (a.code ++ r)) (some 1) (some ((1 + a.code.length:Nat):Int)) none=some a.code:=h2
 simp only [List.length_cons,List.length_append] at hl
 rw [h2',bs,Kup _ (by omega),bs]
theorem Kvk {c:Int} {a:Ty} {r:List Int} (ha:a.ok) (hl:(c :: (a.code ++ r)).length ≤ 1099511627776):Kel (c :: (a.code ++ r),1)=some r:=by
 unfold Kel
 simp only
 have e:=Kve (pre:=[c]) (post:=r) ha
 have h1:=Kt3 (c :: (a.code ++ r)) hl 1 (by simp)
 rw [show (((1:Nat)):Int)=1 from rfl] at h1
 rw [List.length_singleton] at e
 have e':Kt1 (c :: (a.code ++ r)) 1 1=((1 + a.code.length:Nat):Int):=e
 rw [h1,bs,e',if_neg (by decide)]
 have h2:=Kvg (c :: a.code) r
 rw [List.length_cons,List.cons_append,Nat.add_comm] at h2
 simp only [List.length_cons,List.length_append] at hl
 rw [h2,bs,Kup _ (by omega),bs]
def Kvl (s:K00) (g:Int):Bool:=inB g 0 (wr (s.fSize - 1))
theorem Kvm (s:K00) (g:Int):Kgh (s,g)=some (Kvl s g):=by
 unfold Kgh Kvl
 simp only
 rw [iIn,bs]
def Kvn (s:K00) (c:Int):Bool:=!(((Kst c).1 == 3 || (Kst c).1 == 4) && !Kvl s (Kst c).2)
def Kvo (s:K00) (ty:List Int):Bool:=wtB ty && ty.all (Kvn s)
theorem Kvp (s:K00) (ty:List Int) (hty:ty.length ≤ 1099511627776):∀ (l:List Int) (i:Nat),ty.drop i=l→Ki6 (s,ty,(i:Int))=some (if l.all (Kvn s) then .inl () else .inr false):=by
 intro l
 induction l with
 | nil =>
  intro i hd
  rw [Ki6.eq_def]
  simp only
  rw [Kr7 (Ksl hd)]; rfl
 | cons c l ih =>
  intro i hd
  obtain ⟨hi,hx,hd'⟩:=Ksk hd
  rw [Ki6.eq_def]
  simp only
  rw [Kr6 hi,if_pos rfl,hx,bs,Ksu,bs,Kr5 (by omega),ih (i + 1) hd',List.all_cons]
  unfold Kvn
  rcases Kst c with ⟨a,b⟩
  simp only [Kvm,bs]
  cases a == 3 <;> cases a == 4 <;> cases Kvl s b <;> simp [bs]
theorem Kvq (s:K00) (ty:List Int) (hty:ty.length ≤ 1099511627776):Ki9 (s,ty)=some (Kvo s ty):=by
 unfold Ki9 Kvo
 simp only
 rw [Kt8 ty hty,bs]
 cases wtB ty
 ·rfl
 ·rw [if_pos rfl,show (0:Int)=((0:Nat):Int) from rfl,Kvp s ty hty _ 0 rfl,List.drop_zero,bs]
  cases ty.all (Kvn s) <;> rfl
theorem Kvr {s:K00} {n:Nat} (h:Tab s n) (g:Int):Kvl s g=inB g 0 ((n:Int) - 1):=by
 unfold Kvl; rw [Kv5 h]
theorem Kvs {s:K00} {n:Nat} (h:Tab s n) {c:Int}:Kvn s c=Kta s.fSize true c:=by
 unfold Kvn Kta Kt9
 have hn:=h.lo
 rw [Kvr h,h.size]
 rcases Ksv c with ⟨q,e⟩ | ⟨q,e⟩ | ⟨q,e⟩ | ⟨q,e⟩ | ⟨q,e⟩ | ⟨q,e⟩ | ⟨q,e⟩ | ⟨q,e⟩ <;> rw [e]
 ·subst q; rfl
 ·subst q; rfl
 ·subst q; rfl
 ·have hk:Kso c=2:=by rcases Kss c with h | h | h | h <;> omega
  rw [hk,if_neg (by omega),if_neg (by omega),decide_eq_true (by omega:c > 2)]
  unfold inB
  rw [decide_eq_true (by omega:c - 3 ≥ 0),decide_eq_false (by omega:¬ c - 3 < 0)]
  by_cases hc:c - 3 ≤ (n:Int) - 1
  ·rw [decide_eq_true hc,decide_eq_false (by omega:¬ c - 3 ≥ (n:Int))]; rfl
  ·rw [decide_eq_false hc,decide_eq_true (by omega:c - 3 ≥ (n:Int))]; rfl
 ·subst q; unfold inB; simp [Kso,Ksm,Ksn,inB]
 ·have hk:Kso c=1:=by rcases Kss c with h | h | h | h <;> omega
  rw [hk,if_neg (by omega),if_pos (by omega),decide_eq_true (by omega:c > 2)]
  unfold inB
  rw [decide_eq_true (by omega:c - 19 ≥ 0),decide_eq_false (by omega:¬ c - 19 < 0)]
  by_cases hc:c - 19 ≤ (n:Int) - 1
  ·rw [decide_eq_true hc,decide_eq_false (by omega:¬ c - 19 ≥ (n:Int))]; rfl
  ·rw [decide_eq_false hc,decide_eq_true (by omega:c - 19 ≥ (n:Int))]; rfl
 ·subst q; unfold inB; simp [Kso,Ksm,Ksn,inB]
 ·have hk:Kso c=-1:=by rcases Kss c with h | h | h | h <;> omega
  rw [hk]; simp
theorem Kvt {s:K00} {n:Nat} (h:Tab s n) (ty:List Int):Kvo s ty=yN s.fSize true ty:=by
 unfold Kvo yN
 rw [show Kvn s=Kta s.fSize true from funext fun c=>Kvs h]
theorem Kvu {α:Type} (x:α) (l:List α):idx (x :: l) 0=some x:=rfl
theorem Kvv {a b:Nat} (ha:a ≤ 1099511627776) (hb:b ≤ 1099511627776):wr ((a:Int) + (b:Int))=((a + b:Nat):Int):=by rw [Kr3 (by omega) (by omega)]; omega
theorem Kvw (a:List Bool) (left:Int) (h1:0 ≤ left) (h2:left ≤ 1048576) (ha:a.length ≤ 9223372036854775807):K8d (a,left)=some (szB left a.length):=by
 unfold K8d szB
 simp only
 rw [Kr3 (by omega) (by omega)]
 by_cases h:left - (a.length:Int) < 0
 ·rw [decide_eq_true h,if_pos rfl,if_pos h]
 ·rw [decide_eq_false h,if_neg (by decide),if_neg h]
def sln (s:K00):Prop:=s.fPlus.length ≤ 9223372036854775807∧s.fTimes.length ≤ 9223372036854775807∧s.fBelow.length ≤ 9223372036854775807
def sms (s:K00):Nat:=s.fPlus.length + s.fTimes.length + s.fBelow.length
theorem Kvx (s:K00) (left:Int) (hs:sln s) (h1:0 ≤ left) (h2:left ≤ 1048576):K8g (s,left)=some (szB left (sms s)):=by
 obtain ⟨l1,l2,l3⟩:=hs
 unfold K8g sms
 simp only
 rw [Kud _ _ h1 h2 l1,bs]
 rcases Kuc left s.fPlus.length with ⟨e,hl⟩ | ⟨e,hl⟩
 ·rw [e,decide_eq_true (by decide),if_pos rfl]; unfold szB; rw [if_pos (by omega)]
 ·rw [e,decide_eq_false (by omega),if_neg (by decide),Kud _ _ (by omega) (by omega) l2,bs]
  rcases Kuc (left - (s.fPlus.length:Int)) s.fTimes.length with ⟨e2,hl2⟩ | ⟨e2,hl2⟩
  ·rw [e2,decide_eq_true (by decide),if_pos rfl]; unfold szB; rw [if_pos (by omega)]
  ·rw [e2,decide_eq_false (by omega),if_neg (by decide),Kvw _ _ (by omega) (by omega) l3,bs]
   rcases Kuc (left - (s.fPlus.length:Int) - (s.fTimes.length:Int)) s.fBelow.length with ⟨e3,hl3⟩ | ⟨e3,hl3⟩
   ·rw [e3,decide_eq_true (by decide),if_pos rfl]; unfold szB; rw [if_pos (by omega)]
   ·rw [e3,decide_eq_false (by omega),if_neg (by decide)]; unfold szB; rw [if_neg (by omega)]; congr 1; omega
theorem Kvy {s:K00} (h:sms s ≤ 1048576):K9f s=some s:=by unfold sms at h; exact Kri s (by omega) (by omega) (by omega)
theorem Kvz {s:K00} (h:sms s ≤ 1048576):Kow (s,s)=some true:=by unfold sms at h; exact Krj s (by omega) (by omega) (by omega)
theorem Kw0 {l:List K01} {t:K01} (h:t ∈ l):tms t + l.length ≤ Ktg l + l.length:=by
 induction l with
 | nil=>cases h
 | cons x l ih =>
  rw [Ktg]
  rcases List.mem_cons.1 h with rfl | h
  ·omega
  ·have:=ih h; omega
theorem Kw1 {l:List K01} {t:K01} (h:t ∈ l):tsz t ≤ Ktf l:=by
 induction l with
 | nil=>cases h
 | cons x l ih =>
  rw [Ktf]
  rcases List.mem_cons.1 h with rfl | h
  ·omega
  ·have:=ih h; omega
theorem Kw2 {t k:K01} (h:k ∈ t.fKids):tms k + 1 ≤ tms t:=by
 rw [Kth t]
 have:=Kw0 h
 have:1 ≤ t.fKids.length:=List.length_pos_of_mem h
 omega
theorem Kw3 {t k:K01} (h:k ∈ t.fKids):tsz k + 1 ≤ tsz t:=by
 rw [Kti t]
 have:=Kw1 h
 omega
mutual
theorem Kw4:∀ (t:K01),tms t ≤ 1099511627776→Kn2 t=some t
 | ⟨op,N,ty,ks⟩,h=>by
  rw [tms] at h
  rw [Kn2.eq_def]
  simp only
  rw [Kuq ty (by omega),bs,show (0:Int)=((0:Nat):Int) from rfl,Kw5 ks ⟨op,N,ty,ks⟩ 0 ty [] rfl (by simp only; omega) (by omega) (by simp),bs]
  rfl
theorem Kw5:∀ (ks:List K01) (t:K01) (i:Nat) (r:List Int) (out:List K01),t.fKids.drop i=ks→t.fKids.length ≤ 1099511627776→Ktg ks ≤ 1099511627776→out.length=i→Kn3 (t,r,out,(i:Int))=some (out ++ ks)
 | [],t,i,r,out,hd,hk,hm,ho=>by
  rw [Kn3.eq_def]
  simp only
  rw [Kr7 (Ksl hd),List.append_nil]; rfl
 | k :: ks,t,i,r,out,hd,hk,hm,ho=>by
  obtain ⟨hi,hx,hd'⟩:=Ksk hd
  rw [Ktg] at hm
  rw [Kn3.eq_def]
  simp only
  rw [Kr6 hi,if_pos rfl,hx,bs,Kw4 k (by omega),bs,Kun (by simp only [List.length_singleton]; omega),bs,Kr5 (by omega),Kw5 ks t (i + 1) r _ hd' hk (by omega) (by simp [ho]),List.append_assoc]
  rfl
end
mutual
def tNb (hi:Int):K01→Prop
 | ⟨op,N,_,ks⟩=>(op=0→-9223372036854775808 ≤ N∧N ≤ hi)∧Kw6 hi ks
def Kw6 (hi:Int):List K01→Prop
 | []=>True
 | k :: ks=>tNb hi k∧Kw6 hi ks
end
mutual
def shf (by_:Int):Int→K01→K01
 | from_,⟨op,N,ty,ks⟩=>⟨op,if op == 0 && decide (N ≥ from_) then N + by_ else N,ty,Kw7 by_ op from_ 0 ks⟩
def Kw7 (by_:Int):Int→Int→Nat→List K01→List K01
 | _,_,_,[]=>[]
 | op,from_,i,k :: ks=>shf by_ (from_ + ((Ktz op (i:Int):Nat):Int)) k :: Kw7 by_ op from_ (i + 1) ks
end
mutual
theorem Kw8:∀ (t:K01) (fr:Int),shf 0 fr t=t
 | ⟨op,N,ty,ks⟩,fr=>by
  rw [shf,Kw9 ks]
  simp
theorem Kw9:∀ (ks:List K01) (op fr:Int) (i:Nat),Kw7 0 op fr i ks=ks
 | [],op,fr,i=>by rw [Kw7]
 | k :: ks,op,fr,i=>by rw [Kw7,Kw8 k,Kw9 ks]
end
mutual
theorem Kwa (b hi:Int) (hb:0 ≤ b) (hh:hi + b ≤ 9223372036854775807):∀ (t:K01) (fr:Int),tNb hi t→tms t ≤ 1099511627776→-35184372088832 ≤ fr→fr + 2 * tms t ≤ 35184372088832→Kfs (t,b,fr)=some (shf b fr t)
 | ⟨op,N,ty,ks⟩,fr,hn,hm,h1,h2=>by
  rw [tms] at hm h2
  rw [tNb] at hn
  rw [Kfs.eq_def,shf]
  simp only
  rw [Kup ty (by omega),bs]
  refine (Kte (x:=op == 0 && decide (N ≥ fr)) ?_).trans ?_
  ·cases op == 0 <;> rfl
  refine (Kte (x:=if op == 0 && decide (N ≥ fr) then N + b else N) ?_).trans ?_
  ·cases h:op == 0 && decide (N ≥ fr)
   ·rfl
   ·rw [Bool.and_eq_true] at h
    have:=hn.1 (eq_of_beq h.1)
    rw [if_pos rfl,Kr3 (by omega) (by omega)]; rfl
  rw [show (0:Int)=((0:Nat):Int) from rfl,Kwb b hi hb hh ks ⟨op,N,ty,ks⟩ fr 0 ty _ [] rfl (by simp only; omega) hn.2 (by omega) h1 (by omega) (by simp),bs]
  rfl
theorem Kwb (b hi:Int) (hb:0 ≤ b) (hh:hi + b ≤ 9223372036854775807):∀ (ks:List K01) (t:K01) (fr:Int) (i:Nat) (r:List Int) (o:Int) (out:List K01),t.fKids.drop i=ks→t.fKids.length ≤ 1099511627776→Kw6 hi ks→Ktg ks ≤ 1099511627776→-35184372088832 ≤ fr →
  fr + 2 * (ks.length + Ktg ks) ≤ 35184372088832→out.length=i→Kft (t,b,fr,r,o,out,(i:Int))=some (out ++ Kw7 b t.fOp fr i ks)
 | [],t,fr,i,r,o,out,hd,hk,hn,hm,h1,h2,ho=>by
  rw [Kft.eq_def,Kw7]
  simp only
  rw [Kr7 (Ksl hd),List.append_nil]; rfl
 | k :: ks,t,fr,i,r,o,out,hd,hk,hn,hm,h1,h2,ho=>by
  obtain ⟨hi',hx,hd'⟩:=Ksk hd
  rw [Ktg] at hm h2
  rw [List.length_cons] at h2
  rw [Kw6] at hn
  have ha:=Ku0 t.fOp (i:Int)
  rw [Kft.eq_def,Kw7]
  simp only
  rw [Kr6 hi',if_pos rfl,hx,bs,Ku1,bs,Kr3 (by omega) (by omega),Kwa b hi hb hh k _ hn.1 (by omega) (by omega) (by omega),bs,Kun (by simp only [List.length_singleton]; omega),bs,Kr5 (by omega)]
  rw [Kwb b hi hb hh ks t fr (i + 1) r o _ hd' hk hn.2 (by omega) h1 (by omega) (by simp [ho]),List.append_assoc]
  rfl
end
mutual
theorem Kwc {a b:Int} (h:a ≤ b):∀ (t:K01),tNb a t→tNb b t
 | ⟨op,N,ty,ks⟩,hn=>by
  rw [tNb] at hn ⊢
  exact ⟨fun e=>by have:=hn.1 e; omega,Kwd h ks hn.2⟩
theorem Kwd {a b:Int} (h:a ≤ b):∀ (ks:List K01),Kw6 a ks→Kw6 b ks
 | [],_=>by rw [Kw6]; trivial
 | k :: ks,hn=>by rw [Kw6] at hn ⊢; exact ⟨Kwc h k hn.1,Kwd h ks hn.2⟩
end
mutual
theorem Kwe (g:Int→Bool) (y:List Int→Bool):∀ (t:K01) (n:Nat),tOk g y n t=true→tNb ((n:Int) + 2 * tsz t) t
 | ⟨op,N,ty,ks⟩,n,h=>by
  obtain ⟨h1,h2⟩:=Kum h
  rw [tNb]
  refine ⟨fun e=>?_,?_⟩
  ·subst e
   unfold Ku5 Ku3 at h1
   simp only [Bool.and_eq_true] at h1
   have h3:=h1.1.2
   rw [show ((0:Int) == 0)=true from rfl,if_pos rfl] at h3
   unfold inB at h3
   simp only [Bool.and_eq_true,decide_eq_true_eq] at h3
   omega
  ·rw [tsz]
   exact Kwd (by omega) ks (Kwf g y ks op n 0 h2)
theorem Kwf (g:Int→Bool) (y:List Int→Bool):∀ (ks:List K01) (op:Int) (n i:Nat),Ku6 g y op n i ks=true→Kw6 ((n:Int) + 2 * Ktf ks + 2) ks
 | [],op,n,i,h=>by rw [Kw6]; trivial
 | k :: ks,op,n,i,h=>by
  rw [Ku6,Bool.and_eq_true] at h
  have ha:=Ku0 op (i:Int)
  rw [Kw6,Ktf]
  exact ⟨Kwc (by omega) k (Kwe g y k _ h.1),Kwd (by omega) ks (Kwf g y ks op n (i + 1) h.2)⟩
end
theorem Kwg {t:K01} (hn:tNb 9223372036854775807 t) (hm:tms t ≤ 1099511627776):Kfs (t,0,0)=some t:=by
 rw [Kwa 0 9223372036854775807 (by omega) (by omega) t 0 hn hm (by omega) (by omega),Kw8]
theorem Kwh:∀ (l a:List Int) (i k:Nat),a.drop i=l→a.length ≤ 1099511627776→k + l.length ≤ 1152921504606846976 + 1099511627776 →
  ∃ M,Kp0 (a,(k:Int),(i:Int))=some (((k + l.length:Nat):Int),M)∧M.length=a.length∧M.take i=a.take i∧M.drop i=(List.range' k l.length).map (fun n:Nat=>(n:Int)):=by
 intro l
 induction l with
 | nil =>
  intro a i k hd ha hk
  rw [Kp0.eq_def]
  simp only
  rw [Kr7 (Ksl hd)]
  exact ⟨a,by simp,rfl,rfl,by rw [hd]; rfl⟩
 | cons x l ih =>
  intro a i k hd ha hk
  obtain ⟨hi,hx,hd'⟩:=Ksk hd
  have hl:(x :: l).length ≤ 1099511627776:=by rw [← hd,List.length_drop]; omega
  rw [List.length_cons] at hl hk
  rw [Kp0.eq_def]
  simp only
  rw [Kr6 hi,if_pos rfl,hx,bs,Int.toNat_natCast,Kr5 (by omega),Kr5 (by omega)]
  obtain ⟨M,h1,h2,h3,h4⟩:=ih (a.set i (k:Int)) (i + 1) (k + 1) (by rw [List.drop_set_of_lt (by omega)]; exact hd') (by simpa using ha) (by omega)
  have hMl:i < M.length:=by rw [h2,List.length_set]; exact hi
  have hMi:M[i]=(k:Int):=by
   have:=congrArg (fun l=>l[i]?) h3
   simp only [List.getElem?_take] at this
   rw [if_pos (by omega),if_pos (by omega),List.getElem?_eq_getElem hMl,List.getElem?_set_self hi] at this
   exact Option.some.inj this
  refine ⟨M,by rw [h1,List.length_cons]; congr 3; omega,by simpa using h2,?_,?_⟩
  ·have:=congrArg (List.take i) h3
   rw [List.take_take,List.take_take,Nat.min_eq_left (by omega),List.take_set_of_le (Nat.le_refl i)] at this
   exact this
  ·rw [List.drop_eq_getElem_cons hMl,h4,hMi,List.length_cons,List.range'_succ,List.map_cons]
theorem Kwi (a:List Int) (k:Nat) (ha:a.length ≤ 1099511627776) (hk:k ≤ 1152921504606846976) :
  Kp3 (a,(k:Int))=some (((k + a.length:Nat):Int),(List.range' k a.length).map (fun n:Nat=>(n:Int))):=by
 unfold Kp3
 simp only
 obtain ⟨M,h1,h2,h3,h4⟩:=Kwh a a 0 k rfl ha (by omega)
 rw [List.drop_zero] at h4
 rw [show (0:Int)=((0:Nat):Int) from rfl,h1,bs,h4]
theorem Kwj (m:Nat):∀ (n k i:Nat) (a:List Int),a.length ≤ 1099511627776→a.drop i=(List.range' k n).map (fun n:Nat=>(n:Int))→k + n ≤ 1152921504606846976 + 1099511627776→Kq6 (a,(k:Int),(i:Int))=some (.inl ((k + n:Nat):Int)):=by
 intro n
 induction n with
 | zero =>
  intro k i a ha hd hk
  rw [Kq6.eq_def]
  simp only
  rw [Kr7 (Ksl hd)]; rfl
 | succ n ih =>
  intro k i a ha hd hk
  rw [List.range'_succ,List.map_cons] at hd
  obtain ⟨hi,hx,hd'⟩:=Ksk hd
  rw [Kq6.eq_def]
  simp only
  rw [Kr6 hi,if_pos rfl,hx,bs,Krd,if_neg (by decide),Kr5 (by omega),Kr5 (by omega),ih (k + 1) (i + 1) a ha hd' (by omega)]
  congr 3; omega
theorem Kwk (n k:Nat) (hn:n ≤ 1099511627776) (hk:k ≤ 1152921504606846976):Kq9 ((List.range' k n).map (fun n:Nat=>(n:Int)),(k:Int))=some ((k + n:Nat):Int):=by
 unfold Kq9
 simp only
 rw [show (0:Int)=((0:Nat):Int) from rfl,Kwj 0 n k 0 _ (by simpa using hn) (by rw [List.drop_zero]) (by omega),bs]
mutual
def mct:K01→Nat
 | ⟨_,_,ty,ks⟩=>ty.length + Kwl ks
def Kwl:List K01→Nat
 | []=>0
 | k :: ks=>2 + mct k + Kwl ks
end
mutual
theorem Kwm:∀ (t:K01),mct t ≤ 2 * tms t
 | ⟨op,N,ty,ks⟩=>by rw [mct,tms]; have:=Kwn ks; omega
theorem Kwn:∀ (ks:List K01),Kwl ks ≤ 2 * (ks.length + Ktg ks)
 | []=>by simp [Kwl]
 | k :: ks=>by rw [Kwl,Ktg,List.length_cons]; have:=Kwm k; have:=Kwn ks; omega
end
theorem Kwo {α:Type} (l:List α) (i:Nat) (a b:α):(l.set i a).set i b=l.set i b:=List.set_set ..
theorem Kwp {α:Type} {l:List α} {i:Nat} (h:i < l.length) (a:α):idx (l.set i a) (i:Int)=some a:=by
 rw [Kr4 (by simpa using h)]; simp
mutual
theorem Kwq:∀ (t:K01) (k:Nat),tms t ≤ 1099511627776→k + mct t ≤ 1152921504606846976→∃ ty ks,Kp3 (t.fType,(k:Int))=some (((k + t.fType.length:Nat):Int),ty)∧Kpo (t.fKids,((k + t.fType.length:Nat):Int))=some (((k + mct t:Nat):Int),ks) ∧
  Kq9 (ty,(k:Int))=some ((k + t.fType.length:Nat):Int)∧Kqm (ks,((k + t.fType.length:Nat):Int))=some ((k + mct t:Nat):Int)∧ks.length=t.fKids.length
 | ⟨op,N,ty,ks⟩,k,hm,hk=>by
  rw [tms] at hm
  rw [mct] at hk ⊢
  simp only
  refine ⟨(List.range' k ty.length).map (fun n:Nat=>(n:Int)),?_⟩
  obtain ⟨M,h1,h2,h3,h4⟩:=Kwr ks ks 0 (k + ty.length) rfl (by omega) (by omega) (by omega)
  refine ⟨M,Kwi ty k (by omega) (by omega),?_,Kwk ty.length k (by omega) (by omega),?_,h2⟩
  ·rw [Kpo.eq_def]
   simp only
   rw [show (0:Int)=((0:Nat):Int) from rfl,h1,bs,Nat.add_assoc]
  ·rw [Kqm.eq_def]
   simp only
   rw [show (0:Int)=((0:Nat):Int) from rfl,h4 M h2 rfl,bs,Nat.add_assoc]
theorem Kwr:∀ (ks a:List K01) (i k:Nat),a.drop i=ks→a.length ≤ 1099511627776→Ktg ks ≤ 1099511627776→k + Kwl ks ≤ 1152921504606846976 →
  ∃ M,Kpp (a,(k:Int),(i:Int))=some (((k + Kwl ks:Nat):Int),M)∧M.length=a.length∧M.take i=a.take i∧∀ A:List K01,A.length=a.length→A.drop i=M.drop i→Kqn (A,(k:Int),(i:Int))=some (.inl ((k + Kwl ks:Nat):Int))
 | [],a,i,k,hd,ha,hm,hk=>by
  rw [Kpp.eq_def,Kwl]
  simp only
  rw [Kr7 (Ksl hd)]
  refine ⟨a,rfl,rfl,rfl,fun A hA _=>?_⟩
  rw [Kqn.eq_def]
  simp only
  have:=Ksl hd
  rw [Kr7 (by omega)]; rfl
 | x :: ks,a,i,k,hd,ha,hm,hk=>by
  obtain ⟨hi,hx,hd'⟩:=Ksk hd
  rw [Ktg] at hm
  rw [Kwl] at hk ⊢
  rw [Kpp.eq_def]
  simp only
  rw [Kr6 hi,if_pos rfl,hx,bs,Kr5 (n:=k) (by omega),Kr5 (n:=k + 1) (by omega),Int.toNat_natCast]
  obtain ⟨ty,kk,m1,m2,m3,m4,m5⟩:=Kwq x (k + 1 + 1) (by omega) (by omega)
  simp only [Kwo,Kwp hi,bs,m1,m2]
  rw [Kr5 (by omega)]
  obtain ⟨M,h1,h2,h3,h4⟩:=Kwr ks (a.set i ⟨(k:Int),((k + 1:Nat):Int),ty,kk⟩) (i + 1) (k + 1 + 1 + mct x) (by rw [List.drop_set_of_lt (by omega)]; exact hd') (by simpa using ha) (by omega) (by omega)
  have hMl:i < M.length:=by rw [h2,List.length_set]; exact hi
  have hMi:M[i]=⟨(k:Int),((k + 1:Nat):Int),ty,kk⟩:=by
   have:=congrArg (fun l=>l[i]?) h3
   simp only [List.getElem?_take] at this
   rw [if_pos (by omega),if_pos (by omega),List.getElem?_eq_getElem hMl,List.getElem?_set_self hi] at this
   exact Option.some.inj this
  refine ⟨M,by rw [h1]; congr 3; omega,by simpa using h2,?_,fun A hA hAd=>?_⟩
  ·have:=congrArg (List.take i) h3
   rw [List.take_take,List.take_take,Nat.min_eq_left (by omega),List.take_set_of_le (Nat.le_refl i)] at this
   exact this
  ·rw [List.drop_eq_getElem_cons hMl,hMi] at hAd
   obtain ⟨qi,qx,qd⟩:=Ksk hAd
   rw [Kqn.eq_def]
   simp only
   rw [Kr6 qi,if_pos rfl,qx,bs,Kr5 (n:=k) (by omega),Kr5 (n:=k + 1) (by omega)]
   simp only
   rw [Krd,if_neg (by decide),bs]
   simp only
   rw [Krd,if_neg (by decide),bs]
   simp only
   rw [m3,bs,decide_eq_false (by omega),if_neg (by decide),bs]
   simp only
   rw [m4,bs,decide_eq_false (by omega),if_neg (by decide),Kr5 (by omega),h4 A (by simpa using hA) qd]
   congr 3; omega
end
mutual
theorem Kws:∀ (t:K01) (k:Nat),tms t ≤ 1099511627776→k + mct t ≤ 1152921504606846976→∃ ks,Kpo (t.fKids,((k + t.fType.length:Nat):Int))=some (((k + mct t:Nat):Int),ks)
 | ⟨op,N,ty,ks⟩,k,hm,hk=>by
  rw [tms] at hm
  rw [mct] at hk ⊢
  simp only
  obtain ⟨M,h1⟩:=Kwt ks ks 0 (k + ty.length) rfl (by omega) (by omega) (by omega)
  refine ⟨M,?_⟩
  rw [Kpo.eq_def]
  simp only
  rw [show (0:Int)=((0:Nat):Int) from rfl,h1,bs,Nat.add_assoc]
theorem Kwt:∀ (ks a:List K01) (i k:Nat),a.drop i=ks→a.length ≤ 1099511627776→Ktg ks ≤ 1099511627776→k + Kwl ks ≤ 1152921504606846976 →
  ∃ M,Kpp (a,(k:Int),(i:Int))=some (((k + Kwl ks:Nat):Int),M)
 | [],a,i,k,hd,ha,hm,hk=>by
  rw [Kpp.eq_def,Kwl]
  simp only
  rw [Kr7 (Ksl hd)]
  exact ⟨a,rfl⟩
 | x :: ks,a,i,k,hd,ha,hm,hk=>by
  obtain ⟨hi,hx,hd'⟩:=Ksk hd
  rw [Ktg] at hm
  rw [Kwl] at hk ⊢
  rw [Kpp.eq_def]
  simp only
  rw [Kr6 hi,if_pos rfl,hx,bs,Kr5 (n:=k) (by omega),Kr5 (n:=k + 1) (by omega),Int.toNat_natCast]
  obtain ⟨kk,m2⟩:=Kws x (k + 1 + 1) (by omega) (by omega)
  have m1:=Kwi x.fType (k + 1 + 1) (by have:=Kth x; omega) (by omega)
  simp only [Kwo,Kwp hi,bs,m1,m2]
  rw [Kr5 (by omega)]
  obtain ⟨M,h1⟩:=Kwt ks (a.set i ⟨(k:Int),((k + 1:Nat):Int),(List.range' (k + 1 + 1) x.fType.length).map (fun n:Nat=>(n:Int)),kk⟩) (i + 1) (k + 1 + 1 + mct x) (by rw [List.drop_set_of_lt (by omega)]; exact hd') (by simpa using ha) (by omega) (by omega)
  exact ⟨M,by rw [h1]; congr 3; omega⟩
end
theorem Kwu (t:K01) (k:Nat) (hm:tms t ≤ 1099511627776) (hk:k ≤ 1000000000000000000):∃ M,Kpv (t,(k:Int))=some (((k + mct t:Nat):Int),M):=by
 have hc:=Kwm t
 obtain ⟨ks,m2⟩:=Kws t k hm (by omega)
 unfold Kpv
 simp only
 rw [Kwi t.fType k (by have:=Kth t; omega) (by omega),bs]
 simp only
 rw [m2,bs]
 exact ⟨_,rfl⟩
theorem Kwv (b:Bool):(!(b == b))=false:=by cases b <;> rfl
def lct:List (List Int)→Nat
 | []=>0
 | x :: l=>x.length + lct l
def lok (l:List (List Int)):Prop:=l.length ≤ 1099511627776∧lct l ≤ 1099511627776
theorem Kww {l:List (List Int)} {x:List Int} (h:x ∈ l):x.length ≤ lct l:=by
 induction l with
 | nil=>cases h
 | cons y l ih =>
  rw [lct]
  rcases List.mem_cons.1 h with rfl | h
  ·omega
  ·have:=ih h; omega
theorem Kwx (a:List (List Int)) (ha:a.length ≤ 1099511627776):∀ (l:List (List Int)) (i:Nat),a.drop i=l→lct l ≤ 1099511627776→Kny (a,a,(i:Int))=some (.inl ()):=by
 intro l
 induction l with
 | nil =>
  intro i hd _
  rw [Kny.eq_def]
  simp only
  rw [Kr7 (Ksl hd)]; rfl
 | cons x l ih =>
  intro i hd hl
  obtain ⟨hi,hx,hd'⟩:=Ksk hd
  rw [lct] at hl
  rw [Kny.eq_def]
  simp only
  rw [Kr6 hi,if_pos rfl,hx,bs,bs,Krf x (by omega),bs,if_pos rfl,Kr5 (by omega),ih (i + 1) hd' (by omega)]
theorem Kwy (a:List (List Int)) (h:lok a):Ko1 (a,a)=some true:=by
 unfold Ko1
 simp only
 rw [Krd,if_neg (by decide),show (0:Int)=((0:Nat):Int) from rfl,Kwx a h.1 a 0 rfl h.2]; rfl
theorem Kwz:∀ (l a:List (List Int)) (i k:Nat),a.drop i=l→a.length ≤ 1099511627776→lct l ≤ 1099511627776→k + lct l ≤ 1152921504606846976 →
  ∃ M,Kph (a,(k:Int),(i:Int))=some (((k + lct l:Nat):Int),M)∧M.length=a.length∧M.take i=a.take i∧∀ A:List (List Int),A.length=a.length→A.drop i=M.drop i→Kqf (A,(k:Int),(i:Int))=some (.inl ((k + lct l:Nat):Int)):=by
 intro l
 induction l with
 | nil =>
  intro a i k hd ha hl hk
  rw [Kph.eq_def,lct]
  simp only
  rw [Kr7 (Ksl hd)]
  refine ⟨a,rfl,rfl,rfl,fun A hA _=>?_⟩
  rw [Kqf.eq_def]
  simp only
  have:=Ksl hd
  rw [Kr7 (by omega)]; rfl
 | cons x l ih =>
  intro a i k hd ha hl hk
  obtain ⟨hi,hx,hd'⟩:=Ksk hd
  rw [lct] at hl hk ⊢
  rw [Kph.eq_def]
  simp only
  rw [Kr6 hi,if_pos rfl,hx,bs,Kwi x k (by omega) (by omega),bs,Kr5 (by omega),Int.toNat_natCast]
  simp only
  obtain ⟨M,h1,h2,h3,h4⟩:=ih (a.set i ((List.range' k x.length).map (fun n:Nat=>(n:Int)))) (i + 1) (k + x.length) (by rw [List.drop_set_of_lt (by omega)]; exact hd') (by simpa using ha) (by omega) (by omega)
  have hMl:i < M.length:=by rw [h2,List.length_set]; exact hi
  have hMi:M[i]=(List.range' k x.length).map (fun n:Nat=>(n:Int)):=by
   have:=congrArg (fun l=>l[i]?) h3
   simp only [List.getElem?_take] at this
   rw [if_pos (by omega),if_pos (by omega),List.getElem?_eq_getElem hMl,List.getElem?_set_self hi] at this
   exact Option.some.inj this
  refine ⟨M,by rw [h1]; congr 3; omega,by simpa using h2,?_,fun A hA hAd=>?_⟩
  ·have:=congrArg (List.take i) h3
   rw [List.take_take,List.take_take,Nat.min_eq_left (by omega),List.take_set_of_le (Nat.le_refl i)] at this
   exact this
  ·rw [List.drop_eq_getElem_cons hMl,hMi] at hAd
   obtain ⟨qi,qx,qd⟩:=Ksk hAd
   rw [Kqf.eq_def]
   simp only
   rw [Kr6 qi,if_pos rfl,qx,bs,Kwk x.length k (by omega) (by omega),bs,decide_eq_false (by omega),if_neg (by decide),Kr5 (by omega),h4 A (by simpa using hA) qd]
   congr 3; omega
theorem Kx0 (a:List (List Int)) (k:Nat) (h:lok a) (hk:k ≤ 1000000000000000000):∃ M,Kpk (a,(k:Int))=some (((k + lct a:Nat):Int),M)∧Kqi (M,(k:Int))=some ((k + lct a:Nat):Int):=by
 have:=h.2
 obtain ⟨M,h1,h2,h3,h4⟩:=Kwz a a 0 k rfl h.1 h.2 (by omega)
 refine ⟨M,?_,?_⟩
 ·unfold Kpk
  simp only
  rw [show (0:Int)=((0:Nat):Int) from rfl,h1,bs]
 ·unfold Kqi
  simp only
  rw [show (0:Int)=((0:Nat):Int) from rfl,h4 M h2 rfl,bs]
theorem Kx1:∀ (l a:List (List Int)) (i k:Nat),a.drop i=l→a.length ≤ 1099511627776→lct l ≤ 1099511627776→k + lct l ≤ 1152921504606846976→∃ M,Kph (a,(k:Int),(i:Int))=some (((k + lct l:Nat):Int),M):=by
 intro l
 induction l with
 | nil =>
  intro a i k hd ha hl hk
  rw [Kph.eq_def,lct]
  simp only
  rw [Kr7 (Ksl hd)]
  exact ⟨a,rfl⟩
 | cons x l ih =>
  intro a i k hd ha hl hk
  obtain ⟨hi,hx,hd'⟩:=Ksk hd
  rw [lct] at hl hk ⊢
  rw [Kph.eq_def]
  simp only
  rw [Kr6 hi,if_pos rfl,hx,bs,Kwi x k (by omega) (by omega),bs,Kr5 (by omega),Int.toNat_natCast]
  simp only
  obtain ⟨M,h1⟩:=ih (a.set i ((List.range' k x.length).map (fun n:Nat=>(n:Int)))) (i + 1) (k + x.length) (by rw [List.drop_set_of_lt (by omega)]; exact hd') (by simpa using ha) (by omega) (by omega)
  exact ⟨M,by rw [h1]; congr 3; omega⟩
theorem Kx2 (a:List (List Int)) (k:Nat) (h:lok a) (hk:k ≤ 1000000000000000000):∃ M,Kpk (a,(k:Int))=some (((k + lct a:Nat):Int),M):=by
 have:=h.2
 obtain ⟨M,h1⟩:=Kx1 a a 0 k rfl h.1 h.2 (by omega)
 refine ⟨M,?_⟩
 unfold Kpk
 simp only
 rw [show (0:Int)=((0:Nat):Int) from rfl,h1,bs]
theorem Kx3 {α:Type} (x:α) (l:List α):cut (x :: l) (some 1) none none=some l:=Kvg [x] l
theorem Kx4 {g:Int→Bool} {y:List Int→Bool}:∀ (ks:List K01) (op:Int) (n i j:Nat) (hj:j < ks.length),Ku6 g y op n i ks=true→tOk g y (n + Ktz op ((i + j:Nat):Int)) ks[j]=true
 | k :: ks,op,n,i,j,hj,ht=>by
  rw [Ku6,Bool.and_eq_true] at ht
  cases j with
  | zero=>exact ht.1
  | succ j =>
   have:=Kx4 ks op n (i + 1) j (by simpa using hj) ht.2
   rw [show i + 1 + j=i + (j + 1) by omega] at this
   exact this
theorem Kx5 {a:Int}:(a == a)=true:=by simp
structure Kx6 (c:Int) (a b:Ty):Prop where
 p0:Kel (c :: (a.code ++ b.code),0)=some a.code
 p1:Kel (c :: (a.code ++ b.code),1)=some b.code
 pp:Kjg (c :: (a.code ++ b.code))=some [a.code,b.code]
 ok:a.ok∧b.ok
 la:a.code.length + b.code.length + 1 ≤ 1048576
theorem Kx7 {c:Int} {a b:Ty} (h:(Ty.bin c a b).ok) (hl:(Ty.bin c a b).code.length ≤ 1048576):Kx6 c a b:=by
 have hl':=hl
 rw [Ty.code] at hl'
 have h3:=Kvi h hl
 rw [Ty.kids,List.map_cons,List.map_cons,List.map_nil,Ty.code] at h3
 refine ⟨Kvj h.2.1 (by omega),Kvk h.2.1 (by omega),h3,h.2,?_⟩
 rw [List.length_cons,List.length_append] at hl'
 omega
structure UnP (c:Int) (a:Ty):Prop where
 p0:Kel (c :: a.code,0)=some a.code
 pp:Kjg (c :: a.code)=some [a.code]
 ok:a.ok
 la:a.code.length + 1 ≤ 1048576
theorem unP {c:Int} {a:Ty} (h:(Ty.un c a).ok) (hl:(Ty.un c a).code.length ≤ 1048576):UnP c a:=by
 have hl':=hl
 rw [Ty.code] at hl'
 have h3:=Kvi h hl
 rw [Ty.kids,List.map_cons,List.map_nil,Ty.code] at h3
 have h4:=Kvj (c:=c) (r:=[]) h.2 (by rw [List.append_nil]; omega)
 rw [List.append_nil] at h4
 refine ⟨h4,h3,h.2,?_⟩
 rw [List.length_cons] at hl'
 omega
theorem Kx8:Kjg [0]=some []:=Kvi (T:=.num) trivial (by simp [Ty.code])
theorem Kx9:∀ (l a:List Bool) (i k:Nat),a.drop i=l→a.length ≤ 1099511627776→k + l.length ≤ 1152921504606846976 + 1099511627776→∃ M,Kp7 (a,(k:Int),(i:Int))=some (((k + l.length:Nat):Int),M):=by
 intro l
 induction l with
 | nil =>
  intro a i k hd ha hk
  rw [Kp7.eq_def]
  simp only
  rw [Kr7 (Ksl hd)]
  exact ⟨a,rfl⟩
 | cons x l ih =>
  intro a i k hd ha hk
  obtain ⟨hi,hx,hd'⟩:=Ksk hd
  have hl:(x :: l).length ≤ 1099511627776:=by rw [← hd,List.length_drop]; omega
  rw [List.length_cons] at hl hk
  rw [Kp7.eq_def]
  simp only
  rw [Kr6 hi,if_pos rfl,hx,bs,Int.toNat_natCast,Kr5 (by omega),Kr5 (by omega)]
  obtain ⟨M,h1⟩:=ih (a.set i (Int.tmod (k:Int) 3 == 0)) (i + 1) (k + 1) (by rw [List.drop_set_of_lt (by omega)]; exact hd') (by simpa using ha) (by omega)
  exact ⟨M,by rw [h1,List.length_cons]; congr 3; omega⟩
theorem Kxa (s:K00) (k:Nat) (hs:sms s ≤ 1099511627776) (hk:k ≤ 1000000000000000000):∃ M,Kpd (s,(k:Int))=some (((k + sms s:Nat):Int),M):=by
 unfold sms at hs ⊢
 unfold Kpd
 simp only
 rw [Kwi s.fPlus k (by omega) (by omega),bs]
 simp only
 rw [Kwi s.fTimes _ (by omega) (by omega),bs]
 simp only
 obtain ⟨M,h⟩:=Kx9 s.fBelow s.fBelow 0 (k + s.fPlus.length + s.fTimes.length) rfl (by omega) (by omega)
 unfold Kpa
 simp only
 rw [show (0:Int)=((0:Nat):Int) from rfl,h,bs,bs]
 exact ⟨_,by congr 3; omega⟩
theorem Kxb {p:Prop} [Decidable p] (h:p):chk p=some ():=by unfold chk; rw [if_pos h]
theorem Kxc (x y:Int) (l r:List Int):(x :: l == y :: r)=(x == y && l == r):=rfl
theorem Kxd (a b:List Int) (ha:a.length ≤ 1099511627776) (hab:a.length=b.length):∀ (l r:List Int) (i:Nat),a.drop i=l→b.drop i=r→Kep (a,b,(i:Int))=some (if l == r then .inl () else .inr false):=by
 intro l
 induction l with
 | nil =>
  intro r i h1 h2
  have hi:=Ksl h1
  rw [Kep.eq_def]
  simp only
  rw [Kr7 hi]
  have:r=[]:=by rw [← h2]; exact List.drop_eq_nil_of_le (by omega)
  subst this; rfl
 | cons x l ih =>
  intro r i h1 h2
  obtain ⟨hi,hx,hd⟩:=Ksk h1
  cases r with
  | nil=>have:=Ksl h2; omega
  | cons y r =>
   obtain ⟨_,hy,hd2⟩:=Ksk h2
   rw [Kep.eq_def]
   simp only
   rw [Kr6 hi,if_pos rfl,hx,hy,bs,bs,Kr5 (by omega),ih r (i + 1) hd hd2,Kxc]
   by_cases e:x=y
   ·subst e; simp
   ·rw [bne_iff_ne.2 e,if_pos rfl,beq_eq_false_iff_ne.2 e]; rfl
theorem Kxe (a b:List Int) (hb:b.length ≤ 1099511627776):Kes (a,b)=some (a == b):=by
 unfold Kes
 simp only
 by_cases h:a.length=b.length
 ·rw [h,Krd,if_neg (by decide)]
  have:=Kxd a b (by omega) h a b 0 rfl rfl
  rw [show ((0:Nat):Int)=0 from rfl] at this
  rw [this]
  cases a == b <;> rfl
 ·rw [bne_iff_ne.2 (by omega),if_pos rfl]
  have:a ≠ b:=fun e=>h (by rw [e])
  rw [beq_eq_false_iff_ne.2 this]
theorem Kxf (a b:List Int) (ha:a.length ≤ 1099511627776) (hab:a.length=b.length):∀ (l r:List Int) (i:Nat),a.drop i=l→b.drop i=r→Kk5 (a,b,(i:Int))=some (if l == r then .inl () else .inr false):=by
 intro l
 induction l with
 | nil =>
  intro r i h1 h2
  have hi:=Ksl h1
  rw [Kk5.eq_def]
  simp only
  rw [Kr7 hi]
  have:r=[]:=by rw [← h2]; exact List.drop_eq_nil_of_le (by omega)
  subst this; rfl
 | cons x l ih =>
  intro r i h1 h2
  obtain ⟨hi,hx,hd⟩:=Ksk h1
  cases r with
  | nil=>have:=Ksl h2; omega
  | cons y r =>
   obtain ⟨_,hy,hd2⟩:=Ksk h2
   rw [Kk5.eq_def]
   simp only
   rw [Kr6 hi,if_pos rfl,hx,hy,bs,bs,Kr5 (by omega),ih r (i + 1) hd hd2,Kxc]
   by_cases e:x=y
   ·subst e; simp
   ·rw [bne_iff_ne.2 e,if_pos rfl,beq_eq_false_iff_ne.2 e]; rfl
theorem Kxg (a b:List Int) (hb:b.length ≤ 1099511627776):Kk8 (a,b)=some (a == b):=by
 unfold Kk8
 simp only
 by_cases h:a.length=b.length
 ·rw [h,Krd,if_neg (by decide)]
  have:=Kxf a b (by omega) h a b 0 rfl rfl
  rw [show ((0:Nat):Int)=0 from rfl] at this
  rw [this]
  cases a == b <;> rfl
 ·rw [bne_iff_ne.2 (by omega),if_pos rfl]
  have:a ≠ b:=fun e=>h (by rw [e])
  rw [beq_eq_false_iff_ne.2 this]
theorem Kxh (g:Int→Bool) (y:List Int→Bool) (op:Int) (n i:Nat) (k:K01) (ks:List K01):Ku6 g y op n i (k :: ks)=(tOk g y (n + Ktz op i) k && Ku6 g y op n (i + 1) ks):=by rw [Ku6]
theorem Kxi {l:List K01} (h:((l.length:Int) == 1)=true):∃ k,l=[k]:=by
 rw [beq_iff_eq] at h; match l,h with | [k],_=>exact ⟨k,rfl⟩ | [],h=>exact absurd h (by simp) | _ :: _ :: _,h=>exact absurd h (by simp only [List.length_cons]; omega)
theorem Kxj {l:List K01} (h:((l.length:Int) == 2)=true):∃ k m,l=[k,m]:=by
 rw [beq_iff_eq] at h; match l,h with | [k,m],_=>exact ⟨k,m,rfl⟩ | [],h=>exact absurd h (by simp) | [_],h=>exact absurd h (by simp) | _ :: _ :: _ :: _,h=>exact absurd h (by simp only [List.length_cons]; omega)
def Kxk (s:K00) (t:K01) (n:Nat):Bool:=Kv1 s && decide (tsz t ≤ 400) && tOk (gN s.fSize true) (yN s.fSize true) n t
theorem Kxl (s:K00) (t:K01) (n:Nat) (hn:n ≤ 8) (ht:tms t ≤ 1099511627776):Kdm (s,t,(n:Int))=some (Kxk s t n):=by
 unfold Kdm Kxk
 simp only
 rw [Kv3,bs]
 cases Kv1 s
 ·rfl
 ·rw [if_pos rfl,sIn,bs]
  have:inB (n:Int) 0 8=true:=by unfold inB; rw [decide_eq_true (by omega),decide_eq_true (by omega)]; rfl
  have hl:=Ktn t 400 ht (by decide)
  rw [show ((400:Nat):Int)=400 from rfl] at hl
  rw [this,if_pos rfl,hl,bs]
  by_cases h:tsz t ≤ 400
  ·rw [Ktk h,decide_eq_true (by omega),decide_eq_true h,if_pos rfl,Ku9 _ _ t n ht (by omega)]
   cases tOk (gN s.fSize true) (yN s.fSize true) n t <;> rfl
  ·rw [Ktl h,decide_eq_false h]; rfl
theorem Kxm (op N:Int) (ty:List Int) (a:K01):tsz ⟨op,N,ty,[a]⟩=1 + tsz a:=by simp [tsz,Ktf]
theorem Kxn (op N:Int) (ty:List Int) (a b:K01):tsz ⟨op,N,ty,[a,b]⟩=1 + (tsz a + tsz b):=by simp [tsz,Ktf]
theorem Kxo (op N:Int) (ty:List Int) (a b c:K01):tsz ⟨op,N,ty,[a,b,c]⟩=1 + (tsz a + (tsz b + tsz c)):=by simp [tsz,Ktf]
theorem Kxp {l:List K01} (h:(l.length:Int)=3):∃ a b c,l=[a,b,c]:=by
 match l,h with | [a,b,c],_=>exact ⟨a,b,c,rfl⟩ | [],h=>exact absurd h (by simp) | [_],h=>exact absurd h (by simp) | [_,_],h=>exact absurd h (by simp) | _ :: _ :: _ :: _ :: _,h=>exact absurd h (by simp only [List.length_cons]; omega)
def lms (l:List (List Int)):Nat:=l.length + lct l
theorem Kxq {l:List (List Int)} (h:lms l ≤ 1099511627776):lok l:=by unfold lms at h; exact ⟨by omega,by omega⟩
def lln (l:List (List Int)):Prop:=l.length ≤ 9223372036854775807∧∀ v ∈ l,v.length ≤ 9223372036854775807
theorem Kxr:∀ (l a:List (List Int)) (i left:Nat),a.drop i=l→a.length ≤ 9223372036854775807→(∀ v ∈ l,v.length ≤ 9223372036854775807)→left ≤ 1048576→K8k (a,(left:Int),(i:Int))=some (if left < lct l then .inr (-1) else .inl ((left - lct l:Nat):Int)):=by
 intro l
 induction l with
 | nil =>
  intro a i left hd ha hl h
  rw [K8k.eq_def,lct]
  simp only
  rw [Kr7 (Ksl hd)]; simp
 | cons x l ih =>
  intro a i left hd ha hl h
  obtain ⟨hi,hx,hd'⟩:=Ksk hd
  rw [K8k.eq_def,lct]
  simp only
  rw [Kr6 hi,if_pos rfl,hx,bs,Kud x left (by omega) (by omega) (hl x List.mem_cons_self),bs,Kr5 (by omega)]
  rcases Kuc left x.length with ⟨e,q⟩ | ⟨e,q⟩
  ·rw [e,decide_eq_true (by decide),if_pos rfl,if_pos (by omega)]
  ·rw [e,decide_eq_false (by omega),if_neg (by decide),show (left:Int) - (x.length:Int)=((left - x.length:Nat):Int) by omega,ih a (i + 1) (left - x.length) hd' ha (fun v hv=>hl v (List.mem_cons_of_mem _ hv)) (by omega)]
   by_cases q2:left - x.length < lct l
   ·rw [if_pos q2,if_pos (by omega)]
   ·rw [if_neg q2,if_neg (by omega)]; congr 3; omega
theorem Kxs (a:List (List Int)) (left:Int) (ha:lln a) (h1:0 ≤ left) (h2:left ≤ 1048576):K8n (a,left)=some (szB left (lms a)):=by
 have hl:=ha.1
 unfold K8n lms
 simp only
 rw [Kr3 (by omega) (by omega)]
 by_cases h3:left - (a.length:Int) < 0
 ·rw [decide_eq_true h3,if_pos rfl]; unfold szB; rw [if_pos (by omega)]
 ·obtain ⟨m,hm⟩:∃ m:Nat,left - (a.length:Int)=(m:Int):=⟨(left - (a.length:Int)).toNat,by omega⟩
  have h:=Kxr a a 0 m rfl hl ha.2 (by omega)
  rw [show ((0:Nat):Int)=0 from rfl] at h
  rw [decide_eq_false h3,if_neg (by decide),hm,h,bs]
  unfold szB
  by_cases q:m < lct a
  ·rw [if_pos q,if_pos (by omega)]
  ·rw [if_neg q,if_neg (by omega)]; simp only; congr 1; omega
theorem Kxt:∀ (l a out:List (List Int)) (i:Nat),a.drop i=l→a.length ≤ 1099511627776→lct l ≤ 1099511627776→out.length=a.length→out.take i=a.take i→K9j (a,out,(i:Int))=some a:=by
 intro l
 induction l with
 | nil =>
  intro a out i hd ha hl ho ht
  rw [K9j.eq_def]
  simp only
  have hle:=Ksl hd
  rw [Kr7 hle]
  rw [List.take_of_length_le (by omega),List.take_of_length_le (by omega)] at ht
  simp [ht]
 | cons x l ih =>
  intro a out i hd ha hl ho ht
  obtain ⟨hi,hx,hd'⟩:=Ksk hd
  have hk:a[i]=x:=by rw [Kr4 hi] at hx; exact Option.some.inj hx
  rw [lct] at hl
  rw [K9j.eq_def]
  simp only
  rw [Kr6 hi,if_pos rfl,hx,bs,Kra x (by omega),bs,Kr4 (by omega),bs,Kr5 (by omega),Int.toNat_natCast]
  exact ih a _ (i + 1) hd' ha (by omega) (by simpa using ho) (by rw [← hk]; exact Kr8 ho hi ht)
theorem Kxu (a:List (List Int)) (h:lms a ≤ 1099511627776):K9m a=some a:=by
 unfold lms at h
 unfold K9m
 have:chk (0 ≤ (a.length:Int)∧(Int.toNat (a.length:Int)) * 24 ≤ 140737488355328)=some ():=by
  unfold chk; rw [if_pos]; refine ⟨by omega,?_⟩; rw [Int.toNat_natCast]; omega
 have h0:=Kxt a a (List.replicate a.length []) 0 rfl (by omega) (by omega) (by simp) rfl
 rw [show ((0:Nat):Int)=0 from rfl] at h0
 rw [this,bs,Int.toNat_natCast,h0,bs]
def jms (j:K02):Nat:=lms j.fCtx + j.fBudgets.length + tms j.fTerm + j.fType.length + j.fFrom.length
theorem Kxv (j:K02) (h:jms j ≤ 1099511627776):Kof (j,j)=some true:=by
 unfold jms at h
 unfold Kof
 simp only
 rw [Kwy j.fCtx (Kxq (by omega)),bs,if_pos rfl,Krf j.fBudgets (by omega),bs,if_pos rfl,Kuj j.fTerm (by omega),bs,if_pos rfl,Krf j.fType (by omega),bs,if_pos rfl,Krf j.fFrom (by omega),bs,if_pos rfl]
end Go.Am
