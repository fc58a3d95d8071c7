/- Plain laws of the printed functions. -/
import Derived.Test.YtmcpomoofkjfcaaGreatGSHF13
set_option linter.unusedSimpArgs false
set_option linter.unusedVariables false
namespace Go.Am
theorem Kqw {x:Int} (h1:-9223372036854775808 ≤ x) (h2:x ≤ 9223372036854775807):wr x=x:=by
 unfold wr IntKind.wrap
 simp [IntKind.bits,IntKind.signed]
 omega
theorem Kqx {α:Type} {l:List α} {n:Nat} (h:n < l.length):idx l (n:Int)=some l[n]:=by
 unfold idx
 rw [if_pos (by omega)]
 simp [h]
theorem bs {α β:Type} (a:α) (f:α→Option β):(some a >>= f)=f a:=rfl
theorem Kqy {n:Nat} (h:n < 9223372036854775807):wr ((n:Int) + 1)=((n + 1:Nat):Int):=by
 rw [Kqw (by omega) (by omega)]; omega
theorem Kqz {n m:Nat} (h:n < m):decide ((n:Int) < (m:Int))=true:=decide_eq_true (by omega)
theorem Kr0 {n m:Nat} (h:m ≤ n):decide ((n:Int) < (m:Int))=false:=decide_eq_false (by omega)
theorem Kr1 {α:Type} {l a:List α} {n:Nat} (hl:l.length=a.length) (hn:n < a.length) (h:l.take n=a.take n):(l.set n a[n]).take (n + 1)=a.take (n + 1):=by
 apply List.ext_getElem?
 intro i
 rw [List.getElem?_take,List.getElem?_take]
 by_cases hi:i < n + 1
 ·rw [if_pos hi,if_pos hi,List.getElem?_set]
  by_cases e:n=i
  ·subst e
   rw [if_pos rfl,if_pos (by omega),List.getElem?_eq_getElem hn]
  ·rw [if_neg e]
   have:=congrArg (fun l=>l[i]?) h
   simp only [List.getElem?_take] at this
   rw [if_pos (by omega),if_pos (by omega)] at this
   exact this
 ·rw [if_neg hi,if_neg hi]
theorem Kr2 (a:List Int) (ha:a.length ≤ 1099511627776):∀ (k n:Nat) (out:List Int),n + k=a.length→out.length=a.length→out.take n=a.take n→Kac (a,out,(n:Int))=some a:=by
 intro k
 induction k with
 | zero =>
  intro n out hn hl ht
  rw [Kac.eq_def]
  simp only
  rw [Kr0 (by omega)]
  have h1:out.take n=out:=List.take_of_length_le (by omega)
  have h2:a.take n=a:=List.take_of_length_le (by omega)
  rw [h1,h2] at ht
  simp [ht]
 | succ k ih =>
  intro n out hn hl ht
  rw [Kac.eq_def]
  simp only
  rw [Kqz (by omega),if_pos rfl,Kqx (by omega),bs,Kqx (by omega),bs,Kqy (by omega),Int.toNat_natCast]
  exact ih (n + 1) _ (by omega) (by simpa using hl) (Kr1 hl (by omega) ht)
theorem Kr3 (a:List Int) (ha:a.length ≤ 1099511627776):Kaf a=some a:=by
 unfold Kaf
 have:chk (0 ≤ (a.length:Int)∧(Int.toNat (a.length:Int)) * 8 ≤ 140737488355328)=some ():=by
  unfold chk; rw [if_pos]; refine ⟨by omega,?_⟩; rw [Int.toNat_natCast]; omega
 rw [this,bs,Int.toNat_natCast]
 have:=Kr2 a ha a.length 0 (List.replicate a.length 0) (by omega) (by simp) rfl
 rw [show ((0:Nat):Int)=0 from rfl] at this
 rw [this,bs]
theorem Kr4 (a:List Bool) (ha:a.length ≤ 1099511627776):∀ (k n:Nat) (out:List Bool),n + k=a.length→out.length=a.length→out.take n=a.take n→Kaj (a,out,(n:Int))=some a:=by
 intro k
 induction k with
 | zero =>
  intro n out hn hl ht
  rw [Kaj.eq_def]
  simp only
  rw [Kr0 (by omega)]
  have h1:out.take n=out:=List.take_of_length_le (by omega)
  have h2:a.take n=a:=List.take_of_length_le (by omega)
  rw [h1,h2] at ht
  simp [ht]
 | succ k ih =>
  intro n out hn hl ht
  rw [Kaj.eq_def]
  simp only
  rw [Kqz (by omega),if_pos rfl,Kqx (by omega),bs,Kqx (by omega),bs,Kqy (by omega),Int.toNat_natCast]
  exact ih (n + 1) _ (by omega) (by simpa using hl) (Kr1 hl (by omega) ht)
theorem Kr5 (a:List Bool) (ha:a.length ≤ 1099511627776):Kam a=some a:=by
 unfold Kam
 have:chk (0 ≤ (a.length:Int)∧(Int.toNat (a.length:Int)) * 1 ≤ 140737488355328)=some ():=by
  unfold chk; rw [if_pos]; refine ⟨by omega,?_⟩; rw [Int.toNat_natCast]; omega
 rw [this,bs,Int.toNat_natCast]
 have:=Kr4 a ha a.length 0 (List.replicate a.length false) (by omega) (by simp) rfl
 rw [show ((0:Nat):Int)=0 from rfl] at this
 rw [this,bs]
theorem Kr6 {a:Int}:(a != a)=false:=by simp
theorem Kr7 (a:List Int) (ha:a.length ≤ 1099511627776):∀ (k n:Nat),n + k=a.length→Kpl (a,a,(n:Int))=some (.inl ()):=by
 intro k
 induction k with
 | zero =>
  intro n hn
  rw [Kpl.eq_def]
  simp only
  rw [Kr0 (by omega)]
  rfl
 | succ k ih =>
  intro n hn
  rw [Kpl.eq_def]
  simp only
  rw [Kqz (by omega),if_pos rfl,Kqx (by omega),bs,bs,Kr6,if_neg (by decide),Kqy (by omega)]
  exact ih (n + 1) (by omega)
theorem Kr8 (a:List Int) (ha:a.length ≤ 1099511627776):Kpo (a,a)=some true:=by
 unfold Kpo
 simp only
 have:=Kr7 a ha a.length 0 (by omega)
 rw [show ((0:Nat):Int)=0 from rfl] at this
 rw [Kr6,if_neg (by decide),this]
 rfl
theorem Kr9 (a:List Bool) (ha:a.length ≤ 1099511627776):∀ (k n:Nat),n + k=a.length→Kps (a,a,(n:Int))=some (.inl ()):=by
 intro k
 induction k with
 | zero =>
  intro n hn
  rw [Kps.eq_def]
  simp only
  rw [Kr0 (by omega)]
  rfl
 | succ k ih =>
  intro n hn
  rw [Kps.eq_def]
  simp only
  rw [Kqz (by omega),if_pos rfl,Kqx (by omega),bs,bs,show ∀ b:Bool,(b == b)=true from by decide,if_pos rfl,Kqy (by omega)]
  exact ih (n + 1) (by omega)
theorem Kra (a:List Bool) (ha:a.length ≤ 1099511627776):Kpv (a,a)=some true:=by
 unfold Kpv
 simp only
 have:=Kr9 a ha a.length 0 (by omega)
 rw [show ((0:Nat):Int)=0 from rfl] at this
 rw [Kr6,if_neg (by decide),this]
 rfl
theorem Krb (s:K00) (h1:s.fPlus.length ≤ 1099511627776) (h2:s.fTimes.length ≤ 1099511627776) (h3:s.fBelow.length ≤ 1099511627776):Kap s=some s:=by
 unfold Kap
 rw [Kr3 _ h1,bs,Kr3 _ h2,bs,Kr5 _ h3,bs]
theorem Krc (s:K00) (h1:s.fPlus.length ≤ 1099511627776) (h2:s.fTimes.length ≤ 1099511627776) (h3:s.fBelow.length ≤ 1099511627776):Kpy (s,s)=some true:=by
 unfold Kpy
 simp only
 rw [Kr6,if_neg (by decide),Kr8 _ h1,bs,if_pos rfl,Kr8 _ h2,bs,if_pos rfl,Kra _ h3,bs,if_pos rfl]
structure Tab (s:K00) (n:Nat):Prop where
 size:s.fSize=(n:Int)
 lo:2 ≤ n
 hi:n ≤ 16
 lp:s.fPlus.length=n * n
 lt:s.fTimes.length=n * n
 lb:s.fBelow.length=n * n
 rp:∀ i (h:i < s.fPlus.length),0 ≤ s.fPlus[i]∧s.fPlus[i] < (n:Int)
 rt:∀ i (h:i < s.fTimes.length),0 ≤ s.fTimes[i]∧s.fTimes[i] < (n:Int)
def pl (s:K00) (n a b:Nat):Nat:=(s.fPlus.getD (a * n + b) 0).toNat
def ti (s:K00) (n a b:Nat):Nat:=(s.fTimes.getD (a * n + b) 0).toNat
def le (s:K00) (n a b:Nat):Bool:=s.fBelow.getD (a * n + b) false
theorem Krd {n a b:Nat} (ha:a < n) (hb:b < n):a * n + b < n * n:=by
 have:(a + 1) * n ≤ n * n:=Nat.mul_le_mul_right _ (by omega)
 rw [Nat.add_mul,Nat.one_mul] at this
 omega
theorem Kre {n a b:Nat} (hn:n ≤ 16) (ha:a < n) (hb:b < n):wr ((wr ((a:Int) * (n:Int))) + (b:Int))=((a * n + b:Nat):Int):=by
 have h1:a * n ≤ 256:=Nat.le_trans (Nat.mul_le_mul (by omega:a ≤ 16) hn) (by decide)
 have e:(a:Int) * (n:Int)=((a * n:Nat):Int):=by simp
 rw [e]
 generalize a * n=m at h1
 rw [Kqw (x:=(m:Int)) (by omega) (by omega),Kqw (by omega) (by omega)]
 omega
section
variable {s:K00} {n:Nat} (h:Tab s n)
include h
theorem Krf {a b:Nat} (ha:a < n) (hb:b < n):pl s n a b < n:=by
 have hl:a * n + b < s.fPlus.length:=by rw [h.lp]; exact Krd ha hb
 unfold pl
 rw [List.getD_eq_getElem?_getD,List.getElem?_eq_getElem hl]
 have:=h.rp _ hl
 simp only [Option.getD_some]
 omega
theorem Krg {a b:Nat} (ha:a < n) (hb:b < n):ti s n a b < n:=by
 have hl:a * n + b < s.fTimes.length:=by rw [h.lt]; exact Krd ha hb
 unfold ti
 rw [List.getD_eq_getElem?_getD,List.getElem?_eq_getElem hl]
 have:=h.rt _ hl
 simp only [Option.getD_some]
 omega
theorem Krh {a b:Nat} (ha:a < n) (hb:b < n):idx s.fPlus ((a * n + b:Nat):Int)=some ((pl s n a b:Nat):Int):=by
 have hl:a * n + b < s.fPlus.length:=by rw [h.lp]; exact Krd ha hb
 rw [Kqx hl]
 unfold pl
 rw [List.getD_eq_getElem?_getD,List.getElem?_eq_getElem hl]
 have:=h.rp _ hl
 simp only [Option.getD_some]
 congr 1
 omega
theorem Kri {a b:Nat} (ha:a < n) (hb:b < n):idx s.fTimes ((a * n + b:Nat):Int)=some ((ti s n a b:Nat):Int):=by
 have hl:a * n + b < s.fTimes.length:=by rw [h.lt]; exact Krd ha hb
 rw [Kqx hl]
 unfold ti
 rw [List.getD_eq_getElem?_getD,List.getElem?_eq_getElem hl]
 have:=h.rt _ hl
 simp only [Option.getD_some]
 congr 1
 omega
theorem Krj {a b:Nat} (ha:a < n) (hb:b < n):idx s.fBelow ((a * n + b:Nat):Int)=some (le s n a b):=by
 have hl:a * n + b < s.fBelow.length:=by rw [h.lb]; exact Krd ha hb
 rw [Kqx hl]
 unfold le
 rw [List.getD_eq_getElem?_getD,List.getElem?_eq_getElem hl]
 rfl
theorem Krk {a b:Nat} (ha:a < n) (hb:b < n):Kbw (s,(a:Int),(b:Int))=some ((pl s n a b:Nat):Int):=by
 unfold Kbw
 simp only
 rw [h.size,Kre h.hi ha hb,Krh h ha hb,bs]
theorem Krl {a b:Nat} (ha:a < n) (hb:b < n):Kbz (s,(a:Int),(b:Int))=some ((ti s n a b:Nat):Int):=by
 unfold Kbz
 simp only
 rw [h.size,Kre h.hi ha hb,Kri h ha hb,bs]
theorem sLe {a b:Nat} (ha:a < n) (hb:b < n):Kc2 (s,(a:Int),(b:Int))=some (le s n a b):=by
 unfold Kc2
 simp only
 rw [h.size,Kre h.hi ha hb,Krj h ha hb,bs]
theorem Krm {a b:Nat} (ha:a < n) (hb:b < n):Kii (s,(a:Int),(b:Int))=some ((pl s n a b:Nat):Int):=by
 unfold Kii
 simp only
 rw [h.size,Kre h.hi ha hb,Krh h ha hb,bs]
theorem Krn {a b:Nat} (ha:a < n) (hb:b < n):Kil (s,(a:Int),(b:Int))=some ((ti s n a b:Nat):Int):=by
 unfold Kil
 simp only
 rw [h.size,Kre h.hi ha hb,Kri h ha hb,bs]
theorem iLe {a b:Nat} (ha:a < n) (hb:b < n):Kio (s,(a:Int),(b:Int))=some (le s n a b):=by
 unfold Kio
 simp only
 rw [h.size,Kre h.hi ha hb,Krj h ha hb,bs]
end
theorem Kro (x y:Nat):(((x:Nat):Int) == ((y:Nat):Int))=(x == y):=by
 cases hb:(x == y) with
 | true=>have:=eq_of_beq hb; subst this; simp
 | false=>simp at hb ⊢; omega
theorem Krp (x y:Nat):(((x:Nat):Int) != ((y:Nat):Int))=(x != y):=by
 simp only [bne,Kro]
def Krq (s:K00) (n a:Nat):Bool:=(pl s n 0 a == a) && (ti s n 1 a == a) && (ti s n a 1 == a) && (ti s n 0 a == 0) && (ti s n a 0 == 0) && le s n a a
def Krr (s:K00) (n a b c:Nat):Bool :=
 (pl s n (pl s n a b) c == pl s n a (pl s n b c)) && (ti s n (ti s n a b) c == ti s n a (ti s n b c)) &&
 (ti s n a (pl s n b c) == pl s n (ti s n a b) (ti s n a c)) && (ti s n (pl s n a b) c == pl s n (ti s n a c) (ti s n b c)) &&
 (!(le s n a b) || ((!(le s n b c) || le s n a c) && le s n (pl s n a c) (pl s n b c) && le s n (ti s n a c) (ti s n b c) && le s n (ti s n c a) (ti s n c b)))
section
variable {s:K00} {n:Nat} (h:Tab s n)
include h
theorem Krs {a:Nat} (ha:a < n):Kc5 (s,(a:Int))=some (Krq s n a):=by
 have l0:(0:Nat) < n:=by have:=h.lo; omega
 have l1:(1:Nat) < n:=by have:=h.lo; omega
 have e0:(0:Int)=((0:Nat):Int):=rfl
 have e1:(1:Int)=((1:Nat):Int):=rfl
 unfold Kc5 Krq
 simp only
 rw [e0,e1]
 simp only [Krk h l0 ha,Krl h l1 ha,Krl h ha l1,Krl h l0 ha,Krl h ha l0,sLe h ha ha,bs,Kro]
 generalize (pl s n 0 a == a)=b1
 generalize (ti s n 1 a == a)=b2
 generalize (ti s n a 1 == a)=b3
 generalize (ti s n 0 a == 0)=b4
 generalize (ti s n a 0 == 0)=b5
 generalize le s n a a=b6
 cases b1 <;> cases b2 <;> cases b3 <;> cases b4 <;> cases b5 <;> cases b6 <;> rfl
theorem Krt {a b c:Nat} (ha:a < n) (hb:b < n) (hc:c < n):Kcp (s,(a:Int),(b:Int),(c:Int))=some (Krr s n a b c):=by
 unfold Kcp Krr
 simp only
 simp only [Krk h,Krl h,sLe h,Krf h,Krg h,ha,hb,hc,bs,Krp]
 generalize e1:pl s n (pl s n a b) c=x1
 generalize e2:pl s n a (pl s n b c)=x2
 generalize e3:ti s n (ti s n a b) c=x3
 generalize e4:ti s n a (ti s n b c)=x4
 generalize ti s n a (pl s n b c)=x5
 generalize pl s n (ti s n a b) (ti s n a c)=x6
 generalize ti s n (pl s n a b) c=x7
 generalize pl s n (ti s n a c) (ti s n b c)=x8
 generalize le s n (pl s n a c) (pl s n b c)=y1
 generalize le s n (ti s n a c) (ti s n b c)=y2
 generalize le s n (ti s n c a) (ti s n c b)=y3
 generalize le s n a b=y4
 generalize le s n b c=y5
 generalize le s n a c=y6
 simp only [bne]
 generalize (x1 == x2)=b1
 generalize (x3 == x4)=b2
 generalize (x5 == x6)=b3
 generalize (x7 == x8)=b4
 cases b1 <;> cases b2 <;> cases b3 <;> cases b4 <;> first | rfl | (cases y4 <;> cases y5 <;> cases y6 <;> cases y1 <;> cases y2 <;> cases y3 <;> rfl)
theorem Kru {a b c:Nat} (ha:a < n) (hb:b < n) (hc:c < n):Kj8 (s,(a:Int),(b:Int),(c:Int))=some (Krr s n a b c):=by
 unfold Kj8 Krr
 simp only
 simp only [Krm h,Krn h,iLe h,Krf h,Krg h,ha,hb,hc,bs,Krp]
 generalize e1:pl s n (pl s n a b) c=x1
 generalize e2:pl s n a (pl s n b c)=x2
 generalize e3:ti s n (ti s n a b) c=x3
 generalize e4:ti s n a (ti s n b c)=x4
 generalize ti s n a (pl s n b c)=x5
 generalize pl s n (ti s n a b) (ti s n a c)=x6
 generalize ti s n (pl s n a b) c=x7
 generalize pl s n (ti s n a c) (ti s n b c)=x8
 generalize le s n (pl s n a c) (pl s n b c)=y1
 generalize le s n (ti s n a c) (ti s n b c)=y2
 generalize le s n (ti s n c a) (ti s n c b)=y3
 generalize le s n a b=y4
 generalize le s n b c=y5
 generalize le s n a c=y6
 simp only [bne]
 generalize (x1 == x2)=b1
 generalize (x3 == x4)=b2
 generalize (x5 == x6)=b3
 generalize (x7 == x8)=b4
 cases b1 <;> cases b2 <;> cases b3 <;> cases b4 <;> first | rfl | (cases y4 <;> cases y5 <;> cases y6 <;> cases y1 <;> cases y2 <;> cases y3 <;> rfl)
end
def Krv (s:K00) (n a b g h:Nat):Bool:=!le s n a h || !le s n b h || le s n g h
def jok (s:K00) (n a b g:Nat):Bool:=le s n a g && le s n b g && (List.range' 0 n).all (Krv s n a b g)
def Krw (s:K00) (n a b:Nat):Int:=match (List.range' 0 n).find? (jok s n a b) with | some g=>(g:Int) | none=>-1
section
variable {s:K00} {n:Nat} (h:Tab s n)
include h
theorem Krx {a b g:Nat} (ha:a < n) (hb:b < n) (hg:g < n):∀ (k m:Nat) (ok:Bool),m + k=n→Kc9 (s,(a:Int),(b:Int),(g:Int),ok,(m:Int))=some (ok && (List.range' m k).all (Krv s n a b g)):=by
 have hhi:=h.hi
 intro k
 induction k with
 | zero =>
  intro m ok hm
  rw [Kc9.eq_def]
  simp only
  rw [h.size,Kr0 (by omega)]
  simp [bs]
 | succ k ih =>
  intro m ok hm
  rw [Kc9.eq_def]
  simp only
  rw [h.size,Kqz (by omega),if_pos rfl,bs,sLe h ha (by omega),sLe h hb (by omega),sLe h hg (by omega)]
  cases ok with
  | false=>rfl
  | true =>
   rw [if_pos rfl]
   rw [List.range'_succ,List.all_cons]
   have ih:∀ ok,_:=fun ok=>ih (m + 1) ok (by omega)
   rw [Kqy (by omega)]
   generalize ((m + 1:Nat):Int)=M at ih ⊢
   simp only [bs,Krv]
   cases le s n a m <;> cases le s n b m <;> cases le s n g m <;> simp [bs,ih,Krv]
theorem Kry {a b g:Nat} (ha:a < n) (hb:b < n) (hg:g < n):∀ (k m:Nat) (ok:Bool),m + k=n→Kis (s,(a:Int),(b:Int),(g:Int),ok,(m:Int))=some (ok && (List.range' m k).all (Krv s n a b g)):=by
 have hhi:=h.hi
 intro k
 induction k with
 | zero =>
  intro m ok hm
  rw [Kis.eq_def]
  simp only
  rw [h.size,Kr0 (by omega)]
  simp [bs]
 | succ k ih =>
  intro m ok hm
  rw [Kis.eq_def]
  simp only
  rw [h.size,Kqz (by omega),if_pos rfl,iLe h ha (by omega),iLe h hb (by omega),iLe h hg (by omega)]
  rw [List.range'_succ,List.all_cons]
  have ih:∀ ok,_:=fun ok=>ih (m + 1) ok (by omega)
  rw [Kqy (by omega)]
  generalize ((m + 1:Nat):Int)=M at ih ⊢
  simp only [bs,Krv]
  cases ok <;> cases le s n a m <;> cases le s n b m <;> cases le s n g m <;> simp [bs,ih,Krv]
theorem Krz {a b:Nat} (ha:a < n) (hb:b < n):∀ (k g:Nat),g + k=n→Kcd (s,(a:Int),(b:Int),(g:Int))=some (match (List.range' g k).find? (jok s n a b) with | some g=>.inr (g:Int) | none=>.inl ()):=by
 have hhi:=h.hi
 intro k
 induction k with
 | zero =>
  intro g hm
  rw [Kcd.eq_def]
  simp only
  rw [h.size,Kr0 (by omega)]
  rfl
 | succ k ih =>
  intro g hm
  rw [Kcd.eq_def]
  simp only
  rw [h.size,Kqz (by omega),if_pos rfl,sLe h ha (by omega),sLe h hb (by omega)]
  have ih:=ih (g + 1) (by omega)
  rw [Kqy (by omega),List.range'_succ,List.find?_cons]
  have hl:=fun ok=>Krx h ha hb (g:=g) (by omega) n 0 ok (by omega)
  rw [show ((0:Nat):Int)=0 from rfl] at hl
  generalize ((g + 1:Nat):Int)=M at ih ⊢
  have hj:jok s n a b g=(le s n a g && le s n b g && (List.range' 0 n).all (Krv s n a b g)):=rfl
  rw [hj]
  cases le s n a g <;> cases le s n b g <;> cases hq:(List.range' 0 n).all (Krv s n a b g) <;> simp [bs,hl,hq,ih]
theorem Ks0 {a b:Nat} (ha:a < n) (hb:b < n):∀ (k g:Nat),g + k=n→Kix (s,(a:Int),(b:Int),(g:Int))=some (match (List.range' g k).find? (jok s n a b) with | some g=>.inr (g:Int) | none=>.inl ()):=by
 have hhi:=h.hi
 intro k
 induction k with
 | zero =>
  intro g hm
  rw [Kix.eq_def]
  simp only
  rw [h.size,Kr0 (by omega)]
  rfl
 | succ k ih =>
  intro g hm
  rw [Kix.eq_def]
  simp only
  rw [h.size,Kqz (by omega),if_pos rfl,iLe h ha (by omega),iLe h hb (by omega)]
  have ih:=ih (g + 1) (by omega)
  rw [Kqy (by omega),List.range'_succ,List.find?_cons]
  have hl:=fun ok=>Kry h ha hb (g:=g) (by omega) n 0 ok (by omega)
  rw [show ((0:Nat):Int)=0 from rfl] at hl
  generalize ((g + 1:Nat):Int)=M at ih ⊢
  have hj:jok s n a b g=(le s n a g && le s n b g && (List.range' 0 n).all (Krv s n a b g)):=rfl
  rw [hj]
  cases le s n a g <;> cases le s n b g <;> cases hq:(List.range' 0 n).all (Krv s n a b g) <;> simp [bs,hl,hq,ih]
theorem Ks1 {a b:Nat} (ha:a < n) (hb:b < n):Kcg (s,(a:Int),(b:Int))=some (Krw s n a b):=by
 unfold Kcg Krw
 simp only
 have:=Krz h ha hb n 0 (by omega)
 rw [show ((0:Nat):Int)=0 from rfl] at this
 rw [this,bs]
 cases (List.range' 0 n).find? (jok s n a b) <;> rfl
theorem Ks2 {a b:Nat} (ha:a < n) (hb:b < n):Kj0 (s,(a:Int),(b:Int))=some (Krw s n a b):=by
 unfold Kj0 Krw
 simp only
 have:=Ks0 h ha hb n 0 (by omega)
 rw [show ((0:Nat):Int)=0 from rfl] at this
 rw [this,bs]
 cases (List.range' 0 n).find? (jok s n a b) <;> rfl
def Ks3 (s:K00) (n a b:Nat):Bool:=(pl s n a b == pl s n b a) && ((a == b) || !le s n a b || !le s n b a) && decide (Krw s n a b ≥ 0)
omit h in
theorem Ks4 (x:Int):decide (x < 0)=!decide (x ≥ 0):=by
 by_cases h:x < 0
 ·rw [decide_eq_true h,decide_eq_false (by omega)]; rfl
 ·rw [decide_eq_false h,decide_eq_true (by omega)]; rfl
theorem Ks5 {a b:Nat} (ha:a < n) (hb:b < n):Kcj (s,(a:Int),(b:Int))=some (Ks3 s n a b):=by
 unfold Kcj Ks3
 simp only
 rw [Krk h ha hb,Krk h hb ha,sLe h ha hb,sLe h hb ha,Ks1 h ha hb]
 simp only [bs,Kro]
 generalize (pl s n a b == pl s n b a)=b1
 generalize (a == b)=b2
 cases b1 <;> cases b2 <;> cases le s n a b <;> cases le s n b a <;> simp [bs]
end
def inB (x lo hi:Int):Bool:=decide (x ≥ lo) && decide (x ≤ hi)
theorem sIn (x lo hi:Int):Kbm (x,lo,hi)=some (inB x lo hi):=by
 unfold Kbm inB
 simp only
 cases decide (x ≥ lo) <;> simp [bs]
theorem iIn (x lo hi:Int):Kic (x,lo,hi)=some (inB x lo hi):=by
 unfold Kic inB
 simp only
 cases decide (x ≥ lo) <;> simp [bs]
def Ks6 (s:K00) (n:Nat):Bool:=(List.range' 0 n).all fun a=>Krq s n a && (List.range' 0 n).all fun b=>Ks3 s n a b && (List.range' 0 n).all fun c=>Krr s n a b c
section
variable {s:K00} {n:Nat} (h:Tab s n)
include h
theorem Ks7 {a b:Nat} (ha:a < n) (hb:b < n):∀ (k c:Nat),c + k=n→Kct (s,(a:Int),(b:Int),(c:Int))=some (if (List.range' c k).all (fun c=>Krr s n a b c) then .inl () else .inr false):=by
 have hhi:=h.hi
 intro k
 induction k with
 | zero =>
  intro c hm
  rw [Kct.eq_def]
  simp only
  rw [h.size,Kr0 (by omega)]
  rfl
 | succ k ih =>
  intro c hm
  rw [Kct.eq_def]
  simp only
  rw [h.size,Kqz (by omega),if_pos rfl,Krt h ha hb (by omega),bs]
  have ih:=ih (c + 1) (by omega)
  rw [Kqy (by omega),List.range'_succ,List.all_cons]
  generalize ((c + 1:Nat):Int)=M at ih ⊢
  generalize (List.range' (c + 1) k).all (fun c=>Krr s n a b c)=r at ih ⊢
  cases Krr s n a b c <;> cases r <;> simp [ih]
theorem Ks8 {a b:Nat} (ha:a < n) (hb:b < n):∀ (k c:Nat),c + k=n→Kjg (s,(a:Int),(b:Int),(c:Int))=some (if (List.range' c k).all (fun c=>Krr s n a b c) then .inl () else .inr false):=by
 have hhi:=h.hi
 intro k
 induction k with
 | zero =>
  intro c hm
  rw [Kjg.eq_def]
  simp only
  rw [h.size,Kr0 (by omega)]
  rfl
 | succ k ih =>
  intro c hm
  rw [Kjg.eq_def]
  simp only
  rw [h.size,Kqz (by omega),if_pos rfl,Kru h ha hb (by omega),bs]
  have ih:=ih (c + 1) (by omega)
  rw [Kqy (by omega),List.range'_succ,List.all_cons]
  generalize ((c + 1:Nat):Int)=M at ih ⊢
  generalize (List.range' (c + 1) k).all (fun c=>Krr s n a b c)=r at ih ⊢
  cases Krr s n a b c <;> cases r <;> simp [ih]
theorem Ks9 {a:Nat} (ha:a < n):∀ (k b:Nat),b + k=n→Kcx (s,(a:Int),(b:Int))=some (if (List.range' b k).all (fun b=>Ks3 s n a b && (List.range' 0 n).all fun c=>Krr s n a b c) then .inl () else .inr false):=by
 have hhi:=h.hi
 intro k
 induction k with
 | zero =>
  intro c hm
  rw [Kcx.eq_def]
  simp only
  rw [h.size,Kr0 (by omega)]
  rfl
 | succ k ih =>
  intro b hm
  rw [Kcx.eq_def]
  simp only
  have hl:=Ks7 h ha (b:=b) (by omega) n 0 (by omega)
  rw [show ((0:Nat):Int)=0 from rfl] at hl
  rw [h.size,Kqz (by omega),if_pos rfl,Ks5 h ha (by omega),bs,hl]
  have ih:=ih (b + 1) (by omega)
  rw [Kqy (by omega),List.range'_succ,List.all_cons]
  generalize ((b + 1:Nat):Int)=M at ih ⊢
  generalize (List.range' (b + 1) k).all (fun b=>Ks3 s n a b && (List.range' 0 n).all fun c=>Krr s n a b c)=r at ih ⊢
  cases Ks3 s n a b <;> cases (List.range' 0 n).all (fun c=>Krr s n a b c) <;> cases r <;> simp [ih,bs]
theorem Ksa {a:Nat} (ha:a < n):∀ (k b:Nat),b + k=n→Kjk (s,(a:Int),(b:Int))=some (if (List.range' b k).all (fun b=>Ks3 s n a b && (List.range' 0 n).all fun c=>Krr s n a b c) then .inl () else .inr false):=by
 have hhi:=h.hi
 intro k
 induction k with
 | zero =>
  intro c hm
  rw [Kjk.eq_def]
  simp only
  rw [h.size,Kr0 (by omega)]
  rfl
 | succ k ih =>
  intro b hm
  have hb:b < n:=by omega
  rw [Kjk.eq_def]
  simp only
  have hl:=Ks8 h ha (b:=b) (by omega) n 0 (by omega)
  rw [show ((0:Nat):Int)=0 from rfl] at hl
  rw [h.size,Kqz (by omega),if_pos rfl,Krm h ha hb,Krm h hb ha,iLe h ha hb,iLe h hb ha,Ks2 h ha hb,hl]
  have ih:=ih (b + 1) (by omega)
  rw [Kqy (by omega),List.range'_succ,List.all_cons]
  generalize ((b + 1:Nat):Int)=M at ih ⊢
  generalize (List.range' (b + 1) k).all (fun b=>Ks3 s n a b && (List.range' 0 n).all fun c=>Krr s n a b c)=r at ih ⊢
  simp only [bs,Krp,Ks4]
  cases h1:(pl s n a b == pl s n b a) <;> cases h2:(a == b) <;> cases h3:decide (Krw s n a b ≥ 0) <;> cases h4:le s n a b <;> cases h5:le s n b a <;> cases h6:(List.range' 0 n).all (fun c=>Krr s n a b c) <;> cases r <;> simp only [Ks3,bne,h1,h2,h3,h4,h5,h6,ih,bs,Bool.not_true,Bool.not_false,Bool.true_and,Bool.false_and,Bool.and_true,Bool.and_false,Bool.true_or,Bool.false_or,Bool.or_true,Bool.or_false,if_true,if_false,Bool.false_eq_true]
theorem Ksb:∀ (k a:Nat),a + k=n→Kd1 (s,(a:Int))=some (if (List.range' a k).all (fun a=>Krq s n a && (List.range' 0 n).all fun b=>Ks3 s n a b && (List.range' 0 n).all fun c=>Krr s n a b c) then .inl () else .inr false):=by
 have hhi:=h.hi
 intro k
 induction k with
 | zero =>
  intro c hm
  rw [Kd1.eq_def]
  simp only
  rw [h.size,Kr0 (by omega)]
  rfl
 | succ k ih =>
  intro a hm
  have ha:a < n:=by omega
  rw [Kd1.eq_def]
  simp only
  have hl:=Ks9 h ha n 0 (by omega)
  rw [show ((0:Nat):Int)=0 from rfl] at hl
  rw [h.size,Kqz (by omega),if_pos rfl,Krs h ha,bs,hl]
  have ih:=ih (a + 1) (by omega)
  rw [Kqy (by omega),List.range'_succ,List.all_cons]
  generalize ((a + 1:Nat):Int)=M at ih ⊢
  generalize (List.range' (a + 1) k).all (fun a=>Krq s n a && (List.range' 0 n).all fun b=>Ks3 s n a b && (List.range' 0 n).all fun c=>Krr s n a b c)=r at ih ⊢
  cases Krq s n a <;> cases (List.range' 0 n).all (fun b=>Ks3 s n a b && (List.range' 0 n).all fun c=>Krr s n a b c) <;> cases r <;> simp [ih,bs]
theorem Ksc:∀ (k a:Nat),a + k=n→Kjo (s,(a:Int))=some (if (List.range' a k).all (fun a=>Krq s n a && (List.range' 0 n).all fun b=>Ks3 s n a b && (List.range' 0 n).all fun c=>Krr s n a b c) then .inl () else .inr false):=by
 have hhi:=h.hi
 have l0:(0:Nat) < n:=by have:=h.lo; omega
 have l1:(1:Nat) < n:=by have:=h.lo; omega
 intro k
 induction k with
 | zero =>
  intro c hm
  rw [Kjo.eq_def]
  simp only
  rw [h.size,Kr0 (by omega)]
  rfl
 | succ k ih =>
  intro a hm
  have ha:a < n:=by omega
  rw [Kjo.eq_def]
  simp only
  have hl:=Ksa h ha n 0 (by omega)
  have q1:Kii (s,0,(a:Int))=_:=Krm h l0 ha
  have q2:Kil (s,1,(a:Int))=_:=Krn h l1 ha
  have q3:Kil (s,(a:Int),1)=_:=Krn h ha l1
  have q4:Kil (s,0,(a:Int))=_:=Krn h l0 ha
  have q5:Kil (s,(a:Int),0)=_:=Krn h ha l0
  have z1:(((ti s n 0 a:Nat):Int) != 0)=(ti s n 0 a != 0):=Krp _ 0
  have z2:(((ti s n a 0:Nat):Int) != 0)=(ti s n a 0 != 0):=Krp _ 0
  rw [show ((0:Nat):Int)=0 from rfl] at hl
  rw [h.size,Kqz (by omega),if_pos rfl,q1,q2,q3,q4,q5,iLe h ha ha,hl]
  have ih:=ih (a + 1) (by omega)
  rw [Kqy (by omega),List.range'_succ,List.all_cons]
  generalize ((a + 1:Nat):Int)=M at ih ⊢
  generalize (List.range' (a + 1) k).all (fun a=>Krq s n a && (List.range' 0 n).all fun b=>Ks3 s n a b && (List.range' 0 n).all fun c=>Krr s n a b c)=r at ih ⊢
  simp only [bs,Krp,z1,z2]
  cases h1:(pl s n 0 a == a) <;> cases h2:(ti s n 1 a == a) <;> cases h3:(ti s n a 1 == a) <;> cases h4:(ti s n 0 a == 0) <;> cases h5:(ti s n a 0 == 0) <;> cases h6:le s n a a <;> cases h7:(List.range' 0 n).all (fun b=>Ks3 s n a b && (List.range' 0 n).all fun c=>Krr s n a b c) <;> cases r <;> simp only [Krq,bne,h1,h2,h3,h4,h5,h6,h7,ih,bs,Bool.not_true,Bool.not_false,Bool.true_and,Bool.false_and,Bool.and_true,Bool.and_false,if_true,if_false,Bool.false_eq_true]
end
theorem Ksd {α:Type} {l r:List α} {x:α} {i:Nat} (h:l.drop i=x :: r):i < l.length∧idx l (i:Int)=some x∧l.drop (i + 1)=r:=by
 have hi:i < l.length:=by
  rcases Nat.lt_or_ge i l.length with h' | h'
  ·exact h'
  ·rw [List.drop_eq_nil_of_le h'] at h; cases h
 have e:=List.drop_eq_getElem_cons hi
 rw [h] at e
 obtain ⟨e1,e2⟩:=List.cons.inj e
 exact ⟨hi,by rw [Kqx hi,e1],e2.symm⟩
theorem Kse {α:Type} {l:List α} {i:Nat} (h:l.drop i=[]):l.length ≤ i:=by
 rcases Nat.lt_or_ge i l.length with h' | h'
 ·rw [List.drop_eq_getElem_cons h'] at h; cases h
 ·exact h'
def Ksf (c:Int):Bool:=inB c 3 18 || c == 35
def Ksg (c:Int):Bool:=inB c 19 34 || c == 36
def Ksh (c:Int):Int:=if c == 0 then 0 else if c == 1 || c == 2 || Ksf c then 2 else if Ksg c then 1 else -1
theorem Ksi (c:Int):Kd7 c=some (Ksf c):=by
 unfold Kd7 Ksf
 simp only [sIn,bs]
 cases inB c 3 18 <;> rfl
theorem Ksj (c:Int):Kda c=some (Ksg c):=by
 unfold Kda Ksg
 simp only [sIn,bs]
 cases inB c 19 34 <;> rfl
theorem Ksk (c:Int):Kdd c=some (Ksh c):=by
 unfold Kdd Ksh
 simp only [Ksi,Ksj,bs]
 cases c == 0 <;> cases c == 1 <;> cases c == 2 <;> cases Ksf c <;> cases Ksg c <;> rfl
theorem Ksl (c:Int):(c=0∧Ksh c=0)∨((c=1∨c=2∨(3 ≤ c∧c ≤ 18)∨c=35)∧Ksh c=2)∨(((19 ≤ c∧c ≤ 34)∨c=36)∧Ksh c=1)∨((c < 0∨36 < c)∧Ksh c=-1):=by
 unfold Ksh Ksf Ksg inB
 by_cases h0:c=0
 ·left; subst h0; exact ⟨rfl,rfl⟩
 ·right
  have e0:(c == 0)=false:=by simpa using h0
  by_cases h1:c=1∨c=2∨(3 ≤ c∧c ≤ 18)∨c=35
  ·left
   refine ⟨h1,?_⟩
   have:(c == 1 || c == 2 || (decide (c ≥ 3) && decide (c ≤ 18) || c == 35))=true:=by
    simp only [Bool.or_eq_true,Bool.and_eq_true,beq_iff_eq,decide_eq_true_eq]; omega
   rw [e0,this]; rfl
  ·right
   have q:(c == 1 || c == 2 || (decide (c ≥ 3) && decide (c ≤ 18) || c == 35))=false:=by
    rw [Bool.eq_false_iff]; intro h
    simp only [Bool.or_eq_true,Bool.and_eq_true,beq_iff_eq,decide_eq_true_eq] at h; omega
   rw [e0,q]
   by_cases h2:(19 ≤ c∧c ≤ 34)∨c=36
   ·left
    refine ⟨h2,?_⟩
    have:(decide (c ≥ 19) && decide (c ≤ 34) || c == 36)=true:=by
     simp only [Bool.or_eq_true,Bool.and_eq_true,beq_iff_eq,decide_eq_true_eq]; omega
    rw [this]; rfl
   ·right
    refine ⟨by omega,?_⟩
    have:(decide (c ≥ 19) && decide (c ≤ 34) || c == 36)=false:=by
     rw [Bool.eq_false_iff]; intro h
     simp only [Bool.or_eq_true,Bool.and_eq_true,beq_iff_eq,decide_eq_true_eq] at h; omega
    rw [this]; rfl
def Ksm (c:Int):Int × Int :=
 if inB c 0 2 then (c,-1) else if inB c 3 18 then (3,c - 3) else if inB c 19 34 then (4,c - 19) else if c == 35 then (3,-1) else if c == 36 then (4,-1) else (5,-1)
theorem Ksn (c:Int):Kju c=some (Ksm c):=by
 unfold Kju Ksm
 simp only [iIn,bs]
 cases h1:inB c 0 2
 ·cases h2:inB c 3 18
  ·cases h3:inB c 19 34
   ·cases c == 35 <;> cases c == 36 <;> rfl
   ·simp only [inB,Bool.and_eq_true,decide_eq_true_eq] at h3
    simp only [Bool.false_eq_true,if_false,if_true]
    rw [Kqw (by omega) (by omega)]
  ·simp only [inB,Bool.and_eq_true,decide_eq_true_eq] at h2
   simp only [Bool.false_eq_true,if_false,if_true]
   rw [Kqw (by omega) (by omega)]
 ·rfl
theorem Kso (c:Int):(c=0∧Ksm c=(0,-1))∨(c=1∧Ksm c=(1,-1))∨(c=2∧Ksm c=(2,-1))∨((3 ≤ c∧c ≤ 18)∧Ksm c=(3,c - 3))∨(c=35∧Ksm c=(3,-1)) ∨
  ((19 ≤ c∧c ≤ 34)∧Ksm c=(4,c - 19))∨(c=36∧Ksm c=(4,-1))∨((c < 0∨36 < c)∧Ksm c=(5,-1)):=by
 have inT:∀ lo hi,lo ≤ c→c ≤ hi→inB c lo hi=true:=fun lo hi h1 h2=>by simp only [inB,Bool.and_eq_true,decide_eq_true_eq]; omega
 have inF:∀ lo hi,(c < lo∨hi < c)→inB c lo hi=false:=fun lo hi h=>by rw [Bool.eq_false_iff]; intro h'; simp only [inB,Bool.and_eq_true,decide_eq_true_eq] at h'; omega
 unfold Ksm
 by_cases h0:0 ≤ c∧c ≤ 2
 ·rw [inT 0 2 h0.1 h0.2]
  have:c=0∨c=1∨c=2:=by omega
  rcases this with rfl | rfl | rfl <;> simp
 ·rw [inF 0 2 (by omega)]
  by_cases h1:3 ≤ c∧c ≤ 18
  ·rw [inT 3 18 h1.1 h1.2]
   exact .inr (.inr (.inr (.inl ⟨h1,rfl⟩)))
  ·rw [inF 3 18 (by omega)]
   by_cases h2:19 ≤ c∧c ≤ 34
   ·rw [inT 19 34 h2.1 h2.2]
    exact .inr (.inr (.inr (.inr (.inr (.inl ⟨h2,rfl⟩)))))
   ·rw [inF 19 34 (by omega)]
    by_cases h3:c=35
    ·subst h3; simp
    ·by_cases h4:c=36
     ·subst h4; simp
     ·have e3:(c == 35)=false:=by simpa using h3
      have e4:(c == 36)=false:=by simpa using h4
      rw [e3,e4]
      refine .inr (.inr (.inr (.inr (.inr (.inr (.inr ⟨by omega,rfl⟩))))))
def skip:Nat→List Int→Option (List Int)
 | 0,l=>some l
 | _ + 1,[]=>none
 | m + 1,c :: l=>if Ksh c=-1 then none else skip (m + (Ksh c).toNat) l
theorem Ksp (l:List Int):skip 0 l=some l:=by cases l <;> rfl
theorem Ksq (m:Nat):skip (m + 1) []=none:=rfl
theorem Ksr (m:Nat) (c:Int) (l:List Int):skip (m + 1) (c :: l)=if Ksh c=-1 then none else skip (m + (Ksh c).toNat) l:=rfl
theorem Kss (l:List Int):∀ (m k:Nat),skip (m + k) l=(skip m l).bind (skip k):=by
 induction l with
 | nil =>
  intro m k
  cases m with
  | zero=>rw [Nat.zero_add,Ksp]; rfl
  | succ m=>rw [show m + 1 + k=(m + k) + 1 by omega,Ksq,Ksq]; rfl
 | cons c l ih =>
  intro m k
  cases m with
  | zero=>rw [Nat.zero_add,Ksp]; rfl
  | succ m =>
   rw [show m + 1 + k=(m + k) + 1 by omega,Ksr,Ksr]
   by_cases h:Ksh c=-1
   ·rw [if_pos h,if_pos h]; rfl
   ·rw [if_neg h,if_neg h,← ih]; congr 1; omega
theorem Kst (l:List Int):∀ (m:Nat) (r:List Int),skip m l=some r→∃ p,l=p ++ r∧m ≤ p.length:=by
 induction l with
 | nil =>
  intro m r h
  cases m with
  | zero=>rw [Ksp] at h; cases h; exact ⟨[],rfl,Nat.le_refl _⟩
  | succ m=>rw [Ksq] at h; cases h
 | cons c l ih =>
  intro m r h
  cases m with
  | zero=>rw [Ksp] at h; cases h; exact ⟨[],rfl,Nat.le_refl _⟩
  | succ m =>
   rw [Ksr] at h
   by_cases hk:Ksh c=-1
   ·rw [if_pos hk] at h; cases h
   ·rw [if_neg hk] at h
    obtain ⟨p,e,hp⟩:=ih _ _ h
    exact ⟨c :: p,by rw [e]; rfl,by simp; omega⟩
def Ksu (ty:List Int) (m i:Nat):Int:=match skip m (ty.drop i) with | some r=>((ty.length - r.length:Nat):Int) | none=>-1
theorem Ksv (ty:List Int) (hty:ty.length ≤ 1099511627776):∀ (l:List Int) (i m:Nat),ty.drop i=l→m ≤ 1099511627776 + 2 * i→∃ x,Kdh (ty,((m + 1:Nat):Int),(i:Int))=some x∧(match x with | .inl ()=>-1 | .inr r=>r)=Ksu ty (m + 1) i:=by
 intro l
 induction l with
 | nil =>
  intro i m hl hm
  rw [Kdh.eq_def]
  simp only
  rw [Kr0 (Kse hl)]
  exact ⟨.inl (),rfl,by unfold Ksu; rw [hl,Ksq]⟩
 | cons c l ih =>
  intro i m hl hm
  obtain ⟨hi,hx,hd⟩:=Ksd hl
  have hi2:(i:Int) < 1099511627776:=by omega
  rw [Kdh.eq_def]
  simp only
  rw [Kqz hi,if_pos rfl,hx,bs,Ksk,bs]
  have he:Ksu ty (m + 1) i=(match (if Ksh c=-1 then none else skip (m + (Ksh c).toNat) l) with | some r=>((ty.length - r.length:Nat):Int) | none=>-1):=by
   unfold Ksu; rw [hl,Ksr]
  rw [he]
  by_cases hk:Ksh c=-1
  ·rw [if_pos hk,hk]
   exact ⟨.inr (-1),rfl,rfl⟩
  ·rw [if_neg hk]
   have hk0:0 ≤ Ksh c∧Ksh c ≤ 2:=by rcases Ksl c with h | h | h | h <;> omega
   obtain ⟨k,hkk⟩:∃ k:Nat,Ksh c=(k:Int):=⟨(Ksh c).toNat,by omega⟩
   rw [decide_eq_false (by omega),if_neg (by decide),hkk,Int.toNat_natCast]
   rw [Kqw (x:=((m + 1:Nat):Int) - 1) (by omega) (by omega),show ((m + 1:Nat):Int) - 1=(m:Int) by omega,Kqw (x:=(m:Int) + (k:Int)) (by omega) (by omega),Kqy (by omega)]
   by_cases h0:m + k=0
   ·rw [show ((m:Int) + (k:Int) == 0)=true by simp; omega,if_pos rfl,h0,Ksp]
    refine ⟨_,rfl,?_⟩
    have:l.length=ty.length - (i + 1):=by rw [← hd,List.length_drop]
    simp only
    omega
   ·rw [show ((m:Int) + (k:Int) == 0)=false by simp; omega,if_neg (by decide)]
    obtain ⟨q,hq⟩:∃ q,m + k=q + 1:=⟨m + k - 1,by omega⟩
    have:=ih (i + 1) q hd (by omega)
    rw [show (m:Int) + (k:Int)=((q + 1:Nat):Int) by omega]
    obtain ⟨x,h1,h2⟩:=this
    exact ⟨x,h1,by rw [h2,hq]; unfold Ksu; rw [hd]⟩
theorem Ksw (ty:List Int) (hty:ty.length ≤ 1099511627776) (i:Nat) (hi:i ≤ ty.length):Kdk (ty,(i:Int))=some (Ksu ty 1 i):=by
 unfold Kdk
 obtain ⟨x,h1,h2⟩:=Ksv ty hty _ i 0 rfl (by omega)
 simp only
 rw [show (1:Int)=((0 + 1:Nat):Int) from rfl,h1,bs]
 rw [← h2]
 cases x <;> rfl
theorem Ksx (ty:List Int) (i:Nat) (hi:i ≤ ty.length):Ksu ty 2 i=(if Ksu ty 1 i=-1 then -1 else Ksu ty 1 (Ksu ty 1 i).toNat):=by
 unfold Ksu
 rw [show 2=1 + 1 from rfl,Kss]
 cases h:skip 1 (ty.drop i) with
 | none=>simp
 | some r =>
  obtain ⟨p,hp,hl⟩:=Kst _ _ _ h
  have hlen:ty.length - i=p.length + r.length:=by rw [← List.length_drop,hp,List.length_append]
  have:ty.drop (ty.length - r.length)=r:=by
   have e:ty.drop (ty.length - r.length)=(ty.drop i).drop p.length:=by rw [List.drop_drop]; congr 1; omega
   rw [e,hp,List.drop_left]
  simp only [Option.bind_some]
  rw [if_neg (by omega),Int.toNat_natCast,this]
theorem Ksy (ty:List Int) (hty:ty.length ≤ 1099511627776):∀ (d i:Nat),ty.length - i=d→Kjx (ty,(i:Int))=some (Ksu ty 1 i):=by
 intro d
 induction d using Nat.strongRecOn with
 | ind d ih =>
  intro i hd
  rw [Kjx.eq_def]
  simp only
  rw [decide_eq_false (by omega:¬ (i:Int) < 0)]
  simp only [Bool.false_eq_true,if_false,bs]
  by_cases hi:i < ty.length
  ·rw [decide_eq_false (by omega),if_neg (by decide),Kqx hi,bs,Ksn,bs]
   have hdr:=List.drop_eq_getElem_cons hi
   have he:∀ k:Nat,Ksh ty[i]=(k:Int)→Ksu ty 1 i=Ksu ty k (i + 1):=fun k hk=>by
    unfold Ksu
    rw [hdr,show 1=0 + 1 from rfl,Ksr,hk,if_neg (by omega),Int.toNat_natCast,Nat.zero_add]
   have hn:Ksh ty[i]=-1→Ksu ty 1 i=-1:=fun hk=>by
    unfold Ksu
    rw [hdr,show 1=0 + 1 from rfl,Ksr,if_pos hk]
   have i1:=ih (ty.length - (i + 1)) (by omega) (i + 1) rfl
   have hz:∀ i:Nat,i ≤ ty.length→Ksu ty 0 i=(i:Int):=fun i hi=>by unfold Ksu; rw [Ksp]; simp only [List.length_drop]; omega
   rw [Kqy (by omega)]
   have two:Ksh ty[i]=2→((Kjx (ty,((i + 1:Nat):Int))) >>= fun r_11_4=>(Kjx (ty,r_11_4)) >>= fun r_11_5=>some r_11_5)=some (Ksu ty 1 i):=fun hk=>by
    rw [i1,bs,he 2 hk,Ksx ty (i + 1) (by omega)]
    by_cases h1:Ksu ty 1 (i + 1)=-1
    ·rw [h1,if_pos rfl,Kjx.eq_def]; rfl
    ·rw [if_neg h1]
     obtain ⟨e,hee,hlo⟩:∃ e:Nat,Ksu ty 1 (i + 1)=(e:Int)∧i + 1 < e:=by
      unfold Ksu at h1 ⊢
      cases hs:skip 1 (ty.drop (i + 1)) with
      | none=>rw [hs] at h1; exact absurd rfl h1
      | some r =>
       obtain ⟨p,hp,hl⟩:=Kst _ _ _ hs
       have hlen:ty.length - (i + 1)=p.length + r.length:=by rw [← List.length_drop,hp,List.length_append]
       exact ⟨_,rfl,by omega⟩
     rw [hee,Int.toNat_natCast,ih (ty.length - e) (by omega) e rfl,bs]
   rcases Kso ty[i] with ⟨h,e⟩ | ⟨h,e⟩ | ⟨h,e⟩ | ⟨h,e⟩ | ⟨h,e⟩ | ⟨h,e⟩ | ⟨h,e⟩ | ⟨h,e⟩ <;> rw [e] <;> simp only []
   ·have hk:Ksh ty[i]=0:=by rcases Ksl ty[i] with h | h | h | h <;> omega
    rw [if_pos (by rfl),he 0 hk,hz _ (by omega)]
   ·have hk:Ksh ty[i]=2:=by rcases Ksl ty[i] with h | h | h | h <;> omega
    exact two hk
   ·have hk:Ksh ty[i]=2:=by rcases Ksl ty[i] with h | h | h | h <;> omega
    exact two hk
   ·have hk:Ksh ty[i]=2:=by rcases Ksl ty[i] with h | h | h | h <;> omega
    exact two hk
   ·have hk:Ksh ty[i]=2:=by rcases Ksl ty[i] with h | h | h | h <;> omega
    exact two hk
   ·have hk:Ksh ty[i]=1:=by rcases Ksl ty[i] with h | h | h | h <;> omega
    rw [he 1 hk,if_neg (by decide),if_pos (by rfl),i1,bs]
   ·have hk:Ksh ty[i]=1:=by rcases Ksl ty[i] with h | h | h | h <;> omega
    rw [he 1 hk,if_neg (by decide),if_pos (by rfl),i1,bs]
   ·have hk:Ksh ty[i]=-1:=by rcases Ksl ty[i] with h | h | h | h <;> omega
    rw [hn hk]; rfl
  ·rw [decide_eq_true (by omega),if_pos rfl]
   unfold Ksu
   rw [List.drop_eq_nil_of_le (by omega),Ksq]
def wtB (ty:List Int):Bool:=decide (ty.length ≤ 40) && (skip 1 ty == some [])
theorem Ksz (ty:List Int):(Ksu ty 1 0 == (ty.length:Int))=(skip 1 ty == some []):=by
 unfold Ksu
 rw [List.drop_zero]
 cases h:skip 1 ty with
 | none=>simp
 | some r =>
  obtain ⟨p,hp,hl⟩:=Kst _ _ _ h
  have hlen:ty.length=p.length + r.length:=by rw [hp,List.length_append]
  cases r with
  | nil=>simp
  | cons x xs =>
   simp only [List.length_cons] at hlen ⊢
   simp
   omega
theorem Kt0 (ty:List Int) (hty:ty.length ≤ 1099511627776):Kdn ty=some (wtB ty):=by
 unfold Kdn wtB
 by_cases h:ty.length ≤ 40
 ·rw [decide_eq_true (by omega:(ty.length:Int) ≤ 40),if_pos rfl,show (0:Int)=((0:Nat):Int) from rfl,Ksw ty hty 0 (by omega),bs,Ksz,decide_eq_true h]
  cases hs:skip 1 ty == some [] with
  | false=>rfl
  | true =>
   have:0 < ty.length:=by
    rcases ty with _ | ⟨c,l⟩
    ·rw [show skip 1 []=none from rfl] at hs; cases hs
    ·simp
   rw [if_pos rfl,decide_eq_true (by omega:(ty.length:Int) > ((0:Nat):Int))]; rfl
 ·rw [decide_eq_false (by omega:¬ (ty.length:Int) ≤ 40),decide_eq_false h]; rfl
theorem Kt1 (ty:List Int) (hty:ty.length ≤ 1099511627776):Kk0 ty=some (wtB ty):=by
 unfold Kk0 wtB
 rw [iIn,bs]
 by_cases h:ty.length ≤ 40
 ·rw [decide_eq_true h]
  by_cases h1:1 ≤ ty.length
  ·have:inB (ty.length:Int) 1 40=true:=by simp only [inB,Bool.and_eq_true,decide_eq_true_eq]; omega
   rw [this,if_pos rfl,show (0:Int)=((0:Nat):Int) from rfl,Ksy ty hty _ 0 rfl,bs,Ksz]; rfl
  ·have:inB (ty.length:Int) 1 40=false:=by rw [Bool.eq_false_iff]; intro h'; simp only [inB,Bool.and_eq_true,decide_eq_true_eq] at h'; omega
   have e:ty=[]:=List.length_eq_zero_iff.1 (by omega)
   rw [this,e]; rfl
 ·have:inB (ty.length:Int) 1 40=false:=by rw [Bool.eq_false_iff]; intro h'; simp only [inB,Bool.and_eq_true,decide_eq_true_eq] at h'; omega
  rw [this,decide_eq_false h]; rfl
def Kt2 (c:Int):Int:=if 35 ≤ c then -1 else if 19 ≤ c then c - 19 else c - 3
def Kt3 (size:Int) (closed:Bool) (c:Int):Bool:=!(decide (Ksh c > 0) && decide (c > 2) && (decide (Kt2 c ≥ size) || closed && decide (Kt2 c < 0)))
theorem Kt4 {c:Int} (h:Ksh c > 0):Kdq c=some (Kt2 c):=by
 have:0 ≤ c∧c ≤ 36:=by rcases Ksl c with h | h | h | h <;> omega
 unfold Kdq Kt2
 by_cases h1:35 ≤ c
 ·rw [decide_eq_true (by omega:c ≥ 35),if_pos rfl,if_pos h1]
 ·rw [decide_eq_false (by omega:¬ c ≥ 35),if_neg (by decide),if_neg h1]
  by_cases h2:19 ≤ c
  ·rw [decide_eq_true (by omega:c ≥ 19),if_pos rfl,if_pos h2,Kqw (by omega) (by omega)]
  ·rw [decide_eq_false (by omega:¬ c ≥ 19),if_neg (by decide),if_neg h2,Kqw (by omega) (by omega)]
theorem Kt5 (ty:List Int) (hty:ty.length ≤ 1099511627776) (size:Int) (cl:Bool):∀ (l:List Int) (i:Nat),ty.drop i=l→Kdv (ty,size,cl,(i:Int))=some (if l.all (Kt3 size cl) then .inl () else .inr false):=by
 intro l
 induction l with
 | nil =>
  intro i hl
  rw [Kdv.eq_def]
  simp only
  rw [Kr0 (Kse hl)]; rfl
 | cons c l ih =>
  intro i hl
  obtain ⟨hi,hx,hd⟩:=Ksd hl
  rw [Kdv.eq_def]
  simp only
  rw [Kqz hi,if_pos rfl,hx,bs,bs,Ksk,bs,Kqy (by omega)]
  have ih:=ih (i + 1) hd
  generalize ((i + 1:Nat):Int)=M at ih ⊢
  rw [List.all_cons]
  unfold Kt3 at ih ⊢
  by_cases hk:Ksh c > 0
  ·simp only [bs,Kt4 hk]
   rw [decide_eq_true hk]
   generalize Kt2 c=g at ih ⊢
   cases decide (c > 2) <;> cases decide (g ≥ size) <;> cases cl <;> cases decide (g < 0) <;> simp [bs,ih]
  ·rw [decide_eq_false hk]; simp [bs,ih]
theorem Kt6 (ty:List Int) (hty:ty.length ≤ 1099511627776) (size:Int) (cl:Bool):Kdy (ty,size,cl)=some (ty.all (Kt3 size cl)):=by
 unfold Kdy
 simp only
 rw [show (0:Int)=((0:Nat):Int) from rfl,Kt5 ty hty size cl _ 0 rfl,List.drop_zero,bs]
 cases ty.all (Kt3 size cl) <;> rfl
theorem Kt7 {α β:Type} {a:Option α} {f:α→Option β} {x:α} (h:a=some x):(a >>= f)=f x:=by rw [h]; rfl
mutual
def tsz:K01→Nat
 | ⟨_,_,_,ks⟩=>1 + Kt8 ks
def Kt8:List K01→Nat
 | []=>0
 | k :: ks=>tsz k + Kt8 ks
end
mutual
def tms:K01→Nat
 | ⟨_,_,ty,ks⟩=>ty.length + ks.length + Kt9 ks
def Kt9:List K01→Nat
 | []=>0
 | k :: ks=>tms k + Kt9 ks
end
theorem Kta (t:K01):tms t=t.fType.length + t.fKids.length + Kt9 t.fKids:=by cases t; rw [tms]
def Ktb (left n:Nat):Int:=if n ≤ left then ((left - n:Nat):Int) else -1
theorem Ktc {left n:Nat} (h:n ≤ left):Ktb left n=((left - n:Nat):Int):=if_pos h
theorem Ktd {left n:Nat} (h:¬ n ≤ left):Ktb left n=-1:=if_neg h
theorem Kte (t:K01) (i:Int):Ke7 (t,-1,i)=some (-1):=by
 rw [Ke7.eq_def]
 simp only
 cases decide (i < (t.fKids.length:Int)) <;> rfl
mutual
theorem Ktf:∀ (t:K01) (left:Nat),tms t ≤ 1099511627776→left ≤ 1048576→Ke6 (t,(left:Int))=some (Ktb left (tsz t))
 | ⟨op,N,ty,ks⟩,left,ht,hl=>by
  rw [tms] at ht
  rw [Ke6.eq_def,tsz]
  simp only
  rcases left with _ | l
  ·rw [show wr (((0:Nat):Int) - 1)=-1 from Kqw (by omega) (by omega),Kte,bs,Ktd (by omega)]
  ·have h:=Ktg ks ⟨op,N,ty,ks⟩ 0 l rfl (by simp only; omega) (by omega) (by omega)
   rw [Kqw (by omega) (by omega),show ((l + 1:Nat):Int) - 1=(l:Int) by omega,show (0:Int)=((0:Nat):Int) from rfl,h,bs]
   unfold Ktb
   by_cases q:Kt8 ks ≤ l
   ·rw [if_pos q,if_pos (by omega),show l + 1 - (1 + Kt8 ks)=l - Kt8 ks by omega]
   ·rw [if_neg q,if_neg (by omega)]
theorem Ktg:∀ (ks:List K01) (t:K01) (i left:Nat),t.fKids.drop i=ks→t.fKids.length ≤ 1099511627776→Kt9 ks ≤ 1099511627776→left ≤ 1048576→Ke7 (t,(left:Int),(i:Int))=some (Ktb left (Kt8 ks))
 | [],t,i,left,hd,hk,ht,hl=>by
  rw [Ke7.eq_def,Kt8]
  simp only
  rw [Kr0 (Kse hd)]
  simp [bs,Ktb]
 | k :: ks,t,i,left,hd,hk,ht,hl=>by
  obtain ⟨hi,hx,hd'⟩:=Ksd hd
  rw [Kt9] at ht
  rw [Ke7.eq_def,Kt8]
  simp only
  rw [Kqz hi,if_pos rfl,bs,decide_eq_true (by omega:((left:Nat):Int) ≥ 0),if_pos rfl,hx,bs,Ktf k left (by omega) hl,bs,Kqy (by omega)]
  by_cases q:tsz k ≤ left
  ·rw [Ktc q,Ktg ks t (i + 1) (left - tsz k) hd' hk (by omega) (by omega)]
   unfold Ktb
   by_cases q2:Kt8 ks ≤ left - tsz k
   ·rw [if_pos q2,if_pos (by omega)]; congr 2; omega
   ·rw [if_neg q2,if_neg (by omega)]
  ·rw [Ktd q,Kte,Ktd (by omega)]
end
def Kth (op:Int):Int:=if inB op 0 12 then ([0,0,2,3,2,2,1,1,3,1,2,1,2]:List Int).getD op.toNat 0 else -1
def Kti (op:Int):Bool:=op == 5 || op == 8 || op == 9 || op == 11 || op == 12
def Ktj (op:Int):Bool:=op == 6 || op == 7 || op == 9
def Ktk (op:Int):ByteArray:=([ByteArray.mk #[120],ByteArray.empty,ByteArray.mk #[97,100,100],ByteArray.mk #[105,102],ByteArray.mk #[112,97,105,114],ByteArray.mk #[115,112,108,105,116],ByteArray.mk #[108,101,102,116],
 ByteArray.mk #[114,105,103,104,116],ByteArray.mk #[99,97,115,101],ByteArray.mk #[102,117,110],ByteArray.mk #[97,112,112],ByteArray.mk #[98,111,120],ByteArray.mk #[111,112,101,110]]:List ByteArray).getD op.toNat ByteArray.empty
theorem Ktl {op:Int} (h:inB op 0 12=true):op=0∨op=1∨op=2∨op=3∨op=4∨op=5∨op=6∨op=7∨op=8∨op=9∨op=10∨op=11∨op=12:=by
 simp only [inB,Bool.and_eq_true,decide_eq_true_eq] at h
 omega
theorem Ktm (op:Int):Ked op=some (Kth op):=by
 unfold Ked Kth
 rw [sIn,bs]
 cases h:inB op 0 12
 ·rfl
 ·rcases Ktl h with rfl | rfl | rfl | rfl | rfl | rfl | rfl | rfl | rfl | rfl | rfl | rfl | rfl <;> rfl
theorem Ktn (op:Int):Keg op=some (Kti op):=by
 unfold Keg Kti
 cases op == 5 <;> cases op == 8 <;> cases op == 9 <;> cases op == 11 <;> rfl
theorem Kto (op:Int):Kej op=some (Ktj op):=by
 unfold Kej Ktj
 cases op == 6 <;> cases op == 7 <;> rfl
def Ktp (op:Int):K04 × Bool:=if inB op 0 12 then (K04.mk (Ktk op) (Kth op) (Kti op) (Ktj op),true) else (K04.mk ByteArray.empty 0 false false,false)
theorem Ktq (op:Int):Kka op=some (Ktp op):=by
 unfold Kka Ktp
 rw [iIn,bs]
 cases h:inB op 0 12
 ·rfl
 ·rcases Ktl h with rfl | rfl | rfl | rfl | rfl | rfl | rfl | rfl | rfl | rfl | rfl | rfl | rfl <;> rfl
def Ktr (op kid:Int):Nat:=if op == 5 && kid == 1 then 2 else if (op == 8 && decide (kid > 0)) || op == 9 || (op == 12 && kid == 1) then 1 else 0
theorem Kts (op kid:Int):Ktr op kid ≤ 2:=by unfold Ktr; split <;> (try split) <;> omega
theorem Ktt (op kid:Int):Kes (op,kid)=some ((Ktr op kid:Nat):Int):=by
 unfold Kes Ktr
 simp only
 generalize (op == 5)=b1
 generalize (op == 8)=b2
 generalize (op == 9)=b3
 generalize (op == 12)=b4
 generalize (kid == 1)=b5
 generalize decide (kid > 0)=b6
 cases b1 <;> cases b2 <;> cases b3 <;> cases b4 <;> cases b5 <;> cases b6 <;> rfl
theorem Ktu (op kid:Int):Kkg (op,kid)=some ((Ktr op kid:Nat):Int):=by
 unfold Kkg Ktr
 simp only
 generalize (op == 5)=b1
 generalize (op == 8)=b2
 generalize (op == 9)=b3
 generalize (op == 12)=b4
 generalize (kid == 1)=b5
 generalize decide (kid > 0)=b6
 cases b1 <;> cases b2 <;> cases b3 <;> cases b4 <;> cases b5 <;> cases b6 <;> rfl
def Ktv (g:Int→Bool) (n:Int) (t:K01):Bool:=if t.fOp == 0 then inB t.fN 0 (n - 1) else if t.fOp == 1 then inB t.fN 0 2 else if Kti t.fOp then g t.fN else t.fN == 0
def Ktw (y:List Int→Bool) (t:K01):Bool:=if Ktj t.fOp then y t.fType else (t.fType.length:Int) == 0
def Ktx (g:Int→Bool) (y:List Int→Bool) (n:Int) (t:K01):Bool:=inB t.fOp 0 12 && ((t.fKids.length:Int) == Kth t.fOp) && Ktv g n t && Ktw y t
mutual
def tOk (g:Int→Bool) (y:List Int→Bool):Nat→K01→Bool
 | n,⟨op,N,ty,ks⟩=>Ktx g y (n:Int) ⟨op,N,ty,ks⟩ && Kty g y op n 0 ks
def Kty (g:Int→Bool) (y:List Int→Bool):Int→Nat→Nat→List K01→Bool
 | _,_,_,[]=>true
 | op,n,i,k :: ks=>tOk g y (n + Ktr op (i:Int)) k && Kty g y op n (i + 1) ks
end
theorem Ktz (g:Int→Bool) (y:List Int→Bool) (n:Nat) (t:K01):tOk g y n t=(Ktx g y (n:Int) t && Kty g y t.fOp n 0 t.fKids):=by cases t; rw [tOk]
def gN (size:Int) (cl:Bool) (x:Int):Bool:=!(decide (x ≥ size) || decide (x < -1) || cl && decide (x < 0))
def yN (size:Int) (cl:Bool) (ty:List Int):Bool:=wtB ty && ty.all (Kt3 size cl)
theorem Ku0 (t:K01) (n:Nat) (size:Int) (cl:Bool) (hty:t.fType.length ≤ 1099511627776) (hn:n ≤ 35184372088832):Kep (t,(n:Int),size,cl)=some (Ktx (gN size cl) (yN size cl) (n:Int) t):=by
 unfold Kep Ktx
 simp only
 rw [Ktm,bs]
 by_cases hk:(t.fKids.length:Int)=Kth t.fOp
 ·have hop:inB t.fOp 0 12=true:=by
   cases h:inB t.fOp 0 12
   ·unfold Kth at hk; rw [h] at hk; simp at hk
   ·rfl
  rw [show ((t.fKids.length:Int) != Kth t.fOp)=false by rw [hk]; exact Kr6,if_neg (by decide),show ((t.fKids.length:Int) == Kth t.fOp)=true by rw [hk]; simp,hop]
  refine (Kt7 (x:=if Ktv (gN size cl) (n:Int) t then .inl () else .inr false) ?_).trans ?_
  ·unfold Ktv gN
   rw [sIn,Kqw (by omega) (by omega),sIn,Ktn]
   simp only [bs]
   generalize inB t.fN 0 ((n:Int) - 1)=b1
   generalize inB t.fN 0 2=b2
   generalize Kti t.fOp=b3
   rw [show (t.fN != 0)=!(t.fN == 0) from rfl]
   generalize (t.fN == 0)=b4
   generalize decide (t.fN ≥ size)=b5
   generalize decide (t.fN < -1)=b6
   generalize decide (t.fN < 0)=b7
   generalize (t.fOp == 0)=b8
   generalize (t.fOp == 1)=b9
   cases b8
   ·cases b9
    ·cases b3
     ·cases b4 <;> rfl
     ·cases b5 <;> cases b6 <;> cases cl <;> cases b7 <;> rfl
    ·cases b2 <;> rfl
   ·cases b1 <;> rfl
  ·cases Ktv (gN size cl) (n:Int) t
   ·simp
   ·unfold Ktw yN
    simp only [if_true]
    rw [Kto,bs]
    cases Ktj t.fOp
    ·simp
    ·simp only [if_true]
     rw [Kt0 _ hty,Kt6 _ hty]
     cases wtB t.fType <;> simp [bs]
 ·rw [show ((t.fKids.length:Int) != Kth t.fOp)=true by simpa using hk,if_pos rfl,show ((t.fKids.length:Int) == Kth t.fOp)=false by simpa using hk]
  simp
mutual
theorem Ku1 (size:Int) (cl:Bool):∀ (t:K01) (n:Nat),tms t ≤ 1099511627776→n + 2 * tms t ≤ 35184372088832→Kew (t,(n:Int),size,cl)=some (tOk (gN size cl) (yN size cl) n t)
 | ⟨op,N,ty,ks⟩,n,ht,hn=>by
  rw [tms] at ht hn
  rw [Kew.eq_def,tOk]
  simp only
  rw [Ku0 _ n size cl (by simp only; omega) (by omega),bs]
  cases hb:Ktx (gN size cl) (yN size cl) (n:Int) ⟨op,N,ty,ks⟩
  ·rfl
  ·have h:=Ku2 size cl ks ⟨op,N,ty,ks⟩ n 0 rfl (by simp only; omega) (by omega) (by omega)
   rw [if_pos rfl,show (0:Int)=((0:Nat):Int) from rfl,h,bs]
   simp only
   cases Kty (gN size cl) (yN size cl) op n 0 ks <;> rfl
theorem Ku2 (size:Int) (cl:Bool):∀ (ks:List K01) (t:K01) (n i:Nat),t.fKids.drop i=ks→t.fKids.length ≤ 1099511627776→Kt9 ks ≤ 1099511627776→n + 2 * (ks.length + Kt9 ks) ≤ 35184372088832 →
  Kex (t,(n:Int),size,cl,(i:Int))=some (if Kty (gN size cl) (yN size cl) t.fOp n i ks then .inl () else .inr false)
 | [],t,n,i,hd,hk,ht,hn=>by
  rw [Kex.eq_def,Kty]
  simp only
  rw [Kr0 (Kse hd)]; rfl
 | k :: ks,t,n,i,hd,hk,ht,hn=>by
  obtain ⟨hi,hx,hd'⟩:=Ksd hd
  rw [Kt9] at ht hn
  rw [List.length_cons] at hn
  have ha:=Kts t.fOp (i:Int)
  rw [Kex.eq_def,Kty]
  simp only
  rw [Kqz hi,if_pos rfl,hx,bs,Ktt,bs,Kqw (by omega) (by omega),show (n:Int) + ((Ktr t.fOp (i:Int):Nat):Int)=((n + Ktr t.fOp (i:Int):Nat):Int) by omega]
  rw [Ku1 size cl k (n + Ktr t.fOp (i:Int)) (by omega) (by omega),bs,Kqy (by omega)]
  cases tOk (gN size cl) (yN size cl) (n + Ktr t.fOp (i:Int)) k
  ·rfl
  ·rw [if_pos rfl,Ku2 size cl ks t n (i + 1) hd' hk (by omega) (by omega),Bool.true_and]
end
def Ku3 (ok:Bool) (nodes sz:Nat):Int:=if ok && decide (nodes + sz ≤ 400) then ((nodes + sz:Nat):Int) else 401
def szB (left:Int) (n:Nat):Int:=if left - (n:Int) < 0 then -1 else left - (n:Int)
theorem Ku4 (left:Int) (n:Nat):(szB left n=-1∧left < n)∨(szB left n=left - n∧(n:Int) ≤ left):=by
 unfold szB
 by_cases h:left - (n:Int) < 0
 ·rw [if_pos h]; left; omega
 ·rw [if_neg h]; right; omega
theorem Ku5 (a:List Int) (left:Int) (h1:0 ≤ left) (h2:left ≤ 1048576) (ha:a.length ≤ 9223372036854775807):K9a (a,left)=some (szB left a.length):=by
 unfold K9a szB
 simp only
 rw [Kqw (by omega) (by omega)]
 by_cases h:left - (a.length:Int) < 0
 ·rw [decide_eq_true h,if_pos rfl,if_pos h]
 ·rw [decide_eq_false h,if_neg (by decide),if_neg h]
mutual
def tln:K01→Prop
 | ⟨_,N,ty,ks⟩=>ty.length ≤ 9223372036854775807∧ks.length ≤ 9223372036854775807∧Ku6 ks∧(-9223372036854775808 ≤ N∧N ≤ 9223372036854775807)
def Ku6:List K01→Prop
 | []=>True
 | k :: ks=>tln k∧Ku6 ks
end
mutual
theorem Ku7:∀ (t:K01) (left:Int),tln t→0 ≤ left→left ≤ 1048576→K9r (t,left)=some (szB left (tms t))
 | ⟨op,N,ty,ks⟩,left,hl,h1,h2=>by
  rw [tln] at hl
  rw [K9r.eq_def,tms]
  simp only
  rw [Ku5 ty left h1 h2 hl.1,bs]
  rcases Ku4 left ty.length with ⟨e,h⟩ | ⟨e,h⟩
  ·rw [e,decide_eq_true (by decide),if_pos rfl]
   unfold szB; rw [if_pos (by omega)]
  ·rw [e,decide_eq_false (by omega),if_neg (by decide),K9s.eq_def]
   simp only
   rw [Kqw (by omega) (by omega)]
   by_cases h3:left - (ty.length:Int) - (ks.length:Int) < 0
   ·rw [decide_eq_true h3,if_pos rfl,bs,decide_eq_true (by decide),if_pos rfl]
    unfold szB; rw [if_pos (by omega)]
   ·obtain ⟨m,hm⟩:∃ m:Nat,left - (ty.length:Int) - (ks.length:Int)=(m:Int):=⟨(left - (ty.length:Int) - (ks.length:Int)).toNat,by omega⟩
    rw [decide_eq_false h3,if_neg (by decide),hm,show (0:Int)=((0:Nat):Int) from rfl,Ku8 ks ks 0 m rfl hl.2.1 hl.2.2.1 (by omega),bs]
    unfold szB
    by_cases q:m < Kt9 ks
    ·rw [if_pos q,if_pos (by omega)]; rfl
    ·rw [if_neg q,if_neg (by omega)]
     simp only [bs]
     rw [decide_eq_false (by omega),if_neg (by decide)]; congr 1; omega
theorem Ku8:∀ (ks a:List K01) (i left:Nat),a.drop i=ks→a.length ≤ 9223372036854775807→Ku6 ks→left ≤ 1048576→K9t (a,(left:Int),(i:Int))=some (if left < Kt9 ks then .inr (-1) else .inl ((left - Kt9 ks:Nat):Int))
 | [],a,i,left,hd,ha,hl,h=>by
  rw [K9t.eq_def,Kt9]
  simp only
  rw [Kr0 (Kse hd)]
  simp
 | k :: ks,a,i,left,hd,ha,hl,h=>by
  obtain ⟨hi,hx,hd'⟩:=Ksd hd
  rw [Ku6] at hl
  rw [K9t.eq_def,Kt9]
  simp only
  rw [Kqz hi,if_pos rfl,hx,bs,Ku7 k left hl.1 (by omega) (by omega),bs,Kqy (by omega)]
  rcases Ku4 left (tms k) with ⟨e,q⟩ | ⟨e,q⟩
  ·rw [e,decide_eq_true (by decide),if_pos rfl,if_pos (by omega)]
  ·rw [e,decide_eq_false (by omega),if_neg (by decide),show (left:Int) - ((tms k:Nat):Int)=((left - tms k:Nat):Int) by omega,Ku8 ks a (i + 1) (left - tms k) hd' ha hl.2 (by omega)]
   by_cases q2:left - tms k < Kt9 ks
   ·rw [if_pos q2,if_pos (by omega)]
   ·rw [if_neg q2,if_neg (by omega)]; congr 3; omega
end
mutual
theorem Ku9:∀ (t:K01),tms t ≤ 1099511627776→Kb0 t=some t
 | ⟨op,N,ty,ks⟩,h=>by
  rw [tms] at h
  rw [Kb0.eq_def]
  simp only
  rw [Kr3 ty (by omega),bs,Kb1.eq_def]
  have:chk (0 ≤ (ks.length:Int)∧(Int.toNat (ks.length:Int)) * 64 ≤ 140737488355328)=some ():=by
   unfold chk; rw [if_pos]; refine ⟨by omega,?_⟩; rw [Int.toNat_natCast]; omega
  rw [this,bs,Int.toNat_natCast,show (0:Int)=((0:Nat):Int) from rfl,Kua ks ks (List.replicate ks.length (K01.mk ((0:Nat):Int) ((0:Nat):Int) [] [])) 0 rfl (by omega) (by omega) (by simp) rfl]
  rfl
theorem Kua:∀ (ks a out:List K01) (i:Nat),a.drop i=ks→a.length ≤ 1099511627776→Kt9 ks ≤ 1099511627776→out.length=a.length→out.take i=a.take i→Kb2 (a,out,(i:Int))=some a
 | [],a,out,i,hd,ha,hl,ho,ht=>by
  rw [Kb2.eq_def]
  simp only
  have hle:=Kse hd
  rw [Kr0 hle]
  rw [List.take_of_length_le (by omega),List.take_of_length_le (by omega)] at ht
  simp [ht]
 | k :: ks,a,out,i,hd,ha,hl,ho,ht=>by
  obtain ⟨hi,hx,hd'⟩:=Ksd hd
  have hk:a[i]=k:=by rw [Kqx hi] at hx; exact Option.some.inj hx
  rw [Kt9] at hl
  rw [Kb2.eq_def]
  simp only
  rw [Kqz hi,if_pos rfl,hx,bs,Ku9 k (by omega),bs,Kqx (by omega),bs,Kqy (by omega),Int.toNat_natCast]
  exact Kua ks a _ (i + 1) hd' ha (by omega) (by simpa using ho) (by rw [← hk]; exact Kr1 ho hi ht)
end
mutual
theorem Kub:∀ (t:K01),tms t ≤ 1099511627776→Kq9 (t,t)=some true
 | ⟨op,N,ty,ks⟩,h=>by
  rw [tms] at h
  rw [Kq9.eq_def]
  simp only
  rw [Kr6,if_neg (by decide),Kr6,if_neg (by decide),Kr8 ty (by omega),bs,if_pos rfl,Kqa.eq_def]
  simp only
  rw [Kr6,if_neg (by decide),show (0:Int)=((0:Nat):Int) from rfl,Kuc ks ks 0 rfl (by omega) (by omega)]
  rfl
theorem Kuc:∀ (ks a:List K01) (i:Nat),a.drop i=ks→a.length ≤ 1099511627776→Kt9 ks ≤ 1099511627776→Kqb (a,a,(i:Int))=some (.inl ())
 | [],a,i,hd,ha,hl=>by
  rw [Kqb.eq_def]
  simp only
  rw [Kr0 (Kse hd)]
  rfl
 | k :: ks,a,i,hd,ha,hl=>by
  obtain ⟨hi,hx,hd'⟩:=Ksd hd
  rw [Kt9] at hl
  rw [Kqb.eq_def]
  simp only
  rw [Kqz hi,if_pos rfl,hx,bs,bs,Kub k (by omega),bs,if_pos rfl,Kqy (by omega)]
  exact Kuc ks a (i + 1) hd' ha (by omega)
end
theorem Kud {ty:List Int} (h:wtB ty=true):ty.length ≤ 40:=by
 unfold wtB at h
 rw [Bool.and_eq_true,decide_eq_true_eq] at h
 exact h.1
theorem Kue {g:Int→Bool} {y:List Int→Bool} {n:Nat} {t:K01} (h:tOk g y n t=true):Ktx g y (n:Int) t=true∧Kty g y t.fOp n 0 t.fKids=true:=by
 rw [Ktz,Bool.and_eq_true] at h; exact h
theorem Kuf {n b:Nat} (h:n * b ≤ 140737488355328):Qd6 n b=some ():=by unfold Qd6 chk; rw [if_pos h]
theorem Kug {g:Int→Bool} {y:List Int→Bool} {n:Int} {t:K01} (h:Ktx g y n t=true):inB t.fOp 0 12=true∧(t.fKids.length:Int)=Kth t.fOp:=by
 unfold Ktx at h
 simp only [Bool.and_eq_true,beq_iff_eq] at h
 exact ⟨h.1.1.1,h.1.1.2⟩
theorem Kuh (l:List Int) (h:l.length ≤ 1099511627776):Kfp l=some l:=by
 unfold Kfp
 rw [Kuf (by simp only [List.length_nil]; omega),bs]
theorem Kui (l:List Int) (h:l.length ≤ 1099511627776):Kmm l=some l:=by
 unfold Kmm
 rw [Kuf (by simp only [List.length_nil]; omega),bs]
structure Kuj (s:K00) (n:Nat):Prop where
 size:s.fSize=(n:Int)
 lo:2 ≤ n
 hi:n ≤ 16
 lp:s.fPlus.length=n * n
 lt:s.fTimes.length=n * n
 lb:s.fBelow.length=n * n
def Kuk (s:K00) (n i:Nat):Bool:=inB (s.fPlus.getD i 0) 0 ((n:Int) - 1) && inB (s.fTimes.getD i 0) 0 ((n:Int) - 1)
section
variable {s:K00} {n:Nat} (h:Kuj s n)
include h
theorem nn:n * n ≤ 256:=Nat.le_trans (Nat.mul_le_mul h.hi h.hi) (by decide)
theorem Kul {i:Nat} (hi:i < n * n):idx s.fPlus (i:Int)=some (s.fPlus.getD i 0):=by
 have hl:i < s.fPlus.length:=by rw [h.lp]; exact hi
 rw [Kqx hl,List.getD_eq_getElem?_getD,List.getElem?_eq_getElem hl]; rfl
theorem Kum {i:Nat} (hi:i < n * n):idx s.fTimes (i:Int)=some (s.fTimes.getD i 0):=by
 have hl:i < s.fTimes.length:=by rw [h.lt]; exact hi
 rw [Kqx hl,List.getD_eq_getElem?_getD,List.getElem?_eq_getElem hl]; rfl
theorem Kun:wr (s.fSize - 1)=(n:Int) - 1:=by
 have:=h.lo; have:=h.hi
 rw [h.size,Kqw (by omega) (by omega)]
theorem Kuo:∀ (k i:Nat),i + k=n * n→Kbq (s,(i:Int))=some (if (List.range' i k).all (Kuk s n) then .inl () else .inr false):=by
 have hn:=nn h
 intro k
 induction k with
 | zero =>
  intro i hm
  rw [Kbq.eq_def]
  simp only
  rw [h.lp,Kr0 (by omega)]
  rfl
 | succ k ih =>
  intro i hm
  rw [Kbq.eq_def]
  simp only
  rw [h.lp,Kqz (by omega),if_pos rfl,Kul h (by omega),Kum h (by omega),Kun h]
  have ih:=ih (i + 1) (by omega)
  rw [Kqy (by omega),List.range'_succ,List.all_cons]
  generalize ((i + 1:Nat):Int)=M at ih ⊢
  generalize (List.range' (i + 1) k).all (Kuk s n)=r at ih ⊢
  simp only [bs,sIn]
  cases h1:inB (s.fPlus.getD i 0) 0 ((n:Int) - 1) <;> cases h2:inB (s.fTimes.getD i 0) 0 ((n:Int) - 1) <;> cases r <;> simp only [Kuk,h1,h2,ih,bs,Bool.not_true,Bool.not_false,Bool.true_and,Bool.false_and,Bool.and_true,Bool.and_false,if_true,if_false,Bool.false_eq_true]
theorem Kup:∀ (k i:Nat),i + k=n * n→Kjc (s,(i:Int))=some (if (List.range' i k).all (Kuk s n) then .inl () else .inr false):=by
 have hn:=nn h
 intro k
 induction k with
 | zero =>
  intro i hm
  rw [Kjc.eq_def]
  simp only
  rw [h.lp,Kr0 (by omega)]
  rfl
 | succ k ih =>
  intro i hm
  rw [Kjc.eq_def]
  simp only
  rw [h.lp,Kqz (by omega),if_pos rfl,Kul h (by omega),Kum h (by omega)]
  have ih:=ih (i + 1) (by omega)
  rw [Kqy (by omega),List.range'_succ,List.all_cons]
  generalize ((i + 1:Nat):Int)=M at ih ⊢
  generalize (List.range' (i + 1) k).all (Kuk s n)=r at ih ⊢
  have hh:∀ x,Kif (s,x)=some (inB x 0 ((n:Int) - 1)):=fun x=>by
   unfold Kif
   simp only
   rw [Kun h,iIn,bs]
  simp only [bs,hh]
  cases h1:inB (s.fPlus.getD i 0) 0 ((n:Int) - 1) <;> cases h2:inB (s.fTimes.getD i 0) 0 ((n:Int) - 1) <;> cases r <;> simp only [Kuk,h1,h2,ih,bs,Bool.not_true,Bool.not_false,Bool.true_and,Bool.false_and,Bool.and_true,Bool.and_false,if_true,if_false,Bool.false_eq_true]
theorem Kuq (he:(List.range' 0 (n * n)).all (Kuk s n)=true):Tab s n:=by
 rw [List.all_eq_true] at he
 have hent:∀ i,i < n * n→Kuk s n i=true:=fun i hi=>he i (by rw [List.mem_range'_1]; omega)
 refine ⟨h.size,h.lo,h.hi,h.lp,h.lt,h.lb,fun i hi=>?_,fun i hi=>?_⟩
 ·have:=hent i (by rw [← h.lp]; exact hi)
  simp only [Kuk,inB,Bool.and_eq_true,decide_eq_true_eq,List.getD_eq_getElem?_getD,List.getElem?_eq_getElem hi,Option.getD_some] at this
  omega
 ·have:=hent i (by rw [← h.lt]; exact hi)
  simp only [Kuk,inB,Bool.and_eq_true,decide_eq_true_eq,List.getD_eq_getElem?_getD,List.getElem?_eq_getElem hi,Option.getD_some] at this
  omega
end
def Kur (s:K00):Bool:=inB s.fSize 2 16 && !((s.fPlus.length:Int) != (wr (s.fSize * s.fSize))) && !((s.fTimes.length:Int) != (wr (s.fSize * s.fSize))) && !((s.fBelow.length:Int) != (wr (s.fSize * s.fSize)))
theorem Kus {s:K00} (h:Kur s=true):Kuj s s.fSize.toNat:=by
 unfold Kur at h
 simp only [Bool.and_eq_true,Bool.not_eq_true',inB,decide_eq_true_eq,bne_eq_false_iff_eq] at h
 obtain ⟨⟨⟨⟨h1,h2⟩,h3⟩,h4⟩,h5⟩:=h
 obtain ⟨n,hn⟩:∃ n:Nat,s.fSize=(n:Int):=⟨s.fSize.toNat,by omega⟩
 rw [hn] at h1 h2 h3 h4 h5 ⊢
 have h256:n * n ≤ 256:=Nat.le_trans (Nat.mul_le_mul (by omega:n ≤ 16) (by omega:n ≤ 16)) (by decide)
 have e:(n:Int) * (n:Int)=((n * n:Nat):Int):=by simp
 rw [e] at h3 h4 h5
 generalize hm:n * n=m at *
 rw [Kqw (by omega) (by omega)] at h3 h4 h5
 rw [Int.toNat_natCast]
 exact ⟨hn,by omega,by omega,by omega,by omega,by omega⟩
def Kut (s:K00):Bool:=Kur s && (List.range' 0 (s.fSize.toNat * s.fSize.toNat)).all (Kuk s s.fSize.toNat) && Ks6 s s.fSize.toNat
theorem Kuu {s:K00} (h:Kut s=true):Tab s s.fSize.toNat:=by
 unfold Kut at h
 simp only [Bool.and_eq_true] at h
 exact Kuq (Kus h.1.1) h.1.2
theorem Kuv (s:K00):Kd4 s=some (Kut s):=by
 unfold Kd4 Kbt Kut
 rw [sIn]
 cases hf:Kur s with
 | false =>
  unfold Kur at hf
  cases h1:inB s.fSize 2 16 <;> cases h2:((s.fPlus.length:Int) != (wr (s.fSize * s.fSize))) <;> cases h3:((s.fTimes.length:Int) != (wr (s.fSize * s.fSize))) <;> cases h4:((s.fBelow.length:Int) != (wr (s.fSize * s.fSize))) <;> simp_all [bs]
 | true =>
  have F:=Kus hf
  have hl:=Kuo F (s.fSize.toNat * s.fSize.toNat) 0 (by omega)
  rw [show ((0:Nat):Int)=0 from rfl] at hl
  unfold Kur at hf
  simp only [Bool.and_eq_true,Bool.not_eq_true'] at hf
  obtain ⟨⟨⟨h1,h2⟩,h3⟩,h4⟩:=hf
  cases he:(List.range' 0 (s.fSize.toNat * s.fSize.toNat)).all (Kuk s s.fSize.toNat) with
  | false=>rw [he] at hl; simp [bs,h1,h2,h3,h4,hl]
  | true =>
   have T:=Kuq F he
   have hl2:=Ksb T s.fSize.toNat 0 (by omega)
   rw [show ((0:Nat):Int)=0 from rfl] at hl2
   rw [he] at hl
   have hm:(List.range' 0 s.fSize.toNat).all (fun a=>Krq s s.fSize.toNat a && (List.range' 0 s.fSize.toNat).all fun b=>Ks3 s s.fSize.toNat a b && (List.range' 0 s.fSize.toNat).all fun c=>Krr s s.fSize.toNat a b c)=Ks6 s s.fSize.toNat:=rfl
   rw [hm] at hl2
   cases hs:Ks6 s s.fSize.toNat <;> rw [hs] at hl2 <;> simp [bs,h1,h2,h3,h4,hl,hl2]
theorem Kuw (s:K00):Kjr s=some (Kut s):=by
 unfold Kjr Kut
 rw [iIn]
 cases hf:Kur s with
 | false =>
  unfold Kur at hf
  cases h1:inB s.fSize 2 16 <;> cases h2:((s.fPlus.length:Int) != (wr (s.fSize * s.fSize))) <;> cases h3:((s.fTimes.length:Int) != (wr (s.fSize * s.fSize))) <;> cases h4:((s.fBelow.length:Int) != (wr (s.fSize * s.fSize))) <;> simp_all [bs]
 | true =>
  have F:=Kus hf
  have hl:=Kup F (s.fSize.toNat * s.fSize.toNat) 0 (by omega)
  rw [show ((0:Nat):Int)=0 from rfl] at hl
  unfold Kur at hf
  simp only [Bool.and_eq_true,Bool.not_eq_true'] at hf
  obtain ⟨⟨⟨h1,h2⟩,h3⟩,h4⟩:=hf
  cases he:(List.range' 0 (s.fSize.toNat * s.fSize.toNat)).all (Kuk s s.fSize.toNat) with
  | false=>rw [he] at hl; simp [bs,h1,h2,h3,h4,hl]
  | true =>
   have T:=Kuq F he
   have hl2:=Ksc T s.fSize.toNat 0 (by omega)
   rw [show ((0:Nat):Int)=0 from rfl] at hl2
   rw [he] at hl
   have hm:(List.range' 0 s.fSize.toNat).all (fun a=>Krq s s.fSize.toNat a && (List.range' 0 s.fSize.toNat).all fun b=>Ks3 s s.fSize.toNat a b && (List.range' 0 s.fSize.toNat).all fun c=>Krr s s.fSize.toNat a b c)=Ks6 s s.fSize.toNat:=rfl
   rw [hm] at hl2
   cases hs:Ks6 s s.fSize.toNat <;> rw [hs] at hl2 <;> simp [bs,h1,h2,h3,h4,hl,hl2]
section
variable {s:K00} {n:Nat} (h:Tab s n)
include h
theorem Kux:wr (s.fSize - 1)=(n:Int) - 1:=by
 have:=h.lo; have:=h.hi
 rw [h.size,Kqw (by omega) (by omega)]
end
inductive Ty where
 | num
 | bin (c:Int) (a b:Ty)
 | un (c:Int) (a:Ty)
namespace Ty
def code:Ty→List Int
 | num=>[0]
 | bin c a b=>c :: (a.code ++ b.code)
 | un c a=>c :: a.code
def ok:Ty→Prop
 | num=>True
 | bin c a b=>Ksh c=2∧a.ok∧b.ok
 | un c a=>Ksh c=1∧a.ok
def kids:Ty→List Ty
 | num=>[]
 | bin _ a b=>[a,b]
 | un _ a=>[a]
def hd:Ty→Int
 | num=>0
 | bin c _ _=>c
 | un c _=>c
end Ty
def Kuy:List Ty→List Int
 | []=>[]
 | t :: l=>t.code ++ Kuy l
theorem Kuz (T:Ty):T.code=T.hd :: Kuy T.kids:=by cases T <;> simp [Ty.code,Ty.hd,Ty.kids,Kuy]
theorem Kv0 (T:Ty):1 ≤ T.code.length:=by rw [Kuz]; simp
theorem Kv1 (T:Ty):∀ (m:Nat) (l:List Int),T.ok→skip (m + 1) (T.code ++ l)=skip m l:=by
 induction T with
 | num =>
  intro m l _
  rw [Ty.code,List.singleton_append,Ksr,show Ksh 0=0 from rfl,if_neg (by decide)]; rfl
 | bin c a b iha ihb =>
  intro m l h
  rw [Ty.code,List.cons_append,Ksr,h.1,if_neg (by decide),List.append_assoc,show m + (2:Int).toNat=(m + 1) + 1 from rfl,iha _ _ h.2.1,ihb _ _ h.2.2]
 | un c a ih =>
  intro m l h
  rw [Ty.code,List.cons_append,Ksr,h.1,if_neg (by decide),show m + (1:Int).toNat=m + 1 from rfl,ih _ _ h.2]
theorem Kv2 (l:List Int):∀ (m:Nat) (r:List Int),skip m l=some r→∃ Ts:List Ty,Ts.length=m∧(∀ T ∈ Ts,T.ok)∧l=Kuy Ts ++ r:=by
 induction l with
 | nil =>
  intro m r h
  cases m with
  | zero=>rw [Ksp] at h; cases h; exact ⟨[],rfl,fun _ h=>(by cases h),rfl⟩
  | succ m=>rw [Ksq] at h; cases h
 | cons c l ih =>
  intro m r h
  cases m with
  | zero=>rw [Ksp] at h; cases h; exact ⟨[],rfl,fun _ h=>(by cases h),rfl⟩
  | succ m =>
   rw [Ksr] at h
   by_cases hk:Ksh c=-1
   ·rw [if_pos hk] at h; cases h
   ·rw [if_neg hk] at h
    obtain ⟨Ts,h1,h2,h3⟩:=ih _ _ h
    rcases Ksl c with ⟨q,e⟩ | ⟨q,e⟩ | ⟨q,e⟩ | ⟨q,e⟩
    ·subst q
     rw [e] at h1
     exact ⟨.num :: Ts,by simpa using h1,fun T hT=>by rcases List.mem_cons.1 hT with rfl | hT; exact trivial; exact h2 T hT,by rw [h3]; rfl⟩
    ·rw [e] at h1
     match Ts,h1 with
     | a :: b :: Ts,h1 =>
      refine ⟨.bin c a b :: Ts,by simpa using h1,fun T hT=>?_,by rw [h3]; simp [Kuy,Ty.code]⟩
      rcases List.mem_cons.1 hT with rfl | hT
      ·exact ⟨e,h2 a List.mem_cons_self,h2 b (List.mem_cons_of_mem _ List.mem_cons_self)⟩
      ·exact h2 T (List.mem_cons_of_mem _ (List.mem_cons_of_mem _ hT))
     | [_],h1=>exact absurd h1 (by simp)
     | [],h1=>exact absurd h1 (by simp)
    ·rw [e] at h1
     match Ts,h1 with
     | a :: Ts,h1 =>
      refine ⟨.un c a :: Ts,by simpa using h1,fun T hT=>?_,by rw [h3]; simp [Kuy,Ty.code]⟩
      rcases List.mem_cons.1 hT with rfl | hT
      ·exact ⟨e,h2 a List.mem_cons_self⟩
      ·exact h2 T (List.mem_cons_of_mem _ hT)
     | [],h1=>exact absurd h1 (by simp)
    ·exact absurd e hk
theorem Kv3 {ty:List Int} (h:wtB ty=true):∃ T:Ty,T.ok∧ty=T.code∧ty.length ≤ 40:=by
 have hl:=Kud h
 unfold wtB at h
 rw [Bool.and_eq_true,beq_iff_eq] at h
 obtain ⟨Ts,h1,h2,h3⟩:=Kv2 _ _ _ h.2
 match Ts,h1 with
 | [T],_=>exact ⟨T,h2 T List.mem_cons_self,by rw [h3]; simp [Kuy],hl⟩
theorem Kv4 {T:Ty} (h:T.ok) (hl:T.code.length ≤ 40):wtB T.code=true:=by
 unfold wtB
 have:=Kv1 T 0 [] h
 rw [List.append_nil,Ksp] at this
 rw [decide_eq_true hl,show (1:Nat)=0 + 1 from rfl,this]; rfl
theorem Kv5 {T:Ty} (h:T.ok):∀ K ∈ T.kids,K.ok:=by
 intro K hK
 cases T with
 | num=>cases hK
 | bin c a b=>rcases List.mem_cons.1 hK with rfl | hK; exact h.2.1; rw [List.mem_singleton.1 hK]; exact h.2.2
 | un c a=>rw [List.mem_singleton.1 hK]; exact h.2
theorem Kv6 {pre:List Int} {T:Ty} {post:List Int} (h:T.ok):Ksu (pre ++ (T.code ++ post)) 1 pre.length=((pre.length + T.code.length:Nat):Int):=by
 unfold Ksu
 rw [List.drop_left,show (1:Nat)=0 + 1 from rfl,Kv1 T 0 post h,Ksp]
 simp only [List.length_append]
 omega
theorem Kv7 {α:Type} (p m q:List α) (mx:Option Int) (hmx:mx=none∨mx=some ((p.length + m.length:Nat):Int)):cut (p ++ (m ++ q)) (some (p.length:Int)) (some ((p.length + m.length:Nat):Int)) mx=some m:=by
 unfold cut
 have e:((p ++ (m ++ q)).take (p.length + m.length)).drop p.length=m:=by
  rw [← List.append_assoc,← List.length_append,List.take_left,List.drop_left]
 rw [if_pos]
 ·simp only [Option.getD_some,Int.toNat_natCast,e]
 ·rcases hmx with rfl | rfl <;> simp only [Option.getD_some,Option.getD_none,List.length_append] <;> omega
theorem Kv8 {α:Type} (p q:List α):cut (p ++ q) (some (p.length:Int)) none none=some q:=by
 unfold cut
 rw [if_pos]
 ·simp only [Option.getD_some,Option.getD_none,Int.toNat_natCast,List.take_length,List.drop_left]
 ·simp only [Option.getD_some,Option.getD_none,List.length_append]; omega
theorem Kv9 (Ks:List Ty):∀ (pre:List Int) (out:List (List Int)),(∀ K ∈ Ks,K.ok)→(pre ++ Kuy Ks).length ≤ 1099511627776→out.length + Ks.length ≤ 1099511627776→Kli (pre ++ Kuy Ks,out,(pre.length:Int))=some (out ++ Ks.map Ty.code):=by
 induction Ks with
 | nil =>
  intro pre out hk hl ho
  rw [show Kuy []=[] from rfl,List.append_nil,Kli.eq_def]
  simp only
  rw [Kr0 (Nat.le_refl _)]; simp
 | cons K Ks ih =>
  intro pre out hk hl ho
  have hK:=hk K List.mem_cons_self
  have hp:=Kv0 K
  rw [show Kuy (K :: Ks)=K.code ++ Kuy Ks from rfl] at hl ⊢
  rw [List.length_cons] at ho
  rw [Kli.eq_def]
  simp only
  rw [Kqz (by simp only [List.length_append]; omega),if_pos rfl,Ksy _ hl _ pre.length rfl,Kv6 hK,bs,Kv7 _ _ _ _ (.inr rfl),bs,Kuf (by simp only [List.length_singleton]; omega),bs]
  have:=ih (pre ++ K.code) (out ++ [K.code]) (fun K hK=>hk K (List.mem_cons_of_mem _ hK)) (by rw [List.append_assoc]; exact hl) (by simp; omega)
  rw [List.append_assoc,List.length_append] at this
  rw [this,List.map_cons,List.append_assoc]; rfl
theorem Kva {T:Ty} (h:T.ok) (hl:T.code.length ≤ 1048576):Kll T.code=some (T.kids.map Ty.code):=by
 unfold Kll
 have hk:T.kids.length ≤ 2:=by cases T <;> simp [Ty.kids]
 have e:[T.hd] ++ Kuy T.kids=T.code:=(Kuz T).symm
 have:=Kv9 T.kids [T.hd] [] (Kv5 h) (by rw [e]; omega) (by simp only [List.length_nil]; omega)
 rw [e] at this
 rw [show (1:Int)=(([T.hd].length:Nat):Int) from rfl,this,bs]; rfl
theorem Kvb {c:Int} {a:Ty} {r:List Int} (ha:a.ok) (hl:(c :: (a.code ++ r)).length ≤ 1099511627776):Kfs (c :: (a.code ++ r),0)=some a.code:=by
 unfold Kfs
 simp only
 have e:=Kv6 (pre:=[c]) (post:=r) ha
 have h1:=Ksw (c :: (a.code ++ r)) hl 1 (by simp)
 rw [show (((1:Nat)):Int)=1 from rfl] at h1
 rw [List.length_singleton] at e
 have e':Ksu (c :: (a.code ++ r)) 1 1=((1 + a.code.length:Nat):Int):=e
 rw [h1,bs,e',if_pos (by rfl)]
 have h2:=Kv7 [c] a.code r none (.inl rfl)
 rw [List.length_singleton] at h2
 have h2':cut (c :: (a.code ++ r)) (some 1) (some ((1 + a.code.length:Nat):Int)) none=some a.code:=h2
 simp only [List.length_cons,List.length_append] at hl
 rw [h2',bs,Kuh _ (by omega),bs]
theorem Kvc {c:Int} {a:Ty} {r:List Int} (ha:a.ok) (hl:(c :: (a.code ++ r)).length ≤ 1099511627776):Kfs (c :: (a.code ++ r),1)=some r:=by
 unfold Kfs
 simp only
 have e:=Kv6 (pre:=[c]) (post:=r) ha
 have h1:=Ksw (c :: (a.code ++ r)) hl 1 (by simp)
 rw [show (((1:Nat)):Int)=1 from rfl] at h1
 rw [List.length_singleton] at e
 have e':Ksu (c :: (a.code ++ r)) 1 1=((1 + a.code.length:Nat):Int):=e
 rw [h1,bs,e',if_neg (by decide)]
 have h2:=Kv8 (c :: a.code) r
 rw [List.length_cons,List.cons_append,Nat.add_comm] at h2
 simp only [List.length_cons,List.length_append] at hl
 rw [h2,bs,Kuh _ (by omega),bs]
def Kvd (s:K00) (g:Int):Bool:=inB g 0 (wr (s.fSize - 1))
theorem Kve (s:K00) (g:Int):Kif (s,g)=some (Kvd s g):=by
 unfold Kif Kvd
 simp only
 rw [iIn,bs]
def Kvf (s:K00) (c:Int):Bool:=!(((Ksm c).1 == 3 || (Ksm c).1 == 4) && !Kvd s (Ksm c).2)
def Kvg (s:K00) (ty:List Int):Bool:=wtB ty && ty.all (Kvf s)
theorem Kvh (s:K00) (ty:List Int) (hty:ty.length ≤ 1099511627776):∀ (l:List Int) (i:Nat),ty.drop i=l→Kk4 (s,ty,(i:Int))=some (if l.all (Kvf s) then .inl () else .inr false):=by
 intro l
 induction l with
 | nil =>
  intro i hd
  rw [Kk4.eq_def]
  simp only
  rw [Kr0 (Kse hd)]; rfl
 | cons c l ih =>
  intro i hd
  obtain ⟨hi,hx,hd'⟩:=Ksd hd
  rw [Kk4.eq_def]
  simp only
  rw [Kqz hi,if_pos rfl,hx,bs,Ksn,bs,Kqy (by omega),ih (i + 1) hd',List.all_cons]
  unfold Kvf
  rcases Ksm c with ⟨a,b⟩
  simp only [Kve,bs]
  cases a == 3 <;> cases a == 4 <;> cases Kvd s b <;> simp [bs]
theorem Kvi (s:K00) (ty:List Int) (hty:ty.length ≤ 1099511627776):Kk7 (s,ty)=some (Kvg s ty):=by
 unfold Kk7 Kvg
 simp only
 rw [Kt1 ty hty,bs]
 cases wtB ty
 ·rfl
 ·rw [if_pos rfl,show (0:Int)=((0:Nat):Int) from rfl,Kvh s ty hty _ 0 rfl,List.drop_zero,bs]
  cases ty.all (Kvf s) <;> rfl
theorem Kvj {s:K00} {n:Nat} (h:Tab s n) (g:Int):Kvd s g=inB g 0 ((n:Int) - 1):=by
 unfold Kvd; rw [Kux h]
theorem Kvk {s:K00} {n:Nat} (h:Tab s n) {c:Int}:Kvf s c=Kt3 s.fSize true c:=by
 unfold Kvf Kt3 Kt2
 have hn:=h.lo
 rw [Kvj h,h.size]
 rcases Kso c with ⟨q,e⟩ | ⟨q,e⟩ | ⟨q,e⟩ | ⟨q,e⟩ | ⟨q,e⟩ | ⟨q,e⟩ | ⟨q,e⟩ | ⟨q,e⟩ <;> rw [e]
 ·subst q; rfl
 ·subst q; rfl
 ·subst q; rfl
 ·have hk:Ksh c=2:=by rcases Ksl c with h | h | h | h <;> omega
  rw [hk,if_neg (by omega),if_neg (by omega),decide_eq_true (by omega:c > 2)]
  unfold inB
  rw [decide_eq_true (by omega:c - 3 ≥ 0),decide_eq_false (by omega:¬ c - 3 < 0)]
  by_cases hc:c - 3 ≤ (n:Int) - 1
  ·rw [decide_eq_true hc,decide_eq_false (by omega:¬ c - 3 ≥ (n:Int))]; rfl
  ·rw [decide_eq_false hc,decide_eq_true (by omega:c - 3 ≥ (n:Int))]; rfl
 ·subst q; unfold inB; simp [Ksh,Ksf,Ksg,inB]
 ·have hk:Ksh c=1:=by rcases Ksl c with h | h | h | h <;> omega
  rw [hk,if_neg (by omega),if_pos (by omega),decide_eq_true (by omega:c > 2)]
  unfold inB
  rw [decide_eq_true (by omega:c - 19 ≥ 0),decide_eq_false (by omega:¬ c - 19 < 0)]
  by_cases hc:c - 19 ≤ (n:Int) - 1
  ·rw [decide_eq_true hc,decide_eq_false (by omega:¬ c - 19 ≥ (n:Int))]; rfl
  ·rw [decide_eq_false hc,decide_eq_true (by omega:c - 19 ≥ (n:Int))]; rfl
 ·subst q; unfold inB; simp [Ksh,Ksf,Ksg,inB]
 ·have hk:Ksh c=-1:=by rcases Ksl c with h | h | h | h <;> omega
  rw [hk]; simp
theorem Kvl {s:K00} {n:Nat} (h:Tab s n) (ty:List Int):Kvg s ty=yN s.fSize true ty:=by
 unfold Kvg yN
 rw [show Kvf s=Kt3 s.fSize true from funext fun c=>Kvk h]
def Kvm (s:K00) (ty:List Int):Bool:=Kut s && Kvg s ty
theorem Kvn (s:K00) (ty:List Int) (hty:ty.length ≤ 1099511627776):Ke1 (s,ty)=some (Kvm s ty):=by
 unfold Ke1 Kvm
 simp only
 rw [Kuv,bs]
 cases hs:Kut s
 ·rfl
 ·rw [if_pos rfl,Kt0 ty hty,bs,Kt6 ty hty,Bool.true_and,Kvl (Kuu hs)]
  unfold yN
  cases wtB ty <;> rfl
theorem Kvo {α:Type} (x:α) (l:List α):idx (x :: l) 0=some x:=rfl
theorem Kvp {a b:Nat} (ha:a ≤ 1099511627776) (hb:b ≤ 1099511627776):wr ((a:Int) + (b:Int))=((a + b:Nat):Int):=by rw [Kqw (by omega) (by omega)]; omega
theorem Kvq (a:List Bool) (left:Int) (h1:0 ≤ left) (h2:left ≤ 1048576) (ha:a.length ≤ 9223372036854775807):K9d (a,left)=some (szB left a.length):=by
 unfold K9d szB
 simp only
 rw [Kqw (by omega) (by omega)]
 by_cases h:left - (a.length:Int) < 0
 ·rw [decide_eq_true h,if_pos rfl,if_pos h]
 ·rw [decide_eq_false h,if_neg (by decide),if_neg h]
def sln (s:K00):Prop:=s.fPlus.length ≤ 9223372036854775807∧s.fTimes.length ≤ 9223372036854775807∧s.fBelow.length ≤ 9223372036854775807
def sms (s:K00):Nat:=s.fPlus.length + s.fTimes.length + s.fBelow.length
theorem Kvr (s:K00) (left:Int) (hs:sln s) (h1:0 ≤ left) (h2:left ≤ 1048576):K9g (s,left)=some (szB left (sms s)):=by
 obtain ⟨l1,l2,l3⟩:=hs
 unfold K9g sms
 simp only
 rw [Ku5 _ _ h1 h2 l1,bs]
 rcases Ku4 left s.fPlus.length with ⟨e,hl⟩ | ⟨e,hl⟩
 ·rw [e,decide_eq_true (by decide),if_pos rfl]; unfold szB; rw [if_pos (by omega)]
 ·rw [e,decide_eq_false (by omega),if_neg (by decide),Ku5 _ _ (by omega) (by omega) l2,bs]
  rcases Ku4 (left - (s.fPlus.length:Int)) s.fTimes.length with ⟨e2,hl2⟩ | ⟨e2,hl2⟩
  ·rw [e2,decide_eq_true (by decide),if_pos rfl]; unfold szB; rw [if_pos (by omega)]
  ·rw [e2,decide_eq_false (by omega),if_neg (by decide),Kvq _ _ (by omega) (by omega) l3,bs]
   rcases Ku4 (left - (s.fPlus.length:Int) - (s.fTimes.length:Int)) s.fBelow.length with ⟨e3,hl3⟩ | ⟨e3,hl3⟩
   ·rw [e3,decide_eq_true (by decide),if_pos rfl]; unfold szB; rw [if_pos (by omega)]
   ·rw [e3,decide_eq_false (by omega),if_neg (by decide)]; unfold szB; rw [if_neg (by omega)]; congr 1; omega
theorem Kvs {s:K00} (h:sms s ≤ 1048576):Kap s=some s:=by unfold sms at h; exact Krb s (by omega) (by omega) (by omega)
theorem Kvt {s:K00} (h:sms s ≤ 1048576):Kpy (s,s)=some true:=by unfold sms at h; exact Krc s (by omega) (by omega) (by omega)
theorem Kvu {l:List K01} {t:K01} (h:t ∈ l):tms t + l.length ≤ Kt9 l + l.length:=by
 induction l with
 | nil=>cases h
 | cons x l ih =>
  rw [Kt9]
  rcases List.mem_cons.1 h with rfl | h
  ·omega
  ·have:=ih h; omega
theorem Kvv {t k:K01} (h:k ∈ t.fKids):tms k + 1 ≤ tms t:=by
 rw [Kta t]
 have:=Kvu h
 have:1 ≤ t.fKids.length:=List.length_pos_of_mem h
 omega
theorem Kvw (b:Bool):(!(b == b))=false:=by cases b <;> rfl
def lct:List (List Int)→Nat
 | []=>0
 | x :: l=>x.length + lct l
def lok (l:List (List Int)):Prop:=l.length ≤ 1099511627776∧lct l ≤ 1099511627776
theorem Kvx {l:List (List Int)} {x:List Int} (h:x ∈ l):x.length ≤ lct l:=by
 induction l with
 | nil=>cases h
 | cons y l ih =>
  rw [lct]
  rcases List.mem_cons.1 h with rfl | h
  ·omega
  ·have:=ih h; omega
theorem Kvy (a:List (List Int)) (ha:a.length ≤ 1099511627776):∀ (l:List (List Int)) (i:Nat),a.drop i=l→lct l ≤ 1099511627776→Kq2 (a,a,(i:Int))=some (.inl ()):=by
 intro l
 induction l with
 | nil =>
  intro i hd _
  rw [Kq2.eq_def]
  simp only
  rw [Kr0 (Kse hd)]; rfl
 | cons x l ih =>
  intro i hd hl
  obtain ⟨hi,hx,hd'⟩:=Ksd hd
  rw [lct] at hl
  rw [Kq2.eq_def]
  simp only
  rw [Kqz hi,if_pos rfl,hx,bs,bs,Kr8 x (by omega),bs,if_pos rfl,Kqy (by omega),ih (i + 1) hd' (by omega)]
theorem Kvz (a:List (List Int)) (h:lok a):Kq5 (a,a)=some true:=by
 unfold Kq5
 simp only
 rw [Kr6,if_neg (by decide),show (0:Int)=((0:Nat):Int) from rfl,Kvy a h.1 a 0 rfl h.2]; rfl
theorem Kw0 {a:Int}:(a == a)=true:=by simp
structure Kw1 (c:Int) (a b:Ty):Prop where
 p0:Kfs (c :: (a.code ++ b.code),0)=some a.code
 p1:Kfs (c :: (a.code ++ b.code),1)=some b.code
 pp:Kll (c :: (a.code ++ b.code))=some [a.code,b.code]
 ok:a.ok∧b.ok
 la:a.code.length + b.code.length + 1 ≤ 1048576
theorem Kw2 {c:Int} {a b:Ty} (h:(Ty.bin c a b).ok) (hl:(Ty.bin c a b).code.length ≤ 1048576):Kw1 c a b:=by
 have hl':=hl
 rw [Ty.code] at hl'
 have h3:=Kva h hl
 rw [Ty.kids,List.map_cons,List.map_cons,List.map_nil,Ty.code] at h3
 refine ⟨Kvb h.2.1 (by omega),Kvc h.2.1 (by omega),h3,h.2,?_⟩
 rw [List.length_cons,List.length_append] at hl'
 omega
structure UnP (c:Int) (a:Ty):Prop where
 p0:Kfs (c :: a.code,0)=some a.code
 pp:Kll (c :: a.code)=some [a.code]
 ok:a.ok
 la:a.code.length + 1 ≤ 1048576
theorem unP {c:Int} {a:Ty} (h:(Ty.un c a).ok) (hl:(Ty.un c a).code.length ≤ 1048576):UnP c a:=by
 have hl':=hl
 rw [Ty.code] at hl'
 have h3:=Kva h hl
 rw [Ty.kids,List.map_cons,List.map_nil,Ty.code] at h3
 have h4:=Kvb (c:=c) (r:=[]) h.2 (by rw [List.append_nil]; omega)
 rw [List.append_nil] at h4
 refine ⟨h4,h3,h.2,?_⟩
 rw [List.length_cons] at hl'
 omega
theorem Kw3 {p:Prop} [Decidable p] (h:p):chk p=some ():=by unfold chk; rw [if_pos h]
theorem Kw4 (x y:Int) (l r:List Int):(x :: l == y :: r)=(x == y && l == r):=rfl
theorem Kw5 (a b:List Int) (ha:a.length ≤ 1099511627776) (hab:a.length=b.length):∀ (l r:List Int) (i:Nat),a.drop i=l→b.drop i=r→Kfb (a,b,(i:Int))=some (if l == r then .inl () else .inr false):=by
 intro l
 induction l with
 | nil =>
  intro r i h1 h2
  have hi:=Kse h1
  rw [Kfb.eq_def]
  simp only
  rw [Kr0 hi]
  have:r=[]:=by rw [← h2]; exact List.drop_eq_nil_of_le (by omega)
  subst this; rfl
 | cons x l ih =>
  intro r i h1 h2
  obtain ⟨hi,hx,hd⟩:=Ksd h1
  cases r with
  | nil=>have:=Kse h2; omega
  | cons y r =>
   obtain ⟨_,hy,hd2⟩:=Ksd h2
   rw [Kfb.eq_def]
   simp only
   rw [Kqz hi,if_pos rfl,hx,hy,bs,bs,Kqy (by omega),ih r (i + 1) hd hd2,Kw4]
   by_cases e:x=y
   ·subst e; simp
   ·rw [bne_iff_ne.2 e,if_pos rfl,beq_eq_false_iff_ne.2 e]; rfl
theorem Kw6 (a b:List Int) (hb:b.length ≤ 1099511627776):Kfe (a,b)=some (a == b):=by
 unfold Kfe
 simp only
 by_cases h:a.length=b.length
 ·rw [h,Kr6,if_neg (by decide)]
  have:=Kw5 a b (by omega) h a b 0 rfl rfl
  rw [show ((0:Nat):Int)=0 from rfl] at this
  rw [this]
  cases a == b <;> rfl
 ·rw [bne_iff_ne.2 (by omega),if_pos rfl]
  have:a ≠ b:=fun e=>h (by rw [e])
  rw [beq_eq_false_iff_ne.2 this]
theorem Kw7 (a b:List Int) (ha:a.length ≤ 1099511627776) (hab:a.length=b.length):∀ (l r:List Int) (i:Nat),a.drop i=l→b.drop i=r→Kl0 (a,b,(i:Int))=some (if l == r then .inl () else .inr false):=by
 intro l
 induction l with
 | nil =>
  intro r i h1 h2
  have hi:=Kse h1
  rw [Kl0.eq_def]
  simp only
  rw [Kr0 hi]
  have:r=[]:=by rw [← h2]; exact List.drop_eq_nil_of_le (by omega)
  subst this; rfl
 | cons x l ih =>
  intro r i h1 h2
  obtain ⟨hi,hx,hd⟩:=Ksd h1
  cases r with
  | nil=>have:=Kse h2; omega
  | cons y r =>
   obtain ⟨_,hy,hd2⟩:=Ksd h2
   rw [Kl0.eq_def]
   simp only
   rw [Kqz hi,if_pos rfl,hx,hy,bs,bs,Kqy (by omega),ih r (i + 1) hd hd2,Kw4]
   by_cases e:x=y
   ·subst e; simp
   ·rw [bne_iff_ne.2 e,if_pos rfl,beq_eq_false_iff_ne.2 e]; rfl
theorem Kw8 (a b:List Int) (hb:b.length ≤ 1099511627776):Kl3 (a,b)=some (a == b):=by
 unfold Kl3
 simp only
 by_cases h:a.length=b.length
 ·rw [h,Kr6,if_neg (by decide)]
  have:=Kw7 a b (by omega) h a b 0 rfl rfl
  rw [show ((0:Nat):Int)=0 from rfl] at this
  rw [this]
  cases a == b <;> rfl
 ·rw [bne_iff_ne.2 (by omega),if_pos rfl]
  have:a ≠ b:=fun e=>h (by rw [e])
  rw [beq_eq_false_iff_ne.2 this]
theorem Kw9 (g:Int→Bool) (y:List Int→Bool) (op:Int) (n i:Nat) (k:K01) (ks:List K01):Kty g y op n i (k :: ks)=(tOk g y (n + Ktr op i) k && Kty g y op n (i + 1) ks):=by rw [Kty]
theorem Kwa {l:List K01} (h:((l.length:Int) == 1)=true):∃ k,l=[k]:=by
 rw [beq_iff_eq] at h; match l,h with | [k],_=>exact ⟨k,rfl⟩ | [],h=>exact absurd h (by simp) | _ :: _ :: _,h=>exact absurd h (by simp only [List.length_cons]; omega)
theorem Kwb {l:List K01} (h:((l.length:Int) == 2)=true):∃ k m,l=[k,m]:=by
 rw [beq_iff_eq] at h; match l,h with | [k,m],_=>exact ⟨k,m,rfl⟩ | [],h=>exact absurd h (by simp) | [_],h=>exact absurd h (by simp) | _ :: _ :: _ :: _,h=>exact absurd h (by simp only [List.length_cons]; omega)
theorem Kwc (op N:Int) (ty:List Int) (a:K01):tsz ⟨op,N,ty,[a]⟩=1 + tsz a:=by simp [tsz,Kt8]
theorem Kwd (op N:Int) (ty:List Int) (a b:K01):tsz ⟨op,N,ty,[a,b]⟩=1 + (tsz a + tsz b):=by simp [tsz,Kt8]
theorem Kwe (op N:Int) (ty:List Int) (a b c:K01):tsz ⟨op,N,ty,[a,b,c]⟩=1 + (tsz a + (tsz b + tsz c)):=by simp [tsz,Kt8]
theorem Kwf {l:List K01} (h:(l.length:Int)=3):∃ a b c,l=[a,b,c]:=by
 match l,h with | [a,b,c],_=>exact ⟨a,b,c,rfl⟩ | [],h=>exact absurd h (by simp) | [_],h=>exact absurd h (by simp) | [_,_],h=>exact absurd h (by simp) | _ :: _ :: _ :: _ :: _,h=>exact absurd h (by simp only [List.length_cons]; omega)
def lms (l:List (List Int)):Nat:=l.length + lct l
theorem Kwg {l:List (List Int)} (h:lms l ≤ 1099511627776):lok l:=by unfold lms at h; exact ⟨by omega,by omega⟩
def lln (l:List (List Int)):Prop:=l.length ≤ 9223372036854775807∧∀ v ∈ l,v.length ≤ 9223372036854775807
theorem Kwh:∀ (l a:List (List Int)) (i left:Nat),a.drop i=l→a.length ≤ 9223372036854775807→(∀ v ∈ l,v.length ≤ 9223372036854775807)→left ≤ 1048576→K9k (a,(left:Int),(i:Int))=some (if left < lct l then .inr (-1) else .inl ((left - lct l:Nat):Int)):=by
 intro l
 induction l with
 | nil =>
  intro a i left hd ha hl h
  rw [K9k.eq_def,lct]
  simp only
  rw [Kr0 (Kse hd)]; simp
 | cons x l ih =>
  intro a i left hd ha hl h
  obtain ⟨hi,hx,hd'⟩:=Ksd hd
  rw [K9k.eq_def,lct]
  simp only
  rw [Kqz hi,if_pos rfl,hx,bs,Ku5 x left (by omega) (by omega) (hl x List.mem_cons_self),bs,Kqy (by omega)]
  rcases Ku4 left x.length with ⟨e,q⟩ | ⟨e,q⟩
  ·rw [e,decide_eq_true (by decide),if_pos rfl,if_pos (by omega)]
  ·rw [e,decide_eq_false (by omega),if_neg (by decide),show (left:Int) - (x.length:Int)=((left - x.length:Nat):Int) by omega,ih a (i + 1) (left - x.length) hd' ha (fun v hv=>hl v (List.mem_cons_of_mem _ hv)) (by omega)]
   by_cases q2:left - x.length < lct l
   ·rw [if_pos q2,if_pos (by omega)]
   ·rw [if_neg q2,if_neg (by omega)]; congr 3; omega
theorem Kwi (a:List (List Int)) (left:Int) (ha:lln a) (h1:0 ≤ left) (h2:left ≤ 1048576):K9n (a,left)=some (szB left (lms a)):=by
 have hl:=ha.1
 unfold K9n lms
 simp only
 rw [Kqw (by omega) (by omega)]
 by_cases h3:left - (a.length:Int) < 0
 ·rw [decide_eq_true h3,if_pos rfl]; unfold szB; rw [if_pos (by omega)]
 ·obtain ⟨m,hm⟩:∃ m:Nat,left - (a.length:Int)=(m:Int):=⟨(left - (a.length:Int)).toNat,by omega⟩
  have h:=Kwh a a 0 m rfl hl ha.2 (by omega)
  rw [show ((0:Nat):Int)=0 from rfl] at h
  rw [decide_eq_false h3,if_neg (by decide),hm,h,bs]
  unfold szB
  by_cases q:m < lct a
  ·rw [if_pos q,if_pos (by omega)]
  ·rw [if_neg q,if_neg (by omega)]; simp only; congr 1; omega
theorem Kwj:∀ (l a out:List (List Int)) (i:Nat),a.drop i=l→a.length ≤ 1099511627776→lct l ≤ 1099511627776→out.length=a.length→out.take i=a.take i→Kat (a,out,(i:Int))=some a:=by
 intro l
 induction l with
 | nil =>
  intro a out i hd ha hl ho ht
  rw [Kat.eq_def]
  simp only
  have hle:=Kse hd
  rw [Kr0 hle]
  rw [List.take_of_length_le (by omega),List.take_of_length_le (by omega)] at ht
  simp [ht]
 | cons x l ih =>
  intro a out i hd ha hl ho ht
  obtain ⟨hi,hx,hd'⟩:=Ksd hd
  have hk:a[i]=x:=by rw [Kqx hi] at hx; exact Option.some.inj hx
  rw [lct] at hl
  rw [Kat.eq_def]
  simp only
  rw [Kqz hi,if_pos rfl,hx,bs,Kr3 x (by omega),bs,Kqx (by omega),bs,Kqy (by omega),Int.toNat_natCast]
  exact ih a _ (i + 1) hd' ha (by omega) (by simpa using ho) (by rw [← hk]; exact Kr1 ho hi ht)
theorem Kwk (a:List (List Int)) (h:lms a ≤ 1099511627776):Kaw a=some a:=by
 unfold lms at h
 unfold Kaw
 have:chk (0 ≤ (a.length:Int)∧(Int.toNat (a.length:Int)) * 24 ≤ 140737488355328)=some ():=by
  unfold chk; rw [if_pos]; refine ⟨by omega,?_⟩; rw [Int.toNat_natCast]; omega
 have h0:=Kwj a a (List.replicate a.length []) 0 rfl (by omega) (by omega) (by simp) rfl
 rw [show ((0:Nat):Int)=0 from rfl] at h0
 rw [this,bs,Int.toNat_natCast,h0,bs]
def jms (j:K02):Nat:=lms j.fCtx + j.fBudgets.length + tms j.fTerm + j.fType.length + j.fFrom.length
def jln (j:K02):Prop:=lln j.fCtx∧j.fBudgets.length ≤ 9223372036854775807∧tln j.fTerm∧j.fType.length ≤ 9223372036854775807∧j.fFrom.length ≤ 9223372036854775807
theorem Kwl (left:Int) (m n:Nat) (h:(m:Int) ≤ left):szB (left - (m:Int)) n=szB left (m + n):=by
 unfold szB
 rw [show left - (m:Int) - (n:Int)=left - ((m + n:Nat):Int) by omega]
theorem Kwm (left:Int) (m n:Nat) (h:left < (m:Int)):szB left (m + n)=-1:=by unfold szB; rw [if_pos (by omega)]
theorem Kwn (j:K02) (left:Int) (hj:jln j) (h1:0 ≤ left) (h2:left ≤ 1048576):Ka1 (j,left)=some (szB left (jms j)):=by
 obtain ⟨l1,l2,l3,l4,l5⟩:=hj
 unfold Ka1 jms
 simp only
 rw [Kwi j.fCtx left l1 h1 h2,bs]
 rcases Ku4 left (lms j.fCtx) with ⟨e,q⟩ | ⟨e,q⟩
 ·rw [e,Kwm left _ _ (by omega)]; rfl
 rw [e,decide_eq_false (by omega),if_neg (by decide),Ku5 _ _ (by omega) (by omega) l2,bs,Kwl _ _ _ (by omega)]
 rcases Ku4 left (lms j.fCtx + j.fBudgets.length) with ⟨e,q⟩ | ⟨e,q⟩
 ·rw [e,Kwm left _ _ (by omega)]; rfl
 rw [e,decide_eq_false (by omega),if_neg (by decide),Ku7 _ _ l3 (by omega) (by omega),bs,Kwl _ _ _ (by omega)]
 rcases Ku4 left (lms j.fCtx + j.fBudgets.length + tms j.fTerm) with ⟨e,q⟩ | ⟨e,q⟩
 ·rw [e,Kwm left _ _ (by omega)]; rfl
 rw [e,decide_eq_false (by omega),if_neg (by decide),Ku5 _ _ (by omega) (by omega) l4,bs,Kwl _ _ _ (by omega)]
 rcases Ku4 left (lms j.fCtx + j.fBudgets.length + tms j.fTerm + j.fType.length) with ⟨e,q⟩ | ⟨e,q⟩
 ·rw [e,Kwm left _ _ (by omega)]; rfl
 rw [e,decide_eq_false (by omega),if_neg (by decide),Ku5 _ _ (by omega) (by omega) l5,bs,Kwl _ _ _ (by omega)]
 rcases Ku4 left (lms j.fCtx + j.fBudgets.length + tms j.fTerm + j.fType.length + j.fFrom.length) with ⟨e,q⟩ | ⟨e,q⟩
 ·rw [e]; rfl
 ·rw [e,decide_eq_false (by omega),if_neg (by decide)]
theorem Kwo (j:K02) (h:jms j ≤ 1099511627776):Kba j=some j:=by
 unfold jms at h
 unfold Kba
 rw [Kwk j.fCtx (by omega),bs,Kr3 j.fBudgets (by omega),bs,Ku9 j.fTerm (by omega),bs,Kr3 j.fType (by omega),bs,Kr3 j.fFrom (by omega),bs]
theorem Kwp (j:K02) (h:jms j ≤ 1099511627776):Kqj (j,j)=some true:=by
 unfold jms at h
 unfold Kqj
 simp only
 rw [Kvz j.fCtx (Kwg (by omega)),bs,if_pos rfl,Kr8 j.fBudgets (by omega),bs,if_pos rfl,Kub j.fTerm (by omega),bs,if_pos rfl,Kr8 j.fType (by omega),bs,if_pos rfl,Kr8 j.fFrom (by omega),bs,if_pos rfl]
theorem Kwq {s:K00} (ty:List Int) (h:ty.length ≤ 1099511627776):Kkd (ty,s)=some (Kvg s ty):=by
 unfold Kkd
 simp only
 rw [Kvi s ty h,bs]
mutual
theorem Kwr (s:K00):∀ (t:K01) (n nodes:Nat),tms t ≤ 1099511627776→n + 2 * tms t ≤ 35184372088832→nodes ≤ 400→Kkk (t,(n:Int),s,s,(nodes:Int))=some (Ku3 (tOk (Kvd s) (Kvg s) n t) nodes (tsz t))
 | ⟨op,N,ty,ks⟩,n,nodes,ht,hn,hd=>by
  rw [tms] at ht hn
  rw [Kkk.eq_def,tOk,tsz]
  simp only
  rw [Ktq,bs]
  unfold Ktp
  cases hop:inB op 0 12
  ·simp [Ktx,hop,Ku3]
  ·simp only [if_true]
   rw [Kqy (by omega)]
   by_cases h4:nodes + 1 ≤ 400
   ·rw [decide_eq_false (by omega:¬ ((nodes + 1:Nat):Int) > 400)]
    by_cases hk:(ks.length:Int)=Kth op
    ·rw [show ((ks.length:Int) != Kth op)=false by rw [hk]; exact Kr6]
     simp only [Bool.false_eq_true,if_false,bs]
     refine (Kt7 (x:=Ktv (Kvd s) (n:Int) ⟨op,N,ty,ks⟩) ?_).trans ?_
     ·unfold Ktv
      simp only [iIn,Kqw (x:=(n:Int) - 1) (by omega) (by omega),Kve,bs]
      cases op == 0 <;> cases op == 1 <;> cases Kti op <;> rfl
     refine (Kt7 (x:=Ktv (Kvd s) (n:Int) ⟨op,N,ty,ks⟩ && Ktw (Kvg s) ⟨op,N,ty,ks⟩) ?_).trans ?_
     ·unfold Ktw
      simp only [Kwq ty (by omega),bs]
      cases Ktj op <;> cases Ktv (Kvd s) (n:Int) ⟨op,N,ty,ks⟩ <;> rfl
     have e:Ktx (Kvd s) (Kvg s) (n:Int) ⟨op,N,ty,ks⟩=(Ktv (Kvd s) (n:Int) ⟨op,N,ty,ks⟩ && Ktw (Kvg s) ⟨op,N,ty,ks⟩):=by
      unfold Ktx
      simp only
      rw [hop,hk]; simp
     rw [e]
     cases Ktv (Kvd s) (n:Int) ⟨op,N,ty,ks⟩ && Ktw (Kvg s) ⟨op,N,ty,ks⟩
     ·simp [Ku3]
     ·have h:=Kws s ks ⟨op,N,ty,ks⟩ n (nodes + 1) 0 rfl (by simp only; omega) (by omega) (by omega) h4
      rw [if_pos rfl,show (0:Int)=((0:Nat):Int) from rfl,h]
      simp only [Bool.true_and]
      unfold Ku3
      rw [show nodes + (1 + Kt8 ks)=nodes + 1 + Kt8 ks by omega]
      cases Kty (Kvd s) (Kvg s) op n 0 ks && decide (nodes + 1 + Kt8 ks ≤ 400) <;> rfl
    ·rw [show ((ks.length:Int) != Kth op)=true by simpa using hk]
     have e:Ktx (Kvd s) (Kvg s) (n:Int) ⟨op,N,ty,ks⟩=false:=by
      unfold Ktx
      simp only
      rw [show ((ks.length:Int) == Kth op)=false by simpa using hk]; simp
     simp [e,Ku3]
   ·rw [decide_eq_true (by omega:((nodes + 1:Nat):Int) > 400)]
    have:¬ nodes + (1 + Kt8 ks) ≤ 400:=by omega
    simp [Ku3,this]
theorem Kws (s:K00):∀ (ks:List K01) (t:K01) (n nodes i:Nat),t.fKids.drop i=ks→t.fKids.length ≤ 1099511627776→Kt9 ks ≤ 1099511627776→n + 2 * (ks.length + Kt9 ks) ≤ 35184372088832→nodes ≤ 400 →
  Kkl (t,(n:Int),s,s,(nodes:Int),(i:Int))=some (if Kty (Kvd s) (Kvg s) t.fOp n i ks && decide (nodes + Kt8 ks ≤ 400) then .inl ((nodes + Kt8 ks:Nat):Int) else .inr 401)
 | [],t,n,nodes,i,hd,hk,ht,hn,h4=>by
  rw [Kkl.eq_def,Kty,Kt8]
  simp only
  rw [Kr0 (Kse hd)]
  simp [h4]
 | k :: ks,t,n,nodes,i,hd,hk,ht,hn,h4=>by
  obtain ⟨hi,hx,hd'⟩:=Ksd hd
  rw [Kt9] at ht hn
  rw [List.length_cons] at hn
  have ha:=Kts t.fOp (i:Int)
  rw [Kkl.eq_def,Kty,Kt8]
  simp only
  rw [Kqz hi,if_pos rfl,hx,bs,Ktu,bs,Kqw (by omega) (by omega),show (n:Int) + ((Ktr t.fOp (i:Int):Nat):Int)=((n + Ktr t.fOp (i:Int):Nat):Int) by omega]
  rw [Kwr s k (n + Ktr t.fOp (i:Int)) nodes (by omega) (by omega) h4,bs,Kqy (by omega)]
  unfold Ku3
  cases tOk (Kvd s) (Kvg s) (n + Ktr t.fOp (i:Int)) k
  ·rfl
  ·by_cases q:nodes + tsz k ≤ 400
   ·rw [decide_eq_true q,Bool.true_and,if_pos rfl,decide_eq_false (by omega:¬ ((nodes + tsz k:Nat):Int) > 400),if_neg (by decide),Kws s ks t n (nodes + tsz k) (i + 1) hd' hk (by omega) (by omega) q,Nat.add_assoc,Bool.true_and]
   ·rw [decide_eq_false q,decide_eq_false (by omega:¬ nodes + (tsz k + Kt8 ks) ≤ 400)]
    simp
end
theorem Kwt {s:K00} {n:Nat} (h:Tab s n):Kvd s=gN s.fSize true:=by
 funext x
 rw [Kvj h,h.size]
 unfold inB gN
 by_cases h0:x ≥ 0
 ·rw [decide_eq_true h0,decide_eq_false (by omega:¬ x < -1),decide_eq_false (by omega:¬ x < 0)]
  by_cases h1:x ≤ (n:Int) - 1
  ·rw [decide_eq_true h1,decide_eq_false (by omega:¬ x ≥ (n:Int))]; rfl
  ·rw [decide_eq_false h1,decide_eq_true (by omega:x ≥ (n:Int))]; rfl
 ·rw [decide_eq_false h0,decide_eq_true (by omega:x < 0)]; simp
def Kwu (s:K00):List (List Int)→List Int→Bool
 | [],_=>true
 | _ :: _,[]=>true
 | c :: cs,b :: bl=>inB b 0 (wr (s.fSize - 1)) && Kvg s c && Kwu s cs bl
theorem Kwv (s:K00) {n:Nat} (T:Tab s n) (j:K02) (hl:j.fBudgets.length=j.fCtx.length) (hc:lok j.fCtx):∀ (cs:List (List Int)) (bl:List Int) (i:Nat),j.fCtx.drop i=cs→j.fBudgets.drop i=bl→Kf4 (s,j,(i:Int))=some (if Kwu s cs bl then .inl () else .inr false):=by
 have hc1:=hc.1
 intro cs
 induction cs with
 | nil =>
  intro bl i h1 h2
  have:=Kse h1
  rw [Kf4.eq_def]
  simp only
  rw [Kr0 (by omega),Kwu]; rfl
 | cons c cs ih =>
  intro bl i h1 h2
  obtain ⟨hi,hx,hd⟩:=Ksd h1
  cases bl with
  | nil=>have:=Kse h2; omega
  | cons b bl =>
   obtain ⟨hi2,hx2,hd2⟩:=Ksd h2
   have hm:c ∈ j.fCtx:=List.mem_of_mem_drop (h1 ▸ List.mem_cons_self)
   have hcl:=Kvx hm
   have hc2:=hc.2
   rw [Kf4.eq_def,Kwu]
   simp only
   rw [Kqz hi2,if_pos rfl,hx2,hx]
   simp only [bs]
   rw [sIn,bs,Kt0 c (by omega),Kt6 c (by omega),Kqy (by omega),ih bl (i + 1) hd hd2]
   have e:Kvg s c=(wtB c && c.all (Kt3 s.fSize true)):=by rw [Kvl T]; rfl
   rw [e]
   cases inB b 0 (wr (s.fSize - 1)) <;> cases wtB c <;> cases c.all (Kt3 s.fSize true) <;> rfl
theorem Kww (s:K00) (j:K02) (hl:j.fBudgets.length=j.fCtx.length) (hc:lok j.fCtx):∀ (cs:List (List Int)) (bl:List Int) (i:Nat),j.fCtx.drop i=cs→j.fBudgets.drop i=bl→Kkt (s,j,(i:Int))=some (if Kwu s cs bl then .inl () else .inr false):=by
 have hc1:=hc.1
 intro cs
 induction cs with
 | nil =>
  intro bl i h1 h2
  have:=Kse h1
  rw [Kkt.eq_def]
  simp only
  rw [Kr0 (by omega),Kwu]; rfl
 | cons c cs ih =>
  intro bl i h1 h2
  obtain ⟨hi,hx,hd⟩:=Ksd h1
  cases bl with
  | nil=>have:=Kse h2; omega
  | cons b bl =>
   obtain ⟨hi2,hx2,hd2⟩:=Ksd h2
   have hm:c ∈ j.fCtx:=List.mem_of_mem_drop (h1 ▸ List.mem_cons_self)
   have hcl:=Kvx hm
   have hc2:=hc.2
   rw [Kkt.eq_def,Kwu]
   simp only
   rw [Kqz hi,if_pos rfl,hx,bs,hx2,Kvi s c (by omega),Kqy (by omega),ih bl (i + 1) hd hd2]
   simp only [bs,Kve]
   rw [show inB b 0 (wr (s.fSize - 1))=Kvd s b from rfl]
   cases Kvd s b <;> cases Kvg s c <;> rfl
def Kwx (s:K00) (j:K02):Bool:=decide (j.fCtx.length ≤ 400) && (j.fBudgets.length == j.fCtx.length) && Kvg s j.fType && Kwu s j.fCtx j.fBudgets && (tOk (Kvd s) (Kvg s) j.fCtx.length j.fTerm && decide (tsz j.fTerm ≤ 400))
theorem Kwy (b:Bool) (m:Nat):decide (Ku3 b 0 m ≤ 400)=(b && decide (m ≤ 400)):=by
 unfold Ku3
 rw [Nat.zero_add]
 by_cases h:m ≤ 400
 ·rw [decide_eq_true h,Bool.and_true]
  cases b
  ·rfl
  ·rw [if_pos rfl,decide_eq_true (by omega)]
 ·rw [decide_eq_false h,Bool.and_false]; rfl
theorem Kwz (s:K00) (j:K02) (hj:jms j ≤ 1099511627776):Kkw (s,j)=some (Kwx s j):=by
 unfold jms lms at hj
 unfold Kkw Kwx
 simp only
 by_cases h1:j.fCtx.length ≤ 400
 ·rw [decide_eq_false (by omega),decide_eq_true h1,if_neg (by decide)]
  by_cases h2:j.fBudgets.length=j.fCtx.length
  ·rw [h2,Kr6,if_neg (by decide),Kvi s _ (by omega),bs,bs,beq_self_eq_true]
   cases Kvg s j.fType
   ·rfl
   ·have hl:=Kww s j h2 ⟨by omega,by omega⟩ j.fCtx j.fBudgets 0 rfl rfl
    have hk:=Kwr s j.fTerm j.fCtx.length 0 (by omega) (by omega) (by decide)
    rw [show ((0:Nat):Int)=0 from rfl] at hl hk
    rw [hl,hk]
    cases Kwu s j.fCtx j.fBudgets
    ·rfl
    ·simp only [Bool.not_true,Bool.false_eq_true,if_false,if_true,bs,Bool.true_and,Bool.and_true]
     rw [Kwy]
  ·rw [bne_iff_ne.2 (by omega),beq_eq_false_iff_ne.2 h2]; rfl
 ·rw [decide_eq_true (by omega),decide_eq_false h1]; rfl
mutual
def tEq:K01→K01→Bool
 | ⟨o,N,t,k⟩,⟨o',N',t',k'⟩=>o == o' && N == N' && t == t' && (k.length == k'.length) && Kx0 k k'
def Kx0:List K01→List K01→Bool
 | [],_=>true
 | _ :: _,[]=>false
 | a :: k,b :: k'=>tEq a b && Kx0 k k'
end
mutual
theorem Kx1:∀ (a b:K01),tms a ≤ 1099511627776→tms b ≤ 1099511627776→Kfi (a,b)=some (tEq a b)
 | ⟨o,N,t,k⟩,⟨o',N',t',k'⟩,ha,hb=>by
  rw [tms] at ha hb
  rw [Kfi.eq_def,tEq]
  simp only
  rw [Kw6 t t' (by omega)]
  by_cases h1:o=o'
  ·by_cases h2:N=N'
   ·subst h1 h2
    rw [Kr6,Kr6,beq_self_eq_true,beq_self_eq_true]
    cases t == t'
    ·rfl
    ·by_cases h4:k.length=k'.length
     ·have hl:=Kx2 k k' ⟨o,N,t,k⟩ ⟨o,N,t',k'⟩ 0 rfl rfl h4 (by simp only; omega) (by omega) (by omega)
      rw [show ((0:Nat):Int)=0 from rfl] at hl
      simp only [Bool.false_eq_true,if_false,if_true,bs]
      rw [show ((k.length:Int) != (k'.length:Int))=false by rw [h4]; exact Kr6,if_neg (by decide),hl,bs,beq_iff_eq.2 h4]
      cases Kx0 k k' <;> rfl
     ·simp only [Bool.false_eq_true,if_false,if_true,bs]
      rw [bne_iff_ne.2 (by omega),if_pos rfl,beq_eq_false_iff_ne.2 h4]; rfl
   ·rw [bne_iff_ne.2 h2,beq_eq_false_iff_ne.2 h2]
    cases o != o' <;> cases o == o' <;> rfl
  ·rw [bne_iff_ne.2 h1,beq_eq_false_iff_ne.2 h1]; rfl
theorem Kx2:∀ (ks js:List K01) (a b:K01) (i:Nat),a.fKids.drop i=ks→b.fKids.drop i=js→ks.length=js.length→a.fKids.length ≤ 1099511627776→Kt9 ks ≤ 1099511627776→Kt9 js ≤ 1099511627776→Kfj (a,b,(i:Int))=some (if Kx0 ks js then .inl () else .inr false)
 | [],js,a,b,i,h1,h2,hl,hk,m1,m2=>by
  rw [Kfj.eq_def,Kx0]
  simp only
  rw [Kr0 (Kse h1)]; rfl
 | x :: ks,[],a,b,i,h1,h2,hl,hk,m1,m2=>by simp at hl
 | x :: ks,y :: js,a,b,i,h1,h2,hl,hk,m1,m2=>by
  obtain ⟨hi,hx,hd⟩:=Ksd h1
  obtain ⟨_,hy,hd2⟩:=Ksd h2
  rw [Kt9] at m1 m2
  rw [Kfj.eq_def,Kx0]
  simp only
  rw [Kqz hi,if_pos rfl,hx,bs,hy,bs,Kx1 x y (by omega) (by omega),bs,Kqy (by omega),Kx2 ks js a b (i + 1) hd hd2 (by simpa using hl) hk (by omega) (by omega)]
  cases tEq x y <;> rfl
end
def Kx3 (l:List Nat):List Int:=l.map fun x:Nat=>(x:Int)
theorem Kx4 (l:List Nat):(Kx3 l).length=l.length:=List.length_map ..
theorem Kx5 (l:List Nat) (i:Nat):(Kx3 l).drop i=Kx3 (l.drop i):=(List.map_drop ..).symm
theorem Kx6 (l:List Nat) (i:Nat):(Kx3 l).take i=Kx3 (l.take i):=(List.map_take ..).symm
theorem Kx7 {l r:List Nat} {x i:Nat} (h:l.drop i=x :: r):i < l.length∧idx (Kx3 l) (i:Int)=some (x:Int)∧l.drop (i + 1)=r:=by
 have h2:(Kx3 l).drop i=(x:Int) :: Kx3 r:=by rw [Kx5,h]; rfl
 obtain ⟨q1,q2,q3⟩:=Ksd h2
 rw [Kx4] at q1
 refine ⟨q1,q2,?_⟩
 rw [← List.drop_drop,h]
 rfl
structure Kx8 (s:K00) (n:Nat):Prop where
 tab:Tab s n
 one:∀ a,a < n→Krq s n a=true
 two:∀ a b,a < n→b < n→Ks3 s n a b=true
theorem Kx9 {s:K00} (h:Kut s=true):Kx8 s s.fSize.toNat:=by
 have ht:=Kuu h
 unfold Kut at h
 simp only [Bool.and_eq_true] at h
 have hm:=h.2
 unfold Ks6 at hm
 rw [List.all_eq_true] at hm
 refine ⟨ht,fun a ha=>?_,fun a b ha hb=>?_⟩
 ·have:=hm a (by rw [List.mem_range'_1]; omega)
  simp only [Bool.and_eq_true] at this
  exact this.1
 ·have:=hm a (by rw [List.mem_range'_1]; omega)
  simp only [Bool.and_eq_true,List.all_eq_true] at this
  exact (this.2 b (by rw [List.mem_range'_1]; omega)).1
section
variable {s:K00} {n:Nat} (hs:Kx8 s n)
include hs
theorem Kxa:1 < n:=by have:=hs.tab.lo; omega
theorem Kxb:0 < n:=by have:=hs.tab.lo; omega
theorem Kxc {a:Nat} (ha:a < n):pl s n 0 a=a:=by
 have:=hs.one a ha
 simp only [Krq,Bool.and_eq_true,beq_iff_eq] at this
 exact this.1.1.1.1.1
theorem Kxd {a:Nat} (ha:a < n):ti s n 1 a=a:=by
 have:=hs.one a ha
 simp only [Krq,Bool.and_eq_true,beq_iff_eq] at this
 exact this.1.1.1.1.2
def Kxe (s:K00) (n a b:Nat):Nat:=(Krw s n a b).toNat
theorem Kxf {a b:Nat} (ha:a < n) (hb:b < n):Krw s n a b=((Kxe s n a b:Nat):Int)∧Kxe s n a b < n:=by
 have h:=hs.two a b ha hb
 simp only [Ks3,Bool.and_eq_true,decide_eq_true_eq] at h
 have h0:=h.2
 unfold Kxe
 refine ⟨by omega,?_⟩
 unfold Krw at h0 ⊢
 cases hf:(List.range' 0 n).find? (jok s n a b) with
 | none=>rw [hf] at h0; exact absurd h0 (by decide)
 | some g =>
  have:=List.mem_of_find?_eq_some hf
  rw [List.mem_range'_1] at this
  simp only [Int.toNat_natCast]
  omega
end
def Kxg (s:K00) (n:Nat) (a b:List Nat):List Nat:=List.zipWith (pl s n) a b
def Kxh (s:K00) (n g:Nat) (a:List Nat):List Nat:=a.map (ti s n g)
def Kxi (s:K00) (n:Nat) (a b:List Nat):List Nat:=List.zipWith (Kxe s n) a b
def Kxj (n:Nat) (l:List Nat):Prop:=∀ x ∈ l,x < n
theorem Kxk (n:Nat):Kxj n []:=fun _ h=>by cases h
theorem Kxl {n x:Nat} {l:List Nat} (h:Kxj n (x :: l)):x < n∧Kxj n l:=⟨h x List.mem_cons_self,fun y hy=>h y (List.mem_cons_of_mem _ hy)⟩
theorem Kxm {n:Nat} {l:List Nat} (h:Kxj n l) (i:Nat):Kxj n (l.drop i):=fun x hx=>h x (List.mem_of_mem_drop hx)
section
variable {s:K00} {n:Nat} (hs:Kx8 s n)
include hs
theorem Kxn:∀ {a b:List Nat},Kxj n a→Kxj n b→Kxj n (Kxg s n a b)
 | [],_,_,_=>fun x hx=>by cases hx
 | _ :: _,[],_,_=>fun x hx=>by cases hx
 | x :: a,y :: b,ha,hb=>fun z hz=>by
  obtain ⟨h1,h2⟩:=Kxl ha
  obtain ⟨h3,h4⟩:=Kxl hb
  rcases List.mem_cons.1 hz with rfl | hz
  ·exact Krf hs.tab h1 h3
  ·exact Kxn h2 h4 z hz
theorem Kxo {g:Nat} (hg:g < n) {a:List Nat} (ha:Kxj n a):Kxj n (Kxh s n g a):=fun x hx=>by
 obtain ⟨y,hy,rfl⟩:=List.mem_map.1 hx
 exact Krg hs.tab hg (ha y hy)
theorem Kxp:∀ {a b:List Nat},Kxj n a→Kxj n b→Kxj n (Kxi s n a b)
 | [],_,_,_=>fun x hx=>by cases hx
 | _ :: _,[],_,_=>fun x hx=>by cases hx
 | x :: a,y :: b,ha,hb=>fun z hz=>by
  obtain ⟨h1,h2⟩:=Kxl ha
  obtain ⟨h3,h4⟩:=Kxl hb
  rcases List.mem_cons.1 hz with rfl | hz
  ·exact (Kxf hs h1 h3).2
  ·exact Kxp h2 h4 z hz
theorem Kxq {a:List Nat} (ha:Kxj n a):Kxh s n 1 a=a:=by
 induction a with
 | nil=>rfl
 | cons x a ih =>
  obtain ⟨h1,h2⟩:=Kxl ha
  show ti s n 1 x :: Kxh s n 1 a=_
  rw [Kxd hs h1,ih h2]
theorem Kxr {a:List Nat} (ha:Kxj n a):Kxg s n (List.replicate a.length 0) a=a:=by
 induction a with
 | nil=>rfl
 | cons x a ih =>
  obtain ⟨h1,h2⟩:=Kxl ha
  show pl s n 0 x :: Kxg s n (List.replicate a.length 0) a=_
  rw [Kxc hs h1,ih h2]
theorem Kxs (g:Nat) (hg:g < n) (a b:List Nat) (ha:Kxj n a) (hb:Kxj n b) (hl:a.length ≤ 1099511627776):∀ (al bl:List Nat) (i:Nat) (out:List Int),a.drop i=al→b.drop i=bl→al.length=bl.length→out.length + al.length ≤ 1099511627776 →
  Kgm (s,Kx3 a,(g:Int),Kx3 b,out,(i:Int))=some (out ++ Kx3 (Kxg s n al (Kxh s n g bl))):=by
 intro al
 induction al with
 | nil =>
  intro bl i out hd _ _ _
  rw [Kgm.eq_def]
  simp only
  rw [Kx4,Kr0 (Kse hd)]
  simp [Kxg,Kx3]
 | cons x al ih =>
  intro bl i out hd hd2 hll ho
  cases bl with
  | nil=>simp at hll
  | cons y bl =>
   obtain ⟨h1,h2,h3⟩:=Kx7 hd
   obtain ⟨k1,k2,k3⟩:=Kx7 hd2
   have hx:x < n:=Kxm ha i x (by rw [hd]; exact List.mem_cons_self)
   have hy:y < n:=Kxm hb i y (by rw [hd2]; exact List.mem_cons_self)
   rw [Kgm.eq_def]
   simp only
   simp only [List.length_cons] at ho hll
   rw [Kx4,Kqz h1,if_pos rfl,h2,bs,k2,bs,Krl hs.tab hg hy,bs,Krk hs.tab hx (Krg hs.tab hg hy),bs,Kuf (by simp; omega),bs,Kqy (by omega),ih bl (i + 1) _ h3 k3 (by omega) (by simp; omega)]
   rw [List.append_assoc]
   rfl
theorem Kxt (g:Nat) (hg:g < n) (a b:List Nat) (ha:Kxj n a) (hb:Kxj n b) (hl:a.length ≤ 1048576) (hab:a.length=b.length):Kgp (s,Kx3 a,(g:Int),Kx3 b)=some (Kx3 (Kxg s n a (Kxh s n g b))):=by
 unfold Kgp
 simp only
 rw [show (0:Int)=((0:Nat):Int) from rfl,Kxs hs g hg a b ha hb (by omega) a b 0 [] rfl rfl hab (by simp; omega)]
 rfl
theorem Kxu (a b:List Nat) (ha:Kxj n a) (hb:Kxj n b) (hl:a.length ≤ 1048576) (hab:a.length=b.length):Kgp (s,Kx3 a,1,Kx3 b)=some (Kx3 (Kxg s n a b)):=by
 have:=Kxt hs 1 (Kxa hs) a b ha hb hl hab
 rw [Kxq hs hb] at this
 exact this
theorem Kxv (a b:List Nat) (ha:Kxj n a) (hb:Kxj n b) (hl:a.length ≤ 1099511627776):∀ (al bl:List Nat) (i:Nat) (out:List Int),a.drop i=al→b.drop i=bl→al.length=bl.length→out.length + al.length ≤ 1099511627776 →
  Kgw (s,Kx3 a,Kx3 b,out,(i:Int))=some (out ++ Kx3 (Kxi s n al bl)):=by
 intro al
 induction al with
 | nil =>
  intro bl i out hd _ _ _
  rw [Kgw.eq_def]
  simp only
  rw [Kx4,Kr0 (Kse hd)]
  simp [Kxi,Kx3]
 | cons x al ih =>
  intro bl i out hd hd2 hll ho
  cases bl with
  | nil=>simp at hll
  | cons y bl =>
   obtain ⟨h1,h2,h3⟩:=Kx7 hd
   obtain ⟨k1,k2,k3⟩:=Kx7 hd2
   have hx:x < n:=Kxm ha i x (by rw [hd]; exact List.mem_cons_self)
   have hy:y < n:=Kxm hb i y (by rw [hd2]; exact List.mem_cons_self)
   rw [Kgw.eq_def]
   simp only
   simp only [List.length_cons] at ho hll
   rw [Kx4,Kqz h1,if_pos rfl,h2,bs,k2,bs,Ks1 hs.tab hx hy,bs,(Kxf hs hx hy).1,Kuf (by simp; omega),bs,Kqy (by omega),ih bl (i + 1) _ h3 k3 (by omega) (by simp; omega)]
   rw [List.append_assoc]
   rfl
theorem Kxw (a b:List Nat) (ha:Kxj n a) (hb:Kxj n b) (hl:a.length ≤ 1048576) (hab:a.length=b.length):Kgz (s,Kx3 a,Kx3 b)=some (Kx3 (Kxi s n a b)):=by
 unfold Kgz
 simp only
 rw [show (0:Int)=((0:Nat):Int) from rfl,Kxv hs a b ha hb (by omega) a b 0 [] rfl rfl hab (by simp; omega)]
 rfl
end
theorem Kxx {α:Type} {out:List α} {i:Nat} (h:i < out.length) (x:α):(out.set i x).take (i + 1)=out.take i ++ [x]:=by
 rw [List.take_set,List.take_succ_eq_append_getElem h,List.set_append_right _ _ (by simp; omega)]
 simp [Nat.min_eq_left (Nat.le_of_lt h)]
section
variable {s:K00} {n:Nat} (hs:Kx8 s n)
include hs
theorem Kxy (a b:List Nat) (ha:Kxj n a) (hb:Kxj n b) (hl:a.length ≤ 1099511627776):∀ (al bl:List Nat) (i:Nat) (out:List Int),a.drop i=al→b.drop i=bl→al.length=bl.length→out.length=a.length →
  Kmq (s,Kx3 a,Kx3 b,out,(i:Int))=some (out.take i ++ Kx3 (Kxg s n al bl)):=by
 intro al
 induction al with
 | nil =>
  intro bl i out hd _ _ ho
  rw [Kmq.eq_def]
  simp only
  have:=Kse hd
  rw [Kx4,Kr0 this]
  simp [Kxg,Kx3,List.take_of_length_le (show out.length ≤ i by omega)]
 | cons x al ih =>
  intro bl i out hd hd2 hll ho
  cases bl with
  | nil=>simp at hll
  | cons y bl =>
   obtain ⟨h1,h2,h3⟩:=Kx7 hd
   obtain ⟨k1,k2,k3⟩:=Kx7 hd2
   have hx:x < n:=Kxm ha i x (by rw [hd]; exact List.mem_cons_self)
   have hy:y < n:=Kxm hb i y (by rw [hd2]; exact List.mem_cons_self)
   rw [Kmq.eq_def]
   simp only
   simp only [List.length_cons] at hll
   have hio:i < out.length:=by omega
   rw [Kx4,Kqz h1,if_pos rfl,h2,bs,k2,bs,Krm hs.tab hx hy,bs,Kqx hio,bs,Kqy (by omega),Int.toNat_natCast,ih bl (i + 1) _ h3 k3 (by omega) (by rw [List.length_set]; exact ho)]
   rw [Kxx hio,List.append_assoc]
   rfl
theorem Kxz (a b:List Nat) (ha:Kxj n a) (hb:Kxj n b) (hl:a.length ≤ 1048576) (hab:a.length=b.length):Kmw (⟨s⟩,Kx3 a,Kx3 b)=some (Kx3 (Kxg s n a b)):=by
 unfold Kmw Kmt
 simp only
 rw [Kx4,Kw3 (by simp; omega),bs,Int.toNat_natCast,show (0:Int)=((0:Nat):Int) from rfl]
 rw [show (List.replicate a.length (((0:Nat):Int)))=List.replicate a.length (0:Int) from rfl,Kxy hs a b ha hb (by omega) a b 0 _ rfl rfl hab (by simp)]
 rfl
theorem Ky0 (a b:List Nat) (ha:Kxj n a) (hb:Kxj n b) (hl:a.length ≤ 1099511627776):∀ (al bl:List Nat) (i:Nat) (out:List Int),a.drop i=al→b.drop i=bl→al.length=bl.length→out.length=a.length →
  Kn3 (s,Kx3 a,Kx3 b,out,(i:Int))=some (out.take i ++ Kx3 (Kxi s n al bl)):=by
 intro al
 induction al with
 | nil =>
  intro bl i out hd _ _ ho
  rw [Kn3.eq_def]
  simp only
  have:=Kse hd
  rw [Kx4,Kr0 this]
  simp [Kxi,Kx3,List.take_of_length_le (show out.length ≤ i by omega)]
 | cons x al ih =>
  intro bl i out hd hd2 hll ho
  cases bl with
  | nil=>simp at hll
  | cons y bl =>
   obtain ⟨h1,h2,h3⟩:=Kx7 hd
   obtain ⟨k1,k2,k3⟩:=Kx7 hd2
   have hx:x < n:=Kxm ha i x (by rw [hd]; exact List.mem_cons_self)
   have hy:y < n:=Kxm hb i y (by rw [hd2]; exact List.mem_cons_self)
   rw [Kn3.eq_def]
   simp only
   simp only [List.length_cons] at hll
   have hio:i < out.length:=by omega
   rw [Kx4,Kqz h1,if_pos rfl,h2,bs,k2,bs,Ks2 hs.tab hx hy,bs,(Kxf hs hx hy).1,Kqx hio,bs,Kqy (by omega),Int.toNat_natCast,ih bl (i + 1) _ h3 k3 (by omega) (by rw [List.length_set]; exact ho)]
   rw [Kxx hio,List.append_assoc]
   rfl
theorem Ky1 (a b:List Nat) (ha:Kxj n a) (hb:Kxj n b) (hl:a.length ≤ 1048576) (hab:a.length=b.length):Kn9 (⟨s⟩,Kx3 a,Kx3 b)=some (Kx3 (Kxi s n a b)):=by
 unfold Kn9 Kn6
 simp only
 rw [Kx4,Kw3 (by simp; omega),bs,Int.toNat_natCast,show (0:Int)=((0:Nat):Int) from rfl]
 rw [show (List.replicate a.length (((0:Nat):Int)))=List.replicate a.length (0:Int) from rfl,Ky0 hs a b ha hb (by omega) a b 0 _ rfl rfl hab (by simp)]
 rfl
theorem Ky2 (g:Nat) (hg:g < n) (a:List Nat) (ha:Kxj n a) (hl:a.length ≤ 1099511627776):∀ (al:List Nat) (i:Nat) (out:List Int),a.drop i=al→out.length=a.length →
  Ko7 (⟨s⟩,(g:Int),Kx3 a,out,(i:Int))=some (out.take i ++ Kx3 (Kxh s n g al)):=by
 intro al
 induction al with
 | nil =>
  intro i out hd ho
  rw [Ko7.eq_def]
  simp only
  have:=Kse hd
  rw [Kx4,Kr0 this]
  simp [Kxh,Kx3,List.take_of_length_le (show out.length ≤ i by omega)]
 | cons x al ih =>
  intro i out hd ho
  obtain ⟨h1,h2,h3⟩:=Kx7 hd
  have hx:x < n:=Kxm ha i x (by rw [hd]; exact List.mem_cons_self)
  rw [Ko7.eq_def]
  simp only
  have hio:i < out.length:=by omega
  rw [Kx4,Kqz h1,if_pos rfl,h2,bs,Krn hs.tab hg hx,bs,Kqx hio,bs,Kqy (by omega),Int.toNat_natCast,ih (i + 1) _ h3 (by rw [List.length_set]; exact ho)]
  rw [Kxx hio,List.append_assoc]
  rfl
theorem Ky3 (g:Nat) (hg:g < n) (a:List Nat) (ha:Kxj n a) (hl:a.length ≤ 1048576):Koa (⟨s⟩,(g:Int),Kx3 a)=some (Kx3 (Kxh s n g a)):=by
 unfold Koa
 simp only
 rw [Kx4,Kw3 (by simp; omega),bs,Int.toNat_natCast,show (0:Int)=((0:Nat):Int) from rfl]
 rw [show (List.replicate a.length (((0:Nat):Int)))=List.replicate a.length (0:Int) from rfl,Ky2 hs g hg a ha (by omega) a 0 _ rfl (by simp)]
 rfl
theorem Ky4 (g:Nat) (hg:g < n) (a:List Nat) (ha:Kxj n a) (hl:a.length ≤ 1099511627776):∀ (al:List Nat) (i:Nat),a.drop i=al →
  ∃ r,Knu (Kx3 a,⟨s⟩,(g:Int),(i:Int))=some r∧(match r with | .inl _=>(al.all fun x=>le s n x g)=true | .inr j=>(al.all fun x=>le s n x g)=false∧0 ≤ j):=by
 intro al
 induction al with
 | nil =>
  intro i hd
  rw [Knu.eq_def]
  simp only
  rw [Kx4,Kr0 (Kse hd)]
  exact ⟨_,rfl,rfl⟩
 | cons x al ih =>
  intro i hd
  obtain ⟨h1,h2,h3⟩:=Kx7 hd
  have hx:x < n:=Kxm ha i x (by rw [hd]; exact List.mem_cons_self)
  rw [Knu.eq_def]
  simp only
  rw [Kx4,Kqz h1,if_pos rfl,h2,bs]
  unfold Knq
  simp only
  rw [iLe hs.tab hx hg]
  simp only [bs]
  cases hle:le s n x g with
  | true =>
   obtain ⟨r,hr,hm⟩:=ih (i + 1) h3
   refine ⟨r,?_,?_⟩
   ·rw [if_neg (by simp),Kqy (by omega)]; exact hr
   ·rw [List.all_cons,hle,Bool.true_and]; exact hm
  | false =>
   exact ⟨_,if_pos rfl,by simp [List.all_cons,hle]⟩
theorem Ky5 (g:Nat) (hg:g < n) (a:List Nat) (ha:Kxj n a) (hl:a.length ≤ 1048576):Ko3 (⟨s⟩,Kx3 a,(g:Int))=some (a.all fun x=>le s n x g):=by
 obtain ⟨r,hr,hm⟩:=Ky4 hs g hg a ha (by omega) a 0 rfl
 unfold Ko3 Ko0 Knx
 simp only
 rw [show (0:Int)=((0:Nat):Int) from rfl,hr]
 cases r with
 | inl _=>simp only [bs] at hm ⊢; rw [hm]; rfl
 | inr j =>
  simp only [bs] at hm ⊢
  rw [hm.1,decide_eq_true (by omega)]; rfl
end
end Go.Am
