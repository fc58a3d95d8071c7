/- Plain laws of the printed functions. -/
import Derived.Test.YtckgdfakjjdodaaGreatPWIx
set_option linter.unusedSimpArgs false
set_option linter.unusedVariables false
namespace Go.Am
theorem Kr7 {x:Int} (h1:-9223372036854775808 ≤ x) (h2:x ≤ 9223372036854775807):wr x=x:=by
 unfold wr IntKind.wrap
 simp [IntKind.bits,IntKind.signed]
 omega
theorem Kr8 {α:Type} {l:List α} {n:Nat} (h:n < l.length):idx l (n:Int)=some l[n]:=by
 unfold idx
 rw [if_pos (by omega)]
 simp [h]
theorem bs {α β:Type} (a:α) (f:α→Option β):(some a >>= f)=f a:=rfl
theorem Kr9 {n:Nat} (h:n < 9223372036854775807):wr ((n:Int) + 1)=((n + 1:Nat):Int):=by
 rw [Kr7 (by omega) (by omega)]; omega
theorem Kra {n m:Nat} (h:n < m):decide ((n:Int) < (m:Int))=true:=decide_eq_true (by omega)
theorem Krb {n m:Nat} (h:m ≤ n):decide ((n:Int) < (m:Int))=false:=decide_eq_false (by omega)
theorem Krc {a:Int}:(a != a)=false:=by simp
structure Tab (s:K00) (n:Nat):Prop where
 size:s.fSize=(n:Int)
 lo:2 ≤ n
 hi:n ≤ 16
 lp:s.fPlus.length=n * n
 lt:s.fTimes.length=n * n
 lb:s.fBelow.length=n * n
 rp:∀ i (h:i < s.fPlus.length),0 ≤ s.fPlus[i]∧s.fPlus[i] < (n:Int)
 rt:∀ i (h:i < s.fTimes.length),0 ≤ s.fTimes[i]∧s.fTimes[i] < (n:Int)
def pl (s:K00) (n a b:Nat):Nat:=(s.fPlus.getD (a * n + b) 0).toNat
def ti (s:K00) (n a b:Nat):Nat:=(s.fTimes.getD (a * n + b) 0).toNat
def le (s:K00) (n a b:Nat):Bool:=s.fBelow.getD (a * n + b) false
theorem Krd {n a b:Nat} (ha:a < n) (hb:b < n):a * n + b < n * n:=by
 have:(a + 1) * n ≤ n * n:=Nat.mul_le_mul_right _ (by omega)
 rw [Nat.add_mul,Nat.one_mul] at this
 omega
theorem Kre {n a b:Nat} (hn:n ≤ 16) (ha:a < n) (hb:b < n):wr ((wr ((a:Int) * (n:Int))) + (b:Int))=((a * n + b:Nat):Int):=by
 have h1:a * n ≤ 256:=Nat.le_trans (Nat.mul_le_mul (by omega:a ≤ 16) hn) (by decide)
 have e:(a:Int) * (n:Int)=((a * n:Nat):Int):=by simp
 rw [e]
 generalize a * n=m at h1
 rw [Kr7 (x:=(m:Int)) (by omega) (by omega),Kr7 (by omega) (by omega)]
 omega
section
variable {s:K00} {n:Nat} (h:Tab s n)
include h
theorem Krf {a b:Nat} (ha:a < n) (hb:b < n):pl s n a b < n:=by
 have hl:a * n + b < s.fPlus.length:=by rw [h.lp]; exact Krd ha hb
 unfold pl
 rw [List.getD_eq_getElem?_getD,List.getElem?_eq_getElem hl]
 have:=h.rp _ hl
 simp only [Option.getD_some]
 omega
theorem Krg {a b:Nat} (ha:a < n) (hb:b < n):ti s n a b < n:=by
 have hl:a * n + b < s.fTimes.length:=by rw [h.lt]; exact Krd ha hb
 unfold ti
 rw [List.getD_eq_getElem?_getD,List.getElem?_eq_getElem hl]
 have:=h.rt _ hl
 simp only [Option.getD_some]
 omega
theorem Krh {a b:Nat} (ha:a < n) (hb:b < n):idx s.fPlus ((a * n + b:Nat):Int)=some ((pl s n a b:Nat):Int):=by
 have hl:a * n + b < s.fPlus.length:=by rw [h.lp]; exact Krd ha hb
 rw [Kr8 hl]
 unfold pl
 rw [List.getD_eq_getElem?_getD,List.getElem?_eq_getElem hl]
 have:=h.rp _ hl
 simp only [Option.getD_some]
 congr 1
 omega
theorem Kri {a b:Nat} (ha:a < n) (hb:b < n):idx s.fTimes ((a * n + b:Nat):Int)=some ((ti s n a b:Nat):Int):=by
 have hl:a * n + b < s.fTimes.length:=by rw [h.lt]; exact Krd ha hb
 rw [Kr8 hl]
 unfold ti
 rw [List.getD_eq_getElem?_getD,List.getElem?_eq_getElem hl]
 have:=h.rt _ hl
 simp only [Option.getD_some]
 congr 1
 omega
theorem Krj {a b:Nat} (ha:a < n) (hb:b < n):idx s.fBelow ((a * n + b:Nat):Int)=some (le s n a b):=by
 have hl:a * n + b < s.fBelow.length:=by rw [h.lb]; exact Krd ha hb
 rw [Kr8 hl]
 unfold le
 rw [List.getD_eq_getElem?_getD,List.getElem?_eq_getElem hl]
 rfl
theorem Krk {a b:Nat} (ha:a < n) (hb:b < n):Kbh (s,(a:Int),(b:Int))=some ((pl s n a b:Nat):Int):=by
 unfold Kbh
 simp only
 rw [h.size,Kre h.hi ha hb,Krh h ha hb,bs]
theorem Krl {a b:Nat} (ha:a < n) (hb:b < n):Kbk (s,(a:Int),(b:Int))=some ((ti s n a b:Nat):Int):=by
 unfold Kbk
 simp only
 rw [h.size,Kre h.hi ha hb,Kri h ha hb,bs]
theorem sLe {a b:Nat} (ha:a < n) (hb:b < n):Kbn (s,(a:Int),(b:Int))=some (le s n a b):=by
 unfold Kbn
 simp only
 rw [h.size,Kre h.hi ha hb,Krj h ha hb,bs]
theorem Krm {a b:Nat} (ha:a < n) (hb:b < n):Kix (s,(a:Int),(b:Int))=some ((pl s n a b:Nat):Int):=by
 unfold Kix
 simp only
 rw [h.size,Kre h.hi ha hb,Krh h ha hb,bs]
theorem Krn {a b:Nat} (ha:a < n) (hb:b < n):Kj0 (s,(a:Int),(b:Int))=some ((ti s n a b:Nat):Int):=by
 unfold Kj0
 simp only
 rw [h.size,Kre h.hi ha hb,Kri h ha hb,bs]
theorem iLe {a b:Nat} (ha:a < n) (hb:b < n):Kj3 (s,(a:Int),(b:Int))=some (le s n a b):=by
 unfold Kj3
 simp only
 rw [h.size,Kre h.hi ha hb,Krj h ha hb,bs]
end
theorem Kro (x y:Nat):(((x:Nat):Int) == ((y:Nat):Int))=(x == y):=by
 cases hb:(x == y) with
 | true=>have:=eq_of_beq hb; subst this; simp
 | false=>simp at hb ⊢; omega
theorem Krp (x y:Nat):(((x:Nat):Int) != ((y:Nat):Int))=(x != y):=by
 simp only [bne,Kro]
def Krq (s:K00) (n a:Nat):Bool:=(pl s n 0 a == a) && (ti s n 1 a == a) && (ti s n a 1 == a) && (ti s n 0 a == 0) && (ti s n a 0 == 0) && le s n a a
def Krr (s:K00) (n a b c:Nat):Bool :=
 (pl s n (pl s n a b) c == pl s n a (pl s n b c)) && (ti s n (ti s n a b) c == ti s n a (ti s n b c)) &&
 (ti s n a (pl s n b c) == pl s n (ti s n a b) (ti s n a c)) && (ti s n (pl s n a b) c == pl s n (ti s n a c) (ti s n b c)) &&
 (!(le s n a b) || ((!(le s n b c) || le s n a c) && le s n (pl s n a c) (pl s n b c) && le s n (ti s n a c) (ti s n b c) && le s n (ti s n c a) (ti s n c b)))
section
variable {s:K00} {n:Nat} (h:Tab s n)
include h
theorem Krs {a:Nat} (ha:a < n):Kbq (s,(a:Int))=some (Krq s n a):=by
 have l0:(0:Nat) < n:=by have:=h.lo; omega
 have l1:(1:Nat) < n:=by have:=h.lo; omega
 have e0:(0:Int)=((0:Nat):Int):=rfl
 have e1:(1:Int)=((1:Nat):Int):=rfl
 unfold Kbq Krq
 simp only
 rw [e0,e1]
 simp only [Krk h l0 ha,Krl h l1 ha,Krl h ha l1,Krl h l0 ha,Krl h ha l0,sLe h ha ha,bs,Kro]
 generalize (pl s n 0 a == a)=b1
 generalize (ti s n 1 a == a)=b2
 generalize (ti s n a 1 == a)=b3
 generalize (ti s n 0 a == 0)=b4
 generalize (ti s n a 0 == 0)=b5
 generalize le s n a a=b6
 cases b1 <;> cases b2 <;> cases b3 <;> cases b4 <;> cases b5 <;> cases b6 <;> rfl
theorem Krt {a b c:Nat} (ha:a < n) (hb:b < n) (hc:c < n):Kc7 (s,(a:Int),(b:Int),(c:Int))=some (Krr s n a b c):=by
 unfold Kc7 Krr
 simp only
 simp only [Krk h,Krl h,sLe h,Krf h,Krg h,ha,hb,hc,bs,Krp]
 generalize e1:pl s n (pl s n a b) c=x1
 generalize e2:pl s n a (pl s n b c)=x2
 generalize e3:ti s n (ti s n a b) c=x3
 generalize e4:ti s n a (ti s n b c)=x4
 generalize ti s n a (pl s n b c)=x5
 generalize pl s n (ti s n a b) (ti s n a c)=x6
 generalize ti s n (pl s n a b) c=x7
 generalize pl s n (ti s n a c) (ti s n b c)=x8
 generalize le s n (pl s n a c) (pl s n b c)=y1
 generalize le s n (ti s n a c) (ti s n b c)=y2
 generalize le s n (ti s n c a) (ti s n c b)=y3
 generalize le s n a b=y4
 generalize le s n b c=y5
 generalize le s n a c=y6
 simp only [bne]
 generalize (x1 == x2)=b1
 generalize (x3 == x4)=b2
 generalize (x5 == x6)=b3
 generalize (x7 == x8)=b4
 cases b1 <;> cases b2 <;> cases b3 <;> cases b4 <;> first | rfl | (cases y4 <;> cases y5 <;> cases y6 <;> cases y1 <;> cases y2 <;> cases y3 <;> rfl)
theorem Kru {a b c:Nat} (ha:a < n) (hb:b < n) (hc:c < n):Kjn (s,(a:Int),(b:Int),(c:Int))=some (Krr s n a b c):=by
 unfold Kjn Krr
 simp only
 simp only [Krm h,Krn h,iLe h,Krf h,Krg h,ha,hb,hc,bs,Krp]
 generalize e1:pl s n (pl s n a b) c=x1
 generalize e2:pl s n a (pl s n b c)=x2
 generalize e3:ti s n (ti s n a b) c=x3
 generalize e4:ti s n a (ti s n b c)=x4
 generalize ti s n a (pl s n b c)=x5
 generalize pl s n (ti s n a b) (ti s n a c)=x6
 generalize ti s n (pl s n a b) c=x7
 generalize pl s n (ti s n a c) (ti s n b c)=x8
 generalize le s n (pl s n a c) (pl s n b c)=y1
 generalize le s n (ti s n a c) (ti s n b c)=y2
 generalize le s n (ti s n c a) (ti s n c b)=y3
 generalize le s n a b=y4
 generalize le s n b c=y5
 generalize le s n a c=y6
 simp only [bne]
 generalize (x1 == x2)=b1
 generalize (x3 == x4)=b2
 generalize (x5 == x6)=b3
 generalize (x7 == x8)=b4
 cases b1 <;> cases b2 <;> cases b3 <;> cases b4 <;> first | rfl | (cases y4 <;> cases y5 <;> cases y6 <;> cases y1 <;> cases y2 <;> cases y3 <;> rfl)
end
def Krv (s:K00) (n a b g h:Nat):Bool:=!le s n a h || !le s n b h || le s n g h
def jok (s:K00) (n a b g:Nat):Bool:=le s n a g && le s n b g && (List.range' 0 n).all (Krv s n a b g)
def Krw (s:K00) (n a b:Nat):Int:=match (List.range' 0 n).find? (jok s n a b) with | some g=>(g:Int) | none=>-1
section
variable {s:K00} {n:Nat} (h:Tab s n)
include h
theorem Krx {a b g:Nat} (ha:a < n) (hb:b < n) (hg:g < n):∀ (k m:Nat) (ok:Bool),m + k=n→Kbu (s,(a:Int),(b:Int),(g:Int),ok,(m:Int))=some (ok && (List.range' m k).all (Krv s n a b g)):=by
 have hhi:=h.hi
 intro k
 induction k with
 | zero =>
  intro m ok hm
  rw [Kbu.eq_def]
  simp only
  rw [h.size,Krb (by omega)]
  simp [bs]
 | succ k ih =>
  intro m ok hm
  rw [Kbu.eq_def]
  simp only
  rw [h.size,Kra (by omega),if_pos rfl,bs,sLe h ha (by omega),sLe h hb (by omega),sLe h hg (by omega)]
  cases ok with
  | false=>rfl
  | true =>
   rw [if_pos rfl]
   rw [List.range'_succ,List.all_cons]
   have ih:∀ ok,_:=fun ok=>ih (m + 1) ok (by omega)
   rw [Kr9 (by omega)]
   generalize ((m + 1:Nat):Int)=M at ih ⊢
   simp only [bs,Krv]
   cases le s n a m <;> cases le s n b m <;> cases le s n g m <;> simp [bs,ih,Krv]
theorem Kry {a b g:Nat} (ha:a < n) (hb:b < n) (hg:g < n):∀ (k m:Nat) (ok:Bool),m + k=n→Kj7 (s,(a:Int),(b:Int),(g:Int),ok,(m:Int))=some (ok && (List.range' m k).all (Krv s n a b g)):=by
 have hhi:=h.hi
 intro k
 induction k with
 | zero =>
  intro m ok hm
  rw [Kj7.eq_def]
  simp only
  rw [h.size,Krb (by omega)]
  simp [bs]
 | succ k ih =>
  intro m ok hm
  rw [Kj7.eq_def]
  simp only
  rw [h.size,Kra (by omega),if_pos rfl,iLe h ha (by omega),iLe h hb (by omega),iLe h hg (by omega)]
  rw [List.range'_succ,List.all_cons]
  have ih:∀ ok,_:=fun ok=>ih (m + 1) ok (by omega)
  rw [Kr9 (by omega)]
  generalize ((m + 1:Nat):Int)=M at ih ⊢
  simp only [bs,Krv]
  cases ok <;> cases le s n a m <;> cases le s n b m <;> cases le s n g m <;> simp [bs,ih,Krv]
theorem Krz {a b:Nat} (ha:a < n) (hb:b < n):∀ (k g:Nat),g + k=n→Kby (s,(a:Int),(b:Int),(g:Int))=some (match (List.range' g k).find? (jok s n a b) with | some g=>.inr (g:Int) | none=>.inl ()):=by
 have hhi:=h.hi
 intro k
 induction k with
 | zero =>
  intro g hm
  rw [Kby.eq_def]
  simp only
  rw [h.size,Krb (by omega)]
  rfl
 | succ k ih =>
  intro g hm
  rw [Kby.eq_def]
  simp only
  rw [h.size,Kra (by omega),if_pos rfl,sLe h ha (by omega),sLe h hb (by omega)]
  have ih:=ih (g + 1) (by omega)
  rw [Kr9 (by omega),List.range'_succ,List.find?_cons]
  have hl:=fun ok=>Krx h ha hb (g:=g) (by omega) n 0 ok (by omega)
  rw [show ((0:Nat):Int)=0 from rfl] at hl
  generalize ((g + 1:Nat):Int)=M at ih ⊢
  have hj:jok s n a b g=(le s n a g && le s n b g && (List.range' 0 n).all (Krv s n a b g)):=rfl
  rw [hj]
  cases le s n a g <;> cases le s n b g <;> cases hq:(List.range' 0 n).all (Krv s n a b g) <;> simp [bs,hl,hq,ih]
theorem Ks0 {a b:Nat} (ha:a < n) (hb:b < n):∀ (k g:Nat),g + k=n→Kjc (s,(a:Int),(b:Int),(g:Int))=some (match (List.range' g k).find? (jok s n a b) with | some g=>.inr (g:Int) | none=>.inl ()):=by
 have hhi:=h.hi
 intro k
 induction k with
 | zero =>
  intro g hm
  rw [Kjc.eq_def]
  simp only
  rw [h.size,Krb (by omega)]
  rfl
 | succ k ih =>
  intro g hm
  rw [Kjc.eq_def]
  simp only
  rw [h.size,Kra (by omega),if_pos rfl,iLe h ha (by omega),iLe h hb (by omega)]
  have ih:=ih (g + 1) (by omega)
  rw [Kr9 (by omega),List.range'_succ,List.find?_cons]
  have hl:=fun ok=>Kry h ha hb (g:=g) (by omega) n 0 ok (by omega)
  rw [show ((0:Nat):Int)=0 from rfl] at hl
  generalize ((g + 1:Nat):Int)=M at ih ⊢
  have hj:jok s n a b g=(le s n a g && le s n b g && (List.range' 0 n).all (Krv s n a b g)):=rfl
  rw [hj]
  cases le s n a g <;> cases le s n b g <;> cases hq:(List.range' 0 n).all (Krv s n a b g) <;> simp [bs,hl,hq,ih]
theorem Ks1 {a b:Nat} (ha:a < n) (hb:b < n):Kc1 (s,(a:Int),(b:Int))=some (Krw s n a b):=by
 unfold Kc1 Krw
 simp only
 have:=Krz h ha hb n 0 (by omega)
 rw [show ((0:Nat):Int)=0 from rfl] at this
 rw [this,bs]
 cases (List.range' 0 n).find? (jok s n a b) <;> rfl
theorem Ks2 {a b:Nat} (ha:a < n) (hb:b < n):Kjf (s,(a:Int),(b:Int))=some (Krw s n a b):=by
 unfold Kjf Krw
 simp only
 have:=Ks0 h ha hb n 0 (by omega)
 rw [show ((0:Nat):Int)=0 from rfl] at this
 rw [this,bs]
 cases (List.range' 0 n).find? (jok s n a b) <;> rfl
def Ks3 (s:K00) (n a b:Nat):Bool:=(pl s n a b == pl s n b a) && ((a == b) || !le s n a b || !le s n b a) && decide (Krw s n a b ≥ 0)
omit h in
theorem Ks4 (x:Int):decide (x < 0)=!decide (x ≥ 0):=by
 by_cases h:x < 0
 ·rw [decide_eq_true h,decide_eq_false (by omega)]; rfl
 ·rw [decide_eq_false h,decide_eq_true (by omega)]; rfl
theorem Ks5 {a b:Nat} (ha:a < n) (hb:b < n):Kc4 (s,(a:Int),(b:Int))=some (Ks3 s n a b):=by
 unfold Kc4 Ks3
 simp only
 rw [Krk h ha hb,Krk h hb ha,sLe h ha hb,sLe h hb ha,Ks1 h ha hb]
 simp only [bs,Kro]
 generalize (pl s n a b == pl s n b a)=b1
 generalize (a == b)=b2
 cases b1 <;> cases b2 <;> cases le s n a b <;> cases le s n b a <;> simp [bs]
end
def inB (x lo hi:Int):Bool:=decide (x ≥ lo) && decide (x ≤ hi)
theorem sIn (x lo hi:Int):Ka8 (x,lo,hi)=some (inB x lo hi):=by
 unfold Ka8 inB
 simp only
 cases decide (x ≥ lo) <;> simp [bs]
theorem iIn (x lo hi:Int):Kir (x,lo,hi)=some (inB x lo hi):=by
 unfold Kir inB
 simp only
 cases decide (x ≥ lo) <;> simp [bs]
def Ks6 (s:K00) (n:Nat):Bool:=(List.range' 0 n).all fun a=>Krq s n a && (List.range' 0 n).all fun b=>Ks3 s n a b && (List.range' 0 n).all fun c=>Krr s n a b c
section
variable {s:K00} {n:Nat} (h:Tab s n)
include h
theorem Ks7 {a b:Nat} (ha:a < n) (hb:b < n):∀ (k c:Nat),c + k=n→Kcb (s,(a:Int),(b:Int),(c:Int))=some (if (List.range' c k).all (fun c=>Krr s n a b c) then .inl () else .inr false):=by
 have hhi:=h.hi
 intro k
 induction k with
 | zero =>
  intro c hm
  rw [Kcb.eq_def]
  simp only
  rw [h.size,Krb (by omega)]
  rfl
 | succ k ih =>
  intro c hm
  rw [Kcb.eq_def]
  simp only
  rw [h.size,Kra (by omega),if_pos rfl,Krt h ha hb (by omega),bs]
  have ih:=ih (c + 1) (by omega)
  rw [Kr9 (by omega),List.range'_succ,List.all_cons]
  generalize ((c + 1:Nat):Int)=M at ih ⊢
  generalize (List.range' (c + 1) k).all (fun c=>Krr s n a b c)=r at ih ⊢
  cases Krr s n a b c <;> cases r <;> simp [ih]
theorem Ks8 {a b:Nat} (ha:a < n) (hb:b < n):∀ (k c:Nat),c + k=n→Kjv (s,(a:Int),(b:Int),(c:Int))=some (if (List.range' c k).all (fun c=>Krr s n a b c) then .inl () else .inr false):=by
 have hhi:=h.hi
 intro k
 induction k with
 | zero =>
  intro c hm
  rw [Kjv.eq_def]
  simp only
  rw [h.size,Krb (by omega)]
  rfl
 | succ k ih =>
  intro c hm
  rw [Kjv.eq_def]
  simp only
  rw [h.size,Kra (by omega),if_pos rfl,Kru h ha hb (by omega),bs]
  have ih:=ih (c + 1) (by omega)
  rw [Kr9 (by omega),List.range'_succ,List.all_cons]
  generalize ((c + 1:Nat):Int)=M at ih ⊢
  generalize (List.range' (c + 1) k).all (fun c=>Krr s n a b c)=r at ih ⊢
  cases Krr s n a b c <;> cases r <;> simp [ih]
theorem Ks9 {a:Nat} (ha:a < n):∀ (k b:Nat),b + k=n→Kch (s,(a:Int),(b:Int))=some (if (List.range' b k).all (fun b=>Ks3 s n a b && (List.range' 0 n).all fun c=>Krr s n a b c) then .inl () else .inr false):=by
 have hhi:=h.hi
 intro k
 induction k with
 | zero =>
  intro c hm
  rw [Kch.eq_def]
  simp only
  rw [h.size,Krb (by omega)]
  rfl
 | succ k ih =>
  intro b hm
  rw [Kch.eq_def]
  simp only
  have hl:=Ks7 h ha (b:=b) (by omega) n 0 (by omega)
  rw [show ((0:Nat):Int)=0 from rfl] at hl
  rw [h.size,Kra (by omega),if_pos rfl,Ks5 h ha (by omega),bs,hl]
  have ih:=ih (b + 1) (by omega)
  rw [Kr9 (by omega),List.range'_succ,List.all_cons]
  generalize ((b + 1:Nat):Int)=M at ih ⊢
  generalize (List.range' (b + 1) k).all (fun b=>Ks3 s n a b && (List.range' 0 n).all fun c=>Krr s n a b c)=r at ih ⊢
  cases Ks3 s n a b <;> cases (List.range' 0 n).all (fun c=>Krr s n a b c) <;> cases r <;> simp [ih,bs]
theorem Ksa {a:Nat} (ha:a < n):∀ (k b:Nat),b + k=n→Kjz (s,(a:Int),(b:Int))=some (if (List.range' b k).all (fun b=>Ks3 s n a b && (List.range' 0 n).all fun c=>Krr s n a b c) then .inl () else .inr false):=by
 have hhi:=h.hi
 intro k
 induction k with
 | zero =>
  intro c hm
  rw [Kjz.eq_def]
  simp only
  rw [h.size,Krb (by omega)]
  rfl
 | succ k ih =>
  intro b hm
  have hb:b < n:=by omega
  rw [Kjz.eq_def]
  simp only
  have hl:=Ks8 h ha (b:=b) (by omega) n 0 (by omega)
  rw [show ((0:Nat):Int)=0 from rfl] at hl
  rw [h.size,Kra (by omega),if_pos rfl,Krm h ha hb,Krm h hb ha,iLe h ha hb,iLe h hb ha,Ks2 h ha hb,hl]
  have ih:=ih (b + 1) (by omega)
  rw [Kr9 (by omega),List.range'_succ,List.all_cons]
  generalize ((b + 1:Nat):Int)=M at ih ⊢
  generalize (List.range' (b + 1) k).all (fun b=>Ks3 s n a b && (List.range' 0 n).all fun c=>Krr s n a b c)=r at ih ⊢
  simp only [bs,Krp,Ks4]
  cases h1:(pl s n a b == pl s n b a) <;> cases h2:(a == b) <;> cases h3:decide (Krw s n a b ≥ 0) <;> cases h4:le s n a b <;> cases h5:le s n b a <;> cases h6:(List.range' 0 n).all (fun c=>Krr s n a b c) <;> cases r <;> simp only [Ks3,bne,h1,h2,h3,h4,h5,h6,ih,bs,Bool.not_true,Bool.not_false,Bool.true_and,Bool.false_and,Bool.and_true,Bool.and_false,Bool.true_or,Bool.false_or,Bool.or_true,Bool.or_false,if_true,if_false,Bool.false_eq_true]
theorem Ksb:∀ (k a:Nat),a + k=n→Kcl (s,(a:Int))=some (if (List.range' a k).all (fun a=>Krq s n a && (List.range' 0 n).all fun b=>Ks3 s n a b && (List.range' 0 n).all fun c=>Krr s n a b c) then .inl () else .inr false):=by
 have hhi:=h.hi
 intro k
 induction k with
 | zero =>
  intro c hm
  rw [Kcl.eq_def]
  simp only
  rw [h.size,Krb (by omega)]
  rfl
 | succ k ih =>
  intro a hm
  have ha:a < n:=by omega
  rw [Kcl.eq_def]
  simp only
  have hl:=Ks9 h ha n 0 (by omega)
  rw [show ((0:Nat):Int)=0 from rfl] at hl
  rw [h.size,Kra (by omega),if_pos rfl,Krs h ha,bs,hl]
  have ih:=ih (a + 1) (by omega)
  rw [Kr9 (by omega),List.range'_succ,List.all_cons]
  generalize ((a + 1:Nat):Int)=M at ih ⊢
  generalize (List.range' (a + 1) k).all (fun a=>Krq s n a && (List.range' 0 n).all fun b=>Ks3 s n a b && (List.range' 0 n).all fun c=>Krr s n a b c)=r at ih ⊢
  cases Krq s n a <;> cases (List.range' 0 n).all (fun b=>Ks3 s n a b && (List.range' 0 n).all fun c=>Krr s n a b c) <;> cases r <;> simp [ih,bs]
theorem Ksc:∀ (k a:Nat),a + k=n→Kk3 (s,(a:Int))=some (if (List.range' a k).all (fun a=>Krq s n a && (List.range' 0 n).all fun b=>Ks3 s n a b && (List.range' 0 n).all fun c=>Krr s n a b c) then .inl () else .inr false):=by
 have hhi:=h.hi
 have l0:(0:Nat) < n:=by have:=h.lo; omega
 have l1:(1:Nat) < n:=by have:=h.lo; omega
 intro k
 induction k with
 | zero =>
  intro c hm
  rw [Kk3.eq_def]
  simp only
  rw [h.size,Krb (by omega)]
  rfl
 | succ k ih =>
  intro a hm
  have ha:a < n:=by omega
  rw [Kk3.eq_def]
  simp only
  have hl:=Ksa h ha n 0 (by omega)
  have q1:Kix (s,0,(a:Int))=_:=Krm h l0 ha
  have q2:Kj0 (s,1,(a:Int))=_:=Krn h l1 ha
  have q3:Kj0 (s,(a:Int),1)=_:=Krn h ha l1
  have q4:Kj0 (s,0,(a:Int))=_:=Krn h l0 ha
  have q5:Kj0 (s,(a:Int),0)=_:=Krn h ha l0
  have z1:(((ti s n 0 a:Nat):Int) != 0)=(ti s n 0 a != 0):=Krp _ 0
  have z2:(((ti s n a 0:Nat):Int) != 0)=(ti s n a 0 != 0):=Krp _ 0
  rw [show ((0:Nat):Int)=0 from rfl] at hl
  rw [h.size,Kra (by omega),if_pos rfl,q1,q2,q3,q4,q5,iLe h ha ha,hl]
  have ih:=ih (a + 1) (by omega)
  rw [Kr9 (by omega),List.range'_succ,List.all_cons]
  generalize ((a + 1:Nat):Int)=M at ih ⊢
  generalize (List.range' (a + 1) k).all (fun a=>Krq s n a && (List.range' 0 n).all fun b=>Ks3 s n a b && (List.range' 0 n).all fun c=>Krr s n a b c)=r at ih ⊢
  simp only [bs,Krp,z1,z2]
  cases h1:(pl s n 0 a == a) <;> cases h2:(ti s n 1 a == a) <;> cases h3:(ti s n a 1 == a) <;> cases h4:(ti s n 0 a == 0) <;> cases h5:(ti s n a 0 == 0) <;> cases h6:le s n a a <;> cases h7:(List.range' 0 n).all (fun b=>Ks3 s n a b && (List.range' 0 n).all fun c=>Krr s n a b c) <;> cases r <;> simp only [Krq,bne,h1,h2,h3,h4,h5,h6,h7,ih,bs,Bool.not_true,Bool.not_false,Bool.true_and,Bool.false_and,Bool.and_true,Bool.and_false,if_true,if_false,Bool.false_eq_true]
end
theorem Ksd {α:Type} {l r:List α} {x:α} {i:Nat} (h:l.drop i=x :: r):i < l.length∧idx l (i:Int)=some x∧l.drop (i + 1)=r:=by
 have hi:i < l.length:=by
  rcases Nat.lt_or_ge i l.length with h' | h'
  ·exact h'
  ·rw [List.drop_eq_nil_of_le h'] at h; cases h
 have e:=List.drop_eq_getElem_cons hi
 rw [h] at e
 obtain ⟨e1,e2⟩:=List.cons.inj e
 exact ⟨hi,by rw [Kr8 hi,e1],e2.symm⟩
theorem Kse {α:Type} {l:List α} {i:Nat} (h:l.drop i=[]):l.length ≤ i:=by
 rcases Nat.lt_or_ge i l.length with h' | h'
 ·rw [List.drop_eq_getElem_cons h'] at h; cases h
 ·exact h'
def Ksf (c:Int):Bool:=inB c 3 18 || c == 35
def Ksg (c:Int):Bool:=inB c 19 34 || c == 36
def Ksh (c:Int):Int:=if c == 0 then 0 else if c == 1 || c == 2 || Ksf c then 2 else if Ksg c then 1 else -1
theorem Ksi (c:Int):Ke8 c=some (Ksf c):=by
 unfold Ke8 Ksf
 simp only [sIn,bs]
 cases inB c 3 18 <;> rfl
theorem Ksj (c:Int):Keb c=some (Ksg c):=by
 unfold Keb Ksg
 simp only [sIn,bs]
 cases inB c 19 34 <;> rfl
theorem Ksk (c:Int):Kee c=some (Ksh c):=by
 unfold Kee Ksh
 simp only [Ksi,Ksj,bs]
 cases c == 0 <;> cases c == 1 <;> cases c == 2 <;> cases Ksf c <;> cases Ksg c <;> rfl
theorem Ksl (c:Int):(c=0∧Ksh c=0)∨((c=1∨c=2∨(3 ≤ c∧c ≤ 18)∨c=35)∧Ksh c=2)∨(((19 ≤ c∧c ≤ 34)∨c=36)∧Ksh c=1)∨((c < 0∨36 < c)∧Ksh c=-1):=by
 unfold Ksh Ksf Ksg inB
 by_cases h0:c=0
 ·left; subst h0; exact ⟨rfl,rfl⟩
 ·right
  have e0:(c == 0)=false:=by simpa using h0
  by_cases h1:c=1∨c=2∨(3 ≤ c∧c ≤ 18)∨c=35
  ·left
   refine ⟨h1,?_⟩
   have:(c == 1 || c == 2 || (decide (c ≥ 3) && decide (c ≤ 18) || c == 35))=true:=by
    simp only [Bool.or_eq_true,Bool.and_eq_true,beq_iff_eq,decide_eq_true_eq]; omega
   rw [e0,this]; rfl
  ·right
   have q:(c == 1 || c == 2 || (decide (c ≥ 3) && decide (c ≤ 18) || c == 35))=false:=by
    rw [Bool.eq_false_iff]; intro h
    simp only [Bool.or_eq_true,Bool.and_eq_true,beq_iff_eq,decide_eq_true_eq] at h; omega
   rw [e0,q]
   by_cases h2:(19 ≤ c∧c ≤ 34)∨c=36
   ·left
    refine ⟨h2,?_⟩
    have:(decide (c ≥ 19) && decide (c ≤ 34) || c == 36)=true:=by
     simp only [Bool.or_eq_true,Bool.and_eq_true,beq_iff_eq,decide_eq_true_eq]; omega
    rw [this]; rfl
   ·right
    refine ⟨by omega,?_⟩
    have:(decide (c ≥ 19) && decide (c ≤ 34) || c == 36)=false:=by
     rw [Bool.eq_false_iff]; intro h
     simp only [Bool.or_eq_true,Bool.and_eq_true,beq_iff_eq,decide_eq_true_eq] at h; omega
    rw [this]; rfl
def Ksm (c:Int):Int × Int :=
 if inB c 0 2 then (c,-1) else if inB c 3 18 then (3,c - 3) else if inB c 19 34 then (4,c - 19) else if c == 35 then (3,-1) else if c == 36 then (4,-1) else (5,-1)
theorem Ksn (c:Int):Kk9 c=some (Ksm c):=by
 unfold Kk9 Ksm
 simp only [iIn,bs]
 cases h1:inB c 0 2
 ·cases h2:inB c 3 18
  ·cases h3:inB c 19 34
   ·cases c == 35 <;> cases c == 36 <;> rfl
   ·simp only [inB,Bool.and_eq_true,decide_eq_true_eq] at h3
    simp only [Bool.false_eq_true,if_false,if_true]
    rw [Kr7 (by omega) (by omega)]
  ·simp only [inB,Bool.and_eq_true,decide_eq_true_eq] at h2
   simp only [Bool.false_eq_true,if_false,if_true]
   rw [Kr7 (by omega) (by omega)]
 ·rfl
theorem Kso (c:Int):(c=0∧Ksm c=(0,-1))∨(c=1∧Ksm c=(1,-1))∨(c=2∧Ksm c=(2,-1))∨((3 ≤ c∧c ≤ 18)∧Ksm c=(3,c - 3))∨(c=35∧Ksm c=(3,-1)) ∨
  ((19 ≤ c∧c ≤ 34)∧Ksm c=(4,c - 19))∨(c=36∧Ksm c=(4,-1))∨((c < 0∨36 < c)∧Ksm c=(5,-1)):=by
 have inT:∀ lo hi,lo ≤ c→c ≤ hi→inB c lo hi=true:=fun lo hi h1 h2=>by simp only [inB,Bool.and_eq_true,decide_eq_true_eq]; omega
 have inF:∀ lo hi,(c < lo∨hi < c)→inB c lo hi=false:=fun lo hi h=>by rw [Bool.eq_false_iff]; intro h'; simp only [inB,Bool.and_eq_true,decide_eq_true_eq] at h'; omega
 unfold Ksm
 by_cases h0:0 ≤ c∧c ≤ 2
 ·rw [inT 0 2 h0.1 h0.2]
  have:c=0∨c=1∨c=2:=by omega
  rcases this with rfl | rfl | rfl <;> simp
 ·rw [inF 0 2 (by omega)]
  by_cases h1:3 ≤ c∧c ≤ 18
  ·rw [inT 3 18 h1.1 h1.2]
   exact .inr (.inr (.inr (.inl ⟨h1,rfl⟩)))
  ·rw [inF 3 18 (by omega)]
   by_cases h2:19 ≤ c∧c ≤ 34
   ·rw [inT 19 34 h2.1 h2.2]
    exact .inr (.inr (.inr (.inr (.inr (.inl ⟨h2,rfl⟩)))))
   ·rw [inF 19 34 (by omega)]
    by_cases h3:c=35
    ·subst h3; simp
    ·by_cases h4:c=36
     ·subst h4; simp
     ·have e3:(c == 35)=false:=by simpa using h3
      have e4:(c == 36)=false:=by simpa using h4
      rw [e3,e4]
      refine .inr (.inr (.inr (.inr (.inr (.inr (.inr ⟨by omega,rfl⟩))))))
def skip:Nat→List Int→Option (List Int)
 | 0,l=>some l
 | _ + 1,[]=>none
 | m + 1,c :: l=>if Ksh c=-1 then none else skip (m + (Ksh c).toNat) l
theorem Ksp (l:List Int):skip 0 l=some l:=by cases l <;> rfl
theorem Ksq (m:Nat):skip (m + 1) []=none:=rfl
theorem Ksr (m:Nat) (c:Int) (l:List Int):skip (m + 1) (c :: l)=if Ksh c=-1 then none else skip (m + (Ksh c).toNat) l:=rfl
theorem Kss (l:List Int):∀ (m k:Nat),skip (m + k) l=(skip m l).bind (skip k):=by
 induction l with
 | nil =>
  intro m k
  cases m with
  | zero=>rw [Nat.zero_add,Ksp]; rfl
  | succ m=>rw [show m + 1 + k=(m + k) + 1 by omega,Ksq,Ksq]; rfl
 | cons c l ih =>
  intro m k
  cases m with
  | zero=>rw [Nat.zero_add,Ksp]; rfl
  | succ m =>
   rw [show m + 1 + k=(m + k) + 1 by omega,Ksr,Ksr]
   by_cases h:Ksh c=-1
   ·rw [if_pos h,if_pos h]; rfl
   ·rw [if_neg h,if_neg h,← ih]; congr 1; omega
theorem Kst (l:List Int):∀ (m:Nat) (r:List Int),skip m l=some r→∃ p,l=p ++ r∧m ≤ p.length:=by
 induction l with
 | nil =>
  intro m r h
  cases m with
  | zero=>rw [Ksp] at h; cases h; exact ⟨[],rfl,Nat.le_refl _⟩
  | succ m=>rw [Ksq] at h; cases h
 | cons c l ih =>
  intro m r h
  cases m with
  | zero=>rw [Ksp] at h; cases h; exact ⟨[],rfl,Nat.le_refl _⟩
  | succ m =>
   rw [Ksr] at h
   by_cases hk:Ksh c=-1
   ·rw [if_pos hk] at h; cases h
   ·rw [if_neg hk] at h
    obtain ⟨p,e,hp⟩:=ih _ _ h
    exact ⟨c :: p,by rw [e]; rfl,by simp; omega⟩
def Ksu (ty:List Int) (m i:Nat):Int:=match skip m (ty.drop i) with | some r=>((ty.length - r.length:Nat):Int) | none=>-1
theorem Ksv (ty:List Int) (hty:ty.length ≤ 1099511627776):∀ (l:List Int) (i m:Nat),ty.drop i=l→m ≤ 1099511627776 + 2 * i→∃ x,Kei (ty,((m + 1:Nat):Int),(i:Int))=some x∧(match x with | .inl ()=>-1 | .inr r=>r)=Ksu ty (m + 1) i:=by
 intro l
 induction l with
 | nil =>
  intro i m hl hm
  rw [Kei.eq_def]
  simp only
  rw [Krb (Kse hl)]
  exact ⟨.inl (),rfl,by unfold Ksu; rw [hl,Ksq]⟩
 | cons c l ih =>
  intro i m hl hm
  obtain ⟨hi,hx,hd⟩:=Ksd hl
  have hi2:(i:Int) < 1099511627776:=by omega
  rw [Kei.eq_def]
  simp only
  rw [Kra hi,if_pos rfl,hx,bs,Ksk,bs]
  have he:Ksu ty (m + 1) i=(match (if Ksh c=-1 then none else skip (m + (Ksh c).toNat) l) with | some r=>((ty.length - r.length:Nat):Int) | none=>-1):=by
   unfold Ksu; rw [hl,Ksr]
  rw [he]
  by_cases hk:Ksh c=-1
  ·rw [if_pos hk,hk]
   exact ⟨.inr (-1),rfl,rfl⟩
  ·rw [if_neg hk]
   have hk0:0 ≤ Ksh c∧Ksh c ≤ 2:=by rcases Ksl c with h | h | h | h <;> omega
   obtain ⟨k,hkk⟩:∃ k:Nat,Ksh c=(k:Int):=⟨(Ksh c).toNat,by omega⟩
   rw [decide_eq_false (by omega),if_neg (by decide),hkk,Int.toNat_natCast]
   rw [Kr7 (x:=((m + 1:Nat):Int) - 1) (by omega) (by omega),show ((m + 1:Nat):Int) - 1=(m:Int) by omega,Kr7 (x:=(m:Int) + (k:Int)) (by omega) (by omega),Kr9 (by omega)]
   by_cases h0:m + k=0
   ·rw [show ((m:Int) + (k:Int) == 0)=true by simp; omega,if_pos rfl,h0,Ksp]
    refine ⟨_,rfl,?_⟩
    have:l.length=ty.length - (i + 1):=by rw [← hd,List.length_drop]
    simp only
    omega
   ·rw [show ((m:Int) + (k:Int) == 0)=false by simp; omega,if_neg (by decide)]
    obtain ⟨q,hq⟩:∃ q,m + k=q + 1:=⟨m + k - 1,by omega⟩
    have:=ih (i + 1) q hd (by omega)
    rw [show (m:Int) + (k:Int)=((q + 1:Nat):Int) by omega]
    obtain ⟨x,h1,h2⟩:=this
    exact ⟨x,h1,by rw [h2,hq]; unfold Ksu; rw [hd]⟩
theorem Ksw (ty:List Int) (hty:ty.length ≤ 1099511627776) (i:Nat) (hi:i ≤ ty.length):Kel (ty,(i:Int))=some (Ksu ty 1 i):=by
 unfold Kel
 obtain ⟨x,h1,h2⟩:=Ksv ty hty _ i 0 rfl (by omega)
 simp only
 rw [show (1:Int)=((0 + 1:Nat):Int) from rfl,h1,bs]
 rw [← h2]
 cases x <;> rfl
theorem Ksx (ty:List Int) (i:Nat) (hi:i ≤ ty.length):Ksu ty 2 i=(if Ksu ty 1 i=-1 then -1 else Ksu ty 1 (Ksu ty 1 i).toNat):=by
 unfold Ksu
 rw [show 2=1 + 1 from rfl,Kss]
 cases h:skip 1 (ty.drop i) with
 | none=>simp
 | some r =>
  obtain ⟨p,hp,hl⟩:=Kst _ _ _ h
  have hlen:ty.length - i=p.length + r.length:=by rw [← List.length_drop,hp,List.length_append]
  have:ty.drop (ty.length - r.length)=r:=by
   have e:ty.drop (ty.length - r.length)=(ty.drop i).drop p.length:=by rw [List.drop_drop]; congr 1; omega
   rw [e,hp,List.drop_left]
  simp only [Option.bind_some]
  rw [if_neg (by omega),Int.toNat_natCast,this]
theorem Ksy (ty:List Int) (hty:ty.length ≤ 1099511627776):∀ (d i:Nat),ty.length - i=d→Kkc (ty,(i:Int))=some (Ksu ty 1 i):=by
 intro d
 induction d using Nat.strongRecOn with
 | ind d ih =>
  intro i hd
  rw [Kkc.eq_def]
  simp only
  rw [decide_eq_false (by omega:¬ (i:Int) < 0)]
  simp only [Bool.false_eq_true,if_false,bs]
  by_cases hi:i < ty.length
  ·rw [decide_eq_false (by omega),if_neg (by decide),Kr8 hi,bs,Ksn,bs]
   have hdr:=List.drop_eq_getElem_cons hi
   have he:∀ k:Nat,Ksh ty[i]=(k:Int)→Ksu ty 1 i=Ksu ty k (i + 1):=fun k hk=>by
    unfold Ksu
    rw [hdr,show 1=0 + 1 from rfl,Ksr,hk,if_neg (by omega),Int.toNat_natCast,Nat.zero_add]
   have hn:Ksh ty[i]=-1→Ksu ty 1 i=-1:=fun hk=>by
    unfold Ksu
    rw [hdr,show 1=0 + 1 from rfl,Ksr,if_pos hk]
   have i1:=ih (ty.length - (i + 1)) (by omega) (i + 1) rfl
   have hz:∀ i:Nat,i ≤ ty.length→Ksu ty 0 i=(i:Int):=fun i hi=>by unfold Ksu; rw [Ksp]; simp only [List.length_drop]; omega
   rw [Kr9 (by omega)]
   have two:Ksh ty[i]=2→((Kkc (ty,((i + 1:Nat):Int))) >>= fun r_11_4=>(Kkc (ty,r_11_4)) >>= fun r_11_5=>some r_11_5)=some (Ksu ty 1 i):=fun hk=>by
    rw [i1,bs,he 2 hk,Ksx ty (i + 1) (by omega)]
    by_cases h1:Ksu ty 1 (i + 1)=-1
    ·rw [h1,if_pos rfl,Kkc.eq_def]; rfl
    ·rw [if_neg h1]
     obtain ⟨e,hee,hlo⟩:∃ e:Nat,Ksu ty 1 (i + 1)=(e:Int)∧i + 1 < e:=by
      unfold Ksu at h1 ⊢
      cases hs:skip 1 (ty.drop (i + 1)) with
      | none=>rw [hs] at h1; exact absurd rfl h1
      | some r =>
       obtain ⟨p,hp,hl⟩:=Kst _ _ _ hs
       have hlen:ty.length - (i + 1)=p.length + r.length:=by rw [← List.length_drop,hp,List.length_append]
       exact ⟨_,rfl,by omega⟩
     rw [hee,Int.toNat_natCast,ih (ty.length - e) (by omega) e rfl,bs]
   rcases Kso ty[i] with ⟨h,e⟩ | ⟨h,e⟩ | ⟨h,e⟩ | ⟨h,e⟩ | ⟨h,e⟩ | ⟨h,e⟩ | ⟨h,e⟩ | ⟨h,e⟩ <;> rw [e] <;> simp only []
   ·have hk:Ksh ty[i]=0:=by rcases Ksl ty[i] with h | h | h | h <;> omega
    rw [if_pos (by rfl),he 0 hk,hz _ (by omega)]
   ·have hk:Ksh ty[i]=2:=by rcases Ksl ty[i] with h | h | h | h <;> omega
    exact two hk
   ·have hk:Ksh ty[i]=2:=by rcases Ksl ty[i] with h | h | h | h <;> omega
    exact two hk
   ·have hk:Ksh ty[i]=2:=by rcases Ksl ty[i] with h | h | h | h <;> omega
    exact two hk
   ·have hk:Ksh ty[i]=2:=by rcases Ksl ty[i] with h | h | h | h <;> omega
    exact two hk
   ·have hk:Ksh ty[i]=1:=by rcases Ksl ty[i] with h | h | h | h <;> omega
    rw [he 1 hk,if_neg (by decide),if_pos (by rfl),i1,bs]
   ·have hk:Ksh ty[i]=1:=by rcases Ksl ty[i] with h | h | h | h <;> omega
    rw [he 1 hk,if_neg (by decide),if_pos (by rfl),i1,bs]
   ·have hk:Ksh ty[i]=-1:=by rcases Ksl ty[i] with h | h | h | h <;> omega
    rw [hn hk]; rfl
  ·rw [decide_eq_true (by omega),if_pos rfl]
   unfold Ksu
   rw [List.drop_eq_nil_of_le (by omega),Ksq]
def wtB (ty:List Int):Bool:=decide (ty.length ≤ 40) && (skip 1 ty == some [])
theorem Ksz (ty:List Int):(Ksu ty 1 0 == (ty.length:Int))=(skip 1 ty == some []):=by
 unfold Ksu
 rw [List.drop_zero]
 cases h:skip 1 ty with
 | none=>simp
 | some r =>
  obtain ⟨p,hp,hl⟩:=Kst _ _ _ h
  have hlen:ty.length=p.length + r.length:=by rw [hp,List.length_append]
  cases r with
  | nil=>simp
  | cons x xs =>
   simp only [List.length_cons] at hlen ⊢
   simp
   omega
theorem Kt0 (ty:List Int) (hty:ty.length ≤ 1099511627776):Kqu ty=some (wtB ty):=by
 unfold Kqu wtB
 by_cases h:ty.length ≤ 40
 ·rw [decide_eq_true (by omega:(ty.length:Int) ≤ 40),if_pos rfl,show (0:Int)=((0:Nat):Int) from rfl,Ksw ty hty 0 (by omega),bs,Ksz,decide_eq_true h]
  cases hs:skip 1 ty == some [] with
  | false=>rfl
  | true =>
   have:0 < ty.length:=by
    rcases ty with _ | ⟨c,l⟩
    ·rw [show skip 1 []=none from rfl] at hs; cases hs
    ·simp
   rw [if_pos rfl,decide_eq_true (by omega:(ty.length:Int) > ((0:Nat):Int))]; rfl
 ·rw [decide_eq_false (by omega:¬ (ty.length:Int) ≤ 40),decide_eq_false h]; rfl
theorem Kt1 (ty:List Int) (hty:ty.length ≤ 1099511627776):Kkf ty=some (wtB ty):=by
 unfold Kkf wtB
 rw [iIn,bs]
 by_cases h:ty.length ≤ 40
 ·rw [decide_eq_true h]
  by_cases h1:1 ≤ ty.length
  ·have:inB (ty.length:Int) 1 40=true:=by simp only [inB,Bool.and_eq_true,decide_eq_true_eq]; omega
   rw [this,if_pos rfl,show (0:Int)=((0:Nat):Int) from rfl,Ksy ty hty _ 0 rfl,bs,Ksz]; rfl
  ·have:inB (ty.length:Int) 1 40=false:=by rw [Bool.eq_false_iff]; intro h'; simp only [inB,Bool.and_eq_true,decide_eq_true_eq] at h'; omega
   have e:ty=[]:=List.length_eq_zero_iff.1 (by omega)
   rw [this,e]; rfl
 ·have:inB (ty.length:Int) 1 40=false:=by rw [Bool.eq_false_iff]; intro h'; simp only [inB,Bool.and_eq_true,decide_eq_true_eq] at h'; omega
  rw [this,decide_eq_false h]; rfl
def Kt2 (c:Int):Int:=if 35 ≤ c then -1 else if 19 ≤ c then c - 19 else c - 3
def Kt3 (size:Int) (closed:Bool) (c:Int):Bool:=!(decide (Ksh c > 0) && decide (c > 2) && (decide (Kt2 c ≥ size) || closed && decide (Kt2 c < 0)))
theorem Kt4 {c:Int} (h:Ksh c > 0):Keu c=some (Kt2 c):=by
 have:0 ≤ c∧c ≤ 36:=by rcases Ksl c with h | h | h | h <;> omega
 unfold Keu Kt2
 by_cases h1:35 ≤ c
 ·rw [decide_eq_true (by omega:c ≥ 35),if_pos rfl,if_pos h1]
 ·rw [decide_eq_false (by omega:¬ c ≥ 35),if_neg (by decide),if_neg h1]
  by_cases h2:19 ≤ c
  ·rw [decide_eq_true (by omega:c ≥ 19),if_pos rfl,if_pos h2,Kr7 (by omega) (by omega)]
  ·rw [decide_eq_false (by omega:¬ c ≥ 19),if_neg (by decide),if_neg h2,Kr7 (by omega) (by omega)]
theorem Kt5 (ty:List Int) (hty:ty.length ≤ 1099511627776) (size:Int) (cl:Bool):∀ (l:List Int) (i:Nat),ty.drop i=l→Kqv (ty,size,cl,(i:Int))=some (if l.all (Kt3 size cl) then .inl () else .inr false):=by
 intro l
 induction l with
 | nil =>
  intro i hl
  rw [Kqv.eq_def]
  simp only
  rw [Krb (Kse hl)]; rfl
 | cons c l ih =>
  intro i hl
  obtain ⟨hi,hx,hd⟩:=Ksd hl
  rw [Kqv.eq_def]
  simp only
  rw [Kra hi,if_pos rfl,hx,bs,bs,Ksk,bs,Kr9 (by omega)]
  have ih:=ih (i + 1) hd
  generalize ((i + 1:Nat):Int)=M at ih ⊢
  rw [List.all_cons]
  unfold Kt3 at ih ⊢
  by_cases hk:Ksh c > 0
  ·simp only [bs,Kt4 hk]
   rw [decide_eq_true hk]
   generalize Kt2 c=g at ih ⊢
   cases decide (c > 2) <;> cases decide (g ≥ size) <;> cases cl <;> cases decide (g < 0) <;> simp [bs,ih]
  ·rw [decide_eq_false hk]; simp [bs,ih]
theorem Kt6 (ty:List Int) (hty:ty.length ≤ 1099511627776) (size:Int) (cl:Bool):Kqw (ty,size,cl)=some (ty.all (Kt3 size cl)):=by
 unfold Kqw
 simp only
 rw [show (0:Int)=((0:Nat):Int) from rfl,Kt5 ty hty size cl _ 0 rfl,List.drop_zero,bs]
 cases ty.all (Kt3 size cl) <;> rfl
theorem Kt7 {α β:Type} {a:Option α} {f:α→Option β} {x:α} (h:a=some x):(a >>= f)=f x:=by rw [h]; rfl
mutual
def tsz:K01→Nat
 | ⟨_,_,_,ks⟩=>1 + Kt8 ks
def Kt8:List K01→Nat
 | []=>0
 | k :: ks=>tsz k + Kt8 ks
end
mutual
def tms:K01→Nat
 | ⟨_,_,ty,ks⟩=>ty.length + ks.length + Kt9 ks
def Kt9:List K01→Nat
 | []=>0
 | k :: ks=>tms k + Kt9 ks
end
theorem Kta (t:K01):tms t=t.fType.length + t.fKids.length + Kt9 t.fKids:=by cases t; rw [tms]
theorem Ktb (t:K01):tsz t=1 + Kt8 t.fKids:=by cases t; rw [tsz]
def Ktc (left n:Nat):Int:=if n ≤ left then ((left - n:Nat):Int) else -1
theorem Ktd {left n:Nat} (h:n ≤ left):Ktc left n=((left - n:Nat):Int):=if_pos h
theorem Kte {left n:Nat} (h:¬ n ≤ left):Ktc left n=-1:=if_neg h
theorem Ktf (t:K01) (i:Int):Khk (t,-1,i)=some (-1):=by
 rw [Khk.eq_def]
 simp only
 cases decide (i < (t.fKids.length:Int)) <;> rfl
mutual
theorem Ktg:∀ (t:K01) (left:Nat),tms t ≤ 1099511627776→left ≤ 1048576→Khj (t,(left:Int))=some (Ktc left (tsz t))
 | ⟨op,N,ty,ks⟩,left,ht,hl=>by
  rw [tms] at ht
  rw [Khj.eq_def,tsz]
  simp only
  rcases left with _ | l
  ·rw [show wr (((0:Nat):Int) - 1)=-1 from Kr7 (by omega) (by omega),Ktf,bs,Kte (by omega)]
  ·have h:=Kth ks ⟨op,N,ty,ks⟩ 0 l rfl (by simp only; omega) (by omega) (by omega)
   rw [Kr7 (by omega) (by omega),show ((l + 1:Nat):Int) - 1=(l:Int) by omega,show (0:Int)=((0:Nat):Int) from rfl,h,bs]
   unfold Ktc
   by_cases q:Kt8 ks ≤ l
   ·rw [if_pos q,if_pos (by omega),show l + 1 - (1 + Kt8 ks)=l - Kt8 ks by omega]
   ·rw [if_neg q,if_neg (by omega)]
theorem Kth:∀ (ks:List K01) (t:K01) (i left:Nat),t.fKids.drop i=ks→t.fKids.length ≤ 1099511627776→Kt9 ks ≤ 1099511627776→left ≤ 1048576→Khk (t,(left:Int),(i:Int))=some (Ktc left (Kt8 ks))
 | [],t,i,left,hd,hk,ht,hl=>by
  rw [Khk.eq_def,Kt8]
  simp only
  rw [Krb (Kse hd)]
  simp [bs,Ktc]
 | k :: ks,t,i,left,hd,hk,ht,hl=>by
  obtain ⟨hi,hx,hd'⟩:=Ksd hd
  rw [Kt9] at ht
  rw [Khk.eq_def,Kt8]
  simp only
  rw [Kra hi,if_pos rfl,bs,decide_eq_true (by omega:((left:Nat):Int) ≥ 0),if_pos rfl,hx,bs,Ktg k left (by omega) hl,bs,Kr9 (by omega)]
  by_cases q:tsz k ≤ left
  ·rw [Ktd q,Kth ks t (i + 1) (left - tsz k) hd' hk (by omega) (by omega)]
   unfold Ktc
   by_cases q2:Kt8 ks ≤ left - tsz k
   ·rw [if_pos q2,if_pos (by omega)]; congr 2; omega
   ·rw [if_neg q2,if_neg (by omega)]
  ·rw [Kte q,Ktf,Kte (by omega)]
end
def Kti (op:Int):Int:=if inB op 0 12 then ([0,0,2,3,2,2,1,1,3,1,2,1,2]:List Int).getD op.toNat 0 else -1
def Ktj (op:Int):Bool:=op == 5 || op == 8 || op == 9 || op == 11 || op == 12
def Ktk (op:Int):Bool:=op == 6 || op == 7 || op == 9
def Ktl (op:Int):ByteArray:=([ByteArray.mk #[120],ByteArray.empty,ByteArray.mk #[97,100,100],ByteArray.mk #[105,102],ByteArray.mk #[112,97,105,114],ByteArray.mk #[115,112,108,105,116],ByteArray.mk #[108,101,102,116],
 ByteArray.mk #[114,105,103,104,116],ByteArray.mk #[99,97,115,101],ByteArray.mk #[102,117,110],ByteArray.mk #[97,112,112],ByteArray.mk #[98,111,120],ByteArray.mk #[111,112,101,110]]:List ByteArray).getD op.toNat ByteArray.empty
theorem Ktm {op:Int} (h:inB op 0 12=true):op=0∨op=1∨op=2∨op=3∨op=4∨op=5∨op=6∨op=7∨op=8∨op=9∨op=10∨op=11∨op=12:=by
 simp only [inB,Bool.and_eq_true,decide_eq_true_eq] at h
 omega
theorem Ktn (op:Int):Kqr op=some (Kti op):=by
 unfold Kqr Kti
 rw [sIn,bs]
 cases h:inB op 0 12
 ·rfl
 ·rcases Ktm h with rfl | rfl | rfl | rfl | rfl | rfl | rfl | rfl | rfl | rfl | rfl | rfl | rfl <;> rfl
theorem Kto (op:Int):Kqs op=some (Ktj op):=by
 unfold Kqs Ktj
 cases op == 5 <;> cases op == 8 <;> cases op == 9 <;> cases op == 11 <;> rfl
theorem Ktp (op:Int):Kqt op=some (Ktk op):=by
 unfold Kqt Ktk
 cases op == 6 <;> cases op == 7 <;> rfl
def Ktq (op:Int):K05 × Bool:=if inB op 0 12 then (K05.mk (Ktl op) (Kti op) (Ktj op) (Ktk op),true) else (K05.mk ByteArray.empty 0 false false,false)
theorem Ktr (op:Int):Kl5 op=some (Ktq op):=by
 unfold Kl5 Ktq
 rw [iIn,bs]
 cases h:inB op 0 12
 ·rfl
 ·rcases Ktm h with rfl | rfl | rfl | rfl | rfl | rfl | rfl | rfl | rfl | rfl | rfl | rfl | rfl <;> rfl
def Kts (op kid:Int):Nat:=if op == 5 && kid == 1 then 2 else if (op == 8 && decide (kid > 0)) || op == 9 || (op == 12 && kid == 1) then 1 else 0
theorem Ktt (op kid:Int):Kts op kid ≤ 2:=by unfold Kts; split <;> (try split) <;> omega
theorem Ktu (op kid:Int):Kgi (op,kid)=some ((Kts op kid:Nat):Int):=by
 unfold Kgi Kts
 simp only
 generalize (op == 5)=b1
 generalize (op == 8)=b2
 generalize (op == 9)=b3
 generalize (op == 12)=b4
 generalize (kid == 1)=b5
 generalize decide (kid > 0)=b6
 cases b1 <;> cases b2 <;> cases b3 <;> cases b4 <;> cases b5 <;> cases b6 <;> rfl
theorem Ktv (op kid:Int):Klb (op,kid)=some ((Kts op kid:Nat):Int):=by
 unfold Klb Kts
 simp only
 generalize (op == 5)=b1
 generalize (op == 8)=b2
 generalize (op == 9)=b3
 generalize (op == 12)=b4
 generalize (kid == 1)=b5
 generalize decide (kid > 0)=b6
 cases b1 <;> cases b2 <;> cases b3 <;> cases b4 <;> cases b5 <;> cases b6 <;> rfl
def Ktw (g:Int→Bool) (n:Int) (t:K01):Bool:=if t.fOp == 0 then inB t.fN 0 (n - 1) else if t.fOp == 1 then inB t.fN 0 2 else if Ktj t.fOp then g t.fN else t.fN == 0
def Ktx (y:List Int→Bool) (t:K01):Bool:=if Ktk t.fOp then y t.fType else (t.fType.length:Int) == 0
def Kty (g:Int→Bool) (y:List Int→Bool) (n:Int) (t:K01):Bool:=inB t.fOp 0 12 && ((t.fKids.length:Int) == Kti t.fOp) && Ktw g n t && Ktx y t
mutual
def tOk (g:Int→Bool) (y:List Int→Bool):Nat→K01→Bool
 | n,⟨op,N,ty,ks⟩=>Kty g y (n:Int) ⟨op,N,ty,ks⟩ && Ktz g y op n 0 ks
def Ktz (g:Int→Bool) (y:List Int→Bool):Int→Nat→Nat→List K01→Bool
 | _,_,_,[]=>true
 | op,n,i,k :: ks=>tOk g y (n + Kts op (i:Int)) k && Ktz g y op n (i + 1) ks
end
theorem Ku0 (g:Int→Bool) (y:List Int→Bool) (n:Nat) (t:K01):tOk g y n t=(Kty g y (n:Int) t && Ktz g y t.fOp n 0 t.fKids):=by cases t; rw [tOk]
def gN (size:Int) (cl:Bool) (x:Int):Bool:=!(decide (x ≥ size) || decide (x < -1) || cl && decide (x < 0))
def yN (size:Int) (cl:Bool) (ty:List Int):Bool:=wtB ty && ty.all (Kt3 size cl)
theorem Ku1 (t:K01) (n:Nat) (size:Int) (cl:Bool) (hty:t.fType.length ≤ 1099511627776) (hn:n ≤ 35184372088832):Kqx (t,(n:Int),size,cl)=some (Kty (gN size cl) (yN size cl) (n:Int) t):=by
 unfold Kqx Kty
 simp only
 rw [Ktn,bs]
 by_cases hk:(t.fKids.length:Int)=Kti t.fOp
 ·have hop:inB t.fOp 0 12=true:=by
   cases h:inB t.fOp 0 12
   ·unfold Kti at hk; rw [h] at hk; simp at hk
   ·rfl
  rw [show ((t.fKids.length:Int) != Kti t.fOp)=false by rw [hk]; exact Krc,if_neg (by decide),show ((t.fKids.length:Int) == Kti t.fOp)=true by rw [hk]; simp,hop]
  refine (Kt7 (x:=if Ktw (gN size cl) (n:Int) t then .inl () else .inr false) ?_).trans ?_
  ·unfold Ktw gN
   rw [sIn,Kr7 (by omega) (by omega),sIn,Kto]
   simp only [bs]
   generalize inB t.fN 0 ((n:Int) - 1)=b1
   generalize inB t.fN 0 2=b2
   generalize Ktj t.fOp=b3
   rw [show (t.fN != 0)=!(t.fN == 0) from rfl]
   generalize (t.fN == 0)=b4
   generalize decide (t.fN ≥ size)=b5
   generalize decide (t.fN < -1)=b6
   generalize decide (t.fN < 0)=b7
   generalize (t.fOp == 0)=b8
   generalize (t.fOp == 1)=b9
   cases b8
   ·cases b9
    ·cases b3
     ·cases b4 <;> rfl
     ·cases b5 <;> cases b6 <;> cases cl <;> cases b7 <;> rfl
    ·cases b2 <;> rfl
   ·cases b1 <;> rfl
  ·cases Ktw (gN size cl) (n:Int) t
   ·simp
   ·unfold Ktx yN
    simp only [if_true]
    rw [Ktp,bs]
    cases Ktk t.fOp
    ·simp
    ·simp only [if_true]
     rw [Kt0 _ hty,Kt6 _ hty]
     cases wtB t.fType <;> simp [bs]
 ·rw [show ((t.fKids.length:Int) != Kti t.fOp)=true by simpa using hk,if_pos rfl,show ((t.fKids.length:Int) == Kti t.fOp)=false by simpa using hk]
  simp
mutual
theorem Ku2 (size:Int) (cl:Bool):∀ (t:K01) (n:Nat),tms t ≤ 1099511627776→n + 2 * tms t ≤ 35184372088832→Kqy (t,(n:Int),size,cl)=some (tOk (gN size cl) (yN size cl) n t)
 | ⟨op,N,ty,ks⟩,n,ht,hn=>by
  rw [tms] at ht hn
  rw [Kqy.eq_def,tOk]
  simp only
  rw [Ku1 _ n size cl (by simp only; omega) (by omega),bs]
  cases hb:Kty (gN size cl) (yN size cl) (n:Int) ⟨op,N,ty,ks⟩
  ·rfl
  ·have h:=Ku3 size cl ks ⟨op,N,ty,ks⟩ n 0 rfl (by simp only; omega) (by omega) (by omega)
   rw [if_pos rfl,show (0:Int)=((0:Nat):Int) from rfl,h,bs]
   simp only
   cases Ktz (gN size cl) (yN size cl) op n 0 ks <;> rfl
theorem Ku3 (size:Int) (cl:Bool):∀ (ks:List K01) (t:K01) (n i:Nat),t.fKids.drop i=ks→t.fKids.length ≤ 1099511627776→Kt9 ks ≤ 1099511627776→n + 2 * (ks.length + Kt9 ks) ≤ 35184372088832 →
  Kqz (t,(n:Int),size,cl,(i:Int))=some (if Ktz (gN size cl) (yN size cl) t.fOp n i ks then .inl () else .inr false)
 | [],t,n,i,hd,hk,ht,hn=>by
  rw [Kqz.eq_def,Ktz]
  simp only
  rw [Krb (Kse hd)]; rfl
 | k :: ks,t,n,i,hd,hk,ht,hn=>by
  obtain ⟨hi,hx,hd'⟩:=Ksd hd
  rw [Kt9] at ht hn
  rw [List.length_cons] at hn
  have ha:=Ktt t.fOp (i:Int)
  rw [Kqz.eq_def,Ktz]
  simp only
  rw [Kra hi,if_pos rfl,hx,bs,Ktu,bs,Kr7 (by omega) (by omega),show (n:Int) + ((Kts t.fOp (i:Int):Nat):Int)=((n + Kts t.fOp (i:Int):Nat):Int) by omega]
  rw [Ku2 size cl k (n + Kts t.fOp (i:Int)) (by omega) (by omega),bs,Kr9 (by omega)]
  cases tOk (gN size cl) (yN size cl) (n + Kts t.fOp (i:Int)) k
  ·rfl
  ·rw [if_pos rfl,Ku3 size cl ks t n (i + 1) hd' hk (by omega) (by omega),Bool.true_and]
end
def Ku4 (ok:Bool) (nodes sz:Nat):Int:=if ok && decide (nodes + sz ≤ 400) then ((nodes + sz:Nat):Int) else 401
theorem iWs (x:Int):Kps x=some (gN 16 false x):=by
 unfold Kps
 rw [iIn,bs]
 congr 1
 unfold gN inB
 by_cases h1:x ≥ 16 <;> by_cases h2:x < -1 <;> simp [h1,h2] <;> omega
mutual
theorem Ku5:∀ (t:K01) (n nodes:Nat),tms t ≤ 1099511627776→n + 2 * tms t ≤ 35184372088832→nodes ≤ 400→Kpx (t,(n:Int),(nodes:Int))=some (Ku4 (tOk (gN 16 false) wtB n t) nodes (tsz t))
 | ⟨op,N,ty,ks⟩,n,nodes,ht,hn,hd=>by
  rw [tms] at ht hn
  rw [Kpx.eq_def,tOk,tsz]
  simp only
  rw [Ktr,bs]
  unfold Ktq
  cases hop:inB op 0 12
  ·simp [Kty,hop,Ku4]
  ·simp only [if_true]
   rw [Kr9 (by omega)]
   by_cases h4:nodes + 1 ≤ 400
   ·rw [decide_eq_false (by omega:¬ ((nodes + 1:Nat):Int) > 400)]
    by_cases hk:(ks.length:Int)=Kti op
    ·rw [show ((ks.length:Int) != Kti op)=false by rw [hk]; exact Krc]
     simp only [Bool.false_eq_true,if_false,bs]
     refine (Kt7 (x:=Ktw (gN 16 false) (n:Int) ⟨op,N,ty,ks⟩) ?_).trans ?_
     ·unfold Ktw
      simp only [iIn,Kr7 (x:=(n:Int) - 1) (by omega) (by omega),iWs,bs]
      cases op == 0 <;> cases op == 1 <;> cases Ktj op <;> rfl
     refine (Kt7 (x:=Ktw (gN 16 false) (n:Int) ⟨op,N,ty,ks⟩ && Ktx wtB ⟨op,N,ty,ks⟩) ?_).trans ?_
     ·unfold Ktx
      simp only [Kt1 ty (by omega),bs]
      cases Ktk op <;> cases Ktw (gN 16 false) (n:Int) ⟨op,N,ty,ks⟩ <;> rfl
     have e:Kty (gN 16 false) wtB (n:Int) ⟨op,N,ty,ks⟩=(Ktw (gN 16 false) (n:Int) ⟨op,N,ty,ks⟩ && Ktx wtB ⟨op,N,ty,ks⟩):=by
      unfold Kty
      simp only
      rw [hop,hk]; simp
     rw [e]
     cases Ktw (gN 16 false) (n:Int) ⟨op,N,ty,ks⟩ && Ktx wtB ⟨op,N,ty,ks⟩
     ·simp [Ku4]
     ·have h:=Ku6 ks ⟨op,N,ty,ks⟩ n (nodes + 1) 0 rfl (by simp only; omega) (by omega) (by omega) h4
      rw [if_pos rfl,show (0:Int)=((0:Nat):Int) from rfl,h]
      simp only [Bool.true_and]
      unfold Ku4
      rw [show nodes + (1 + Kt8 ks)=nodes + 1 + Kt8 ks by omega]
      cases Ktz (gN 16 false) wtB op n 0 ks && decide (nodes + 1 + Kt8 ks ≤ 400) <;> rfl
    ·rw [show ((ks.length:Int) != Kti op)=true by simpa using hk]
     have e:Kty (gN 16 false) wtB (n:Int) ⟨op,N,ty,ks⟩=false:=by
      unfold Kty
      simp only
      rw [show ((ks.length:Int) == Kti op)=false by simpa using hk]; simp
     simp [e,Ku4]
   ·rw [decide_eq_true (by omega:((nodes + 1:Nat):Int) > 400)]
    have:¬ nodes + (1 + Kt8 ks) ≤ 400:=by omega
    simp [Ku4,this]
theorem Ku6:∀ (ks:List K01) (t:K01) (n nodes i:Nat),t.fKids.drop i=ks→t.fKids.length ≤ 1099511627776→Kt9 ks ≤ 1099511627776→n + 2 * (ks.length + Kt9 ks) ≤ 35184372088832→nodes ≤ 400 →
  Kpy (t,(n:Int),(nodes:Int),(i:Int))=some (if Ktz (gN 16 false) wtB t.fOp n i ks && decide (nodes + Kt8 ks ≤ 400) then .inl ((nodes + Kt8 ks:Nat):Int) else .inr 401)
 | [],t,n,nodes,i,hd,hk,ht,hn,h4=>by
  rw [Kpy.eq_def,Ktz,Kt8]
  simp only
  rw [Krb (Kse hd)]
  simp [h4]
 | k :: ks,t,n,nodes,i,hd,hk,ht,hn,h4=>by
  obtain ⟨hi,hx,hd'⟩:=Ksd hd
  rw [Kt9] at ht hn
  rw [List.length_cons] at hn
  have ha:=Ktt t.fOp (i:Int)
  rw [Kpy.eq_def,Ktz,Kt8]
  simp only
  rw [Kra hi,if_pos rfl,hx,bs,Ktv,bs,Kr7 (by omega) (by omega),show (n:Int) + ((Kts t.fOp (i:Int):Nat):Int)=((n + Kts t.fOp (i:Int):Nat):Int) by omega]
  rw [Ku5 k (n + Kts t.fOp (i:Int)) nodes (by omega) (by omega) h4,bs,Kr9 (by omega)]
  unfold Ku4
  cases tOk (gN 16 false) wtB (n + Kts t.fOp (i:Int)) k
  ·rfl
  ·by_cases q:nodes + tsz k ≤ 400
   ·rw [decide_eq_true q,Bool.true_and,if_pos rfl,decide_eq_false (by omega:¬ ((nodes + tsz k:Nat):Int) > 400),if_neg (by decide),Ku6 ks t n (nodes + tsz k) (i + 1) hd' hk (by omega) (by omega) q,Nat.add_assoc,Bool.true_and]
   ·rw [decide_eq_false q,decide_eq_false (by omega:¬ nodes + (tsz k + Kt8 ks) ≤ 400)]
    simp
end
def wB (t:K01):Bool:=tOk (gN 16 false) wtB 8 t && decide (tsz t ≤ 400)
theorem Ku7 (t:K01) (ht:tms t ≤ 1099511627776):Kq4 t=some (Ku4 (tOk (gN 16 false) wtB 8 t) 0 (tsz t)):=by
 unfold Kq4
 have:=Ku5 t 8 0 ht (by omega) (by omega)
 rw [show ((8:Nat):Int)=8 from rfl,show ((0:Nat):Int)=0 from rfl] at this
 rw [this,bs]
mutual
def tln:K01→Prop
 | ⟨_,N,ty,ks⟩=>ty.length ≤ 9223372036854775807∧ks.length ≤ 9223372036854775807∧Ku8 ks∧(-9223372036854775808 ≤ N∧N ≤ 9223372036854775807)
def Ku8:List K01→Prop
 | []=>True
 | k :: ks=>tln k∧Ku8 ks
end
theorem Ku9 (l:List Int):∀ (m:Nat),skip m l=some []→∀ c ∈ l,0 ≤ c∧c ≤ 36:=by
 induction l with
 | nil=>intro m h c hc; cases hc
 | cons x l ih =>
  intro m h c hc
  cases m with
  | zero=>rw [Ksp] at h; cases h
  | succ m =>
   rw [Ksr] at h
   by_cases hk:Ksh x=-1
   ·rw [if_pos hk] at h; cases h
   ·rw [if_neg hk] at h
    rcases List.mem_cons.1 hc with rfl | hc
    ·rcases Ksl c with q | q | q | q <;> omega
    ·exact ih _ h c hc
theorem Kua {ty:List Int} (h:wtB ty=true):∀ c ∈ ty,0 ≤ c∧c ≤ 36:=by
 unfold wtB at h
 rw [Bool.and_eq_true,beq_iff_eq] at h
 exact Ku9 ty 1 h.2
theorem Kub {ty:List Int} (h:wtB ty=true):ty.length ≤ 40:=by
 unfold wtB at h
 rw [Bool.and_eq_true,decide_eq_true_eq] at h
 exact h.1
theorem Kuc {g:Int→Bool} {y:List Int→Bool} {n:Nat} {t:K01} (h:tOk g y n t=true):Kty g y (n:Int) t=true∧Ktz g y t.fOp n 0 t.fKids=true:=by
 rw [Ku0,Bool.and_eq_true] at h; exact h
theorem Kud {g:Int→Bool} {n:Int} {t:K01} (h:Kty g wtB n t=true):(∀ c ∈ t.fType,0 ≤ c∧c ≤ 36)∧t.fType.length ≤ 40:=by
 unfold Kty Ktx at h
 rw [Bool.and_eq_true] at h
 have h:=h.2
 cases hq:Ktk t.fOp
 ·rw [hq] at h
  simp at h
  rw [h]; simp
 ·rw [hq,if_pos rfl] at h
  exact ⟨Kua h,Kub h⟩
theorem Kue {n b:Nat} (h:n * b ≤ 140737488355328):Qei n b=some ():=by unfold Qei chk; rw [if_pos h]
theorem Kuf {g:Int→Bool} {y:List Int→Bool} {n:Int} {t:K01} (h:Kty g y n t=true):inB t.fOp 0 12=true∧(t.fKids.length:Int)=Kti t.fOp:=by
 unfold Kty at h
 simp only [Bool.and_eq_true,beq_iff_eq] at h
 exact ⟨h.1.1.1,h.1.1.2⟩
theorem Kug (l:List Int) (h:l.length ≤ 1099511627776):Keo l=some l:=by
 unfold Keo
 rw [Kue (by simp only [List.length_nil]; omega),bs]
theorem Kuh (l:List Int) (h:l.length ≤ 1099511627776):Kmo l=some l:=by
 unfold Kmo
 rw [Kue (by simp only [List.length_nil]; omega),bs]
structure Kui (s:K00) (n:Nat):Prop where
 size:s.fSize=(n:Int)
 lo:2 ≤ n
 hi:n ≤ 16
 lp:s.fPlus.length=n * n
 lt:s.fTimes.length=n * n
 lb:s.fBelow.length=n * n
def Kuj (s:K00) (n i:Nat):Bool:=inB (s.fPlus.getD i 0) 0 ((n:Int) - 1) && inB (s.fTimes.getD i 0) 0 ((n:Int) - 1)
section
variable {s:K00} {n:Nat} (h:Kui s n)
include h
theorem nn:n * n ≤ 256:=Nat.le_trans (Nat.mul_le_mul h.hi h.hi) (by decide)
theorem Kuk {i:Nat} (hi:i < n * n):idx s.fPlus (i:Int)=some (s.fPlus.getD i 0):=by
 have hl:i < s.fPlus.length:=by rw [h.lp]; exact hi
 rw [Kr8 hl,List.getD_eq_getElem?_getD,List.getElem?_eq_getElem hl]; rfl
theorem Kul {i:Nat} (hi:i < n * n):idx s.fTimes (i:Int)=some (s.fTimes.getD i 0):=by
 have hl:i < s.fTimes.length:=by rw [h.lt]; exact hi
 rw [Kr8 hl,List.getD_eq_getElem?_getD,List.getElem?_eq_getElem hl]; rfl
theorem Kum:wr (s.fSize - 1)=(n:Int) - 1:=by
 have:=h.lo; have:=h.hi
 rw [h.size,Kr7 (by omega) (by omega)]
theorem Kun:∀ (k i:Nat),i + k=n * n→Kb7 (s,(i:Int))=some (if (List.range' i k).all (Kuj s n) then .inl () else .inr false):=by
 have hn:=nn h
 intro k
 induction k with
 | zero =>
  intro i hm
  rw [Kb7.eq_def]
  simp only
  rw [h.lp,Krb (by omega)]
  rfl
 | succ k ih =>
  intro i hm
  rw [Kb7.eq_def]
  simp only
  rw [h.lp,Kra (by omega),if_pos rfl,Kuk h (by omega),Kul h (by omega),Kum h]
  have ih:=ih (i + 1) (by omega)
  rw [Kr9 (by omega),List.range'_succ,List.all_cons]
  generalize ((i + 1:Nat):Int)=M at ih ⊢
  generalize (List.range' (i + 1) k).all (Kuj s n)=r at ih ⊢
  simp only [bs,sIn]
  cases h1:inB (s.fPlus.getD i 0) 0 ((n:Int) - 1) <;> cases h2:inB (s.fTimes.getD i 0) 0 ((n:Int) - 1) <;> cases r <;> simp only [Kuj,h1,h2,ih,bs,Bool.not_true,Bool.not_false,Bool.true_and,Bool.false_and,Bool.and_true,Bool.and_false,if_true,if_false,Bool.false_eq_true]
theorem Kuo:∀ (k i:Nat),i + k=n * n→Kjr (s,(i:Int))=some (if (List.range' i k).all (Kuj s n) then .inl () else .inr false):=by
 have hn:=nn h
 intro k
 induction k with
 | zero =>
  intro i hm
  rw [Kjr.eq_def]
  simp only
  rw [h.lp,Krb (by omega)]
  rfl
 | succ k ih =>
  intro i hm
  rw [Kjr.eq_def]
  simp only
  rw [h.lp,Kra (by omega),if_pos rfl,Kuk h (by omega),Kul h (by omega)]
  have ih:=ih (i + 1) (by omega)
  rw [Kr9 (by omega),List.range'_succ,List.all_cons]
  generalize ((i + 1:Nat):Int)=M at ih ⊢
  generalize (List.range' (i + 1) k).all (Kuj s n)=r at ih ⊢
  have hh:∀ x,Kiu (s,x)=some (inB x 0 ((n:Int) - 1)):=fun x=>by
   unfold Kiu
   simp only
   rw [Kum h,iIn,bs]
  simp only [bs,hh]
  cases h1:inB (s.fPlus.getD i 0) 0 ((n:Int) - 1) <;> cases h2:inB (s.fTimes.getD i 0) 0 ((n:Int) - 1) <;> cases r <;> simp only [Kuj,h1,h2,ih,bs,Bool.not_true,Bool.not_false,Bool.true_and,Bool.false_and,Bool.and_true,Bool.and_false,if_true,if_false,Bool.false_eq_true]
theorem Kup (he:(List.range' 0 (n * n)).all (Kuj s n)=true):Tab s n:=by
 rw [List.all_eq_true] at he
 have hent:∀ i,i < n * n→Kuj s n i=true:=fun i hi=>he i (by rw [List.mem_range'_1]; omega)
 refine ⟨h.size,h.lo,h.hi,h.lp,h.lt,h.lb,fun i hi=>?_,fun i hi=>?_⟩
 ·have:=hent i (by rw [← h.lp]; exact hi)
  simp only [Kuj,inB,Bool.and_eq_true,decide_eq_true_eq,List.getD_eq_getElem?_getD,List.getElem?_eq_getElem hi,Option.getD_some] at this
  omega
 ·have:=hent i (by rw [← h.lt]; exact hi)
  simp only [Kuj,inB,Bool.and_eq_true,decide_eq_true_eq,List.getD_eq_getElem?_getD,List.getElem?_eq_getElem hi,Option.getD_some] at this
  omega
end
def Kuq (s:K00):Bool:=inB s.fSize 2 16 && !((s.fPlus.length:Int) != (wr (s.fSize * s.fSize))) && !((s.fTimes.length:Int) != (wr (s.fSize * s.fSize))) && !((s.fBelow.length:Int) != (wr (s.fSize * s.fSize)))
theorem Kur {s:K00} (h:Kuq s=true):Kui s s.fSize.toNat:=by
 unfold Kuq at h
 simp only [Bool.and_eq_true,Bool.not_eq_true',inB,decide_eq_true_eq,bne_eq_false_iff_eq] at h
 obtain ⟨⟨⟨⟨h1,h2⟩,h3⟩,h4⟩,h5⟩:=h
 obtain ⟨n,hn⟩:∃ n:Nat,s.fSize=(n:Int):=⟨s.fSize.toNat,by omega⟩
 rw [hn] at h1 h2 h3 h4 h5 ⊢
 have h256:n * n ≤ 256:=Nat.le_trans (Nat.mul_le_mul (by omega:n ≤ 16) (by omega:n ≤ 16)) (by decide)
 have e:(n:Int) * (n:Int)=((n * n:Nat):Int):=by simp
 rw [e] at h3 h4 h5
 generalize hm:n * n=m at *
 rw [Kr7 (by omega) (by omega)] at h3 h4 h5
 rw [Int.toNat_natCast]
 exact ⟨hn,by omega,by omega,by omega,by omega,by omega⟩
def Kus (s:K00):Bool:=Kuq s && (List.range' 0 (s.fSize.toNat * s.fSize.toNat)).all (Kuj s s.fSize.toNat) && Ks6 s s.fSize.toNat
theorem Kut {s:K00} (h:Kus s=true):Tab s s.fSize.toNat:=by
 unfold Kus at h
 simp only [Bool.and_eq_true] at h
 exact Kup (Kur h.1.1) h.1.2
theorem Kuu (s:K00):Kco s=some (Kus s):=by
 unfold Kco Kba Kus
 rw [sIn]
 cases hf:Kuq s with
 | false =>
  unfold Kuq at hf
  cases h1:inB s.fSize 2 16 <;> cases h2:((s.fPlus.length:Int) != (wr (s.fSize * s.fSize))) <;> cases h3:((s.fTimes.length:Int) != (wr (s.fSize * s.fSize))) <;> cases h4:((s.fBelow.length:Int) != (wr (s.fSize * s.fSize))) <;> simp_all [bs]
 | true =>
  have F:=Kur hf
  have hl:=Kun F (s.fSize.toNat * s.fSize.toNat) 0 (by omega)
  rw [show ((0:Nat):Int)=0 from rfl] at hl
  unfold Kuq at hf
  simp only [Bool.and_eq_true,Bool.not_eq_true'] at hf
  obtain ⟨⟨⟨h1,h2⟩,h3⟩,h4⟩:=hf
  cases he:(List.range' 0 (s.fSize.toNat * s.fSize.toNat)).all (Kuj s s.fSize.toNat) with
  | false=>rw [he] at hl; simp [bs,h1,h2,h3,h4,hl]
  | true =>
   have T:=Kup F he
   have hl2:=Ksb T s.fSize.toNat 0 (by omega)
   rw [show ((0:Nat):Int)=0 from rfl] at hl2
   rw [he] at hl
   have hm:(List.range' 0 s.fSize.toNat).all (fun a=>Krq s s.fSize.toNat a && (List.range' 0 s.fSize.toNat).all fun b=>Ks3 s s.fSize.toNat a b && (List.range' 0 s.fSize.toNat).all fun c=>Krr s s.fSize.toNat a b c)=Ks6 s s.fSize.toNat:=rfl
   rw [hm] at hl2
   cases hs:Ks6 s s.fSize.toNat <;> rw [hs] at hl2 <;> simp [bs,h1,h2,h3,h4,hl,hl2]
theorem Kuv (s:K00):Kk6 s=some (Kus s):=by
 unfold Kk6 Kus
 rw [iIn]
 cases hf:Kuq s with
 | false =>
  unfold Kuq at hf
  cases h1:inB s.fSize 2 16 <;> cases h2:((s.fPlus.length:Int) != (wr (s.fSize * s.fSize))) <;> cases h3:((s.fTimes.length:Int) != (wr (s.fSize * s.fSize))) <;> cases h4:((s.fBelow.length:Int) != (wr (s.fSize * s.fSize))) <;> simp_all [bs]
 | true =>
  have F:=Kur hf
  have hl:=Kuo F (s.fSize.toNat * s.fSize.toNat) 0 (by omega)
  rw [show ((0:Nat):Int)=0 from rfl] at hl
  unfold Kuq at hf
  simp only [Bool.and_eq_true,Bool.not_eq_true'] at hf
  obtain ⟨⟨⟨h1,h2⟩,h3⟩,h4⟩:=hf
  cases he:(List.range' 0 (s.fSize.toNat * s.fSize.toNat)).all (Kuj s s.fSize.toNat) with
  | false=>rw [he] at hl; simp [bs,h1,h2,h3,h4,hl]
  | true =>
   have T:=Kup F he
   have hl2:=Ksc T s.fSize.toNat 0 (by omega)
   rw [show ((0:Nat):Int)=0 from rfl] at hl2
   rw [he] at hl
   have hm:(List.range' 0 s.fSize.toNat).all (fun a=>Krq s s.fSize.toNat a && (List.range' 0 s.fSize.toNat).all fun b=>Ks3 s s.fSize.toNat a b && (List.range' 0 s.fSize.toNat).all fun c=>Krr s s.fSize.toNat a b c)=Ks6 s s.fSize.toNat:=rfl
   rw [hm] at hl2
   cases hs:Ks6 s s.fSize.toNat <;> rw [hs] at hl2 <;> simp [bs,h1,h2,h3,h4,hl,hl2]
section
variable {s:K00} {n:Nat} (h:Tab s n)
include h
theorem Kuw:wr (s.fSize - 1)=(n:Int) - 1:=by
 have:=h.lo; have:=h.hi
 rw [h.size,Kr7 (by omega) (by omega)]
end
inductive Ty where
 | num
 | bin (c:Int) (a b:Ty)
 | un (c:Int) (a:Ty)
namespace Ty
def code:Ty→List Int
 | num=>[0]
 | bin c a b=>c :: (a.code ++ b.code)
 | un c a=>c :: a.code
def ok:Ty→Prop
 | num=>True
 | bin c a b=>Ksh c=2∧a.ok∧b.ok
 | un c a=>Ksh c=1∧a.ok
def kids:Ty→List Ty
 | num=>[]
 | bin _ a b=>[a,b]
 | un _ a=>[a]
def hd:Ty→Int
 | num=>0
 | bin c _ _=>c
 | un c _=>c
end Ty
def Kux:List Ty→List Int
 | []=>[]
 | t :: l=>t.code ++ Kux l
theorem Kuy (T:Ty):T.code=T.hd :: Kux T.kids:=by cases T <;> simp [Ty.code,Ty.hd,Ty.kids,Kux]
theorem Kuz (T:Ty):1 ≤ T.code.length:=by rw [Kuy]; simp
theorem Kv0 (T:Ty):∀ (m:Nat) (l:List Int),T.ok→skip (m + 1) (T.code ++ l)=skip m l:=by
 induction T with
 | num =>
  intro m l _
  rw [Ty.code,List.singleton_append,Ksr,show Ksh 0=0 from rfl,if_neg (by decide)]; rfl
 | bin c a b iha ihb =>
  intro m l h
  rw [Ty.code,List.cons_append,Ksr,h.1,if_neg (by decide),List.append_assoc,show m + (2:Int).toNat=(m + 1) + 1 from rfl,iha _ _ h.2.1,ihb _ _ h.2.2]
 | un c a ih =>
  intro m l h
  rw [Ty.code,List.cons_append,Ksr,h.1,if_neg (by decide),show m + (1:Int).toNat=m + 1 from rfl,ih _ _ h.2]
theorem Kv1 (l:List Int):∀ (m:Nat) (r:List Int),skip m l=some r→∃ Ts:List Ty,Ts.length=m∧(∀ T ∈ Ts,T.ok)∧l=Kux Ts ++ r:=by
 induction l with
 | nil =>
  intro m r h
  cases m with
  | zero=>rw [Ksp] at h; cases h; exact ⟨[],rfl,fun _ h=>(by cases h),rfl⟩
  | succ m=>rw [Ksq] at h; cases h
 | cons c l ih =>
  intro m r h
  cases m with
  | zero=>rw [Ksp] at h; cases h; exact ⟨[],rfl,fun _ h=>(by cases h),rfl⟩
  | succ m =>
   rw [Ksr] at h
   by_cases hk:Ksh c=-1
   ·rw [if_pos hk] at h; cases h
   ·rw [if_neg hk] at h
    obtain ⟨Ts,h1,h2,h3⟩:=ih _ _ h
    rcases Ksl c with ⟨q,e⟩ | ⟨q,e⟩ | ⟨q,e⟩ | ⟨q,e⟩
    ·subst q
     rw [e] at h1
     exact ⟨.num :: Ts,by simpa using h1,fun T hT=>by rcases List.mem_cons.1 hT with rfl | hT; exact trivial; exact h2 T hT,by rw [h3]; rfl⟩
    ·rw [e] at h1
     match Ts,h1 with
     | a :: b :: Ts,h1 =>
      refine ⟨.bin c a b :: Ts,by simpa using h1,fun T hT=>?_,by rw [h3]; simp [Kux,Ty.code]⟩
      rcases List.mem_cons.1 hT with rfl | hT
      ·exact ⟨e,h2 a List.mem_cons_self,h2 b (List.mem_cons_of_mem _ List.mem_cons_self)⟩
      ·exact h2 T (List.mem_cons_of_mem _ (List.mem_cons_of_mem _ hT))
     | [_],h1=>exact absurd h1 (by simp)
     | [],h1=>exact absurd h1 (by simp)
    ·rw [e] at h1
     match Ts,h1 with
     | a :: Ts,h1 =>
      refine ⟨.un c a :: Ts,by simpa using h1,fun T hT=>?_,by rw [h3]; simp [Kux,Ty.code]⟩
      rcases List.mem_cons.1 hT with rfl | hT
      ·exact ⟨e,h2 a List.mem_cons_self⟩
      ·exact h2 T (List.mem_cons_of_mem _ hT)
     | [],h1=>exact absurd h1 (by simp)
    ·exact absurd e hk
theorem Kv2 {ty:List Int} (h:wtB ty=true):∃ T:Ty,T.ok∧ty=T.code∧ty.length ≤ 40:=by
 have hl:=Kub h
 unfold wtB at h
 rw [Bool.and_eq_true,beq_iff_eq] at h
 obtain ⟨Ts,h1,h2,h3⟩:=Kv1 _ _ _ h.2
 match Ts,h1 with
 | [T],_=>exact ⟨T,h2 T List.mem_cons_self,by rw [h3]; simp [Kux],hl⟩
theorem Kv3 {T:Ty} (h:T.ok) (hl:T.code.length ≤ 40):wtB T.code=true:=by
 unfold wtB
 have:=Kv0 T 0 [] h
 rw [List.append_nil,Ksp] at this
 rw [decide_eq_true hl,show (1:Nat)=0 + 1 from rfl,this]; rfl
theorem Kv4 {T:Ty} (h:T.ok):∀ K ∈ T.kids,K.ok:=by
 intro K hK
 cases T with
 | num=>cases hK
 | bin c a b=>rcases List.mem_cons.1 hK with rfl | hK; exact h.2.1; rw [List.mem_singleton.1 hK]; exact h.2.2
 | un c a=>rw [List.mem_singleton.1 hK]; exact h.2
theorem Kv5 {pre:List Int} {T:Ty} {post:List Int} (h:T.ok):Ksu (pre ++ (T.code ++ post)) 1 pre.length=((pre.length + T.code.length:Nat):Int):=by
 unfold Ksu
 rw [List.drop_left,show (1:Nat)=0 + 1 from rfl,Kv0 T 0 post h,Ksp]
 simp only [List.length_append]
 omega
theorem Kv6 {α:Type} (p m q:List α) (mx:Option Int) (hmx:mx=none∨mx=some ((p.length + m.length:Nat):Int)):cut (p ++ (m ++ q)) (some (p.length:Int)) (some ((p.length + m.length:Nat):Int)) mx=some m:=by
 unfold cut
 have e:((p ++ (m ++ q)).take (p.length + m.length)).drop p.length=m:=by
  rw [← List.append_assoc,← List.length_append,List.take_left,List.drop_left]
 rw [if_pos]
 ·simp only [Option.getD_some,Int.toNat_natCast,e]
 ·rcases hmx with rfl | rfl <;> simp only [Option.getD_some,Option.getD_none,List.length_append] <;> omega
theorem Kv7 {α:Type} (p q:List α):cut (p ++ q) (some (p.length:Int)) none none=some q:=by
 unfold cut
 rw [if_pos]
 ·simp only [Option.getD_some,Option.getD_none,Int.toNat_natCast,List.take_length,List.drop_left]
 ·simp only [Option.getD_some,Option.getD_none,List.length_append]; omega
theorem Kv8 (Ks:List Ty):∀ (pre:List Int) (out:List (List Int)),(∀ K ∈ Ks,K.ok)→(pre ++ Kux Ks).length ≤ 1099511627776→out.length + Ks.length ≤ 1099511627776→Klq (pre ++ Kux Ks,out,(pre.length:Int))=some (out ++ Ks.map Ty.code):=by
 induction Ks with
 | nil =>
  intro pre out hk hl ho
  rw [show Kux []=[] from rfl,List.append_nil,Klq.eq_def]
  simp only
  rw [Krb (Nat.le_refl _)]; simp
 | cons K Ks ih =>
  intro pre out hk hl ho
  have hK:=hk K List.mem_cons_self
  have hp:=Kuz K
  rw [show Kux (K :: Ks)=K.code ++ Kux Ks from rfl] at hl ⊢
  rw [List.length_cons] at ho
  rw [Klq.eq_def]
  simp only
  rw [Kra (by simp only [List.length_append]; omega),if_pos rfl,Ksy _ hl _ pre.length rfl,Kv5 hK,bs,Kv6 _ _ _ _ (.inr rfl),bs,Kue (by simp only [List.length_singleton]; omega),bs]
  have:=ih (pre ++ K.code) (out ++ [K.code]) (fun K hK=>hk K (List.mem_cons_of_mem _ hK)) (by rw [List.append_assoc]; exact hl) (by simp; omega)
  rw [List.append_assoc,List.length_append] at this
  rw [this,List.map_cons,List.append_assoc]; rfl
theorem Kv9 {T:Ty} (h:T.ok) (hl:T.code.length ≤ 1048576):Klt T.code=some (T.kids.map Ty.code):=by
 unfold Klt
 have hk:T.kids.length ≤ 2:=by cases T <;> simp [Ty.kids]
 have e:[T.hd] ++ Kux T.kids=T.code:=(Kuy T).symm
 have:=Kv8 T.kids [T.hd] [] (Kv4 h) (by rw [e]; omega) (by simp only [List.length_nil]; omega)
 rw [e] at this
 rw [show (1:Int)=(([T.hd].length:Nat):Int) from rfl,this,bs]; rfl
theorem Kva {c:Int} {a:Ty} {r:List Int} (ha:a.ok) (hl:(c :: (a.code ++ r)).length ≤ 1099511627776):Ker (c :: (a.code ++ r),0)=some a.code:=by
 unfold Ker
 simp only
 have e:=Kv5 (pre:=[c]) (post:=r) ha
 have h1:=Ksw (c :: (a.code ++ r)) hl 1 (by simp)
 rw [show (((1:Nat)):Int)=1 from rfl] at h1
 rw [List.length_singleton] at e
 have e':Ksu (c :: (a.code ++ r)) 1 1=((1 + a.code.length:Nat):Int):=e
 rw [h1,bs,e',if_pos (by rfl)]
 have h2:=Kv6 [c] a.code r none (.inl rfl)
 rw [List.length_singleton] at h2
 have h2':cut (c :: (a.code ++ r)) (some 1) (some ((1 + a.code.length:Nat):Int)) none=some a.code:=h2
 simp only [List.length_cons,List.length_append] at hl
 rw [h2',bs,Kug _ (by omega),bs]
theorem Kvb {c:Int} {a:Ty} {r:List Int} (ha:a.ok) (hl:(c :: (a.code ++ r)).length ≤ 1099511627776):Ker (c :: (a.code ++ r),1)=some r:=by
 unfold Ker
 simp only
 have e:=Kv5 (pre:=[c]) (post:=r) ha
 have h1:=Ksw (c :: (a.code ++ r)) hl 1 (by simp)
 rw [show (((1:Nat)):Int)=1 from rfl] at h1
 rw [List.length_singleton] at e
 have e':Ksu (c :: (a.code ++ r)) 1 1=((1 + a.code.length:Nat):Int):=e
 rw [h1,bs,e',if_neg (by decide)]
 have h2:=Kv7 (c :: a.code) r
 rw [List.length_cons,List.cons_append,Nat.add_comm] at h2
 simp only [List.length_cons,List.length_append] at hl
 rw [h2,bs,Kug _ (by omega),bs]
def Kvc (s:K00) (g:Int):Bool:=inB g 0 (wr (s.fSize - 1))
theorem Kvd (s:K00) (g:Int):Kiu (s,g)=some (Kvc s g):=by
 unfold Kiu Kvc
 simp only
 rw [iIn,bs]
def Kve (s:K00) (c:Int):Bool:=!(((Ksm c).1 == 3 || (Ksm c).1 == 4) && !Kvc s (Ksm c).2)
def Kvf (s:K00) (ty:List Int):Bool:=wtB ty && ty.all (Kve s)
theorem Kvg (s:K00) (ty:List Int) (hty:ty.length ≤ 1099511627776):∀ (l:List Int) (i:Nat),ty.drop i=l→Kkj (s,ty,(i:Int))=some (if l.all (Kve s) then .inl () else .inr false):=by
 intro l
 induction l with
 | nil =>
  intro i hd
  rw [Kkj.eq_def]
  simp only
  rw [Krb (Kse hd)]; rfl
 | cons c l ih =>
  intro i hd
  obtain ⟨hi,hx,hd'⟩:=Ksd hd
  rw [Kkj.eq_def]
  simp only
  rw [Kra hi,if_pos rfl,hx,bs,Ksn,bs,Kr9 (by omega),ih (i + 1) hd',List.all_cons]
  unfold Kve
  rcases Ksm c with ⟨a,b⟩
  simp only [Kvd,bs]
  cases a == 3 <;> cases a == 4 <;> cases Kvc s b <;> simp [bs]
theorem Kvh (s:K00) (ty:List Int) (hty:ty.length ≤ 1099511627776):Kkm (s,ty)=some (Kvf s ty):=by
 unfold Kkm Kvf
 simp only
 rw [Kt1 ty hty,bs]
 cases wtB ty
 ·rfl
 ·rw [if_pos rfl,show (0:Int)=((0:Nat):Int) from rfl,Kvg s ty hty _ 0 rfl,List.drop_zero,bs]
  cases ty.all (Kve s) <;> rfl
theorem Kvi {s:K00} {n:Nat} (h:Tab s n) (g:Int):Kvc s g=inB g 0 ((n:Int) - 1):=by
 unfold Kvc; rw [Kuw h]
theorem Kvj {s:K00} {n:Nat} (h:Tab s n) {c:Int}:Kve s c=Kt3 s.fSize true c:=by
 unfold Kve Kt3 Kt2
 have hn:=h.lo
 rw [Kvi h,h.size]
 rcases Kso c with ⟨q,e⟩ | ⟨q,e⟩ | ⟨q,e⟩ | ⟨q,e⟩ | ⟨q,e⟩ | ⟨q,e⟩ | ⟨q,e⟩ | ⟨q,e⟩ <;> rw [e]
 ·subst q; rfl
 ·subst q; rfl
 ·subst q; rfl
 ·have hk:Ksh c=2:=by rcases Ksl c with h | h | h | h <;> omega
  rw [hk,if_neg (by omega),if_neg (by omega),decide_eq_true (by omega:c > 2)]
  unfold inB
  rw [decide_eq_true (by omega:c - 3 ≥ 0),decide_eq_false (by omega:¬ c - 3 < 0)]
  by_cases hc:c - 3 ≤ (n:Int) - 1
  ·rw [decide_eq_true hc,decide_eq_false (by omega:¬ c - 3 ≥ (n:Int))]; rfl
  ·rw [decide_eq_false hc,decide_eq_true (by omega:c - 3 ≥ (n:Int))]; rfl
 ·subst q; unfold inB; simp [Ksh,Ksf,Ksg,inB]
 ·have hk:Ksh c=1:=by rcases Ksl c with h | h | h | h <;> omega
  rw [hk,if_neg (by omega),if_pos (by omega),decide_eq_true (by omega:c > 2)]
  unfold inB
  rw [decide_eq_true (by omega:c - 19 ≥ 0),decide_eq_false (by omega:¬ c - 19 < 0)]
  by_cases hc:c - 19 ≤ (n:Int) - 1
  ·rw [decide_eq_true hc,decide_eq_false (by omega:¬ c - 19 ≥ (n:Int))]; rfl
  ·rw [decide_eq_false hc,decide_eq_true (by omega:c - 19 ≥ (n:Int))]; rfl
 ·subst q; unfold inB; simp [Ksh,Ksf,Ksg,inB]
 ·have hk:Ksh c=-1:=by rcases Ksl c with h | h | h | h <;> omega
  rw [hk]; simp
theorem Kvk {s:K00} {n:Nat} (h:Tab s n) (ty:List Int):Kvf s ty=yN s.fSize true ty:=by
 unfold Kvf yN
 rw [show Kve s=Kt3 s.fSize true from funext fun c=>Kvj h]
theorem Kvl {α:Type} (x:α) (l:List α):idx (x :: l) 0=some x:=rfl
theorem Kvm {a b:Nat} (ha:a ≤ 1099511627776) (hb:b ≤ 1099511627776):wr ((a:Int) + (b:Int))=((a + b:Nat):Int):=by rw [Kr7 (by omega) (by omega)]; omega
theorem Kvn (a b:Nat):K9t ((a:Int),(b:Int))=some ((min a b:Nat):Int):=by
 unfold K9t
 simp only
 by_cases h:a < b
 ·rw [decide_eq_true (by omega:(a:Int) < (b:Int)),if_pos rfl,Nat.min_eq_left (by omega)]
 ·rw [decide_eq_false (by omega:¬ (a:Int) < (b:Int)),if_neg (by decide),Nat.min_eq_right (by omega)]
def sms (s:K00):Nat:=s.fPlus.length + s.fTimes.length + s.fBelow.length
theorem Kvo (a b:List K01):Kt9 (a ++ b)=Kt9 a + Kt9 b:=by
 induction a with
 | nil=>simp [Kt9]
 | cons x l ih=>rw [List.cons_append,Kt9,Kt9,ih]; omega
theorem Kvp {l:List K01} {t:K01} (h:t ∈ l):tms t + l.length ≤ Kt9 l + l.length:=by
 induction l with
 | nil=>cases h
 | cons x l ih =>
  rw [Kt9]
  rcases List.mem_cons.1 h with rfl | h
  ·omega
  ·have:=ih h; omega
theorem Kvq {l:List K01} {t:K01} (h:t ∈ l):tsz t ≤ Kt8 l:=by
 induction l with
 | nil=>cases h
 | cons x l ih =>
  rw [Kt8]
  rcases List.mem_cons.1 h with rfl | h
  ·omega
  ·have:=ih h; omega
theorem Kvr {t k:K01} (h:k ∈ t.fKids):tms k + 1 ≤ tms t:=by
 rw [Kta t]
 have:=Kvp h
 have:1 ≤ t.fKids.length:=List.length_pos_of_mem h
 omega
theorem Kvs {t k:K01} (h:k ∈ t.fKids):tsz k + 1 ≤ tsz t:=by
 rw [Ktb t]
 have:=Kvq h
 omega
mutual
def tNb (hi:Int):K01→Prop
 | ⟨op,N,_,ks⟩=>(op=0→-9223372036854775808 ≤ N∧N ≤ hi)∧Kvt hi ks
def Kvt (hi:Int):List K01→Prop
 | []=>True
 | k :: ks=>tNb hi k∧Kvt hi ks
end
mutual
def shf (by_:Int):Int→K01→K01
 | from_,⟨op,N,ty,ks⟩=>⟨op,if op == 0 && decide (N ≥ from_) then N + by_ else N,ty,Kvu by_ op from_ 0 ks⟩
def Kvu (by_:Int):Int→Int→Nat→List K01→List K01
 | _,_,_,[]=>[]
 | op,from_,i,k :: ks=>shf by_ (from_ + ((Kts op (i:Int):Nat):Int)) k :: Kvu by_ op from_ (i + 1) ks
end
mutual
theorem Kvv:∀ (t:K01) (fr:Int),shf 0 fr t=t
 | ⟨op,N,ty,ks⟩,fr=>by
  rw [shf,Kvw ks]
  simp
theorem Kvw:∀ (ks:List K01) (op fr:Int) (i:Nat),Kvu 0 op fr i ks=ks
 | [],op,fr,i=>by rw [Kvu]
 | k :: ks,op,fr,i=>by rw [Kvu,Kvv k,Kvw ks]
end
theorem Kvx (by_:Int):∀ (ks:List K01) (op fr:Int) (i:Nat),(Kvu by_ op fr i ks).length=ks.length
 | [],op,fr,i=>by rw [Kvu]
 | k :: ks,op,fr,i=>by rw [Kvu,List.length_cons,List.length_cons,Kvx by_ ks]
mutual
theorem Kvy (b hi:Int) (hb:0 ≤ b) (hh:hi + b ≤ 9223372036854775807):∀ (t:K01) (fr:Int),tNb hi t→tms t ≤ 1099511627776→-35184372088832 ≤ fr→fr + 2 * tms t ≤ 35184372088832→Kgm (t,b,fr)=some (shf b fr t)
 | ⟨op,N,ty,ks⟩,fr,hn,hm,h1,h2=>by
  rw [tms] at hm h2
  rw [tNb] at hn
  rw [Kgm.eq_def,shf]
  simp only
  rw [Kug ty (by omega),bs]
  refine (Kt7 (x:=op == 0 && decide (N ≥ fr)) ?_).trans ?_
  ·cases op == 0 <;> rfl
  refine (Kt7 (x:=if op == 0 && decide (N ≥ fr) then N + b else N) ?_).trans ?_
  ·cases h:op == 0 && decide (N ≥ fr)
   ·rfl
   ·rw [Bool.and_eq_true] at h
    have:=hn.1 (eq_of_beq h.1)
    rw [if_pos rfl,Kr7 (by omega) (by omega)]; rfl
  rw [show (0:Int)=((0:Nat):Int) from rfl,Kvz b hi hb hh ks ⟨op,N,ty,ks⟩ fr 0 ty _ [] rfl (by simp only; omega) hn.2 (by omega) h1 (by omega) (by simp),bs]
  rfl
theorem Kvz (b hi:Int) (hb:0 ≤ b) (hh:hi + b ≤ 9223372036854775807):∀ (ks:List K01) (t:K01) (fr:Int) (i:Nat) (r:List Int) (o:Int) (out:List K01),t.fKids.drop i=ks→t.fKids.length ≤ 1099511627776→Kvt hi ks→Kt9 ks ≤ 1099511627776→-35184372088832 ≤ fr →
  fr + 2 * (ks.length + Kt9 ks) ≤ 35184372088832→out.length=i→Kgn (t,b,fr,r,o,out,(i:Int))=some (out ++ Kvu b t.fOp fr i ks)
 | [],t,fr,i,r,o,out,hd,hk,hn,hm,h1,h2,ho=>by
  rw [Kgn.eq_def,Kvu]
  simp only
  rw [Krb (Kse hd),List.append_nil]; rfl
 | k :: ks,t,fr,i,r,o,out,hd,hk,hn,hm,h1,h2,ho=>by
  obtain ⟨hi',hx,hd'⟩:=Ksd hd
  rw [Kt9] at hm h2
  rw [List.length_cons] at h2
  rw [Kvt] at hn
  have ha:=Ktt t.fOp (i:Int)
  rw [Kgn.eq_def,Kvu]
  simp only
  rw [Kra hi',if_pos rfl,hx,bs,Ktu,bs,Kr7 (by omega) (by omega),Kvy b hi hb hh k _ hn.1 (by omega) (by omega) (by omega),bs,Kue (by simp only [List.length_singleton]; omega),bs,Kr9 (by omega)]
  rw [Kvz b hi hb hh ks t fr (i + 1) r o _ hd' hk hn.2 (by omega) h1 (by omega) (by simp [ho]),List.append_assoc]
  rfl
end
mutual
theorem Kw0 {a b:Int} (h:a ≤ b):∀ (t:K01),tNb a t→tNb b t
 | ⟨op,N,ty,ks⟩,hn=>by
  rw [tNb] at hn ⊢
  exact ⟨fun e=>by have:=hn.1 e; omega,Kw1 h ks hn.2⟩
theorem Kw1 {a b:Int} (h:a ≤ b):∀ (ks:List K01),Kvt a ks→Kvt b ks
 | [],_=>by rw [Kvt]; trivial
 | k :: ks,hn=>by rw [Kvt] at hn ⊢; exact ⟨Kw0 h k hn.1,Kw1 h ks hn.2⟩
end
mutual
theorem Kw2 (g:Int→Bool) (y:List Int→Bool):∀ (t:K01) (n:Nat),tOk g y n t=true→tNb ((n:Int) + 2 * tsz t) t
 | ⟨op,N,ty,ks⟩,n,h=>by
  obtain ⟨h1,h2⟩:=Kuc h
  rw [tNb]
  refine ⟨fun e=>?_,?_⟩
  ·subst e
   unfold Kty Ktw at h1
   simp only [Bool.and_eq_true] at h1
   have h3:=h1.1.2
   rw [show ((0:Int) == 0)=true from rfl,if_pos rfl] at h3
   unfold inB at h3
   simp only [Bool.and_eq_true,decide_eq_true_eq] at h3
   omega
  ·rw [tsz]
   exact Kw1 (by omega) ks (Kw3 g y ks op n 0 h2)
theorem Kw3 (g:Int→Bool) (y:List Int→Bool):∀ (ks:List K01) (op:Int) (n i:Nat),Ktz g y op n i ks=true→Kvt ((n:Int) + 2 * Kt8 ks + 2) ks
 | [],op,n,i,h=>by rw [Kvt]; trivial
 | k :: ks,op,n,i,h=>by
  rw [Ktz,Bool.and_eq_true] at h
  have ha:=Ktt op (i:Int)
  rw [Kvt,Kt8]
  exact ⟨Kw0 (by omega) k (Kw2 g y k _ h.1),Kw1 (by omega) ks (Kw3 g y ks op n (i + 1) h.2)⟩
end
theorem Kw4 {t:K01} (hn:tNb 9223372036854775807 t) (hm:tms t ≤ 1099511627776):Kgm (t,0,0)=some t:=by
 rw [Kvy 0 9223372036854775807 (by omega) (by omega) t 0 hn hm (by omega) (by omega),Kvv]
mutual
theorem Kw5:∀ (t:K01),tln t→tNb 9223372036854775807 t
 | ⟨op,N,ty,ks⟩,h=>by rw [tln] at h; rw [tNb]; exact ⟨fun _=>h.2.2.2,Kw6 ks h.2.2.1⟩
theorem Kw6:∀ (ks:List K01),Ku8 ks→Kvt 9223372036854775807 ks
 | [],h=>by rw [Kvt]; trivial
 | k :: ks,h=>by rw [Ku8] at h; rw [Kvt]; exact ⟨Kw5 k h.1,Kw6 ks h.2⟩
end
def lct:List (List Int)→Nat
 | []=>0
 | x :: l=>x.length + lct l
theorem Kw7 {l:List (List Int)} {x:List Int} (h:x ∈ l):x.length ≤ lct l:=by
 induction l with
 | nil=>cases h
 | cons y l ih =>
  rw [lct]
  rcases List.mem_cons.1 h with rfl | h
  ·omega
  ·have:=ih h; omega
theorem Kw8 {l:List K01} {i:Nat} (hi:i < l.length) (u:K01):Kt9 (l.set i u) + tms l[i]=Kt9 l + tms u:=by
 induction l generalizing i with
 | nil=>simp at hi
 | cons x l ih =>
  cases i with
  | zero=>simp only [List.set_cons_zero,Kt9,List.getElem_cons_zero]; omega
  | succ i =>
   have:=ih (i:=i) (by simpa using hi)
   simp only [List.set_cons_succ,Kt9,List.getElem_cons_succ]; omega
theorem Kw9 {α:Type} (x:α) (l:List α):cut (x :: l) (some 1) none none=some l:=Kv7 [x] l
theorem Kwa {g:Int→Bool} {y:List Int→Bool}:∀ (ks:List K01) (op:Int) (n i j:Nat) (hj:j < ks.length),Ktz g y op n i ks=true→tOk g y (n + Kts op ((i + j:Nat):Int)) ks[j]=true
 | k :: ks,op,n,i,j,hj,ht=>by
  rw [Ktz,Bool.and_eq_true] at ht
  cases j with
  | zero=>exact ht.1
  | succ j =>
   have:=Kwa ks op n (i + 1) j (by simpa using hj) ht.2
   rw [show i + 1 + j=i + (j + 1) by omega] at this
   exact this
structure Kwb (c:Int) (a b:Ty):Prop where
 p0:Ker (c :: (a.code ++ b.code),0)=some a.code
 p1:Ker (c :: (a.code ++ b.code),1)=some b.code
 pp:Klt (c :: (a.code ++ b.code))=some [a.code,b.code]
 ok:a.ok∧b.ok
 la:a.code.length + b.code.length + 1 ≤ 1048576
theorem Kwc {c:Int} {a b:Ty} (h:(Ty.bin c a b).ok) (hl:(Ty.bin c a b).code.length ≤ 1048576):Kwb c a b:=by
 have hl':=hl
 rw [Ty.code] at hl'
 have h3:=Kv9 h hl
 rw [Ty.kids,List.map_cons,List.map_cons,List.map_nil,Ty.code] at h3
 refine ⟨Kva h.2.1 (by omega),Kvb h.2.1 (by omega),h3,h.2,?_⟩
 rw [List.length_cons,List.length_append] at hl'
 omega
structure UnP (c:Int) (a:Ty):Prop where
 p0:Ker (c :: a.code,0)=some a.code
 pp:Klt (c :: a.code)=some [a.code]
 ok:a.ok
 la:a.code.length + 1 ≤ 1048576
theorem unP {c:Int} {a:Ty} (h:(Ty.un c a).ok) (hl:(Ty.un c a).code.length ≤ 1048576):UnP c a:=by
 have hl':=hl
 rw [Ty.code] at hl'
 have h3:=Kv9 h hl
 rw [Ty.kids,List.map_cons,List.map_nil,Ty.code] at h3
 have h4:=Kva (c:=c) (r:=[]) h.2 (by rw [List.append_nil]; omega)
 rw [List.append_nil] at h4
 refine ⟨h4,h3,h.2,?_⟩
 rw [List.length_cons] at hl'
 omega
theorem Kwd:Klt [0]=some []:=Kv9 (T:=.num) trivial (by simp [Ty.code])
theorem Kwe {p:Prop} [Decidable p] (h:p):chk p=some ():=by unfold chk; rw [if_pos h]
theorem Kwf (x y:Int) (l r:List Int):(x :: l == y :: r)=(x == y && l == r):=rfl
theorem Kwg (a b:List Int) (ha:a.length ≤ 1099511627776) (hab:a.length=b.length):∀ (l r:List Int) (i:Nat),a.drop i=l→b.drop i=r→Kdz (a,b,(i:Int))=some (if l == r then .inl () else .inr false):=by
 intro l
 induction l with
 | nil =>
  intro r i h1 h2
  have hi:=Kse h1
  rw [Kdz.eq_def]
  simp only
  rw [Krb hi]
  have:r=[]:=by rw [← h2]; exact List.drop_eq_nil_of_le (by omega)
  subst this; rfl
 | cons x l ih =>
  intro r i h1 h2
  obtain ⟨hi,hx,hd⟩:=Ksd h1
  cases r with
  | nil=>have:=Kse h2; omega
  | cons y r =>
   obtain ⟨_,hy,hd2⟩:=Ksd h2
   rw [Kdz.eq_def]
   simp only
   rw [Kra hi,if_pos rfl,hx,hy,bs,bs,Kr9 (by omega),ih r (i + 1) hd hd2,Kwf]
   by_cases e:x=y
   ·subst e; simp
   ·rw [bne_iff_ne.2 e,if_pos rfl,beq_eq_false_iff_ne.2 e]; rfl
theorem Kwh (a b:List Int) (hb:b.length ≤ 1099511627776):Ke2 (a,b)=some (a == b):=by
 unfold Ke2
 simp only
 by_cases h:a.length=b.length
 ·rw [h,Krc,if_neg (by decide)]
  have:=Kwg a b (by omega) h a b 0 rfl rfl
  rw [show ((0:Nat):Int)=0 from rfl] at this
  rw [this]
  cases a == b <;> rfl
 ·rw [bne_iff_ne.2 (by omega),if_pos rfl]
  have:a ≠ b:=fun e=>h (by rw [e])
  rw [beq_eq_false_iff_ne.2 this]
theorem Kwi (a b:List Int) (ha:a.length ≤ 1099511627776) (hab:a.length=b.length):∀ (l r:List Int) (i:Nat),a.drop i=l→b.drop i=r→Kmi (a,b,(i:Int))=some (if l == r then .inl () else .inr false):=by
 intro l
 induction l with
 | nil =>
  intro r i h1 h2
  have hi:=Kse h1
  rw [Kmi.eq_def]
  simp only
  rw [Krb hi]
  have:r=[]:=by rw [← h2]; exact List.drop_eq_nil_of_le (by omega)
  subst this; rfl
 | cons x l ih =>
  intro r i h1 h2
  obtain ⟨hi,hx,hd⟩:=Ksd h1
  cases r with
  | nil=>have:=Kse h2; omega
  | cons y r =>
   obtain ⟨_,hy,hd2⟩:=Ksd h2
   rw [Kmi.eq_def]
   simp only
   rw [Kra hi,if_pos rfl,hx,hy,bs,bs,Kr9 (by omega),ih r (i + 1) hd hd2,Kwf]
   by_cases e:x=y
   ·subst e; simp
   ·rw [bne_iff_ne.2 e,if_pos rfl,beq_eq_false_iff_ne.2 e]; rfl
theorem Kwj (a b:List Int) (hb:b.length ≤ 1099511627776):Kml (a,b)=some (a == b):=by
 unfold Kml
 simp only
 by_cases h:a.length=b.length
 ·rw [h,Krc,if_neg (by decide)]
  have:=Kwi a b (by omega) h a b 0 rfl rfl
  rw [show ((0:Nat):Int)=0 from rfl] at this
  rw [this]
  cases a == b <;> rfl
 ·rw [bne_iff_ne.2 (by omega),if_pos rfl]
  have:a ≠ b:=fun e=>h (by rw [e])
  rw [beq_eq_false_iff_ne.2 this]
theorem Kwk {α:Type} {l:List α} (h:((l.length:Int) == 0)=true):l=[]:=by
 rw [beq_iff_eq] at h; exact List.length_eq_zero_iff.1 (by omega)
theorem Kwl (g:Int→Bool) (y:List Int→Bool) (n:Nat) (op N:Int) (ty:List Int) (ks:List K01):tOk g y n ⟨op,N,ty,ks⟩=(Kty g y (n:Int) ⟨op,N,ty,ks⟩ && Ktz g y op n 0 ks):=Ku0 ..
theorem Kwm (g:Int→Bool) (y:List Int→Bool) (op:Int) (n i:Nat) (k:K01) (ks:List K01):Ktz g y op n i (k :: ks)=(tOk g y (n + Kts op i) k && Ktz g y op n (i + 1) ks):=by rw [Ktz]
theorem Kwn (g:Int→Bool) (y:List Int→Bool) (op:Int) (n i:Nat):Ktz g y op n i []=true:=by rw [Ktz]
theorem Kwo {l:List K01} (h:((l.length:Int) == 1)=true):∃ k,l=[k]:=by
 rw [beq_iff_eq] at h; match l,h with | [k],_=>exact ⟨k,rfl⟩ | [],h=>exact absurd h (by simp) | _ :: _ :: _,h=>exact absurd h (by simp only [List.length_cons]; omega)
theorem Kwp {l:List K01} (h:((l.length:Int) == 2)=true):∃ k m,l=[k,m]:=by
 rw [beq_iff_eq] at h; match l,h with | [k,m],_=>exact ⟨k,m,rfl⟩ | [],h=>exact absurd h (by simp) | [_],h=>exact absurd h (by simp) | _ :: _ :: _ :: _,h=>exact absurd h (by simp only [List.length_cons]; omega)
def Kwq (s:K00) (t:K01) (n:Nat):Bool:=Kus s && decide (tsz t ≤ 400) && tOk (gN s.fSize true) (yN s.fSize true) n t
theorem Kwr (s:K00) (t:K01) (n:Nat) (hn:n ≤ 8) (ht:tms t ≤ 1099511627776):Kr0 (s,t,(n:Int))=some (Kwq s t n):=by
 unfold Kr0 Kwq
 simp only
 rw [Kuu,bs]
 cases Kus s
 ·rfl
 ·rw [if_pos rfl,sIn,bs]
  have:inB (n:Int) 0 8=true:=by unfold inB; rw [decide_eq_true (by omega),decide_eq_true (by omega)]; rfl
  have hl:=Ktg t 400 ht (by decide)
  rw [show ((400:Nat):Int)=400 from rfl] at hl
  rw [this,if_pos rfl,hl,bs]
  by_cases h:tsz t ≤ 400
  ·rw [Ktd h,decide_eq_true (by omega),decide_eq_true h,if_pos rfl,Ku2 _ _ t n ht (by omega)]
   cases tOk (gN s.fSize true) (yN s.fSize true) n t <;> rfl
  ·rw [Kte h,decide_eq_false h]; rfl
theorem Kws {g:Int→Bool} {y:List Int→Bool} {n:Nat} {op N:Int} {ty:List Int} {ks:List K01} (h:tOk g y n ⟨op,N,ty,ks⟩=true) (h0:op=0):ks=[]∧ty=[]∧0 ≤ N∧N < n:=by
 subst h0
 rw [Kwl,Bool.and_eq_true] at h
 have h1:=h.1
 simp only [Kty,Ktw,Ktx,Bool.and_eq_true,show Kti 0=0 from rfl,show Ktk 0=false from rfl,show ((0:Int) == 0)=true from rfl,if_true,Bool.false_eq_true,if_false] at h1
 have h2:=h1.1.2
 unfold inB at h2
 simp only [Bool.and_eq_true,decide_eq_true_eq] at h2
 exact ⟨Kwk h1.1.1.2,Kwk h1.2,by omega,by omega⟩
mutual
theorem Kwt (b:Int):∀ (t:K01) (f:Int),tsz (shf b f t)=tsz t
 | ⟨op,N,ty,ks⟩,f=>by rw [shf,tsz,tsz,Kwu b ks]
theorem Kwu (b:Int):∀ (ks:List K01) (op f:Int) (i:Nat),Kt8 (Kvu b op f i ks)=Kt8 ks
 | [],op,f,i=>by rw [Kvu]
 | k :: ks,op,f,i=>by rw [Kvu,Kt8,Kt8,Kwt b k,Kwu b ks]
end
theorem Kwv (g:Int→Bool) (y:List Int→Bool) (n m:Int) (op N:Int) (ty:List Int) (ks js:List K01) (h0:(op == 0)=false) (hl:ks.length=js.length):Kty g y n ⟨op,N,ty,ks⟩=Kty g y m ⟨op,N,ty,js⟩:=by
 unfold Kty Ktw Ktx
 simp only [h0,hl]
 rfl
theorem Kww (g:Int→Bool) (y:List Int→Bool) (n:Nat) (N:Int) (h:0 ≤ N∧N < n):tOk g y n ⟨0,N,[],[]⟩=true:=by
 rw [Kwl,Kwn]
 unfold Kty Ktw Ktx
 simp only [show inB 0 0 12=true from rfl,show Kti 0=0 from rfl,show Ktk 0=false from rfl,show ((0:Int) == 0)=true from rfl,if_true,Bool.false_eq_true,if_false]
 unfold inB
 rw [decide_eq_true (by omega:N ≥ 0),decide_eq_true (by omega:N ≤ (n:Int) - 1)]
 rfl
mutual
theorem Kwx (g:Int→Bool) (y:List Int→Bool) (b:Nat):∀ (t:K01) (n:Nat) (f:Int),tOk g y n t=true→tOk g y (n + b) (shf (b:Int) f t)=true
 | ⟨op,N,ty,ks⟩,n,f,h=>by
  rw [shf]
  cases h0:op == 0
  ·rw [Kwl,Bool.and_eq_true] at h
   rw [Kwl,Bool.false_and,if_neg (by decide),Kwv g y _ (n:Int) op N ty _ ks h0 (Kvx (b:Int) ks op f 0),h.1,Kwy g y b ks op n 0 f h.2]; rfl
  ·have h0:=eq_of_beq h0
   obtain ⟨rfl,rfl,h1,h2⟩:=Kws h h0
   subst h0
   rw [Kvu]
   refine Kww g y _ _ ?_
   split <;> omega
theorem Kwy (g:Int→Bool) (y:List Int→Bool) (b:Nat):∀ (ks:List K01) (op:Int) (n i:Nat) (f:Int),Ktz g y op n i ks=true→Ktz g y op (n + b) i (Kvu (b:Int) op f i ks)=true
 | [],op,n,i,f,h=>by rw [Kvu,Kwn]
 | k :: ks,op,n,i,f,h=>by
  rw [Kwm,Bool.and_eq_true] at h
  rw [Kvu,Kwm,Kwy g y b ks op n (i + 1) f h.2,show n + b + Kts op (i:Int)=n + Kts op (i:Int) + b by omega,Kwx g y b k _ _ h.1]; rfl
end
mutual
theorem Kwz {g:Int→Bool}:∀ (t:K01) (n:Nat),tOk g wtB n t=true→tms t + 3 ≤ 43 * tsz t + 3∧t.fKids.length ≤ 3
 | ⟨op,N,ty,ks⟩,n,h=>by
  obtain ⟨h1,h2⟩:=Kuc h
  have h3:=(Kud h1).2
  have h4:=Kuf h1
  have h5:=Kx0 ks op n 0 h2
  have h6:Kti op ≤ 3:=by rcases Ktm h4.1 with h | h | h | h | h | h | h | h | h | h | h | h | h <;> (simp only at h; subst h; decide)
  have h7:=h4.2
  simp only at h3 h7 ⊢
  rw [tms,tsz]; omega
theorem Kx0 {g:Int→Bool}:∀ (ks:List K01) (op:Int) (n i:Nat),Ktz g wtB op n i ks=true→Kt9 ks ≤ 43 * Kt8 ks
 | [],op,n,i,h=>by rw [Kt9]; omega
 | k :: ks,op,n,i,h=>by
  rw [Kwm,Bool.and_eq_true] at h
  have h1:=(Kwz k _ h.1).1
  have h2:=Kx0 ks op n (i + 1) h.2
  rw [Kt9,Kt8]; omega
end
theorem Kx1 (op N:Int) (ty:List Int) (a:K01):tsz ⟨op,N,ty,[a]⟩=1 + tsz a:=by simp [tsz,Kt8]
theorem Kx2 (op N:Int) (ty:List Int) (a b:K01):tsz ⟨op,N,ty,[a,b]⟩=1 + (tsz a + tsz b):=by simp [tsz,Kt8]
theorem Kx3 (op N:Int) (ty:List Int) (a b c:K01):tsz ⟨op,N,ty,[a,b,c]⟩=1 + (tsz a + (tsz b + tsz c)):=by simp [tsz,Kt8]
theorem Kx4 {l:List K01} (h:(l.length:Int)=3):∃ a b c,l=[a,b,c]:=by
 match l,h with | [a,b,c],_=>exact ⟨a,b,c,rfl⟩ | [],h=>exact absurd h (by simp) | [_],h=>exact absurd h (by simp) | [_,_],h=>exact absurd h (by simp) | _ :: _ :: _ :: _ :: _,h=>exact absurd h (by simp only [List.length_cons]; omega)
def lms (l:List (List Int)):Nat:=l.length + lct l
def Kx5 (l:List Nat):List Int:=l.map fun x:Nat=>(x:Int)
theorem Kx6 (l:List Nat):(Kx5 l).length=l.length:=List.length_map ..
theorem Kx7 (l:List Nat) (i:Nat):(Kx5 l).drop i=Kx5 (l.drop i):=(List.map_drop ..).symm
theorem Kx8 (l:List Nat) (i:Nat):(Kx5 l).take i=Kx5 (l.take i):=(List.map_take ..).symm
theorem Kx9 {l r:List Nat} {x i:Nat} (h:l.drop i=x :: r):i < l.length∧idx (Kx5 l) (i:Int)=some (x:Int)∧l.drop (i + 1)=r:=by
 have h2:(Kx5 l).drop i=(x:Int) :: Kx5 r:=by rw [Kx7,h]; rfl
 obtain ⟨q1,q2,q3⟩:=Ksd h2
 rw [Kx6] at q1
 refine ⟨q1,q2,?_⟩
 rw [← List.drop_drop,h]
 rfl
structure Kxa (s:K00) (n:Nat):Prop where
 tab:Tab s n
 one:∀ a,a < n→Krq s n a=true
 two:∀ a b,a < n→b < n→Ks3 s n a b=true
theorem Kxb {s:K00} (h:Kus s=true):Kxa s s.fSize.toNat:=by
 have ht:=Kut h
 unfold Kus at h
 simp only [Bool.and_eq_true] at h
 have hm:=h.2
 unfold Ks6 at hm
 rw [List.all_eq_true] at hm
 refine ⟨ht,fun a ha=>?_,fun a b ha hb=>?_⟩
 ·have:=hm a (by rw [List.mem_range'_1]; omega)
  simp only [Bool.and_eq_true] at this
  exact this.1
 ·have:=hm a (by rw [List.mem_range'_1]; omega)
  simp only [Bool.and_eq_true,List.all_eq_true] at this
  exact (this.2 b (by rw [List.mem_range'_1]; omega)).1
section
variable {s:K00} {n:Nat} (hs:Kxa s n)
include hs
theorem Kxc:1 < n:=by have:=hs.tab.lo; omega
theorem Kxd:0 < n:=by have:=hs.tab.lo; omega
theorem Kxe {a:Nat} (ha:a < n):pl s n 0 a=a:=by
 have:=hs.one a ha
 simp only [Krq,Bool.and_eq_true,beq_iff_eq] at this
 exact this.1.1.1.1.1
theorem Kxf {a:Nat} (ha:a < n):ti s n 1 a=a:=by
 have:=hs.one a ha
 simp only [Krq,Bool.and_eq_true,beq_iff_eq] at this
 exact this.1.1.1.1.2
def Kxg (s:K00) (n a b:Nat):Nat:=(Krw s n a b).toNat
theorem Kxh {a b:Nat} (ha:a < n) (hb:b < n):Krw s n a b=((Kxg s n a b:Nat):Int)∧Kxg s n a b < n:=by
 have h:=hs.two a b ha hb
 simp only [Ks3,Bool.and_eq_true,decide_eq_true_eq] at h
 have h0:=h.2
 unfold Kxg
 refine ⟨by omega,?_⟩
 unfold Krw at h0 ⊢
 cases hf:(List.range' 0 n).find? (jok s n a b) with
 | none=>rw [hf] at h0; exact absurd h0 (by decide)
 | some g =>
  have:=List.mem_of_find?_eq_some hf
  rw [List.mem_range'_1] at this
  simp only [Int.toNat_natCast]
  omega
end
def Kxi (s:K00) (n:Nat) (a b:List Nat):List Nat:=List.zipWith (pl s n) a b
def Kxj (s:K00) (n g:Nat) (a:List Nat):List Nat:=a.map (ti s n g)
def Kxk (s:K00) (n:Nat) (a b:List Nat):List Nat:=List.zipWith (Kxg s n) a b
def Kxl (n:Nat) (l:List Nat):Prop:=∀ x ∈ l,x < n
theorem Kxm {n x:Nat} {l:List Nat} (h:Kxl n (x :: l)):x < n∧Kxl n l:=⟨h x List.mem_cons_self,fun y hy=>h y (List.mem_cons_of_mem _ hy)⟩
theorem Kxn {n:Nat} {l:List Nat} (h:Kxl n l) (i:Nat):Kxl n (l.drop i):=fun x hx=>h x (List.mem_of_mem_drop hx)
section
variable {s:K00} {n:Nat} (hs:Kxa s n)
include hs
theorem Kxo:∀ {a b:List Nat},Kxl n a→Kxl n b→Kxl n (Kxi s n a b)
 | [],_,_,_=>fun x hx=>by cases hx
 | _ :: _,[],_,_=>fun x hx=>by cases hx
 | x :: a,y :: b,ha,hb=>fun z hz=>by
  obtain ⟨h1,h2⟩:=Kxm ha
  obtain ⟨h3,h4⟩:=Kxm hb
  rcases List.mem_cons.1 hz with rfl | hz
  ·exact Krf hs.tab h1 h3
  ·exact Kxo h2 h4 z hz
theorem Kxp {g:Nat} (hg:g < n) {a:List Nat} (ha:Kxl n a):Kxl n (Kxj s n g a):=fun x hx=>by
 obtain ⟨y,hy,rfl⟩:=List.mem_map.1 hx
 exact Krg hs.tab hg (ha y hy)
theorem Kxq:∀ {a b:List Nat},Kxl n a→Kxl n b→Kxl n (Kxk s n a b)
 | [],_,_,_=>fun x hx=>by cases hx
 | _ :: _,[],_,_=>fun x hx=>by cases hx
 | x :: a,y :: b,ha,hb=>fun z hz=>by
  obtain ⟨h1,h2⟩:=Kxm ha
  obtain ⟨h3,h4⟩:=Kxm hb
  rcases List.mem_cons.1 hz with rfl | hz
  ·exact (Kxh hs h1 h3).2
  ·exact Kxq h2 h4 z hz
theorem Kxr {a:List Nat} (ha:Kxl n a):Kxj s n 1 a=a:=by
 induction a with
 | nil=>rfl
 | cons x a ih =>
  obtain ⟨h1,h2⟩:=Kxm ha
  show ti s n 1 x :: Kxj s n 1 a=_
  rw [Kxf hs h1,ih h2]
theorem Kxs {a:List Nat} (ha:Kxl n a):Kxi s n (List.replicate a.length 0) a=a:=by
 induction a with
 | nil=>rfl
 | cons x a ih =>
  obtain ⟨h1,h2⟩:=Kxm ha
  show pl s n 0 x :: Kxi s n (List.replicate a.length 0) a=_
  rw [Kxe hs h1,ih h2]
theorem Kxt (g:Nat) (hg:g < n) (a b:List Nat) (ha:Kxl n a) (hb:Kxl n b) (hl:a.length ≤ 1099511627776):∀ (al bl:List Nat) (i:Nat) (out:List Int),a.drop i=al→b.drop i=bl→al.length=bl.length→out.length + al.length ≤ 1099511627776 →
  Kf9 (s,Kx5 a,(g:Int),Kx5 b,out,(i:Int))=some (out ++ Kx5 (Kxi s n al (Kxj s n g bl))):=by
 intro al
 induction al with
 | nil =>
  intro bl i out hd _ _ _
  rw [Kf9.eq_def]
  simp only
  rw [Kx6,Krb (Kse hd)]
  simp [Kxi,Kx5]
 | cons x al ih =>
  intro bl i out hd hd2 hll ho
  cases bl with
  | nil=>simp at hll
  | cons y bl =>
   obtain ⟨h1,h2,h3⟩:=Kx9 hd
   obtain ⟨k1,k2,k3⟩:=Kx9 hd2
   have hx:x < n:=Kxn ha i x (by rw [hd]; exact List.mem_cons_self)
   have hy:y < n:=Kxn hb i y (by rw [hd2]; exact List.mem_cons_self)
   rw [Kf9.eq_def]
   simp only
   simp only [List.length_cons] at ho hll
   rw [Kx6,Kra h1,if_pos rfl,h2,bs,k2,bs,Krl hs.tab hg hy,bs,Krk hs.tab hx (Krg hs.tab hg hy),bs,Kue (by simp; omega),bs,Kr9 (by omega),ih bl (i + 1) _ h3 k3 (by omega) (by simp; omega)]
   rw [List.append_assoc]
   rfl
theorem Kxu (g:Nat) (hg:g < n) (a b:List Nat) (ha:Kxl n a) (hb:Kxl n b) (hl:a.length ≤ 1048576) (hab:a.length=b.length):Kfc (s,Kx5 a,(g:Int),Kx5 b)=some (Kx5 (Kxi s n a (Kxj s n g b))):=by
 unfold Kfc
 simp only
 rw [show (0:Int)=((0:Nat):Int) from rfl,Kxt hs g hg a b ha hb (by omega) a b 0 [] rfl rfl hab (by simp; omega)]
 rfl
theorem Kxv (a b:List Nat) (ha:Kxl n a) (hb:Kxl n b) (hl:a.length ≤ 1048576) (hab:a.length=b.length):Kfc (s,Kx5 a,1,Kx5 b)=some (Kx5 (Kxi s n a b)):=by
 have:=Kxu hs 1 (Kxc hs) a b ha hb hl hab
 rw [Kxr hs hb] at this
 exact this
theorem Kxw (a b:List Nat) (ha:Kxl n a) (hb:Kxl n b) (hl:a.length ≤ 1099511627776):∀ (al bl:List Nat) (i:Nat) (out:List Int),a.drop i=al→b.drop i=bl→al.length=bl.length→out.length + al.length ≤ 1099511627776 →
  Kfj (s,Kx5 a,Kx5 b,out,(i:Int))=some (out ++ Kx5 (Kxk s n al bl)):=by
 intro al
 induction al with
 | nil =>
  intro bl i out hd _ _ _
  rw [Kfj.eq_def]
  simp only
  rw [Kx6,Krb (Kse hd)]
  simp [Kxk,Kx5]
 | cons x al ih =>
  intro bl i out hd hd2 hll ho
  cases bl with
  | nil=>simp at hll
  | cons y bl =>
   obtain ⟨h1,h2,h3⟩:=Kx9 hd
   obtain ⟨k1,k2,k3⟩:=Kx9 hd2
   have hx:x < n:=Kxn ha i x (by rw [hd]; exact List.mem_cons_self)
   have hy:y < n:=Kxn hb i y (by rw [hd2]; exact List.mem_cons_self)
   rw [Kfj.eq_def]
   simp only
   simp only [List.length_cons] at ho hll
   rw [Kx6,Kra h1,if_pos rfl,h2,bs,k2,bs,Ks1 hs.tab hx hy,bs,(Kxh hs hx hy).1,Kue (by simp; omega),bs,Kr9 (by omega),ih bl (i + 1) _ h3 k3 (by omega) (by simp; omega)]
   rw [List.append_assoc]
   rfl
theorem Kxx (a b:List Nat) (ha:Kxl n a) (hb:Kxl n b) (hl:a.length ≤ 1048576) (hab:a.length=b.length):Kfm (s,Kx5 a,Kx5 b)=some (Kx5 (Kxk s n a b)):=by
 unfold Kfm
 simp only
 rw [show (0:Int)=((0:Nat):Int) from rfl,Kxw hs a b ha hb (by omega) a b 0 [] rfl rfl hab (by simp; omega)]
 rfl
end
theorem Kxy {α:Type} {out:List α} {i:Nat} (h:i < out.length) (x:α):(out.set i x).take (i + 1)=out.take i ++ [x]:=by
 rw [List.take_set,List.take_succ_eq_append_getElem h,List.set_append_right _ _ (by simp; omega)]
 simp [Nat.min_eq_left (Nat.le_of_lt h)]
section
variable {s:K00} {n:Nat} (hs:Kxa s n)
include hs
theorem Kxz (a b:List Nat) (ha:Kxl n a) (hb:Kxl n b) (hl:a.length ≤ 1099511627776):∀ (al bl:List Nat) (i:Nat) (out:List Int),a.drop i=al→b.drop i=bl→al.length=bl.length→out.length=a.length →
  Kms (s,Kx5 a,Kx5 b,out,(i:Int))=some (out.take i ++ Kx5 (Kxi s n al bl)):=by
 intro al
 induction al with
 | nil =>
  intro bl i out hd _ _ ho
  rw [Kms.eq_def]
  simp only
  have:=Kse hd
  rw [Kx6,Krb this]
  simp [Kxi,Kx5,List.take_of_length_le (show out.length ≤ i by omega)]
 | cons x al ih =>
  intro bl i out hd hd2 hll ho
  cases bl with
  | nil=>simp at hll
  | cons y bl =>
   obtain ⟨h1,h2,h3⟩:=Kx9 hd
   obtain ⟨k1,k2,k3⟩:=Kx9 hd2
   have hx:x < n:=Kxn ha i x (by rw [hd]; exact List.mem_cons_self)
   have hy:y < n:=Kxn hb i y (by rw [hd2]; exact List.mem_cons_self)
   rw [Kms.eq_def]
   simp only
   simp only [List.length_cons] at hll
   have hio:i < out.length:=by omega
   rw [Kx6,Kra h1,if_pos rfl,h2,bs,k2,bs,Krm hs.tab hx hy,bs,Kr8 hio,bs,Kr9 (by omega),Int.toNat_natCast,ih bl (i + 1) _ h3 k3 (by omega) (by rw [List.length_set]; exact ho)]
   rw [Kxy hio,List.append_assoc]
   rfl
theorem Ky0 (a b:List Nat) (ha:Kxl n a) (hb:Kxl n b) (hl:a.length ≤ 1048576) (hab:a.length=b.length):Kmy (⟨s⟩,Kx5 a,Kx5 b)=some (Kx5 (Kxi s n a b)):=by
 unfold Kmy Kmv
 simp only
 rw [Kx6,Kwe (by simp; omega),bs,Int.toNat_natCast,show (0:Int)=((0:Nat):Int) from rfl]
 rw [show (List.replicate a.length (((0:Nat):Int)))=List.replicate a.length (0:Int) from rfl,Kxz hs a b ha hb (by omega) a b 0 _ rfl rfl hab (by simp)]
 rfl
theorem Ky1 (a b:List Nat) (ha:Kxl n a) (hb:Kxl n b) (hl:a.length ≤ 1099511627776):∀ (al bl:List Nat) (i:Nat) (out:List Int),a.drop i=al→b.drop i=bl→al.length=bl.length→out.length=a.length →
  Kn5 (s,Kx5 a,Kx5 b,out,(i:Int))=some (out.take i ++ Kx5 (Kxk s n al bl)):=by
 intro al
 induction al with
 | nil =>
  intro bl i out hd _ _ ho
  rw [Kn5.eq_def]
  simp only
  have:=Kse hd
  rw [Kx6,Krb this]
  simp [Kxk,Kx5,List.take_of_length_le (show out.length ≤ i by omega)]
 | cons x al ih =>
  intro bl i out hd hd2 hll ho
  cases bl with
  | nil=>simp at hll
  | cons y bl =>
   obtain ⟨h1,h2,h3⟩:=Kx9 hd
   obtain ⟨k1,k2,k3⟩:=Kx9 hd2
   have hx:x < n:=Kxn ha i x (by rw [hd]; exact List.mem_cons_self)
   have hy:y < n:=Kxn hb i y (by rw [hd2]; exact List.mem_cons_self)
   rw [Kn5.eq_def]
   simp only
   simp only [List.length_cons] at hll
   have hio:i < out.length:=by omega
   rw [Kx6,Kra h1,if_pos rfl,h2,bs,k2,bs,Ks2 hs.tab hx hy,bs,(Kxh hs hx hy).1,Kr8 hio,bs,Kr9 (by omega),Int.toNat_natCast,ih bl (i + 1) _ h3 k3 (by omega) (by rw [List.length_set]; exact ho)]
   rw [Kxy hio,List.append_assoc]
   rfl
theorem Ky2 (a b:List Nat) (ha:Kxl n a) (hb:Kxl n b) (hl:a.length ≤ 1048576) (hab:a.length=b.length):Knb (⟨s⟩,Kx5 a,Kx5 b)=some (Kx5 (Kxk s n a b)):=by
 unfold Knb Kn8
 simp only
 rw [Kx6,Kwe (by simp; omega),bs,Int.toNat_natCast,show (0:Int)=((0:Nat):Int) from rfl]
 rw [show (List.replicate a.length (((0:Nat):Int)))=List.replicate a.length (0:Int) from rfl,Ky1 hs a b ha hb (by omega) a b 0 _ rfl rfl hab (by simp)]
 rfl
theorem Ky3 (g:Nat) (hg:g < n) (a:List Nat) (ha:Kxl n a) (hl:a.length ≤ 1099511627776):∀ (al:List Nat) (i:Nat) (out:List Int),a.drop i=al→out.length=a.length →
  Ko9 (⟨s⟩,(g:Int),Kx5 a,out,(i:Int))=some (out.take i ++ Kx5 (Kxj s n g al)):=by
 intro al
 induction al with
 | nil =>
  intro i out hd ho
  rw [Ko9.eq_def]
  simp only
  have:=Kse hd
  rw [Kx6,Krb this]
  simp [Kxj,Kx5,List.take_of_length_le (show out.length ≤ i by omega)]
 | cons x al ih =>
  intro i out hd ho
  obtain ⟨h1,h2,h3⟩:=Kx9 hd
  have hx:x < n:=Kxn ha i x (by rw [hd]; exact List.mem_cons_self)
  rw [Ko9.eq_def]
  simp only
  have hio:i < out.length:=by omega
  rw [Kx6,Kra h1,if_pos rfl,h2,bs,Krn hs.tab hg hx,bs,Kr8 hio,bs,Kr9 (by omega),Int.toNat_natCast,ih (i + 1) _ h3 (by rw [List.length_set]; exact ho)]
  rw [Kxy hio,List.append_assoc]
  rfl
theorem Ky4 (g:Nat) (hg:g < n) (a:List Nat) (ha:Kxl n a) (hl:a.length ≤ 1048576):Koc (⟨s⟩,(g:Int),Kx5 a)=some (Kx5 (Kxj s n g a)):=by
 unfold Koc
 simp only
 rw [Kx6,Kwe (by simp; omega),bs,Int.toNat_natCast,show (0:Int)=((0:Nat):Int) from rfl]
 rw [show (List.replicate a.length (((0:Nat):Int)))=List.replicate a.length (0:Int) from rfl,Ky3 hs g hg a ha (by omega) a 0 _ rfl (by simp)]
 rfl
theorem Ky5 (g:Nat) (hg:g < n) (a:List Nat) (ha:Kxl n a) (hl:a.length ≤ 1099511627776):∀ (al:List Nat) (i:Nat),a.drop i=al →
  ∃ r,Knw (Kx5 a,⟨s⟩,(g:Int),(i:Int))=some r∧(match r with | .inl _=>(al.all fun x=>le s n x g)=true | .inr j=>(al.all fun x=>le s n x g)=false∧0 ≤ j):=by
 intro al
 induction al with
 | nil =>
  intro i hd
  rw [Knw.eq_def]
  simp only
  rw [Kx6,Krb (Kse hd)]
  exact ⟨_,rfl,rfl⟩
 | cons x al ih =>
  intro i hd
  obtain ⟨h1,h2,h3⟩:=Kx9 hd
  have hx:x < n:=Kxn ha i x (by rw [hd]; exact List.mem_cons_self)
  rw [Knw.eq_def]
  simp only
  rw [Kx6,Kra h1,if_pos rfl,h2,bs]
  unfold Kns
  simp only
  rw [iLe hs.tab hx hg]
  simp only [bs]
  cases hle:le s n x g with
  | true =>
   obtain ⟨r,hr,hm⟩:=ih (i + 1) h3
   refine ⟨r,?_,?_⟩
   ·rw [if_neg (by simp),Kr9 (by omega)]; exact hr
   ·rw [List.all_cons,hle,Bool.true_and]; exact hm
  | false =>
   exact ⟨_,if_pos rfl,by simp [List.all_cons,hle]⟩
theorem Ky6 (g:Nat) (hg:g < n) (a:List Nat) (ha:Kxl n a) (hl:a.length ≤ 1048576):Ko5 (⟨s⟩,Kx5 a,(g:Int))=some (a.all fun x=>le s n x g):=by
 obtain ⟨r,hr,hm⟩:=Ky5 hs g hg a ha (by omega) a 0 rfl
 unfold Ko5 Ko2 Knz
 simp only
 rw [show (0:Int)=((0:Nat):Int) from rfl,hr]
 cases r with
 | inl _=>simp only [bs] at hm ⊢; rw [hm]; rfl
 | inr j =>
  simp only [bs] at hm ⊢
  rw [hm.1,decide_eq_true (by omega)]; rfl
end
theorem Ky7 (k:Nat) (h:k ≤ 1048576):Kf2 (k:Int)=some (Kx5 (List.replicate k 0)):=by
 unfold Kf2
 rw [Int.toNat_natCast,Kwe (by constructor <;> omega),bs]
 unfold Kx5
 rw [List.map_replicate]
 rfl
theorem Ky8 (ctx front:List (List Int)) (h:ctx.length + front.length ≤ 1048576):Kex (ctx,front)=some (front ++ ctx):=by
 unfold Kex
 simp only
 rw [Kue (by simp; omega),bs,Kue (by omega),bs]
theorem Ky9 (ps:List (List Int)) (hp:ps.length ≤ 1099511627776):∀ (l:List (List Int)) (i:Nat) (out:List Int),ps.drop i=l→out.length + l.flatten.length ≤ 1099511627776→Kdi (ps,out,(i:Int))=some (out ++ l.flatten):=by
 intro l
 induction l with
 | nil =>
  intro i out hd _
  rw [Kdi.eq_def]
  simp only
  rw [Krb (Kse hd)]
  simp
 | cons x l ih =>
  intro i out hd ho
  obtain ⟨h1,h2,h3⟩:=Ksd hd
  rw [List.flatten_cons,List.length_append] at ho
  rw [Kdi.eq_def]
  simp only
  rw [Kra h1,if_pos rfl,h2,bs,Kue (by omega),bs,Kr9 (by omega),ih (i + 1) _ h3 (by rw [List.length_append]; omega),List.flatten_cons,List.append_assoc]
theorem Kya (c:Int) (ps:List (List Int)) (hp:ps.length ≤ 1048576) (h:ps.flatten.length ≤ 1048576):Kdl (c,ps)=some (c :: ps.flatten):=by
 unfold Kdl
 simp only
 rw [show (0:Int)=((0:Nat):Int) from rfl,Ky9 ps (by omega) ps 0 [c] rfl (by rw [List.length_singleton]; omega)]
 rfl
theorem Kyb (ps:List (List (Int))) (hp:ps.length ≤ 1099511627776):∀ (l:List (List (Int))) (i sz:Nat),ps.drop i=l→sz + l.flatten.length ≤ 1099511627776→Kni (ps,(sz:Int),(i:Int))=some (((sz + l.flatten.length:Nat)):Int):=by
 intro l
 induction l with
 | nil =>
  intro i sz hd _
  rw [Kni.eq_def]
  simp only
  rw [Krb (Kse hd)]
  simp
 | cons x l ih =>
  intro i sz hd ho
  obtain ⟨h1,h2,h3⟩:=Ksd hd
  rw [List.flatten_cons,List.length_append] at ho
  have e:wr ((sz:Int) + (x.length:Int))=((sz + x.length:Nat):Int):=Kvm (by omega) (by omega)
  rw [Kni.eq_def]
  simp only
  rw [Kra h1,if_pos rfl,h2,bs,e,decide_eq_false (by omega),if_neg (by decide),bs,Kr9 (by omega),ih (i + 1) _ h3 (by omega),List.flatten_cons,List.length_append,Nat.add_assoc]
theorem Kyc (ps:List (List (Int))) (hp:ps.length ≤ 1099511627776):∀ (l:List (List (Int))) (i:Nat) (out:List (Int)),ps.drop i=l→out.length + l.flatten.length ≤ 1099511627776→Knm (ps,out,(i:Int))=some (out ++ l.flatten):=by
 intro l
 induction l with
 | nil =>
  intro i out hd _
  rw [Knm.eq_def]
  simp only
  rw [Krb (Kse hd)]
  simp
 | cons x l ih =>
  intro i out hd ho
  obtain ⟨h1,h2,h3⟩:=Ksd hd
  rw [List.flatten_cons,List.length_append] at ho
  rw [Knm.eq_def]
  simp only
  rw [Kra h1,if_pos rfl,h2,bs,Kue (by omega),bs,Kr9 (by omega),ih (i + 1) _ h3 (by rw [List.length_append]; omega),List.flatten_cons,List.append_assoc]
theorem Kyd (k:Nat) (h:k ≤ 1048576):Kne (k:Int)=some ():=by
 unfold Kne
 have e:wr ((k:Int) - wr (0 - 0))=(k:Int):=by rw [Kr7 (x:=0 - 0) (by decide) (by decide),Kr7 (by omega) (by omega)]; omega
 rw [decide_eq_false (by omega),if_neg (by decide),e]
 by_cases hk:k=0
 ·subst hk; rfl
 ·rw [decide_eq_true (by omega),if_pos rfl,Int.toNat_natCast,Kwe (by constructor <;> omega),bs]
theorem Kye (ps:List (List (Int))) (hp:ps.length ≤ 1048576) (h:ps.flatten.length ≤ 1048576):Knp ps=some ps.flatten:=by
 unfold Knp
 have h0:=Kyb ps (by omega) ps 0 0 rfl (by omega)
 rw [Nat.zero_add] at h0
 rw [show (0:Int)=((0:Nat):Int) from rfl,h0,bs,Kyd _ h,bs,Kyc ps (by omega) ps 0 [] rfl (by rw [List.length_nil]; omega)]
 rfl
theorem Kyf (ps:List (List (List Int))) (hp:ps.length ≤ 1099511627776):∀ (l:List (List (List Int))) (i sz:Nat),ps.drop i=l→sz + l.flatten.length ≤ 1099511627776→Km3 (ps,(sz:Int),(i:Int))=some (((sz + l.flatten.length:Nat)):Int):=by
 intro l
 induction l with
 | nil =>
  intro i sz hd _
  rw [Km3.eq_def]
  simp only
  rw [Krb (Kse hd)]
  simp
 | cons x l ih =>
  intro i sz hd ho
  obtain ⟨h1,h2,h3⟩:=Ksd hd
  rw [List.flatten_cons,List.length_append] at ho
  have e:wr ((sz:Int) + (x.length:Int))=((sz + x.length:Nat):Int):=Kvm (by omega) (by omega)
  rw [Km3.eq_def]
  simp only
  rw [Kra h1,if_pos rfl,h2,bs,e,decide_eq_false (by omega),if_neg (by decide),bs,Kr9 (by omega),ih (i + 1) _ h3 (by omega),List.flatten_cons,List.length_append,Nat.add_assoc]
theorem Kyg (ps:List (List (List Int))) (hp:ps.length ≤ 1099511627776):∀ (l:List (List (List Int))) (i:Nat) (out:List (List Int)),ps.drop i=l→out.length + l.flatten.length ≤ 1099511627776→Km7 (ps,out,(i:Int))=some (out ++ l.flatten):=by
 intro l
 induction l with
 | nil =>
  intro i out hd _
  rw [Km7.eq_def]
  simp only
  rw [Krb (Kse hd)]
  simp
 | cons x l ih =>
  intro i out hd ho
  obtain ⟨h1,h2,h3⟩:=Ksd hd
  rw [List.flatten_cons,List.length_append] at ho
  rw [Km7.eq_def]
  simp only
  rw [Kra h1,if_pos rfl,h2,bs,Kue (by omega),bs,Kr9 (by omega),ih (i + 1) _ h3 (by rw [List.length_append]; omega),List.flatten_cons,List.append_assoc]
theorem Kyh (k:Nat) (h:k ≤ 1048576):Klz (k:Int)=some ():=by
 unfold Klz
 have e:wr ((k:Int) - wr (0 - 0))=(k:Int):=by rw [Kr7 (x:=0 - 0) (by decide) (by decide),Kr7 (by omega) (by omega)]; omega
 rw [decide_eq_false (by omega),if_neg (by decide),e]
 by_cases hk:k=0
 ·subst hk; rfl
 ·rw [decide_eq_true (by omega),if_pos rfl,Int.toNat_natCast,Kwe (by constructor <;> omega),bs]
theorem Kyi (ps:List (List (List Int))) (hp:ps.length ≤ 1048576) (h:ps.flatten.length ≤ 1048576):Kma ps=some ps.flatten:=by
 unfold Kma
 have h0:=Kyf ps (by omega) ps 0 0 rfl (by omega)
 rw [Nat.zero_add] at h0
 rw [show (0:Int)=((0:Nat):Int) from rfl,h0,bs,Kyh _ h,bs,Kyg ps (by omega) ps 0 [] rfl (by rw [List.length_nil]; omega)]
 rfl
def Kyj (s:K00) (ctx:List (List Int)):Bool:=decide (ctx.length ≤ 8) && ctx.all (yN s.fSize true)
theorem sYn {s:K00} {ty:List Int} (h:ty.length ≤ 1099511627776):(Kqu ty >>= fun r=>if r=true then Kqw (ty,s.fSize,true) >>= fun q=>some (!q) else some true)=some (!yN s.fSize true ty):=by
 rw [Kt0 ty h,bs]
 unfold yN
 cases wtB ty with
 | false=>rfl
 | true=>rw [if_pos rfl,Kt6 ty h,bs]; rfl
theorem Kyk (s:K00) (ctx:List (List Int)) (hc:ctx.length ≤ 1048576) (hl:∀ ty ∈ ctx,ty.length ≤ 1099511627776):∀ (l:List (List Int)) (i:Nat),ctx.drop i=l→Kr1 (s,ctx,(i:Int))=some (if l.all (yN s.fSize true) then .inl () else .inr false):=by
 intro l
 induction l with
 | nil =>
  intro i hd
  rw [Kr1.eq_def]
  simp only
  rw [Krb (Kse hd)]; rfl
 | cons x l ih =>
  intro i hd
  obtain ⟨h1,h2,h3⟩:=Ksd hd
  have hx:x ∈ ctx:=List.mem_of_mem_drop (i:=i) (by rw [hd]; exact List.mem_cons_self)
  rw [Kr1.eq_def]
  simp only
  rw [Kra h1,if_pos rfl]
  simp only [h2,bs]
  rw [sYn (hl x hx),bs,Kr9 (by omega),ih (i + 1) h3,List.all_cons]
  cases yN s.fSize true x <;> cases l.all (yN s.fSize true) <;> rfl
theorem Kyl (s:K00) (ctx:List (List Int)) (hc:ctx.length ≤ 1048576) (hl:∀ ty ∈ ctx,ty.length ≤ 1099511627776):Kr2 (s,ctx)=some (Kyj s ctx):=by
 unfold Kr2 Kyj
 simp only
 by_cases h:ctx.length ≤ 8
 ·rw [decide_eq_false (by omega),decide_eq_true h,if_neg (by decide),show (0:Int)=((0:Nat):Int) from rfl,Kyk s ctx hc hl ctx 0 rfl,bs]
  cases ctx.all (yN s.fSize true) <;> rfl
 ·rw [decide_eq_true (by omega),decide_eq_false h,if_pos rfl]; rfl
theorem Kym (s:K00) (ctx:List (List Int)) (hc:ctx.length ≤ 1048576) (hl:∀ ty ∈ ctx,ty.length ≤ 1099511627776):∀ (l:List (List Int)) (i:Nat),ctx.drop i=l→∃ r,Kkt (ctx,s,(i:Int))=some r∧(match r with | .inl _=>l.all (Kvf s)=true | .inr j=>l.all (Kvf s)=false∧0 ≤ j):=by
 intro l
 induction l with
 | nil =>
  intro i hd
  rw [Kkt.eq_def]
  simp only
  rw [Krb (Kse hd)]
  exact ⟨_,rfl,rfl⟩
 | cons x l ih =>
  intro i hd
  obtain ⟨h1,h2,h3⟩:=Ksd hd
  have hx:x ∈ ctx:=List.mem_of_mem_drop (i:=i) (by rw [hd]; exact List.mem_cons_self)
  rw [Kkt.eq_def]
  simp only
  rw [Kra h1,if_pos rfl,h2,bs]
  unfold Kkp
  simp only
  rw [Kvh s x (hl x hx)]
  simp only [bs]
  cases hle:Kvf s x with
  | true =>
   obtain ⟨r,hr,hm⟩:=ih (i + 1) h3
   refine ⟨r,?_,?_⟩
   ·rw [if_neg (by simp),Kr9 (by omega)]; exact hr
   ·rw [List.all_cons,hle,Bool.true_and]; exact hm
  | false=>exact ⟨_,if_pos rfl,by simp [List.all_cons,hle]⟩
theorem Kyn (s:K00) (hs:Kus s=true) (ctx:List (List Int)) (hc:ctx.length ≤ 1048576) (hl:∀ ty ∈ ctx,ty.length ≤ 1099511627776):Kl2 (s,ctx)=some (Kyj s ctx):=by
 have e:ctx.all (Kvf s)=ctx.all (yN s.fSize true):=by
  congr 1
  funext ty
  exact Kvk (Kut hs) ty
 unfold Kl2 Kyj
 simp only
 by_cases h:ctx.length ≤ 8
 ·rw [decide_eq_true (by omega:(ctx.length:Int) ≤ 8),decide_eq_true h,if_pos rfl]
  obtain ⟨r,hr,hm⟩:=Kym s ctx hc hl ctx 0 rfl
  unfold Kkz Kkw
  simp only
  rw [show (0:Int)=((0:Nat):Int) from rfl,hr]
  rw [e] at hm
  cases r with
  | inl _=>simp only [bs] at hm ⊢; rw [hm]; rfl
  | inr j =>
   simp only [bs] at hm ⊢
   rw [hm.1,decide_eq_true (by omega)]; rfl
 ·rw [decide_eq_false (by omega),decide_eq_false h,if_neg (by decide)]; rfl
theorem Kyo {s:K00} (ty:List Int) (h:ty.length ≤ 1099511627776):Kl8 (ty,s)=some (Kvf s ty):=by
 unfold Kl8
 simp only
 rw [Kvh s ty h,bs]
mutual
theorem Kyp (s:K00):∀ (t:K01) (n nodes:Nat),tms t ≤ 1099511627776→n + 2 * tms t ≤ 35184372088832→nodes ≤ 400→Klf (t,(n:Int),s,s,(nodes:Int))=some (Ku4 (tOk (Kvc s) (Kvf s) n t) nodes (tsz t))
 | ⟨op,N,ty,ks⟩,n,nodes,ht,hn,hd=>by
  rw [tms] at ht hn
  rw [Klf.eq_def,tOk,tsz]
  simp only
  rw [Ktr,bs]
  unfold Ktq
  cases hop:inB op 0 12
  ·simp [Kty,hop,Ku4]
  ·simp only [if_true]
   rw [Kr9 (by omega)]
   by_cases h4:nodes + 1 ≤ 400
   ·rw [decide_eq_false (by omega:¬ ((nodes + 1:Nat):Int) > 400)]
    by_cases hk:(ks.length:Int)=Kti op
    ·rw [show ((ks.length:Int) != Kti op)=false by rw [hk]; exact Krc]
     simp only [Bool.false_eq_true,if_false,bs]
     refine (Kt7 (x:=Ktw (Kvc s) (n:Int) ⟨op,N,ty,ks⟩) ?_).trans ?_
     ·unfold Ktw
      simp only [iIn,Kr7 (x:=(n:Int) - 1) (by omega) (by omega),Kvd,bs]
      cases op == 0 <;> cases op == 1 <;> cases Ktj op <;> rfl
     refine (Kt7 (x:=Ktw (Kvc s) (n:Int) ⟨op,N,ty,ks⟩ && Ktx (Kvf s) ⟨op,N,ty,ks⟩) ?_).trans ?_
     ·unfold Ktx
      simp only [Kyo ty (by omega),bs]
      cases Ktk op <;> cases Ktw (Kvc s) (n:Int) ⟨op,N,ty,ks⟩ <;> rfl
     have e:Kty (Kvc s) (Kvf s) (n:Int) ⟨op,N,ty,ks⟩=(Ktw (Kvc s) (n:Int) ⟨op,N,ty,ks⟩ && Ktx (Kvf s) ⟨op,N,ty,ks⟩):=by
      unfold Kty
      simp only
      rw [hop,hk]; simp
     rw [e]
     cases Ktw (Kvc s) (n:Int) ⟨op,N,ty,ks⟩ && Ktx (Kvf s) ⟨op,N,ty,ks⟩
     ·simp [Ku4]
     ·have h:=Kyq s ks ⟨op,N,ty,ks⟩ n (nodes + 1) 0 rfl (by simp only; omega) (by omega) (by omega) h4
      rw [if_pos rfl,show (0:Int)=((0:Nat):Int) from rfl,h]
      simp only [Bool.true_and]
      unfold Ku4
      rw [show nodes + (1 + Kt8 ks)=nodes + 1 + Kt8 ks by omega]
      cases Ktz (Kvc s) (Kvf s) op n 0 ks && decide (nodes + 1 + Kt8 ks ≤ 400) <;> rfl
    ·rw [show ((ks.length:Int) != Kti op)=true by simpa using hk]
     have e:Kty (Kvc s) (Kvf s) (n:Int) ⟨op,N,ty,ks⟩=false:=by
      unfold Kty
      simp only
      rw [show ((ks.length:Int) == Kti op)=false by simpa using hk]; simp
     simp [e,Ku4]
   ·rw [decide_eq_true (by omega:((nodes + 1:Nat):Int) > 400)]
    have:¬ nodes + (1 + Kt8 ks) ≤ 400:=by omega
    simp [Ku4,this]
theorem Kyq (s:K00):∀ (ks:List K01) (t:K01) (n nodes i:Nat),t.fKids.drop i=ks→t.fKids.length ≤ 1099511627776→Kt9 ks ≤ 1099511627776→n + 2 * (ks.length + Kt9 ks) ≤ 35184372088832→nodes ≤ 400 →
  Klg (t,(n:Int),s,s,(nodes:Int),(i:Int))=some (if Ktz (Kvc s) (Kvf s) t.fOp n i ks && decide (nodes + Kt8 ks ≤ 400) then .inl ((nodes + Kt8 ks:Nat):Int) else .inr 401)
 | [],t,n,nodes,i,hd,hk,ht,hn,h4=>by
  rw [Klg.eq_def,Ktz,Kt8]
  simp only
  rw [Krb (Kse hd)]
  simp [h4]
 | k :: ks,t,n,nodes,i,hd,hk,ht,hn,h4=>by
  obtain ⟨hi,hx,hd'⟩:=Ksd hd
  rw [Kt9] at ht hn
  rw [List.length_cons] at hn
  have ha:=Ktt t.fOp (i:Int)
  rw [Klg.eq_def,Ktz,Kt8]
  simp only
  rw [Kra hi,if_pos rfl,hx,bs,Ktv,bs,Kr7 (by omega) (by omega),show (n:Int) + ((Kts t.fOp (i:Int):Nat):Int)=((n + Kts t.fOp (i:Int):Nat):Int) by omega]
  rw [Kyp s k (n + Kts t.fOp (i:Int)) nodes (by omega) (by omega) h4,bs,Kr9 (by omega)]
  unfold Ku4
  cases tOk (Kvc s) (Kvf s) (n + Kts t.fOp (i:Int)) k
  ·rfl
  ·by_cases q:nodes + tsz k ≤ 400
   ·rw [decide_eq_true q,Bool.true_and,if_pos rfl,decide_eq_false (by omega:¬ ((nodes + tsz k:Nat):Int) > 400),if_neg (by decide),Kyq s ks t n (nodes + tsz k) (i + 1) hd' hk (by omega) (by omega) q,Nat.add_assoc,Bool.true_and]
   ·rw [decide_eq_false q,decide_eq_false (by omega:¬ nodes + (tsz k + Kt8 ks) ≤ 400)]
    simp
end
theorem Kyr {s:K00} {n:Nat} (h:Tab s n):Kvc s=gN s.fSize true:=by
 funext g
 rw [Kvi h]
 unfold gN inB
 rw [h.size]
 rw [Bool.eq_iff_iff]
 simp
 omega
theorem Kys (s:K00) (hs:Kus s=true) (t:K01) (n:Nat) (hn:n ≤ 8) (ht:tms t ≤ 1099511627776):Klm (s,t,(n:Int))=some (Kwq s t n):=by
 have hy:Kvf s=yN s.fSize true:=funext fun ty=>Kvk (Kut hs) ty
 unfold Klm Kwq
 simp only
 rw [iIn,bs,hs]
 have:inB (n:Int) 0 8=true:=by unfold inB; rw [decide_eq_true (by omega),decide_eq_true (by omega)]; rfl
 have hc:=Kyp s t n 0 ht (by omega) (by omega)
 rw [Kyr (Kut hs),hy] at hc
 rw [this,if_pos rfl,show (0:Int)=((0:Nat):Int) from rfl,hc,bs]
 unfold Ku4
 rw [Nat.zero_add]
 cases tOk (gN s.fSize true) (yN s.fSize true) n t
 ·simp [bs]
 ·by_cases h:tsz t ≤ 400
  ·simp [bs,h]; omega
  ·simp [bs,h]
def Kyt (s:K00) (ctx:List (List Int)) (t:K01):Bool:=Kus s && Kyj s ctx && Kwq s t ctx.length
theorem Kyu (s:K00) (ctx:List (List Int)) (t:K01) (hc:ctx.length ≤ 1048576) (hl:∀ ty ∈ ctx,ty.length ≤ 1099511627776) (ht:tms t ≤ 1099511627776):Kr3 (s,ctx,t)=some (Kyt s ctx t):=by
 unfold Kr3 Kyt
 simp only
 rw [Kuu,bs]
 cases hs:Kus s
 ·rfl
 ·rw [if_pos rfl,Kyl s ctx hc hl,bs]
  cases h2:Kyj s ctx
  ·rfl
  ·have h8:ctx.length ≤ 8:=by
    unfold Kyj at h2
    simp only [Bool.and_eq_true,decide_eq_true_eq] at h2
    exact h2.1
   rw [if_pos rfl,Kwr s t _ h8 ht]
   rfl
theorem Kyv (s:K00) (ctx:List (List Int)) (t:K01) (hc:ctx.length ≤ 1048576) (hl:∀ ty ∈ ctx,ty.length ≤ 1099511627776) (ht:tms t ≤ 1099511627776) :
  Kpb (s,ctx,t)=if Kyt s ctx t then (Kp4 (⟨s⟩,ctx,t) >>= fun r=>some (some r)) else some none:=by
 unfold Kpb Kyt
 simp only
 rw [Kuv,bs]
 cases hs:Kus s
 ·rfl
 ·rw [if_pos rfl,Kyn s hs ctx hc hl,bs]
  cases h2:Kyj s ctx
  ·rfl
  ·have h8:ctx.length ≤ 8:=by
    unfold Kyj at h2
    simp only [Bool.and_eq_true,decide_eq_true_eq] at h2
    exact h2.1
   rw [if_pos rfl,Kys s hs t _ h8 ht,bs]
   cases Kwq s t ctx.length <;> rfl
end Go.Am
