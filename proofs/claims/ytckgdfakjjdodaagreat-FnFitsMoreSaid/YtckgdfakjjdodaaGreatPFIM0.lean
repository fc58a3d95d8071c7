/- Plain laws of the printed functions. -/
import Derived.Test.YtckgdfakjjdodaaGreatGFIMF14
set_option linter.unusedSimpArgs false
set_option linter.unusedVariables false
namespace Go.Am
theorem Krx {x:Int} (h1:-9223372036854775808 ≤ x) (h2:x ≤ 9223372036854775807):wr x=x:=by
 unfold wr IntKind.wrap
 simp [IntKind.bits,IntKind.signed]
 omega
theorem Kry {α:Type} {l:List α} {n:Nat} (h:n < l.length):idx l (n:Int)=some l[n]:=by
 unfold idx
 rw [if_pos (by omega)]
 simp [h]
theorem bs {α β:Type} (a:α) (f:α→Option β):(some a >>= f)=f a:=rfl
theorem Krz {n:Nat} (h:n < 9223372036854775807):wr ((n:Int) + 1)=((n + 1:Nat):Int):=by
 rw [Krx (by omega) (by omega)]; omega
theorem Ks0 {n m:Nat} (h:n < m):decide ((n:Int) < (m:Int))=true:=decide_eq_true (by omega)
theorem Ks1 {n m:Nat} (h:m ≤ n):decide ((n:Int) < (m:Int))=false:=decide_eq_false (by omega)
theorem Ks2 {a:Int}:(a != a)=false:=by simp
structure Tab (s:K00) (n:Nat):Prop where
 size:s.fSize=(n:Int)
 lo:2 ≤ n
 hi:n ≤ 16
 lp:s.fPlus.length=n * n
 lt:s.fTimes.length=n * n
 lb:s.fBelow.length=n * n
 rp:∀ i (h:i < s.fPlus.length),0 ≤ s.fPlus[i]∧s.fPlus[i] < (n:Int)
 rt:∀ i (h:i < s.fTimes.length),0 ≤ s.fTimes[i]∧s.fTimes[i] < (n:Int)
def pl (s:K00) (n a b:Nat):Nat:=(s.fPlus.getD (a * n + b) 0).toNat
def ti (s:K00) (n a b:Nat):Nat:=(s.fTimes.getD (a * n + b) 0).toNat
def le (s:K00) (n a b:Nat):Bool:=s.fBelow.getD (a * n + b) false
theorem Ks3 {n a b:Nat} (ha:a < n) (hb:b < n):a * n + b < n * n:=by
 have:(a + 1) * n ≤ n * n:=Nat.mul_le_mul_right _ (by omega)
 rw [Nat.add_mul,Nat.one_mul] at this
 omega
theorem Ks4 {n a b:Nat} (hn:n ≤ 16) (ha:a < n) (hb:b < n):wr ((wr ((a:Int) * (n:Int))) + (b:Int))=((a * n + b:Nat):Int):=by
 have h1:a * n ≤ 256:=Nat.le_trans (Nat.mul_le_mul (by omega:a ≤ 16) hn) (by decide)
 have e:(a:Int) * (n:Int)=((a * n:Nat):Int):=by simp
 rw [e]
 generalize a * n=m at h1
 rw [Krx (x:=(m:Int)) (by omega) (by omega),Krx (by omega) (by omega)]
 omega
section
variable {s:K00} {n:Nat} (h:Tab s n)
include h
theorem Ks5 {a b:Nat} (ha:a < n) (hb:b < n):pl s n a b < n:=by
 have hl:a * n + b < s.fPlus.length:=by rw [h.lp]; exact Ks3 ha hb
 unfold pl
 rw [List.getD_eq_getElem?_getD,List.getElem?_eq_getElem hl]
 have:=h.rp _ hl
 simp only [Option.getD_some]
 omega
theorem Ks6 {a b:Nat} (ha:a < n) (hb:b < n):ti s n a b < n:=by
 have hl:a * n + b < s.fTimes.length:=by rw [h.lt]; exact Ks3 ha hb
 unfold ti
 rw [List.getD_eq_getElem?_getD,List.getElem?_eq_getElem hl]
 have:=h.rt _ hl
 simp only [Option.getD_some]
 omega
theorem Ks7 {a b:Nat} (ha:a < n) (hb:b < n):idx s.fPlus ((a * n + b:Nat):Int)=some ((pl s n a b:Nat):Int):=by
 have hl:a * n + b < s.fPlus.length:=by rw [h.lp]; exact Ks3 ha hb
 rw [Kry hl]
 unfold pl
 rw [List.getD_eq_getElem?_getD,List.getElem?_eq_getElem hl]
 have:=h.rp _ hl
 simp only [Option.getD_some]
 congr 1
 omega
theorem Ks8 {a b:Nat} (ha:a < n) (hb:b < n):idx s.fTimes ((a * n + b:Nat):Int)=some ((ti s n a b:Nat):Int):=by
 have hl:a * n + b < s.fTimes.length:=by rw [h.lt]; exact Ks3 ha hb
 rw [Kry hl]
 unfold ti
 rw [List.getD_eq_getElem?_getD,List.getElem?_eq_getElem hl]
 have:=h.rt _ hl
 simp only [Option.getD_some]
 congr 1
 omega
theorem Ks9 {a b:Nat} (ha:a < n) (hb:b < n):idx s.fBelow ((a * n + b:Nat):Int)=some (le s n a b):=by
 have hl:a * n + b < s.fBelow.length:=by rw [h.lb]; exact Ks3 ha hb
 rw [Kry hl]
 unfold le
 rw [List.getD_eq_getElem?_getD,List.getElem?_eq_getElem hl]
 rfl
theorem Ksa {a b:Nat} (ha:a < n) (hb:b < n):Kbm (s,(a:Int),(b:Int))=some ((pl s n a b:Nat):Int):=by
 unfold Kbm
 simp only
 rw [h.size,Ks4 h.hi ha hb,Ks7 h ha hb,bs]
theorem Ksb {a b:Nat} (ha:a < n) (hb:b < n):Kbp (s,(a:Int),(b:Int))=some ((ti s n a b:Nat):Int):=by
 unfold Kbp
 simp only
 rw [h.size,Ks4 h.hi ha hb,Ks8 h ha hb,bs]
theorem sLe {a b:Nat} (ha:a < n) (hb:b < n):Kbs (s,(a:Int),(b:Int))=some (le s n a b):=by
 unfold Kbs
 simp only
 rw [h.size,Ks4 h.hi ha hb,Ks9 h ha hb,bs]
theorem Ksc {a b:Nat} (ha:a < n) (hb:b < n):Kiz (s,(a:Int),(b:Int))=some ((pl s n a b:Nat):Int):=by
 unfold Kiz
 simp only
 rw [h.size,Ks4 h.hi ha hb,Ks7 h ha hb,bs]
theorem Ksd {a b:Nat} (ha:a < n) (hb:b < n):Kj2 (s,(a:Int),(b:Int))=some ((ti s n a b:Nat):Int):=by
 unfold Kj2
 simp only
 rw [h.size,Ks4 h.hi ha hb,Ks8 h ha hb,bs]
theorem iLe {a b:Nat} (ha:a < n) (hb:b < n):Kj5 (s,(a:Int),(b:Int))=some (le s n a b):=by
 unfold Kj5
 simp only
 rw [h.size,Ks4 h.hi ha hb,Ks9 h ha hb,bs]
end
theorem Kse (x y:Nat):(((x:Nat):Int) == ((y:Nat):Int))=(x == y):=by
 cases hb:(x == y) with
 | true=>have:=eq_of_beq hb; subst this; simp
 | false=>simp at hb ⊢; omega
theorem Ksf (x y:Nat):(((x:Nat):Int) != ((y:Nat):Int))=(x != y):=by
 simp only [bne,Kse]
def Ksg (s:K00) (n a:Nat):Bool:=(pl s n 0 a == a) && (ti s n 1 a == a) && (ti s n a 1 == a) && (ti s n 0 a == 0) && (ti s n a 0 == 0) && le s n a a
def Ksh (s:K00) (n a b c:Nat):Bool :=
 (pl s n (pl s n a b) c == pl s n a (pl s n b c)) && (ti s n (ti s n a b) c == ti s n a (ti s n b c)) &&
 (ti s n a (pl s n b c) == pl s n (ti s n a b) (ti s n a c)) && (ti s n (pl s n a b) c == pl s n (ti s n a c) (ti s n b c)) &&
 (!(le s n a b) || ((!(le s n b c) || le s n a c) && le s n (pl s n a c) (pl s n b c) && le s n (ti s n a c) (ti s n b c) && le s n (ti s n c a) (ti s n c b)))
section
variable {s:K00} {n:Nat} (h:Tab s n)
include h
theorem Ksi {a:Nat} (ha:a < n):Kbv (s,(a:Int))=some (Ksg s n a):=by
 have l0:(0:Nat) < n:=by have:=h.lo; omega
 have l1:(1:Nat) < n:=by have:=h.lo; omega
 have e0:(0:Int)=((0:Nat):Int):=rfl
 have e1:(1:Int)=((1:Nat):Int):=rfl
 unfold Kbv Ksg
 simp only
 rw [e0,e1]
 simp only [Ksa h l0 ha,Ksb h l1 ha,Ksb h ha l1,Ksb h l0 ha,Ksb h ha l0,sLe h ha ha,bs,Kse]
 generalize (pl s n 0 a == a)=b1
 generalize (ti s n 1 a == a)=b2
 generalize (ti s n a 1 == a)=b3
 generalize (ti s n 0 a == 0)=b4
 generalize (ti s n a 0 == 0)=b5
 generalize le s n a a=b6
 cases b1 <;> cases b2 <;> cases b3 <;> cases b4 <;> cases b5 <;> cases b6 <;> rfl
theorem Ksj {a b c:Nat} (ha:a < n) (hb:b < n) (hc:c < n):Kcc (s,(a:Int),(b:Int),(c:Int))=some (Ksh s n a b c):=by
 unfold Kcc Ksh
 simp only
 simp only [Ksa h,Ksb h,sLe h,Ks5 h,Ks6 h,ha,hb,hc,bs,Ksf]
 generalize e1:pl s n (pl s n a b) c=x1
 generalize e2:pl s n a (pl s n b c)=x2
 generalize e3:ti s n (ti s n a b) c=x3
 generalize e4:ti s n a (ti s n b c)=x4
 generalize ti s n a (pl s n b c)=x5
 generalize pl s n (ti s n a b) (ti s n a c)=x6
 generalize ti s n (pl s n a b) c=x7
 generalize pl s n (ti s n a c) (ti s n b c)=x8
 generalize le s n (pl s n a c) (pl s n b c)=y1
 generalize le s n (ti s n a c) (ti s n b c)=y2
 generalize le s n (ti s n c a) (ti s n c b)=y3
 generalize le s n a b=y4
 generalize le s n b c=y5
 generalize le s n a c=y6
 simp only [bne]
 generalize (x1 == x2)=b1
 generalize (x3 == x4)=b2
 generalize (x5 == x6)=b3
 generalize (x7 == x8)=b4
 cases b1 <;> cases b2 <;> cases b3 <;> cases b4 <;> first | rfl | (cases y4 <;> cases y5 <;> cases y6 <;> cases y1 <;> cases y2 <;> cases y3 <;> rfl)
theorem Ksk {a b c:Nat} (ha:a < n) (hb:b < n) (hc:c < n):Kjp (s,(a:Int),(b:Int),(c:Int))=some (Ksh s n a b c):=by
 unfold Kjp Ksh
 simp only
 simp only [Ksc h,Ksd h,iLe h,Ks5 h,Ks6 h,ha,hb,hc,bs,Ksf]
 generalize e1:pl s n (pl s n a b) c=x1
 generalize e2:pl s n a (pl s n b c)=x2
 generalize e3:ti s n (ti s n a b) c=x3
 generalize e4:ti s n a (ti s n b c)=x4
 generalize ti s n a (pl s n b c)=x5
 generalize pl s n (ti s n a b) (ti s n a c)=x6
 generalize ti s n (pl s n a b) c=x7
 generalize pl s n (ti s n a c) (ti s n b c)=x8
 generalize le s n (pl s n a c) (pl s n b c)=y1
 generalize le s n (ti s n a c) (ti s n b c)=y2
 generalize le s n (ti s n c a) (ti s n c b)=y3
 generalize le s n a b=y4
 generalize le s n b c=y5
 generalize le s n a c=y6
 simp only [bne]
 generalize (x1 == x2)=b1
 generalize (x3 == x4)=b2
 generalize (x5 == x6)=b3
 generalize (x7 == x8)=b4
 cases b1 <;> cases b2 <;> cases b3 <;> cases b4 <;> first | rfl | (cases y4 <;> cases y5 <;> cases y6 <;> cases y1 <;> cases y2 <;> cases y3 <;> rfl)
end
def Ksl (s:K00) (n a b g h:Nat):Bool:=!le s n a h || !le s n b h || le s n g h
def jok (s:K00) (n a b g:Nat):Bool:=le s n a g && le s n b g && (List.range' 0 n).all (Ksl s n a b g)
def Ksm (s:K00) (n a b:Nat):Int:=match (List.range' 0 n).find? (jok s n a b) with | some g=>(g:Int) | none=>-1
section
variable {s:K00} {n:Nat} (h:Tab s n)
include h
theorem Ksn {a b g:Nat} (ha:a < n) (hb:b < n) (hg:g < n):∀ (k m:Nat) (ok:Bool),m + k=n→Kbz (s,(a:Int),(b:Int),(g:Int),ok,(m:Int))=some (ok && (List.range' m k).all (Ksl s n a b g)):=by
 have hhi:=h.hi
 intro k
 induction k with
 | zero =>
  intro m ok hm
  rw [Kbz.eq_def]
  simp only
  rw [h.size,Ks1 (by omega)]
  simp [bs]
 | succ k ih =>
  intro m ok hm
  rw [Kbz.eq_def]
  simp only
  rw [h.size,Ks0 (by omega),if_pos rfl,bs,sLe h ha (by omega),sLe h hb (by omega),sLe h hg (by omega)]
  cases ok with
  | false=>rfl
  | true =>
   rw [if_pos rfl]
   rw [List.range'_succ,List.all_cons]
   have ih:∀ ok,_:=fun ok=>ih (m + 1) ok (by omega)
   rw [Krz (by omega)]
   generalize ((m + 1:Nat):Int)=M at ih ⊢
   simp only [bs,Ksl]
   cases le s n a m <;> cases le s n b m <;> cases le s n g m <;> simp [bs,ih,Ksl]
theorem Kso {a b g:Nat} (ha:a < n) (hb:b < n) (hg:g < n):∀ (k m:Nat) (ok:Bool),m + k=n→Kj9 (s,(a:Int),(b:Int),(g:Int),ok,(m:Int))=some (ok && (List.range' m k).all (Ksl s n a b g)):=by
 have hhi:=h.hi
 intro k
 induction k with
 | zero =>
  intro m ok hm
  rw [Kj9.eq_def]
  simp only
  rw [h.size,Ks1 (by omega)]
  simp [bs]
 | succ k ih =>
  intro m ok hm
  rw [Kj9.eq_def]
  simp only
  rw [h.size,Ks0 (by omega),if_pos rfl,iLe h ha (by omega),iLe h hb (by omega),iLe h hg (by omega)]
  rw [List.range'_succ,List.all_cons]
  have ih:∀ ok,_:=fun ok=>ih (m + 1) ok (by omega)
  rw [Krz (by omega)]
  generalize ((m + 1:Nat):Int)=M at ih ⊢
  simp only [bs,Ksl]
  cases ok <;> cases le s n a m <;> cases le s n b m <;> cases le s n g m <;> simp [bs,ih,Ksl]
theorem Ksp {a b:Nat} (ha:a < n) (hb:b < n):∀ (k g:Nat),g + k=n→Kc3 (s,(a:Int),(b:Int),(g:Int))=some (match (List.range' g k).find? (jok s n a b) with | some g=>.inr (g:Int) | none=>.inl ()):=by
 have hhi:=h.hi
 intro k
 induction k with
 | zero =>
  intro g hm
  rw [Kc3.eq_def]
  simp only
  rw [h.size,Ks1 (by omega)]
  rfl
 | succ k ih =>
  intro g hm
  rw [Kc3.eq_def]
  simp only
  rw [h.size,Ks0 (by omega),if_pos rfl,sLe h ha (by omega),sLe h hb (by omega)]
  have ih:=ih (g + 1) (by omega)
  rw [Krz (by omega),List.range'_succ,List.find?_cons]
  have hl:=fun ok=>Ksn h ha hb (g:=g) (by omega) n 0 ok (by omega)
  rw [show ((0:Nat):Int)=0 from rfl] at hl
  generalize ((g + 1:Nat):Int)=M at ih ⊢
  have hj:jok s n a b g=(le s n a g && le s n b g && (List.range' 0 n).all (Ksl s n a b g)):=rfl
  rw [hj]
  cases le s n a g <;> cases le s n b g <;> cases hq:(List.range' 0 n).all (Ksl s n a b g) <;> simp [bs,hl,hq,ih]
theorem Ksq {a b:Nat} (ha:a < n) (hb:b < n):∀ (k g:Nat),g + k=n→Kjj (s,(a:Int),(b:Int),(g:Int))=some (match (List.range' g k).find? (jok s n a b) with | some g=>.inr (g:Int) | none=>.inl ()):=by
 have hhi:=h.hi
 intro k
 induction k with
 | zero =>
  intro g hm
  rw [Kjj.eq_def]
  simp only
  rw [h.size,Ks1 (by omega)]
  rfl
 | succ k ih =>
  intro g hm
  rw [Kjj.eq_def]
  simp only
  rw [h.size,Ks0 (by omega),if_pos rfl,iLe h ha (by omega),iLe h hb (by omega)]
  have ih:=ih (g + 1) (by omega)
  rw [Krz (by omega),List.range'_succ,List.find?_cons]
  have hl:=fun ok=>Kso h ha hb (g:=g) (by omega) n 0 ok (by omega)
  rw [show ((0:Nat):Int)=0 from rfl] at hl
  generalize ((g + 1:Nat):Int)=M at ih ⊢
  have hj:jok s n a b g=(le s n a g && le s n b g && (List.range' 0 n).all (Ksl s n a b g)):=rfl
  rw [hj]
  cases le s n a g <;> cases le s n b g <;> cases hq:(List.range' 0 n).all (Ksl s n a b g) <;> simp [bs,hl,hq,ih]
theorem Ksr {a b:Nat} (ha:a < n) (hb:b < n):Kc6 (s,(a:Int),(b:Int))=some (Ksm s n a b):=by
 unfold Kc6 Ksm
 simp only
 have:=Ksp h ha hb n 0 (by omega)
 rw [show ((0:Nat):Int)=0 from rfl] at this
 rw [this,bs]
 cases (List.range' 0 n).find? (jok s n a b) <;> rfl
theorem Kss {a b:Nat} (ha:a < n) (hb:b < n):Kjm (s,(a:Int),(b:Int))=some (Ksm s n a b):=by
 unfold Kjm Ksm
 simp only
 have:=Ksq h ha hb n 0 (by omega)
 rw [show ((0:Nat):Int)=0 from rfl] at this
 rw [this,bs]
 cases (List.range' 0 n).find? (jok s n a b) <;> rfl
def Kst (s:K00) (n a b:Nat):Bool:=(pl s n a b == pl s n b a) && ((a == b) || !le s n a b || !le s n b a) && decide (Ksm s n a b ≥ 0)
omit h in
theorem Ksu (x:Int):decide (x < 0)=!decide (x ≥ 0):=by
 by_cases h:x < 0
 ·rw [decide_eq_true h,decide_eq_false (by omega)]; rfl
 ·rw [decide_eq_false h,decide_eq_true (by omega)]; rfl
theorem Ksv {a b:Nat} (ha:a < n) (hb:b < n):Kc9 (s,(a:Int),(b:Int))=some (Kst s n a b):=by
 unfold Kc9 Kst
 simp only
 rw [Ksa h ha hb,Ksa h hb ha,sLe h ha hb,sLe h hb ha,Ksr h ha hb]
 simp only [bs,Kse]
 generalize (pl s n a b == pl s n b a)=b1
 generalize (a == b)=b2
 cases b1 <;> cases b2 <;> cases le s n a b <;> cases le s n b a <;> simp [bs]
end
def inB (x lo hi:Int):Bool:=decide (x ≥ lo) && decide (x ≤ hi)
theorem sIn (x lo hi:Int):Kad (x,lo,hi)=some (inB x lo hi):=by
 unfold Kad inB
 simp only
 cases decide (x ≥ lo) <;> simp [bs]
theorem iIn (x lo hi:Int):Kit (x,lo,hi)=some (inB x lo hi):=by
 unfold Kit inB
 simp only
 cases decide (x ≥ lo) <;> simp [bs]
def Ksw (s:K00) (n:Nat):Bool:=(List.range' 0 n).all fun a=>Ksg s n a && (List.range' 0 n).all fun b=>Kst s n a b && (List.range' 0 n).all fun c=>Ksh s n a b c
section
variable {s:K00} {n:Nat} (h:Tab s n)
include h
theorem Ksx {a b:Nat} (ha:a < n) (hb:b < n):∀ (k c:Nat),c + k=n→Kcg (s,(a:Int),(b:Int),(c:Int))=some (if (List.range' c k).all (fun c=>Ksh s n a b c) then .inl () else .inr false):=by
 have hhi:=h.hi
 intro k
 induction k with
 | zero =>
  intro c hm
  rw [Kcg.eq_def]
  simp only
  rw [h.size,Ks1 (by omega)]
  rfl
 | succ k ih =>
  intro c hm
  rw [Kcg.eq_def]
  simp only
  rw [h.size,Ks0 (by omega),if_pos rfl,Ksj h ha hb (by omega),bs]
  have ih:=ih (c + 1) (by omega)
  rw [Krz (by omega),List.range'_succ,List.all_cons]
  generalize ((c + 1:Nat):Int)=M at ih ⊢
  generalize (List.range' (c + 1) k).all (fun c=>Ksh s n a b c)=r at ih ⊢
  cases Ksh s n a b c <;> cases r <;> simp [ih]
theorem Ksy {a b:Nat} (ha:a < n) (hb:b < n):∀ (k c:Nat),c + k=n→Kjx (s,(a:Int),(b:Int),(c:Int))=some (if (List.range' c k).all (fun c=>Ksh s n a b c) then .inl () else .inr false):=by
 have hhi:=h.hi
 intro k
 induction k with
 | zero =>
  intro c hm
  rw [Kjx.eq_def]
  simp only
  rw [h.size,Ks1 (by omega)]
  rfl
 | succ k ih =>
  intro c hm
  rw [Kjx.eq_def]
  simp only
  rw [h.size,Ks0 (by omega),if_pos rfl,Ksk h ha hb (by omega),bs]
  have ih:=ih (c + 1) (by omega)
  rw [Krz (by omega),List.range'_succ,List.all_cons]
  generalize ((c + 1:Nat):Int)=M at ih ⊢
  generalize (List.range' (c + 1) k).all (fun c=>Ksh s n a b c)=r at ih ⊢
  cases Ksh s n a b c <;> cases r <;> simp [ih]
theorem Ksz {a:Nat} (ha:a < n):∀ (k b:Nat),b + k=n→Kcm (s,(a:Int),(b:Int))=some (if (List.range' b k).all (fun b=>Kst s n a b && (List.range' 0 n).all fun c=>Ksh s n a b c) then .inl () else .inr false):=by
 have hhi:=h.hi
 intro k
 induction k with
 | zero =>
  intro c hm
  rw [Kcm.eq_def]
  simp only
  rw [h.size,Ks1 (by omega)]
  rfl
 | succ k ih =>
  intro b hm
  rw [Kcm.eq_def]
  simp only
  have hl:=Ksx h ha (b:=b) (by omega) n 0 (by omega)
  rw [show ((0:Nat):Int)=0 from rfl] at hl
  rw [h.size,Ks0 (by omega),if_pos rfl,Ksv h ha (by omega),bs,hl]
  have ih:=ih (b + 1) (by omega)
  rw [Krz (by omega),List.range'_succ,List.all_cons]
  generalize ((b + 1:Nat):Int)=M at ih ⊢
  generalize (List.range' (b + 1) k).all (fun b=>Kst s n a b && (List.range' 0 n).all fun c=>Ksh s n a b c)=r at ih ⊢
  cases Kst s n a b <;> cases (List.range' 0 n).all (fun c=>Ksh s n a b c) <;> cases r <;> simp [ih,bs]
theorem Kt0 {a:Nat} (ha:a < n):∀ (k b:Nat),b + k=n→Kk1 (s,(a:Int),(b:Int))=some (if (List.range' b k).all (fun b=>Kst s n a b && (List.range' 0 n).all fun c=>Ksh s n a b c) then .inl () else .inr false):=by
 have hhi:=h.hi
 intro k
 induction k with
 | zero =>
  intro c hm
  rw [Kk1.eq_def]
  simp only
  rw [h.size,Ks1 (by omega)]
  rfl
 | succ k ih =>
  intro b hm
  have hb:b < n:=by omega
  rw [Kk1.eq_def]
  simp only
  have hl:=Ksy h ha (b:=b) (by omega) n 0 (by omega)
  rw [show ((0:Nat):Int)=0 from rfl] at hl
  rw [h.size,Ks0 (by omega),if_pos rfl,Ksc h ha hb,Ksc h hb ha,iLe h ha hb,iLe h hb ha,Kss h ha hb,hl]
  have ih:=ih (b + 1) (by omega)
  rw [Krz (by omega),List.range'_succ,List.all_cons]
  generalize ((b + 1:Nat):Int)=M at ih ⊢
  generalize (List.range' (b + 1) k).all (fun b=>Kst s n a b && (List.range' 0 n).all fun c=>Ksh s n a b c)=r at ih ⊢
  simp only [bs,Ksf,Ksu]
  cases h1:(pl s n a b == pl s n b a) <;> cases h2:(a == b) <;> cases h3:decide (Ksm s n a b ≥ 0) <;> cases h4:le s n a b <;> cases h5:le s n b a <;> cases h6:(List.range' 0 n).all (fun c=>Ksh s n a b c) <;> cases r <;> simp only [Kst,bne,h1,h2,h3,h4,h5,h6,ih,bs,Bool.not_true,Bool.not_false,Bool.true_and,Bool.false_and,Bool.and_true,Bool.and_false,Bool.true_or,Bool.false_or,Bool.or_true,Bool.or_false,if_true,if_false,Bool.false_eq_true]
theorem Kt1:∀ (k a:Nat),a + k=n→Kcq (s,(a:Int))=some (if (List.range' a k).all (fun a=>Ksg s n a && (List.range' 0 n).all fun b=>Kst s n a b && (List.range' 0 n).all fun c=>Ksh s n a b c) then .inl () else .inr false):=by
 have hhi:=h.hi
 intro k
 induction k with
 | zero =>
  intro c hm
  rw [Kcq.eq_def]
  simp only
  rw [h.size,Ks1 (by omega)]
  rfl
 | succ k ih =>
  intro a hm
  have ha:a < n:=by omega
  rw [Kcq.eq_def]
  simp only
  have hl:=Ksz h ha n 0 (by omega)
  rw [show ((0:Nat):Int)=0 from rfl] at hl
  rw [h.size,Ks0 (by omega),if_pos rfl,Ksi h ha,bs,hl]
  have ih:=ih (a + 1) (by omega)
  rw [Krz (by omega),List.range'_succ,List.all_cons]
  generalize ((a + 1:Nat):Int)=M at ih ⊢
  generalize (List.range' (a + 1) k).all (fun a=>Ksg s n a && (List.range' 0 n).all fun b=>Kst s n a b && (List.range' 0 n).all fun c=>Ksh s n a b c)=r at ih ⊢
  cases Ksg s n a <;> cases (List.range' 0 n).all (fun b=>Kst s n a b && (List.range' 0 n).all fun c=>Ksh s n a b c) <;> cases r <;> simp [ih,bs]
theorem Kt2:∀ (k a:Nat),a + k=n→Kk5 (s,(a:Int))=some (if (List.range' a k).all (fun a=>Ksg s n a && (List.range' 0 n).all fun b=>Kst s n a b && (List.range' 0 n).all fun c=>Ksh s n a b c) then .inl () else .inr false):=by
 have hhi:=h.hi
 have l0:(0:Nat) < n:=by have:=h.lo; omega
 have l1:(1:Nat) < n:=by have:=h.lo; omega
 intro k
 induction k with
 | zero =>
  intro c hm
  rw [Kk5.eq_def]
  simp only
  rw [h.size,Ks1 (by omega)]
  rfl
 | succ k ih =>
  intro a hm
  have ha:a < n:=by omega
  rw [Kk5.eq_def]
  simp only
  have hl:=Kt0 h ha n 0 (by omega)
  have q1:Kiz (s,0,(a:Int))=_:=Ksc h l0 ha
  have q2:Kj2 (s,1,(a:Int))=_:=Ksd h l1 ha
  have q3:Kj2 (s,(a:Int),1)=_:=Ksd h ha l1
  have q4:Kj2 (s,0,(a:Int))=_:=Ksd h l0 ha
  have q5:Kj2 (s,(a:Int),0)=_:=Ksd h ha l0
  have z1:(((ti s n 0 a:Nat):Int) != 0)=(ti s n 0 a != 0):=Ksf _ 0
  have z2:(((ti s n a 0:Nat):Int) != 0)=(ti s n a 0 != 0):=Ksf _ 0
  rw [show ((0:Nat):Int)=0 from rfl] at hl
  rw [h.size,Ks0 (by omega),if_pos rfl,q1,q2,q3,q4,q5,iLe h ha ha,hl]
  have ih:=ih (a + 1) (by omega)
  rw [Krz (by omega),List.range'_succ,List.all_cons]
  generalize ((a + 1:Nat):Int)=M at ih ⊢
  generalize (List.range' (a + 1) k).all (fun a=>Ksg s n a && (List.range' 0 n).all fun b=>Kst s n a b && (List.range' 0 n).all fun c=>Ksh s n a b c)=r at ih ⊢
  simp only [bs,Ksf,z1,z2]
  cases h1:(pl s n 0 a == a) <;> cases h2:(ti s n 1 a == a) <;> cases h3:(ti s n a 1 == a) <;> cases h4:(ti s n 0 a == 0) <;> cases h5:(ti s n a 0 == 0) <;> cases h6:le s n a a <;> cases h7:(List.range' 0 n).all (fun b=>Kst s n a b && (List.range' 0 n).all fun c=>Ksh s n a b c) <;> cases r <;> simp only [Ksg,bne,h1,h2,h3,h4,h5,h6,h7,ih,bs,Bool.not_true,Bool.not_false,Bool.true_and,Bool.false_and,Bool.and_true,Bool.and_false,if_true,if_false,Bool.false_eq_true]
end
theorem Kt3 {α:Type} {l r:List α} {x:α} {i:Nat} (h:l.drop i=x :: r):i < l.length∧idx l (i:Int)=some x∧l.drop (i + 1)=r:=by
 have hi:i < l.length:=by
  rcases Nat.lt_or_ge i l.length with h' | h'
  ·exact h'
  ·rw [List.drop_eq_nil_of_le h'] at h; cases h
 have e:=List.drop_eq_getElem_cons hi
 rw [h] at e
 obtain ⟨e1,e2⟩:=List.cons.inj e
 exact ⟨hi,by rw [Kry hi,e1],e2.symm⟩
theorem Kt4 {α:Type} {l:List α} {i:Nat} (h:l.drop i=[]):l.length ≤ i:=by
 rcases Nat.lt_or_ge i l.length with h' | h'
 ·rw [List.drop_eq_getElem_cons h'] at h; cases h
 ·exact h'
def Kt5 (c:Int):Bool:=inB c 3 18 || c == 35
def Kt6 (c:Int):Bool:=inB c 19 34 || c == 36
def Kt7 (c:Int):Int:=if c == 0 then 0 else if c == 1 || c == 2 || Kt5 c then 2 else if Kt6 c then 1 else -1
theorem Kt8 (c:Int):Ked c=some (Kt5 c):=by
 unfold Ked Kt5
 simp only [sIn,bs]
 cases inB c 3 18 <;> rfl
theorem Kt9 (c:Int):Keg c=some (Kt6 c):=by
 unfold Keg Kt6
 simp only [sIn,bs]
 cases inB c 19 34 <;> rfl
theorem Kta (c:Int):Kej c=some (Kt7 c):=by
 unfold Kej Kt7
 simp only [Kt8,Kt9,bs]
 cases c == 0 <;> cases c == 1 <;> cases c == 2 <;> cases Kt5 c <;> cases Kt6 c <;> rfl
theorem Ktb (c:Int):(c=0∧Kt7 c=0)∨((c=1∨c=2∨(3 ≤ c∧c ≤ 18)∨c=35)∧Kt7 c=2)∨(((19 ≤ c∧c ≤ 34)∨c=36)∧Kt7 c=1)∨((c < 0∨36 < c)∧Kt7 c=-1):=by
 unfold Kt7 Kt5 Kt6 inB
 by_cases h0:c=0
 ·left; subst h0; exact ⟨rfl,rfl⟩
 ·right
  have e0:(c == 0)=false:=by simpa using h0
  by_cases h1:c=1∨c=2∨(3 ≤ c∧c ≤ 18)∨c=35
  ·left
   refine ⟨h1,?_⟩
   have:(c == 1 || c == 2 || (decide (c ≥ 3) && decide (c ≤ 18) || c == 35))=true:=by
    simp only [Bool.or_eq_true,Bool.and_eq_true,beq_iff_eq,decide_eq_true_eq]; omega
   rw [e0,this]; rfl
  ·right
   have q:(c == 1 || c == 2 || (decide (c ≥ 3) && decide (c ≤ 18) || c == 35))=false:=by
    rw [Bool.eq_false_iff]; intro h
    simp only [Bool.or_eq_true,Bool.and_eq_true,beq_iff_eq,decide_eq_true_eq] at h; omega
   rw [e0,q]
   by_cases h2:(19 ≤ c∧c ≤ 34)∨c=36
   ·left
    refine ⟨h2,?_⟩
    have:(decide (c ≥ 19) && decide (c ≤ 34) || c == 36)=true:=by
     simp only [Bool.or_eq_true,Bool.and_eq_true,beq_iff_eq,decide_eq_true_eq]; omega
    rw [this]; rfl
   ·right
    refine ⟨by omega,?_⟩
    have:(decide (c ≥ 19) && decide (c ≤ 34) || c == 36)=false:=by
     rw [Bool.eq_false_iff]; intro h
     simp only [Bool.or_eq_true,Bool.and_eq_true,beq_iff_eq,decide_eq_true_eq] at h; omega
    rw [this]; rfl
def Ktc (c:Int):Int × Int :=
 if inB c 0 2 then (c,-1) else if inB c 3 18 then (3,c - 3) else if inB c 19 34 then (4,c - 19) else if c == 35 then (3,-1) else if c == 36 then (4,-1) else (5,-1)
theorem Ktd (c:Int):Kkb c=some (Ktc c):=by
 unfold Kkb Ktc
 simp only [iIn,bs]
 cases h1:inB c 0 2
 ·cases h2:inB c 3 18
  ·cases h3:inB c 19 34
   ·cases c == 35 <;> cases c == 36 <;> rfl
   ·simp only [inB,Bool.and_eq_true,decide_eq_true_eq] at h3
    simp only [Bool.false_eq_true,if_false,if_true]
    rw [Krx (by omega) (by omega)]
  ·simp only [inB,Bool.and_eq_true,decide_eq_true_eq] at h2
   simp only [Bool.false_eq_true,if_false,if_true]
   rw [Krx (by omega) (by omega)]
 ·rfl
theorem Kte (c:Int):(c=0∧Ktc c=(0,-1))∨(c=1∧Ktc c=(1,-1))∨(c=2∧Ktc c=(2,-1))∨((3 ≤ c∧c ≤ 18)∧Ktc c=(3,c - 3))∨(c=35∧Ktc c=(3,-1)) ∨
  ((19 ≤ c∧c ≤ 34)∧Ktc c=(4,c - 19))∨(c=36∧Ktc c=(4,-1))∨((c < 0∨36 < c)∧Ktc c=(5,-1)):=by
 have inT:∀ lo hi,lo ≤ c→c ≤ hi→inB c lo hi=true:=fun lo hi h1 h2=>by simp only [inB,Bool.and_eq_true,decide_eq_true_eq]; omega
 have inF:∀ lo hi,(c < lo∨hi < c)→inB c lo hi=false:=fun lo hi h=>by rw [Bool.eq_false_iff]; intro h'; simp only [inB,Bool.and_eq_true,decide_eq_true_eq] at h'; omega
 unfold Ktc
 by_cases h0:0 ≤ c∧c ≤ 2
 ·rw [inT 0 2 h0.1 h0.2]
  have:c=0∨c=1∨c=2:=by omega
  rcases this with rfl | rfl | rfl <;> simp
 ·rw [inF 0 2 (by omega)]
  by_cases h1:3 ≤ c∧c ≤ 18
  ·rw [inT 3 18 h1.1 h1.2]
   exact .inr (.inr (.inr (.inl ⟨h1,rfl⟩)))
  ·rw [inF 3 18 (by omega)]
   by_cases h2:19 ≤ c∧c ≤ 34
   ·rw [inT 19 34 h2.1 h2.2]
    exact .inr (.inr (.inr (.inr (.inr (.inl ⟨h2,rfl⟩)))))
   ·rw [inF 19 34 (by omega)]
    by_cases h3:c=35
    ·subst h3; simp
    ·by_cases h4:c=36
     ·subst h4; simp
     ·have e3:(c == 35)=false:=by simpa using h3
      have e4:(c == 36)=false:=by simpa using h4
      rw [e3,e4]
      refine .inr (.inr (.inr (.inr (.inr (.inr (.inr ⟨by omega,rfl⟩))))))
def skip:Nat→List Int→Option (List Int)
 | 0,l=>some l
 | _ + 1,[]=>none
 | m + 1,c :: l=>if Kt7 c=-1 then none else skip (m + (Kt7 c).toNat) l
theorem Ktf (l:List Int):skip 0 l=some l:=by cases l <;> rfl
theorem Ktg (m:Nat):skip (m + 1) []=none:=rfl
theorem Kth (m:Nat) (c:Int) (l:List Int):skip (m + 1) (c :: l)=if Kt7 c=-1 then none else skip (m + (Kt7 c).toNat) l:=rfl
theorem Kti (l:List Int):∀ (m k:Nat),skip (m + k) l=(skip m l).bind (skip k):=by
 induction l with
 | nil =>
  intro m k
  cases m with
  | zero=>rw [Nat.zero_add,Ktf]; rfl
  | succ m=>rw [show m + 1 + k=(m + k) + 1 by omega,Ktg,Ktg]; rfl
 | cons c l ih =>
  intro m k
  cases m with
  | zero=>rw [Nat.zero_add,Ktf]; rfl
  | succ m =>
   rw [show m + 1 + k=(m + k) + 1 by omega,Kth,Kth]
   by_cases h:Kt7 c=-1
   ·rw [if_pos h,if_pos h]; rfl
   ·rw [if_neg h,if_neg h,← ih]; congr 1; omega
theorem Ktj (l:List Int):∀ (m:Nat) (r:List Int),skip m l=some r→∃ p,l=p ++ r∧m ≤ p.length:=by
 induction l with
 | nil =>
  intro m r h
  cases m with
  | zero=>rw [Ktf] at h; cases h; exact ⟨[],rfl,Nat.le_refl _⟩
  | succ m=>rw [Ktg] at h; cases h
 | cons c l ih =>
  intro m r h
  cases m with
  | zero=>rw [Ktf] at h; cases h; exact ⟨[],rfl,Nat.le_refl _⟩
  | succ m =>
   rw [Kth] at h
   by_cases hk:Kt7 c=-1
   ·rw [if_pos hk] at h; cases h
   ·rw [if_neg hk] at h
    obtain ⟨p,e,hp⟩:=ih _ _ h
    exact ⟨c :: p,by rw [e]; rfl,by simp; omega⟩
def Ktk (ty:List Int) (m i:Nat):Int:=match skip m (ty.drop i) with | some r=>((ty.length - r.length:Nat):Int) | none=>-1
theorem Ktl (ty:List Int) (hty:ty.length ≤ 1099511627776):∀ (l:List Int) (i m:Nat),ty.drop i=l→m ≤ 1099511627776 + 2 * i→∃ x,Ken (ty,((m + 1:Nat):Int),(i:Int))=some x∧(match x with | .inl ()=>-1 | .inr r=>r)=Ktk ty (m + 1) i:=by
 intro l
 induction l with
 | nil =>
  intro i m hl hm
  rw [Ken.eq_def]
  simp only
  rw [Ks1 (Kt4 hl)]
  exact ⟨.inl (),rfl,by unfold Ktk; rw [hl,Ktg]⟩
 | cons c l ih =>
  intro i m hl hm
  obtain ⟨hi,hx,hd⟩:=Kt3 hl
  have hi2:(i:Int) < 1099511627776:=by omega
  rw [Ken.eq_def]
  simp only
  rw [Ks0 hi,if_pos rfl,hx,bs,Kta,bs]
  have he:Ktk ty (m + 1) i=(match (if Kt7 c=-1 then none else skip (m + (Kt7 c).toNat) l) with | some r=>((ty.length - r.length:Nat):Int) | none=>-1):=by
   unfold Ktk; rw [hl,Kth]
  rw [he]
  by_cases hk:Kt7 c=-1
  ·rw [if_pos hk,hk]
   exact ⟨.inr (-1),rfl,rfl⟩
  ·rw [if_neg hk]
   have hk0:0 ≤ Kt7 c∧Kt7 c ≤ 2:=by rcases Ktb c with h | h | h | h <;> omega
   obtain ⟨k,hkk⟩:∃ k:Nat,Kt7 c=(k:Int):=⟨(Kt7 c).toNat,by omega⟩
   rw [decide_eq_false (by omega),if_neg (by decide),hkk,Int.toNat_natCast]
   rw [Krx (x:=((m + 1:Nat):Int) - 1) (by omega) (by omega),show ((m + 1:Nat):Int) - 1=(m:Int) by omega,Krx (x:=(m:Int) + (k:Int)) (by omega) (by omega),Krz (by omega)]
   by_cases h0:m + k=0
   ·rw [show ((m:Int) + (k:Int) == 0)=true by simp; omega,if_pos rfl,h0,Ktf]
    refine ⟨_,rfl,?_⟩
    have:l.length=ty.length - (i + 1):=by rw [← hd,List.length_drop]
    simp only
    omega
   ·rw [show ((m:Int) + (k:Int) == 0)=false by simp; omega,if_neg (by decide)]
    obtain ⟨q,hq⟩:∃ q,m + k=q + 1:=⟨m + k - 1,by omega⟩
    have:=ih (i + 1) q hd (by omega)
    rw [show (m:Int) + (k:Int)=((q + 1:Nat):Int) by omega]
    obtain ⟨x,h1,h2⟩:=this
    exact ⟨x,h1,by rw [h2,hq]; unfold Ktk; rw [hd]⟩
theorem Ktm (ty:List Int) (hty:ty.length ≤ 1099511627776) (i:Nat) (hi:i ≤ ty.length):Keq (ty,(i:Int))=some (Ktk ty 1 i):=by
 unfold Keq
 obtain ⟨x,h1,h2⟩:=Ktl ty hty _ i 0 rfl (by omega)
 simp only
 rw [show (1:Int)=((0 + 1:Nat):Int) from rfl,h1,bs]
 rw [← h2]
 cases x <;> rfl
theorem Ktn (ty:List Int) (i:Nat) (hi:i ≤ ty.length):Ktk ty 2 i=(if Ktk ty 1 i=-1 then -1 else Ktk ty 1 (Ktk ty 1 i).toNat):=by
 unfold Ktk
 rw [show 2=1 + 1 from rfl,Kti]
 cases h:skip 1 (ty.drop i) with
 | none=>simp
 | some r =>
  obtain ⟨p,hp,hl⟩:=Ktj _ _ _ h
  have hlen:ty.length - i=p.length + r.length:=by rw [← List.length_drop,hp,List.length_append]
  have:ty.drop (ty.length - r.length)=r:=by
   have e:ty.drop (ty.length - r.length)=(ty.drop i).drop p.length:=by rw [List.drop_drop]; congr 1; omega
   rw [e,hp,List.drop_left]
  simp only [Option.bind_some]
  rw [if_neg (by omega),Int.toNat_natCast,this]
theorem Kto (ty:List Int) (hty:ty.length ≤ 1099511627776):∀ (d i:Nat),ty.length - i=d→Kke (ty,(i:Int))=some (Ktk ty 1 i):=by
 intro d
 induction d using Nat.strongRecOn with
 | ind d ih =>
  intro i hd
  rw [Kke.eq_def]
  simp only
  rw [decide_eq_false (by omega:¬ (i:Int) < 0)]
  simp only [Bool.false_eq_true,if_false,bs]
  by_cases hi:i < ty.length
  ·rw [decide_eq_false (by omega),if_neg (by decide),Kry hi,bs,Ktd,bs]
   have hdr:=List.drop_eq_getElem_cons hi
   have he:∀ k:Nat,Kt7 ty[i]=(k:Int)→Ktk ty 1 i=Ktk ty k (i + 1):=fun k hk=>by
    unfold Ktk
    rw [hdr,show 1=0 + 1 from rfl,Kth,hk,if_neg (by omega),Int.toNat_natCast,Nat.zero_add]
   have hn:Kt7 ty[i]=-1→Ktk ty 1 i=-1:=fun hk=>by
    unfold Ktk
    rw [hdr,show 1=0 + 1 from rfl,Kth,if_pos hk]
   have i1:=ih (ty.length - (i + 1)) (by omega) (i + 1) rfl
   have hz:∀ i:Nat,i ≤ ty.length→Ktk ty 0 i=(i:Int):=fun i hi=>by unfold Ktk; rw [Ktf]; simp only [List.length_drop]; omega
   rw [Krz (by omega)]
   have two:Kt7 ty[i]=2→((Kke (ty,((i + 1:Nat):Int))) >>= fun r_11_4=>(Kke (ty,r_11_4)) >>= fun r_11_5=>some r_11_5)=some (Ktk ty 1 i):=fun hk=>by
    rw [i1,bs,he 2 hk,Ktn ty (i + 1) (by omega)]
    by_cases h1:Ktk ty 1 (i + 1)=-1
    ·rw [h1,if_pos rfl,Kke.eq_def]; rfl
    ·rw [if_neg h1]
     obtain ⟨e,hee,hlo⟩:∃ e:Nat,Ktk ty 1 (i + 1)=(e:Int)∧i + 1 < e:=by
      unfold Ktk at h1 ⊢
      cases hs:skip 1 (ty.drop (i + 1)) with
      | none=>rw [hs] at h1; exact absurd rfl h1
      | some r =>
       obtain ⟨p,hp,hl⟩:=Ktj _ _ _ hs
       have hlen:ty.length - (i + 1)=p.length + r.length:=by rw [← List.length_drop,hp,List.length_append]
       exact ⟨_,rfl,by omega⟩
     rw [hee,Int.toNat_natCast,ih (ty.length - e) (by omega) e rfl,bs]
   rcases Kte ty[i] with ⟨h,e⟩ | ⟨h,e⟩ | ⟨h,e⟩ | ⟨h,e⟩ | ⟨h,e⟩ | ⟨h,e⟩ | ⟨h,e⟩ | ⟨h,e⟩ <;> rw [e] <;> simp only []
   ·have hk:Kt7 ty[i]=0:=by rcases Ktb ty[i] with h | h | h | h <;> omega
    rw [if_pos (by rfl),he 0 hk,hz _ (by omega)]
   ·have hk:Kt7 ty[i]=2:=by rcases Ktb ty[i] with h | h | h | h <;> omega
    exact two hk
   ·have hk:Kt7 ty[i]=2:=by rcases Ktb ty[i] with h | h | h | h <;> omega
    exact two hk
   ·have hk:Kt7 ty[i]=2:=by rcases Ktb ty[i] with h | h | h | h <;> omega
    exact two hk
   ·have hk:Kt7 ty[i]=2:=by rcases Ktb ty[i] with h | h | h | h <;> omega
    exact two hk
   ·have hk:Kt7 ty[i]=1:=by rcases Ktb ty[i] with h | h | h | h <;> omega
    rw [he 1 hk,if_neg (by decide),if_pos (by rfl),i1,bs]
   ·have hk:Kt7 ty[i]=1:=by rcases Ktb ty[i] with h | h | h | h <;> omega
    rw [he 1 hk,if_neg (by decide),if_pos (by rfl),i1,bs]
   ·have hk:Kt7 ty[i]=-1:=by rcases Ktb ty[i] with h | h | h | h <;> omega
    rw [hn hk]; rfl
  ·rw [decide_eq_true (by omega),if_pos rfl]
   unfold Ktk
   rw [List.drop_eq_nil_of_le (by omega),Ktg]
def wtB (ty:List Int):Bool:=decide (ty.length ≤ 40) && (skip 1 ty == some [])
theorem Ktp (ty:List Int):(Ktk ty 1 0 == (ty.length:Int))=(skip 1 ty == some []):=by
 unfold Ktk
 rw [List.drop_zero]
 cases h:skip 1 ty with
 | none=>simp
 | some r =>
  obtain ⟨p,hp,hl⟩:=Ktj _ _ _ h
  have hlen:ty.length=p.length + r.length:=by rw [hp,List.length_append]
  cases r with
  | nil=>simp
  | cons x xs =>
   simp only [List.length_cons] at hlen ⊢
   simp
   omega
theorem Ktq (ty:List Int) (hty:ty.length ≤ 1099511627776):Kq2 ty=some (wtB ty):=by
 unfold Kq2 wtB
 by_cases h:ty.length ≤ 40
 ·rw [decide_eq_true (by omega:(ty.length:Int) ≤ 40),if_pos rfl,show (0:Int)=((0:Nat):Int) from rfl,Ktm ty hty 0 (by omega),bs,Ktp,decide_eq_true h]
  cases hs:skip 1 ty == some [] with
  | false=>rfl
  | true =>
   have:0 < ty.length:=by
    rcases ty with _ | ⟨c,l⟩
    ·rw [show skip 1 []=none from rfl] at hs; cases hs
    ·simp
   rw [if_pos rfl,decide_eq_true (by omega:(ty.length:Int) > ((0:Nat):Int))]; rfl
 ·rw [decide_eq_false (by omega:¬ (ty.length:Int) ≤ 40),decide_eq_false h]; rfl
theorem Ktr (ty:List Int) (hty:ty.length ≤ 1099511627776):Kkh ty=some (wtB ty):=by
 unfold Kkh wtB
 rw [iIn,bs]
 by_cases h:ty.length ≤ 40
 ·rw [decide_eq_true h]
  by_cases h1:1 ≤ ty.length
  ·have:inB (ty.length:Int) 1 40=true:=by simp only [inB,Bool.and_eq_true,decide_eq_true_eq]; omega
   rw [this,if_pos rfl,show (0:Int)=((0:Nat):Int) from rfl,Kto ty hty _ 0 rfl,bs,Ktp]; rfl
  ·have:inB (ty.length:Int) 1 40=false:=by rw [Bool.eq_false_iff]; intro h'; simp only [inB,Bool.and_eq_true,decide_eq_true_eq] at h'; omega
   have e:ty=[]:=List.length_eq_zero_iff.1 (by omega)
   rw [this,e]; rfl
 ·have:inB (ty.length:Int) 1 40=false:=by rw [Bool.eq_false_iff]; intro h'; simp only [inB,Bool.and_eq_true,decide_eq_true_eq] at h'; omega
  rw [this,decide_eq_false h]; rfl
def Kts (c:Int):Int:=if 35 ≤ c then -1 else if 19 ≤ c then c - 19 else c - 3
def Ktt (size:Int) (closed:Bool) (c:Int):Bool:=!(decide (Kt7 c > 0) && decide (c > 2) && (decide (Kts c ≥ size) || closed && decide (Kts c < 0)))
theorem Ktu {c:Int} (h:Kt7 c > 0):Kez c=some (Kts c):=by
 have:0 ≤ c∧c ≤ 36:=by rcases Ktb c with h | h | h | h <;> omega
 unfold Kez Kts
 by_cases h1:35 ≤ c
 ·rw [decide_eq_true (by omega:c ≥ 35),if_pos rfl,if_pos h1]
 ·rw [decide_eq_false (by omega:¬ c ≥ 35),if_neg (by decide),if_neg h1]
  by_cases h2:19 ≤ c
  ·rw [decide_eq_true (by omega:c ≥ 19),if_pos rfl,if_pos h2,Krx (by omega) (by omega)]
  ·rw [decide_eq_false (by omega:¬ c ≥ 19),if_neg (by decide),if_neg h2,Krx (by omega) (by omega)]
theorem Ktv (ty:List Int) (hty:ty.length ≤ 1099511627776) (size:Int) (cl:Bool):∀ (l:List Int) (i:Nat),ty.drop i=l→Kq7 (ty,size,cl,(i:Int))=some (if l.all (Ktt size cl) then .inl () else .inr false):=by
 intro l
 induction l with
 | nil =>
  intro i hl
  rw [Kq7.eq_def]
  simp only
  rw [Ks1 (Kt4 hl)]; rfl
 | cons c l ih =>
  intro i hl
  obtain ⟨hi,hx,hd⟩:=Kt3 hl
  rw [Kq7.eq_def]
  simp only
  rw [Ks0 hi,if_pos rfl,hx,bs,bs,Kta,bs,Krz (by omega)]
  have ih:=ih (i + 1) hd
  generalize ((i + 1:Nat):Int)=M at ih ⊢
  rw [List.all_cons]
  unfold Ktt at ih ⊢
  by_cases hk:Kt7 c > 0
  ·simp only [bs,Ktu hk]
   rw [decide_eq_true hk]
   generalize Kts c=g at ih ⊢
   cases decide (c > 2) <;> cases decide (g ≥ size) <;> cases cl <;> cases decide (g < 0) <;> simp [bs,ih]
  ·rw [decide_eq_false hk]; simp [bs,ih]
theorem Ktw (ty:List Int) (hty:ty.length ≤ 1099511627776) (size:Int) (cl:Bool):Kqa (ty,size,cl)=some (ty.all (Ktt size cl)):=by
 unfold Kqa
 simp only
 rw [show (0:Int)=((0:Nat):Int) from rfl,Ktv ty hty size cl _ 0 rfl,List.drop_zero,bs]
 cases ty.all (Ktt size cl) <;> rfl
theorem Ktx {α β:Type} {a:Option α} {f:α→Option β} {x:α} (h:a=some x):(a >>= f)=f x:=by rw [h]; rfl
mutual
def tsz:K01→Nat
 | ⟨_,_,_,ks⟩=>1 + Kty ks
def Kty:List K01→Nat
 | []=>0
 | k :: ks=>tsz k + Kty ks
end
mutual
def tms:K01→Nat
 | ⟨_,_,ty,ks⟩=>ty.length + ks.length + Ktz ks
def Ktz:List K01→Nat
 | []=>0
 | k :: ks=>tms k + Ktz ks
end
theorem Ku0 (t:K01):tsz t=1 + Kty t.fKids:=by cases t; rw [tsz]
def Ku1 (left n:Nat):Int:=if n ≤ left then ((left - n:Nat):Int) else -1
theorem Ku2 {left n:Nat} (h:n ≤ left):Ku1 left n=((left - n:Nat):Int):=if_pos h
theorem Ku3 {left n:Nat} (h:¬ n ≤ left):Ku1 left n=-1:=if_neg h
theorem Ku4 (t:K01) (i:Int):Khn (t,-1,i)=some (-1):=by
 rw [Khn.eq_def]
 simp only
 cases decide (i < (t.fKids.length:Int)) <;> rfl
mutual
theorem Ku5:∀ (t:K01) (left:Nat),tms t ≤ 1099511627776→left ≤ 1048576→Khm (t,(left:Int))=some (Ku1 left (tsz t))
 | ⟨op,N,ty,ks⟩,left,ht,hl=>by
  rw [tms] at ht
  rw [Khm.eq_def,tsz]
  simp only
  rcases left with _ | l
  ·rw [show wr (((0:Nat):Int) - 1)=-1 from Krx (by omega) (by omega),Ku4,bs,Ku3 (by omega)]
  ·have h:=Ku6 ks ⟨op,N,ty,ks⟩ 0 l rfl (by simp only; omega) (by omega) (by omega)
   rw [Krx (by omega) (by omega),show ((l + 1:Nat):Int) - 1=(l:Int) by omega,show (0:Int)=((0:Nat):Int) from rfl,h,bs]
   unfold Ku1
   by_cases q:Kty ks ≤ l
   ·rw [if_pos q,if_pos (by omega),show l + 1 - (1 + Kty ks)=l - Kty ks by omega]
   ·rw [if_neg q,if_neg (by omega)]
theorem Ku6:∀ (ks:List K01) (t:K01) (i left:Nat),t.fKids.drop i=ks→t.fKids.length ≤ 1099511627776→Ktz ks ≤ 1099511627776→left ≤ 1048576→Khn (t,(left:Int),(i:Int))=some (Ku1 left (Kty ks))
 | [],t,i,left,hd,hk,ht,hl=>by
  rw [Khn.eq_def,Kty]
  simp only
  rw [Ks1 (Kt4 hd)]
  simp [bs,Ku1]
 | k :: ks,t,i,left,hd,hk,ht,hl=>by
  obtain ⟨hi,hx,hd'⟩:=Kt3 hd
  rw [Ktz] at ht
  rw [Khn.eq_def,Kty]
  simp only
  rw [Ks0 hi,if_pos rfl,bs,decide_eq_true (by omega:((left:Nat):Int) ≥ 0),if_pos rfl,hx,bs,Ku5 k left (by omega) hl,bs,Krz (by omega)]
  by_cases q:tsz k ≤ left
  ·rw [Ku2 q,Ku6 ks t (i + 1) (left - tsz k) hd' hk (by omega) (by omega)]
   unfold Ku1
   by_cases q2:Kty ks ≤ left - tsz k
   ·rw [if_pos q2,if_pos (by omega)]; congr 2; omega
   ·rw [if_neg q2,if_neg (by omega)]
  ·rw [Ku3 q,Ku4,Ku3 (by omega)]
end
def Ku7 (op:Int):Int:=if inB op 0 12 then ([0,0,2,3,2,2,1,1,3,1,2,1,2]:List Int).getD op.toNat 0 else -1
def Ku8 (op:Int):Bool:=op == 5 || op == 8 || op == 9 || op == 11 || op == 12
def Ku9 (op:Int):Bool:=op == 6 || op == 7 || op == 9
def Kua (op:Int):ByteArray:=([ByteArray.mk #[120],ByteArray.empty,ByteArray.mk #[97,100,100],ByteArray.mk #[105,102],ByteArray.mk #[112,97,105,114],ByteArray.mk #[115,112,108,105,116],ByteArray.mk #[108,101,102,116],
 ByteArray.mk #[114,105,103,104,116],ByteArray.mk #[99,97,115,101],ByteArray.mk #[102,117,110],ByteArray.mk #[97,112,112],ByteArray.mk #[98,111,120],ByteArray.mk #[111,112,101,110]]:List ByteArray).getD op.toNat ByteArray.empty
theorem Kub {op:Int} (h:inB op 0 12=true):op=0∨op=1∨op=2∨op=3∨op=4∨op=5∨op=6∨op=7∨op=8∨op=9∨op=10∨op=11∨op=12:=by
 simp only [inB,Bool.and_eq_true,decide_eq_true_eq] at h
 omega
theorem Kuc (op:Int):Kqk op=some (Ku7 op):=by
 unfold Kqk Ku7
 rw [sIn,bs]
 cases h:inB op 0 12
 ·rfl
 ·rcases Kub h with rfl | rfl | rfl | rfl | rfl | rfl | rfl | rfl | rfl | rfl | rfl | rfl | rfl <;> rfl
theorem Kud (op:Int):Kqn op=some (Ku8 op):=by
 unfold Kqn Ku8
 cases op == 5 <;> cases op == 8 <;> cases op == 9 <;> cases op == 11 <;> rfl
theorem Kue (op:Int):Kqq op=some (Ku9 op):=by
 unfold Kqq Ku9
 cases op == 6 <;> cases op == 7 <;> rfl
def Kuf (op:Int):K05 × Bool:=if inB op 0 12 then (K05.mk (Kua op) (Ku7 op) (Ku8 op) (Ku9 op),true) else (K05.mk ByteArray.empty 0 false false,false)
theorem Kug (op:Int):Kl7 op=some (Kuf op):=by
 unfold Kl7 Kuf
 rw [iIn,bs]
 cases h:inB op 0 12
 ·rfl
 ·rcases Kub h with rfl | rfl | rfl | rfl | rfl | rfl | rfl | rfl | rfl | rfl | rfl | rfl | rfl <;> rfl
def Kuh (op kid:Int):Nat:=if op == 5 && kid == 1 then 2 else if (op == 8 && decide (kid > 0)) || op == 9 || (op == 12 && kid == 1) then 1 else 0
theorem Kui (op kid:Int):Kuh op kid ≤ 2:=by unfold Kuh; split <;> (try split) <;> omega
theorem Kuj (op kid:Int):Kgl (op,kid)=some ((Kuh op kid:Nat):Int):=by
 unfold Kgl Kuh
 simp only
 generalize (op == 5)=b1
 generalize (op == 8)=b2
 generalize (op == 9)=b3
 generalize (op == 12)=b4
 generalize (kid == 1)=b5
 generalize decide (kid > 0)=b6
 cases b1 <;> cases b2 <;> cases b3 <;> cases b4 <;> cases b5 <;> cases b6 <;> rfl
theorem Kuk (op kid:Int):Kld (op,kid)=some ((Kuh op kid:Nat):Int):=by
 unfold Kld Kuh
 simp only
 generalize (op == 5)=b1
 generalize (op == 8)=b2
 generalize (op == 9)=b3
 generalize (op == 12)=b4
 generalize (kid == 1)=b5
 generalize decide (kid > 0)=b6
 cases b1 <;> cases b2 <;> cases b3 <;> cases b4 <;> cases b5 <;> cases b6 <;> rfl
def Kul (g:Int→Bool) (n:Int) (t:K01):Bool:=if t.fOp == 0 then inB t.fN 0 (n - 1) else if t.fOp == 1 then inB t.fN 0 2 else if Ku8 t.fOp then g t.fN else t.fN == 0
def Kum (y:List Int→Bool) (t:K01):Bool:=if Ku9 t.fOp then y t.fType else (t.fType.length:Int) == 0
def Kun (g:Int→Bool) (y:List Int→Bool) (n:Int) (t:K01):Bool:=inB t.fOp 0 12 && ((t.fKids.length:Int) == Ku7 t.fOp) && Kul g n t && Kum y t
mutual
def tOk (g:Int→Bool) (y:List Int→Bool):Nat→K01→Bool
 | n,⟨op,N,ty,ks⟩=>Kun g y (n:Int) ⟨op,N,ty,ks⟩ && Kuo g y op n 0 ks
def Kuo (g:Int→Bool) (y:List Int→Bool):Int→Nat→Nat→List K01→Bool
 | _,_,_,[]=>true
 | op,n,i,k :: ks=>tOk g y (n + Kuh op (i:Int)) k && Kuo g y op n (i + 1) ks
end
theorem Kup (g:Int→Bool) (y:List Int→Bool) (n:Nat) (t:K01):tOk g y n t=(Kun g y (n:Int) t && Kuo g y t.fOp n 0 t.fKids):=by cases t; rw [tOk]
def gN (size:Int) (cl:Bool) (x:Int):Bool:=!(decide (x ≥ size) || decide (x < -1) || cl && decide (x < 0))
def yN (size:Int) (cl:Bool) (ty:List Int):Bool:=wtB ty && ty.all (Ktt size cl)
theorem Kuq (t:K01) (n:Nat) (size:Int) (cl:Bool) (hty:t.fType.length ≤ 1099511627776) (hn:n ≤ 35184372088832):Kqw (t,(n:Int),size,cl)=some (Kun (gN size cl) (yN size cl) (n:Int) t):=by
 unfold Kqw Kun
 simp only
 rw [Kuc,bs]
 by_cases hk:(t.fKids.length:Int)=Ku7 t.fOp
 ·have hop:inB t.fOp 0 12=true:=by
   cases h:inB t.fOp 0 12
   ·unfold Ku7 at hk; rw [h] at hk; simp at hk
   ·rfl
  rw [show ((t.fKids.length:Int) != Ku7 t.fOp)=false by rw [hk]; exact Ks2,if_neg (by decide),show ((t.fKids.length:Int) == Ku7 t.fOp)=true by rw [hk]; simp,hop]
  refine (Ktx (x:=if Kul (gN size cl) (n:Int) t then .inl () else .inr false) ?_).trans ?_
  ·unfold Kul gN
   rw [sIn,Krx (by omega) (by omega),sIn,Kud]
   simp only [bs]
   generalize inB t.fN 0 ((n:Int) - 1)=b1
   generalize inB t.fN 0 2=b2
   generalize Ku8 t.fOp=b3
   rw [show (t.fN != 0)=!(t.fN == 0) from rfl]
   generalize (t.fN == 0)=b4
   generalize decide (t.fN ≥ size)=b5
   generalize decide (t.fN < -1)=b6
   generalize decide (t.fN < 0)=b7
   generalize (t.fOp == 0)=b8
   generalize (t.fOp == 1)=b9
   cases b8
   ·cases b9
    ·cases b3
     ·cases b4 <;> rfl
     ·cases b5 <;> cases b6 <;> cases cl <;> cases b7 <;> rfl
    ·cases b2 <;> rfl
   ·cases b1 <;> rfl
  ·cases Kul (gN size cl) (n:Int) t
   ·simp
   ·unfold Kum yN
    simp only [if_true]
    rw [Kue,bs]
    cases Ku9 t.fOp
    ·simp
    ·simp only [if_true]
     rw [Ktq _ hty,Ktw _ hty]
     cases wtB t.fType <;> simp [bs]
 ·rw [show ((t.fKids.length:Int) != Ku7 t.fOp)=true by simpa using hk,if_pos rfl,show ((t.fKids.length:Int) == Ku7 t.fOp)=false by simpa using hk]
  simp
mutual
theorem Kur (size:Int) (cl:Bool):∀ (t:K01) (n:Nat),tms t ≤ 1099511627776→n + 2 * tms t ≤ 35184372088832→Kr0 (t,(n:Int),size,cl)=some (tOk (gN size cl) (yN size cl) n t)
 | ⟨op,N,ty,ks⟩,n,ht,hn=>by
  rw [tms] at ht hn
  rw [Kr0.eq_def,tOk]
  simp only
  rw [Kuq _ n size cl (by simp only; omega) (by omega),bs]
  cases hb:Kun (gN size cl) (yN size cl) (n:Int) ⟨op,N,ty,ks⟩
  ·rfl
  ·have h:=Kus size cl ks ⟨op,N,ty,ks⟩ n 0 rfl (by simp only; omega) (by omega) (by omega)
   rw [if_pos rfl,show (0:Int)=((0:Nat):Int) from rfl,h,bs]
   simp only
   cases Kuo (gN size cl) (yN size cl) op n 0 ks <;> rfl
theorem Kus (size:Int) (cl:Bool):∀ (ks:List K01) (t:K01) (n i:Nat),t.fKids.drop i=ks→t.fKids.length ≤ 1099511627776→Ktz ks ≤ 1099511627776→n + 2 * (ks.length + Ktz ks) ≤ 35184372088832 →
  Kr1 (t,(n:Int),size,cl,(i:Int))=some (if Kuo (gN size cl) (yN size cl) t.fOp n i ks then .inl () else .inr false)
 | [],t,n,i,hd,hk,ht,hn=>by
  rw [Kr1.eq_def,Kuo]
  simp only
  rw [Ks1 (Kt4 hd)]; rfl
 | k :: ks,t,n,i,hd,hk,ht,hn=>by
  obtain ⟨hi,hx,hd'⟩:=Kt3 hd
  rw [Ktz] at ht hn
  rw [List.length_cons] at hn
  have ha:=Kui t.fOp (i:Int)
  rw [Kr1.eq_def,Kuo]
  simp only
  rw [Ks0 hi,if_pos rfl,hx,bs,Kuj,bs,Krx (by omega) (by omega),show (n:Int) + ((Kuh t.fOp (i:Int):Nat):Int)=((n + Kuh t.fOp (i:Int):Nat):Int) by omega]
  rw [Kur size cl k (n + Kuh t.fOp (i:Int)) (by omega) (by omega),bs,Krz (by omega)]
  cases tOk (gN size cl) (yN size cl) (n + Kuh t.fOp (i:Int)) k
  ·rfl
  ·rw [if_pos rfl,Kus size cl ks t n (i + 1) hd' hk (by omega) (by omega),Bool.true_and]
end
def Kut (ok:Bool) (nodes sz:Nat):Int:=if ok && decide (nodes + sz ≤ 400) then ((nodes + sz:Nat):Int) else 401
mutual
def tln:K01→Prop
 | ⟨_,N,ty,ks⟩=>ty.length ≤ 9223372036854775807∧ks.length ≤ 9223372036854775807∧Kuu ks∧(-9223372036854775808 ≤ N∧N ≤ 9223372036854775807)
def Kuu:List K01→Prop
 | []=>True
 | k :: ks=>tln k∧Kuu ks
end
theorem Kuv (l:List Int):∀ (m:Nat),skip m l=some []→∀ c ∈ l,0 ≤ c∧c ≤ 36:=by
 induction l with
 | nil=>intro m h c hc; cases hc
 | cons x l ih =>
  intro m h c hc
  cases m with
  | zero=>rw [Ktf] at h; cases h
  | succ m =>
   rw [Kth] at h
   by_cases hk:Kt7 x=-1
   ·rw [if_pos hk] at h; cases h
   ·rw [if_neg hk] at h
    rcases List.mem_cons.1 hc with rfl | hc
    ·rcases Ktb c with q | q | q | q <;> omega
    ·exact ih _ h c hc
theorem Kuw {ty:List Int} (h:wtB ty=true):∀ c ∈ ty,0 ≤ c∧c ≤ 36:=by
 unfold wtB at h
 rw [Bool.and_eq_true,beq_iff_eq] at h
 exact Kuv ty 1 h.2
theorem Kux {ty:List Int} (h:wtB ty=true):ty.length ≤ 40:=by
 unfold wtB at h
 rw [Bool.and_eq_true,decide_eq_true_eq] at h
 exact h.1
theorem Kuy {g:Int→Bool} {y:List Int→Bool} {n:Nat} {t:K01} (h:tOk g y n t=true):Kun g y (n:Int) t=true∧Kuo g y t.fOp n 0 t.fKids=true:=by
 rw [Kup,Bool.and_eq_true] at h; exact h
theorem Kuz {g:Int→Bool} {n:Int} {t:K01} (h:Kun g wtB n t=true):(∀ c ∈ t.fType,0 ≤ c∧c ≤ 36)∧t.fType.length ≤ 40:=by
 unfold Kun Kum at h
 rw [Bool.and_eq_true] at h
 have h:=h.2
 cases hq:Ku9 t.fOp
 ·rw [hq] at h
  simp at h
  rw [h]; simp
 ·rw [hq,if_pos rfl] at h
  exact ⟨Kuw h,Kux h⟩
theorem Kv0 {n b:Nat} (h:n * b ≤ 140737488355328):Qdq n b=some ():=by unfold Qdq chk; rw [if_pos h]
theorem Kv1 {g:Int→Bool} {y:List Int→Bool} {n:Int} {t:K01} (h:Kun g y n t=true):inB t.fOp 0 12=true∧(t.fKids.length:Int)=Ku7 t.fOp:=by
 unfold Kun at h
 simp only [Bool.and_eq_true,beq_iff_eq] at h
 exact ⟨h.1.1.1,h.1.1.2⟩
theorem Kv2 (l:List Int) (h:l.length ≤ 1099511627776):Ket l=some l:=by
 unfold Ket
 rw [Kv0 (by simp only [List.length_nil]; omega),bs]
theorem Kv3 (l:List Int) (h:l.length ≤ 1099511627776):Kmq l=some l:=by
 unfold Kmq
 rw [Kv0 (by simp only [List.length_nil]; omega),bs]
structure Kv4 (s:K00) (n:Nat):Prop where
 size:s.fSize=(n:Int)
 lo:2 ≤ n
 hi:n ≤ 16
 lp:s.fPlus.length=n * n
 lt:s.fTimes.length=n * n
 lb:s.fBelow.length=n * n
def Kv5 (s:K00) (n i:Nat):Bool:=inB (s.fPlus.getD i 0) 0 ((n:Int) - 1) && inB (s.fTimes.getD i 0) 0 ((n:Int) - 1)
section
variable {s:K00} {n:Nat} (h:Kv4 s n)
include h
theorem nn:n * n ≤ 256:=Nat.le_trans (Nat.mul_le_mul h.hi h.hi) (by decide)
theorem Kv6 {i:Nat} (hi:i < n * n):idx s.fPlus (i:Int)=some (s.fPlus.getD i 0):=by
 have hl:i < s.fPlus.length:=by rw [h.lp]; exact hi
 rw [Kry hl,List.getD_eq_getElem?_getD,List.getElem?_eq_getElem hl]; rfl
theorem Kv7 {i:Nat} (hi:i < n * n):idx s.fTimes (i:Int)=some (s.fTimes.getD i 0):=by
 have hl:i < s.fTimes.length:=by rw [h.lt]; exact hi
 rw [Kry hl,List.getD_eq_getElem?_getD,List.getElem?_eq_getElem hl]; rfl
theorem Kv8:wr (s.fSize - 1)=(n:Int) - 1:=by
 have:=h.lo; have:=h.hi
 rw [h.size,Krx (by omega) (by omega)]
theorem Kv9:∀ (k i:Nat),i + k=n * n→Kbc (s,(i:Int))=some (if (List.range' i k).all (Kv5 s n) then .inl () else .inr false):=by
 have hn:=nn h
 intro k
 induction k with
 | zero =>
  intro i hm
  rw [Kbc.eq_def]
  simp only
  rw [h.lp,Ks1 (by omega)]
  rfl
 | succ k ih =>
  intro i hm
  rw [Kbc.eq_def]
  simp only
  rw [h.lp,Ks0 (by omega),if_pos rfl,Kv6 h (by omega),Kv7 h (by omega),Kv8 h]
  have ih:=ih (i + 1) (by omega)
  rw [Krz (by omega),List.range'_succ,List.all_cons]
  generalize ((i + 1:Nat):Int)=M at ih ⊢
  generalize (List.range' (i + 1) k).all (Kv5 s n)=r at ih ⊢
  simp only [bs,sIn]
  cases h1:inB (s.fPlus.getD i 0) 0 ((n:Int) - 1) <;> cases h2:inB (s.fTimes.getD i 0) 0 ((n:Int) - 1) <;> cases r <;> simp only [Kv5,h1,h2,ih,bs,Bool.not_true,Bool.not_false,Bool.true_and,Bool.false_and,Bool.and_true,Bool.and_false,if_true,if_false,Bool.false_eq_true]
theorem Kva:∀ (k i:Nat),i + k=n * n→Kjt (s,(i:Int))=some (if (List.range' i k).all (Kv5 s n) then .inl () else .inr false):=by
 have hn:=nn h
 intro k
 induction k with
 | zero =>
  intro i hm
  rw [Kjt.eq_def]
  simp only
  rw [h.lp,Ks1 (by omega)]
  rfl
 | succ k ih =>
  intro i hm
  rw [Kjt.eq_def]
  simp only
  rw [h.lp,Ks0 (by omega),if_pos rfl,Kv6 h (by omega),Kv7 h (by omega)]
  have ih:=ih (i + 1) (by omega)
  rw [Krz (by omega),List.range'_succ,List.all_cons]
  generalize ((i + 1:Nat):Int)=M at ih ⊢
  generalize (List.range' (i + 1) k).all (Kv5 s n)=r at ih ⊢
  have hh:∀ x,Kiw (s,x)=some (inB x 0 ((n:Int) - 1)):=fun x=>by
   unfold Kiw
   simp only
   rw [Kv8 h,iIn,bs]
  simp only [bs,hh]
  cases h1:inB (s.fPlus.getD i 0) 0 ((n:Int) - 1) <;> cases h2:inB (s.fTimes.getD i 0) 0 ((n:Int) - 1) <;> cases r <;> simp only [Kv5,h1,h2,ih,bs,Bool.not_true,Bool.not_false,Bool.true_and,Bool.false_and,Bool.and_true,Bool.and_false,if_true,if_false,Bool.false_eq_true]
theorem Kvb (he:(List.range' 0 (n * n)).all (Kv5 s n)=true):Tab s n:=by
 rw [List.all_eq_true] at he
 have hent:∀ i,i < n * n→Kv5 s n i=true:=fun i hi=>he i (by rw [List.mem_range'_1]; omega)
 refine ⟨h.size,h.lo,h.hi,h.lp,h.lt,h.lb,fun i hi=>?_,fun i hi=>?_⟩
 ·have:=hent i (by rw [← h.lp]; exact hi)
  simp only [Kv5,inB,Bool.and_eq_true,decide_eq_true_eq,List.getD_eq_getElem?_getD,List.getElem?_eq_getElem hi,Option.getD_some] at this
  omega
 ·have:=hent i (by rw [← h.lt]; exact hi)
  simp only [Kv5,inB,Bool.and_eq_true,decide_eq_true_eq,List.getD_eq_getElem?_getD,List.getElem?_eq_getElem hi,Option.getD_some] at this
  omega
end
def Kvc (s:K00):Bool:=inB s.fSize 2 16 && !((s.fPlus.length:Int) != (wr (s.fSize * s.fSize))) && !((s.fTimes.length:Int) != (wr (s.fSize * s.fSize))) && !((s.fBelow.length:Int) != (wr (s.fSize * s.fSize)))
theorem Kvd {s:K00} (h:Kvc s=true):Kv4 s s.fSize.toNat:=by
 unfold Kvc at h
 simp only [Bool.and_eq_true,Bool.not_eq_true',inB,decide_eq_true_eq,bne_eq_false_iff_eq] at h
 obtain ⟨⟨⟨⟨h1,h2⟩,h3⟩,h4⟩,h5⟩:=h
 obtain ⟨n,hn⟩:∃ n:Nat,s.fSize=(n:Int):=⟨s.fSize.toNat,by omega⟩
 rw [hn] at h1 h2 h3 h4 h5 ⊢
 have h256:n * n ≤ 256:=Nat.le_trans (Nat.mul_le_mul (by omega:n ≤ 16) (by omega:n ≤ 16)) (by decide)
 have e:(n:Int) * (n:Int)=((n * n:Nat):Int):=by simp
 rw [e] at h3 h4 h5
 generalize hm:n * n=m at *
 rw [Krx (by omega) (by omega)] at h3 h4 h5
 rw [Int.toNat_natCast]
 exact ⟨hn,by omega,by omega,by omega,by omega,by omega⟩
def Kve (s:K00):Bool:=Kvc s && (List.range' 0 (s.fSize.toNat * s.fSize.toNat)).all (Kv5 s s.fSize.toNat) && Ksw s s.fSize.toNat
theorem Kvf {s:K00} (h:Kve s=true):Tab s s.fSize.toNat:=by
 unfold Kve at h
 simp only [Bool.and_eq_true] at h
 exact Kvb (Kvd h.1.1) h.1.2
theorem Kvg (s:K00):Kct s=some (Kve s):=by
 unfold Kct Kbf Kve
 rw [sIn]
 cases hf:Kvc s with
 | false =>
  unfold Kvc at hf
  cases h1:inB s.fSize 2 16 <;> cases h2:((s.fPlus.length:Int) != (wr (s.fSize * s.fSize))) <;> cases h3:((s.fTimes.length:Int) != (wr (s.fSize * s.fSize))) <;> cases h4:((s.fBelow.length:Int) != (wr (s.fSize * s.fSize))) <;> simp_all [bs]
 | true =>
  have F:=Kvd hf
  have hl:=Kv9 F (s.fSize.toNat * s.fSize.toNat) 0 (by omega)
  rw [show ((0:Nat):Int)=0 from rfl] at hl
  unfold Kvc at hf
  simp only [Bool.and_eq_true,Bool.not_eq_true'] at hf
  obtain ⟨⟨⟨h1,h2⟩,h3⟩,h4⟩:=hf
  cases he:(List.range' 0 (s.fSize.toNat * s.fSize.toNat)).all (Kv5 s s.fSize.toNat) with
  | false=>rw [he] at hl; simp [bs,h1,h2,h3,h4,hl]
  | true =>
   have T:=Kvb F he
   have hl2:=Kt1 T s.fSize.toNat 0 (by omega)
   rw [show ((0:Nat):Int)=0 from rfl] at hl2
   rw [he] at hl
   have hm:(List.range' 0 s.fSize.toNat).all (fun a=>Ksg s s.fSize.toNat a && (List.range' 0 s.fSize.toNat).all fun b=>Kst s s.fSize.toNat a b && (List.range' 0 s.fSize.toNat).all fun c=>Ksh s s.fSize.toNat a b c)=Ksw s s.fSize.toNat:=rfl
   rw [hm] at hl2
   cases hs:Ksw s s.fSize.toNat <;> rw [hs] at hl2 <;> simp [bs,h1,h2,h3,h4,hl,hl2]
theorem Kvh (s:K00):Kk8 s=some (Kve s):=by
 unfold Kk8 Kve
 rw [iIn]
 cases hf:Kvc s with
 | false =>
  unfold Kvc at hf
  cases h1:inB s.fSize 2 16 <;> cases h2:((s.fPlus.length:Int) != (wr (s.fSize * s.fSize))) <;> cases h3:((s.fTimes.length:Int) != (wr (s.fSize * s.fSize))) <;> cases h4:((s.fBelow.length:Int) != (wr (s.fSize * s.fSize))) <;> simp_all [bs]
 | true =>
  have F:=Kvd hf
  have hl:=Kva F (s.fSize.toNat * s.fSize.toNat) 0 (by omega)
  rw [show ((0:Nat):Int)=0 from rfl] at hl
  unfold Kvc at hf
  simp only [Bool.and_eq_true,Bool.not_eq_true'] at hf
  obtain ⟨⟨⟨h1,h2⟩,h3⟩,h4⟩:=hf
  cases he:(List.range' 0 (s.fSize.toNat * s.fSize.toNat)).all (Kv5 s s.fSize.toNat) with
  | false=>rw [he] at hl; simp [bs,h1,h2,h3,h4,hl]
  | true =>
   have T:=Kvb F he
   have hl2:=Kt2 T s.fSize.toNat 0 (by omega)
   rw [show ((0:Nat):Int)=0 from rfl] at hl2
   rw [he] at hl
   have hm:(List.range' 0 s.fSize.toNat).all (fun a=>Ksg s s.fSize.toNat a && (List.range' 0 s.fSize.toNat).all fun b=>Kst s s.fSize.toNat a b && (List.range' 0 s.fSize.toNat).all fun c=>Ksh s s.fSize.toNat a b c)=Ksw s s.fSize.toNat:=rfl
   rw [hm] at hl2
   cases hs:Ksw s s.fSize.toNat <;> rw [hs] at hl2 <;> simp [bs,h1,h2,h3,h4,hl,hl2]
section
variable {s:K00} {n:Nat} (h:Tab s n)
include h
theorem Kvi:wr (s.fSize - 1)=(n:Int) - 1:=by
 have:=h.lo; have:=h.hi
 rw [h.size,Krx (by omega) (by omega)]
end
inductive Ty where
 | num
 | bin (c:Int) (a b:Ty)
 | un (c:Int) (a:Ty)
namespace Ty
def code:Ty→List Int
 | num=>[0]
 | bin c a b=>c :: (a.code ++ b.code)
 | un c a=>c :: a.code
def ok:Ty→Prop
 | num=>True
 | bin c a b=>Kt7 c=2∧a.ok∧b.ok
 | un c a=>Kt7 c=1∧a.ok
def kids:Ty→List Ty
 | num=>[]
 | bin _ a b=>[a,b]
 | un _ a=>[a]
def hd:Ty→Int
 | num=>0
 | bin c _ _=>c
 | un c _=>c
end Ty
def Kvj:List Ty→List Int
 | []=>[]
 | t :: l=>t.code ++ Kvj l
theorem Kvk (T:Ty):T.code=T.hd :: Kvj T.kids:=by cases T <;> simp [Ty.code,Ty.hd,Ty.kids,Kvj]
theorem Kvl (T:Ty):1 ≤ T.code.length:=by rw [Kvk]; simp
theorem Kvm (T:Ty):∀ (m:Nat) (l:List Int),T.ok→skip (m + 1) (T.code ++ l)=skip m l:=by
 induction T with
 | num =>
  intro m l _
  rw [Ty.code,List.singleton_append,Kth,show Kt7 0=0 from rfl,if_neg (by decide)]; rfl
 | bin c a b iha ihb =>
  intro m l h
  rw [Ty.code,List.cons_append,Kth,h.1,if_neg (by decide),List.append_assoc,show m + (2:Int).toNat=(m + 1) + 1 from rfl,iha _ _ h.2.1,ihb _ _ h.2.2]
 | un c a ih =>
  intro m l h
  rw [Ty.code,List.cons_append,Kth,h.1,if_neg (by decide),show m + (1:Int).toNat=m + 1 from rfl,ih _ _ h.2]
theorem Kvn (l:List Int):∀ (m:Nat) (r:List Int),skip m l=some r→∃ Ts:List Ty,Ts.length=m∧(∀ T ∈ Ts,T.ok)∧l=Kvj Ts ++ r:=by
 induction l with
 | nil =>
  intro m r h
  cases m with
  | zero=>rw [Ktf] at h; cases h; exact ⟨[],rfl,fun _ h=>(by cases h),rfl⟩
  | succ m=>rw [Ktg] at h; cases h
 | cons c l ih =>
  intro m r h
  cases m with
  | zero=>rw [Ktf] at h; cases h; exact ⟨[],rfl,fun _ h=>(by cases h),rfl⟩
  | succ m =>
   rw [Kth] at h
   by_cases hk:Kt7 c=-1
   ·rw [if_pos hk] at h; cases h
   ·rw [if_neg hk] at h
    obtain ⟨Ts,h1,h2,h3⟩:=ih _ _ h
    rcases Ktb c with ⟨q,e⟩ | ⟨q,e⟩ | ⟨q,e⟩ | ⟨q,e⟩
    ·subst q
     rw [e] at h1
     exact ⟨.num :: Ts,by simpa using h1,fun T hT=>by rcases List.mem_cons.1 hT with rfl | hT; exact trivial; exact h2 T hT,by rw [h3]; rfl⟩
    ·rw [e] at h1
     match Ts,h1 with
     | a :: b :: Ts,h1 =>
      refine ⟨.bin c a b :: Ts,by simpa using h1,fun T hT=>?_,by rw [h3]; simp [Kvj,Ty.code]⟩
      rcases List.mem_cons.1 hT with rfl | hT
      ·exact ⟨e,h2 a List.mem_cons_self,h2 b (List.mem_cons_of_mem _ List.mem_cons_self)⟩
      ·exact h2 T (List.mem_cons_of_mem _ (List.mem_cons_of_mem _ hT))
     | [_],h1=>exact absurd h1 (by simp)
     | [],h1=>exact absurd h1 (by simp)
    ·rw [e] at h1
     match Ts,h1 with
     | a :: Ts,h1 =>
      refine ⟨.un c a :: Ts,by simpa using h1,fun T hT=>?_,by rw [h3]; simp [Kvj,Ty.code]⟩
      rcases List.mem_cons.1 hT with rfl | hT
      ·exact ⟨e,h2 a List.mem_cons_self⟩
      ·exact h2 T (List.mem_cons_of_mem _ hT)
     | [],h1=>exact absurd h1 (by simp)
    ·exact absurd e hk
theorem Kvo {ty:List Int} (h:wtB ty=true):∃ T:Ty,T.ok∧ty=T.code∧ty.length ≤ 40:=by
 have hl:=Kux h
 unfold wtB at h
 rw [Bool.and_eq_true,beq_iff_eq] at h
 obtain ⟨Ts,h1,h2,h3⟩:=Kvn _ _ _ h.2
 match Ts,h1 with
 | [T],_=>exact ⟨T,h2 T List.mem_cons_self,by rw [h3]; simp [Kvj],hl⟩
theorem Kvp {T:Ty} (h:T.ok) (hl:T.code.length ≤ 40):wtB T.code=true:=by
 unfold wtB
 have:=Kvm T 0 [] h
 rw [List.append_nil,Ktf] at this
 rw [decide_eq_true hl,show (1:Nat)=0 + 1 from rfl,this]; rfl
theorem Kvq {T:Ty} (h:T.ok):∀ K ∈ T.kids,K.ok:=by
 intro K hK
 cases T with
 | num=>cases hK
 | bin c a b=>rcases List.mem_cons.1 hK with rfl | hK; exact h.2.1; rw [List.mem_singleton.1 hK]; exact h.2.2
 | un c a=>rw [List.mem_singleton.1 hK]; exact h.2
theorem Kvr {pre:List Int} {T:Ty} {post:List Int} (h:T.ok):Ktk (pre ++ (T.code ++ post)) 1 pre.length=((pre.length + T.code.length:Nat):Int):=by
 unfold Ktk
 rw [List.drop_left,show (1:Nat)=0 + 1 from rfl,Kvm T 0 post h,Ktf]
 simp only [List.length_append]
 omega
theorem Kvs {α:Type} (p m q:List α) (mx:Option Int) (hmx:mx=none∨mx=some ((p.length + m.length:Nat):Int)):cut (p ++ (m ++ q)) (some (p.length:Int)) (some ((p.length + m.length:Nat):Int)) mx=some m:=by
 unfold cut
 have e:((p ++ (m ++ q)).take (p.length + m.length)).drop p.length=m:=by
  rw [← List.append_assoc,← List.length_append,List.take_left,List.drop_left]
 rw [if_pos]
 ·simp only [Option.getD_some,Int.toNat_natCast,e]
 ·rcases hmx with rfl | rfl <;> simp only [Option.getD_some,Option.getD_none,List.length_append] <;> omega
theorem Kvt {α:Type} (p q:List α):cut (p ++ q) (some (p.length:Int)) none none=some q:=by
 unfold cut
 rw [if_pos]
 ·simp only [Option.getD_some,Option.getD_none,Int.toNat_natCast,List.take_length,List.drop_left]
 ·simp only [Option.getD_some,Option.getD_none,List.length_append]; omega
theorem Kvu (Ks:List Ty):∀ (pre:List Int) (out:List (List Int)),(∀ K ∈ Ks,K.ok)→(pre ++ Kvj Ks).length ≤ 1099511627776→out.length + Ks.length ≤ 1099511627776→Kls (pre ++ Kvj Ks,out,(pre.length:Int))=some (out ++ Ks.map Ty.code):=by
 induction Ks with
 | nil =>
  intro pre out hk hl ho
  rw [show Kvj []=[] from rfl,List.append_nil,Kls.eq_def]
  simp only
  rw [Ks1 (Nat.le_refl _)]; simp
 | cons K Ks ih =>
  intro pre out hk hl ho
  have hK:=hk K List.mem_cons_self
  have hp:=Kvl K
  rw [show Kvj (K :: Ks)=K.code ++ Kvj Ks from rfl] at hl ⊢
  rw [List.length_cons] at ho
  rw [Kls.eq_def]
  simp only
  rw [Ks0 (by simp only [List.length_append]; omega),if_pos rfl,Kto _ hl _ pre.length rfl,Kvr hK,bs,Kvs _ _ _ _ (.inr rfl),bs,Kv0 (by simp only [List.length_singleton]; omega),bs]
  have:=ih (pre ++ K.code) (out ++ [K.code]) (fun K hK=>hk K (List.mem_cons_of_mem _ hK)) (by rw [List.append_assoc]; exact hl) (by simp; omega)
  rw [List.append_assoc,List.length_append] at this
  rw [this,List.map_cons,List.append_assoc]; rfl
theorem Kvv {T:Ty} (h:T.ok) (hl:T.code.length ≤ 1048576):Klv T.code=some (T.kids.map Ty.code):=by
 unfold Klv
 have hk:T.kids.length ≤ 2:=by cases T <;> simp [Ty.kids]
 have e:[T.hd] ++ Kvj T.kids=T.code:=(Kvk T).symm
 have:=Kvu T.kids [T.hd] [] (Kvq h) (by rw [e]; omega) (by simp only [List.length_nil]; omega)
 rw [e] at this
 rw [show (1:Int)=(([T.hd].length:Nat):Int) from rfl,this,bs]; rfl
theorem Kvw {c:Int} {a:Ty} {r:List Int} (ha:a.ok) (hl:(c :: (a.code ++ r)).length ≤ 1099511627776):Kew (c :: (a.code ++ r),0)=some a.code:=by
 unfold Kew
 simp only
 have e:=Kvr (pre:=[c]) (post:=r) ha
 have h1:=Ktm (c :: (a.code ++ r)) hl 1 (by simp)
 rw [show (((1:Nat)):Int)=1 from rfl] at h1
 rw [List.length_singleton] at e
 have e':Ktk (c :: (a.code ++ r)) 1 1=((1 + a.code.length:Nat):Int):=e
 rw [h1,bs,e',if_pos (by rfl)]
 have h2:=Kvs [c] a.code r none (.inl rfl)
 rw [List.length_singleton] at h2
 have h2':cut (c :: (a.code ++ r)) (some 1) (some ((1 + a.code.length:Nat):Int)) none=some a.code:=h2
 simp only [List.length_cons,List.length_append] at hl
 rw [h2',bs,Kv2 _ (by omega),bs]
theorem Kvx {c:Int} {a:Ty} {r:List Int} (ha:a.ok) (hl:(c :: (a.code ++ r)).length ≤ 1099511627776):Kew (c :: (a.code ++ r),1)=some r:=by
 unfold Kew
 simp only
 have e:=Kvr (pre:=[c]) (post:=r) ha
 have h1:=Ktm (c :: (a.code ++ r)) hl 1 (by simp)
 rw [show (((1:Nat)):Int)=1 from rfl] at h1
 rw [List.length_singleton] at e
 have e':Ktk (c :: (a.code ++ r)) 1 1=((1 + a.code.length:Nat):Int):=e
 rw [h1,bs,e',if_neg (by decide)]
 have h2:=Kvt (c :: a.code) r
 rw [List.length_cons,List.cons_append,Nat.add_comm] at h2
 simp only [List.length_cons,List.length_append] at hl
 rw [h2,bs,Kv2 _ (by omega),bs]
def Kvy (s:K00) (g:Int):Bool:=inB g 0 (wr (s.fSize - 1))
theorem Kvz (s:K00) (g:Int):Kiw (s,g)=some (Kvy s g):=by
 unfold Kiw Kvy
 simp only
 rw [iIn,bs]
def Kw0 (s:K00) (c:Int):Bool:=!(((Ktc c).1 == 3 || (Ktc c).1 == 4) && !Kvy s (Ktc c).2)
def Kw1 (s:K00) (ty:List Int):Bool:=wtB ty && ty.all (Kw0 s)
theorem Kw2 (s:K00) (ty:List Int) (hty:ty.length ≤ 1099511627776):∀ (l:List Int) (i:Nat),ty.drop i=l→Kkl (s,ty,(i:Int))=some (if l.all (Kw0 s) then .inl () else .inr false):=by
 intro l
 induction l with
 | nil =>
  intro i hd
  rw [Kkl.eq_def]
  simp only
  rw [Ks1 (Kt4 hd)]; rfl
 | cons c l ih =>
  intro i hd
  obtain ⟨hi,hx,hd'⟩:=Kt3 hd
  rw [Kkl.eq_def]
  simp only
  rw [Ks0 hi,if_pos rfl,hx,bs,Ktd,bs,Krz (by omega),ih (i + 1) hd',List.all_cons]
  unfold Kw0
  rcases Ktc c with ⟨a,b⟩
  simp only [Kvz,bs]
  cases a == 3 <;> cases a == 4 <;> cases Kvy s b <;> simp [bs]
theorem Kw3 (s:K00) (ty:List Int) (hty:ty.length ≤ 1099511627776):Kko (s,ty)=some (Kw1 s ty):=by
 unfold Kko Kw1
 simp only
 rw [Ktr ty hty,bs]
 cases wtB ty
 ·rfl
 ·rw [if_pos rfl,show (0:Int)=((0:Nat):Int) from rfl,Kw2 s ty hty _ 0 rfl,List.drop_zero,bs]
  cases ty.all (Kw0 s) <;> rfl
theorem Kw4 {s:K00} {n:Nat} (h:Tab s n) (g:Int):Kvy s g=inB g 0 ((n:Int) - 1):=by
 unfold Kvy; rw [Kvi h]
theorem Kw5 {s:K00} {n:Nat} (h:Tab s n) {c:Int}:Kw0 s c=Ktt s.fSize true c:=by
 unfold Kw0 Ktt Kts
 have hn:=h.lo
 rw [Kw4 h,h.size]
 rcases Kte c with ⟨q,e⟩ | ⟨q,e⟩ | ⟨q,e⟩ | ⟨q,e⟩ | ⟨q,e⟩ | ⟨q,e⟩ | ⟨q,e⟩ | ⟨q,e⟩ <;> rw [e]
 ·subst q; rfl
 ·subst q; rfl
 ·subst q; rfl
 ·have hk:Kt7 c=2:=by rcases Ktb c with h | h | h | h <;> omega
  rw [hk,if_neg (by omega),if_neg (by omega),decide_eq_true (by omega:c > 2)]
  unfold inB
  rw [decide_eq_true (by omega:c - 3 ≥ 0),decide_eq_false (by omega:¬ c - 3 < 0)]
  by_cases hc:c - 3 ≤ (n:Int) - 1
  ·rw [decide_eq_true hc,decide_eq_false (by omega:¬ c - 3 ≥ (n:Int))]; rfl
  ·rw [decide_eq_false hc,decide_eq_true (by omega:c - 3 ≥ (n:Int))]; rfl
 ·subst q; unfold inB; simp [Kt7,Kt5,Kt6,inB]
 ·have hk:Kt7 c=1:=by rcases Ktb c with h | h | h | h <;> omega
  rw [hk,if_neg (by omega),if_pos (by omega),decide_eq_true (by omega:c > 2)]
  unfold inB
  rw [decide_eq_true (by omega:c - 19 ≥ 0),decide_eq_false (by omega:¬ c - 19 < 0)]
  by_cases hc:c - 19 ≤ (n:Int) - 1
  ·rw [decide_eq_true hc,decide_eq_false (by omega:¬ c - 19 ≥ (n:Int))]; rfl
  ·rw [decide_eq_false hc,decide_eq_true (by omega:c - 19 ≥ (n:Int))]; rfl
 ·subst q; unfold inB; simp [Kt7,Kt5,Kt6,inB]
 ·have hk:Kt7 c=-1:=by rcases Ktb c with h | h | h | h <;> omega
  rw [hk]; simp
theorem Kw6 {s:K00} {n:Nat} (h:Tab s n) (ty:List Int):Kw1 s ty=yN s.fSize true ty:=by
 unfold Kw1 yN
 rw [show Kw0 s=Ktt s.fSize true from funext fun c=>Kw5 h]
theorem Kw7 {α:Type} (x:α) (l:List α):idx (x :: l) 0=some x:=rfl
theorem Kw8 {a b:Nat} (ha:a ≤ 1099511627776) (hb:b ≤ 1099511627776):wr ((a:Int) + (b:Int))=((a + b:Nat):Int):=by rw [Krx (by omega) (by omega)]; omega
theorem Kw9 (a b:Nat):K9y ((a:Int),(b:Int))=some ((min a b:Nat):Int):=by
 unfold K9y
 simp only
 by_cases h:a < b
 ·rw [decide_eq_true (by omega:(a:Int) < (b:Int)),if_pos rfl,Nat.min_eq_left (by omega)]
 ·rw [decide_eq_false (by omega:¬ (a:Int) < (b:Int)),if_neg (by decide),Nat.min_eq_right (by omega)]
def sms (s:K00):Nat:=s.fPlus.length + s.fTimes.length + s.fBelow.length
theorem Kwa {l:List K01} {t:K01} (h:t ∈ l):tsz t ≤ Kty l:=by
 induction l with
 | nil=>cases h
 | cons x l ih =>
  rw [Kty]
  rcases List.mem_cons.1 h with rfl | h
  ·omega
  ·have:=ih h; omega
theorem Kwb {t k:K01} (h:k ∈ t.fKids):tsz k + 1 ≤ tsz t:=by
 rw [Ku0 t]
 have:=Kwa h
 omega
mutual
def tNb (hi:Int):K01→Prop
 | ⟨op,N,_,ks⟩=>(op=0→-9223372036854775808 ≤ N∧N ≤ hi)∧Kwc hi ks
def Kwc (hi:Int):List K01→Prop
 | []=>True
 | k :: ks=>tNb hi k∧Kwc hi ks
end
mutual
def shf (by_:Int):Int→K01→K01
 | from_,⟨op,N,ty,ks⟩=>⟨op,if op == 0 && decide (N ≥ from_) then N + by_ else N,ty,Kwd by_ op from_ 0 ks⟩
def Kwd (by_:Int):Int→Int→Nat→List K01→List K01
 | _,_,_,[]=>[]
 | op,from_,i,k :: ks=>shf by_ (from_ + ((Kuh op (i:Int):Nat):Int)) k :: Kwd by_ op from_ (i + 1) ks
end
theorem Kwe (by_:Int):∀ (ks:List K01) (op fr:Int) (i:Nat),(Kwd by_ op fr i ks).length=ks.length
 | [],op,fr,i=>by rw [Kwd]
 | k :: ks,op,fr,i=>by rw [Kwd,List.length_cons,List.length_cons,Kwe by_ ks]
mutual
theorem Kwf (b hi:Int) (hb:0 ≤ b) (hh:hi + b ≤ 9223372036854775807):∀ (t:K01) (fr:Int),tNb hi t→tms t ≤ 1099511627776→-35184372088832 ≤ fr→fr + 2 * tms t ≤ 35184372088832→Kgp (t,b,fr)=some (shf b fr t)
 | ⟨op,N,ty,ks⟩,fr,hn,hm,h1,h2=>by
  rw [tms] at hm h2
  rw [tNb] at hn
  rw [Kgp.eq_def,shf]
  simp only
  rw [Kv2 ty (by omega),bs]
  refine (Ktx (x:=op == 0 && decide (N ≥ fr)) ?_).trans ?_
  ·cases op == 0 <;> rfl
  refine (Ktx (x:=if op == 0 && decide (N ≥ fr) then N + b else N) ?_).trans ?_
  ·cases h:op == 0 && decide (N ≥ fr)
   ·rfl
   ·rw [Bool.and_eq_true] at h
    have:=hn.1 (eq_of_beq h.1)
    rw [if_pos rfl,Krx (by omega) (by omega)]; rfl
  rw [show (0:Int)=((0:Nat):Int) from rfl,Kwg b hi hb hh ks ⟨op,N,ty,ks⟩ fr 0 ty _ [] rfl (by simp only; omega) hn.2 (by omega) h1 (by omega) (by simp),bs]
  rfl
theorem Kwg (b hi:Int) (hb:0 ≤ b) (hh:hi + b ≤ 9223372036854775807):∀ (ks:List K01) (t:K01) (fr:Int) (i:Nat) (r:List Int) (o:Int) (out:List K01),t.fKids.drop i=ks→t.fKids.length ≤ 1099511627776→Kwc hi ks→Ktz ks ≤ 1099511627776→-35184372088832 ≤ fr →
  fr + 2 * (ks.length + Ktz ks) ≤ 35184372088832→out.length=i→Kgq (t,b,fr,r,o,out,(i:Int))=some (out ++ Kwd b t.fOp fr i ks)
 | [],t,fr,i,r,o,out,hd,hk,hn,hm,h1,h2,ho=>by
  rw [Kgq.eq_def,Kwd]
  simp only
  rw [Ks1 (Kt4 hd),List.append_nil]; rfl
 | k :: ks,t,fr,i,r,o,out,hd,hk,hn,hm,h1,h2,ho=>by
  obtain ⟨hi',hx,hd'⟩:=Kt3 hd
  rw [Ktz] at hm h2
  rw [List.length_cons] at h2
  rw [Kwc] at hn
  have ha:=Kui t.fOp (i:Int)
  rw [Kgq.eq_def,Kwd]
  simp only
  rw [Ks0 hi',if_pos rfl,hx,bs,Kuj,bs,Krx (by omega) (by omega),Kwf b hi hb hh k _ hn.1 (by omega) (by omega) (by omega),bs,Kv0 (by simp only [List.length_singleton]; omega),bs,Krz (by omega)]
  rw [Kwg b hi hb hh ks t fr (i + 1) r o _ hd' hk hn.2 (by omega) h1 (by omega) (by simp [ho]),List.append_assoc]
  rfl
end
mutual
theorem Kwh {a b:Int} (h:a ≤ b):∀ (t:K01),tNb a t→tNb b t
 | ⟨op,N,ty,ks⟩,hn=>by
  rw [tNb] at hn ⊢
  exact ⟨fun e=>by have:=hn.1 e; omega,Kwi h ks hn.2⟩
theorem Kwi {a b:Int} (h:a ≤ b):∀ (ks:List K01),Kwc a ks→Kwc b ks
 | [],_=>by rw [Kwc]; trivial
 | k :: ks,hn=>by rw [Kwc] at hn ⊢; exact ⟨Kwh h k hn.1,Kwi h ks hn.2⟩
end
mutual
theorem Kwj (g:Int→Bool) (y:List Int→Bool):∀ (t:K01) (n:Nat),tOk g y n t=true→tNb ((n:Int) + 2 * tsz t) t
 | ⟨op,N,ty,ks⟩,n,h=>by
  obtain ⟨h1,h2⟩:=Kuy h
  rw [tNb]
  refine ⟨fun e=>?_,?_⟩
  ·subst e
   unfold Kun Kul at h1
   simp only [Bool.and_eq_true] at h1
   have h3:=h1.1.2
   rw [show ((0:Int) == 0)=true from rfl,if_pos rfl] at h3
   unfold inB at h3
   simp only [Bool.and_eq_true,decide_eq_true_eq] at h3
   omega
  ·rw [tsz]
   exact Kwi (by omega) ks (Kwk g y ks op n 0 h2)
theorem Kwk (g:Int→Bool) (y:List Int→Bool):∀ (ks:List K01) (op:Int) (n i:Nat),Kuo g y op n i ks=true→Kwc ((n:Int) + 2 * Kty ks + 2) ks
 | [],op,n,i,h=>by rw [Kwc]; trivial
 | k :: ks,op,n,i,h=>by
  rw [Kuo,Bool.and_eq_true] at h
  have ha:=Kui op (i:Int)
  rw [Kwc,Kty]
  exact ⟨Kwh (by omega) k (Kwj g y k _ h.1),Kwi (by omega) ks (Kwk g y ks op n (i + 1) h.2)⟩
end
def lct:List (List Int)→Nat
 | []=>0
 | x :: l=>x.length + lct l
theorem Kwl {l:List (List Int)} {x:List Int} (h:x ∈ l):x.length ≤ lct l:=by
 induction l with
 | nil=>cases h
 | cons y l ih =>
  rw [lct]
  rcases List.mem_cons.1 h with rfl | h
  ·omega
  ·have:=ih h; omega
theorem Kwm {α:Type} (x:α) (l:List α):cut (x :: l) (some 1) none none=some l:=Kvt [x] l
theorem Kwn {g:Int→Bool} {y:List Int→Bool}:∀ (ks:List K01) (op:Int) (n i j:Nat) (hj:j < ks.length),Kuo g y op n i ks=true→tOk g y (n + Kuh op ((i + j:Nat):Int)) ks[j]=true
 | k :: ks,op,n,i,j,hj,ht=>by
  rw [Kuo,Bool.and_eq_true] at ht
  cases j with
  | zero=>exact ht.1
  | succ j =>
   have:=Kwn ks op n (i + 1) j (by simpa using hj) ht.2
   rw [show i + 1 + j=i + (j + 1) by omega] at this
   exact this
structure Kwo (c:Int) (a b:Ty):Prop where
 p0:Kew (c :: (a.code ++ b.code),0)=some a.code
 p1:Kew (c :: (a.code ++ b.code),1)=some b.code
 pp:Klv (c :: (a.code ++ b.code))=some [a.code,b.code]
 ok:a.ok∧b.ok
 la:a.code.length + b.code.length + 1 ≤ 1048576
theorem Kwp {c:Int} {a b:Ty} (h:(Ty.bin c a b).ok) (hl:(Ty.bin c a b).code.length ≤ 1048576):Kwo c a b:=by
 have hl':=hl
 rw [Ty.code] at hl'
 have h3:=Kvv h hl
 rw [Ty.kids,List.map_cons,List.map_cons,List.map_nil,Ty.code] at h3
 refine ⟨Kvw h.2.1 (by omega),Kvx h.2.1 (by omega),h3,h.2,?_⟩
 rw [List.length_cons,List.length_append] at hl'
 omega
structure UnP (c:Int) (a:Ty):Prop where
 p0:Kew (c :: a.code,0)=some a.code
 pp:Klv (c :: a.code)=some [a.code]
 ok:a.ok
 la:a.code.length + 1 ≤ 1048576
theorem unP {c:Int} {a:Ty} (h:(Ty.un c a).ok) (hl:(Ty.un c a).code.length ≤ 1048576):UnP c a:=by
 have hl':=hl
 rw [Ty.code] at hl'
 have h3:=Kvv h hl
 rw [Ty.kids,List.map_cons,List.map_nil,Ty.code] at h3
 have h4:=Kvw (c:=c) (r:=[]) h.2 (by rw [List.append_nil]; omega)
 rw [List.append_nil] at h4
 refine ⟨h4,h3,h.2,?_⟩
 rw [List.length_cons] at hl'
 omega
theorem Kwq {p:Prop} [Decidable p] (h:p):chk p=some ():=by unfold chk; rw [if_pos h]
theorem Kwr (x y:Int) (l r:List Int):(x :: l == y :: r)=(x == y && l == r):=rfl
theorem Kws (a b:List Int) (ha:a.length ≤ 1099511627776) (hab:a.length=b.length):∀ (l r:List Int) (i:Nat),a.drop i=l→b.drop i=r→Ke4 (a,b,(i:Int))=some (if l == r then .inl () else .inr false):=by
 intro l
 induction l with
 | nil =>
  intro r i h1 h2
  have hi:=Kt4 h1
  rw [Ke4.eq_def]
  simp only
  rw [Ks1 hi]
  have:r=[]:=by rw [← h2]; exact List.drop_eq_nil_of_le (by omega)
  subst this; rfl
 | cons x l ih =>
  intro r i h1 h2
  obtain ⟨hi,hx,hd⟩:=Kt3 h1
  cases r with
  | nil=>have:=Kt4 h2; omega
  | cons y r =>
   obtain ⟨_,hy,hd2⟩:=Kt3 h2
   rw [Ke4.eq_def]
   simp only
   rw [Ks0 hi,if_pos rfl,hx,hy,bs,bs,Krz (by omega),ih r (i + 1) hd hd2,Kwr]
   by_cases e:x=y
   ·subst e; simp
   ·rw [bne_iff_ne.2 e,if_pos rfl,beq_eq_false_iff_ne.2 e]; rfl
theorem Kwt (a b:List Int) (hb:b.length ≤ 1099511627776):Ke7 (a,b)=some (a == b):=by
 unfold Ke7
 simp only
 by_cases h:a.length=b.length
 ·rw [h,Ks2,if_neg (by decide)]
  have:=Kws a b (by omega) h a b 0 rfl rfl
  rw [show ((0:Nat):Int)=0 from rfl] at this
  rw [this]
  cases a == b <;> rfl
 ·rw [bne_iff_ne.2 (by omega),if_pos rfl]
  have:a ≠ b:=fun e=>h (by rw [e])
  rw [beq_eq_false_iff_ne.2 this]
theorem Kwu (a b:List Int) (ha:a.length ≤ 1099511627776) (hab:a.length=b.length):∀ (l r:List Int) (i:Nat),a.drop i=l→b.drop i=r→Kmk (a,b,(i:Int))=some (if l == r then .inl () else .inr false):=by
 intro l
 induction l with
 | nil =>
  intro r i h1 h2
  have hi:=Kt4 h1
  rw [Kmk.eq_def]
  simp only
  rw [Ks1 hi]
  have:r=[]:=by rw [← h2]; exact List.drop_eq_nil_of_le (by omega)
  subst this; rfl
 | cons x l ih =>
  intro r i h1 h2
  obtain ⟨hi,hx,hd⟩:=Kt3 h1
  cases r with
  | nil=>have:=Kt4 h2; omega
  | cons y r =>
   obtain ⟨_,hy,hd2⟩:=Kt3 h2
   rw [Kmk.eq_def]
   simp only
   rw [Ks0 hi,if_pos rfl,hx,hy,bs,bs,Krz (by omega),ih r (i + 1) hd hd2,Kwr]
   by_cases e:x=y
   ·subst e; simp
   ·rw [bne_iff_ne.2 e,if_pos rfl,beq_eq_false_iff_ne.2 e]; rfl
theorem Kwv (a b:List Int) (hb:b.length ≤ 1099511627776):Kmn (a,b)=some (a == b):=by
 unfold Kmn
 simp only
 by_cases h:a.length=b.length
 ·rw [h,Ks2,if_neg (by decide)]
  have:=Kwu a b (by omega) h a b 0 rfl rfl
  rw [show ((0:Nat):Int)=0 from rfl] at this
  rw [this]
  cases a == b <;> rfl
 ·rw [bne_iff_ne.2 (by omega),if_pos rfl]
  have:a ≠ b:=fun e=>h (by rw [e])
  rw [beq_eq_false_iff_ne.2 this]
theorem Kww {α:Type} {l:List α} (h:((l.length:Int) == 0)=true):l=[]:=by
 rw [beq_iff_eq] at h; exact List.length_eq_zero_iff.1 (by omega)
theorem Kwx (g:Int→Bool) (y:List Int→Bool) (n:Nat) (op N:Int) (ty:List Int) (ks:List K01):tOk g y n ⟨op,N,ty,ks⟩=(Kun g y (n:Int) ⟨op,N,ty,ks⟩ && Kuo g y op n 0 ks):=Kup ..
theorem Kwy (g:Int→Bool) (y:List Int→Bool) (op:Int) (n i:Nat) (k:K01) (ks:List K01):Kuo g y op n i (k :: ks)=(tOk g y (n + Kuh op i) k && Kuo g y op n (i + 1) ks):=by rw [Kuo]
theorem Kwz (g:Int→Bool) (y:List Int→Bool) (op:Int) (n i:Nat):Kuo g y op n i []=true:=by rw [Kuo]
theorem Kx0 {l:List K01} (h:((l.length:Int) == 1)=true):∃ k,l=[k]:=by
 rw [beq_iff_eq] at h; match l,h with | [k],_=>exact ⟨k,rfl⟩ | [],h=>exact absurd h (by simp) | _ :: _ :: _,h=>exact absurd h (by simp only [List.length_cons]; omega)
theorem Kx1 {l:List K01} (h:((l.length:Int) == 2)=true):∃ k m,l=[k,m]:=by
 rw [beq_iff_eq] at h; match l,h with | [k,m],_=>exact ⟨k,m,rfl⟩ | [],h=>exact absurd h (by simp) | [_],h=>exact absurd h (by simp) | _ :: _ :: _ :: _,h=>exact absurd h (by simp only [List.length_cons]; omega)
def Kx2 (s:K00) (t:K01) (n:Nat):Bool:=Kve s && decide (tsz t ≤ 400) && tOk (gN s.fSize true) (yN s.fSize true) n t
theorem Kx3 (s:K00) (t:K01) (n:Nat) (hn:n ≤ 8) (ht:tms t ≤ 1099511627776):Kr7 (s,t,(n:Int))=some (Kx2 s t n):=by
 unfold Kr7 Kx2
 simp only
 rw [Kvg,bs]
 cases Kve s
 ·rfl
 ·rw [if_pos rfl,sIn,bs]
  have:inB (n:Int) 0 8=true:=by unfold inB; rw [decide_eq_true (by omega),decide_eq_true (by omega)]; rfl
  have hl:=Ku5 t 400 ht (by decide)
  rw [show ((400:Nat):Int)=400 from rfl] at hl
  rw [this,if_pos rfl,hl,bs]
  by_cases h:tsz t ≤ 400
  ·rw [Ku2 h,decide_eq_true (by omega),decide_eq_true h,if_pos rfl,Kur _ _ t n ht (by omega)]
   cases tOk (gN s.fSize true) (yN s.fSize true) n t <;> rfl
  ·rw [Ku3 h,decide_eq_false h]; rfl
theorem Kx4 {g:Int→Bool} {y:List Int→Bool} {n:Nat} {op N:Int} {ty:List Int} {ks:List K01} (h:tOk g y n ⟨op,N,ty,ks⟩=true) (h0:op=0):ks=[]∧ty=[]∧0 ≤ N∧N < n:=by
 subst h0
 rw [Kwx,Bool.and_eq_true] at h
 have h1:=h.1
 simp only [Kun,Kul,Kum,Bool.and_eq_true,show Ku7 0=0 from rfl,show Ku9 0=false from rfl,show ((0:Int) == 0)=true from rfl,if_true,Bool.false_eq_true,if_false] at h1
 have h2:=h1.1.2
 unfold inB at h2
 simp only [Bool.and_eq_true,decide_eq_true_eq] at h2
 exact ⟨Kww h1.1.1.2,Kww h1.2,by omega,by omega⟩
mutual
theorem Kx5 (b:Int):∀ (t:K01) (f:Int),tsz (shf b f t)=tsz t
 | ⟨op,N,ty,ks⟩,f=>by rw [shf,tsz,tsz,Kx6 b ks]
theorem Kx6 (b:Int):∀ (ks:List K01) (op f:Int) (i:Nat),Kty (Kwd b op f i ks)=Kty ks
 | [],op,f,i=>by rw [Kwd]
 | k :: ks,op,f,i=>by rw [Kwd,Kty,Kty,Kx5 b k,Kx6 b ks]
end
theorem Kx7 (g:Int→Bool) (y:List Int→Bool) (n m:Int) (op N:Int) (ty:List Int) (ks js:List K01) (h0:(op == 0)=false) (hl:ks.length=js.length):Kun g y n ⟨op,N,ty,ks⟩=Kun g y m ⟨op,N,ty,js⟩:=by
 unfold Kun Kul Kum
 simp only [h0,hl]
 rfl
theorem Kx8 (g:Int→Bool) (y:List Int→Bool) (n:Nat) (N:Int) (h:0 ≤ N∧N < n):tOk g y n ⟨0,N,[],[]⟩=true:=by
 rw [Kwx,Kwz]
 unfold Kun Kul Kum
 simp only [show inB 0 0 12=true from rfl,show Ku7 0=0 from rfl,show Ku9 0=false from rfl,show ((0:Int) == 0)=true from rfl,if_true,Bool.false_eq_true,if_false]
 unfold inB
 rw [decide_eq_true (by omega:N ≥ 0),decide_eq_true (by omega:N ≤ (n:Int) - 1)]
 rfl
mutual
theorem Kx9 (g:Int→Bool) (y:List Int→Bool) (b:Nat):∀ (t:K01) (n:Nat) (f:Int),tOk g y n t=true→tOk g y (n + b) (shf (b:Int) f t)=true
 | ⟨op,N,ty,ks⟩,n,f,h=>by
  rw [shf]
  cases h0:op == 0
  ·rw [Kwx,Bool.and_eq_true] at h
   rw [Kwx,Bool.false_and,if_neg (by decide),Kx7 g y _ (n:Int) op N ty _ ks h0 (Kwe (b:Int) ks op f 0),h.1,Kxa g y b ks op n 0 f h.2]; rfl
  ·have h0:=eq_of_beq h0
   obtain ⟨rfl,rfl,h1,h2⟩:=Kx4 h h0
   subst h0
   rw [Kwd]
   refine Kx8 g y _ _ ?_
   split <;> omega
theorem Kxa (g:Int→Bool) (y:List Int→Bool) (b:Nat):∀ (ks:List K01) (op:Int) (n i:Nat) (f:Int),Kuo g y op n i ks=true→Kuo g y op (n + b) i (Kwd (b:Int) op f i ks)=true
 | [],op,n,i,f,h=>by rw [Kwd,Kwz]
 | k :: ks,op,n,i,f,h=>by
  rw [Kwy,Bool.and_eq_true] at h
  rw [Kwd,Kwy,Kxa g y b ks op n (i + 1) f h.2,show n + b + Kuh op (i:Int)=n + Kuh op (i:Int) + b by omega,Kx9 g y b k _ _ h.1]; rfl
end
mutual
theorem Kxb {g:Int→Bool}:∀ (t:K01) (n:Nat),tOk g wtB n t=true→tms t + 3 ≤ 43 * tsz t + 3∧t.fKids.length ≤ 3
 | ⟨op,N,ty,ks⟩,n,h=>by
  obtain ⟨h1,h2⟩:=Kuy h
  have h3:=(Kuz h1).2
  have h4:=Kv1 h1
  have h5:=Kxc ks op n 0 h2
  have h6:Ku7 op ≤ 3:=by rcases Kub h4.1 with h | h | h | h | h | h | h | h | h | h | h | h | h <;> (simp only at h; subst h; decide)
  have h7:=h4.2
  simp only at h3 h7 ⊢
  rw [tms,tsz]; omega
theorem Kxc {g:Int→Bool}:∀ (ks:List K01) (op:Int) (n i:Nat),Kuo g wtB op n i ks=true→Ktz ks ≤ 43 * Kty ks
 | [],op,n,i,h=>by rw [Ktz]; omega
 | k :: ks,op,n,i,h=>by
  rw [Kwy,Bool.and_eq_true] at h
  have h1:=(Kxb k _ h.1).1
  have h2:=Kxc ks op n (i + 1) h.2
  rw [Ktz,Kty]; omega
end
theorem Kxd (op N:Int) (ty:List Int) (a:K01):tsz ⟨op,N,ty,[a]⟩=1 + tsz a:=by simp [tsz,Kty]
theorem Kxe (op N:Int) (ty:List Int) (a b:K01):tsz ⟨op,N,ty,[a,b]⟩=1 + (tsz a + tsz b):=by simp [tsz,Kty]
theorem Kxf (op N:Int) (ty:List Int) (a b c:K01):tsz ⟨op,N,ty,[a,b,c]⟩=1 + (tsz a + (tsz b + tsz c)):=by simp [tsz,Kty]
theorem Kxg {l:List K01} (h:(l.length:Int)=3):∃ a b c,l=[a,b,c]:=by
 match l,h with | [a,b,c],_=>exact ⟨a,b,c,rfl⟩ | [],h=>exact absurd h (by simp) | [_],h=>exact absurd h (by simp) | [_,_],h=>exact absurd h (by simp) | _ :: _ :: _ :: _ :: _,h=>exact absurd h (by simp only [List.length_cons]; omega)
def lms (l:List (List Int)):Nat:=l.length + lct l
def Kxh (l:List Nat):List Int:=l.map fun x:Nat=>(x:Int)
theorem Kxi (l:List Nat):(Kxh l).length=l.length:=List.length_map ..
theorem Kxj (l:List Nat) (i:Nat):(Kxh l).drop i=Kxh (l.drop i):=(List.map_drop ..).symm
theorem Kxk (l:List Nat) (i:Nat):(Kxh l).take i=Kxh (l.take i):=(List.map_take ..).symm
theorem Kxl {l r:List Nat} {x i:Nat} (h:l.drop i=x :: r):i < l.length∧idx (Kxh l) (i:Int)=some (x:Int)∧l.drop (i + 1)=r:=by
 have h2:(Kxh l).drop i=(x:Int) :: Kxh r:=by rw [Kxj,h]; rfl
 obtain ⟨q1,q2,q3⟩:=Kt3 h2
 rw [Kxi] at q1
 refine ⟨q1,q2,?_⟩
 rw [← List.drop_drop,h]
 rfl
structure Kxm (s:K00) (n:Nat):Prop where
 tab:Tab s n
 one:∀ a,a < n→Ksg s n a=true
 two:∀ a b,a < n→b < n→Kst s n a b=true
theorem Kxn {s:K00} (h:Kve s=true):Kxm s s.fSize.toNat:=by
 have ht:=Kvf h
 unfold Kve at h
 simp only [Bool.and_eq_true] at h
 have hm:=h.2
 unfold Ksw at hm
 rw [List.all_eq_true] at hm
 refine ⟨ht,fun a ha=>?_,fun a b ha hb=>?_⟩
 ·have:=hm a (by rw [List.mem_range'_1]; omega)
  simp only [Bool.and_eq_true] at this
  exact this.1
 ·have:=hm a (by rw [List.mem_range'_1]; omega)
  simp only [Bool.and_eq_true,List.all_eq_true] at this
  exact (this.2 b (by rw [List.mem_range'_1]; omega)).1
section
variable {s:K00} {n:Nat} (hs:Kxm s n)
include hs
theorem Kxo:1 < n:=by have:=hs.tab.lo; omega
theorem Kxp:0 < n:=by have:=hs.tab.lo; omega
theorem Kxq {a:Nat} (ha:a < n):pl s n 0 a=a:=by
 have:=hs.one a ha
 simp only [Ksg,Bool.and_eq_true,beq_iff_eq] at this
 exact this.1.1.1.1.1
theorem Kxr {a:Nat} (ha:a < n):ti s n 1 a=a:=by
 have:=hs.one a ha
 simp only [Ksg,Bool.and_eq_true,beq_iff_eq] at this
 exact this.1.1.1.1.2
def Kxs (s:K00) (n a b:Nat):Nat:=(Ksm s n a b).toNat
theorem Kxt {a b:Nat} (ha:a < n) (hb:b < n):Ksm s n a b=((Kxs s n a b:Nat):Int)∧Kxs s n a b < n:=by
 have h:=hs.two a b ha hb
 simp only [Kst,Bool.and_eq_true,decide_eq_true_eq] at h
 have h0:=h.2
 unfold Kxs
 refine ⟨by omega,?_⟩
 unfold Ksm at h0 ⊢
 cases hf:(List.range' 0 n).find? (jok s n a b) with
 | none=>rw [hf] at h0; exact absurd h0 (by decide)
 | some g =>
  have:=List.mem_of_find?_eq_some hf
  rw [List.mem_range'_1] at this
  simp only [Int.toNat_natCast]
  omega
end
def Kxu (s:K00) (n:Nat) (a b:List Nat):List Nat:=List.zipWith (pl s n) a b
def Kxv (s:K00) (n g:Nat) (a:List Nat):List Nat:=a.map (ti s n g)
def Kxw (s:K00) (n:Nat) (a b:List Nat):List Nat:=List.zipWith (Kxs s n) a b
def Kxx (n:Nat) (l:List Nat):Prop:=∀ x ∈ l,x < n
theorem Kxy {n x:Nat} {l:List Nat} (h:Kxx n (x :: l)):x < n∧Kxx n l:=⟨h x List.mem_cons_self,fun y hy=>h y (List.mem_cons_of_mem _ hy)⟩
theorem Kxz {n:Nat} {l:List Nat} (h:Kxx n l) (i:Nat):Kxx n (l.drop i):=fun x hx=>h x (List.mem_of_mem_drop hx)
section
variable {s:K00} {n:Nat} (hs:Kxm s n)
include hs
theorem Ky0:∀ {a b:List Nat},Kxx n a→Kxx n b→Kxx n (Kxu s n a b)
 | [],_,_,_=>fun x hx=>by cases hx
 | _ :: _,[],_,_=>fun x hx=>by cases hx
 | x :: a,y :: b,ha,hb=>fun z hz=>by
  obtain ⟨h1,h2⟩:=Kxy ha
  obtain ⟨h3,h4⟩:=Kxy hb
  rcases List.mem_cons.1 hz with rfl | hz
  ·exact Ks5 hs.tab h1 h3
  ·exact Ky0 h2 h4 z hz
theorem Ky1 {g:Nat} (hg:g < n) {a:List Nat} (ha:Kxx n a):Kxx n (Kxv s n g a):=fun x hx=>by
 obtain ⟨y,hy,rfl⟩:=List.mem_map.1 hx
 exact Ks6 hs.tab hg (ha y hy)
theorem Ky2:∀ {a b:List Nat},Kxx n a→Kxx n b→Kxx n (Kxw s n a b)
 | [],_,_,_=>fun x hx=>by cases hx
 | _ :: _,[],_,_=>fun x hx=>by cases hx
 | x :: a,y :: b,ha,hb=>fun z hz=>by
  obtain ⟨h1,h2⟩:=Kxy ha
  obtain ⟨h3,h4⟩:=Kxy hb
  rcases List.mem_cons.1 hz with rfl | hz
  ·exact (Kxt hs h1 h3).2
  ·exact Ky2 h2 h4 z hz
theorem Ky3 {a:List Nat} (ha:Kxx n a):Kxv s n 1 a=a:=by
 induction a with
 | nil=>rfl
 | cons x a ih =>
  obtain ⟨h1,h2⟩:=Kxy ha
  show ti s n 1 x :: Kxv s n 1 a=_
  rw [Kxr hs h1,ih h2]
theorem Ky4 {a:List Nat} (ha:Kxx n a):Kxu s n (List.replicate a.length 0) a=a:=by
 induction a with
 | nil=>rfl
 | cons x a ih =>
  obtain ⟨h1,h2⟩:=Kxy ha
  show pl s n 0 x :: Kxu s n (List.replicate a.length 0) a=_
  rw [Kxq hs h1,ih h2]
theorem Ky5 (g:Nat) (hg:g < n) (a b:List Nat) (ha:Kxx n a) (hb:Kxx n b) (hl:a.length ≤ 1099511627776):∀ (al bl:List Nat) (i:Nat) (out:List Int),a.drop i=al→b.drop i=bl→al.length=bl.length→out.length + al.length ≤ 1099511627776 →
  Kfc (s,Kxh a,(g:Int),Kxh b,out,(i:Int))=some (out ++ Kxh (Kxu s n al (Kxv s n g bl))):=by
 intro al
 induction al with
 | nil =>
  intro bl i out hd _ _ _
  rw [Kfc.eq_def]
  simp only
  rw [Kxi,Ks1 (Kt4 hd)]
  simp [Kxu,Kxh]
 | cons x al ih =>
  intro bl i out hd hd2 hll ho
  cases bl with
  | nil=>simp at hll
  | cons y bl =>
   obtain ⟨h1,h2,h3⟩:=Kxl hd
   obtain ⟨k1,k2,k3⟩:=Kxl hd2
   have hx:x < n:=Kxz ha i x (by rw [hd]; exact List.mem_cons_self)
   have hy:y < n:=Kxz hb i y (by rw [hd2]; exact List.mem_cons_self)
   rw [Kfc.eq_def]
   simp only
   simp only [List.length_cons] at ho hll
   rw [Kxi,Ks0 h1,if_pos rfl,h2,bs,k2,bs,Ksb hs.tab hg hy,bs,Ksa hs.tab hx (Ks6 hs.tab hg hy),bs,Kv0 (by simp; omega),bs,Krz (by omega),ih bl (i + 1) _ h3 k3 (by omega) (by simp; omega)]
   rw [List.append_assoc]
   rfl
theorem Ky6 (g:Nat) (hg:g < n) (a b:List Nat) (ha:Kxx n a) (hb:Kxx n b) (hl:a.length ≤ 1048576) (hab:a.length=b.length):Kff (s,Kxh a,(g:Int),Kxh b)=some (Kxh (Kxu s n a (Kxv s n g b))):=by
 unfold Kff
 simp only
 rw [show (0:Int)=((0:Nat):Int) from rfl,Ky5 hs g hg a b ha hb (by omega) a b 0 [] rfl rfl hab (by simp; omega)]
 rfl
theorem Ky7 (a b:List Nat) (ha:Kxx n a) (hb:Kxx n b) (hl:a.length ≤ 1048576) (hab:a.length=b.length):Kff (s,Kxh a,1,Kxh b)=some (Kxh (Kxu s n a b)):=by
 have:=Ky6 hs 1 (Kxo hs) a b ha hb hl hab
 rw [Ky3 hs hb] at this
 exact this
theorem Ky8 (a b:List Nat) (ha:Kxx n a) (hb:Kxx n b) (hl:a.length ≤ 1099511627776):∀ (al bl:List Nat) (i:Nat) (out:List Int),a.drop i=al→b.drop i=bl→al.length=bl.length→out.length + al.length ≤ 1099511627776 →
  Kfm (s,Kxh a,Kxh b,out,(i:Int))=some (out ++ Kxh (Kxw s n al bl)):=by
 intro al
 induction al with
 | nil =>
  intro bl i out hd _ _ _
  rw [Kfm.eq_def]
  simp only
  rw [Kxi,Ks1 (Kt4 hd)]
  simp [Kxw,Kxh]
 | cons x al ih =>
  intro bl i out hd hd2 hll ho
  cases bl with
  | nil=>simp at hll
  | cons y bl =>
   obtain ⟨h1,h2,h3⟩:=Kxl hd
   obtain ⟨k1,k2,k3⟩:=Kxl hd2
   have hx:x < n:=Kxz ha i x (by rw [hd]; exact List.mem_cons_self)
   have hy:y < n:=Kxz hb i y (by rw [hd2]; exact List.mem_cons_self)
   rw [Kfm.eq_def]
   simp only
   simp only [List.length_cons] at ho hll
   rw [Kxi,Ks0 h1,if_pos rfl,h2,bs,k2,bs,Ksr hs.tab hx hy,bs,(Kxt hs hx hy).1,Kv0 (by simp; omega),bs,Krz (by omega),ih bl (i + 1) _ h3 k3 (by omega) (by simp; omega)]
   rw [List.append_assoc]
   rfl
theorem Ky9 (a b:List Nat) (ha:Kxx n a) (hb:Kxx n b) (hl:a.length ≤ 1048576) (hab:a.length=b.length):Kfp (s,Kxh a,Kxh b)=some (Kxh (Kxw s n a b)):=by
 unfold Kfp
 simp only
 rw [show (0:Int)=((0:Nat):Int) from rfl,Ky8 hs a b ha hb (by omega) a b 0 [] rfl rfl hab (by simp; omega)]
 rfl
end
theorem Kya {α:Type} {out:List α} {i:Nat} (h:i < out.length) (x:α):(out.set i x).take (i + 1)=out.take i ++ [x]:=by
 rw [List.take_set,List.take_succ_eq_append_getElem h,List.set_append_right _ _ (by simp; omega)]
 simp [Nat.min_eq_left (Nat.le_of_lt h)]
section
variable {s:K00} {n:Nat} (hs:Kxm s n)
include hs
theorem Kyb (a b:List Nat) (ha:Kxx n a) (hb:Kxx n b) (hl:a.length ≤ 1099511627776):∀ (al bl:List Nat) (i:Nat) (out:List Int),a.drop i=al→b.drop i=bl→al.length=bl.length→out.length=a.length →
  Kmu (s,Kxh a,Kxh b,out,(i:Int))=some (out.take i ++ Kxh (Kxu s n al bl)):=by
 intro al
 induction al with
 | nil =>
  intro bl i out hd _ _ ho
  rw [Kmu.eq_def]
  simp only
  have:=Kt4 hd
  rw [Kxi,Ks1 this]
  simp [Kxu,Kxh,List.take_of_length_le (show out.length ≤ i by omega)]
 | cons x al ih =>
  intro bl i out hd hd2 hll ho
  cases bl with
  | nil=>simp at hll
  | cons y bl =>
   obtain ⟨h1,h2,h3⟩:=Kxl hd
   obtain ⟨k1,k2,k3⟩:=Kxl hd2
   have hx:x < n:=Kxz ha i x (by rw [hd]; exact List.mem_cons_self)
   have hy:y < n:=Kxz hb i y (by rw [hd2]; exact List.mem_cons_self)
   rw [Kmu.eq_def]
   simp only
   simp only [List.length_cons] at hll
   have hio:i < out.length:=by omega
   rw [Kxi,Ks0 h1,if_pos rfl,h2,bs,k2,bs,Ksc hs.tab hx hy,bs,Kry hio,bs,Krz (by omega),Int.toNat_natCast,ih bl (i + 1) _ h3 k3 (by omega) (by rw [List.length_set]; exact ho)]
   rw [Kya hio,List.append_assoc]
   rfl
theorem Kyc (a b:List Nat) (ha:Kxx n a) (hb:Kxx n b) (hl:a.length ≤ 1048576) (hab:a.length=b.length):Kn0 (⟨s⟩,Kxh a,Kxh b)=some (Kxh (Kxu s n a b)):=by
 unfold Kn0 Kmx
 simp only
 rw [Kxi,Kwq (by simp; omega),bs,Int.toNat_natCast,show (0:Int)=((0:Nat):Int) from rfl]
 rw [show (List.replicate a.length (((0:Nat):Int)))=List.replicate a.length (0:Int) from rfl,Kyb hs a b ha hb (by omega) a b 0 _ rfl rfl hab (by simp)]
 rfl
theorem Kyd (a b:List Nat) (ha:Kxx n a) (hb:Kxx n b) (hl:a.length ≤ 1099511627776):∀ (al bl:List Nat) (i:Nat) (out:List Int),a.drop i=al→b.drop i=bl→al.length=bl.length→out.length=a.length →
  Kn7 (s,Kxh a,Kxh b,out,(i:Int))=some (out.take i ++ Kxh (Kxw s n al bl)):=by
 intro al
 induction al with
 | nil =>
  intro bl i out hd _ _ ho
  rw [Kn7.eq_def]
  simp only
  have:=Kt4 hd
  rw [Kxi,Ks1 this]
  simp [Kxw,Kxh,List.take_of_length_le (show out.length ≤ i by omega)]
 | cons x al ih =>
  intro bl i out hd hd2 hll ho
  cases bl with
  | nil=>simp at hll
  | cons y bl =>
   obtain ⟨h1,h2,h3⟩:=Kxl hd
   obtain ⟨k1,k2,k3⟩:=Kxl hd2
   have hx:x < n:=Kxz ha i x (by rw [hd]; exact List.mem_cons_self)
   have hy:y < n:=Kxz hb i y (by rw [hd2]; exact List.mem_cons_self)
   rw [Kn7.eq_def]
   simp only
   simp only [List.length_cons] at hll
   have hio:i < out.length:=by omega
   rw [Kxi,Ks0 h1,if_pos rfl,h2,bs,k2,bs,Kss hs.tab hx hy,bs,(Kxt hs hx hy).1,Kry hio,bs,Krz (by omega),Int.toNat_natCast,ih bl (i + 1) _ h3 k3 (by omega) (by rw [List.length_set]; exact ho)]
   rw [Kya hio,List.append_assoc]
   rfl
theorem Kye (a b:List Nat) (ha:Kxx n a) (hb:Kxx n b) (hl:a.length ≤ 1048576) (hab:a.length=b.length):Knd (⟨s⟩,Kxh a,Kxh b)=some (Kxh (Kxw s n a b)):=by
 unfold Knd Kna
 simp only
 rw [Kxi,Kwq (by simp; omega),bs,Int.toNat_natCast,show (0:Int)=((0:Nat):Int) from rfl]
 rw [show (List.replicate a.length (((0:Nat):Int)))=List.replicate a.length (0:Int) from rfl,Kyd hs a b ha hb (by omega) a b 0 _ rfl rfl hab (by simp)]
 rfl
theorem Kyf (g:Nat) (hg:g < n) (a:List Nat) (ha:Kxx n a) (hl:a.length ≤ 1099511627776):∀ (al:List Nat) (i:Nat) (out:List Int),a.drop i=al→out.length=a.length →
  Kob (⟨s⟩,(g:Int),Kxh a,out,(i:Int))=some (out.take i ++ Kxh (Kxv s n g al)):=by
 intro al
 induction al with
 | nil =>
  intro i out hd ho
  rw [Kob.eq_def]
  simp only
  have:=Kt4 hd
  rw [Kxi,Ks1 this]
  simp [Kxv,Kxh,List.take_of_length_le (show out.length ≤ i by omega)]
 | cons x al ih =>
  intro i out hd ho
  obtain ⟨h1,h2,h3⟩:=Kxl hd
  have hx:x < n:=Kxz ha i x (by rw [hd]; exact List.mem_cons_self)
  rw [Kob.eq_def]
  simp only
  have hio:i < out.length:=by omega
  rw [Kxi,Ks0 h1,if_pos rfl,h2,bs,Ksd hs.tab hg hx,bs,Kry hio,bs,Krz (by omega),Int.toNat_natCast,ih (i + 1) _ h3 (by rw [List.length_set]; exact ho)]
  rw [Kya hio,List.append_assoc]
  rfl
theorem Kyg (g:Nat) (hg:g < n) (a:List Nat) (ha:Kxx n a) (hl:a.length ≤ 1048576):Koe (⟨s⟩,(g:Int),Kxh a)=some (Kxh (Kxv s n g a)):=by
 unfold Koe
 simp only
 rw [Kxi,Kwq (by simp; omega),bs,Int.toNat_natCast,show (0:Int)=((0:Nat):Int) from rfl]
 rw [show (List.replicate a.length (((0:Nat):Int)))=List.replicate a.length (0:Int) from rfl,Kyf hs g hg a ha (by omega) a 0 _ rfl (by simp)]
 rfl
theorem Kyh (g:Nat) (hg:g < n) (a:List Nat) (ha:Kxx n a) (hl:a.length ≤ 1099511627776):∀ (al:List Nat) (i:Nat),a.drop i=al →
  ∃ r,Kny (Kxh a,⟨s⟩,(g:Int),(i:Int))=some r∧(match r with | .inl _=>(al.all fun x=>le s n x g)=true | .inr j=>(al.all fun x=>le s n x g)=false∧0 ≤ j):=by
 intro al
 induction al with
 | nil =>
  intro i hd
  rw [Kny.eq_def]
  simp only
  rw [Kxi,Ks1 (Kt4 hd)]
  exact ⟨_,rfl,rfl⟩
 | cons x al ih =>
  intro i hd
  obtain ⟨h1,h2,h3⟩:=Kxl hd
  have hx:x < n:=Kxz ha i x (by rw [hd]; exact List.mem_cons_self)
  rw [Kny.eq_def]
  simp only
  rw [Kxi,Ks0 h1,if_pos rfl,h2,bs]
  unfold Knu
  simp only
  rw [iLe hs.tab hx hg]
  simp only [bs]
  cases hle:le s n x g with
  | true =>
   obtain ⟨r,hr,hm⟩:=ih (i + 1) h3
   refine ⟨r,?_,?_⟩
   ·rw [if_neg (by simp),Krz (by omega)]; exact hr
   ·rw [List.all_cons,hle,Bool.true_and]; exact hm
  | false =>
   exact ⟨_,if_pos rfl,by simp [List.all_cons,hle]⟩
theorem Kyi (g:Nat) (hg:g < n) (a:List Nat) (ha:Kxx n a) (hl:a.length ≤ 1048576):Ko7 (⟨s⟩,Kxh a,(g:Int))=some (a.all fun x=>le s n x g):=by
 obtain ⟨r,hr,hm⟩:=Kyh hs g hg a ha (by omega) a 0 rfl
 unfold Ko7 Ko4 Ko1
 simp only
 rw [show (0:Int)=((0:Nat):Int) from rfl,hr]
 cases r with
 | inl _=>simp only [bs] at hm ⊢; rw [hm]; rfl
 | inr j =>
  simp only [bs] at hm ⊢
  rw [hm.1,decide_eq_true (by omega)]; rfl
end
theorem Kyj (k:Nat) (h:k ≤ 1048576):Kf5 (k:Int)=some (Kxh (List.replicate k 0)):=by
 unfold Kf5
 rw [Int.toNat_natCast,Kwq (by constructor <;> omega),bs]
 unfold Kxh
 rw [List.map_replicate]
 rfl
theorem Kyk (ctx front:List (List Int)) (h:ctx.length + front.length ≤ 1048576):Kf2 (ctx,front)=some (front ++ ctx):=by
 unfold Kf2
 simp only
 rw [Kv0 (by simp; omega),bs,Kv0 (by omega),bs]
theorem Kyl (ps:List (List Int)) (hp:ps.length ≤ 1099511627776):∀ (l:List (List Int)) (i:Nat) (out:List Int),ps.drop i=l→out.length + l.flatten.length ≤ 1099511627776→Kdn (ps,out,(i:Int))=some (out ++ l.flatten):=by
 intro l
 induction l with
 | nil =>
  intro i out hd _
  rw [Kdn.eq_def]
  simp only
  rw [Ks1 (Kt4 hd)]
  simp
 | cons x l ih =>
  intro i out hd ho
  obtain ⟨h1,h2,h3⟩:=Kt3 hd
  rw [List.flatten_cons,List.length_append] at ho
  rw [Kdn.eq_def]
  simp only
  rw [Ks0 h1,if_pos rfl,h2,bs,Kv0 (by omega),bs,Krz (by omega),ih (i + 1) _ h3 (by rw [List.length_append]; omega),List.flatten_cons,List.append_assoc]
theorem Kym (c:Int) (ps:List (List Int)) (hp:ps.length ≤ 1048576) (h:ps.flatten.length ≤ 1048576):Kdq (c,ps)=some (c :: ps.flatten):=by
 unfold Kdq
 simp only
 rw [show (0:Int)=((0:Nat):Int) from rfl,Kyl ps (by omega) ps 0 [c] rfl (by rw [List.length_singleton]; omega)]
 rfl
theorem Kyn (ps:List (List (Int))) (hp:ps.length ≤ 1099511627776):∀ (l:List (List (Int))) (i sz:Nat),ps.drop i=l→sz + l.flatten.length ≤ 1099511627776→Knk (ps,(sz:Int),(i:Int))=some (((sz + l.flatten.length:Nat)):Int):=by
 intro l
 induction l with
 | nil =>
  intro i sz hd _
  rw [Knk.eq_def]
  simp only
  rw [Ks1 (Kt4 hd)]
  simp
 | cons x l ih =>
  intro i sz hd ho
  obtain ⟨h1,h2,h3⟩:=Kt3 hd
  rw [List.flatten_cons,List.length_append] at ho
  have e:wr ((sz:Int) + (x.length:Int))=((sz + x.length:Nat):Int):=Kw8 (by omega) (by omega)
  rw [Knk.eq_def]
  simp only
  rw [Ks0 h1,if_pos rfl,h2,bs,e,decide_eq_false (by omega),if_neg (by decide),bs,Krz (by omega),ih (i + 1) _ h3 (by omega),List.flatten_cons,List.length_append,Nat.add_assoc]
theorem Kyo (ps:List (List (Int))) (hp:ps.length ≤ 1099511627776):∀ (l:List (List (Int))) (i:Nat) (out:List (Int)),ps.drop i=l→out.length + l.flatten.length ≤ 1099511627776→Kno (ps,out,(i:Int))=some (out ++ l.flatten):=by
 intro l
 induction l with
 | nil =>
  intro i out hd _
  rw [Kno.eq_def]
  simp only
  rw [Ks1 (Kt4 hd)]
  simp
 | cons x l ih =>
  intro i out hd ho
  obtain ⟨h1,h2,h3⟩:=Kt3 hd
  rw [List.flatten_cons,List.length_append] at ho
  rw [Kno.eq_def]
  simp only
  rw [Ks0 h1,if_pos rfl,h2,bs,Kv0 (by omega),bs,Krz (by omega),ih (i + 1) _ h3 (by rw [List.length_append]; omega),List.flatten_cons,List.append_assoc]
theorem Kyp (k:Nat) (h:k ≤ 1048576):Kng (k:Int)=some ():=by
 unfold Kng
 have e:wr ((k:Int) - wr (0 - 0))=(k:Int):=by rw [Krx (x:=0 - 0) (by decide) (by decide),Krx (by omega) (by omega)]; omega
 rw [decide_eq_false (by omega),if_neg (by decide),e]
 by_cases hk:k=0
 ·subst hk; rfl
 ·rw [decide_eq_true (by omega),if_pos rfl,Int.toNat_natCast,Kwq (by constructor <;> omega),bs]
theorem Kyq (ps:List (List (Int))) (hp:ps.length ≤ 1048576) (h:ps.flatten.length ≤ 1048576):Knr ps=some ps.flatten:=by
 unfold Knr
 have h0:=Kyn ps (by omega) ps 0 0 rfl (by omega)
 rw [Nat.zero_add] at h0
 rw [show (0:Int)=((0:Nat):Int) from rfl,h0,bs,Kyp _ h,bs,Kyo ps (by omega) ps 0 [] rfl (by rw [List.length_nil]; omega)]
 rfl
theorem Kyr (ps:List (List (List Int))) (hp:ps.length ≤ 1099511627776):∀ (l:List (List (List Int))) (i sz:Nat),ps.drop i=l→sz + l.flatten.length ≤ 1099511627776→Km5 (ps,(sz:Int),(i:Int))=some (((sz + l.flatten.length:Nat)):Int):=by
 intro l
 induction l with
 | nil =>
  intro i sz hd _
  rw [Km5.eq_def]
  simp only
  rw [Ks1 (Kt4 hd)]
  simp
 | cons x l ih =>
  intro i sz hd ho
  obtain ⟨h1,h2,h3⟩:=Kt3 hd
  rw [List.flatten_cons,List.length_append] at ho
  have e:wr ((sz:Int) + (x.length:Int))=((sz + x.length:Nat):Int):=Kw8 (by omega) (by omega)
  rw [Km5.eq_def]
  simp only
  rw [Ks0 h1,if_pos rfl,h2,bs,e,decide_eq_false (by omega),if_neg (by decide),bs,Krz (by omega),ih (i + 1) _ h3 (by omega),List.flatten_cons,List.length_append,Nat.add_assoc]
theorem Kys (ps:List (List (List Int))) (hp:ps.length ≤ 1099511627776):∀ (l:List (List (List Int))) (i:Nat) (out:List (List Int)),ps.drop i=l→out.length + l.flatten.length ≤ 1099511627776→Km9 (ps,out,(i:Int))=some (out ++ l.flatten):=by
 intro l
 induction l with
 | nil =>
  intro i out hd _
  rw [Km9.eq_def]
  simp only
  rw [Ks1 (Kt4 hd)]
  simp
 | cons x l ih =>
  intro i out hd ho
  obtain ⟨h1,h2,h3⟩:=Kt3 hd
  rw [List.flatten_cons,List.length_append] at ho
  rw [Km9.eq_def]
  simp only
  rw [Ks0 h1,if_pos rfl,h2,bs,Kv0 (by omega),bs,Krz (by omega),ih (i + 1) _ h3 (by rw [List.length_append]; omega),List.flatten_cons,List.append_assoc]
theorem Kyt (k:Nat) (h:k ≤ 1048576):Km1 (k:Int)=some ():=by
 unfold Km1
 have e:wr ((k:Int) - wr (0 - 0))=(k:Int):=by rw [Krx (x:=0 - 0) (by decide) (by decide),Krx (by omega) (by omega)]; omega
 rw [decide_eq_false (by omega),if_neg (by decide),e]
 by_cases hk:k=0
 ·subst hk; rfl
 ·rw [decide_eq_true (by omega),if_pos rfl,Int.toNat_natCast,Kwq (by constructor <;> omega),bs]
theorem Kyu (ps:List (List (List Int))) (hp:ps.length ≤ 1048576) (h:ps.flatten.length ≤ 1048576):Kmc ps=some ps.flatten:=by
 unfold Kmc
 have h0:=Kyr ps (by omega) ps 0 0 rfl (by omega)
 rw [Nat.zero_add] at h0
 rw [show (0:Int)=((0:Nat):Int) from rfl,h0,bs,Kyt _ h,bs,Kys ps (by omega) ps 0 [] rfl (by rw [List.length_nil]; omega)]
 rfl
def Kyv (s:K00) (ctx:List (List Int)):Bool:=decide (ctx.length ≤ 8) && ctx.all (yN s.fSize true)
theorem sYn {s:K00} {ty:List Int} (h:ty.length ≤ 1099511627776):(Kq2 ty >>= fun r=>if r=true then Kqa (ty,s.fSize,true) >>= fun q=>some (!q) else some true)=some (!yN s.fSize true ty):=by
 rw [Ktq ty h,bs]
 unfold yN
 cases wtB ty with
 | false=>rfl
 | true=>rw [if_pos rfl,Ktw ty h,bs]; rfl
theorem Kyw (s:K00) (ctx:List (List Int)) (hc:ctx.length ≤ 1048576) (hl:∀ ty ∈ ctx,ty.length ≤ 1099511627776):∀ (l:List (List Int)) (i:Nat),ctx.drop i=l→Kqe (s,ctx,(i:Int))=some (if l.all (yN s.fSize true) then .inl () else .inr false):=by
 intro l
 induction l with
 | nil =>
  intro i hd
  rw [Kqe.eq_def]
  simp only
  rw [Ks1 (Kt4 hd)]; rfl
 | cons x l ih =>
  intro i hd
  obtain ⟨h1,h2,h3⟩:=Kt3 hd
  have hx:x ∈ ctx:=List.mem_of_mem_drop (i:=i) (by rw [hd]; exact List.mem_cons_self)
  rw [Kqe.eq_def]
  simp only
  rw [Ks0 h1,if_pos rfl]
  simp only [h2,bs]
  rw [sYn (hl x hx),bs,Krz (by omega),ih (i + 1) h3,List.all_cons]
  cases yN s.fSize true x <;> cases l.all (yN s.fSize true) <;> rfl
theorem Kyx (s:K00) (ctx:List (List Int)) (hc:ctx.length ≤ 1048576) (hl:∀ ty ∈ ctx,ty.length ≤ 1099511627776):Kqh (s,ctx)=some (Kyv s ctx):=by
 unfold Kqh Kyv
 simp only
 by_cases h:ctx.length ≤ 8
 ·rw [decide_eq_false (by omega),decide_eq_true h,if_neg (by decide),show (0:Int)=((0:Nat):Int) from rfl,Kyw s ctx hc hl ctx 0 rfl,bs]
  cases ctx.all (yN s.fSize true) <;> rfl
 ·rw [decide_eq_true (by omega),decide_eq_false h,if_pos rfl]; rfl
theorem Kyy (s:K00) (ctx:List (List Int)) (hc:ctx.length ≤ 1048576) (hl:∀ ty ∈ ctx,ty.length ≤ 1099511627776):∀ (l:List (List Int)) (i:Nat),ctx.drop i=l→∃ r,Kkv (ctx,s,(i:Int))=some r∧(match r with | .inl _=>l.all (Kw1 s)=true | .inr j=>l.all (Kw1 s)=false∧0 ≤ j):=by
 intro l
 induction l with
 | nil =>
  intro i hd
  rw [Kkv.eq_def]
  simp only
  rw [Ks1 (Kt4 hd)]
  exact ⟨_,rfl,rfl⟩
 | cons x l ih =>
  intro i hd
  obtain ⟨h1,h2,h3⟩:=Kt3 hd
  have hx:x ∈ ctx:=List.mem_of_mem_drop (i:=i) (by rw [hd]; exact List.mem_cons_self)
  rw [Kkv.eq_def]
  simp only
  rw [Ks0 h1,if_pos rfl,h2,bs]
  unfold Kkr
  simp only
  rw [Kw3 s x (hl x hx)]
  simp only [bs]
  cases hle:Kw1 s x with
  | true =>
   obtain ⟨r,hr,hm⟩:=ih (i + 1) h3
   refine ⟨r,?_,?_⟩
   ·rw [if_neg (by simp),Krz (by omega)]; exact hr
   ·rw [List.all_cons,hle,Bool.true_and]; exact hm
  | false=>exact ⟨_,if_pos rfl,by simp [List.all_cons,hle]⟩
theorem Kyz (s:K00) (hs:Kve s=true) (ctx:List (List Int)) (hc:ctx.length ≤ 1048576) (hl:∀ ty ∈ ctx,ty.length ≤ 1099511627776):Kl4 (s,ctx)=some (Kyv s ctx):=by
 have e:ctx.all (Kw1 s)=ctx.all (yN s.fSize true):=by
  congr 1
  funext ty
  exact Kw6 (Kvf hs) ty
 unfold Kl4 Kyv
 simp only
 by_cases h:ctx.length ≤ 8
 ·rw [decide_eq_true (by omega:(ctx.length:Int) ≤ 8),decide_eq_true h,if_pos rfl]
  obtain ⟨r,hr,hm⟩:=Kyy s ctx hc hl ctx 0 rfl
  unfold Kl1 Kky
  simp only
  rw [show (0:Int)=((0:Nat):Int) from rfl,hr]
  rw [e] at hm
  cases r with
  | inl _=>simp only [bs] at hm ⊢; rw [hm]; rfl
  | inr j =>
   simp only [bs] at hm ⊢
   rw [hm.1,decide_eq_true (by omega)]; rfl
 ·rw [decide_eq_false (by omega),decide_eq_false h,if_neg (by decide)]; rfl
theorem Kz0 {s:K00} (ty:List Int) (h:ty.length ≤ 1099511627776):Kla (ty,s)=some (Kw1 s ty):=by
 unfold Kla
 simp only
 rw [Kw3 s ty h,bs]
mutual
theorem Kz1 (s:K00):∀ (t:K01) (n nodes:Nat),tms t ≤ 1099511627776→n + 2 * tms t ≤ 35184372088832→nodes ≤ 400→Klh (t,(n:Int),s,s,(nodes:Int))=some (Kut (tOk (Kvy s) (Kw1 s) n t) nodes (tsz t))
 | ⟨op,N,ty,ks⟩,n,nodes,ht,hn,hd=>by
  rw [tms] at ht hn
  rw [Klh.eq_def,tOk,tsz]
  simp only
  rw [Kug,bs]
  unfold Kuf
  cases hop:inB op 0 12
  ·simp [Kun,hop,Kut]
  ·simp only [if_true]
   rw [Krz (by omega)]
   by_cases h4:nodes + 1 ≤ 400
   ·rw [decide_eq_false (by omega:¬ ((nodes + 1:Nat):Int) > 400)]
    by_cases hk:(ks.length:Int)=Ku7 op
    ·rw [show ((ks.length:Int) != Ku7 op)=false by rw [hk]; exact Ks2]
     simp only [Bool.false_eq_true,if_false,bs]
     refine (Ktx (x:=Kul (Kvy s) (n:Int) ⟨op,N,ty,ks⟩) ?_).trans ?_
     ·unfold Kul
      simp only [iIn,Krx (x:=(n:Int) - 1) (by omega) (by omega),Kvz,bs]
      cases op == 0 <;> cases op == 1 <;> cases Ku8 op <;> rfl
     refine (Ktx (x:=Kul (Kvy s) (n:Int) ⟨op,N,ty,ks⟩ && Kum (Kw1 s) ⟨op,N,ty,ks⟩) ?_).trans ?_
     ·unfold Kum
      simp only [Kz0 ty (by omega),bs]
      cases Ku9 op <;> cases Kul (Kvy s) (n:Int) ⟨op,N,ty,ks⟩ <;> rfl
     have e:Kun (Kvy s) (Kw1 s) (n:Int) ⟨op,N,ty,ks⟩=(Kul (Kvy s) (n:Int) ⟨op,N,ty,ks⟩ && Kum (Kw1 s) ⟨op,N,ty,ks⟩):=by
      unfold Kun
      simp only
      rw [hop,hk]; simp
     rw [e]
     cases Kul (Kvy s) (n:Int) ⟨op,N,ty,ks⟩ && Kum (Kw1 s) ⟨op,N,ty,ks⟩
     ·simp [Kut]
     ·have h:=Kz2 s ks ⟨op,N,ty,ks⟩ n (nodes + 1) 0 rfl (by simp only; omega) (by omega) (by omega) h4
      rw [if_pos rfl,show (0:Int)=((0:Nat):Int) from rfl,h]
      simp only [Bool.true_and]
      unfold Kut
      rw [show nodes + (1 + Kty ks)=nodes + 1 + Kty ks by omega]
      cases Kuo (Kvy s) (Kw1 s) op n 0 ks && decide (nodes + 1 + Kty ks ≤ 400) <;> rfl
    ·rw [show ((ks.length:Int) != Ku7 op)=true by simpa using hk]
     have e:Kun (Kvy s) (Kw1 s) (n:Int) ⟨op,N,ty,ks⟩=false:=by
      unfold Kun
      simp only
      rw [show ((ks.length:Int) == Ku7 op)=false by simpa using hk]; simp
     simp [e,Kut]
   ·rw [decide_eq_true (by omega:((nodes + 1:Nat):Int) > 400)]
    have:¬ nodes + (1 + Kty ks) ≤ 400:=by omega
    simp [Kut,this]
theorem Kz2 (s:K00):∀ (ks:List K01) (t:K01) (n nodes i:Nat),t.fKids.drop i=ks→t.fKids.length ≤ 1099511627776→Ktz ks ≤ 1099511627776→n + 2 * (ks.length + Ktz ks) ≤ 35184372088832→nodes ≤ 400 →
  Kli (t,(n:Int),s,s,(nodes:Int),(i:Int))=some (if Kuo (Kvy s) (Kw1 s) t.fOp n i ks && decide (nodes + Kty ks ≤ 400) then .inl ((nodes + Kty ks:Nat):Int) else .inr 401)
 | [],t,n,nodes,i,hd,hk,ht,hn,h4=>by
  rw [Kli.eq_def,Kuo,Kty]
  simp only
  rw [Ks1 (Kt4 hd)]
  simp [h4]
 | k :: ks,t,n,nodes,i,hd,hk,ht,hn,h4=>by
  obtain ⟨hi,hx,hd'⟩:=Kt3 hd
  rw [Ktz] at ht hn
  rw [List.length_cons] at hn
  have ha:=Kui t.fOp (i:Int)
  rw [Kli.eq_def,Kuo,Kty]
  simp only
  rw [Ks0 hi,if_pos rfl,hx,bs,Kuk,bs,Krx (by omega) (by omega),show (n:Int) + ((Kuh t.fOp (i:Int):Nat):Int)=((n + Kuh t.fOp (i:Int):Nat):Int) by omega]
  rw [Kz1 s k (n + Kuh t.fOp (i:Int)) nodes (by omega) (by omega) h4,bs,Krz (by omega)]
  unfold Kut
  cases tOk (Kvy s) (Kw1 s) (n + Kuh t.fOp (i:Int)) k
  ·rfl
  ·by_cases q:nodes + tsz k ≤ 400
   ·rw [decide_eq_true q,Bool.true_and,if_pos rfl,decide_eq_false (by omega:¬ ((nodes + tsz k:Nat):Int) > 400),if_neg (by decide),Kz2 s ks t n (nodes + tsz k) (i + 1) hd' hk (by omega) (by omega) q,Nat.add_assoc,Bool.true_and]
   ·rw [decide_eq_false q,decide_eq_false (by omega:¬ nodes + (tsz k + Kty ks) ≤ 400)]
    simp
end
theorem Kz3 {s:K00} {n:Nat} (h:Tab s n):Kvy s=gN s.fSize true:=by
 funext g
 rw [Kw4 h]
 unfold gN inB
 rw [h.size]
 rw [Bool.eq_iff_iff]
 simp
 omega
theorem Kz4 (s:K00) (hs:Kve s=true) (t:K01) (n:Nat) (hn:n ≤ 8) (ht:tms t ≤ 1099511627776):Klo (s,t,(n:Int))=some (Kx2 s t n):=by
 have hy:Kw1 s=yN s.fSize true:=funext fun ty=>Kw6 (Kvf hs) ty
 unfold Klo Kx2
 simp only
 rw [iIn,bs,hs]
 have:inB (n:Int) 0 8=true:=by unfold inB; rw [decide_eq_true (by omega),decide_eq_true (by omega)]; rfl
 have hc:=Kz1 s t n 0 ht (by omega) (by omega)
 rw [Kz3 (Kvf hs),hy] at hc
 rw [this,if_pos rfl,show (0:Int)=((0:Nat):Int) from rfl,hc,bs]
 unfold Kut
 rw [Nat.zero_add]
 cases tOk (gN s.fSize true) (yN s.fSize true) n t
 ·simp [bs]
 ·by_cases h:tsz t ≤ 400
  ·simp [bs,h]; omega
  ·simp [bs,h]
def Kz5 (s:K00) (ctx:List (List Int)) (t:K01):Bool:=Kve s && Kyv s ctx && Kx2 s t ctx.length
theorem Kz6 (s:K00) (ctx:List (List Int)) (t:K01) (hc:ctx.length ≤ 1048576) (hl:∀ ty ∈ ctx,ty.length ≤ 1099511627776) (ht:tms t ≤ 1099511627776):Kra (s,ctx,t)=some (Kz5 s ctx t):=by
 unfold Kra Kz5
 simp only
 rw [Kvg,bs]
 cases hs:Kve s
 ·rfl
 ·rw [if_pos rfl,Kyx s ctx hc hl,bs]
  cases h2:Kyv s ctx
  ·rfl
  ·have h8:ctx.length ≤ 8:=by
    unfold Kyv at h2
    simp only [Bool.and_eq_true,decide_eq_true_eq] at h2
    exact h2.1
   rw [if_pos rfl,Kx3 s t _ h8 ht]
   rfl
theorem Kz7 (s:K00) (ctx:List (List Int)) (t:K01) (hc:ctx.length ≤ 1048576) (hl:∀ ty ∈ ctx,ty.length ≤ 1099511627776) (ht:tms t ≤ 1099511627776) :
  Kpe (s,ctx,t)=if Kz5 s ctx t then (Kp7 (⟨s⟩,ctx,t) >>= fun r=>some (some r)) else some none:=by
 unfold Kpe Kz5
 simp only
 rw [Kvh,bs]
 cases hs:Kve s
 ·rfl
 ·rw [if_pos rfl,Kyz s hs ctx hc hl,bs]
  cases h2:Kyv s ctx
  ·rfl
  ·have h8:ctx.length ≤ 8:=by
    unfold Kyv at h2
    simp only [Bool.and_eq_true,decide_eq_true_eq] at h2
    exact h2.1
   rw [if_pos rfl,Kz4 s hs t _ h8 ht,bs]
   cases Kx2 s t ctx.length <;> rfl
def TyS (s:K00) (ty:List Int):Prop:=yN s.fSize true ty=true
theorem Kz8 {s:K00} {ty:List Int} (h:TyS s ty):ty.length ≤ 40:=by
 unfold TyS yN at h
 rw [Bool.and_eq_true] at h
 exact Kux h.1
theorem Kz9 {s:K00} {ty:List Int} (h:TyS s ty):∃ T:Ty,T.ok∧ty=T.code∧T.code.length ≤ 40∧T.code.all (Ktt s.fSize true)=true:=by
 have hl:=Kz8 h
 unfold TyS yN at h
 rw [Bool.and_eq_true] at h
 obtain ⟨T,h1,rfl,_⟩:=Kvo h.1
 exact ⟨T,h1,rfl,hl,h.2⟩
theorem Kza {s:K00} {T:Ty} (h:T.ok) (hl:T.code.length ≤ 40) (hc:T.code.all (Ktt s.fSize true)=true):TyS s T.code:=by
 unfold TyS yN
 rw [Kvp h hl,hc]; rfl
structure Kzb (s:K00) (c:Int) (a b:List Int):Prop where
 ya:TyS s a
 yb:TyS s b
 p0:Kew (c :: (a ++ b),0)=some a
 p1:Kew (c :: (a ++ b),1)=some b
 pp:Klv (c :: (a ++ b))=some [a,b]
structure Kzc (s:K00) (c:Int) (a:List Int):Prop where
 ya:TyS s a
 p0:Kew (c :: a,0)=some a
 pp:Klv (c :: a)=some [a]
theorem Kzd {s:K00} {c:Int} (hc:c=35∨c=36):Ktt s.fSize true c=false:=by
 rcases hc with rfl | rfl
 ·unfold Ktt Kts
  rw [show Kt7 35=2 from rfl]; simp
 ·unfold Ktt Kts
  rw [show Kt7 36=1 from rfl]; simp
theorem Kze {s:K00}:TyS s [0]:=Kza (T:=.num) trivial (by decide) (by
 show (Ktt s.fSize true 0 && true)=true
 unfold Ktt
 rw [show Kt7 0=0 from rfl]; simp)
section
variable {s:K00} {n:Nat} (hs:Kxm s n)
include hs
theorem Kzf {c:Int} (hc:3 ≤ c∧c ≤ 18):Ktt s.fSize true c=true ↔ c - 3 < (n:Int):=by
 have hk:Kt7 c=2:=by rcases Ktb c with h | h | h | h <;> omega
 unfold Ktt Kts
 rw [hk,hs.tab.size,if_neg (by omega),if_neg (by omega)]
 simp
 omega
theorem Kzg {c:Int} (hc:19 ≤ c∧c ≤ 34):Ktt s.fSize true c=true ↔ c - 19 < (n:Int):=by
 have hk:Kt7 c=1:=by rcases Ktb c with h | h | h | h <;> omega
 unfold Ktt Kts
 rw [hk,hs.tab.size,if_neg (by omega),if_pos (by omega)]
 simp
 omega
theorem Kzh {ty:List Int} (h:TyS s ty):ty=[0]∨(∃ a b,ty=1 :: (a ++ b)∧Kzb s 1 a b)∨(∃ a b,ty=2 :: (a ++ b)∧Kzb s 2 a b) ∨
  (∃ (g:Nat) (a b:List Int),g < n∧g ≤ 15∧ty=(3 + (g:Int)) :: (a ++ b)∧Kzb s (3 + (g:Int)) a b)∨(∃ (g:Nat) (a:List Int),g < n∧g ≤ 15∧ty=(19 + (g:Int)) :: a∧Kzc s (19 + (g:Int)) a):=by
 obtain ⟨T,hT,rfl,hl,hc⟩:=Kz9 h
 cases T with
 | num=>exact .inl rfl
 | bin c a b =>
  have B:=Kwp hT (by omega)
  have hl':=hl
  rw [Ty.code,List.length_cons,List.length_append] at hl'
  rw [Ty.code,List.all_cons,List.all_append,Bool.and_eq_true,Bool.and_eq_true] at hc
  have hP:Kzb s c a.code b.code:=⟨Kza B.ok.1 (by omega) hc.2.1,Kza B.ok.2 (by omega) hc.2.2,B.p0,B.p1,B.pp⟩
  have hk:=hT.1
  rcases Ktb c with ⟨q,e⟩ | ⟨q,e⟩ | ⟨q,e⟩ | ⟨q,e⟩
  ·rw [e] at hk; exact absurd hk (by decide)
  ·rcases q with rfl | rfl | q | rfl
   ·exact .inr (.inl ⟨_,_,rfl,hP⟩)
   ·exact .inr (.inr (.inl ⟨_,_,rfl,hP⟩))
   ·have:=(Kzf hs q).1 hc.1
    obtain ⟨g,hg⟩:∃ g:Nat,c=3 + (g:Int):=⟨(c - 3).toNat,by omega⟩
    subst hg
    exact .inr (.inr (.inr (.inl ⟨g,_,_,by omega,by omega,rfl,hP⟩)))
   ·rw [Kzd (s:=s) (.inl rfl)] at hc; exact absurd hc.1 (by decide)
  ·rw [e] at hk; exact absurd hk (by decide)
  ·rw [e] at hk; exact absurd hk (by decide)
 | un c a =>
  have B:=unP hT (by omega)
  have hl':=hl
  rw [Ty.code,List.length_cons] at hl'
  rw [Ty.code,List.all_cons,Bool.and_eq_true] at hc
  have hP:Kzc s c a.code:=⟨Kza B.ok (by omega) hc.2,B.p0,B.pp⟩
  have hk:=hT.1
  rcases Ktb c with ⟨q,e⟩ | ⟨q,e⟩ | ⟨q,e⟩ | ⟨q,e⟩
  ·rw [e] at hk; exact absurd hk (by decide)
  ·rw [e] at hk; exact absurd hk (by decide)
  ·rcases q with q | rfl
   ·have:=(Kzg hs q).1 hc.1
    obtain ⟨g,hg⟩:∃ g:Nat,c=19 + (g:Int):=⟨(c - 19).toNat,by omega⟩
    subst hg
    exact .inr (.inr (.inr (.inr ⟨g,_,by omega,by omega,rfl,hP⟩)))
   ·rw [Kzd (s:=s) (.inr rfl)] at hc; exact absurd hc.1 (by decide)
  ·rw [e] at hk; exact absurd hk (by decide)
theorem Kzi {c:Int} {a b:List Int} (ha:TyS s a) (hb:TyS s b) (hc:c=1∨c=2∨∃ g:Nat,g < n∧c=3 + (g:Int)) (hl:(c :: (a ++ b)).length ≤ 40):TyS s (c :: (a ++ b)):=by
 obtain ⟨A,hA,rfl,_,hAc⟩:=Kz9 ha
 obtain ⟨B,hB,rfl,_,hBc⟩:=Kz9 hb
 have hn:=hs.tab.hi
 have hk:Kt7 c=2∧Ktt s.fSize true c=true:=by
  rcases hc with rfl | rfl | ⟨g,hg,rfl⟩
  ·exact ⟨rfl,by unfold Ktt; rw [show Kt7 1=2 from rfl]; simp⟩
  ·exact ⟨rfl,by unfold Ktt; rw [show Kt7 2=2 from rfl]; simp⟩
  ·refine ⟨by rcases Ktb (3 + (g:Int)) with h | h | h | h <;> omega,(Kzf hs (by omega)).2 (by omega)⟩
 have:TyS s (Ty.bin c A B).code:=Kza ⟨hk.1,hA,hB⟩ hl (by rw [Ty.code,List.all_cons,List.all_append,hk.2,hAc,hBc]; rfl)
 exact this
theorem Kzj {g:Nat} (hg:g < n) {a:List Int} (ha:TyS s a) (hl:((19 + (g:Int)) :: a).length ≤ 40):TyS s ((19 + (g:Int)) :: a):=by
 obtain ⟨A,hA,rfl,_,hAc⟩:=Kz9 ha
 have hn:=hs.tab.hi
 have hk:Kt7 (19 + (g:Int))=1:=by rcases Ktb (19 + (g:Int)) with h | h | h | h <;> omega
 have:TyS s (Ty.un (19 + (g:Int)) A).code:=Kza ⟨hk,hA⟩ hl (by rw [Ty.code,List.all_cons,(Kzg hs (by omega)).2 (by omega),hAc]; rfl)
 exact this
theorem Kzk {x:Int} (h:gN s.fSize true x=true):∃ g:Nat,x=(g:Int)∧g < n:=by
 unfold gN at h
 rw [hs.tab.size] at h
 simp at h
 exact ⟨x.toNat,by omega,by omega⟩
end
structure Kzl (s:K00) (n:Nat) (k:K01) (m:Nat):Prop where
 ok:tOk (gN s.fSize true) (yN s.fSize true) n k=true
 sz:tsz k + 1 ≤ m
theorem nd1 {s:K00} {n m:Nat} {op N:Int} {ty:List Int} {ks:List K01} (h:tOk (gN s.fSize true) (yN s.fSize true) n ⟨op,N,ty,ks⟩=true) (hm:tsz ⟨op,N,ty,ks⟩ ≤ m) (hk:Ku7 op=1):∃ a,ks=[a]∧Kzl s (n + Kuh op 0) a m:=by
 obtain ⟨h1,h2⟩:=Kuy h
 obtain ⟨a,rfl⟩:=Kx0 (l:=ks) (beq_iff_eq.2 (by rw [← hk]; exact (Kv1 h1).2))
 simp only at h2
 rw [Kwy,Bool.and_eq_true] at h2
 rw [Kxd] at hm
 exact ⟨a,rfl,h2.1,by omega⟩
theorem nd2 {s:K00} {n m:Nat} {op N:Int} {ty:List Int} {ks:List K01} (h:tOk (gN s.fSize true) (yN s.fSize true) n ⟨op,N,ty,ks⟩=true) (hm:tsz ⟨op,N,ty,ks⟩ ≤ m) (hk:Ku7 op=2):∃ a b,ks=[a,b]∧Kzl s (n + Kuh op 0) a m∧Kzl s (n + Kuh op 1) b m:=by
 obtain ⟨h1,h2⟩:=Kuy h
 obtain ⟨a,b,rfl⟩:=Kx1 (l:=ks) (beq_iff_eq.2 (by rw [← hk]; exact (Kv1 h1).2))
 simp only at h2
 rw [Kwy,Kwy,Bool.and_eq_true,Bool.and_eq_true] at h2
 rw [Kxe] at hm
 exact ⟨a,b,rfl,⟨h2.1,by omega⟩,⟨h2.2.1,by omega⟩⟩
theorem nd3 {s:K00} {n m:Nat} {op N:Int} {ty:List Int} {ks:List K01} (h:tOk (gN s.fSize true) (yN s.fSize true) n ⟨op,N,ty,ks⟩=true) (hm:tsz ⟨op,N,ty,ks⟩ ≤ m) (hk:Ku7 op=3):∃ a b c,ks=[a,b,c]∧Kzl s (n + Kuh op 0) a m∧Kzl s (n + Kuh op 1) b m∧Kzl s (n + Kuh op 2) c m:=by
 obtain ⟨h1,h2⟩:=Kuy h
 obtain ⟨a,b,c,rfl⟩:=Kxg (l:=ks) (by rw [← hk]; exact (Kv1 h1).2)
 simp only at h2
 rw [Kwy,Kwy,Kwy,Bool.and_eq_true,Bool.and_eq_true,Bool.and_eq_true] at h2
 rw [Kxf] at hm
 exact ⟨a,b,c,rfl,⟨h2.1,by omega⟩,⟨h2.2.1,by omega⟩,⟨h2.2.2.1,by omega⟩⟩
theorem Kzm {s:K00} {n:Nat} {t:K01} (h:tOk (gN s.fSize true) (yN s.fSize true) n t=true) (hg:Ku8 t.fOp=true):gN s.fSize true t.fN=true:=by
 have h1:=(Kuy h).1
 unfold Kun Kul at h1
 simp only [Bool.and_eq_true] at h1
 have h2:=h1.1.2
 have hop:(t.fOp == 0)=false∧(t.fOp == 1)=false:=by
  simp only [Ku8,Bool.or_eq_true,beq_iff_eq] at hg
  constructor <;> rw [beq_eq_false_iff_ne] <;> omega
 rw [hop.1,hop.2,hg] at h2
 simpa using h2
theorem Kzn {s:K00} {n:Nat} {t:K01} (h:tOk (gN s.fSize true) (yN s.fSize true) n t=true) (hg:Ku9 t.fOp=true):TyS s t.fType:=by
 have h1:=(Kuy h).1
 unfold Kun Kum at h1
 simp only [Bool.and_eq_true] at h1
 have h2:=h1.2
 rw [hg] at h2
 show yN s.fSize true t.fType=true
 simpa using h2
theorem Kzo {s:K00} {n:Nat} {t:K01} (h:tOk (gN s.fSize true) (yN s.fSize true) n t=true) (hg:t.fOp=0):∃ i:Nat,t.fN=(i:Int)∧i < n∧t.fKids=[]:=by
 have h1:=(Kuy h).1
 have hl:=(Kv1 h1).2
 unfold Kun Kul at h1
 simp only [Bool.and_eq_true] at h1
 have h2:=h1.1.2
 rw [hg] at h2 hl
 simp [inB] at h2
 refine ⟨t.fN.toNat,by omega,by omega,?_⟩
 have:(t.fKids.length:Int)=0:=hl
 exact List.eq_nil_of_length_eq_zero (by omega)
theorem Kzp {s:K00} {n:Nat} {t:K01} (h:tOk (gN s.fSize true) (yN s.fSize true) n t=true) (hg:t.fOp=1):t.fKids=[]:=by
 have h1:=(Kuy h).1
 have hl:=(Kv1 h1).2
 rw [hg] at hl
 have:(t.fKids.length:Int)=0:=hl
 exact List.eq_nil_of_length_eq_zero (by omega)
end Go.Am
