/- Plain laws of the printed functions. -/
import Derived.Test.YtckgdfakjjdodaaGreatPDEFx
set_option linter.unusedSimpArgs false
set_option linter.unusedVariables false
namespace Go.Am
theorem Kmz {x:Int} (h1:-9223372036854775808 ≤ x) (h2:x ≤ 9223372036854775807):wr x=x:=by
 unfold wr IntKind.wrap
 simp [IntKind.bits,IntKind.signed]
 omega
theorem Kn0 {α:Type} {l:List α} {n:Nat} (h:n < l.length):idx l (n:Int)=some l[n]:=by
 unfold idx
 rw [if_pos (by omega)]
 simp [h]
theorem bs {α β:Type} (a:α) (f:α→Option β):(some a >>= f)=f a:=rfl
theorem Kn1 {n:Nat} (h:n < 9223372036854775807):wr ((n:Int) + 1)=((n + 1:Nat):Int):=by
 rw [Kmz (by omega) (by omega)]; omega
theorem Kn2 {n m:Nat} (h:n < m):decide ((n:Int) < (m:Int))=true:=decide_eq_true (by omega)
theorem Kn3 {n m:Nat} (h:m ≤ n):decide ((n:Int) < (m:Int))=false:=decide_eq_false (by omega)
theorem Kn4 {a:Int}:(a != a)=false:=by simp
structure Tab (s:K00) (n:Nat):Prop where
 size:s.fSize=(n:Int)
 lo:2 ≤ n
 hi:n ≤ 16
 lp:s.fPlus.length=n * n
 lt:s.fTimes.length=n * n
 lb:s.fBelow.length=n * n
 rp:∀ i (h:i < s.fPlus.length),0 ≤ s.fPlus[i]∧s.fPlus[i] < (n:Int)
 rt:∀ i (h:i < s.fTimes.length),0 ≤ s.fTimes[i]∧s.fTimes[i] < (n:Int)
def pl (s:K00) (n a b:Nat):Nat:=(s.fPlus.getD (a * n + b) 0).toNat
def ti (s:K00) (n a b:Nat):Nat:=(s.fTimes.getD (a * n + b) 0).toNat
def le (s:K00) (n a b:Nat):Bool:=s.fBelow.getD (a * n + b) false
theorem Kn5 {n a b:Nat} (ha:a < n) (hb:b < n):a * n + b < n * n:=by
 have:(a + 1) * n ≤ n * n:=Nat.mul_le_mul_right _ (by omega)
 rw [Nat.add_mul,Nat.one_mul] at this
 omega
theorem Kn6 {n a b:Nat} (hn:n ≤ 16) (ha:a < n) (hb:b < n):wr ((wr ((a:Int) * (n:Int))) + (b:Int))=((a * n + b:Nat):Int):=by
 have h1:a * n ≤ 256:=Nat.le_trans (Nat.mul_le_mul (by omega:a ≤ 16) hn) (by decide)
 have e:(a:Int) * (n:Int)=((a * n:Nat):Int):=by simp
 rw [e]
 generalize a * n=m at h1
 rw [Kmz (x:=(m:Int)) (by omega) (by omega),Kmz (by omega) (by omega)]
 omega
section
variable {s:K00} {n:Nat} (h:Tab s n)
include h
theorem Kn7 {a b:Nat} (ha:a < n) (hb:b < n):pl s n a b < n:=by
 have hl:a * n + b < s.fPlus.length:=by rw [h.lp]; exact Kn5 ha hb
 unfold pl
 rw [List.getD_eq_getElem?_getD,List.getElem?_eq_getElem hl]
 have:=h.rp _ hl
 simp only [Option.getD_some]
 omega
theorem Kn8 {a b:Nat} (ha:a < n) (hb:b < n):ti s n a b < n:=by
 have hl:a * n + b < s.fTimes.length:=by rw [h.lt]; exact Kn5 ha hb
 unfold ti
 rw [List.getD_eq_getElem?_getD,List.getElem?_eq_getElem hl]
 have:=h.rt _ hl
 simp only [Option.getD_some]
 omega
theorem Kn9 {a b:Nat} (ha:a < n) (hb:b < n):idx s.fPlus ((a * n + b:Nat):Int)=some ((pl s n a b:Nat):Int):=by
 have hl:a * n + b < s.fPlus.length:=by rw [h.lp]; exact Kn5 ha hb
 rw [Kn0 hl]
 unfold pl
 rw [List.getD_eq_getElem?_getD,List.getElem?_eq_getElem hl]
 have:=h.rp _ hl
 simp only [Option.getD_some]
 congr 1
 omega
theorem Kna {a b:Nat} (ha:a < n) (hb:b < n):idx s.fTimes ((a * n + b:Nat):Int)=some ((ti s n a b:Nat):Int):=by
 have hl:a * n + b < s.fTimes.length:=by rw [h.lt]; exact Kn5 ha hb
 rw [Kn0 hl]
 unfold ti
 rw [List.getD_eq_getElem?_getD,List.getElem?_eq_getElem hl]
 have:=h.rt _ hl
 simp only [Option.getD_some]
 congr 1
 omega
theorem Knb {a b:Nat} (ha:a < n) (hb:b < n):idx s.fBelow ((a * n + b:Nat):Int)=some (le s n a b):=by
 have hl:a * n + b < s.fBelow.length:=by rw [h.lb]; exact Kn5 ha hb
 rw [Kn0 hl]
 unfold le
 rw [List.getD_eq_getElem?_getD,List.getElem?_eq_getElem hl]
 rfl
theorem Knc {a b:Nat} (ha:a < n) (hb:b < n):K9a (s,(a:Int),(b:Int))=some ((pl s n a b:Nat):Int):=by
 unfold K9a
 simp only
 rw [h.size,Kn6 h.hi ha hb,Kn9 h ha hb,bs]
theorem Knd {a b:Nat} (ha:a < n) (hb:b < n):K9h (s,(a:Int),(b:Int))=some ((ti s n a b:Nat):Int):=by
 unfold K9h
 simp only
 rw [h.size,Kn6 h.hi ha hb,Kna h ha hb,bs]
theorem sLe {a b:Nat} (ha:a < n) (hb:b < n):K9k (s,(a:Int),(b:Int))=some (le s n a b):=by
 unfold K9k
 simp only
 rw [h.size,Kn6 h.hi ha hb,Knb h ha hb,bs]
theorem Kne {a b:Nat} (ha:a < n) (hb:b < n):Kcw (s,(a:Int),(b:Int))=some ((pl s n a b:Nat):Int):=by
 unfold Kcw
 simp only
 rw [h.size,Kn6 h.hi ha hb,Kn9 h ha hb,bs]
theorem Knf {a b:Nat} (ha:a < n) (hb:b < n):Kd3 (s,(a:Int),(b:Int))=some ((ti s n a b:Nat):Int):=by
 unfold Kd3
 simp only
 rw [h.size,Kn6 h.hi ha hb,Kna h ha hb,bs]
theorem iLe {a b:Nat} (ha:a < n) (hb:b < n):Kd6 (s,(a:Int),(b:Int))=some (le s n a b):=by
 unfold Kd6
 simp only
 rw [h.size,Kn6 h.hi ha hb,Knb h ha hb,bs]
end
theorem Kng (x y:Nat):(((x:Nat):Int) == ((y:Nat):Int))=(x == y):=by
 cases hb:(x == y) with
 | true=>have:=eq_of_beq hb; subst this; simp
 | false=>simp at hb ⊢; omega
theorem Knh (x y:Nat):(((x:Nat):Int) != ((y:Nat):Int))=(x != y):=by
 simp only [bne,Kng]
def Kni (s:K00) (n a:Nat):Bool:=(pl s n 0 a == a) && (ti s n 1 a == a) && (ti s n a 1 == a) && (ti s n 0 a == 0) && (ti s n a 0 == 0) && le s n a a
def Knj (s:K00) (n a b c:Nat):Bool :=
 (pl s n (pl s n a b) c == pl s n a (pl s n b c)) && (ti s n (ti s n a b) c == ti s n a (ti s n b c)) &&
 (ti s n a (pl s n b c) == pl s n (ti s n a b) (ti s n a c)) && (ti s n (pl s n a b) c == pl s n (ti s n a c) (ti s n b c)) &&
 (!(le s n a b) || ((!(le s n b c) || le s n a c) && le s n (pl s n a c) (pl s n b c) && le s n (ti s n a c) (ti s n b c) && le s n (ti s n c a) (ti s n c b)))
section
variable {s:K00} {n:Nat} (h:Tab s n)
include h
theorem Knk {a:Nat} (ha:a < n):K9n (s,(a:Int))=some (Kni s n a):=by
 have l0:(0:Nat) < n:=by have:=h.lo; omega
 have l1:(1:Nat) < n:=by have:=h.lo; omega
 have e0:(0:Int)=((0:Nat):Int):=rfl
 have e1:(1:Int)=((1:Nat):Int):=rfl
 unfold K9n Kni
 simp only
 rw [e0,e1]
 simp only [Knc h l0 ha,Knd h l1 ha,Knd h ha l1,Knd h l0 ha,Knd h ha l0,sLe h ha ha,bs,Kng]
 generalize (pl s n 0 a == a)=b1
 generalize (ti s n 1 a == a)=b2
 generalize (ti s n a 1 == a)=b3
 generalize (ti s n 0 a == 0)=b4
 generalize (ti s n a 0 == 0)=b5
 generalize le s n a a=b6
 cases b1 <;> cases b2 <;> cases b3 <;> cases b4 <;> cases b5 <;> cases b6 <;> rfl
theorem Knl {a b c:Nat} (ha:a < n) (hb:b < n) (hc:c < n):Ka4 (s,(a:Int),(b:Int),(c:Int))=some (Knj s n a b c):=by
 unfold Ka4 Knj
 simp only
 simp only [Knc h,Knd h,sLe h,Kn7 h,Kn8 h,ha,hb,hc,bs,Knh]
 generalize e1:pl s n (pl s n a b) c=x1
 generalize e2:pl s n a (pl s n b c)=x2
 generalize e3:ti s n (ti s n a b) c=x3
 generalize e4:ti s n a (ti s n b c)=x4
 generalize ti s n a (pl s n b c)=x5
 generalize pl s n (ti s n a b) (ti s n a c)=x6
 generalize ti s n (pl s n a b) c=x7
 generalize pl s n (ti s n a c) (ti s n b c)=x8
 generalize le s n (pl s n a c) (pl s n b c)=y1
 generalize le s n (ti s n a c) (ti s n b c)=y2
 generalize le s n (ti s n c a) (ti s n c b)=y3
 generalize le s n a b=y4
 generalize le s n b c=y5
 generalize le s n a c=y6
 simp only [bne]
 generalize (x1 == x2)=b1
 generalize (x3 == x4)=b2
 generalize (x5 == x6)=b3
 generalize (x7 == x8)=b4
 cases b1 <;> cases b2 <;> cases b3 <;> cases b4 <;> first | rfl | (cases y4 <;> cases y5 <;> cases y6 <;> cases y1 <;> cases y2 <;> cases y3 <;> rfl)
theorem Knm {a b c:Nat} (ha:a < n) (hb:b < n) (hc:c < n):Kdl (s,(a:Int),(b:Int),(c:Int))=some (Knj s n a b c):=by
 unfold Kdl Knj
 simp only
 simp only [Kne h,Knf h,iLe h,Kn7 h,Kn8 h,ha,hb,hc,bs,Knh]
 generalize e1:pl s n (pl s n a b) c=x1
 generalize e2:pl s n a (pl s n b c)=x2
 generalize e3:ti s n (ti s n a b) c=x3
 generalize e4:ti s n a (ti s n b c)=x4
 generalize ti s n a (pl s n b c)=x5
 generalize pl s n (ti s n a b) (ti s n a c)=x6
 generalize ti s n (pl s n a b) c=x7
 generalize pl s n (ti s n a c) (ti s n b c)=x8
 generalize le s n (pl s n a c) (pl s n b c)=y1
 generalize le s n (ti s n a c) (ti s n b c)=y2
 generalize le s n (ti s n c a) (ti s n c b)=y3
 generalize le s n a b=y4
 generalize le s n b c=y5
 generalize le s n a c=y6
 simp only [bne]
 generalize (x1 == x2)=b1
 generalize (x3 == x4)=b2
 generalize (x5 == x6)=b3
 generalize (x7 == x8)=b4
 cases b1 <;> cases b2 <;> cases b3 <;> cases b4 <;> first | rfl | (cases y4 <;> cases y5 <;> cases y6 <;> cases y1 <;> cases y2 <;> cases y3 <;> rfl)
end
def Knn (s:K00) (n a b g h:Nat):Bool:=!le s n a h || !le s n b h || le s n g h
def jok (s:K00) (n a b g:Nat):Bool:=le s n a g && le s n b g && (List.range' 0 n).all (Knn s n a b g)
def Kno (s:K00) (n a b:Nat):Int:=match (List.range' 0 n).find? (jok s n a b) with | some g=>(g:Int) | none=>-1
section
variable {s:K00} {n:Nat} (h:Tab s n)
include h
theorem Knp {a b g:Nat} (ha:a < n) (hb:b < n) (hg:g < n):∀ (k m:Nat) (ok:Bool),m + k=n→K9r (s,(a:Int),(b:Int),(g:Int),ok,(m:Int))=some (ok && (List.range' m k).all (Knn s n a b g)):=by
 have hhi:=h.hi
 intro k
 induction k with
 | zero =>
  intro m ok hm
  rw [K9r.eq_def]
  simp only
  rw [h.size,Kn3 (by omega)]
  simp [bs]
 | succ k ih =>
  intro m ok hm
  rw [K9r.eq_def]
  simp only
  rw [h.size,Kn2 (by omega),if_pos rfl,bs,sLe h ha (by omega),sLe h hb (by omega),sLe h hg (by omega)]
  cases ok with
  | false=>rfl
  | true =>
   rw [if_pos rfl]
   rw [List.range'_succ,List.all_cons]
   have ih:∀ ok,_:=fun ok=>ih (m + 1) ok (by omega)
   rw [Kn1 (by omega)]
   generalize ((m + 1:Nat):Int)=M at ih ⊢
   simp only [bs,Knn]
   cases le s n a m <;> cases le s n b m <;> cases le s n g m <;> simp [bs,ih,Knn]
theorem Knq {a b g:Nat} (ha:a < n) (hb:b < n) (hg:g < n):∀ (k m:Nat) (ok:Bool),m + k=n→Kda (s,(a:Int),(b:Int),(g:Int),ok,(m:Int))=some (ok && (List.range' m k).all (Knn s n a b g)):=by
 have hhi:=h.hi
 intro k
 induction k with
 | zero =>
  intro m ok hm
  rw [Kda.eq_def]
  simp only
  rw [h.size,Kn3 (by omega)]
  simp [bs]
 | succ k ih =>
  intro m ok hm
  rw [Kda.eq_def]
  simp only
  rw [h.size,Kn2 (by omega),if_pos rfl,iLe h ha (by omega),iLe h hb (by omega),iLe h hg (by omega)]
  rw [List.range'_succ,List.all_cons]
  have ih:∀ ok,_:=fun ok=>ih (m + 1) ok (by omega)
  rw [Kn1 (by omega)]
  generalize ((m + 1:Nat):Int)=M at ih ⊢
  simp only [bs,Knn]
  cases ok <;> cases le s n a m <;> cases le s n b m <;> cases le s n g m <;> simp [bs,ih,Knn]
theorem Knr {a b:Nat} (ha:a < n) (hb:b < n):∀ (k g:Nat),g + k=n→K9v (s,(a:Int),(b:Int),(g:Int))=some (match (List.range' g k).find? (jok s n a b) with | some g=>.inr (g:Int) | none=>.inl ()):=by
 have hhi:=h.hi
 intro k
 induction k with
 | zero =>
  intro g hm
  rw [K9v.eq_def]
  simp only
  rw [h.size,Kn3 (by omega)]
  rfl
 | succ k ih =>
  intro g hm
  rw [K9v.eq_def]
  simp only
  rw [h.size,Kn2 (by omega),if_pos rfl,sLe h ha (by omega),sLe h hb (by omega)]
  have ih:=ih (g + 1) (by omega)
  rw [Kn1 (by omega),List.range'_succ,List.find?_cons]
  have hl:=fun ok=>Knp h ha hb (g:=g) (by omega) n 0 ok (by omega)
  rw [show ((0:Nat):Int)=0 from rfl] at hl
  generalize ((g + 1:Nat):Int)=M at ih ⊢
  have hj:jok s n a b g=(le s n a g && le s n b g && (List.range' 0 n).all (Knn s n a b g)):=rfl
  rw [hj]
  cases le s n a g <;> cases le s n b g <;> cases hq:(List.range' 0 n).all (Knn s n a b g) <;> simp [bs,hl,hq,ih]
theorem Kns {a b:Nat} (ha:a < n) (hb:b < n):∀ (k g:Nat),g + k=n→Kdf (s,(a:Int),(b:Int),(g:Int))=some (match (List.range' g k).find? (jok s n a b) with | some g=>.inr (g:Int) | none=>.inl ()):=by
 have hhi:=h.hi
 intro k
 induction k with
 | zero =>
  intro g hm
  rw [Kdf.eq_def]
  simp only
  rw [h.size,Kn3 (by omega)]
  rfl
 | succ k ih =>
  intro g hm
  rw [Kdf.eq_def]
  simp only
  rw [h.size,Kn2 (by omega),if_pos rfl,iLe h ha (by omega),iLe h hb (by omega)]
  have ih:=ih (g + 1) (by omega)
  rw [Kn1 (by omega),List.range'_succ,List.find?_cons]
  have hl:=fun ok=>Knq h ha hb (g:=g) (by omega) n 0 ok (by omega)
  rw [show ((0:Nat):Int)=0 from rfl] at hl
  generalize ((g + 1:Nat):Int)=M at ih ⊢
  have hj:jok s n a b g=(le s n a g && le s n b g && (List.range' 0 n).all (Knn s n a b g)):=rfl
  rw [hj]
  cases le s n a g <;> cases le s n b g <;> cases hq:(List.range' 0 n).all (Knn s n a b g) <;> simp [bs,hl,hq,ih]
theorem Knt {a b:Nat} (ha:a < n) (hb:b < n):K9y (s,(a:Int),(b:Int))=some (Kno s n a b):=by
 unfold K9y Kno
 simp only
 have:=Knr h ha hb n 0 (by omega)
 rw [show ((0:Nat):Int)=0 from rfl] at this
 rw [this,bs]
 cases (List.range' 0 n).find? (jok s n a b) <;> rfl
theorem Knu {a b:Nat} (ha:a < n) (hb:b < n):Kdi (s,(a:Int),(b:Int))=some (Kno s n a b):=by
 unfold Kdi Kno
 simp only
 have:=Kns h ha hb n 0 (by omega)
 rw [show ((0:Nat):Int)=0 from rfl] at this
 rw [this,bs]
 cases (List.range' 0 n).find? (jok s n a b) <;> rfl
def Knv (s:K00) (n a b:Nat):Bool:=(pl s n a b == pl s n b a) && ((a == b) || !le s n a b || !le s n b a) && decide (Kno s n a b ≥ 0)
omit h in
theorem Knw (x:Int):decide (x < 0)=!decide (x ≥ 0):=by
 by_cases h:x < 0
 ·rw [decide_eq_true h,decide_eq_false (by omega)]; rfl
 ·rw [decide_eq_false h,decide_eq_true (by omega)]; rfl
theorem Knx {a b:Nat} (ha:a < n) (hb:b < n):Ka1 (s,(a:Int),(b:Int))=some (Knv s n a b):=by
 unfold Ka1 Knv
 simp only
 rw [Knc h ha hb,Knc h hb ha,sLe h ha hb,sLe h hb ha,Knt h ha hb]
 simp only [bs,Kng]
 generalize (pl s n a b == pl s n b a)=b1
 generalize (a == b)=b2
 cases b1 <;> cases b2 <;> cases le s n a b <;> cases le s n b a <;> simp [bs]
end
def inB (x lo hi:Int):Bool:=decide (x ≥ lo) && decide (x ≤ hi)
theorem sIn (x lo hi:Int):K82 (x,lo,hi)=some (inB x lo hi):=by
 unfold K82 inB
 simp only
 cases decide (x ≥ lo) <;> simp [bs]
theorem iIn (x lo hi:Int):Kca (x,lo,hi)=some (inB x lo hi):=by
 unfold Kca inB
 simp only
 cases decide (x ≥ lo) <;> simp [bs]
def Kny (s:K00) (n:Nat):Bool:=(List.range' 0 n).all fun a=>Kni s n a && (List.range' 0 n).all fun b=>Knv s n a b && (List.range' 0 n).all fun c=>Knj s n a b c
section
variable {s:K00} {n:Nat} (h:Tab s n)
include h
theorem Knz {a b:Nat} (ha:a < n) (hb:b < n):∀ (k c:Nat),c + k=n→Ka8 (s,(a:Int),(b:Int),(c:Int))=some (if (List.range' c k).all (fun c=>Knj s n a b c) then .inl () else .inr false):=by
 have hhi:=h.hi
 intro k
 induction k with
 | zero =>
  intro c hm
  rw [Ka8.eq_def]
  simp only
  rw [h.size,Kn3 (by omega)]
  rfl
 | succ k ih =>
  intro c hm
  rw [Ka8.eq_def]
  simp only
  rw [h.size,Kn2 (by omega),if_pos rfl,Knl h ha hb (by omega),bs]
  have ih:=ih (c + 1) (by omega)
  rw [Kn1 (by omega),List.range'_succ,List.all_cons]
  generalize ((c + 1:Nat):Int)=M at ih ⊢
  generalize (List.range' (c + 1) k).all (fun c=>Knj s n a b c)=r at ih ⊢
  cases Knj s n a b c <;> cases r <;> simp [ih]
theorem Ko0 {a b:Nat} (ha:a < n) (hb:b < n):∀ (k c:Nat),c + k=n→Kdt (s,(a:Int),(b:Int),(c:Int))=some (if (List.range' c k).all (fun c=>Knj s n a b c) then .inl () else .inr false):=by
 have hhi:=h.hi
 intro k
 induction k with
 | zero =>
  intro c hm
  rw [Kdt.eq_def]
  simp only
  rw [h.size,Kn3 (by omega)]
  rfl
 | succ k ih =>
  intro c hm
  rw [Kdt.eq_def]
  simp only
  rw [h.size,Kn2 (by omega),if_pos rfl,Knm h ha hb (by omega),bs]
  have ih:=ih (c + 1) (by omega)
  rw [Kn1 (by omega),List.range'_succ,List.all_cons]
  generalize ((c + 1:Nat):Int)=M at ih ⊢
  generalize (List.range' (c + 1) k).all (fun c=>Knj s n a b c)=r at ih ⊢
  cases Knj s n a b c <;> cases r <;> simp [ih]
theorem Ko1 {a:Nat} (ha:a < n):∀ (k b:Nat),b + k=n→Kae (s,(a:Int),(b:Int))=some (if (List.range' b k).all (fun b=>Knv s n a b && (List.range' 0 n).all fun c=>Knj s n a b c) then .inl () else .inr false):=by
 have hhi:=h.hi
 intro k
 induction k with
 | zero =>
  intro c hm
  rw [Kae.eq_def]
  simp only
  rw [h.size,Kn3 (by omega)]
  rfl
 | succ k ih =>
  intro b hm
  rw [Kae.eq_def]
  simp only
  have hl:=Knz h ha (b:=b) (by omega) n 0 (by omega)
  rw [show ((0:Nat):Int)=0 from rfl] at hl
  rw [h.size,Kn2 (by omega),if_pos rfl,Knx h ha (by omega),bs,hl]
  have ih:=ih (b + 1) (by omega)
  rw [Kn1 (by omega),List.range'_succ,List.all_cons]
  generalize ((b + 1:Nat):Int)=M at ih ⊢
  generalize (List.range' (b + 1) k).all (fun b=>Knv s n a b && (List.range' 0 n).all fun c=>Knj s n a b c)=r at ih ⊢
  cases Knv s n a b <;> cases (List.range' 0 n).all (fun c=>Knj s n a b c) <;> cases r <;> simp [ih,bs]
theorem Ko2 {a:Nat} (ha:a < n):∀ (k b:Nat),b + k=n→Kdz (s,(a:Int),(b:Int))=some (if (List.range' b k).all (fun b=>Knv s n a b && (List.range' 0 n).all fun c=>Knj s n a b c) then .inl () else .inr false):=by
 have hhi:=h.hi
 intro k
 induction k with
 | zero =>
  intro c hm
  rw [Kdz.eq_def]
  simp only
  rw [h.size,Kn3 (by omega)]
  rfl
 | succ k ih =>
  intro b hm
  have hb:b < n:=by omega
  rw [Kdz.eq_def]
  simp only
  have hl:=Ko0 h ha (b:=b) (by omega) n 0 (by omega)
  rw [show ((0:Nat):Int)=0 from rfl] at hl
  rw [h.size,Kn2 (by omega),if_pos rfl,Kne h ha hb,Kne h hb ha,iLe h ha hb,iLe h hb ha,Knu h ha hb,hl]
  have ih:=ih (b + 1) (by omega)
  rw [Kn1 (by omega),List.range'_succ,List.all_cons]
  generalize ((b + 1:Nat):Int)=M at ih ⊢
  generalize (List.range' (b + 1) k).all (fun b=>Knv s n a b && (List.range' 0 n).all fun c=>Knj s n a b c)=r at ih ⊢
  simp only [bs,Knh,Knw]
  cases h1:(pl s n a b == pl s n b a) <;> cases h2:(a == b) <;> cases h3:decide (Kno s n a b ≥ 0) <;> cases h4:le s n a b <;> cases h5:le s n b a <;> cases h6:(List.range' 0 n).all (fun c=>Knj s n a b c) <;> cases r <;> simp only [Knv,bne,h1,h2,h3,h4,h5,h6,ih,bs,Bool.not_true,Bool.not_false,Bool.true_and,Bool.false_and,Bool.and_true,Bool.and_false,Bool.true_or,Bool.false_or,Bool.or_true,Bool.or_false,if_true,if_false,Bool.false_eq_true]
theorem Ko3:∀ (k a:Nat),a + k=n→Kai (s,(a:Int))=some (if (List.range' a k).all (fun a=>Kni s n a && (List.range' 0 n).all fun b=>Knv s n a b && (List.range' 0 n).all fun c=>Knj s n a b c) then .inl () else .inr false):=by
 have hhi:=h.hi
 intro k
 induction k with
 | zero =>
  intro c hm
  rw [Kai.eq_def]
  simp only
  rw [h.size,Kn3 (by omega)]
  rfl
 | succ k ih =>
  intro a hm
  have ha:a < n:=by omega
  rw [Kai.eq_def]
  simp only
  have hl:=Ko1 h ha n 0 (by omega)
  rw [show ((0:Nat):Int)=0 from rfl] at hl
  rw [h.size,Kn2 (by omega),if_pos rfl,Knk h ha,bs,hl]
  have ih:=ih (a + 1) (by omega)
  rw [Kn1 (by omega),List.range'_succ,List.all_cons]
  generalize ((a + 1:Nat):Int)=M at ih ⊢
  generalize (List.range' (a + 1) k).all (fun a=>Kni s n a && (List.range' 0 n).all fun b=>Knv s n a b && (List.range' 0 n).all fun c=>Knj s n a b c)=r at ih ⊢
  cases Kni s n a <;> cases (List.range' 0 n).all (fun b=>Knv s n a b && (List.range' 0 n).all fun c=>Knj s n a b c) <;> cases r <;> simp [ih,bs]
theorem Ko4:∀ (k a:Nat),a + k=n→Ke3 (s,(a:Int))=some (if (List.range' a k).all (fun a=>Kni s n a && (List.range' 0 n).all fun b=>Knv s n a b && (List.range' 0 n).all fun c=>Knj s n a b c) then .inl () else .inr false):=by
 have hhi:=h.hi
 have l0:(0:Nat) < n:=by have:=h.lo; omega
 have l1:(1:Nat) < n:=by have:=h.lo; omega
 intro k
 induction k with
 | zero =>
  intro c hm
  rw [Ke3.eq_def]
  simp only
  rw [h.size,Kn3 (by omega)]
  rfl
 | succ k ih =>
  intro a hm
  have ha:a < n:=by omega
  rw [Ke3.eq_def]
  simp only
  have hl:=Ko2 h ha n 0 (by omega)
  have q1:Kcw (s,0,(a:Int))=_:=Kne h l0 ha
  have q2:Kd3 (s,1,(a:Int))=_:=Knf h l1 ha
  have q3:Kd3 (s,(a:Int),1)=_:=Knf h ha l1
  have q4:Kd3 (s,0,(a:Int))=_:=Knf h l0 ha
  have q5:Kd3 (s,(a:Int),0)=_:=Knf h ha l0
  have z1:(((ti s n 0 a:Nat):Int) != 0)=(ti s n 0 a != 0):=Knh _ 0
  have z2:(((ti s n a 0:Nat):Int) != 0)=(ti s n a 0 != 0):=Knh _ 0
  rw [show ((0:Nat):Int)=0 from rfl] at hl
  rw [h.size,Kn2 (by omega),if_pos rfl,q1,q2,q3,q4,q5,iLe h ha ha,hl]
  have ih:=ih (a + 1) (by omega)
  rw [Kn1 (by omega),List.range'_succ,List.all_cons]
  generalize ((a + 1:Nat):Int)=M at ih ⊢
  generalize (List.range' (a + 1) k).all (fun a=>Kni s n a && (List.range' 0 n).all fun b=>Knv s n a b && (List.range' 0 n).all fun c=>Knj s n a b c)=r at ih ⊢
  simp only [bs,Knh,z1,z2]
  cases h1:(pl s n 0 a == a) <;> cases h2:(ti s n 1 a == a) <;> cases h3:(ti s n a 1 == a) <;> cases h4:(ti s n 0 a == 0) <;> cases h5:(ti s n a 0 == 0) <;> cases h6:le s n a a <;> cases h7:(List.range' 0 n).all (fun b=>Knv s n a b && (List.range' 0 n).all fun c=>Knj s n a b c) <;> cases r <;> simp only [Kni,bne,h1,h2,h3,h4,h5,h6,h7,ih,bs,Bool.not_true,Bool.not_false,Bool.true_and,Bool.false_and,Bool.and_true,Bool.and_false,if_true,if_false,Bool.false_eq_true]
end
theorem Ko5 {α:Type} {l r:List α} {x:α} {i:Nat} (h:l.drop i=x :: r):i < l.length∧idx l (i:Int)=some x∧l.drop (i + 1)=r:=by
 have hi:i < l.length:=by
  rcases Nat.lt_or_ge i l.length with h' | h'
  ·exact h'
  ·rw [List.drop_eq_nil_of_le h'] at h; cases h
 have e:=List.drop_eq_getElem_cons hi
 rw [h] at e
 obtain ⟨e1,e2⟩:=List.cons.inj e
 exact ⟨hi,by rw [Kn0 hi,e1],e2.symm⟩
theorem Ko6 {α:Type} {l:List α} {i:Nat} (h:l.drop i=[]):l.length ≤ i:=by
 rcases Nat.lt_or_ge i l.length with h' | h'
 ·rw [List.drop_eq_getElem_cons h'] at h; cases h
 ·exact h'
def Ko7 (c:Int):Bool:=inB c 3 18 || c == 35
def Ko8 (c:Int):Bool:=inB c 19 34 || c == 36
def Ko9 (c:Int):Int:=if c == 0 then 0 else if c == 1 || c == 2 || Ko7 c then 2 else if Ko8 c then 1 else -1
theorem Koa (c:Int):Kkx c=some (Ko7 c):=by
 unfold Kkx Ko7
 simp only [sIn,bs]
 cases inB c 3 18 <;> rfl
theorem Kob (c:Int):Kl0 c=some (Ko8 c):=by
 unfold Kl0 Ko8
 simp only [sIn,bs]
 cases inB c 19 34 <;> rfl
theorem Koc (c:Int):Kl3 c=some (Ko9 c):=by
 unfold Kl3 Ko9
 simp only [Koa,Kob,bs]
 cases c == 0 <;> cases c == 1 <;> cases c == 2 <;> cases Ko7 c <;> cases Ko8 c <;> rfl
theorem Kod (c:Int):(c=0∧Ko9 c=0)∨((c=1∨c=2∨(3 ≤ c∧c ≤ 18)∨c=35)∧Ko9 c=2)∨(((19 ≤ c∧c ≤ 34)∨c=36)∧Ko9 c=1)∨((c < 0∨36 < c)∧Ko9 c=-1):=by
 unfold Ko9 Ko7 Ko8 inB
 by_cases h0:c=0
 ·left; subst h0; exact ⟨rfl,rfl⟩
 ·right
  have e0:(c == 0)=false:=by simpa using h0
  by_cases h1:c=1∨c=2∨(3 ≤ c∧c ≤ 18)∨c=35
  ·left
   refine ⟨h1,?_⟩
   have:(c == 1 || c == 2 || (decide (c ≥ 3) && decide (c ≤ 18) || c == 35))=true:=by
    simp only [Bool.or_eq_true,Bool.and_eq_true,beq_iff_eq,decide_eq_true_eq]; omega
   rw [e0,this]; rfl
  ·right
   have q:(c == 1 || c == 2 || (decide (c ≥ 3) && decide (c ≤ 18) || c == 35))=false:=by
    rw [Bool.eq_false_iff]; intro h
    simp only [Bool.or_eq_true,Bool.and_eq_true,beq_iff_eq,decide_eq_true_eq] at h; omega
   rw [e0,q]
   by_cases h2:(19 ≤ c∧c ≤ 34)∨c=36
   ·left
    refine ⟨h2,?_⟩
    have:(decide (c ≥ 19) && decide (c ≤ 34) || c == 36)=true:=by
     simp only [Bool.or_eq_true,Bool.and_eq_true,beq_iff_eq,decide_eq_true_eq]; omega
    rw [this]; rfl
   ·right
    refine ⟨by omega,?_⟩
    have:(decide (c ≥ 19) && decide (c ≤ 34) || c == 36)=false:=by
     rw [Bool.eq_false_iff]; intro h
     simp only [Bool.or_eq_true,Bool.and_eq_true,beq_iff_eq,decide_eq_true_eq] at h; omega
    rw [this]; rfl
def Koe (c:Int):Int × Int :=
 if inB c 0 2 then (c,-1) else if inB c 3 18 then (3,c - 3) else if inB c 19 34 then (4,c - 19) else if c == 35 then (3,-1) else if c == 36 then (4,-1) else (5,-1)
theorem Kof (c:Int):Kcd c=some (Koe c):=by
 unfold Kcd Koe
 simp only [iIn,bs]
 cases h1:inB c 0 2
 ·cases h2:inB c 3 18
  ·cases h3:inB c 19 34
   ·cases c == 35 <;> cases c == 36 <;> rfl
   ·simp only [inB,Bool.and_eq_true,decide_eq_true_eq] at h3
    simp only [Bool.false_eq_true,if_false,if_true]
    rw [Kmz (by omega) (by omega)]
  ·simp only [inB,Bool.and_eq_true,decide_eq_true_eq] at h2
   simp only [Bool.false_eq_true,if_false,if_true]
   rw [Kmz (by omega) (by omega)]
 ·rfl
theorem Kog (c:Int):(c=0∧Koe c=(0,-1))∨(c=1∧Koe c=(1,-1))∨(c=2∧Koe c=(2,-1))∨((3 ≤ c∧c ≤ 18)∧Koe c=(3,c - 3))∨(c=35∧Koe c=(3,-1)) ∨
  ((19 ≤ c∧c ≤ 34)∧Koe c=(4,c - 19))∨(c=36∧Koe c=(4,-1))∨((c < 0∨36 < c)∧Koe c=(5,-1)):=by
 have inT:∀ lo hi,lo ≤ c→c ≤ hi→inB c lo hi=true:=fun lo hi h1 h2=>by simp only [inB,Bool.and_eq_true,decide_eq_true_eq]; omega
 have inF:∀ lo hi,(c < lo∨hi < c)→inB c lo hi=false:=fun lo hi h=>by rw [Bool.eq_false_iff]; intro h'; simp only [inB,Bool.and_eq_true,decide_eq_true_eq] at h'; omega
 unfold Koe
 by_cases h0:0 ≤ c∧c ≤ 2
 ·rw [inT 0 2 h0.1 h0.2]
  have:c=0∨c=1∨c=2:=by omega
  rcases this with rfl | rfl | rfl <;> simp
 ·rw [inF 0 2 (by omega)]
  by_cases h1:3 ≤ c∧c ≤ 18
  ·rw [inT 3 18 h1.1 h1.2]
   exact .inr (.inr (.inr (.inl ⟨h1,rfl⟩)))
  ·rw [inF 3 18 (by omega)]
   by_cases h2:19 ≤ c∧c ≤ 34
   ·rw [inT 19 34 h2.1 h2.2]
    exact .inr (.inr (.inr (.inr (.inr (.inl ⟨h2,rfl⟩)))))
   ·rw [inF 19 34 (by omega)]
    by_cases h3:c=35
    ·subst h3; simp
    ·by_cases h4:c=36
     ·subst h4; simp
     ·have e3:(c == 35)=false:=by simpa using h3
      have e4:(c == 36)=false:=by simpa using h4
      rw [e3,e4]
      refine .inr (.inr (.inr (.inr (.inr (.inr (.inr ⟨by omega,rfl⟩))))))
def skip:Nat→List Int→Option (List Int)
 | 0,l=>some l
 | _ + 1,[]=>none
 | m + 1,c :: l=>if Ko9 c=-1 then none else skip (m + (Ko9 c).toNat) l
theorem Koh (l:List Int):skip 0 l=some l:=by cases l <;> rfl
theorem Koi (m:Nat):skip (m + 1) []=none:=rfl
theorem Koj (m:Nat) (c:Int) (l:List Int):skip (m + 1) (c :: l)=if Ko9 c=-1 then none else skip (m + (Ko9 c).toNat) l:=rfl
theorem Kok (l:List Int):∀ (m k:Nat),skip (m + k) l=(skip m l).bind (skip k):=by
 induction l with
 | nil =>
  intro m k
  cases m with
  | zero=>rw [Nat.zero_add,Koh]; rfl
  | succ m=>rw [show m + 1 + k=(m + k) + 1 by omega,Koi,Koi]; rfl
 | cons c l ih =>
  intro m k
  cases m with
  | zero=>rw [Nat.zero_add,Koh]; rfl
  | succ m =>
   rw [show m + 1 + k=(m + k) + 1 by omega,Koj,Koj]
   by_cases h:Ko9 c=-1
   ·rw [if_pos h,if_pos h]; rfl
   ·rw [if_neg h,if_neg h,← ih]; congr 1; omega
theorem Kol (l:List Int):∀ (m:Nat) (r:List Int),skip m l=some r→∃ p,l=p ++ r∧m ≤ p.length:=by
 induction l with
 | nil =>
  intro m r h
  cases m with
  | zero=>rw [Koh] at h; cases h; exact ⟨[],rfl,Nat.le_refl _⟩
  | succ m=>rw [Koi] at h; cases h
 | cons c l ih =>
  intro m r h
  cases m with
  | zero=>rw [Koh] at h; cases h; exact ⟨[],rfl,Nat.le_refl _⟩
  | succ m =>
   rw [Koj] at h
   by_cases hk:Ko9 c=-1
   ·rw [if_pos hk] at h; cases h
   ·rw [if_neg hk] at h
    obtain ⟨p,e,hp⟩:=ih _ _ h
    exact ⟨c :: p,by rw [e]; rfl,by simp; omega⟩
def Kom (ty:List Int) (m i:Nat):Int:=match skip m (ty.drop i) with | some r=>((ty.length - r.length:Nat):Int) | none=>-1
theorem Kon (ty:List Int) (hty:ty.length ≤ 1099511627776):∀ (l:List Int) (i m:Nat),ty.drop i=l→m ≤ 1099511627776 + 2 * i→∃ x,Kl7 (ty,((m + 1:Nat):Int),(i:Int))=some x∧(match x with | .inl ()=>-1 | .inr r=>r)=Kom ty (m + 1) i:=by
 intro l
 induction l with
 | nil =>
  intro i m hl hm
  rw [Kl7.eq_def]
  simp only
  rw [Kn3 (Ko6 hl)]
  exact ⟨.inl (),rfl,by unfold Kom; rw [hl,Koi]⟩
 | cons c l ih =>
  intro i m hl hm
  obtain ⟨hi,hx,hd⟩:=Ko5 hl
  have hi2:(i:Int) < 1099511627776:=by omega
  rw [Kl7.eq_def]
  simp only
  rw [Kn2 hi,if_pos rfl,hx,bs,Koc,bs]
  have he:Kom ty (m + 1) i=(match (if Ko9 c=-1 then none else skip (m + (Ko9 c).toNat) l) with | some r=>((ty.length - r.length:Nat):Int) | none=>-1):=by
   unfold Kom; rw [hl,Koj]
  rw [he]
  by_cases hk:Ko9 c=-1
  ·rw [if_pos hk,hk]
   exact ⟨.inr (-1),rfl,rfl⟩
  ·rw [if_neg hk]
   have hk0:0 ≤ Ko9 c∧Ko9 c ≤ 2:=by rcases Kod c with h | h | h | h <;> omega
   obtain ⟨k,hkk⟩:∃ k:Nat,Ko9 c=(k:Int):=⟨(Ko9 c).toNat,by omega⟩
   rw [decide_eq_false (by omega),if_neg (by decide),hkk,Int.toNat_natCast]
   rw [Kmz (x:=((m + 1:Nat):Int) - 1) (by omega) (by omega),show ((m + 1:Nat):Int) - 1=(m:Int) by omega,Kmz (x:=(m:Int) + (k:Int)) (by omega) (by omega),Kn1 (by omega)]
   by_cases h0:m + k=0
   ·rw [show ((m:Int) + (k:Int) == 0)=true by simp; omega,if_pos rfl,h0,Koh]
    refine ⟨_,rfl,?_⟩
    have:l.length=ty.length - (i + 1):=by rw [← hd,List.length_drop]
    simp only
    omega
   ·rw [show ((m:Int) + (k:Int) == 0)=false by simp; omega,if_neg (by decide)]
    obtain ⟨q,hq⟩:∃ q,m + k=q + 1:=⟨m + k - 1,by omega⟩
    have:=ih (i + 1) q hd (by omega)
    rw [show (m:Int) + (k:Int)=((q + 1:Nat):Int) by omega]
    obtain ⟨x,h1,h2⟩:=this
    exact ⟨x,h1,by rw [h2,hq]; unfold Kom; rw [hd]⟩
theorem Koo (ty:List Int) (hty:ty.length ≤ 1099511627776) (i:Nat) (hi:i ≤ ty.length):Kla (ty,(i:Int))=some (Kom ty 1 i):=by
 unfold Kla
 obtain ⟨x,h1,h2⟩:=Kon ty hty _ i 0 rfl (by omega)
 simp only
 rw [show (1:Int)=((0 + 1:Nat):Int) from rfl,h1,bs]
 rw [← h2]
 cases x <;> rfl
theorem Kop (ty:List Int) (i:Nat) (hi:i ≤ ty.length):Kom ty 2 i=(if Kom ty 1 i=-1 then -1 else Kom ty 1 (Kom ty 1 i).toNat):=by
 unfold Kom
 rw [show 2=1 + 1 from rfl,Kok]
 cases h:skip 1 (ty.drop i) with
 | none=>simp
 | some r =>
  obtain ⟨p,hp,hl⟩:=Kol _ _ _ h
  have hlen:ty.length - i=p.length + r.length:=by rw [← List.length_drop,hp,List.length_append]
  have:ty.drop (ty.length - r.length)=r:=by
   have e:ty.drop (ty.length - r.length)=(ty.drop i).drop p.length:=by rw [List.drop_drop]; congr 1; omega
   rw [e,hp,List.drop_left]
  simp only [Option.bind_some]
  rw [if_neg (by omega),Int.toNat_natCast,this]
theorem Koq (ty:List Int) (hty:ty.length ≤ 1099511627776):∀ (d i:Nat),ty.length - i=d→Kcg (ty,(i:Int))=some (Kom ty 1 i):=by
 intro d
 induction d using Nat.strongRecOn with
 | ind d ih =>
  intro i hd
  rw [Kcg.eq_def]
  simp only
  rw [decide_eq_false (by omega:¬ (i:Int) < 0)]
  simp only [Bool.false_eq_true,if_false,bs]
  by_cases hi:i < ty.length
  ·rw [decide_eq_false (by omega),if_neg (by decide),Kn0 hi,bs,Kof,bs]
   have hdr:=List.drop_eq_getElem_cons hi
   have he:∀ k:Nat,Ko9 ty[i]=(k:Int)→Kom ty 1 i=Kom ty k (i + 1):=fun k hk=>by
    unfold Kom
    rw [hdr,show 1=0 + 1 from rfl,Koj,hk,if_neg (by omega),Int.toNat_natCast,Nat.zero_add]
   have hn:Ko9 ty[i]=-1→Kom ty 1 i=-1:=fun hk=>by
    unfold Kom
    rw [hdr,show 1=0 + 1 from rfl,Koj,if_pos hk]
   have i1:=ih (ty.length - (i + 1)) (by omega) (i + 1) rfl
   have hz:∀ i:Nat,i ≤ ty.length→Kom ty 0 i=(i:Int):=fun i hi=>by unfold Kom; rw [Koh]; simp only [List.length_drop]; omega
   rw [Kn1 (by omega)]
   have two:Ko9 ty[i]=2→((Kcg (ty,((i + 1:Nat):Int))) >>= fun r_11_4=>(Kcg (ty,r_11_4)) >>= fun r_11_5=>some r_11_5)=some (Kom ty 1 i):=fun hk=>by
    rw [i1,bs,he 2 hk,Kop ty (i + 1) (by omega)]
    by_cases h1:Kom ty 1 (i + 1)=-1
    ·rw [h1,if_pos rfl,Kcg.eq_def]; rfl
    ·rw [if_neg h1]
     obtain ⟨e,hee,hlo⟩:∃ e:Nat,Kom ty 1 (i + 1)=(e:Int)∧i + 1 < e:=by
      unfold Kom at h1 ⊢
      cases hs:skip 1 (ty.drop (i + 1)) with
      | none=>rw [hs] at h1; exact absurd rfl h1
      | some r =>
       obtain ⟨p,hp,hl⟩:=Kol _ _ _ hs
       have hlen:ty.length - (i + 1)=p.length + r.length:=by rw [← List.length_drop,hp,List.length_append]
       exact ⟨_,rfl,by omega⟩
     rw [hee,Int.toNat_natCast,ih (ty.length - e) (by omega) e rfl,bs]
   rcases Kog ty[i] with ⟨h,e⟩ | ⟨h,e⟩ | ⟨h,e⟩ | ⟨h,e⟩ | ⟨h,e⟩ | ⟨h,e⟩ | ⟨h,e⟩ | ⟨h,e⟩ <;> rw [e] <;> simp only []
   ·have hk:Ko9 ty[i]=0:=by rcases Kod ty[i] with h | h | h | h <;> omega
    rw [if_pos (by rfl),he 0 hk,hz _ (by omega)]
   ·have hk:Ko9 ty[i]=2:=by rcases Kod ty[i] with h | h | h | h <;> omega
    exact two hk
   ·have hk:Ko9 ty[i]=2:=by rcases Kod ty[i] with h | h | h | h <;> omega
    exact two hk
   ·have hk:Ko9 ty[i]=2:=by rcases Kod ty[i] with h | h | h | h <;> omega
    exact two hk
   ·have hk:Ko9 ty[i]=2:=by rcases Kod ty[i] with h | h | h | h <;> omega
    exact two hk
   ·have hk:Ko9 ty[i]=1:=by rcases Kod ty[i] with h | h | h | h <;> omega
    rw [he 1 hk,if_neg (by decide),if_pos (by rfl),i1,bs]
   ·have hk:Ko9 ty[i]=1:=by rcases Kod ty[i] with h | h | h | h <;> omega
    rw [he 1 hk,if_neg (by decide),if_pos (by rfl),i1,bs]
   ·have hk:Ko9 ty[i]=-1:=by rcases Kod ty[i] with h | h | h | h <;> omega
    rw [hn hk]; rfl
  ·rw [decide_eq_true (by omega),if_pos rfl]
   unfold Kom
   rw [List.drop_eq_nil_of_le (by omega),Koi]
def wtB (ty:List Int):Bool:=decide (ty.length ≤ 40) && (skip 1 ty == some [])
theorem Kor (ty:List Int):(Kom ty 1 0 == (ty.length:Int))=(skip 1 ty == some []):=by
 unfold Kom
 rw [List.drop_zero]
 cases h:skip 1 ty with
 | none=>simp
 | some r =>
  obtain ⟨p,hp,hl⟩:=Kol _ _ _ h
  have hlen:ty.length=p.length + r.length:=by rw [hp,List.length_append]
  cases r with
  | nil=>simp
  | cons x xs =>
   simp only [List.length_cons] at hlen ⊢
   simp
   omega
theorem Kos (ty:List Int) (hty:ty.length ≤ 1099511627776):Kld ty=some (wtB ty):=by
 unfold Kld wtB
 by_cases h:ty.length ≤ 40
 ·rw [decide_eq_true (by omega:(ty.length:Int) ≤ 40),if_pos rfl,show (0:Int)=((0:Nat):Int) from rfl,Koo ty hty 0 (by omega),bs,Kor,decide_eq_true h]
  cases hs:skip 1 ty == some [] with
  | false=>rfl
  | true =>
   have:0 < ty.length:=by
    rcases ty with _ | ⟨c,l⟩
    ·rw [show skip 1 []=none from rfl] at hs; cases hs
    ·simp
   rw [if_pos rfl,decide_eq_true (by omega:(ty.length:Int) > ((0:Nat):Int))]; rfl
 ·rw [decide_eq_false (by omega:¬ (ty.length:Int) ≤ 40),decide_eq_false h]; rfl
theorem Kot (ty:List Int) (hty:ty.length ≤ 1099511627776):Kcj ty=some (wtB ty):=by
 unfold Kcj wtB
 rw [iIn,bs]
 by_cases h:ty.length ≤ 40
 ·rw [decide_eq_true h]
  by_cases h1:1 ≤ ty.length
  ·have:inB (ty.length:Int) 1 40=true:=by simp only [inB,Bool.and_eq_true,decide_eq_true_eq]; omega
   rw [this,if_pos rfl,show (0:Int)=((0:Nat):Int) from rfl,Koq ty hty _ 0 rfl,bs,Kor]; rfl
  ·have:inB (ty.length:Int) 1 40=false:=by rw [Bool.eq_false_iff]; intro h'; simp only [inB,Bool.and_eq_true,decide_eq_true_eq] at h'; omega
   have e:ty=[]:=List.length_eq_zero_iff.1 (by omega)
   rw [this,e]; rfl
 ·have:inB (ty.length:Int) 1 40=false:=by rw [Bool.eq_false_iff]; intro h'; simp only [inB,Bool.and_eq_true,decide_eq_true_eq] at h'; omega
  rw [this,decide_eq_false h]; rfl
def Kou (c:Int):Int:=if 35 ≤ c then -1 else if 19 ≤ c then c - 19 else c - 3
def Kov (size:Int) (closed:Bool) (c:Int):Bool:=!(decide (Ko9 c > 0) && decide (c > 2) && (decide (Kou c ≥ size) || closed && decide (Kou c < 0)))
theorem Kow {c:Int} (h:Ko9 c > 0):Klg c=some (Kou c):=by
 have:0 ≤ c∧c ≤ 36:=by rcases Kod c with h | h | h | h <;> omega
 unfold Klg Kou
 by_cases h1:35 ≤ c
 ·rw [decide_eq_true (by omega:c ≥ 35),if_pos rfl,if_pos h1]
 ·rw [decide_eq_false (by omega:¬ c ≥ 35),if_neg (by decide),if_neg h1]
  by_cases h2:19 ≤ c
  ·rw [decide_eq_true (by omega:c ≥ 19),if_pos rfl,if_pos h2,Kmz (by omega) (by omega)]
  ·rw [decide_eq_false (by omega:¬ c ≥ 19),if_neg (by decide),if_neg h2,Kmz (by omega) (by omega)]
theorem Kox (ty:List Int) (hty:ty.length ≤ 1099511627776) (size:Int) (cl:Bool):∀ (l:List Int) (i:Nat),ty.drop i=l→Kll (ty,size,cl,(i:Int))=some (if l.all (Kov size cl) then .inl () else .inr false):=by
 intro l
 induction l with
 | nil =>
  intro i hl
  rw [Kll.eq_def]
  simp only
  rw [Kn3 (Ko6 hl)]; rfl
 | cons c l ih =>
  intro i hl
  obtain ⟨hi,hx,hd⟩:=Ko5 hl
  rw [Kll.eq_def]
  simp only
  rw [Kn2 hi,if_pos rfl,hx,bs,bs,Koc,bs,Kn1 (by omega)]
  have ih:=ih (i + 1) hd
  generalize ((i + 1:Nat):Int)=M at ih ⊢
  rw [List.all_cons]
  unfold Kov at ih ⊢
  by_cases hk:Ko9 c > 0
  ·simp only [bs,Kow hk]
   rw [decide_eq_true hk]
   generalize Kou c=g at ih ⊢
   cases decide (c > 2) <;> cases decide (g ≥ size) <;> cases cl <;> cases decide (g < 0) <;> simp [bs,ih]
  ·rw [decide_eq_false hk]; simp [bs,ih]
theorem Koy (ty:List Int) (hty:ty.length ≤ 1099511627776) (size:Int) (cl:Bool):Klo (ty,size,cl)=some (ty.all (Kov size cl)):=by
 unfold Klo
 simp only
 rw [show (0:Int)=((0:Nat):Int) from rfl,Kox ty hty size cl _ 0 rfl,List.drop_zero,bs]
 cases ty.all (Kov size cl) <;> rfl
theorem Koz {α β:Type} {a:Option α} {f:α→Option β} {x:α} (h:a=some x):(a >>= f)=f x:=by rw [h]; rfl
mutual
def tsz:K02→Nat
 | ⟨_,_,_,ks⟩=>1 + Kp0 ks
def Kp0:List K02→Nat
 | []=>0
 | k :: ks=>tsz k + Kp0 ks
end
mutual
def tms:K02→Nat
 | ⟨_,_,ty,ks⟩=>ty.length + ks.length + Kp1 ks
def Kp1:List K02→Nat
 | []=>0
 | k :: ks=>tms k + Kp1 ks
end
theorem Kp2 (t:K02):tsz t=1 + Kp0 t.fKids:=by cases t; rw [tsz]
def Kp3 (left n:Nat):Int:=if n ≤ left then ((left - n:Nat):Int) else -1
theorem Kp4 {left n:Nat} (h:n ≤ left):Kp3 left n=((left - n:Nat):Int):=if_pos h
theorem Kp5 {left n:Nat} (h:¬ n ≤ left):Kp3 left n=-1:=if_neg h
theorem Kp6 (t:K02) (i:Int):Kly (t,-1,i)=some (-1):=by
 rw [Kly.eq_def]
 simp only
 cases decide (i < (t.fKids.length:Int)) <;> rfl
mutual
theorem Kp7:∀ (t:K02) (left:Nat),tms t ≤ 1099511627776→left ≤ 1048576→Klx (t,(left:Int))=some (Kp3 left (tsz t))
 | ⟨op,N,ty,ks⟩,left,ht,hl=>by
  rw [tms] at ht
  rw [Klx.eq_def,tsz]
  simp only
  rcases left with _ | l
  ·rw [show wr (((0:Nat):Int) - 1)=-1 from Kmz (by omega) (by omega),Kp6,bs,Kp5 (by omega)]
  ·have h:=Kp8 ks ⟨op,N,ty,ks⟩ 0 l rfl (by simp only; omega) (by omega) (by omega)
   rw [Kmz (by omega) (by omega),show ((l + 1:Nat):Int) - 1=(l:Int) by omega,show (0:Int)=((0:Nat):Int) from rfl,h,bs]
   unfold Kp3
   by_cases q:Kp0 ks ≤ l
   ·rw [if_pos q,if_pos (by omega),show l + 1 - (1 + Kp0 ks)=l - Kp0 ks by omega]
   ·rw [if_neg q,if_neg (by omega)]
theorem Kp8:∀ (ks:List K02) (t:K02) (i left:Nat),t.fKids.drop i=ks→t.fKids.length ≤ 1099511627776→Kp1 ks ≤ 1099511627776→left ≤ 1048576→Kly (t,(left:Int),(i:Int))=some (Kp3 left (Kp0 ks))
 | [],t,i,left,hd,hk,ht,hl=>by
  rw [Kly.eq_def,Kp0]
  simp only
  rw [Kn3 (Ko6 hd)]
  simp [bs,Kp3]
 | k :: ks,t,i,left,hd,hk,ht,hl=>by
  obtain ⟨hi,hx,hd'⟩:=Ko5 hd
  rw [Kp1] at ht
  rw [Kly.eq_def,Kp0]
  simp only
  rw [Kn2 hi,if_pos rfl,bs,decide_eq_true (by omega:((left:Nat):Int) ≥ 0),if_pos rfl,hx,bs,Kp7 k left (by omega) hl,bs,Kn1 (by omega)]
  by_cases q:tsz k ≤ left
  ·rw [Kp4 q,Kp8 ks t (i + 1) (left - tsz k) hd' hk (by omega) (by omega)]
   unfold Kp3
   by_cases q2:Kp0 ks ≤ left - tsz k
   ·rw [if_pos q2,if_pos (by omega)]; congr 2; omega
   ·rw [if_neg q2,if_neg (by omega)]
  ·rw [Kp5 q,Kp6,Kp5 (by omega)]
end
def Kp9 (op:Int):Int:=if inB op 0 12 then ([0,0,2,3,2,2,1,1,3,1,2,1,2]:List Int).getD op.toNat 0 else -1
def Kpa (op:Int):Bool:=op == 5 || op == 8 || op == 9 || op == 11 || op == 12
def Kpb (op:Int):Bool:=op == 6 || op == 7 || op == 9
def Kpc (op:Int):ByteArray:=([ByteArray.mk #[120],ByteArray.empty,ByteArray.mk #[97,100,100],ByteArray.mk #[105,102],ByteArray.mk #[112,97,105,114],ByteArray.mk #[115,112,108,105,116],ByteArray.mk #[108,101,102,116],
 ByteArray.mk #[114,105,103,104,116],ByteArray.mk #[99,97,115,101],ByteArray.mk #[102,117,110],ByteArray.mk #[97,112,112],ByteArray.mk #[98,111,120],ByteArray.mk #[111,112,101,110]]:List ByteArray).getD op.toNat ByteArray.empty
theorem Kpd {op:Int} (h:inB op 0 12=true):op=0∨op=1∨op=2∨op=3∨op=4∨op=5∨op=6∨op=7∨op=8∨op=9∨op=10∨op=11∨op=12:=by
 simp only [inB,Bool.and_eq_true,decide_eq_true_eq] at h
 omega
theorem Kpe (op:Int):Klz op=some (Kp9 op):=by
 unfold Klz Kp9
 rw [sIn,bs]
 cases h:inB op 0 12
 ·rfl
 ·rcases Kpd h with rfl | rfl | rfl | rfl | rfl | rfl | rfl | rfl | rfl | rfl | rfl | rfl | rfl <;> rfl
theorem Kpf (op:Int):Km0 op=some (Kpa op):=by
 unfold Km0 Kpa
 cases op == 5 <;> cases op == 8 <;> cases op == 9 <;> cases op == 11 <;> rfl
theorem Kpg (op:Int):Km1 op=some (Kpb op):=by
 unfold Km1 Kpb
 cases op == 6 <;> cases op == 7 <;> rfl
def Kph (op:Int):K04 × Bool:=if inB op 0 12 then (K04.mk (Kpc op) (Kp9 op) (Kpa op) (Kpb op),true) else (K04.mk ByteArray.empty 0 false false,false)
theorem Kpi (op:Int):Kgk op=some (Kph op):=by
 unfold Kgk Kph
 rw [iIn,bs]
 cases h:inB op 0 12
 ·rfl
 ·rcases Kpd h with rfl | rfl | rfl | rfl | rfl | rfl | rfl | rfl | rfl | rfl | rfl | rfl | rfl <;> rfl
def Kpj (op kid:Int):Nat:=if op == 5 && kid == 1 then 2 else if (op == 8 && decide (kid > 0)) || op == 9 || (op == 12 && kid == 1) then 1 else 0
theorem Kpk (op kid:Int):Kpj op kid ≤ 2:=by unfold Kpj; split <;> (try split) <;> omega
theorem Kpl (op kid:Int):Km3 (op,kid)=some ((Kpj op kid:Nat):Int):=by
 unfold Km3 Kpj
 simp only
 generalize (op == 5)=b1
 generalize (op == 8)=b2
 generalize (op == 9)=b3
 generalize (op == 12)=b4
 generalize (kid == 1)=b5
 generalize decide (kid > 0)=b6
 cases b1 <;> cases b2 <;> cases b3 <;> cases b4 <;> cases b5 <;> cases b6 <;> rfl
theorem Kpm (op kid:Int):Kgq (op,kid)=some ((Kpj op kid:Nat):Int):=by
 unfold Kgq Kpj
 simp only
 generalize (op == 5)=b1
 generalize (op == 8)=b2
 generalize (op == 9)=b3
 generalize (op == 12)=b4
 generalize (kid == 1)=b5
 generalize decide (kid > 0)=b6
 cases b1 <;> cases b2 <;> cases b3 <;> cases b4 <;> cases b5 <;> cases b6 <;> rfl
def Kpn (g:Int→Bool) (n:Int) (t:K02):Bool:=if t.fOp == 0 then inB t.fN 0 (n - 1) else if t.fOp == 1 then inB t.fN 0 2 else if Kpa t.fOp then g t.fN else t.fN == 0
def Kpo (y:List Int→Bool) (t:K02):Bool:=if Kpb t.fOp then y t.fType else (t.fType.length:Int) == 0
def Kpp (g:Int→Bool) (y:List Int→Bool) (n:Int) (t:K02):Bool:=inB t.fOp 0 12 && ((t.fKids.length:Int) == Kp9 t.fOp) && Kpn g n t && Kpo y t
mutual
def tOk (g:Int→Bool) (y:List Int→Bool):Nat→K02→Bool
 | n,⟨op,N,ty,ks⟩=>Kpp g y (n:Int) ⟨op,N,ty,ks⟩ && Kpq g y op n 0 ks
def Kpq (g:Int→Bool) (y:List Int→Bool):Int→Nat→Nat→List K02→Bool
 | _,_,_,[]=>true
 | op,n,i,k :: ks=>tOk g y (n + Kpj op (i:Int)) k && Kpq g y op n (i + 1) ks
end
theorem Kpr (g:Int→Bool) (y:List Int→Bool) (n:Nat) (t:K02):tOk g y n t=(Kpp g y (n:Int) t && Kpq g y t.fOp n 0 t.fKids):=by cases t; rw [tOk]
def gN (size:Int) (cl:Bool) (x:Int):Bool:=!(decide (x ≥ size) || decide (x < -1) || cl && decide (x < 0))
def yN (size:Int) (cl:Bool) (ty:List Int):Bool:=wtB ty && ty.all (Kov size cl)
theorem Kps (t:K02) (n:Nat) (size:Int) (cl:Bool) (hty:t.fType.length ≤ 1099511627776) (hn:n ≤ 35184372088832):Km2 (t,(n:Int),size,cl)=some (Kpp (gN size cl) (yN size cl) (n:Int) t):=by
 unfold Km2 Kpp
 simp only
 rw [Kpe,bs]
 by_cases hk:(t.fKids.length:Int)=Kp9 t.fOp
 ·have hop:inB t.fOp 0 12=true:=by
   cases h:inB t.fOp 0 12
   ·unfold Kp9 at hk; rw [h] at hk; simp at hk
   ·rfl
  rw [show ((t.fKids.length:Int) != Kp9 t.fOp)=false by rw [hk]; exact Kn4,if_neg (by decide),show ((t.fKids.length:Int) == Kp9 t.fOp)=true by rw [hk]; simp,hop]
  refine (Koz (x:=if Kpn (gN size cl) (n:Int) t then .inl () else .inr false) ?_).trans ?_
  ·unfold Kpn gN
   rw [sIn,Kmz (by omega) (by omega),sIn,Kpf]
   simp only [bs]
   generalize inB t.fN 0 ((n:Int) - 1)=b1
   generalize inB t.fN 0 2=b2
   generalize Kpa t.fOp=b3
   rw [show (t.fN != 0)=!(t.fN == 0) from rfl]
   generalize (t.fN == 0)=b4
   generalize decide (t.fN ≥ size)=b5
   generalize decide (t.fN < -1)=b6
   generalize decide (t.fN < 0)=b7
   generalize (t.fOp == 0)=b8
   generalize (t.fOp == 1)=b9
   cases b8
   ·cases b9
    ·cases b3
     ·cases b4 <;> rfl
     ·cases b5 <;> cases b6 <;> cases cl <;> cases b7 <;> rfl
    ·cases b2 <;> rfl
   ·cases b1 <;> rfl
  ·cases Kpn (gN size cl) (n:Int) t
   ·simp
   ·unfold Kpo yN
    simp only [if_true]
    rw [Kpg,bs]
    cases Kpb t.fOp
    ·simp
    ·simp only [if_true]
     rw [Kos _ hty,Koy _ hty]
     cases wtB t.fType <;> simp [bs]
 ·rw [show ((t.fKids.length:Int) != Kp9 t.fOp)=true by simpa using hk,if_pos rfl,show ((t.fKids.length:Int) == Kp9 t.fOp)=false by simpa using hk]
  simp
mutual
theorem Kpt (size:Int) (cl:Bool):∀ (t:K02) (n:Nat),tms t ≤ 1099511627776→n + 2 * tms t ≤ 35184372088832→Km4 (t,(n:Int),size,cl)=some (tOk (gN size cl) (yN size cl) n t)
 | ⟨op,N,ty,ks⟩,n,ht,hn=>by
  rw [tms] at ht hn
  rw [Km4.eq_def,tOk]
  simp only
  rw [Kps _ n size cl (by simp only; omega) (by omega),bs]
  cases hb:Kpp (gN size cl) (yN size cl) (n:Int) ⟨op,N,ty,ks⟩
  ·rfl
  ·have h:=Kpu size cl ks ⟨op,N,ty,ks⟩ n 0 rfl (by simp only; omega) (by omega) (by omega)
   rw [if_pos rfl,show (0:Int)=((0:Nat):Int) from rfl,h,bs]
   simp only
   cases Kpq (gN size cl) (yN size cl) op n 0 ks <;> rfl
theorem Kpu (size:Int) (cl:Bool):∀ (ks:List K02) (t:K02) (n i:Nat),t.fKids.drop i=ks→t.fKids.length ≤ 1099511627776→Kp1 ks ≤ 1099511627776→n + 2 * (ks.length + Kp1 ks) ≤ 35184372088832 →
  Km5 (t,(n:Int),size,cl,(i:Int))=some (if Kpq (gN size cl) (yN size cl) t.fOp n i ks then .inl () else .inr false)
 | [],t,n,i,hd,hk,ht,hn=>by
  rw [Km5.eq_def,Kpq]
  simp only
  rw [Kn3 (Ko6 hd)]; rfl
 | k :: ks,t,n,i,hd,hk,ht,hn=>by
  obtain ⟨hi,hx,hd'⟩:=Ko5 hd
  rw [Kp1] at ht hn
  rw [List.length_cons] at hn
  have ha:=Kpk t.fOp (i:Int)
  rw [Km5.eq_def,Kpq]
  simp only
  rw [Kn2 hi,if_pos rfl,hx,bs,Kpl,bs,Kmz (by omega) (by omega),show (n:Int) + ((Kpj t.fOp (i:Int):Nat):Int)=((n + Kpj t.fOp (i:Int):Nat):Int) by omega]
  rw [Kpt size cl k (n + Kpj t.fOp (i:Int)) (by omega) (by omega),bs,Kn1 (by omega)]
  cases tOk (gN size cl) (yN size cl) (n + Kpj t.fOp (i:Int)) k
  ·rfl
  ·rw [if_pos rfl,Kpu size cl ks t n (i + 1) hd' hk (by omega) (by omega),Bool.true_and]
end
def Kpv (ok:Bool) (nodes sz:Nat):Int:=if ok && decide (nodes + sz ≤ 400) then ((nodes + sz:Nat):Int) else 401
def wB (t:K02):Bool:=tOk (gN 16 false) wtB 8 t && decide (tsz t ≤ 400)
theorem Kpw {ty:List Int} (h:wtB ty=true):ty.length ≤ 40:=by
 unfold wtB at h
 rw [Bool.and_eq_true,decide_eq_true_eq] at h
 exact h.1
theorem Kpx {g:Int→Bool} {y:List Int→Bool} {n:Nat} {t:K02} (h:tOk g y n t=true):Kpp g y (n:Int) t=true∧Kpq g y t.fOp n 0 t.fKids=true:=by
 rw [Kpr,Bool.and_eq_true] at h; exact h
theorem Kpy {n b:Nat} (h:n * b ≤ 140737488355328):Qdq n b=some ():=by unfold Qdq chk; rw [if_pos h]
theorem Kpz {g:Int→Bool} {y:List Int→Bool} {n:Int} {t:K02} (h:Kpp g y n t=true):inB t.fOp 0 12=true∧(t.fKids.length:Int)=Kp9 t.fOp:=by
 unfold Kpp at h
 simp only [Bool.and_eq_true,beq_iff_eq] at h
 exact ⟨h.1.1.1,h.1.1.2⟩
theorem Kq0 (l:List Int) (h:l.length ≤ 1099511627776):Km6 l=some l:=by
 unfold Km6
 rw [Kpy (by simp only [List.length_nil]; omega),bs]
theorem Kq1 (l:List Int) (h:l.length ≤ 1099511627776):Kej l=some l:=by
 unfold Kej
 rw [Kpy (by simp only [List.length_nil]; omega),bs]
structure Kq2 (s:K00) (n:Nat):Prop where
 size:s.fSize=(n:Int)
 lo:2 ≤ n
 hi:n ≤ 16
 lp:s.fPlus.length=n * n
 lt:s.fTimes.length=n * n
 lb:s.fBelow.length=n * n
def Kq3 (s:K00) (n i:Nat):Bool:=inB (s.fPlus.getD i 0) 0 ((n:Int) - 1) && inB (s.fTimes.getD i 0) 0 ((n:Int) - 1)
section
variable {s:K00} {n:Nat} (h:Kq2 s n)
include h
theorem nn:n * n ≤ 256:=Nat.le_trans (Nat.mul_le_mul h.hi h.hi) (by decide)
theorem Kq4 {i:Nat} (hi:i < n * n):idx s.fPlus (i:Int)=some (s.fPlus.getD i 0):=by
 have hl:i < s.fPlus.length:=by rw [h.lp]; exact hi
 rw [Kn0 hl,List.getD_eq_getElem?_getD,List.getElem?_eq_getElem hl]; rfl
theorem Kq5 {i:Nat} (hi:i < n * n):idx s.fTimes (i:Int)=some (s.fTimes.getD i 0):=by
 have hl:i < s.fTimes.length:=by rw [h.lt]; exact hi
 rw [Kn0 hl,List.getD_eq_getElem?_getD,List.getElem?_eq_getElem hl]; rfl
theorem Kq6:wr (s.fSize - 1)=(n:Int) - 1:=by
 have:=h.lo; have:=h.hi
 rw [h.size,Kmz (by omega) (by omega)]
theorem Kq7:∀ (k i:Nat),i + k=n * n→K94 (s,(i:Int))=some (if (List.range' i k).all (Kq3 s n) then .inl () else .inr false):=by
 have hn:=nn h
 intro k
 induction k with
 | zero =>
  intro i hm
  rw [K94.eq_def]
  simp only
  rw [h.lp,Kn3 (by omega)]
  rfl
 | succ k ih =>
  intro i hm
  rw [K94.eq_def]
  simp only
  rw [h.lp,Kn2 (by omega),if_pos rfl,Kq4 h (by omega),Kq5 h (by omega),Kq6 h]
  have ih:=ih (i + 1) (by omega)
  rw [Kn1 (by omega),List.range'_succ,List.all_cons]
  generalize ((i + 1:Nat):Int)=M at ih ⊢
  generalize (List.range' (i + 1) k).all (Kq3 s n)=r at ih ⊢
  simp only [bs,sIn]
  cases h1:inB (s.fPlus.getD i 0) 0 ((n:Int) - 1) <;> cases h2:inB (s.fTimes.getD i 0) 0 ((n:Int) - 1) <;> cases r <;> simp only [Kq3,h1,h2,ih,bs,Bool.not_true,Bool.not_false,Bool.true_and,Bool.false_and,Bool.and_true,Bool.and_false,if_true,if_false,Bool.false_eq_true]
theorem Kq8:∀ (k i:Nat),i + k=n * n→Kdp (s,(i:Int))=some (if (List.range' i k).all (Kq3 s n) then .inl () else .inr false):=by
 have hn:=nn h
 intro k
 induction k with
 | zero =>
  intro i hm
  rw [Kdp.eq_def]
  simp only
  rw [h.lp,Kn3 (by omega)]
  rfl
 | succ k ih =>
  intro i hm
  rw [Kdp.eq_def]
  simp only
  rw [h.lp,Kn2 (by omega),if_pos rfl,Kq4 h (by omega),Kq5 h (by omega)]
  have ih:=ih (i + 1) (by omega)
  rw [Kn1 (by omega),List.range'_succ,List.all_cons]
  generalize ((i + 1:Nat):Int)=M at ih ⊢
  generalize (List.range' (i + 1) k).all (Kq3 s n)=r at ih ⊢
  have hh:∀ x,Kcm (s,x)=some (inB x 0 ((n:Int) - 1)):=fun x=>by
   unfold Kcm
   simp only
   rw [Kq6 h,iIn,bs]
  simp only [bs,hh]
  cases h1:inB (s.fPlus.getD i 0) 0 ((n:Int) - 1) <;> cases h2:inB (s.fTimes.getD i 0) 0 ((n:Int) - 1) <;> cases r <;> simp only [Kq3,h1,h2,ih,bs,Bool.not_true,Bool.not_false,Bool.true_and,Bool.false_and,Bool.and_true,Bool.and_false,if_true,if_false,Bool.false_eq_true]
theorem Kq9 (he:(List.range' 0 (n * n)).all (Kq3 s n)=true):Tab s n:=by
 rw [List.all_eq_true] at he
 have hent:∀ i,i < n * n→Kq3 s n i=true:=fun i hi=>he i (by rw [List.mem_range'_1]; omega)
 refine ⟨h.size,h.lo,h.hi,h.lp,h.lt,h.lb,fun i hi=>?_,fun i hi=>?_⟩
 ·have:=hent i (by rw [← h.lp]; exact hi)
  simp only [Kq3,inB,Bool.and_eq_true,decide_eq_true_eq,List.getD_eq_getElem?_getD,List.getElem?_eq_getElem hi,Option.getD_some] at this
  omega
 ·have:=hent i (by rw [← h.lt]; exact hi)
  simp only [Kq3,inB,Bool.and_eq_true,decide_eq_true_eq,List.getD_eq_getElem?_getD,List.getElem?_eq_getElem hi,Option.getD_some] at this
  omega
end
def Kqa (s:K00):Bool:=inB s.fSize 2 16 && !((s.fPlus.length:Int) != (wr (s.fSize * s.fSize))) && !((s.fTimes.length:Int) != (wr (s.fSize * s.fSize))) && !((s.fBelow.length:Int) != (wr (s.fSize * s.fSize)))
theorem Kqb {s:K00} (h:Kqa s=true):Kq2 s s.fSize.toNat:=by
 unfold Kqa at h
 simp only [Bool.and_eq_true,Bool.not_eq_true',inB,decide_eq_true_eq,bne_eq_false_iff_eq] at h
 obtain ⟨⟨⟨⟨h1,h2⟩,h3⟩,h4⟩,h5⟩:=h
 obtain ⟨n,hn⟩:∃ n:Nat,s.fSize=(n:Int):=⟨s.fSize.toNat,by omega⟩
 rw [hn] at h1 h2 h3 h4 h5 ⊢
 have h256:n * n ≤ 256:=Nat.le_trans (Nat.mul_le_mul (by omega:n ≤ 16) (by omega:n ≤ 16)) (by decide)
 have e:(n:Int) * (n:Int)=((n * n:Nat):Int):=by simp
 rw [e] at h3 h4 h5
 generalize hm:n * n=m at *
 rw [Kmz (by omega) (by omega)] at h3 h4 h5
 rw [Int.toNat_natCast]
 exact ⟨hn,by omega,by omega,by omega,by omega,by omega⟩
def Kqc (s:K00):Bool:=Kqa s && (List.range' 0 (s.fSize.toNat * s.fSize.toNat)).all (Kq3 s s.fSize.toNat) && Kny s s.fSize.toNat
theorem Kqd {s:K00} (h:Kqc s=true):Tab s s.fSize.toNat:=by
 unfold Kqc at h
 simp only [Bool.and_eq_true] at h
 exact Kq9 (Kqb h.1.1) h.1.2
theorem Kqe (s:K00):Kal s=some (Kqc s):=by
 unfold Kal K97 Kqc
 rw [sIn]
 cases hf:Kqa s with
 | false =>
  unfold Kqa at hf
  cases h1:inB s.fSize 2 16 <;> cases h2:((s.fPlus.length:Int) != (wr (s.fSize * s.fSize))) <;> cases h3:((s.fTimes.length:Int) != (wr (s.fSize * s.fSize))) <;> cases h4:((s.fBelow.length:Int) != (wr (s.fSize * s.fSize))) <;> simp_all [bs]
 | true =>
  have F:=Kqb hf
  have hl:=Kq7 F (s.fSize.toNat * s.fSize.toNat) 0 (by omega)
  rw [show ((0:Nat):Int)=0 from rfl] at hl
  unfold Kqa at hf
  simp only [Bool.and_eq_true,Bool.not_eq_true'] at hf
  obtain ⟨⟨⟨h1,h2⟩,h3⟩,h4⟩:=hf
  cases he:(List.range' 0 (s.fSize.toNat * s.fSize.toNat)).all (Kq3 s s.fSize.toNat) with
  | false=>rw [he] at hl; simp [bs,h1,h2,h3,h4,hl]
  | true =>
   have T:=Kq9 F he
   have hl2:=Ko3 T s.fSize.toNat 0 (by omega)
   rw [show ((0:Nat):Int)=0 from rfl] at hl2
   rw [he] at hl
   have hm:(List.range' 0 s.fSize.toNat).all (fun a=>Kni s s.fSize.toNat a && (List.range' 0 s.fSize.toNat).all fun b=>Knv s s.fSize.toNat a b && (List.range' 0 s.fSize.toNat).all fun c=>Knj s s.fSize.toNat a b c)=Kny s s.fSize.toNat:=rfl
   rw [hm] at hl2
   cases hs:Kny s s.fSize.toNat <;> rw [hs] at hl2 <;> simp [bs,h1,h2,h3,h4,hl,hl2]
theorem Kqf (s:K00):Ke6 s=some (Kqc s):=by
 unfold Ke6 Kqc
 rw [iIn]
 cases hf:Kqa s with
 | false =>
  unfold Kqa at hf
  cases h1:inB s.fSize 2 16 <;> cases h2:((s.fPlus.length:Int) != (wr (s.fSize * s.fSize))) <;> cases h3:((s.fTimes.length:Int) != (wr (s.fSize * s.fSize))) <;> cases h4:((s.fBelow.length:Int) != (wr (s.fSize * s.fSize))) <;> simp_all [bs]
 | true =>
  have F:=Kqb hf
  have hl:=Kq8 F (s.fSize.toNat * s.fSize.toNat) 0 (by omega)
  rw [show ((0:Nat):Int)=0 from rfl] at hl
  unfold Kqa at hf
  simp only [Bool.and_eq_true,Bool.not_eq_true'] at hf
  obtain ⟨⟨⟨h1,h2⟩,h3⟩,h4⟩:=hf
  cases he:(List.range' 0 (s.fSize.toNat * s.fSize.toNat)).all (Kq3 s s.fSize.toNat) with
  | false=>rw [he] at hl; simp [bs,h1,h2,h3,h4,hl]
  | true =>
   have T:=Kq9 F he
   have hl2:=Ko4 T s.fSize.toNat 0 (by omega)
   rw [show ((0:Nat):Int)=0 from rfl] at hl2
   rw [he] at hl
   have hm:(List.range' 0 s.fSize.toNat).all (fun a=>Kni s s.fSize.toNat a && (List.range' 0 s.fSize.toNat).all fun b=>Knv s s.fSize.toNat a b && (List.range' 0 s.fSize.toNat).all fun c=>Knj s s.fSize.toNat a b c)=Kny s s.fSize.toNat:=rfl
   rw [hm] at hl2
   cases hs:Kny s s.fSize.toNat <;> rw [hs] at hl2 <;> simp [bs,h1,h2,h3,h4,hl,hl2]
section
variable {s:K00} {n:Nat} (h:Tab s n)
include h
theorem Kqg:wr (s.fSize - 1)=(n:Int) - 1:=by
 have:=h.lo; have:=h.hi
 rw [h.size,Kmz (by omega) (by omega)]
end
inductive Ty where
 | num
 | bin (c:Int) (a b:Ty)
 | un (c:Int) (a:Ty)
namespace Ty
def code:Ty→List Int
 | num=>[0]
 | bin c a b=>c :: (a.code ++ b.code)
 | un c a=>c :: a.code
def ok:Ty→Prop
 | num=>True
 | bin c a b=>Ko9 c=2∧a.ok∧b.ok
 | un c a=>Ko9 c=1∧a.ok
def kids:Ty→List Ty
 | num=>[]
 | bin _ a b=>[a,b]
 | un _ a=>[a]
def hd:Ty→Int
 | num=>0
 | bin c _ _=>c
 | un c _=>c
end Ty
def Kqh:List Ty→List Int
 | []=>[]
 | t :: l=>t.code ++ Kqh l
theorem Kqi (T:Ty):T.code=T.hd :: Kqh T.kids:=by cases T <;> simp [Ty.code,Ty.hd,Ty.kids,Kqh]
theorem Kqj (T:Ty):1 ≤ T.code.length:=by rw [Kqi]; simp
theorem Kqk (T:Ty):∀ (m:Nat) (l:List Int),T.ok→skip (m + 1) (T.code ++ l)=skip m l:=by
 induction T with
 | num =>
  intro m l _
  rw [Ty.code,List.singleton_append,Koj,show Ko9 0=0 from rfl,if_neg (by decide)]; rfl
 | bin c a b iha ihb =>
  intro m l h
  rw [Ty.code,List.cons_append,Koj,h.1,if_neg (by decide),List.append_assoc,show m + (2:Int).toNat=(m + 1) + 1 from rfl,iha _ _ h.2.1,ihb _ _ h.2.2]
 | un c a ih =>
  intro m l h
  rw [Ty.code,List.cons_append,Koj,h.1,if_neg (by decide),show m + (1:Int).toNat=m + 1 from rfl,ih _ _ h.2]
theorem Kql (l:List Int):∀ (m:Nat) (r:List Int),skip m l=some r→∃ Ts:List Ty,Ts.length=m∧(∀ T ∈ Ts,T.ok)∧l=Kqh Ts ++ r:=by
 induction l with
 | nil =>
  intro m r h
  cases m with
  | zero=>rw [Koh] at h; cases h; exact ⟨[],rfl,fun _ h=>(by cases h),rfl⟩
  | succ m=>rw [Koi] at h; cases h
 | cons c l ih =>
  intro m r h
  cases m with
  | zero=>rw [Koh] at h; cases h; exact ⟨[],rfl,fun _ h=>(by cases h),rfl⟩
  | succ m =>
   rw [Koj] at h
   by_cases hk:Ko9 c=-1
   ·rw [if_pos hk] at h; cases h
   ·rw [if_neg hk] at h
    obtain ⟨Ts,h1,h2,h3⟩:=ih _ _ h
    rcases Kod c with ⟨q,e⟩ | ⟨q,e⟩ | ⟨q,e⟩ | ⟨q,e⟩
    ·subst q
     rw [e] at h1
     exact ⟨.num :: Ts,by simpa using h1,fun T hT=>by rcases List.mem_cons.1 hT with rfl | hT; exact trivial; exact h2 T hT,by rw [h3]; rfl⟩
    ·rw [e] at h1
     match Ts,h1 with
     | a :: b :: Ts,h1 =>
      refine ⟨.bin c a b :: Ts,by simpa using h1,fun T hT=>?_,by rw [h3]; simp [Kqh,Ty.code]⟩
      rcases List.mem_cons.1 hT with rfl | hT
      ·exact ⟨e,h2 a List.mem_cons_self,h2 b (List.mem_cons_of_mem _ List.mem_cons_self)⟩
      ·exact h2 T (List.mem_cons_of_mem _ (List.mem_cons_of_mem _ hT))
     | [_],h1=>exact absurd h1 (by simp)
     | [],h1=>exact absurd h1 (by simp)
    ·rw [e] at h1
     match Ts,h1 with
     | a :: Ts,h1 =>
      refine ⟨.un c a :: Ts,by simpa using h1,fun T hT=>?_,by rw [h3]; simp [Kqh,Ty.code]⟩
      rcases List.mem_cons.1 hT with rfl | hT
      ·exact ⟨e,h2 a List.mem_cons_self⟩
      ·exact h2 T (List.mem_cons_of_mem _ hT)
     | [],h1=>exact absurd h1 (by simp)
    ·exact absurd e hk
theorem Kqm {ty:List Int} (h:wtB ty=true):∃ T:Ty,T.ok∧ty=T.code∧ty.length ≤ 40:=by
 have hl:=Kpw h
 unfold wtB at h
 rw [Bool.and_eq_true,beq_iff_eq] at h
 obtain ⟨Ts,h1,h2,h3⟩:=Kql _ _ _ h.2
 match Ts,h1 with
 | [T],_=>exact ⟨T,h2 T List.mem_cons_self,by rw [h3]; simp [Kqh],hl⟩
theorem Kqn {T:Ty} (h:T.ok) (hl:T.code.length ≤ 40):wtB T.code=true:=by
 unfold wtB
 have:=Kqk T 0 [] h
 rw [List.append_nil,Koh] at this
 rw [decide_eq_true hl,show (1:Nat)=0 + 1 from rfl,this]; rfl
theorem Kqo {T:Ty} (h:T.ok):∀ K ∈ T.kids,K.ok:=by
 intro K hK
 cases T with
 | num=>cases hK
 | bin c a b=>rcases List.mem_cons.1 hK with rfl | hK; exact h.2.1; rw [List.mem_singleton.1 hK]; exact h.2.2
 | un c a=>rw [List.mem_singleton.1 hK]; exact h.2
theorem Kqp {pre:List Int} {T:Ty} {post:List Int} (h:T.ok):Kom (pre ++ (T.code ++ post)) 1 pre.length=((pre.length + T.code.length:Nat):Int):=by
 unfold Kom
 rw [List.drop_left,show (1:Nat)=0 + 1 from rfl,Kqk T 0 post h,Koh]
 simp only [List.length_append]
 omega
theorem Kqq {α:Type} (p m q:List α) (mx:Option Int) (hmx:mx=none∨mx=some ((p.length + m.length:Nat):Int)):cut (p ++ (m ++ q)) (some (p.length:Int)) (some ((p.length + m.length:Nat):Int)) mx=some m:=by
 unfold cut
 have e:((p ++ (m ++ q)).take (p.length + m.length)).drop p.length=m:=by
  rw [← List.append_assoc,← List.length_append,List.take_left,List.drop_left]
 rw [if_pos]
 ·simp only [Option.getD_some,Int.toNat_natCast,e]
 ·rcases hmx with rfl | rfl <;> simp only [Option.getD_some,Option.getD_none,List.length_append] <;> omega
theorem Kqr {α:Type} (p q:List α):cut (p ++ q) (some (p.length:Int)) none none=some q:=by
 unfold cut
 rw [if_pos]
 ·simp only [Option.getD_some,Option.getD_none,Int.toNat_natCast,List.take_length,List.drop_left]
 ·simp only [Option.getD_some,Option.getD_none,List.length_append]; omega
theorem Kqs (Ks:List Ty):∀ (pre:List Int) (out:List (List Int)),(∀ K ∈ Ks,K.ok)→(pre ++ Kqh Ks).length ≤ 1099511627776→out.length + Ks.length ≤ 1099511627776→Ked (pre ++ Kqh Ks,out,(pre.length:Int))=some (out ++ Ks.map Ty.code):=by
 induction Ks with
 | nil =>
  intro pre out hk hl ho
  rw [show Kqh []=[] from rfl,List.append_nil,Ked.eq_def]
  simp only
  rw [Kn3 (Nat.le_refl _)]; simp
 | cons K Ks ih =>
  intro pre out hk hl ho
  have hK:=hk K List.mem_cons_self
  have hp:=Kqj K
  rw [show Kqh (K :: Ks)=K.code ++ Kqh Ks from rfl] at hl ⊢
  rw [List.length_cons] at ho
  rw [Ked.eq_def]
  simp only
  rw [Kn2 (by simp only [List.length_append]; omega),if_pos rfl,Koq _ hl _ pre.length rfl,Kqp hK,bs,Kqq _ _ _ _ (.inr rfl),bs,Kpy (by simp only [List.length_singleton]; omega),bs]
  have:=ih (pre ++ K.code) (out ++ [K.code]) (fun K hK=>hk K (List.mem_cons_of_mem _ hK)) (by rw [List.append_assoc]; exact hl) (by simp; omega)
  rw [List.append_assoc,List.length_append] at this
  rw [this,List.map_cons,List.append_assoc]; rfl
theorem Kqt {T:Ty} (h:T.ok) (hl:T.code.length ≤ 1048576):Keg T.code=some (T.kids.map Ty.code):=by
 unfold Keg
 have hk:T.kids.length ≤ 2:=by cases T <;> simp [Ty.kids]
 have e:[T.hd] ++ Kqh T.kids=T.code:=(Kqi T).symm
 have:=Kqs T.kids [T.hd] [] (Kqo h) (by rw [e]; omega) (by simp only [List.length_nil]; omega)
 rw [e] at this
 rw [show (1:Int)=(([T.hd].length:Nat):Int) from rfl,this,bs]; rfl
theorem Kqu {c:Int} {a:Ty} {r:List Int} (ha:a.ok) (hl:(c :: (a.code ++ r)).length ≤ 1099511627776):Kma (c :: (a.code ++ r),0)=some a.code:=by
 unfold Kma
 simp only
 have e:=Kqp (pre:=[c]) (post:=r) ha
 have h1:=Koo (c :: (a.code ++ r)) hl 1 (by simp)
 rw [show (((1:Nat)):Int)=1 from rfl] at h1
 rw [List.length_singleton] at e
 have e':Kom (c :: (a.code ++ r)) 1 1=((1 + a.code.length:Nat):Int):=e
 rw [h1,bs,e',if_pos (by rfl)]
 have h2:=Kqq [c] a.code r none (.inl rfl)
 rw [List.length_singleton] at h2
 have h2':cut (c :: (a.code ++ r)) (some 1) (some ((1 + a.code.length:Nat):Int)) none=some a.code:=h2
 simp only [List.length_cons,List.length_append] at hl
 rw [h2',bs,Kq0 _ (by omega),bs]
theorem Kqv {c:Int} {a:Ty} {r:List Int} (ha:a.ok) (hl:(c :: (a.code ++ r)).length ≤ 1099511627776):Kma (c :: (a.code ++ r),1)=some r:=by
 unfold Kma
 simp only
 have e:=Kqp (pre:=[c]) (post:=r) ha
 have h1:=Koo (c :: (a.code ++ r)) hl 1 (by simp)
 rw [show (((1:Nat)):Int)=1 from rfl] at h1
 rw [List.length_singleton] at e
 have e':Kom (c :: (a.code ++ r)) 1 1=((1 + a.code.length:Nat):Int):=e
 rw [h1,bs,e',if_neg (by decide)]
 have h2:=Kqr (c :: a.code) r
 rw [List.length_cons,List.cons_append,Nat.add_comm] at h2
 simp only [List.length_cons,List.length_append] at hl
 rw [h2,bs,Kq0 _ (by omega),bs]
def Ty.dat:Ty→Prop
 | .num=>True
 | .bin c a b=>(c=1∨c=2)∧a.dat∧b.dat
 | .un _ a=>a.dat
theorem Kqw {T:Ty} (h:T.ok):(T.code.all fun c=>!Ko7 c)=true→T.dat:=by
 induction T with
 | num=>intro _; trivial
 | bin c a b iha ihb =>
  intro hd
  rw [Ty.code,List.all_cons,List.all_append,Bool.and_eq_true,Bool.and_eq_true] at hd
  refine ⟨?_,iha h.2.1 hd.2.1,ihb h.2.2 hd.2.2⟩
  have h1:=h.1
  have h2:=hd.1
  unfold Ko7 inB at h2
  simp only [Bool.not_eq_true',Bool.or_eq_false_iff,beq_eq_false_iff_ne,Bool.and_eq_false_iff,decide_eq_false_iff_not] at h2
  rcases Kod c with q | q | q | q <;> omega
 | un c a ih =>
  intro hd
  rw [Ty.code,List.all_cons,Bool.and_eq_true] at hd
  exact ih h.2 hd.2
def Kqx (ty:List Int):Bool:=ty.all fun c=>!Ko7 c
theorem Kqy (ty:List Int) (hty:ty.length ≤ 1099511627776):∀ (l:List Int) (i:Nat),ty.drop i=l→Km7 (ty,(i:Int))=some (if l.all (fun c=>!Ko7 c) then .inl () else .inr false):=by
 intro l
 induction l with
 | nil =>
  intro i hd
  rw [Km7.eq_def]
  simp only
  rw [Kn3 (Ko6 hd)]; rfl
 | cons c l ih =>
  intro i hd
  obtain ⟨hi,hx,hd'⟩:=Ko5 hd
  rw [Km7.eq_def]
  simp only
  rw [Kn2 hi,if_pos rfl,hx,bs,Koa,bs,Kn1 (by omega),ih (i + 1) hd',List.all_cons]
  cases Ko7 c <;> simp
theorem Kqz (ty:List Int) (hty:ty.length ≤ 1099511627776):Km8 ty=some (Kqx ty):=by
 unfold Km8 Kqx
 rw [show (0:Int)=((0:Nat):Int) from rfl,Kqy ty hty _ 0 rfl,List.drop_zero,bs]
 cases ty.all (fun c=>!Ko7 c) <;> rfl
theorem Kr0 (c:Int):((Koe c).1 == 3)=Ko7 c:=by
 unfold Ko7 inB
 rcases Kog c with ⟨h,e⟩ | ⟨h,e⟩ | ⟨h,e⟩ | ⟨h,e⟩ | ⟨h,e⟩ | ⟨h,e⟩ | ⟨h,e⟩ | ⟨h,e⟩ <;> rw [e] <;> (first | (subst h; rfl) | skip)
 ·rw [decide_eq_true (by omega:c ≥ 3),decide_eq_true (by omega:c ≤ 18)]; rfl
 ·rw [decide_eq_false (by omega:¬ c ≤ 18),beq_eq_false_iff_ne.2 (by omega:c ≠ 35)]; simp
 ·have:¬ (c ≥ 3∧c ≤ 18):=by omega
  rw [beq_eq_false_iff_ne.2 (by omega:c ≠ 35)]
  by_cases h3:c ≥ 3
  ·rw [decide_eq_false (by omega:¬ c ≤ 18)]; simp
  ·rw [decide_eq_false h3]; simp
theorem Kr1 (c:Int):Kes c=some (Ko7 c):=by
 unfold Kes
 rw [Kof,bs]
 have:=Kr0 c
 revert this
 rcases Koe c with ⟨a,b⟩
 intro this
 simp only at this ⊢
 rw [this]
theorem Kr2 (ty:List Int) (hty:ty.length ≤ 1099511627776):∀ (l:List Int) (i:Nat),ty.drop i=l→∃ r,Kew (ty,(i:Int))=some r∧(match r with | .inl _=>l.all (fun c=>!Ko7 c)=true | .inr m=>l.all (fun c=>!Ko7 c)=false∧0 ≤ m):=by
 intro l
 induction l with
 | nil =>
  intro i hd
  rw [Kew.eq_def]
  simp only
  rw [Kn3 (Ko6 hd)]
  exact ⟨_,rfl,rfl⟩
 | cons c l ih =>
  intro i hd
  obtain ⟨hi,hx,hd'⟩:=Ko5 hd
  rw [Kew.eq_def]
  simp only
  rw [Kn2 hi,if_pos rfl,hx,bs,Kr1,bs,Kn1 (by omega),List.all_cons]
  cases Ko7 c
  ·obtain ⟨r,h1,h2⟩:=ih (i + 1) hd'
   exact ⟨r,h1,by simpa using h2⟩
  ·exact ⟨.inr (i:Int),rfl,by simp⟩
theorem Kr3 (ty:List Int) (hty:ty.length ≤ 1099511627776):Kf2 ty=some (!Kqx ty):=by
 unfold Kf2 Kez Kqx
 obtain ⟨r,h1,h2⟩:=Kr2 ty hty _ 0 rfl
 rw [List.drop_zero] at h2
 rw [show (0:Int)=((0:Nat):Int) from rfl,h1,bs]
 cases r with
 | inl u=>simp only at h2; rw [h2]; rfl
 | inr m=>simp only at h2; rw [h2.1]; simp [bs,h2.2]
def Kr4 (s:K00) (g:Int):Bool:=inB g 0 (wr (s.fSize - 1))
theorem Kr5 (s:K00) (g:Int):Kcm (s,g)=some (Kr4 s g):=by
 unfold Kcm Kr4
 simp only
 rw [iIn,bs]
def Kr6 (s:K00) (c:Int):Bool:=!(((Koe c).1 == 3 || (Koe c).1 == 4) && !Kr4 s (Koe c).2)
def Kr7 (s:K00) (ty:List Int):Bool:=wtB ty && ty.all (Kr6 s)
theorem Kr8 (s:K00) (ty:List Int) (hty:ty.length ≤ 1099511627776):∀ (l:List Int) (i:Nat),ty.drop i=l→Kcq (s,ty,(i:Int))=some (if l.all (Kr6 s) then .inl () else .inr false):=by
 intro l
 induction l with
 | nil =>
  intro i hd
  rw [Kcq.eq_def]
  simp only
  rw [Kn3 (Ko6 hd)]; rfl
 | cons c l ih =>
  intro i hd
  obtain ⟨hi,hx,hd'⟩:=Ko5 hd
  rw [Kcq.eq_def]
  simp only
  rw [Kn2 hi,if_pos rfl,hx,bs,Kof,bs,Kn1 (by omega),ih (i + 1) hd',List.all_cons]
  unfold Kr6
  rcases Koe c with ⟨a,b⟩
  simp only [Kr5,bs]
  cases a == 3 <;> cases a == 4 <;> cases Kr4 s b <;> simp [bs]
theorem Kr9 (s:K00) (ty:List Int) (hty:ty.length ≤ 1099511627776):Kct (s,ty)=some (Kr7 s ty):=by
 unfold Kct Kr7
 simp only
 rw [Kot ty hty,bs]
 cases wtB ty
 ·rfl
 ·rw [if_pos rfl,show (0:Int)=((0:Nat):Int) from rfl,Kr8 s ty hty _ 0 rfl,List.drop_zero,bs]
  cases ty.all (Kr6 s) <;> rfl
theorem Kra {s:K00} {n:Nat} (h:Tab s n) (g:Int):Kr4 s g=inB g 0 ((n:Int) - 1):=by
 unfold Kr4; rw [Kqg h]
theorem Krb {s:K00} {n:Nat} (h:Tab s n) {c:Int}:Kr6 s c=Kov s.fSize true c:=by
 unfold Kr6 Kov Kou
 have hn:=h.lo
 rw [Kra h,h.size]
 rcases Kog c with ⟨q,e⟩ | ⟨q,e⟩ | ⟨q,e⟩ | ⟨q,e⟩ | ⟨q,e⟩ | ⟨q,e⟩ | ⟨q,e⟩ | ⟨q,e⟩ <;> rw [e]
 ·subst q; rfl
 ·subst q; rfl
 ·subst q; rfl
 ·have hk:Ko9 c=2:=by rcases Kod c with h | h | h | h <;> omega
  rw [hk,if_neg (by omega),if_neg (by omega),decide_eq_true (by omega:c > 2)]
  unfold inB
  rw [decide_eq_true (by omega:c - 3 ≥ 0),decide_eq_false (by omega:¬ c - 3 < 0)]
  by_cases hc:c - 3 ≤ (n:Int) - 1
  ·rw [decide_eq_true hc,decide_eq_false (by omega:¬ c - 3 ≥ (n:Int))]; rfl
  ·rw [decide_eq_false hc,decide_eq_true (by omega:c - 3 ≥ (n:Int))]; rfl
 ·subst q; unfold inB; simp [Ko9,Ko7,Ko8,inB]
 ·have hk:Ko9 c=1:=by rcases Kod c with h | h | h | h <;> omega
  rw [hk,if_neg (by omega),if_pos (by omega),decide_eq_true (by omega:c > 2)]
  unfold inB
  rw [decide_eq_true (by omega:c - 19 ≥ 0),decide_eq_false (by omega:¬ c - 19 < 0)]
  by_cases hc:c - 19 ≤ (n:Int) - 1
  ·rw [decide_eq_true hc,decide_eq_false (by omega:¬ c - 19 ≥ (n:Int))]; rfl
  ·rw [decide_eq_false hc,decide_eq_true (by omega:c - 19 ≥ (n:Int))]; rfl
 ·subst q; unfold inB; simp [Ko9,Ko7,Ko8,inB]
 ·have hk:Ko9 c=-1:=by rcases Kod c with h | h | h | h <;> omega
  rw [hk]; simp
theorem Krc {s:K00} {n:Nat} (h:Tab s n) (ty:List Int):Kr7 s ty=yN s.fSize true ty:=by
 unfold Kr7 yN
 rw [show Kr6 s=Kov s.fSize true from funext fun c=>Krb h]
def Krd (s:K00) (ty:List Int):Bool:=Kqc s && Kr7 s ty
theorem Kre (s:K00) (ty:List Int) (hty:ty.length ≤ 1099511627776):Klr (s,ty)=some (Krd s ty):=by
 unfold Klr Krd
 simp only
 rw [Kqe,bs]
 cases hs:Kqc s
 ·rfl
 ·rw [if_pos rfl,Kos ty hty,bs,Koy ty hty,Bool.true_and,Krc (Kqd hs)]
  unfold yN
  cases wtB ty <;> rfl
theorem Krf (s:K00) (ty:List Int) (hty:ty.length ≤ 1099511627776):Km9 (s,ty)=some (Krd s ty && Kqx ty):=by
 unfold Km9
 simp only
 rw [Kre s ty hty,bs,Kqz ty hty]
 cases Krd s ty <;> rfl
theorem Krg (s:K00) (ty:List Int) (hty:ty.length ≤ 1099511627776):Kf5 (s,ty)=some (Kr7 s ty && Kqx ty):=by
 unfold Kf5
 simp only
 rw [Kr9 s ty hty,bs,Kr3 ty hty]
 cases Kr7 s ty <;> simp [bs]
theorem Krh (s:K00) (ty:List Int) (hty:ty.length ≤ 1099511627776):Kf8 (s,ty)=some (Krd s ty && Kqx ty):=by
 unfold Kf8 Krd
 simp only
 rw [Krg s ty hty,bs,Kqf]
 cases Kr7 s ty <;> cases Kqx ty <;> cases Kqc s <;> rfl
def Kri:Ty→Nat
 | .num=>3
 | .bin c a b=>if c=1 then min (Kri a * Kri b) 301 else min (Kri a + Kri b) 301
 | .un _ a=>Kri a
theorem Krj (T:Ty):1 ≤ Kri T∧Kri T ≤ 301:=by
 induction T with
 | num=>decide
 | bin c a b iha ihb =>
  rw [Kri]
  have:1 ≤ Kri a * Kri b:=Nat.mul_le_mul iha.1 ihb.1
  split <;> omega
 | un c a ih=>rw [Kri]; exact ih
theorem Krk {α:Type} (x:α) (l:List α):idx (x :: l) 0=some x:=rfl
theorem Krl {α:Type} (x y:α) (l:List α):idx (x :: y :: l) 1=some y:=rfl
theorem Krm {a b:Nat} (ha:a ≤ 301) (hb:b ≤ 301):wr ((a:Int) * (b:Int))=((a * b:Nat):Int):=by
 have:a * b ≤ 301 * 301:=Nat.mul_le_mul ha hb
 rw [← Int.natCast_mul,Kmz (by omega) (by omega)]
theorem Krn {a b:Nat} (ha:a ≤ 1099511627776) (hb:b ≤ 1099511627776):wr ((a:Int) + (b:Int))=((a + b:Nat):Int):=by rw [Kmz (by omega) (by omega)]; omega
theorem Kro (a b:Nat):K85 ((a:Int),(b:Int))=some ((min a b:Nat):Int):=by
 unfold K85
 simp only
 by_cases h:a < b
 ·rw [decide_eq_true (by omega:(a:Int) < (b:Int)),if_pos rfl,Nat.min_eq_left (by omega)]
 ·rw [decide_eq_false (by omega:¬ (a:Int) < (b:Int)),if_neg (by decide),Nat.min_eq_right (by omega)]
theorem Krp (a b:Nat):mnx false (a:Int) (b:Int)=((min a b:Nat):Int):=by
 unfold mnx
 simp only [cond_false]
 by_cases h:b < a
 ·rw [if_pos (by omega),Nat.min_eq_right (by omega)]
 ·rw [if_neg (by omega),Nat.min_eq_left (by omega)]
theorem Krq (T:Ty):T.ok→T.dat→T.code.length ≤ 1048576→Kmb T.code=some ((Kri T:Nat):Int):=by
 induction T with
 | num=>intro _ _ _; rw [Kmb.eq_def]; rfl
 | bin c a b iha ihb =>
  intro h hd hl
  have h0:=Kqu (c:=c) (r:=b.code) h.2.1 (by rw [Ty.code] at hl; omega)
  have h1:=Kqv (c:=c) (r:=b.code) h.2.1 (by rw [Ty.code] at hl; omega)
  have la:=Krj a
  have lb:=Krj b
  rw [Ty.code,List.length_cons,List.length_append] at hl
  rw [Ty.code,Kmb.eq_def]
  rw [Krk,bs]
  rcases hd.1 with rfl | rfl
  ·rw [if_neg (by decide),if_pos (by rfl),h0,bs,iha h.2.1 hd.2.1 (by omega),bs,h1,bs,ihb h.2.2 hd.2.2 (by omega),bs,Krm la.2 lb.2,show (301:Int)=((301:Nat):Int) from rfl,Kro,bs,Kri,if_pos rfl]
  ·rw [if_neg (by decide),if_neg (by decide),if_pos (by rfl),h0,bs,iha h.2.1 hd.2.1 (by omega),bs,h1,bs,ihb h.2.2 hd.2.2 (by omega),bs,Krn (by omega) (by omega),show (301:Int)=((301:Nat):Int) from rfl,Kro,bs,Kri,if_neg (by decide)]
 | un c a ih =>
  intro h hd hl
  have e:Ty.code (.un c a)=c :: (a.code ++ []):=by rw [Ty.code,List.append_nil]
  have h0:=Kqu (c:=c) (r:=[]) h.2 (by rw [← e]; omega)
  rw [Ty.code,List.length_cons] at hl
  have hk:=h.1
  have hc:c ≠ 0∧c ≠ 1∧c ≠ 2:=by rcases Kod c with q | q | q | q <;> omega
  rw [e,Kmb.eq_def]
  rw [Krk,bs,beq_eq_false_iff_ne.2 hc.1,beq_eq_false_iff_ne.2 hc.2.1,beq_eq_false_iff_ne.2 hc.2.2]
  rw [if_neg (by decide),if_neg (by decide),if_neg (by decide),h0,bs,ih h.2 hd (by omega),bs,Kri]
theorem Krr (T:Ty):T.ok→T.dat→T.code.length ≤ 1048576→Kfs T.code=some ((Kri T:Nat):Int):=by
 induction T with
 | num=>intro _ _ _; rw [Kfs.eq_def,Kqt (T:=.num) trivial (by simp [Ty.code])]; rfl
 | bin c a b iha ihb =>
  intro h hd hl
  have la:=Krj a
  have lb:=Krj b
  have hp:=Kqt h hl
  rw [Ty.kids,List.map_cons,List.map_cons,List.map_nil] at hp
  rw [Kfs.eq_def,hp]
  rw [Ty.code,List.length_cons,List.length_append] at hl
  rw [Ty.code,Krk,bs,Kof,bs]
  rcases hd.1 with rfl | rfl
  ·rw [show Koe 1=(1,-1) from rfl]
   simp only [bs,Krk,Krl]
   rw [iha h.2.1 hd.2.1 (by omega),ihb h.2.2 hd.2.2 (by omega)]
   simp only [bs]
   rw [if_pos (by rfl),bs,Krm la.2 lb.2,show (301:Int)=((301:Nat):Int) from rfl,Krp,Kri,if_pos rfl]
  ·rw [show Koe 2=(2,-1) from rfl]
   simp only [bs,Krk,Krl]
   rw [iha h.2.1 hd.2.1 (by omega),ihb h.2.2 hd.2.2 (by omega)]
   simp only [bs]
   rw [if_neg (by decide),if_pos (by rfl),bs,bs,Krn (by omega) (by omega),show (301:Int)=((301:Nat):Int) from rfl,Krp,Kri,if_neg (by decide)]
 | un c a ih =>
  intro h hd hl
  have la:=Krj a
  have hp:=Kqt h hl
  rw [Ty.kids,List.map_cons,List.map_nil] at hp
  have hk:=h.1
  have hc:(Koe c).1=4:=by rcases Kog c with ⟨q,e⟩ | ⟨q,e⟩ | ⟨q,e⟩ | ⟨q,e⟩ | ⟨q,e⟩ | ⟨q,e⟩ | ⟨q,e⟩ | ⟨q,e⟩ <;> rw [e] <;> simp only <;> (rcases Kod c with q | q | q | q <;> omega)
  rw [Kfs.eq_def,hp]
  rw [Ty.code,List.length_cons] at hl
  rw [Ty.code,Krk,bs,Kof,bs]
  revert hc
  rcases Koe c with ⟨x,y⟩
  intro hc
  simp only at hc
  subst hc
  simp only [bs,Krk]
  rw [ih h.2 hd (by omega)]
  simp only [bs]
  rw [if_neg (by decide),if_neg (by decide),if_pos (by rfl),bs,bs,bs,show (301:Int)=((301:Nat):Int) from rfl,Krp,Kri,Nat.min_eq_left la.2]
theorem Krs {s:K00} {ty:List Int} (h:(Krd s ty && Kqx ty)=true):∃ T:Ty,T.ok∧T.dat∧ty=T.code∧ty.length ≤ 40:=by
 unfold Krd Kr7 at h
 simp only [Bool.and_eq_true] at h
 obtain ⟨T,h1,h2,h3⟩:=Kqm h.1.2.1
 exact ⟨T,h1,Kqw h1 (by rw [← h2]; exact h.2),h2,h3⟩
theorem Krt (s:K00) (ty:List Int) (hty:ty.length ≤ 1048576) :
  (∃ T:Ty,T.ok∧T.dat∧ty=T.code∧ty.length ≤ 40∧(Krd s ty && Kqx ty)=true∧Kmc (s,ty)=some (if Kri T > 300 then -1 else (Kri T:Int))∧Kfv (s,ty)=some (if Kri T > 300 then -1 else (Kri T:Int))) ∨
  ((Krd s ty && Kqx ty)=false∧Kmc (s,ty)=some (-1)∧Kfv (s,ty)=some (-1)):=by
 unfold Kmc Kfv
 simp only
 rw [Krf s ty (by omega),Krh s ty (by omega)]
 cases h:Krd s ty && Kqx ty
 ·exact .inr ⟨rfl,rfl,rfl⟩
 ·obtain ⟨T,h1,h2,h3,h4⟩:=Krs h
  refine .inl ⟨T,h1,h2,h3,h4,rfl,?_,?_⟩
  ·subst h3
   rw [bs,if_pos rfl,Krq T h1 h2 hty,bs,bs]
   by_cases q:Kri T > 300
   ·rw [decide_eq_true (by omega),if_pos rfl,if_pos q]
   ·rw [decide_eq_false (by omega),if_neg (by decide),if_neg q,bs]
  ·subst h3
   rw [bs,if_pos rfl,Krr T h1 h2 hty,bs,bs]
   by_cases q:Kri T > 300
   ·rw [decide_eq_true (by omega),if_pos rfl,if_pos q]
   ·rw [decide_eq_false (by omega),if_neg (by decide),if_neg q,bs]
def sms (s:K00):Nat:=s.fPlus.length + s.fTimes.length + s.fBelow.length
theorem Kru {l:List K02} {t:K02} (h:t ∈ l):tsz t ≤ Kp0 l:=by
 induction l with
 | nil=>cases h
 | cons x l ih =>
  rw [Kp0]
  rcases List.mem_cons.1 h with rfl | h
  ·omega
  ·have:=ih h; omega
theorem Krv {t k:K02} (h:k ∈ t.fKids):tsz k + 1 ≤ tsz t:=by
 rw [Kp2 t]
 have:=Kru h
 omega
def noT:K02:=⟨0,0,[],[]⟩
theorem Krw (b:Bool):(!(b == b))=false:=by cases b <;> rfl
def lct:List (List Int)→Nat
 | []=>0
 | x :: l=>x.length + lct l
theorem Krx {l:List (List Int)} {x:List Int} (h:x ∈ l):x.length ≤ lct l:=by
 induction l with
 | nil=>cases h
 | cons y l ih =>
  rw [lct]
  rcases List.mem_cons.1 h with rfl | h
  ·omega
  ·have:=ih h; omega
theorem Kry {α:Type} (x:α) (l:List α):cut (x :: l) (some 1) none none=some l:=Kqr [x] l
theorem Krz {g:Int→Bool} {y:List Int→Bool}:∀ (ks:List K02) (op:Int) (n i j:Nat) (hj:j < ks.length),Kpq g y op n i ks=true→tOk g y (n + Kpj op ((i + j:Nat):Int)) ks[j]=true
 | k :: ks,op,n,i,j,hj,ht=>by
  rw [Kpq,Bool.and_eq_true] at ht
  cases j with
  | zero=>exact ht.1
  | succ j =>
   have:=Krz ks op n (i + 1) j (by simpa using hj) ht.2
   rw [show i + 1 + j=i + (j + 1) by omega] at this
   exact this
theorem Ks0 {c:Int} (h:Ko9 c=2):(c=1∧Koe c=(1,-1))∨(c=2∧Koe c=(2,-1))∨((c ≠ 0∧c ≠ 1∧c ≠ 2)∧Ko8 c=false∧Ko7 c=true∧Koe c=(3,Kou c)):=by
 rcases Kod c with q | ⟨q,_⟩ | q | q
 ·omega
 ·rcases Kog c with ⟨h,e⟩ | ⟨h,e⟩ | ⟨h,e⟩ | ⟨h,e⟩ | ⟨h,e⟩ | ⟨h,e⟩ | ⟨h,e⟩ | ⟨h,e⟩
  ·omega
  ·exact .inl ⟨h,e⟩
  ·exact .inr (.inl ⟨h,e⟩)
  ·refine .inr (.inr ⟨by omega,?_,?_,?_⟩)
   ·unfold Ko8 inB; rw [Bool.eq_false_iff]; simp; omega
   ·unfold Ko7 inB; simp; omega
   ·rw [e]; unfold Kou; rw [if_neg (by omega),if_neg (by omega)]
  ·subst h; exact .inr (.inr ⟨by omega,rfl,rfl,rfl⟩)
  ·omega
  ·omega
  ·omega
 ·omega
 ·omega
theorem Ks1 {c:Int} (h:Ko9 c=1):(c ≠ 0∧c ≠ 1∧c ≠ 2)∧Ko8 c=true∧Ko7 c=false∧Koe c=(4,Kou c):=by
 rcases Kod c with q | q | ⟨q,_⟩ | q
 ·omega
 ·omega
 ·rcases Kog c with ⟨h,e⟩ | ⟨h,e⟩ | ⟨h,e⟩ | ⟨h,e⟩ | ⟨h,e⟩ | ⟨h,e⟩ | ⟨h,e⟩ | ⟨h,e⟩
  ·omega
  ·omega
  ·omega
  ·omega
  ·omega
  ·refine ⟨by omega,?_,?_,?_⟩
   ·unfold Ko8 inB; simp; omega
   ·unfold Ko7 inB; rw [Bool.eq_false_iff]; simp; omega
   ·rw [e]; unfold Kou; rw [if_neg (by omega),if_pos (by omega)]
  ·subst h; exact ⟨by omega,rfl,rfl,rfl⟩
  ·omega
 ·omega
structure Ks2 (c:Int) (a b:Ty):Prop where
 p0:Kma (c :: (a.code ++ b.code),0)=some a.code
 p1:Kma (c :: (a.code ++ b.code),1)=some b.code
 pp:Keg (c :: (a.code ++ b.code))=some [a.code,b.code]
 ok:a.ok∧b.ok
 la:a.code.length + b.code.length + 1 ≤ 1048576
theorem Ks3 {c:Int} {a b:Ty} (h:(Ty.bin c a b).ok) (hl:(Ty.bin c a b).code.length ≤ 1048576):Ks2 c a b:=by
 have hl':=hl
 rw [Ty.code] at hl'
 have h3:=Kqt h hl
 rw [Ty.kids,List.map_cons,List.map_cons,List.map_nil,Ty.code] at h3
 refine ⟨Kqu h.2.1 (by omega),Kqv h.2.1 (by omega),h3,h.2,?_⟩
 rw [List.length_cons,List.length_append] at hl'
 omega
structure UnP (c:Int) (a:Ty):Prop where
 p0:Kma (c :: a.code,0)=some a.code
 pp:Keg (c :: a.code)=some [a.code]
 ok:a.ok
 la:a.code.length + 1 ≤ 1048576
theorem unP {c:Int} {a:Ty} (h:(Ty.un c a).ok) (hl:(Ty.un c a).code.length ≤ 1048576):UnP c a:=by
 have hl':=hl
 rw [Ty.code] at hl'
 have h3:=Kqt h hl
 rw [Ty.kids,List.map_cons,List.map_nil,Ty.code] at h3
 have h4:=Kqu (c:=c) (r:=[]) h.2 (by rw [List.append_nil]; omega)
 rw [List.append_nil] at h4
 refine ⟨h4,h3,h.2,?_⟩
 rw [List.length_cons] at hl'
 omega
theorem Ks4:Keg [0]=some []:=Kqt (T:=.num) trivial (by simp [Ty.code])
def dfl:Ty→K02
 | .num=>⟨1,0,[],[]⟩
 | .bin c a b=>if c=1 then ⟨4,0,[],[dfl a,dfl b]⟩ else if c=2 then ⟨6,0,b.code,[dfl a]⟩ else ⟨9,Kou c,a.code,[dfl b]⟩
 | .un c a=>⟨11,Kou c,[],[dfl a]⟩
theorem Ks5 (T:Ty):tms (dfl T) ≤ 3 * T.code.length:=by
 induction T with
 | num=>simp [dfl,tms,Kp1]
 | bin c a b iha ihb =>
  rw [dfl,Ty.code,List.length_cons,List.length_append]
  split
  ·simp only [tms,Kp1,List.length_cons,List.length_nil]; omega
  ·split
   ·simp only [tms,Kp1,List.length_cons,List.length_nil]; omega
   ·simp only [tms,Kp1,List.length_cons,List.length_nil]; omega
 | un c a ih=>rw [dfl,Ty.code,List.length_cons]; simp only [tms,Kp1,List.length_cons,List.length_nil]; omega
theorem Ks6 (T:Ty):T.ok→T.code.length ≤ 1048576→Kem T.code=some (dfl T):=by
 induction T with
 | num=>intro _ _; rw [Kem.eq_def,Ty.code,Ks4]; rfl
 | bin c a b iha ihb =>
  intro h hl
  have P:=Ks3 h hl
  have la:=P.la
  have ha:=iha P.ok.1 (by omega)
  have hb:=ihb P.ok.2 (by omega)
  rw [Ty.code,Kem.eq_def,Krk,bs,P.pp,dfl,Kof,bs]
  rcases Ks0 h.1 with ⟨rfl,e⟩ | ⟨rfl,e⟩ | ⟨h0,h1,_,e⟩
  ·rw [e]; simp [bs,Krk,Krl,ha,hb]
  ·rw [e]; simp [bs,Krk,Krl,ha,Kq1 b.code (by omega)]
  ·rw [e]; simp [bs,Krk,Krl,hb,Kq1 a.code (by omega),h0.2.1,h0.2.2]
 | un c a ih =>
  intro h hl
  have P:=unP h hl
  have la:=P.la
  have ha:=ih P.ok (by omega)
  obtain ⟨h0,h1,h2,e⟩:=Ks1 h.1
  rw [Ty.code,Kem.eq_def,Krk,bs,P.pp,dfl,Kof,bs,e]
  simp [bs,Krk,ha]
theorem Ks7 (s:K00) (ty:List Int) (hty:ty.length ≤ 1099511627776):Ke9 (s,ty)=some (Krd s ty):=by
 unfold Ke9 Krd
 simp only
 rw [Kr9 s ty hty,bs,Kqf]
 cases Kr7 s ty <;> cases Kqc s <;> rfl
theorem Ks8 {s:K00} {ty:List Int} (h:Krd s ty=true):∃ T:Ty,T.ok∧ty=T.code∧ty.length ≤ 40:=by
 unfold Krd Kr7 at h
 simp only [Bool.and_eq_true] at h
 exact Kqm h.2.1
def vAt:Ty→Int→K02
 | .num,k=>⟨1,k,[],[]⟩
 | .bin c a b,k=>if c=1 then ⟨4,0,[],[vAt a (wr (Int.tdiv k (Kri b))),vAt b (Int.tmod k (Kri b))]⟩ else if k < (Kri a:Int) then ⟨6,0,b.code,[vAt a k]⟩ else ⟨7,0,a.code,[vAt b (wr (k - (Kri a:Int)))]⟩
 | .un c a,k=>⟨11,Kou c,[],[vAt a k]⟩
theorem Ks9 {p:Prop} [Decidable p] (h:p):chk p=some ():=by unfold chk; rw [if_pos h]
theorem Ksa (x y:Int) (l r:List Int):(x :: l == y :: r)=(x == y && l == r):=rfl
theorem Ksb (a b:List Int) (ha:a.length ≤ 1099511627776) (hab:a.length=b.length):∀ (l r:List Int) (i:Nat),a.drop i=l→b.drop i=r→Kme (a,b,(i:Int))=some (if l == r then .inl () else .inr false):=by
 intro l
 induction l with
 | nil =>
  intro r i h1 h2
  have hi:=Ko6 h1
  rw [Kme.eq_def]
  simp only
  rw [Kn3 hi]
  have:r=[]:=by rw [← h2]; exact List.drop_eq_nil_of_le (by omega)
  subst this; rfl
 | cons x l ih =>
  intro r i h1 h2
  obtain ⟨hi,hx,hd⟩:=Ko5 h1
  cases r with
  | nil=>have:=Ko6 h2; omega
  | cons y r =>
   obtain ⟨_,hy,hd2⟩:=Ko5 h2
   rw [Kme.eq_def]
   simp only
   rw [Kn2 hi,if_pos rfl,hx,hy,bs,bs,Kn1 (by omega),ih r (i + 1) hd hd2,Ksa]
   by_cases e:x=y
   ·subst e; simp
   ·rw [bne_iff_ne.2 e,if_pos rfl,beq_eq_false_iff_ne.2 e]; rfl
theorem Ksc (a b:List Int) (hb:b.length ≤ 1099511627776):Kmf (a,b)=some (a == b):=by
 unfold Kmf
 simp only
 by_cases h:a.length=b.length
 ·rw [h,Kn4,if_neg (by decide)]
  have:=Ksb a b (by omega) h a b 0 rfl rfl
  rw [show ((0:Nat):Int)=0 from rfl] at this
  rw [this]
  cases a == b <;> rfl
 ·rw [bne_iff_ne.2 (by omega),if_pos rfl]
  have:a ≠ b:=fun e=>h (by rw [e])
  rw [beq_eq_false_iff_ne.2 this]
theorem Ksd (a b:List Int) (ha:a.length ≤ 1099511627776) (hab:a.length=b.length):∀ (l r:List Int) (i:Nat),a.drop i=l→b.drop i=r→Kfg (a,b,(i:Int))=some (if l == r then .inl () else .inr false):=by
 intro l
 induction l with
 | nil =>
  intro r i h1 h2
  have hi:=Ko6 h1
  rw [Kfg.eq_def]
  simp only
  rw [Kn3 hi]
  have:r=[]:=by rw [← h2]; exact List.drop_eq_nil_of_le (by omega)
  subst this; rfl
 | cons x l ih =>
  intro r i h1 h2
  obtain ⟨hi,hx,hd⟩:=Ko5 h1
  cases r with
  | nil=>have:=Ko6 h2; omega
  | cons y r =>
   obtain ⟨_,hy,hd2⟩:=Ko5 h2
   rw [Kfg.eq_def]
   simp only
   rw [Kn2 hi,if_pos rfl,hx,hy,bs,bs,Kn1 (by omega),ih r (i + 1) hd hd2,Ksa]
   by_cases e:x=y
   ·subst e; simp
   ·rw [bne_iff_ne.2 e,if_pos rfl,beq_eq_false_iff_ne.2 e]; rfl
theorem Kse (a b:List Int) (hb:b.length ≤ 1099511627776):Kfj (a,b)=some (a == b):=by
 unfold Kfj
 simp only
 by_cases h:a.length=b.length
 ·rw [h,Kn4,if_neg (by decide)]
  have:=Ksd a b (by omega) h a b 0 rfl rfl
  rw [show ((0:Nat):Int)=0 from rfl] at this
  rw [this]
  cases a == b <;> rfl
 ·rw [bne_iff_ne.2 (by omega),if_pos rfl]
  have:a ≠ b:=fun e=>h (by rw [e])
  rw [beq_eq_false_iff_ne.2 this]
def vB:Ty→K02→Bool
 | .num,⟨op,N,ty,ks⟩=>op == 1 && inB N 0 2 && (ty.length:Int) == 0 && (ks.length:Int) == 0
 | .bin c a b,⟨op,N,ty,ks⟩ =>
  if c=1 then op == 4 && N == 0 && (ty.length:Int) == 0 && (match ks with | [k,m]=>vB a k && vB b m | _=>false)
  else N == 0 && (match ks with | [k]=>if op=6 then ty == b.code && vB a k else if op=7 then ty == a.code && vB b k else false | _=>false)
 | .un c a,⟨op,N,ty,ks⟩=>op == 11 && N == Kou c && (ty.length:Int) == 0 && (match ks with | [k]=>vB a k | _=>false)
theorem Ksf (op N:Int) (ty:List Int) (ks:List K02):vB .num ⟨op,N,ty,ks⟩=(op == 1 && inB N 0 2 && (ty.length:Int) == 0 && (ks.length:Int) == 0):=rfl
theorem Ksg (c:Int) (a b:Ty) (op N:Int) (ty:List Int) (ks:List K02):vB (.bin c a b) ⟨op,N,ty,ks⟩=(if c=1 then op == 4 && N == 0 && (ty.length:Int) == 0 && (match ks with | [k,m]=>vB a k && vB b m | _=>false)
  else N == 0 && (match ks with | [k]=>if op=6 then ty == b.code && vB a k else if op=7 then ty == a.code && vB b k else false | _=>false)):=rfl
theorem Ksh (c:Int) (a:Ty) (op N:Int) (ty:List Int) (ks:List K02):vB (.un c a) ⟨op,N,ty,ks⟩=(op == 11 && N == Kou c && (ty.length:Int) == 0 && (match ks with | [k]=>vB a k | _=>false)):=rfl
theorem d20:((2:Int) == 0)=false:=rfl
theorem d21:((2:Int) == 1)=false:=rfl
theorem d22:((2:Int) == 2)=true:=rfl
theorem Ksi (T:Ty):∀ v:K02,T.ok→T.dat→T.code.length ≤ 1048576→Kfm (T.code,v)=some (vB T v):=by
 induction T with
 | num =>
  intro ⟨op,N,ty,ks⟩ _ _ _
  rw [Kfm.eq_def,Ty.code,Ksf]
  simp only [Krk,bs]
  rw [Kof,Ks4,iIn]
  simp only [bs]
  cases op == 1 <;> cases inB N 0 2 <;> cases (ty.length:Int) == 0 <;> rfl
 | bin c a b iha ihb =>
  intro ⟨op,N,ty,ks⟩ h hd hl
  have P:=Ks3 h hl
  have la:=P.la
  rw [Ty.code,Kfm.eq_def]
  simp only [Krk,bs]
  rw [P.pp,Ksg,Kof]
  simp only [bs]
  rcases Ks0 h.1 with ⟨rfl,e⟩ | ⟨rfl,e⟩ | ⟨h0,h1,_,e⟩
  ·rw [e,if_pos rfl]
   simp only [Krk,Krl,bs]
   match ks with
   | []=>cases op == 4 <;> cases N == 0 <;> cases (ty.length:Int) == 0 <;> rfl
   | [k]=>cases op == 4 <;> cases N == 0 <;> cases (ty.length:Int) == 0 <;> rfl
   | [k,m] =>
    simp only [Krk,Krl,bs,iha k P.ok.1 hd.2.1 (by omega),ihb m P.ok.2 hd.2.2 (by omega)]
    cases op == 4 <;> cases N == 0 <;> cases (ty.length:Int) == 0 <;> cases vB a k <;> cases vB b m <;> rfl
   | k :: m :: o :: ks =>
    have:(((k :: m :: o :: ks).length:Int) == 2)=false:=beq_eq_false_iff_ne.2 (by simp only [List.length_cons]; omega)
    rw [this]
    cases op == 4 <;> cases N == 0 <;> cases (ty.length:Int) == 0 <;> rfl
  ·rw [e,if_neg (by decide)]
   simp only [Krk,Krl,bs,d20,d21,d22,Bool.false_eq_true,if_false,if_true]
   by_cases hN:N=0
   ·subst hN
    match ks with
    | []=>rfl
    | [k] =>
     by_cases h6:op=6
     ·subst h6
      have e1:wr (1 - 0)=1:=by decide
      have e0:wr (6 - 6)=0:=by decide
      refine (Koz (x:=false) rfl).trans ?_
      simp only [Bool.false_eq_true,if_false,e1,e0,Krk,Krl,bs]
      rw [Kse ty b.code (by omega),iha k P.ok.1 hd.2.1 (by omega)]
      cases ty == b.code <;> rfl
     ·by_cases h7:op=7
      ·subst h7
       have e1:wr (1 - 1)=0:=by decide
       have e0:wr (7 - 6)=1:=by decide
       refine (Koz (x:=false) rfl).trans ?_
       simp only [Bool.false_eq_true,if_false,e1,e0,Krk,Krl,bs]
       rw [Kse ty a.code (by omega),ihb k P.ok.2 hd.2.2 (by omega)]
       cases ty == a.code <;> rfl
      ·refine (Koz (x:=true) (by rw [bne_iff_ne.2 h6,bne_iff_ne.2 h7]; rfl)).trans ?_
       show some false=some (if op=6 then ty == b.code && vB a k else if op=7 then ty == a.code && vB b k else false)
       rw [if_neg h6,if_neg h7]
    | k :: m :: ks =>
     have:(((k :: m :: ks).length:Int) != 1)=true:=bne_iff_ne.2 (by simp only [List.length_cons]; omega)
     rw [this]; rfl
   ·rw [bne_iff_ne.2 hN,beq_eq_false_iff_ne.2 hN]; rfl
  ·exact absurd hd.1 (by omega)
 | un c a ih =>
  intro ⟨op,N,ty,ks⟩ h hd hl
  have P:=unP h hl
  have la:=P.la
  obtain ⟨h0,h1,h2,e⟩:=Ks1 h.1
  rw [Ty.code,Kfm.eq_def]
  simp only [Krk,bs]
  rw [P.pp,Ksh,Kof,e]
  simp only [bs]
  match ks with
  | []=>cases op == 11 <;> cases N == Kou c <;> cases (ty.length:Int) == 0 <;> rfl
  | [k] =>
   simp only [Krk,Krl,bs,ih k P.ok hd (by omega)]
   cases op == 11 <;> cases N == Kou c <;> cases (ty.length:Int) == 0 <;> rfl
  | k :: m :: ks =>
   have:(((k :: m :: ks).length:Int) == 1)=false:=beq_eq_false_iff_ne.2 (by simp only [List.length_cons]; omega)
   rw [this]
   cases op == 11 <;> cases N == Kou c <;> cases (ty.length:Int) == 0 <;> rfl
theorem Ksj {α:Type} {l:List α} (h:((l.length:Int) == 0)=true):l=[]:=by
 rw [beq_iff_eq] at h; exact List.length_eq_zero_iff.1 (by omega)
theorem Ksk (g:Int→Bool) (y:List Int→Bool) (n:Nat) (op N:Int) (ty:List Int) (ks:List K02):tOk g y n ⟨op,N,ty,ks⟩=(Kpp g y (n:Int) ⟨op,N,ty,ks⟩ && Kpq g y op n 0 ks):=Kpr ..
theorem Ksl (g:Int→Bool) (y:List Int→Bool) (op:Int) (n i:Nat) (k:K02) (ks:List K02):Kpq g y op n i (k :: ks)=(tOk g y (n + Kpj op i) k && Kpq g y op n (i + 1) ks):=by rw [Kpq]
theorem Ksm (g:Int→Bool) (y:List Int→Bool) (op:Int) (n i:Nat):Kpq g y op n i []=true:=by rw [Kpq]
structure Ksn (g:Int→Bool) (y:List Int→Bool) (T:Ty):Prop where
 un:∀ c a,T=.un c a→g (Kou c)=true
 y:y T.code=true
def Kso (P:Ty→Prop):Ty→Prop
 | .num=>P .num
 | .bin c a b=>P (.bin c a b)∧Kso P a∧Kso P b
 | .un c a=>P (.un c a)∧Kso P a
theorem Ksp {P:Ty→Prop} {T:Ty} (h:Kso P T):P T:=by cases T <;> first | exact h | exact h.1
theorem Ksq (op N:Int) (ty:List Int) (ks:List K02):tsz ⟨op,N,ty,ks⟩=1 + Kp0 ks:=by rw [tsz]
theorem Ksr (g:Int→Bool) (y:List Int→Bool) (T:Ty):∀ (v:K02) (n:Nat),T.dat→Kso (Ksn g y) T→vB T v=true→tOk g y n v=true∧tsz v ≤ T.code.length:=by
 induction T with
 | num =>
  intro ⟨op,N,ty,ks⟩ n _ hT h
  simp only [Ksf,Bool.and_eq_true] at h
  obtain ⟨⟨⟨h1,h2⟩,h3⟩,h4⟩:=h
  have h1:=eq_of_beq h1
  have h3:=Ksj h3
  have h4:=Ksj h4
  subst h1 h3 h4
  rw [Ksk,Ksq]
  refine ⟨?_,by simp [Kp0,Ty.code]⟩
  simp [Kpp,Kpn,Kpo,h2,Ksm,show inB 1 0 12=true from rfl,Kp9,Kpb]
 | bin c a b iha ihb =>
  intro ⟨op,N,ty,ks⟩ n hd hT h
  rw [Ksg] at h
  rw [Ty.code,List.length_cons,List.length_append]
  rcases hd.1 with rfl | rfl
  ·rw [if_pos rfl] at h
   simp only [Bool.and_eq_true] at h
   obtain ⟨⟨⟨h1,h2⟩,h3⟩,h4⟩:=h
   have h1:=eq_of_beq h1
   have h2:=eq_of_beq h2
   have h3:=Ksj h3
   subst h1 h2 h3
   match ks,h4 with
   | [k,m],h4 =>
    simp only [Bool.and_eq_true] at h4
    obtain ⟨p1,q1⟩:=iha k (n + Kpj 4 0) hd.2.1 hT.2.1 h4.1
    obtain ⟨p2,q2⟩:=ihb m (n + Kpj 4 1) hd.2.2 hT.2.2 h4.2
    rw [Ksk,Ksq,Ksl,Ksl,Ksm]
    refine ⟨?_,by simp only [Kp0]; omega⟩
    simp [Kpp,Kpn,Kpo,inB,Kp9,Kpb,Kpa]
    exact ⟨p1,p2⟩
  ·rw [if_neg (by decide)] at h
   simp only [Bool.and_eq_true] at h
   obtain ⟨h2,h4⟩:=h
   have h2:=eq_of_beq h2
   subst h2
   match ks,h4 with
   | [k],h4 =>
    simp only at h4
    by_cases h6:op=6
    ·subst h6
     rw [if_pos rfl,Bool.and_eq_true] at h4
     obtain ⟨p1,q1⟩:=iha k (n + Kpj 6 0) hd.2.1 hT.2.1 h4.2
     have h5:=eq_of_beq h4.1
     subst h5
     rw [Ksk,Ksq,Ksl,Ksm]
     refine ⟨?_,by simp only [Kp0]; omega⟩
     simp [Kpp,Kpn,Kpo,inB,Kp9,Kpb,Kpa,(Ksp hT.2.2).y]
     exact p1
    ·rw [if_neg h6] at h4
     by_cases h7:op=7
     ·subst h7
      rw [if_pos rfl,Bool.and_eq_true] at h4
      obtain ⟨p1,q1⟩:=ihb k (n + Kpj 7 0) hd.2.2 hT.2.2 h4.2
      have h5:=eq_of_beq h4.1
      subst h5
      rw [Ksk,Ksq,Ksl,Ksm]
      refine ⟨?_,by simp only [Kp0]; omega⟩
      simp [Kpp,Kpn,Kpo,inB,Kp9,Kpb,Kpa,(Ksp hT.2.1).y]
      exact p1
     ·rw [if_neg h7] at h4; cases h4
 | un c a ih =>
  intro ⟨op,N,ty,ks⟩ n hd hT h
  simp only [Ksh,Bool.and_eq_true] at h
  obtain ⟨⟨⟨h1,h2⟩,h3⟩,h4⟩:=h
  have h1:=eq_of_beq h1
  have h2:=eq_of_beq h2
  have h3:=Ksj h3
  subst h1 h2 h3
  rw [Ty.code,List.length_cons]
  match ks,h4 with
  | [k],h4 =>
   simp only at h4
   obtain ⟨p1,q1⟩:=ih k (n + Kpj 11 0) hd hT.2 h4
   rw [Ksk,Ksq,Ksl,Ksm]
   refine ⟨?_,by simp only [Kp0]; omega⟩
   simp [Kpp,Kpn,Kpo,inB,Kp9,Kpb,Kpa,hT.1.un c a rfl]
   exact p1
theorem Kss {l:List K02} (h:((l.length:Int) == 1)=true):∃ k,l=[k]:=by
 rw [beq_iff_eq] at h; match l,h with | [k],_=>exact ⟨k,rfl⟩ | [],h=>exact absurd h (by simp) | _ :: _ :: _,h=>exact absurd h (by simp only [List.length_cons]; omega)
theorem Kst {l:List K02} (h:((l.length:Int) == 2)=true):∃ k m,l=[k,m]:=by
 rw [beq_iff_eq] at h; match l,h with | [k,m],_=>exact ⟨k,m,rfl⟩ | [],h=>exact absurd h (by simp) | [_],h=>exact absurd h (by simp) | _ :: _ :: _ :: _,h=>exact absurd h (by simp only [List.length_cons]; omega)
theorem Ksu (g:Int→Bool) (y:List Int→Bool) (T:Ty):∀ (v:K02) (n:Nat),T.ok→T.dat→T.code.length ≤ 1048576→tOk g y n v=true→Kmg (T.code,v)=some (vB T v):=by
 induction T with
 | num =>
  intro ⟨op,N,ty,ks⟩ n _ _ _ hv
  rw [Kmg.eq_def,Ty.code,Ksf]
  simp only [Krk,bs]
  by_cases h1:op=1
  ·subst h1
   rw [Ksk] at hv
   simp [Kpp,Kpn,Kpo,Kp9,Kpb,Kpq,inB] at hv
   simp [hv,inB]
  ·rw [beq_eq_false_iff_ne.2 h1]; rfl
 | bin c a b iha ihb =>
  intro ⟨op,N,ty,ks⟩ n h hd hl hv
  have P:=Ks3 h hl
  have la:=P.la
  rw [Ty.code,Kmg.eq_def]
  simp only [Krk,bs]
  rw [P.p0,P.p1,Ksg]
  simp only [bs]
  rw [Ksk] at hv
  rcases hd.1 with rfl | rfl
  ·rw [if_pos rfl]
   by_cases h1:op=4
   ·subst h1
    simp [Kpp,Kpn,Kpo,Kp9,Kpb,Kpa,inB] at hv
    obtain ⟨k,m,rfl⟩:=Kst (l:=ks) (beq_iff_eq.2 hv.1.1.1)
    rw [Ksl,Ksl,Bool.and_eq_true,Bool.and_eq_true] at hv
    rw [Krk,Krl,bs,bs,iha k _ P.ok.1 hd.2.1 (by omega) hv.2.1,ihb m _ P.ok.2 hd.2.2 (by omega) hv.2.2.1]
    simp [hv.1.1.2,hv.1.2,bs]
    cases vB a k <;> rfl
   ·rw [beq_eq_false_iff_ne.2 h1]; rfl
  ·rw [if_neg (by decide)]
   simp only [d20,d21,d22,Bool.false_eq_true,if_false,if_true,bs]
   by_cases h6:op=6
   ·subst h6
    simp [Kpp,Kpn,Kpo,Kp9,Kpb,Kpa,inB] at hv
    obtain ⟨k,rfl⟩:=Kss (l:=ks) (beq_iff_eq.2 hv.1.1.1)
    rw [Ksl,Bool.and_eq_true] at hv
    simp only [Krk,bs]
    rw [Ksc ty b.code (by omega),iha k _ P.ok.1 hd.2.1 (by omega) hv.2.1,hv.1.1.2]
    cases ty == b.code <;> cases vB a k <;> rfl
   ·by_cases h7:op=7
    ·subst h7
     simp [Kpp,Kpn,Kpo,Kp9,Kpb,Kpa,inB] at hv
     obtain ⟨k,rfl⟩:=Kss (l:=ks) (beq_iff_eq.2 hv.1.1.1)
     rw [Ksl,Bool.and_eq_true] at hv
     simp only [Krk,bs]
     rw [Ksc ty a.code (by omega),ihb k _ P.ok.2 hd.2.2 (by omega) hv.2.1,hv.1.1.2]
     cases ty == a.code <;> cases vB b k <;> rfl
    ·rw [beq_eq_false_iff_ne.2 h6,beq_eq_false_iff_ne.2 h7]
     match ks with
     | []=>cases N == 0 <;> rfl
     | [k] =>
      show _=some (N == 0 && (if op=6 then ty == b.code && vB a k else if op=7 then ty == a.code && vB b k else false))
      rw [if_neg h6,if_neg h7]
      cases N == 0 <;> rfl
     | k :: m :: ks=>cases N == 0 <;> rfl
 | un c a ih =>
  intro ⟨op,N,ty,ks⟩ n h hd hl hv
  have P:=unP h hl
  have la:=P.la
  obtain ⟨h0,h1,h2,e⟩:=Ks1 h.1
  rw [Ty.code,Kmg.eq_def]
  simp only [Krk,bs]
  rw [beq_eq_false_iff_ne.2 h0.1,beq_eq_false_iff_ne.2 h0.2.1,beq_eq_false_iff_ne.2 h0.2.2,P.p0,Ksh,Kow (by rw [h.1]; decide)]
  simp only [bs]
  rw [Ksk] at hv
  by_cases q:op=11
  ·subst q
   simp [Kpp,Kpn,Kpo,Kp9,Kpb,Kpa,inB] at hv
   obtain ⟨k,rfl⟩:=Kss (l:=ks) (beq_iff_eq.2 hv.1.1.1)
   rw [Ksl,Bool.and_eq_true] at hv
   simp only [Krk,bs,Bool.false_eq_true,if_false]
   rw [ih k _ P.ok hd (by omega) hv.2.1,hv.1.2]
   cases N == Kou c <;> cases vB a k <;> rfl
  ·rw [beq_eq_false_iff_ne.2 q]; rfl
def Ksv (s:K00) (t:K02) (n:Nat):Bool:=Kqc s && decide (tsz t ≤ 400) && tOk (gN s.fSize true) (yN s.fSize true) n t
theorem Ksw (s:K00) (t:K02) (n:Nat) (hn:n ≤ 8) (ht:tms t ≤ 1099511627776):Kmd (s,t,(n:Int))=some (Ksv s t n):=by
 unfold Kmd Ksv
 simp only
 rw [Kqe,bs]
 cases Kqc s
 ·rfl
 ·rw [if_pos rfl,sIn,bs]
  have:inB (n:Int) 0 8=true:=by unfold inB; rw [decide_eq_true (by omega),decide_eq_true (by omega)]; rfl
  have hl:=Kp7 t 400 ht (by decide)
  rw [show ((400:Nat):Int)=400 from rfl] at hl
  rw [this,if_pos rfl,hl,bs]
  by_cases h:tsz t ≤ 400
  ·rw [Kp4 h,decide_eq_true (by omega),decide_eq_true h,if_pos rfl,Kpt _ _ t n ht (by omega)]
   cases tOk (gN s.fSize true) (yN s.fSize true) n t <;> rfl
  ·rw [Kp5 h,decide_eq_false h]; rfl
theorem Ksx {s:K00} {T:Ty} (h:T.ok) (hl:T.code.length ≤ 40) (hc:T.code.all (Kov s.fSize true)=true):Kso (Ksn (gN s.fSize true) (yN s.fSize true)) T:=by
 have hy:∀ K:Ty,K.ok→K.code.length ≤ 40→K.code.all (Kov s.fSize true)=true→yN s.fSize true K.code=true:=by
  intro K h1 h2 h3
  unfold yN
  rw [Kqn h1 h2,h3]; rfl
 induction T with
 | num=>exact ⟨fun c a e=>(by cases e),hy _ h hl hc⟩
 | bin c a b iha ihb =>
  have hc':=hc
  have hl':=hl
  rw [Ty.code,List.length_cons,List.length_append] at hl'
  rw [Ty.code,List.all_cons,List.all_append,Bool.and_eq_true,Bool.and_eq_true] at hc'
  exact ⟨⟨fun c a e=>(by cases e),hy _ h hl hc⟩,iha h.2.1 (by omega) hc'.2.1,ihb h.2.2 (by omega) hc'.2.2⟩
 | un c a ih =>
  have hc':=hc
  have hl':=hl
  rw [Ty.code,List.length_cons] at hl'
  rw [Ty.code,List.all_cons,Bool.and_eq_true] at hc'
  refine ⟨⟨fun d e q=>?_,hy _ h hl hc⟩,ih h.2 (by omega) hc'.2⟩
  cases q
  have hk:=h.1
  have h1:=hc'.1
  have h3:c > 2:=by rcases Kod c with q | q | q | q <;> omega
  unfold Kov at h1
  rw [hk,decide_eq_true h3] at h1
  unfold gN
  simp only [show decide ((1:Int) > 0)=true from rfl,Bool.true_and,Bool.not_eq_true',Bool.or_eq_false_iff,decide_eq_false_iff_not] at h1 ⊢
  refine ⟨⟨h1.1,by omega⟩,h1.2⟩
theorem Ksy (op N:Int) (ty:List Int) (a:K02):tsz ⟨op,N,ty,[a]⟩=1 + tsz a:=by simp [tsz,Kp0]
theorem Ksz (op N:Int) (ty:List Int) (a b:K02):tsz ⟨op,N,ty,[a,b]⟩=1 + (tsz a + tsz b):=by simp [tsz,Kp0]
theorem Kt0 (op N:Int) (ty:List Int) (a b c:K02):tsz ⟨op,N,ty,[a,b,c]⟩=1 + (tsz a + (tsz b + tsz c)):=by simp [tsz,Kp0]
theorem Kt1 {l:List K02} (h:(l.length:Int)=3):∃ a b c,l=[a,b,c]:=by
 match l,h with | [a,b,c],_=>exact ⟨a,b,c,rfl⟩ | [],h=>exact absurd h (by simp) | [_],h=>exact absurd h (by simp) | [_,_],h=>exact absurd h (by simp) | _ :: _ :: _ :: _ :: _,h=>exact absurd h (by simp only [List.length_cons]; omega)
def lms (l:List (List Int)):Nat:=l.length + lct l
theorem Kt2 {v:K02} (h:vB .num v=true):∃ N,v=⟨1,N,[],[]⟩∧0 ≤ N∧N ≤ 2:=by
 obtain ⟨op,N,ty,ks⟩:=v
 simp only [vB,Bool.and_eq_true] at h
 obtain ⟨⟨⟨h1,h2⟩,h3⟩,h4⟩:=h
 have h1:=eq_of_beq h1
 have h3:=Ksj h3
 have h4:=Ksj h4
 subst h1 h3 h4
 unfold inB at h2
 simp only [Bool.and_eq_true,decide_eq_true_eq] at h2
 exact ⟨N,rfl,h2.1,h2.2⟩
theorem Kt3 {a b:Ty} {v:K02} (h:vB (.bin 1 a b) v=true):∃ k m,v=⟨4,0,[],[k,m]⟩∧vB a k=true∧vB b m=true:=by
 obtain ⟨op,N,ty,ks⟩:=v
 rw [Ksg,if_pos rfl] at h
 simp only [Bool.and_eq_true] at h
 obtain ⟨⟨⟨h1,h2⟩,h3⟩,h4⟩:=h
 have h1:=eq_of_beq h1
 have h2:=eq_of_beq h2
 have h3:=Ksj h3
 subst h1 h2 h3
 match ks,h4 with
 | [k,m],h4 =>
  simp only [Bool.and_eq_true] at h4
  exact ⟨k,m,rfl,h4.1,h4.2⟩
theorem Kt4 {a b:Ty} {v:K02} (h:vB (.bin 2 a b) v=true):(∃ k,v=⟨6,0,b.code,[k]⟩∧vB a k=true)∨(∃ k,v=⟨7,0,a.code,[k]⟩∧vB b k=true):=by
 obtain ⟨op,N,ty,ks⟩:=v
 rw [Ksg,if_neg (by decide)] at h
 simp only [Bool.and_eq_true] at h
 obtain ⟨h2,h4⟩:=h
 have h2:=eq_of_beq h2
 subst h2
 match ks,h4 with
 | [k],h4 =>
  simp only at h4
  by_cases h6:op=6
  ·subst h6
   rw [if_pos rfl,Bool.and_eq_true] at h4
   have h5:=eq_of_beq h4.1
   subst h5
   exact .inl ⟨k,rfl,h4.2⟩
  ·rw [if_neg h6] at h4
   by_cases h7:op=7
   ·subst h7
    rw [if_pos rfl,Bool.and_eq_true] at h4
    have h5:=eq_of_beq h4.1
    subst h5
    exact .inr ⟨k,rfl,h4.2⟩
   ·rw [if_neg h7] at h4; cases h4
theorem Kt5 {c:Int} {a:Ty} {v:K02} (h:vB (.un c a) v=true):∃ k,v=⟨11,Kou c,[],[k]⟩∧vB a k=true:=by
 obtain ⟨op,N,ty,ks⟩:=v
 simp only [Ksh,Bool.and_eq_true] at h
 obtain ⟨⟨⟨h1,h2⟩,h3⟩,h4⟩:=h
 have h1:=eq_of_beq h1
 have h2:=eq_of_beq h2
 have h3:=Ksj h3
 subst h1 h2 h3
 match ks,h4 with
 | [k],h4=>exact ⟨k,rfl,h4⟩
def Kt6 (v:K02) (i:Nat):K02:=v.fKids.getD i noT
def plV:Ty→K02→Nat
 | .num,v=>v.fN.toNat
 | .bin c a b,v=>if c=1 then plV a (Kt6 v 0) * Kri b + plV b (Kt6 v 1) else if v.fOp=6 then plV a (Kt6 v 0) else Kri a + plV b (Kt6 v 0)
 | .un _ a,v=>plV a (Kt6 v 0)
theorem Kt7 {a b:Ty} (h:Kri (.bin 1 a b) ≤ 300):Kri (.bin 1 a b)=Kri a * Kri b∧Kri a ≤ 300∧Kri b ≤ 300:=by
 rw [Kri,if_pos rfl] at h ⊢
 have h1:=(Krj a).1
 have h2:=(Krj b).1
 have h3:Kri a ≤ Kri a * Kri b:=Nat.le_mul_of_pos_right _ h2
 have h4:Kri b ≤ Kri a * Kri b:=Nat.le_mul_of_pos_left _ h1
 omega
theorem Kt8 {c:Int} {a b:Ty} (hc:c ≠ 1) (h:Kri (.bin c a b) ≤ 300):Kri (.bin c a b)=Kri a + Kri b∧Kri a ≤ 300∧Kri b ≤ 300:=by
 rw [Kri,if_neg hc] at h ⊢
 omega
theorem Kt9 (T:Ty):∀ v,T.dat→Kri T ≤ 300→vB T v=true→plV T v < Kri T∧vAt T (plV T v)=v:=by
 induction T with
 | num =>
  intro v _ _ h
  obtain ⟨N,rfl,h1,h2⟩:=Kt2 h
  rw [plV,Kri,vAt]
  simp only
  refine ⟨by omega,?_⟩
  rw [Int.toNat_of_nonneg h1]
 | bin c a b iha ihb =>
  intro v hd hc h
  rcases hd.1 with rfl | rfl
  ·obtain ⟨k,m,rfl,h1,h2⟩:=Kt3 h
   obtain ⟨e,c1,c2⟩:=Kt7 hc
   obtain ⟨p1,q1⟩:=iha k hd.2.1 c1 h1
   obtain ⟨p2,q2⟩:=ihb m hd.2.2 c2 h2
   rw [plV,if_pos rfl,vAt,if_pos rfl,e]
   rw [e] at hc
   simp only [Kt6,List.getD_cons_zero,List.getD_cons_succ]
   have hle:plV a k * Kri b + plV b m < Kri a * Kri b:=by
    have:(plV a k + 1) * Kri b ≤ Kri a * Kri b:=Nat.mul_le_mul_right _ p1
    rw [Nat.add_mul] at this; omega
   refine ⟨hle,?_⟩
   have hpos:=(Krj b).1
   have e1:Int.tdiv ((plV a k * Kri b + plV b m:Nat):Int) (Kri b:Int)=(plV a k:Int):=by
    rw [← Int.ofNat_tdiv]
    congr 1
    rw [Nat.add_comm,Nat.add_mul_div_right _ _ hpos,Nat.div_eq_of_lt p2]; omega
   have e2:Int.tmod ((plV a k * Kri b + plV b m:Nat):Int) (Kri b:Int)=(plV b m:Int):=by
    rw [← Int.ofNat_tmod]
    congr 1
    rw [Nat.add_comm,Nat.add_mul_mod_self_right,Nat.mod_eq_of_lt p2]
   rw [e1,e2,Kmz (by omega) (by omega),q1,q2]
  ·obtain ⟨e,c1,c2⟩:=Kt8 (by decide) hc
   rw [plV,if_neg (by decide:¬ (2:Int)=1),vAt,if_neg (by decide:¬ (2:Int)=1),e]
   rcases Kt4 h with ⟨k,rfl,h1⟩ | ⟨k,rfl,h1⟩
   ·obtain ⟨p1,q1⟩:=iha k hd.2.1 c1 h1
    simp only [Kt6,List.getD_cons_zero,if_true]
    rw [if_pos (by omega),q1]
    exact ⟨by omega,rfl⟩
   ·obtain ⟨p1,q1⟩:=ihb k hd.2.2 c2 h1
    simp only [Kt6,List.getD_cons_zero]
    rw [if_neg (by decide:¬ (7:Int)=6),if_neg (by omega),Kmz (by omega) (by omega),show ((Kri a + plV b k:Nat):Int) - (Kri a:Int)=(plV b k:Int) by omega,q1]
    exact ⟨by omega,rfl⟩
 | un c a ih =>
  intro v hd hc h
  obtain ⟨k,rfl,h1⟩:=Kt5 h
  obtain ⟨p,q⟩:=ih k hd hc h1
  rw [plV,vAt,Kri]
  simp only [Kt6,List.getD_cons_zero]
  rw [q]
  exact ⟨p,rfl⟩
theorem Kta (T:Ty):∀ k:Nat,T.dat→Kri T ≤ 300→k < Kri T→plV T (vAt T k)=k:=by
 induction T with
 | num=>intro k _ _ _; rw [vAt,plV]; exact Int.toNat_natCast k
 | bin c a b iha ihb =>
  intro k hd hc hk
  rcases hd.1 with rfl | rfl
  ·obtain ⟨e,c1,c2⟩:=Kt7 hc
   have hpos:=(Krj b).1
   rw [e] at hk
   have d1:k / Kri b < Kri a:=(Nat.div_lt_iff_lt_mul hpos).2 hk
   have d2:k % Kri b < Kri b:=Nat.mod_lt _ hpos
   have d3:=Nat.div_add_mod k (Kri b)
   rw [vAt,if_pos rfl,plV,if_pos rfl,← Int.ofNat_tdiv,← Int.ofNat_tmod]
   generalize k / Kri b=q at d1 d3 ⊢
   generalize k % Kri b=r at d2 d3 ⊢
   rw [Kmz (by omega) (by omega)]
   simp only [Kt6,List.getD_cons_zero,List.getD_cons_succ]
   rw [iha _ hd.2.1 c1 d1,ihb _ hd.2.2 c2 d2,Nat.mul_comm]
   exact d3
  ·obtain ⟨e,c1,c2⟩:=Kt8 (by decide) hc
   rw [e] at hk
   rw [vAt,if_neg (by decide:¬ (2:Int)=1)]
   by_cases h:(k:Int) < (Kri a:Int)
   ·rw [if_pos h,plV,if_neg (by decide:¬ (2:Int)=1)]
    simp only [Kt6,List.getD_cons_zero,if_true]
    exact iha k hd.2.1 c1 (by omega)
   ·rw [if_neg h,plV,if_neg (by decide:¬ (2:Int)=1),Kmz (by omega) (by omega),show (k:Int) - (Kri a:Int)=((k - Kri a:Nat):Int) by omega]
    simp only [Kt6,List.getD_cons_zero]
    rw [if_neg (by decide:¬ (7:Int)=6),ihb _ hd.2.2 c2 (by omega)]; omega
 | un c a ih =>
  intro k hd hc hk
  rw [vAt,plV]
  simp only [Kt6,List.getD_cons_zero]
  exact ih k hd hc hk
theorem Ktb {s:K00} {T:Ty} (v:K02) (h:(Krd s T.code && Kqx T.code)=true) (h1:T.ok) (h2:T.dat) (h4:T.code.length ≤ 40) (hv:tms v ≤ 1048576):Kmh (s,T.code,v)=some (vB T v):=by
 unfold Kmh
 simp only
 rw [Krf s T.code (by omega),h]
 rw [bs,if_pos rfl]
 have e:=Ksw s v 0 (by decide) (by omega)
 rw [show ((0:Nat):Int)=0 from rfl] at e
 rw [e,bs]
 cases ht:Ksv s v 0
 ·have:vB T v=false:=by
   rw [Bool.eq_false_iff]
   intro hb
   unfold Krd Kr7 at h
   simp only [Bool.and_eq_true] at h
   have T':=Kqd h.1.1
   have hc:=h.1.2.2
   rw [show Kr6 s=Kov s.fSize true from funext fun c=>Krb T'] at hc
   obtain ⟨p,q⟩:=Ksr _ _ T v 0 h2 (Ksx h1 h4 hc) hb
   unfold Ksv at ht
   rw [h.1.1,decide_eq_true (by omega),p] at ht
   cases ht
  rw [this]; rfl
 ·rw [if_pos rfl]
  unfold Ksv at ht
  rw [Bool.and_eq_true] at ht
  rw [Ksu _ _ T v 0 h1 h2 (by omega) ht.2]; rfl
theorem Ktc {s:K00} {T:Ty} (v:K02) (h:(Krd s T.code && Kqx T.code)=true) (h1:T.ok) (h2:T.dat) (h4:T.code.length ≤ 40) (hv:tms v ≤ 1048576):Kmh (s,T.code,v)=some (vB T v)∧Kfp (s,T.code,v)=some (vB T v):=by
 refine ⟨Ktb v h h1 h2 h4 hv,?_⟩
 unfold Kfp
 simp only
 rw [Krh s T.code (by omega),h]
 rw [bs,if_pos rfl,Ksi T v h1 h2 (by omega)]
 rfl
theorem Ktd (T:Ty):∀ v:K02,T.ok→T.dat→T.code.length ≤ 1048576→Kri T ≤ 300→vB T v=true→Kfy (T.code,v)=some ((plV T v:Nat):Int):=by
 induction T with
 | num =>
  intro v _ _ _ _ hv
  obtain ⟨N,rfl,h1,h2⟩:=Kt2 hv
  rw [Kfy.eq_def,Ty.code]
  simp only
  rw [Ks4,plV]
  simp only [bs]
  rw [Int.toNat_of_nonneg h1]; rfl
 | bin c a b iha ihb =>
  intro v h hd hl hc hv
  have P:=Ks3 h hl
  have la:=P.la
  rw [Ty.code,Kfy.eq_def]
  simp only
  rw [P.pp]
  rcases hd.1 with rfl | rfl
  ·obtain ⟨k,m,rfl,h1,h2⟩:=Kt3 hv
   obtain ⟨e,c1,c2⟩:=Kt7 hc
   have p1:=(Kt9 a k hd.2.1 c1 h1).1
   have p2:=(Kt9 b m hd.2.2 c2 h2).1
   have hle:plV a k * Kri b ≤ 90000:=Nat.le_trans (Nat.mul_le_mul (by omega:plV a k ≤ 300) c2) (by decide)
   simp only [Krk,Krl,bs]
   rw [iha k P.ok.1 hd.2.1 (by omega) c1 h1,ihb m P.ok.2 hd.2.2 (by omega) c2 h2,Krr b P.ok.2 hd.2.2 (by omega)]
   simp only [bs]
   rw [plV,if_pos rfl]
   simp only [Kt6,List.getD_cons_zero,List.getD_cons_succ]
   rw [Krm (by omega) (by omega),Krn (by omega) (by omega)]; rfl
  ·obtain ⟨e,c1,c2⟩:=Kt8 (by decide) hc
   rw [plV,if_neg (by decide:¬ (2:Int)=1)]
   rcases Kt4 hv with ⟨k,rfl,h1⟩ | ⟨k,rfl,h1⟩
   ·simp only [Krk,Krl,bs]
    rw [iha k P.ok.1 hd.2.1 (by omega) c1 h1]
    rfl
   ·have p1:=(Kt9 b k hd.2.2 c2 h1).1
    simp only [Krk,Krl,bs]
    rw [ihb k P.ok.2 hd.2.2 (by omega) c2 h1,Krr a P.ok.1 hd.2.1 (by omega)]
    simp only [bs,Kt6,List.getD_cons_zero]
    rw [if_neg (by decide:¬ (7:Int)=6),Krn (by omega) (by omega)]
    rfl
 | un c a ih =>
  intro v h hd hl hc hv
  have P:=unP h hl
  have la:=P.la
  obtain ⟨k,rfl,q⟩:=Kt5 hv
  rw [Ty.code,Kfy.eq_def]
  simp only
  rw [P.pp]
  simp only [Krk,Krl,bs]
  rw [ih k P.ok hd (by omega) hc q]
  rfl
end Go.Am
