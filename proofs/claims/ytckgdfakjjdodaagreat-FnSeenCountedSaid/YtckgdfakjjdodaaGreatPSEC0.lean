/- Plain laws of the printed functions. -/
import Derived.Test.YtckgdfakjjdodaaGreatPSECx
set_option linter.unusedSimpArgs false
set_option linter.unusedVariables false
namespace Go.Am
theorem Kmm {x:Int} (h1:-9223372036854775808 ≤ x) (h2:x ≤ 9223372036854775807):wr x=x:=by
 unfold wr IntKind.wrap
 simp [IntKind.bits,IntKind.signed]
 omega
theorem Kmn {α:Type} {l:List α} {n:Nat} (h:n < l.length):idx l (n:Int)=some l[n]:=by
 unfold idx
 rw [if_pos (by omega)]
 simp [h]
theorem bs {α β:Type} (a:α) (f:α→Option β):(some a >>= f)=f a:=rfl
theorem Kmo {n:Nat} (h:n < 9223372036854775807):wr ((n:Int) + 1)=((n + 1:Nat):Int):=by
 rw [Kmm (by omega) (by omega)]; omega
theorem Kmp {n m:Nat} (h:n < m):decide ((n:Int) < (m:Int))=true:=decide_eq_true (by omega)
theorem Kmq {n m:Nat} (h:m ≤ n):decide ((n:Int) < (m:Int))=false:=decide_eq_false (by omega)
theorem Kmr {a:Int}:(a != a)=false:=by simp
structure Tab (s:K00) (n:Nat):Prop where
 size:s.fSize=(n:Int)
 lo:2 ≤ n
 hi:n ≤ 16
 lp:s.fPlus.length=n * n
 lt:s.fTimes.length=n * n
 lb:s.fBelow.length=n * n
 rp:∀ i (h:i < s.fPlus.length),0 ≤ s.fPlus[i]∧s.fPlus[i] < (n:Int)
 rt:∀ i (h:i < s.fTimes.length),0 ≤ s.fTimes[i]∧s.fTimes[i] < (n:Int)
def pl (s:K00) (n a b:Nat):Nat:=(s.fPlus.getD (a * n + b) 0).toNat
def ti (s:K00) (n a b:Nat):Nat:=(s.fTimes.getD (a * n + b) 0).toNat
def le (s:K00) (n a b:Nat):Bool:=s.fBelow.getD (a * n + b) false
theorem Kms {n a b:Nat} (ha:a < n) (hb:b < n):a * n + b < n * n:=by
 have:(a + 1) * n ≤ n * n:=Nat.mul_le_mul_right _ (by omega)
 rw [Nat.add_mul,Nat.one_mul] at this
 omega
theorem Kmt {n a b:Nat} (hn:n ≤ 16) (ha:a < n) (hb:b < n):wr ((wr ((a:Int) * (n:Int))) + (b:Int))=((a * n + b:Nat):Int):=by
 have h1:a * n ≤ 256:=Nat.le_trans (Nat.mul_le_mul (by omega:a ≤ 16) hn) (by decide)
 have e:(a:Int) * (n:Int)=((a * n:Nat):Int):=by simp
 rw [e]
 generalize a * n=m at h1
 rw [Kmm (x:=(m:Int)) (by omega) (by omega),Kmm (by omega) (by omega)]
 omega
section
variable {s:K00} {n:Nat} (h:Tab s n)
include h
theorem Kmu {a b:Nat} (ha:a < n) (hb:b < n):pl s n a b < n:=by
 have hl:a * n + b < s.fPlus.length:=by rw [h.lp]; exact Kms ha hb
 unfold pl
 rw [List.getD_eq_getElem?_getD,List.getElem?_eq_getElem hl]
 have:=h.rp _ hl
 simp only [Option.getD_some]
 omega
theorem Kmv {a b:Nat} (ha:a < n) (hb:b < n):ti s n a b < n:=by
 have hl:a * n + b < s.fTimes.length:=by rw [h.lt]; exact Kms ha hb
 unfold ti
 rw [List.getD_eq_getElem?_getD,List.getElem?_eq_getElem hl]
 have:=h.rt _ hl
 simp only [Option.getD_some]
 omega
theorem Kmw {a b:Nat} (ha:a < n) (hb:b < n):idx s.fPlus ((a * n + b:Nat):Int)=some ((pl s n a b:Nat):Int):=by
 have hl:a * n + b < s.fPlus.length:=by rw [h.lp]; exact Kms ha hb
 rw [Kmn hl]
 unfold pl
 rw [List.getD_eq_getElem?_getD,List.getElem?_eq_getElem hl]
 have:=h.rp _ hl
 simp only [Option.getD_some]
 congr 1
 omega
theorem Kmx {a b:Nat} (ha:a < n) (hb:b < n):idx s.fTimes ((a * n + b:Nat):Int)=some ((ti s n a b:Nat):Int):=by
 have hl:a * n + b < s.fTimes.length:=by rw [h.lt]; exact Kms ha hb
 rw [Kmn hl]
 unfold ti
 rw [List.getD_eq_getElem?_getD,List.getElem?_eq_getElem hl]
 have:=h.rt _ hl
 simp only [Option.getD_some]
 congr 1
 omega
theorem Kmy {a b:Nat} (ha:a < n) (hb:b < n):idx s.fBelow ((a * n + b:Nat):Int)=some (le s n a b):=by
 have hl:a * n + b < s.fBelow.length:=by rw [h.lb]; exact Kms ha hb
 rw [Kmn hl]
 unfold le
 rw [List.getD_eq_getElem?_getD,List.getElem?_eq_getElem hl]
 rfl
theorem Kmz {a b:Nat} (ha:a < n) (hb:b < n):K8d (s,(a:Int),(b:Int))=some ((pl s n a b:Nat):Int):=by
 unfold K8d
 simp only
 rw [h.size,Kmt h.hi ha hb,Kmw h ha hb,bs]
theorem Kn0 {a b:Nat} (ha:a < n) (hb:b < n):K8k (s,(a:Int),(b:Int))=some ((ti s n a b:Nat):Int):=by
 unfold K8k
 simp only
 rw [h.size,Kmt h.hi ha hb,Kmx h ha hb,bs]
theorem sLe {a b:Nat} (ha:a < n) (hb:b < n):K8n (s,(a:Int),(b:Int))=some (le s n a b):=by
 unfold K8n
 simp only
 rw [h.size,Kmt h.hi ha hb,Kmy h ha hb,bs]
theorem Kn1 {a b:Nat} (ha:a < n) (hb:b < n):Kcw (s,(a:Int),(b:Int))=some ((pl s n a b:Nat):Int):=by
 unfold Kcw
 simp only
 rw [h.size,Kmt h.hi ha hb,Kmw h ha hb,bs]
theorem Kn2 {a b:Nat} (ha:a < n) (hb:b < n):Kcz (s,(a:Int),(b:Int))=some ((ti s n a b:Nat):Int):=by
 unfold Kcz
 simp only
 rw [h.size,Kmt h.hi ha hb,Kmx h ha hb,bs]
theorem iLe {a b:Nat} (ha:a < n) (hb:b < n):Kd2 (s,(a:Int),(b:Int))=some (le s n a b):=by
 unfold Kd2
 simp only
 rw [h.size,Kmt h.hi ha hb,Kmy h ha hb,bs]
end
theorem Kn3 (x y:Nat):(((x:Nat):Int) == ((y:Nat):Int))=(x == y):=by
 cases hb:(x == y) with
 | true=>have:=eq_of_beq hb; subst this; simp
 | false=>simp at hb ⊢; omega
theorem Kn4 (x y:Nat):(((x:Nat):Int) != ((y:Nat):Int))=(x != y):=by
 simp only [bne,Kn3]
def Kn5 (s:K00) (n a:Nat):Bool:=(pl s n 0 a == a) && (ti s n 1 a == a) && (ti s n a 1 == a) && (ti s n 0 a == 0) && (ti s n a 0 == 0) && le s n a a
def Kn6 (s:K00) (n a b c:Nat):Bool :=
 (pl s n (pl s n a b) c == pl s n a (pl s n b c)) && (ti s n (ti s n a b) c == ti s n a (ti s n b c)) &&
 (ti s n a (pl s n b c) == pl s n (ti s n a b) (ti s n a c)) && (ti s n (pl s n a b) c == pl s n (ti s n a c) (ti s n b c)) &&
 (!(le s n a b) || ((!(le s n b c) || le s n a c) && le s n (pl s n a c) (pl s n b c) && le s n (ti s n a c) (ti s n b c) && le s n (ti s n c a) (ti s n c b)))
section
variable {s:K00} {n:Nat} (h:Tab s n)
include h
theorem Kn7 {a:Nat} (ha:a < n):K8q (s,(a:Int))=some (Kn5 s n a):=by
 have l0:(0:Nat) < n:=by have:=h.lo; omega
 have l1:(1:Nat) < n:=by have:=h.lo; omega
 have e0:(0:Int)=((0:Nat):Int):=rfl
 have e1:(1:Int)=((1:Nat):Int):=rfl
 unfold K8q Kn5
 simp only
 rw [e0,e1]
 simp only [Kmz h l0 ha,Kn0 h l1 ha,Kn0 h ha l1,Kn0 h l0 ha,Kn0 h ha l0,sLe h ha ha,bs,Kn3]
 generalize (pl s n 0 a == a)=b1
 generalize (ti s n 1 a == a)=b2
 generalize (ti s n a 1 == a)=b3
 generalize (ti s n 0 a == 0)=b4
 generalize (ti s n a 0 == 0)=b5
 generalize le s n a a=b6
 cases b1 <;> cases b2 <;> cases b3 <;> cases b4 <;> cases b5 <;> cases b6 <;> rfl
theorem Kn8 {a b c:Nat} (ha:a < n) (hb:b < n) (hc:c < n):K97 (s,(a:Int),(b:Int),(c:Int))=some (Kn6 s n a b c):=by
 unfold K97 Kn6
 simp only
 simp only [Kmz h,Kn0 h,sLe h,Kmu h,Kmv h,ha,hb,hc,bs,Kn4]
 generalize e1:pl s n (pl s n a b) c=x1
 generalize e2:pl s n a (pl s n b c)=x2
 generalize e3:ti s n (ti s n a b) c=x3
 generalize e4:ti s n a (ti s n b c)=x4
 generalize ti s n a (pl s n b c)=x5
 generalize pl s n (ti s n a b) (ti s n a c)=x6
 generalize ti s n (pl s n a b) c=x7
 generalize pl s n (ti s n a c) (ti s n b c)=x8
 generalize le s n (pl s n a c) (pl s n b c)=y1
 generalize le s n (ti s n a c) (ti s n b c)=y2
 generalize le s n (ti s n c a) (ti s n c b)=y3
 generalize le s n a b=y4
 generalize le s n b c=y5
 generalize le s n a c=y6
 simp only [bne]
 generalize (x1 == x2)=b1
 generalize (x3 == x4)=b2
 generalize (x5 == x6)=b3
 generalize (x7 == x8)=b4
 cases b1 <;> cases b2 <;> cases b3 <;> cases b4 <;> first | rfl | (cases y4 <;> cases y5 <;> cases y6 <;> cases y1 <;> cases y2 <;> cases y3 <;> rfl)
theorem Kn9 {a b c:Nat} (ha:a < n) (hb:b < n) (hc:c < n):Kdl (s,(a:Int),(b:Int),(c:Int))=some (Kn6 s n a b c):=by
 unfold Kdl Kn6
 simp only
 simp only [Kn1 h,Kn2 h,iLe h,Kmu h,Kmv h,ha,hb,hc,bs,Kn4]
 generalize e1:pl s n (pl s n a b) c=x1
 generalize e2:pl s n a (pl s n b c)=x2
 generalize e3:ti s n (ti s n a b) c=x3
 generalize e4:ti s n a (ti s n b c)=x4
 generalize ti s n a (pl s n b c)=x5
 generalize pl s n (ti s n a b) (ti s n a c)=x6
 generalize ti s n (pl s n a b) c=x7
 generalize pl s n (ti s n a c) (ti s n b c)=x8
 generalize le s n (pl s n a c) (pl s n b c)=y1
 generalize le s n (ti s n a c) (ti s n b c)=y2
 generalize le s n (ti s n c a) (ti s n c b)=y3
 generalize le s n a b=y4
 generalize le s n b c=y5
 generalize le s n a c=y6
 simp only [bne]
 generalize (x1 == x2)=b1
 generalize (x3 == x4)=b2
 generalize (x5 == x6)=b3
 generalize (x7 == x8)=b4
 cases b1 <;> cases b2 <;> cases b3 <;> cases b4 <;> first | rfl | (cases y4 <;> cases y5 <;> cases y6 <;> cases y1 <;> cases y2 <;> cases y3 <;> rfl)
end
def Kna (s:K00) (n a b g h:Nat):Bool:=!le s n a h || !le s n b h || le s n g h
def jok (s:K00) (n a b g:Nat):Bool:=le s n a g && le s n b g && (List.range' 0 n).all (Kna s n a b g)
def Knb (s:K00) (n a b:Nat):Int:=match (List.range' 0 n).find? (jok s n a b) with | some g=>(g:Int) | none=>-1
section
variable {s:K00} {n:Nat} (h:Tab s n)
include h
theorem Knc {a b g:Nat} (ha:a < n) (hb:b < n) (hg:g < n):∀ (k m:Nat) (ok:Bool),m + k=n→K8u (s,(a:Int),(b:Int),(g:Int),ok,(m:Int))=some (ok && (List.range' m k).all (Kna s n a b g)):=by
 have hhi:=h.hi
 intro k
 induction k with
 | zero =>
  intro m ok hm
  rw [K8u.eq_def]
  simp only
  rw [h.size,Kmq (by omega)]
  simp [bs]
 | succ k ih =>
  intro m ok hm
  rw [K8u.eq_def]
  simp only
  rw [h.size,Kmp (by omega),if_pos rfl,bs,sLe h ha (by omega),sLe h hb (by omega),sLe h hg (by omega)]
  cases ok with
  | false=>rfl
  | true =>
   rw [if_pos rfl]
   rw [List.range'_succ,List.all_cons]
   have ih:∀ ok,_:=fun ok=>ih (m + 1) ok (by omega)
   rw [Kmo (by omega)]
   generalize ((m + 1:Nat):Int)=M at ih ⊢
   simp only [bs,Kna]
   cases le s n a m <;> cases le s n b m <;> cases le s n g m <;> simp [bs,ih,Kna]
theorem Knd {a b g:Nat} (ha:a < n) (hb:b < n) (hg:g < n):∀ (k m:Nat) (ok:Bool),m + k=n→Kda (s,(a:Int),(b:Int),(g:Int),ok,(m:Int))=some (ok && (List.range' m k).all (Kna s n a b g)):=by
 have hhi:=h.hi
 intro k
 induction k with
 | zero =>
  intro m ok hm
  rw [Kda.eq_def]
  simp only
  rw [h.size,Kmq (by omega)]
  simp [bs]
 | succ k ih =>
  intro m ok hm
  rw [Kda.eq_def]
  simp only
  rw [h.size,Kmp (by omega),if_pos rfl,iLe h ha (by omega),iLe h hb (by omega),iLe h hg (by omega)]
  rw [List.range'_succ,List.all_cons]
  have ih:∀ ok,_:=fun ok=>ih (m + 1) ok (by omega)
  rw [Kmo (by omega)]
  generalize ((m + 1:Nat):Int)=M at ih ⊢
  simp only [bs,Kna]
  cases ok <;> cases le s n a m <;> cases le s n b m <;> cases le s n g m <;> simp [bs,ih,Kna]
theorem Kne {a b:Nat} (ha:a < n) (hb:b < n):∀ (k g:Nat),g + k=n→K8y (s,(a:Int),(b:Int),(g:Int))=some (match (List.range' g k).find? (jok s n a b) with | some g=>.inr (g:Int) | none=>.inl ()):=by
 have hhi:=h.hi
 intro k
 induction k with
 | zero =>
  intro g hm
  rw [K8y.eq_def]
  simp only
  rw [h.size,Kmq (by omega)]
  rfl
 | succ k ih =>
  intro g hm
  rw [K8y.eq_def]
  simp only
  rw [h.size,Kmp (by omega),if_pos rfl,sLe h ha (by omega),sLe h hb (by omega)]
  have ih:=ih (g + 1) (by omega)
  rw [Kmo (by omega),List.range'_succ,List.find?_cons]
  have hl:=fun ok=>Knc h ha hb (g:=g) (by omega) n 0 ok (by omega)
  rw [show ((0:Nat):Int)=0 from rfl] at hl
  generalize ((g + 1:Nat):Int)=M at ih ⊢
  have hj:jok s n a b g=(le s n a g && le s n b g && (List.range' 0 n).all (Kna s n a b g)):=rfl
  rw [hj]
  cases le s n a g <;> cases le s n b g <;> cases hq:(List.range' 0 n).all (Kna s n a b g) <;> simp [bs,hl,hq,ih]
theorem Knf {a b:Nat} (ha:a < n) (hb:b < n):∀ (k g:Nat),g + k=n→Kdf (s,(a:Int),(b:Int),(g:Int))=some (match (List.range' g k).find? (jok s n a b) with | some g=>.inr (g:Int) | none=>.inl ()):=by
 have hhi:=h.hi
 intro k
 induction k with
 | zero =>
  intro g hm
  rw [Kdf.eq_def]
  simp only
  rw [h.size,Kmq (by omega)]
  rfl
 | succ k ih =>
  intro g hm
  rw [Kdf.eq_def]
  simp only
  rw [h.size,Kmp (by omega),if_pos rfl,iLe h ha (by omega),iLe h hb (by omega)]
  have ih:=ih (g + 1) (by omega)
  rw [Kmo (by omega),List.range'_succ,List.find?_cons]
  have hl:=fun ok=>Knd h ha hb (g:=g) (by omega) n 0 ok (by omega)
  rw [show ((0:Nat):Int)=0 from rfl] at hl
  generalize ((g + 1:Nat):Int)=M at ih ⊢
  have hj:jok s n a b g=(le s n a g && le s n b g && (List.range' 0 n).all (Kna s n a b g)):=rfl
  rw [hj]
  cases le s n a g <;> cases le s n b g <;> cases hq:(List.range' 0 n).all (Kna s n a b g) <;> simp [bs,hl,hq,ih]
theorem Kng {a b:Nat} (ha:a < n) (hb:b < n):K91 (s,(a:Int),(b:Int))=some (Knb s n a b):=by
 unfold K91 Knb
 simp only
 have:=Kne h ha hb n 0 (by omega)
 rw [show ((0:Nat):Int)=0 from rfl] at this
 rw [this,bs]
 cases (List.range' 0 n).find? (jok s n a b) <;> rfl
theorem Knh {a b:Nat} (ha:a < n) (hb:b < n):Kdi (s,(a:Int),(b:Int))=some (Knb s n a b):=by
 unfold Kdi Knb
 simp only
 have:=Knf h ha hb n 0 (by omega)
 rw [show ((0:Nat):Int)=0 from rfl] at this
 rw [this,bs]
 cases (List.range' 0 n).find? (jok s n a b) <;> rfl
def Kni (s:K00) (n a b:Nat):Bool:=(pl s n a b == pl s n b a) && ((a == b) || !le s n a b || !le s n b a) && decide (Knb s n a b ≥ 0)
omit h in
theorem Knj (x:Int):decide (x < 0)=!decide (x ≥ 0):=by
 by_cases h:x < 0
 ·rw [decide_eq_true h,decide_eq_false (by omega)]; rfl
 ·rw [decide_eq_false h,decide_eq_true (by omega)]; rfl
theorem Knk {a b:Nat} (ha:a < n) (hb:b < n):K94 (s,(a:Int),(b:Int))=some (Kni s n a b):=by
 unfold K94 Kni
 simp only
 rw [Kmz h ha hb,Kmz h hb ha,sLe h ha hb,sLe h hb ha,Kng h ha hb]
 simp only [bs,Kn3]
 generalize (pl s n a b == pl s n b a)=b1
 generalize (a == b)=b2
 cases b1 <;> cases b2 <;> cases le s n a b <;> cases le s n b a <;> simp [bs]
end
def inB (x lo hi:Int):Bool:=decide (x ≥ lo) && decide (x ≤ hi)
theorem sIn (x lo hi:Int):K75 (x,lo,hi)=some (inB x lo hi):=by
 unfold K75 inB
 simp only
 cases decide (x ≥ lo) <;> simp [bs]
theorem iIn (x lo hi:Int):Kcq (x,lo,hi)=some (inB x lo hi):=by
 unfold Kcq inB
 simp only
 cases decide (x ≥ lo) <;> simp [bs]
def Knl (s:K00) (n:Nat):Bool:=(List.range' 0 n).all fun a=>Kn5 s n a && (List.range' 0 n).all fun b=>Kni s n a b && (List.range' 0 n).all fun c=>Kn6 s n a b c
section
variable {s:K00} {n:Nat} (h:Tab s n)
include h
theorem Knm {a b:Nat} (ha:a < n) (hb:b < n):∀ (k c:Nat),c + k=n→K9b (s,(a:Int),(b:Int),(c:Int))=some (if (List.range' c k).all (fun c=>Kn6 s n a b c) then .inl () else .inr false):=by
 have hhi:=h.hi
 intro k
 induction k with
 | zero =>
  intro c hm
  rw [K9b.eq_def]
  simp only
  rw [h.size,Kmq (by omega)]
  rfl
 | succ k ih =>
  intro c hm
  rw [K9b.eq_def]
  simp only
  rw [h.size,Kmp (by omega),if_pos rfl,Kn8 h ha hb (by omega),bs]
  have ih:=ih (c + 1) (by omega)
  rw [Kmo (by omega),List.range'_succ,List.all_cons]
  generalize ((c + 1:Nat):Int)=M at ih ⊢
  generalize (List.range' (c + 1) k).all (fun c=>Kn6 s n a b c)=r at ih ⊢
  cases Kn6 s n a b c <;> cases r <;> simp [ih]
theorem Knn {a b:Nat} (ha:a < n) (hb:b < n):∀ (k c:Nat),c + k=n→Kdt (s,(a:Int),(b:Int),(c:Int))=some (if (List.range' c k).all (fun c=>Kn6 s n a b c) then .inl () else .inr false):=by
 have hhi:=h.hi
 intro k
 induction k with
 | zero =>
  intro c hm
  rw [Kdt.eq_def]
  simp only
  rw [h.size,Kmq (by omega)]
  rfl
 | succ k ih =>
  intro c hm
  rw [Kdt.eq_def]
  simp only
  rw [h.size,Kmp (by omega),if_pos rfl,Kn9 h ha hb (by omega),bs]
  have ih:=ih (c + 1) (by omega)
  rw [Kmo (by omega),List.range'_succ,List.all_cons]
  generalize ((c + 1:Nat):Int)=M at ih ⊢
  generalize (List.range' (c + 1) k).all (fun c=>Kn6 s n a b c)=r at ih ⊢
  cases Kn6 s n a b c <;> cases r <;> simp [ih]
theorem Kno {a:Nat} (ha:a < n):∀ (k b:Nat),b + k=n→K9h (s,(a:Int),(b:Int))=some (if (List.range' b k).all (fun b=>Kni s n a b && (List.range' 0 n).all fun c=>Kn6 s n a b c) then .inl () else .inr false):=by
 have hhi:=h.hi
 intro k
 induction k with
 | zero =>
  intro c hm
  rw [K9h.eq_def]
  simp only
  rw [h.size,Kmq (by omega)]
  rfl
 | succ k ih =>
  intro b hm
  rw [K9h.eq_def]
  simp only
  have hl:=Knm h ha (b:=b) (by omega) n 0 (by omega)
  rw [show ((0:Nat):Int)=0 from rfl] at hl
  rw [h.size,Kmp (by omega),if_pos rfl,Knk h ha (by omega),bs,hl]
  have ih:=ih (b + 1) (by omega)
  rw [Kmo (by omega),List.range'_succ,List.all_cons]
  generalize ((b + 1:Nat):Int)=M at ih ⊢
  generalize (List.range' (b + 1) k).all (fun b=>Kni s n a b && (List.range' 0 n).all fun c=>Kn6 s n a b c)=r at ih ⊢
  cases Kni s n a b <;> cases (List.range' 0 n).all (fun c=>Kn6 s n a b c) <;> cases r <;> simp [ih,bs]
theorem Knp {a:Nat} (ha:a < n):∀ (k b:Nat),b + k=n→Kdy (s,(a:Int),(b:Int))=some (if (List.range' b k).all (fun b=>Kni s n a b && (List.range' 0 n).all fun c=>Kn6 s n a b c) then .inl () else .inr false):=by
 have hhi:=h.hi
 intro k
 induction k with
 | zero =>
  intro c hm
  rw [Kdy.eq_def]
  simp only
  rw [h.size,Kmq (by omega)]
  rfl
 | succ k ih =>
  intro b hm
  have hb:b < n:=by omega
  rw [Kdy.eq_def]
  simp only
  have hl:=Knn h ha (b:=b) (by omega) n 0 (by omega)
  rw [show ((0:Nat):Int)=0 from rfl] at hl
  rw [h.size,Kmp (by omega),if_pos rfl,Kn1 h ha hb,Kn1 h hb ha,iLe h ha hb,iLe h hb ha,Knh h ha hb,hl]
  have ih:=ih (b + 1) (by omega)
  rw [Kmo (by omega),List.range'_succ,List.all_cons]
  generalize ((b + 1:Nat):Int)=M at ih ⊢
  generalize (List.range' (b + 1) k).all (fun b=>Kni s n a b && (List.range' 0 n).all fun c=>Kn6 s n a b c)=r at ih ⊢
  simp only [bs,Kn4,Knj]
  cases h1:(pl s n a b == pl s n b a) <;> cases h2:(a == b) <;> cases h3:decide (Knb s n a b ≥ 0) <;> cases h4:le s n a b <;> cases h5:le s n b a <;> cases h6:(List.range' 0 n).all (fun c=>Kn6 s n a b c) <;> cases r <;> simp only [Kni,bne,h1,h2,h3,h4,h5,h6,ih,bs,Bool.not_true,Bool.not_false,Bool.true_and,Bool.false_and,Bool.and_true,Bool.and_false,Bool.true_or,Bool.false_or,Bool.or_true,Bool.or_false,if_true,if_false,Bool.false_eq_true]
theorem Knq:∀ (k a:Nat),a + k=n→K9l (s,(a:Int))=some (if (List.range' a k).all (fun a=>Kn5 s n a && (List.range' 0 n).all fun b=>Kni s n a b && (List.range' 0 n).all fun c=>Kn6 s n a b c) then .inl () else .inr false):=by
 have hhi:=h.hi
 intro k
 induction k with
 | zero =>
  intro c hm
  rw [K9l.eq_def]
  simp only
  rw [h.size,Kmq (by omega)]
  rfl
 | succ k ih =>
  intro a hm
  have ha:a < n:=by omega
  rw [K9l.eq_def]
  simp only
  have hl:=Kno h ha n 0 (by omega)
  rw [show ((0:Nat):Int)=0 from rfl] at hl
  rw [h.size,Kmp (by omega),if_pos rfl,Kn7 h ha,bs,hl]
  have ih:=ih (a + 1) (by omega)
  rw [Kmo (by omega),List.range'_succ,List.all_cons]
  generalize ((a + 1:Nat):Int)=M at ih ⊢
  generalize (List.range' (a + 1) k).all (fun a=>Kn5 s n a && (List.range' 0 n).all fun b=>Kni s n a b && (List.range' 0 n).all fun c=>Kn6 s n a b c)=r at ih ⊢
  cases Kn5 s n a <;> cases (List.range' 0 n).all (fun b=>Kni s n a b && (List.range' 0 n).all fun c=>Kn6 s n a b c) <;> cases r <;> simp [ih,bs]
theorem Knr:∀ (k a:Nat),a + k=n→Ke2 (s,(a:Int))=some (if (List.range' a k).all (fun a=>Kn5 s n a && (List.range' 0 n).all fun b=>Kni s n a b && (List.range' 0 n).all fun c=>Kn6 s n a b c) then .inl () else .inr false):=by
 have hhi:=h.hi
 have l0:(0:Nat) < n:=by have:=h.lo; omega
 have l1:(1:Nat) < n:=by have:=h.lo; omega
 intro k
 induction k with
 | zero =>
  intro c hm
  rw [Ke2.eq_def]
  simp only
  rw [h.size,Kmq (by omega)]
  rfl
 | succ k ih =>
  intro a hm
  have ha:a < n:=by omega
  rw [Ke2.eq_def]
  simp only
  have hl:=Knp h ha n 0 (by omega)
  have q1:Kcw (s,0,(a:Int))=_:=Kn1 h l0 ha
  have q2:Kcz (s,1,(a:Int))=_:=Kn2 h l1 ha
  have q3:Kcz (s,(a:Int),1)=_:=Kn2 h ha l1
  have q4:Kcz (s,0,(a:Int))=_:=Kn2 h l0 ha
  have q5:Kcz (s,(a:Int),0)=_:=Kn2 h ha l0
  have z1:(((ti s n 0 a:Nat):Int) != 0)=(ti s n 0 a != 0):=Kn4 _ 0
  have z2:(((ti s n a 0:Nat):Int) != 0)=(ti s n a 0 != 0):=Kn4 _ 0
  rw [show ((0:Nat):Int)=0 from rfl] at hl
  rw [h.size,Kmp (by omega),if_pos rfl,q1,q2,q3,q4,q5,iLe h ha ha,hl]
  have ih:=ih (a + 1) (by omega)
  rw [Kmo (by omega),List.range'_succ,List.all_cons]
  generalize ((a + 1:Nat):Int)=M at ih ⊢
  generalize (List.range' (a + 1) k).all (fun a=>Kn5 s n a && (List.range' 0 n).all fun b=>Kni s n a b && (List.range' 0 n).all fun c=>Kn6 s n a b c)=r at ih ⊢
  simp only [bs,Kn4,z1,z2]
  cases h1:(pl s n 0 a == a) <;> cases h2:(ti s n 1 a == a) <;> cases h3:(ti s n a 1 == a) <;> cases h4:(ti s n 0 a == 0) <;> cases h5:(ti s n a 0 == 0) <;> cases h6:le s n a a <;> cases h7:(List.range' 0 n).all (fun b=>Kni s n a b && (List.range' 0 n).all fun c=>Kn6 s n a b c) <;> cases r <;> simp only [Kn5,bne,h1,h2,h3,h4,h5,h6,h7,ih,bs,Bool.not_true,Bool.not_false,Bool.true_and,Bool.false_and,Bool.and_true,Bool.and_false,if_true,if_false,Bool.false_eq_true]
end
theorem Kns {α:Type} {l r:List α} {x:α} {i:Nat} (h:l.drop i=x :: r):i < l.length∧idx l (i:Int)=some x∧l.drop (i + 1)=r:=by
 have hi:i < l.length:=by
  rcases Nat.lt_or_ge i l.length with h' | h'
  ·exact h'
  ·rw [List.drop_eq_nil_of_le h'] at h; cases h
 have e:=List.drop_eq_getElem_cons hi
 rw [h] at e
 obtain ⟨e1,e2⟩:=List.cons.inj e
 exact ⟨hi,by rw [Kmn hi,e1],e2.symm⟩
theorem Knt {α:Type} {l:List α} {i:Nat} (h:l.drop i=[]):l.length ≤ i:=by
 rcases Nat.lt_or_ge i l.length with h' | h'
 ·rw [List.drop_eq_getElem_cons h'] at h; cases h
 ·exact h'
def Knu (c:Int):Bool:=inB c 3 18 || c == 35
def Knv (c:Int):Bool:=inB c 19 34 || c == 36
def Knw (c:Int):Int:=if c == 0 then 0 else if c == 1 || c == 2 || Knu c then 2 else if Knv c then 1 else -1
theorem Knx (c:Int):Kgt c=some (Knu c):=by
 unfold Kgt Knu
 simp only [sIn,bs]
 cases inB c 3 18 <;> rfl
theorem Kny (c:Int):Kgw c=some (Knv c):=by
 unfold Kgw Knv
 simp only [sIn,bs]
 cases inB c 19 34 <;> rfl
theorem Knz (c:Int):Kgz c=some (Knw c):=by
 unfold Kgz Knw
 simp only [Knx,Kny,bs]
 cases c == 0 <;> cases c == 1 <;> cases c == 2 <;> cases Knu c <;> cases Knv c <;> rfl
theorem Ko0 (c:Int):(c=0∧Knw c=0)∨((c=1∨c=2∨(3 ≤ c∧c ≤ 18)∨c=35)∧Knw c=2)∨(((19 ≤ c∧c ≤ 34)∨c=36)∧Knw c=1)∨((c < 0∨36 < c)∧Knw c=-1):=by
 unfold Knw Knu Knv inB
 by_cases h0:c=0
 ·left; subst h0; exact ⟨rfl,rfl⟩
 ·right
  have e0:(c == 0)=false:=by simpa using h0
  by_cases h1:c=1∨c=2∨(3 ≤ c∧c ≤ 18)∨c=35
  ·left
   refine ⟨h1,?_⟩
   have:(c == 1 || c == 2 || (decide (c ≥ 3) && decide (c ≤ 18) || c == 35))=true:=by
    simp only [Bool.or_eq_true,Bool.and_eq_true,beq_iff_eq,decide_eq_true_eq]; omega
   rw [e0,this]; rfl
  ·right
   have q:(c == 1 || c == 2 || (decide (c ≥ 3) && decide (c ≤ 18) || c == 35))=false:=by
    rw [Bool.eq_false_iff]; intro h
    simp only [Bool.or_eq_true,Bool.and_eq_true,beq_iff_eq,decide_eq_true_eq] at h; omega
   rw [e0,q]
   by_cases h2:(19 ≤ c∧c ≤ 34)∨c=36
   ·left
    refine ⟨h2,?_⟩
    have:(decide (c ≥ 19) && decide (c ≤ 34) || c == 36)=true:=by
     simp only [Bool.or_eq_true,Bool.and_eq_true,beq_iff_eq,decide_eq_true_eq]; omega
    rw [this]; rfl
   ·right
    refine ⟨by omega,?_⟩
    have:(decide (c ≥ 19) && decide (c ≤ 34) || c == 36)=false:=by
     rw [Bool.eq_false_iff]; intro h
     simp only [Bool.or_eq_true,Bool.and_eq_true,beq_iff_eq,decide_eq_true_eq] at h; omega
    rw [this]; rfl
def Ko1 (c:Int):Int × Int :=
 if inB c 0 2 then (c,-1) else if inB c 3 18 then (3,c - 3) else if inB c 19 34 then (4,c - 19) else if c == 35 then (3,-1) else if c == 36 then (4,-1) else (5,-1)
theorem Ko2 (c:Int):Kes c=some (Ko1 c):=by
 unfold Kes Ko1
 simp only [iIn,bs]
 cases h1:inB c 0 2
 ·cases h2:inB c 3 18
  ·cases h3:inB c 19 34
   ·cases c == 35 <;> cases c == 36 <;> rfl
   ·simp only [inB,Bool.and_eq_true,decide_eq_true_eq] at h3
    simp only [Bool.false_eq_true,if_false,if_true]
    rw [Kmm (by omega) (by omega)]
  ·simp only [inB,Bool.and_eq_true,decide_eq_true_eq] at h2
   simp only [Bool.false_eq_true,if_false,if_true]
   rw [Kmm (by omega) (by omega)]
 ·rfl
theorem Ko3 (c:Int):(c=0∧Ko1 c=(0,-1))∨(c=1∧Ko1 c=(1,-1))∨(c=2∧Ko1 c=(2,-1))∨((3 ≤ c∧c ≤ 18)∧Ko1 c=(3,c - 3))∨(c=35∧Ko1 c=(3,-1)) ∨
  ((19 ≤ c∧c ≤ 34)∧Ko1 c=(4,c - 19))∨(c=36∧Ko1 c=(4,-1))∨((c < 0∨36 < c)∧Ko1 c=(5,-1)):=by
 have inT:∀ lo hi,lo ≤ c→c ≤ hi→inB c lo hi=true:=fun lo hi h1 h2=>by simp only [inB,Bool.and_eq_true,decide_eq_true_eq]; omega
 have inF:∀ lo hi,(c < lo∨hi < c)→inB c lo hi=false:=fun lo hi h=>by rw [Bool.eq_false_iff]; intro h'; simp only [inB,Bool.and_eq_true,decide_eq_true_eq] at h'; omega
 unfold Ko1
 by_cases h0:0 ≤ c∧c ≤ 2
 ·rw [inT 0 2 h0.1 h0.2]
  have:c=0∨c=1∨c=2:=by omega
  rcases this with rfl | rfl | rfl <;> simp
 ·rw [inF 0 2 (by omega)]
  by_cases h1:3 ≤ c∧c ≤ 18
  ·rw [inT 3 18 h1.1 h1.2]
   exact .inr (.inr (.inr (.inl ⟨h1,rfl⟩)))
  ·rw [inF 3 18 (by omega)]
   by_cases h2:19 ≤ c∧c ≤ 34
   ·rw [inT 19 34 h2.1 h2.2]
    exact .inr (.inr (.inr (.inr (.inr (.inl ⟨h2,rfl⟩)))))
   ·rw [inF 19 34 (by omega)]
    by_cases h3:c=35
    ·subst h3; simp
    ·by_cases h4:c=36
     ·subst h4; simp
     ·have e3:(c == 35)=false:=by simpa using h3
      have e4:(c == 36)=false:=by simpa using h4
      rw [e3,e4]
      refine .inr (.inr (.inr (.inr (.inr (.inr (.inr ⟨by omega,rfl⟩))))))
def skip:Nat→List Int→Option (List Int)
 | 0,l=>some l
 | _ + 1,[]=>none
 | m + 1,c :: l=>if Knw c=-1 then none else skip (m + (Knw c).toNat) l
theorem Ko4 (l:List Int):skip 0 l=some l:=by cases l <;> rfl
theorem Ko5 (m:Nat):skip (m + 1) []=none:=rfl
theorem Ko6 (m:Nat) (c:Int) (l:List Int):skip (m + 1) (c :: l)=if Knw c=-1 then none else skip (m + (Knw c).toNat) l:=rfl
theorem Ko7 (l:List Int):∀ (m k:Nat),skip (m + k) l=(skip m l).bind (skip k):=by
 induction l with
 | nil =>
  intro m k
  cases m with
  | zero=>rw [Nat.zero_add,Ko4]; rfl
  | succ m=>rw [show m + 1 + k=(m + k) + 1 by omega,Ko5,Ko5]; rfl
 | cons c l ih =>
  intro m k
  cases m with
  | zero=>rw [Nat.zero_add,Ko4]; rfl
  | succ m =>
   rw [show m + 1 + k=(m + k) + 1 by omega,Ko6,Ko6]
   by_cases h:Knw c=-1
   ·rw [if_pos h,if_pos h]; rfl
   ·rw [if_neg h,if_neg h,← ih]; congr 1; omega
theorem Ko8 (l:List Int):∀ (m:Nat) (r:List Int),skip m l=some r→∃ p,l=p ++ r∧m ≤ p.length:=by
 induction l with
 | nil =>
  intro m r h
  cases m with
  | zero=>rw [Ko4] at h; cases h; exact ⟨[],rfl,Nat.le_refl _⟩
  | succ m=>rw [Ko5] at h; cases h
 | cons c l ih =>
  intro m r h
  cases m with
  | zero=>rw [Ko4] at h; cases h; exact ⟨[],rfl,Nat.le_refl _⟩
  | succ m =>
   rw [Ko6] at h
   by_cases hk:Knw c=-1
   ·rw [if_pos hk] at h; cases h
   ·rw [if_neg hk] at h
    obtain ⟨p,e,hp⟩:=ih _ _ h
    exact ⟨c :: p,by rw [e]; rfl,by simp; omega⟩
def Ko9 (ty:List Int) (m i:Nat):Int:=match skip m (ty.drop i) with | some r=>((ty.length - r.length:Nat):Int) | none=>-1
theorem Koa (ty:List Int) (hty:ty.length ≤ 1099511627776):∀ (l:List Int) (i m:Nat),ty.drop i=l→m ≤ 1099511627776 + 2 * i→∃ x,Kh3 (ty,((m + 1:Nat):Int),(i:Int))=some x∧(match x with | .inl ()=>-1 | .inr r=>r)=Ko9 ty (m + 1) i:=by
 intro l
 induction l with
 | nil =>
  intro i m hl hm
  rw [Kh3.eq_def]
  simp only
  rw [Kmq (Knt hl)]
  exact ⟨.inl (),rfl,by unfold Ko9; rw [hl,Ko5]⟩
 | cons c l ih =>
  intro i m hl hm
  obtain ⟨hi,hx,hd⟩:=Kns hl
  have hi2:(i:Int) < 1099511627776:=by omega
  rw [Kh3.eq_def]
  simp only
  rw [Kmp hi,if_pos rfl,hx,bs,Knz,bs]
  have he:Ko9 ty (m + 1) i=(match (if Knw c=-1 then none else skip (m + (Knw c).toNat) l) with | some r=>((ty.length - r.length:Nat):Int) | none=>-1):=by
   unfold Ko9; rw [hl,Ko6]
  rw [he]
  by_cases hk:Knw c=-1
  ·rw [if_pos hk,hk]
   exact ⟨.inr (-1),rfl,rfl⟩
  ·rw [if_neg hk]
   have hk0:0 ≤ Knw c∧Knw c ≤ 2:=by rcases Ko0 c with h | h | h | h <;> omega
   obtain ⟨k,hkk⟩:∃ k:Nat,Knw c=(k:Int):=⟨(Knw c).toNat,by omega⟩
   rw [decide_eq_false (by omega),if_neg (by decide),hkk,Int.toNat_natCast]
   rw [Kmm (x:=((m + 1:Nat):Int) - 1) (by omega) (by omega),show ((m + 1:Nat):Int) - 1=(m:Int) by omega,Kmm (x:=(m:Int) + (k:Int)) (by omega) (by omega),Kmo (by omega)]
   by_cases h0:m + k=0
   ·rw [show ((m:Int) + (k:Int) == 0)=true by simp; omega,if_pos rfl,h0,Ko4]
    refine ⟨_,rfl,?_⟩
    have:l.length=ty.length - (i + 1):=by rw [← hd,List.length_drop]
    simp only
    omega
   ·rw [show ((m:Int) + (k:Int) == 0)=false by simp; omega,if_neg (by decide)]
    obtain ⟨q,hq⟩:∃ q,m + k=q + 1:=⟨m + k - 1,by omega⟩
    have:=ih (i + 1) q hd (by omega)
    rw [show (m:Int) + (k:Int)=((q + 1:Nat):Int) by omega]
    obtain ⟨x,h1,h2⟩:=this
    exact ⟨x,h1,by rw [h2,hq]; unfold Ko9; rw [hd]⟩
theorem Kob (ty:List Int) (hty:ty.length ≤ 1099511627776) (i:Nat) (hi:i ≤ ty.length):Kh6 (ty,(i:Int))=some (Ko9 ty 1 i):=by
 unfold Kh6
 obtain ⟨x,h1,h2⟩:=Koa ty hty _ i 0 rfl (by omega)
 simp only
 rw [show (1:Int)=((0 + 1:Nat):Int) from rfl,h1,bs]
 rw [← h2]
 cases x <;> rfl
theorem Koc (ty:List Int) (i:Nat) (hi:i ≤ ty.length):Ko9 ty 2 i=(if Ko9 ty 1 i=-1 then -1 else Ko9 ty 1 (Ko9 ty 1 i).toNat):=by
 unfold Ko9
 rw [show 2=1 + 1 from rfl,Ko7]
 cases h:skip 1 (ty.drop i) with
 | none=>simp
 | some r =>
  obtain ⟨p,hp,hl⟩:=Ko8 _ _ _ h
  have hlen:ty.length - i=p.length + r.length:=by rw [← List.length_drop,hp,List.length_append]
  have:ty.drop (ty.length - r.length)=r:=by
   have e:ty.drop (ty.length - r.length)=(ty.drop i).drop p.length:=by rw [List.drop_drop]; congr 1; omega
   rw [e,hp,List.drop_left]
  simp only [Option.bind_some]
  rw [if_neg (by omega),Int.toNat_natCast,this]
theorem Kod (ty:List Int) (hty:ty.length ≤ 1099511627776):∀ (d i:Nat),ty.length - i=d→Kev (ty,(i:Int))=some (Ko9 ty 1 i):=by
 intro d
 induction d using Nat.strongRecOn with
 | ind d ih =>
  intro i hd
  rw [Kev.eq_def]
  simp only
  rw [decide_eq_false (by omega:¬ (i:Int) < 0)]
  simp only [Bool.false_eq_true,if_false,bs]
  by_cases hi:i < ty.length
  ·rw [decide_eq_false (by omega),if_neg (by decide),Kmn hi,bs,Ko2,bs]
   have hdr:=List.drop_eq_getElem_cons hi
   have he:∀ k:Nat,Knw ty[i]=(k:Int)→Ko9 ty 1 i=Ko9 ty k (i + 1):=fun k hk=>by
    unfold Ko9
    rw [hdr,show 1=0 + 1 from rfl,Ko6,hk,if_neg (by omega),Int.toNat_natCast,Nat.zero_add]
   have hn:Knw ty[i]=-1→Ko9 ty 1 i=-1:=fun hk=>by
    unfold Ko9
    rw [hdr,show 1=0 + 1 from rfl,Ko6,if_pos hk]
   have i1:=ih (ty.length - (i + 1)) (by omega) (i + 1) rfl
   have hz:∀ i:Nat,i ≤ ty.length→Ko9 ty 0 i=(i:Int):=fun i hi=>by unfold Ko9; rw [Ko4]; simp only [List.length_drop]; omega
   rw [Kmo (by omega)]
   have two:Knw ty[i]=2→((Kev (ty,((i + 1:Nat):Int))) >>= fun r_11_4=>(Kev (ty,r_11_4)) >>= fun r_11_5=>some r_11_5)=some (Ko9 ty 1 i):=fun hk=>by
    rw [i1,bs,he 2 hk,Koc ty (i + 1) (by omega)]
    by_cases h1:Ko9 ty 1 (i + 1)=-1
    ·rw [h1,if_pos rfl,Kev.eq_def]; rfl
    ·rw [if_neg h1]
     obtain ⟨e,hee,hlo⟩:∃ e:Nat,Ko9 ty 1 (i + 1)=(e:Int)∧i + 1 < e:=by
      unfold Ko9 at h1 ⊢
      cases hs:skip 1 (ty.drop (i + 1)) with
      | none=>rw [hs] at h1; exact absurd rfl h1
      | some r =>
       obtain ⟨p,hp,hl⟩:=Ko8 _ _ _ hs
       have hlen:ty.length - (i + 1)=p.length + r.length:=by rw [← List.length_drop,hp,List.length_append]
       exact ⟨_,rfl,by omega⟩
     rw [hee,Int.toNat_natCast,ih (ty.length - e) (by omega) e rfl,bs]
   rcases Ko3 ty[i] with ⟨h,e⟩ | ⟨h,e⟩ | ⟨h,e⟩ | ⟨h,e⟩ | ⟨h,e⟩ | ⟨h,e⟩ | ⟨h,e⟩ | ⟨h,e⟩ <;> rw [e] <;> simp only []
   ·have hk:Knw ty[i]=0:=by rcases Ko0 ty[i] with h | h | h | h <;> omega
    rw [if_pos (by rfl),he 0 hk,hz _ (by omega)]
   ·have hk:Knw ty[i]=2:=by rcases Ko0 ty[i] with h | h | h | h <;> omega
    exact two hk
   ·have hk:Knw ty[i]=2:=by rcases Ko0 ty[i] with h | h | h | h <;> omega
    exact two hk
   ·have hk:Knw ty[i]=2:=by rcases Ko0 ty[i] with h | h | h | h <;> omega
    exact two hk
   ·have hk:Knw ty[i]=2:=by rcases Ko0 ty[i] with h | h | h | h <;> omega
    exact two hk
   ·have hk:Knw ty[i]=1:=by rcases Ko0 ty[i] with h | h | h | h <;> omega
    rw [he 1 hk,if_neg (by decide),if_pos (by rfl),i1,bs]
   ·have hk:Knw ty[i]=1:=by rcases Ko0 ty[i] with h | h | h | h <;> omega
    rw [he 1 hk,if_neg (by decide),if_pos (by rfl),i1,bs]
   ·have hk:Knw ty[i]=-1:=by rcases Ko0 ty[i] with h | h | h | h <;> omega
    rw [hn hk]; rfl
  ·rw [decide_eq_true (by omega),if_pos rfl]
   unfold Ko9
   rw [List.drop_eq_nil_of_le (by omega),Ko5]
def wtB (ty:List Int):Bool:=decide (ty.length ≤ 40) && (skip 1 ty == some [])
theorem Koe (ty:List Int):(Ko9 ty 1 0 == (ty.length:Int))=(skip 1 ty == some []):=by
 unfold Ko9
 rw [List.drop_zero]
 cases h:skip 1 ty with
 | none=>simp
 | some r =>
  obtain ⟨p,hp,hl⟩:=Ko8 _ _ _ h
  have hlen:ty.length=p.length + r.length:=by rw [hp,List.length_append]
  cases r with
  | nil=>simp
  | cons x xs =>
   simp only [List.length_cons] at hlen ⊢
   simp
   omega
theorem Kof (ty:List Int) (hty:ty.length ≤ 1099511627776):Kh9 ty=some (wtB ty):=by
 unfold Kh9 wtB
 by_cases h:ty.length ≤ 40
 ·rw [decide_eq_true (by omega:(ty.length:Int) ≤ 40),if_pos rfl,show (0:Int)=((0:Nat):Int) from rfl,Kob ty hty 0 (by omega),bs,Koe,decide_eq_true h]
  cases hs:skip 1 ty == some [] with
  | false=>rfl
  | true =>
   have:0 < ty.length:=by
    rcases ty with _ | ⟨c,l⟩
    ·rw [show skip 1 []=none from rfl] at hs; cases hs
    ·simp
   rw [if_pos rfl,decide_eq_true (by omega:(ty.length:Int) > ((0:Nat):Int))]; rfl
 ·rw [decide_eq_false (by omega:¬ (ty.length:Int) ≤ 40),decide_eq_false h]; rfl
theorem Kog (ty:List Int) (hty:ty.length ≤ 1099511627776):Key ty=some (wtB ty):=by
 unfold Key wtB
 rw [iIn,bs]
 by_cases h:ty.length ≤ 40
 ·rw [decide_eq_true h]
  by_cases h1:1 ≤ ty.length
  ·have:inB (ty.length:Int) 1 40=true:=by simp only [inB,Bool.and_eq_true,decide_eq_true_eq]; omega
   rw [this,if_pos rfl,show (0:Int)=((0:Nat):Int) from rfl,Kod ty hty _ 0 rfl,bs,Koe]; rfl
  ·have:inB (ty.length:Int) 1 40=false:=by rw [Bool.eq_false_iff]; intro h'; simp only [inB,Bool.and_eq_true,decide_eq_true_eq] at h'; omega
   have e:ty=[]:=List.length_eq_zero_iff.1 (by omega)
   rw [this,e]; rfl
 ·have:inB (ty.length:Int) 1 40=false:=by rw [Bool.eq_false_iff]; intro h'; simp only [inB,Bool.and_eq_true,decide_eq_true_eq] at h'; omega
  rw [this,decide_eq_false h]; rfl
def Koh (c:Int):Int:=if 35 ≤ c then -1 else if 19 ≤ c then c - 19 else c - 3
def Koi (size:Int) (closed:Bool) (c:Int):Bool:=!(decide (Knw c > 0) && decide (c > 2) && (decide (Koh c ≥ size) || closed && decide (Koh c < 0)))
theorem Koj {c:Int} (h:Knw c > 0):Khc c=some (Koh c):=by
 have:0 ≤ c∧c ≤ 36:=by rcases Ko0 c with h | h | h | h <;> omega
 unfold Khc Koh
 by_cases h1:35 ≤ c
 ·rw [decide_eq_true (by omega:c ≥ 35),if_pos rfl,if_pos h1]
 ·rw [decide_eq_false (by omega:¬ c ≥ 35),if_neg (by decide),if_neg h1]
  by_cases h2:19 ≤ c
  ·rw [decide_eq_true (by omega:c ≥ 19),if_pos rfl,if_pos h2,Kmm (by omega) (by omega)]
  ·rw [decide_eq_false (by omega:¬ c ≥ 19),if_neg (by decide),if_neg h2,Kmm (by omega) (by omega)]
theorem Kok (ty:List Int) (hty:ty.length ≤ 1099511627776) (size:Int) (cl:Bool):∀ (l:List Int) (i:Nat),ty.drop i=l→Khh (ty,size,cl,(i:Int))=some (if l.all (Koi size cl) then .inl () else .inr false):=by
 intro l
 induction l with
 | nil =>
  intro i hl
  rw [Khh.eq_def]
  simp only
  rw [Kmq (Knt hl)]; rfl
 | cons c l ih =>
  intro i hl
  obtain ⟨hi,hx,hd⟩:=Kns hl
  rw [Khh.eq_def]
  simp only
  rw [Kmp hi,if_pos rfl,hx,bs,bs,Knz,bs,Kmo (by omega)]
  have ih:=ih (i + 1) hd
  generalize ((i + 1:Nat):Int)=M at ih ⊢
  rw [List.all_cons]
  unfold Koi at ih ⊢
  by_cases hk:Knw c > 0
  ·simp only [bs,Koj hk]
   rw [decide_eq_true hk]
   generalize Koh c=g at ih ⊢
   cases decide (c > 2) <;> cases decide (g ≥ size) <;> cases cl <;> cases decide (g < 0) <;> simp [bs,ih]
  ·rw [decide_eq_false hk]; simp [bs,ih]
theorem Kol (ty:List Int) (hty:ty.length ≤ 1099511627776) (size:Int) (cl:Bool):Khk (ty,size,cl)=some (ty.all (Koi size cl)):=by
 unfold Khk
 simp only
 rw [show (0:Int)=((0:Nat):Int) from rfl,Kok ty hty size cl _ 0 rfl,List.drop_zero,bs]
 cases ty.all (Koi size cl) <;> rfl
theorem Kom {α β:Type} {a:Option α} {f:α→Option β} {x:α} (h:a=some x):(a >>= f)=f x:=by rw [h]; rfl
mutual
def tsz:K02→Nat
 | ⟨_,_,_,ks⟩=>1 + Kon ks
def Kon:List K02→Nat
 | []=>0
 | k :: ks=>tsz k + Kon ks
end
mutual
def tms:K02→Nat
 | ⟨_,_,ty,ks⟩=>ty.length + ks.length + Koo ks
def Koo:List K02→Nat
 | []=>0
 | k :: ks=>tms k + Koo ks
end
theorem Kop (t:K02):tsz t=1 + Kon t.fKids:=by cases t; rw [tsz]
def Koq (left n:Nat):Int:=if n ≤ left then ((left - n:Nat):Int) else -1
theorem Kor {left n:Nat} (h:n ≤ left):Koq left n=((left - n:Nat):Int):=if_pos h
theorem Kos {left n:Nat} (h:¬ n ≤ left):Koq left n=-1:=if_neg h
theorem Kot (t:K02) (i:Int):Kl2 (t,-1,i)=some (-1):=by
 rw [Kl2.eq_def]
 simp only
 cases decide (i < (t.fKids.length:Int)) <;> rfl
mutual
theorem Kou:∀ (t:K02) (left:Nat),tms t ≤ 1099511627776→left ≤ 1048576→Kl1 (t,(left:Int))=some (Koq left (tsz t))
 | ⟨op,N,ty,ks⟩,left,ht,hl=>by
  rw [tms] at ht
  rw [Kl1.eq_def,tsz]
  simp only
  rcases left with _ | l
  ·rw [show wr (((0:Nat):Int) - 1)=-1 from Kmm (by omega) (by omega),Kot,bs,Kos (by omega)]
  ·have h:=Kov ks ⟨op,N,ty,ks⟩ 0 l rfl (by simp only; omega) (by omega) (by omega)
   rw [Kmm (by omega) (by omega),show ((l + 1:Nat):Int) - 1=(l:Int) by omega,show (0:Int)=((0:Nat):Int) from rfl,h,bs]
   unfold Koq
   by_cases q:Kon ks ≤ l
   ·rw [if_pos q,if_pos (by omega),show l + 1 - (1 + Kon ks)=l - Kon ks by omega]
   ·rw [if_neg q,if_neg (by omega)]
theorem Kov:∀ (ks:List K02) (t:K02) (i left:Nat),t.fKids.drop i=ks→t.fKids.length ≤ 1099511627776→Koo ks ≤ 1099511627776→left ≤ 1048576→Kl2 (t,(left:Int),(i:Int))=some (Koq left (Kon ks))
 | [],t,i,left,hd,hk,ht,hl=>by
  rw [Kl2.eq_def,Kon]
  simp only
  rw [Kmq (Knt hd)]
  simp [bs,Koq]
 | k :: ks,t,i,left,hd,hk,ht,hl=>by
  obtain ⟨hi,hx,hd'⟩:=Kns hd
  rw [Koo] at ht
  rw [Kl2.eq_def,Kon]
  simp only
  rw [Kmp hi,if_pos rfl,bs,decide_eq_true (by omega:((left:Nat):Int) ≥ 0),if_pos rfl,hx,bs,Kou k left (by omega) hl,bs,Kmo (by omega)]
  by_cases q:tsz k ≤ left
  ·rw [Kor q,Kov ks t (i + 1) (left - tsz k) hd' hk (by omega) (by omega)]
   unfold Koq
   by_cases q2:Kon ks ≤ left - tsz k
   ·rw [if_pos q2,if_pos (by omega)]; congr 2; omega
   ·rw [if_neg q2,if_neg (by omega)]
  ·rw [Kos q,Kot,Kos (by omega)]
end
def Kow (op:Int):Int:=if inB op 0 12 then ([0,0,2,3,2,2,1,1,3,1,2,1,2]:List Int).getD op.toNat 0 else -1
def Kox (op:Int):Bool:=op == 5 || op == 8 || op == 9 || op == 11 || op == 12
def Koy (op:Int):Bool:=op == 6 || op == 7 || op == 9
def Koz (op:Int):ByteArray:=([ByteArray.mk #[120],ByteArray.empty,ByteArray.mk #[97,100,100],ByteArray.mk #[105,102],ByteArray.mk #[112,97,105,114],ByteArray.mk #[115,112,108,105,116],ByteArray.mk #[108,101,102,116],
 ByteArray.mk #[114,105,103,104,116],ByteArray.mk #[99,97,115,101],ByteArray.mk #[102,117,110],ByteArray.mk #[97,112,112],ByteArray.mk #[98,111,120],ByteArray.mk #[111,112,101,110]]:List ByteArray).getD op.toNat ByteArray.empty
theorem Kp0 {op:Int} (h:inB op 0 12=true):op=0∨op=1∨op=2∨op=3∨op=4∨op=5∨op=6∨op=7∨op=8∨op=9∨op=10∨op=11∨op=12:=by
 simp only [inB,Bool.and_eq_true,decide_eq_true_eq] at h
 omega
theorem Kp1 (op:Int):Kl3 op=some (Kow op):=by
 unfold Kl3 Kow
 rw [sIn,bs]
 cases h:inB op 0 12
 ·rfl
 ·rcases Kp0 h with rfl | rfl | rfl | rfl | rfl | rfl | rfl | rfl | rfl | rfl | rfl | rfl | rfl <;> rfl
theorem Kp2 (op:Int):Kl4 op=some (Kox op):=by
 unfold Kl4 Kox
 cases op == 5 <;> cases op == 8 <;> cases op == 9 <;> cases op == 11 <;> rfl
theorem Kp3 (op:Int):Kl5 op=some (Koy op):=by
 unfold Kl5 Koy
 cases op == 6 <;> cases op == 7 <;> rfl
def Kp4 (op:Int):K03 × Bool:=if inB op 0 12 then (K03.mk (Koz op) (Kow op) (Kox op) (Koy op),true) else (K03.mk ByteArray.empty 0 false false,false)
theorem Kp5 (op:Int):Kjt op=some (Kp4 op):=by
 unfold Kjt Kp4
 rw [iIn,bs]
 cases h:inB op 0 12
 ·rfl
 ·rcases Kp0 h with rfl | rfl | rfl | rfl | rfl | rfl | rfl | rfl | rfl | rfl | rfl | rfl | rfl <;> rfl
def Kp6 (op kid:Int):Nat:=if op == 5 && kid == 1 then 2 else if (op == 8 && decide (kid > 0)) || op == 9 || (op == 12 && kid == 1) then 1 else 0
theorem Kp7 (op kid:Int):Kp6 op kid ≤ 2:=by unfold Kp6; split <;> (try split) <;> omega
theorem Kp8 (op kid:Int):Kl7 (op,kid)=some ((Kp6 op kid:Nat):Int):=by
 unfold Kl7 Kp6
 simp only
 generalize (op == 5)=b1
 generalize (op == 8)=b2
 generalize (op == 9)=b3
 generalize (op == 12)=b4
 generalize (kid == 1)=b5
 generalize decide (kid > 0)=b6
 cases b1 <;> cases b2 <;> cases b3 <;> cases b4 <;> cases b5 <;> cases b6 <;> rfl
theorem Kp9 (op kid:Int):Kjz (op,kid)=some ((Kp6 op kid:Nat):Int):=by
 unfold Kjz Kp6
 simp only
 generalize (op == 5)=b1
 generalize (op == 8)=b2
 generalize (op == 9)=b3
 generalize (op == 12)=b4
 generalize (kid == 1)=b5
 generalize decide (kid > 0)=b6
 cases b1 <;> cases b2 <;> cases b3 <;> cases b4 <;> cases b5 <;> cases b6 <;> rfl
def Kpa (g:Int→Bool) (n:Int) (t:K02):Bool:=if t.fOp == 0 then inB t.fN 0 (n - 1) else if t.fOp == 1 then inB t.fN 0 2 else if Kox t.fOp then g t.fN else t.fN == 0
def Kpb (y:List Int→Bool) (t:K02):Bool:=if Koy t.fOp then y t.fType else (t.fType.length:Int) == 0
def Kpc (g:Int→Bool) (y:List Int→Bool) (n:Int) (t:K02):Bool:=inB t.fOp 0 12 && ((t.fKids.length:Int) == Kow t.fOp) && Kpa g n t && Kpb y t
mutual
def tOk (g:Int→Bool) (y:List Int→Bool):Nat→K02→Bool
 | n,⟨op,N,ty,ks⟩=>Kpc g y (n:Int) ⟨op,N,ty,ks⟩ && Kpd g y op n 0 ks
def Kpd (g:Int→Bool) (y:List Int→Bool):Int→Nat→Nat→List K02→Bool
 | _,_,_,[]=>true
 | op,n,i,k :: ks=>tOk g y (n + Kp6 op (i:Int)) k && Kpd g y op n (i + 1) ks
end
theorem Kpe (g:Int→Bool) (y:List Int→Bool) (n:Nat) (t:K02):tOk g y n t=(Kpc g y (n:Int) t && Kpd g y t.fOp n 0 t.fKids):=by cases t; rw [tOk]
def gN (size:Int) (cl:Bool) (x:Int):Bool:=!(decide (x ≥ size) || decide (x < -1) || cl && decide (x < 0))
def yN (size:Int) (cl:Bool) (ty:List Int):Bool:=wtB ty && ty.all (Koi size cl)
theorem Kpf (t:K02) (n:Nat) (size:Int) (cl:Bool) (hty:t.fType.length ≤ 1099511627776) (hn:n ≤ 35184372088832):Kl6 (t,(n:Int),size,cl)=some (Kpc (gN size cl) (yN size cl) (n:Int) t):=by
 unfold Kl6 Kpc
 simp only
 rw [Kp1,bs]
 by_cases hk:(t.fKids.length:Int)=Kow t.fOp
 ·have hop:inB t.fOp 0 12=true:=by
   cases h:inB t.fOp 0 12
   ·unfold Kow at hk; rw [h] at hk; simp at hk
   ·rfl
  rw [show ((t.fKids.length:Int) != Kow t.fOp)=false by rw [hk]; exact Kmr,if_neg (by decide),show ((t.fKids.length:Int) == Kow t.fOp)=true by rw [hk]; simp,hop]
  refine (Kom (x:=if Kpa (gN size cl) (n:Int) t then .inl () else .inr false) ?_).trans ?_
  ·unfold Kpa gN
   rw [sIn,Kmm (by omega) (by omega),sIn,Kp2]
   simp only [bs]
   generalize inB t.fN 0 ((n:Int) - 1)=b1
   generalize inB t.fN 0 2=b2
   generalize Kox t.fOp=b3
   rw [show (t.fN != 0)=!(t.fN == 0) from rfl]
   generalize (t.fN == 0)=b4
   generalize decide (t.fN ≥ size)=b5
   generalize decide (t.fN < -1)=b6
   generalize decide (t.fN < 0)=b7
   generalize (t.fOp == 0)=b8
   generalize (t.fOp == 1)=b9
   cases b8
   ·cases b9
    ·cases b3
     ·cases b4 <;> rfl
     ·cases b5 <;> cases b6 <;> cases cl <;> cases b7 <;> rfl
    ·cases b2 <;> rfl
   ·cases b1 <;> rfl
  ·cases Kpa (gN size cl) (n:Int) t
   ·simp
   ·unfold Kpb yN
    simp only [if_true]
    rw [Kp3,bs]
    cases Koy t.fOp
    ·simp
    ·simp only [if_true]
     rw [Kof _ hty,Kol _ hty]
     cases wtB t.fType <;> simp [bs]
 ·rw [show ((t.fKids.length:Int) != Kow t.fOp)=true by simpa using hk,if_pos rfl,show ((t.fKids.length:Int) == Kow t.fOp)=false by simpa using hk]
  simp
mutual
theorem Kpg (size:Int) (cl:Bool):∀ (t:K02) (n:Nat),tms t ≤ 1099511627776→n + 2 * tms t ≤ 35184372088832→Kl8 (t,(n:Int),size,cl)=some (tOk (gN size cl) (yN size cl) n t)
 | ⟨op,N,ty,ks⟩,n,ht,hn=>by
  rw [tms] at ht hn
  rw [Kl8.eq_def,tOk]
  simp only
  rw [Kpf _ n size cl (by simp only; omega) (by omega),bs]
  cases hb:Kpc (gN size cl) (yN size cl) (n:Int) ⟨op,N,ty,ks⟩
  ·rfl
  ·have h:=Kph size cl ks ⟨op,N,ty,ks⟩ n 0 rfl (by simp only; omega) (by omega) (by omega)
   rw [if_pos rfl,show (0:Int)=((0:Nat):Int) from rfl,h,bs]
   simp only
   cases Kpd (gN size cl) (yN size cl) op n 0 ks <;> rfl
theorem Kph (size:Int) (cl:Bool):∀ (ks:List K02) (t:K02) (n i:Nat),t.fKids.drop i=ks→t.fKids.length ≤ 1099511627776→Koo ks ≤ 1099511627776→n + 2 * (ks.length + Koo ks) ≤ 35184372088832 →
  Kl9 (t,(n:Int),size,cl,(i:Int))=some (if Kpd (gN size cl) (yN size cl) t.fOp n i ks then .inl () else .inr false)
 | [],t,n,i,hd,hk,ht,hn=>by
  rw [Kl9.eq_def,Kpd]
  simp only
  rw [Kmq (Knt hd)]; rfl
 | k :: ks,t,n,i,hd,hk,ht,hn=>by
  obtain ⟨hi,hx,hd'⟩:=Kns hd
  rw [Koo] at ht hn
  rw [List.length_cons] at hn
  have ha:=Kp7 t.fOp (i:Int)
  rw [Kl9.eq_def,Kpd]
  simp only
  rw [Kmp hi,if_pos rfl,hx,bs,Kp8,bs,Kmm (by omega) (by omega),show (n:Int) + ((Kp6 t.fOp (i:Int):Nat):Int)=((n + Kp6 t.fOp (i:Int):Nat):Int) by omega]
  rw [Kpg size cl k (n + Kp6 t.fOp (i:Int)) (by omega) (by omega),bs,Kmo (by omega)]
  cases tOk (gN size cl) (yN size cl) (n + Kp6 t.fOp (i:Int)) k
  ·rfl
  ·rw [if_pos rfl,Kph size cl ks t n (i + 1) hd' hk (by omega) (by omega),Bool.true_and]
end
def Kpi (ok:Bool) (nodes sz:Nat):Int:=if ok && decide (nodes + sz ≤ 400) then ((nodes + sz:Nat):Int) else 401
theorem iWs (x:Int):Kjw x=some (gN 16 false x):=by
 unfold Kjw
 rw [iIn,bs]
 congr 1
 unfold gN inB
 by_cases h1:x ≥ 16 <;> by_cases h2:x < -1 <;> simp [h1,h2] <;> omega
mutual
theorem Kpj:∀ (t:K02) (n nodes:Nat),tms t ≤ 1099511627776→n + 2 * tms t ≤ 35184372088832→nodes ≤ 400→Kk3 (t,(n:Int),(nodes:Int))=some (Kpi (tOk (gN 16 false) wtB n t) nodes (tsz t))
 | ⟨op,N,ty,ks⟩,n,nodes,ht,hn,hd=>by
  rw [tms] at ht hn
  rw [Kk3.eq_def,tOk,tsz]
  simp only
  rw [Kp5,bs]
  unfold Kp4
  cases hop:inB op 0 12
  ·simp [Kpc,hop,Kpi]
  ·simp only [if_true]
   rw [Kmo (by omega)]
   by_cases h4:nodes + 1 ≤ 400
   ·rw [decide_eq_false (by omega:¬ ((nodes + 1:Nat):Int) > 400)]
    by_cases hk:(ks.length:Int)=Kow op
    ·rw [show ((ks.length:Int) != Kow op)=false by rw [hk]; exact Kmr]
     simp only [Bool.false_eq_true,if_false,bs]
     refine (Kom (x:=Kpa (gN 16 false) (n:Int) ⟨op,N,ty,ks⟩) ?_).trans ?_
     ·unfold Kpa
      simp only [iIn,Kmm (x:=(n:Int) - 1) (by omega) (by omega),iWs,bs]
      cases op == 0 <;> cases op == 1 <;> cases Kox op <;> rfl
     refine (Kom (x:=Kpa (gN 16 false) (n:Int) ⟨op,N,ty,ks⟩ && Kpb wtB ⟨op,N,ty,ks⟩) ?_).trans ?_
     ·unfold Kpb
      simp only [Kog ty (by omega),bs]
      cases Koy op <;> cases Kpa (gN 16 false) (n:Int) ⟨op,N,ty,ks⟩ <;> rfl
     have e:Kpc (gN 16 false) wtB (n:Int) ⟨op,N,ty,ks⟩=(Kpa (gN 16 false) (n:Int) ⟨op,N,ty,ks⟩ && Kpb wtB ⟨op,N,ty,ks⟩):=by
      unfold Kpc
      simp only
      rw [hop,hk]; simp
     rw [e]
     cases Kpa (gN 16 false) (n:Int) ⟨op,N,ty,ks⟩ && Kpb wtB ⟨op,N,ty,ks⟩
     ·simp [Kpi]
     ·have h:=Kpk ks ⟨op,N,ty,ks⟩ n (nodes + 1) 0 rfl (by simp only; omega) (by omega) (by omega) h4
      rw [if_pos rfl,show (0:Int)=((0:Nat):Int) from rfl,h]
      simp only [Bool.true_and]
      unfold Kpi
      rw [show nodes + (1 + Kon ks)=nodes + 1 + Kon ks by omega]
      cases Kpd (gN 16 false) wtB op n 0 ks && decide (nodes + 1 + Kon ks ≤ 400) <;> rfl
    ·rw [show ((ks.length:Int) != Kow op)=true by simpa using hk]
     have e:Kpc (gN 16 false) wtB (n:Int) ⟨op,N,ty,ks⟩=false:=by
      unfold Kpc
      simp only
      rw [show ((ks.length:Int) == Kow op)=false by simpa using hk]; simp
     simp [e,Kpi]
   ·rw [decide_eq_true (by omega:((nodes + 1:Nat):Int) > 400)]
    have:¬ nodes + (1 + Kon ks) ≤ 400:=by omega
    simp [Kpi,this]
theorem Kpk:∀ (ks:List K02) (t:K02) (n nodes i:Nat),t.fKids.drop i=ks→t.fKids.length ≤ 1099511627776→Koo ks ≤ 1099511627776→n + 2 * (ks.length + Koo ks) ≤ 35184372088832→nodes ≤ 400 →
  Kk4 (t,(n:Int),(nodes:Int),(i:Int))=some (if Kpd (gN 16 false) wtB t.fOp n i ks && decide (nodes + Kon ks ≤ 400) then .inl ((nodes + Kon ks:Nat):Int) else .inr 401)
 | [],t,n,nodes,i,hd,hk,ht,hn,h4=>by
  rw [Kk4.eq_def,Kpd,Kon]
  simp only
  rw [Kmq (Knt hd)]
  simp [h4]
 | k :: ks,t,n,nodes,i,hd,hk,ht,hn,h4=>by
  obtain ⟨hi,hx,hd'⟩:=Kns hd
  rw [Koo] at ht hn
  rw [List.length_cons] at hn
  have ha:=Kp7 t.fOp (i:Int)
  rw [Kk4.eq_def,Kpd,Kon]
  simp only
  rw [Kmp hi,if_pos rfl,hx,bs,Kp9,bs,Kmm (by omega) (by omega),show (n:Int) + ((Kp6 t.fOp (i:Int):Nat):Int)=((n + Kp6 t.fOp (i:Int):Nat):Int) by omega]
  rw [Kpj k (n + Kp6 t.fOp (i:Int)) nodes (by omega) (by omega) h4,bs,Kmo (by omega)]
  unfold Kpi
  cases tOk (gN 16 false) wtB (n + Kp6 t.fOp (i:Int)) k
  ·rfl
  ·by_cases q:nodes + tsz k ≤ 400
   ·rw [decide_eq_true q,Bool.true_and,if_pos rfl,decide_eq_false (by omega:¬ ((nodes + tsz k:Nat):Int) > 400),if_neg (by decide),Kpk ks t n (nodes + tsz k) (i + 1) hd' hk (by omega) (by omega) q,Nat.add_assoc,Bool.true_and]
   ·rw [decide_eq_false q,decide_eq_false (by omega:¬ nodes + (tsz k + Kon ks) ≤ 400)]
    simp
end
def wB (t:K02):Bool:=tOk (gN 16 false) wtB 8 t && decide (tsz t ≤ 400)
theorem Kpl (t:K02) (ht:tms t ≤ 1099511627776):Kka t=some (Kpi (tOk (gN 16 false) wtB 8 t) 0 (tsz t)):=by
 unfold Kka
 have:=Kpj t 8 0 ht (by omega) (by omega)
 rw [show ((8:Nat):Int)=8 from rfl,show ((0:Nat):Int)=0 from rfl] at this
 rw [this,bs]
theorem Kpm (t:K02) (ht:tms t ≤ 1099511627776):Kkd t=some (wB t):=by
 unfold Kkd
 rw [Kpl t ht,bs]
 unfold Kpi wB
 rw [Nat.zero_add]
 congr 1
 cases h:tOk (gN 16 false) wtB 8 t && decide (tsz t ≤ 400)
 ·rfl
 ·simp only [Bool.and_eq_true,decide_eq_true_eq] at h
  rw [if_pos rfl,decide_eq_true (by omega)]
theorem Kpn (l:List Int):∀ (m:Nat),skip m l=some []→∀ c ∈ l,0 ≤ c∧c ≤ 36:=by
 induction l with
 | nil=>intro m h c hc; cases hc
 | cons x l ih =>
  intro m h c hc
  cases m with
  | zero=>rw [Ko4] at h; cases h
  | succ m =>
   rw [Ko6] at h
   by_cases hk:Knw x=-1
   ·rw [if_pos hk] at h; cases h
   ·rw [if_neg hk] at h
    rcases List.mem_cons.1 hc with rfl | hc
    ·rcases Ko0 c with q | q | q | q <;> omega
    ·exact ih _ h c hc
theorem Kpo {ty:List Int} (h:wtB ty=true):∀ c ∈ ty,0 ≤ c∧c ≤ 36:=by
 unfold wtB at h
 rw [Bool.and_eq_true,beq_iff_eq] at h
 exact Kpn ty 1 h.2
theorem Kpp {ty:List Int} (h:wtB ty=true):ty.length ≤ 40:=by
 unfold wtB at h
 rw [Bool.and_eq_true,decide_eq_true_eq] at h
 exact h.1
theorem Kpq {g:Int→Bool} {y:List Int→Bool} {n:Nat} {t:K02} (h:tOk g y n t=true):Kpc g y (n:Int) t=true∧Kpd g y t.fOp n 0 t.fKids=true:=by
 rw [Kpe,Bool.and_eq_true] at h; exact h
theorem Kpr {g:Int→Bool} {n:Int} {t:K02} (h:Kpc g wtB n t=true):(∀ c ∈ t.fType,0 ≤ c∧c ≤ 36)∧t.fType.length ≤ 40:=by
 unfold Kpc Kpb at h
 rw [Bool.and_eq_true] at h
 have h:=h.2
 cases hq:Koy t.fOp
 ·rw [hq] at h
  simp at h
  rw [h]; simp
 ·rw [hq,if_pos rfl] at h
  exact ⟨Kpo h,Kpp h⟩
theorem Kps {n b:Nat} (h:n * b ≤ 140737488355328):Qe5 n b=some ():=by unfold Qe5 chk; rw [if_pos h]
theorem Kpt {g:Int→Bool} {y:List Int→Bool} {n:Int} {t:K02} (h:Kpc g y n t=true):inB t.fOp 0 12=true∧(t.fKids.length:Int)=Kow t.fOp:=by
 unfold Kpc at h
 simp only [Bool.and_eq_true,beq_iff_eq] at h
 exact ⟨h.1.1.1,h.1.1.2⟩
theorem Kpu (l:List Int) (h:l.length ≤ 1099511627776):Kch l=some l:=by
 unfold Kch
 rw [Kps (by simp only [List.length_nil]; omega),bs]
theorem Kpv (l:List Int) (h:l.length ≤ 1099511627776):Kim l=some l:=by
 unfold Kim
 rw [Kps (by simp only [List.length_nil]; omega),bs]
structure Kpw (s:K00) (n:Nat):Prop where
 size:s.fSize=(n:Int)
 lo:2 ≤ n
 hi:n ≤ 16
 lp:s.fPlus.length=n * n
 lt:s.fTimes.length=n * n
 lb:s.fBelow.length=n * n
def Kpx (s:K00) (n i:Nat):Bool:=inB (s.fPlus.getD i 0) 0 ((n:Int) - 1) && inB (s.fTimes.getD i 0) 0 ((n:Int) - 1)
section
variable {s:K00} {n:Nat} (h:Kpw s n)
include h
theorem nn:n * n ≤ 256:=Nat.le_trans (Nat.mul_le_mul h.hi h.hi) (by decide)
theorem Kpy {i:Nat} (hi:i < n * n):idx s.fPlus (i:Int)=some (s.fPlus.getD i 0):=by
 have hl:i < s.fPlus.length:=by rw [h.lp]; exact hi
 rw [Kmn hl,List.getD_eq_getElem?_getD,List.getElem?_eq_getElem hl]; rfl
theorem Kpz {i:Nat} (hi:i < n * n):idx s.fTimes (i:Int)=some (s.fTimes.getD i 0):=by
 have hl:i < s.fTimes.length:=by rw [h.lt]; exact hi
 rw [Kmn hl,List.getD_eq_getElem?_getD,List.getElem?_eq_getElem hl]; rfl
theorem Kq0:wr (s.fSize - 1)=(n:Int) - 1:=by
 have:=h.lo; have:=h.hi
 rw [h.size,Kmm (by omega) (by omega)]
theorem Kq1:∀ (k i:Nat),i + k=n * n→K87 (s,(i:Int))=some (if (List.range' i k).all (Kpx s n) then .inl () else .inr false):=by
 have hn:=nn h
 intro k
 induction k with
 | zero =>
  intro i hm
  rw [K87.eq_def]
  simp only
  rw [h.lp,Kmq (by omega)]
  rfl
 | succ k ih =>
  intro i hm
  rw [K87.eq_def]
  simp only
  rw [h.lp,Kmp (by omega),if_pos rfl,Kpy h (by omega),Kpz h (by omega),Kq0 h]
  have ih:=ih (i + 1) (by omega)
  rw [Kmo (by omega),List.range'_succ,List.all_cons]
  generalize ((i + 1:Nat):Int)=M at ih ⊢
  generalize (List.range' (i + 1) k).all (Kpx s n)=r at ih ⊢
  simp only [bs,sIn]
  cases h1:inB (s.fPlus.getD i 0) 0 ((n:Int) - 1) <;> cases h2:inB (s.fTimes.getD i 0) 0 ((n:Int) - 1) <;> cases r <;> simp only [Kpx,h1,h2,ih,bs,Bool.not_true,Bool.not_false,Bool.true_and,Bool.false_and,Bool.and_true,Bool.and_false,if_true,if_false,Bool.false_eq_true]
theorem Kq2:∀ (k i:Nat),i + k=n * n→Kdp (s,(i:Int))=some (if (List.range' i k).all (Kpx s n) then .inl () else .inr false):=by
 have hn:=nn h
 intro k
 induction k with
 | zero =>
  intro i hm
  rw [Kdp.eq_def]
  simp only
  rw [h.lp,Kmq (by omega)]
  rfl
 | succ k ih =>
  intro i hm
  rw [Kdp.eq_def]
  simp only
  rw [h.lp,Kmp (by omega),if_pos rfl,Kpy h (by omega),Kpz h (by omega)]
  have ih:=ih (i + 1) (by omega)
  rw [Kmo (by omega),List.range'_succ,List.all_cons]
  generalize ((i + 1:Nat):Int)=M at ih ⊢
  generalize (List.range' (i + 1) k).all (Kpx s n)=r at ih ⊢
  have hh:∀ x,Kct (s,x)=some (inB x 0 ((n:Int) - 1)):=fun x=>by
   unfold Kct
   simp only
   rw [Kq0 h,iIn,bs]
  simp only [bs,hh]
  cases h1:inB (s.fPlus.getD i 0) 0 ((n:Int) - 1) <;> cases h2:inB (s.fTimes.getD i 0) 0 ((n:Int) - 1) <;> cases r <;> simp only [Kpx,h1,h2,ih,bs,Bool.not_true,Bool.not_false,Bool.true_and,Bool.false_and,Bool.and_true,Bool.and_false,if_true,if_false,Bool.false_eq_true]
theorem Kq3 (he:(List.range' 0 (n * n)).all (Kpx s n)=true):Tab s n:=by
 rw [List.all_eq_true] at he
 have hent:∀ i,i < n * n→Kpx s n i=true:=fun i hi=>he i (by rw [List.mem_range'_1]; omega)
 refine ⟨h.size,h.lo,h.hi,h.lp,h.lt,h.lb,fun i hi=>?_,fun i hi=>?_⟩
 ·have:=hent i (by rw [← h.lp]; exact hi)
  simp only [Kpx,inB,Bool.and_eq_true,decide_eq_true_eq,List.getD_eq_getElem?_getD,List.getElem?_eq_getElem hi,Option.getD_some] at this
  omega
 ·have:=hent i (by rw [← h.lt]; exact hi)
  simp only [Kpx,inB,Bool.and_eq_true,decide_eq_true_eq,List.getD_eq_getElem?_getD,List.getElem?_eq_getElem hi,Option.getD_some] at this
  omega
end
def Kq4 (s:K00):Bool:=inB s.fSize 2 16 && !((s.fPlus.length:Int) != (wr (s.fSize * s.fSize))) && !((s.fTimes.length:Int) != (wr (s.fSize * s.fSize))) && !((s.fBelow.length:Int) != (wr (s.fSize * s.fSize)))
theorem Kq5 {s:K00} (h:Kq4 s=true):Kpw s s.fSize.toNat:=by
 unfold Kq4 at h
 simp only [Bool.and_eq_true,Bool.not_eq_true',inB,decide_eq_true_eq,bne_eq_false_iff_eq] at h
 obtain ⟨⟨⟨⟨h1,h2⟩,h3⟩,h4⟩,h5⟩:=h
 obtain ⟨n,hn⟩:∃ n:Nat,s.fSize=(n:Int):=⟨s.fSize.toNat,by omega⟩
 rw [hn] at h1 h2 h3 h4 h5 ⊢
 have h256:n * n ≤ 256:=Nat.le_trans (Nat.mul_le_mul (by omega:n ≤ 16) (by omega:n ≤ 16)) (by decide)
 have e:(n:Int) * (n:Int)=((n * n:Nat):Int):=by simp
 rw [e] at h3 h4 h5
 generalize hm:n * n=m at *
 rw [Kmm (by omega) (by omega)] at h3 h4 h5
 rw [Int.toNat_natCast]
 exact ⟨hn,by omega,by omega,by omega,by omega,by omega⟩
def Kq6 (s:K00):Bool:=Kq4 s && (List.range' 0 (s.fSize.toNat * s.fSize.toNat)).all (Kpx s s.fSize.toNat) && Knl s s.fSize.toNat
theorem Kq7 {s:K00} (h:Kq6 s=true):Tab s s.fSize.toNat:=by
 unfold Kq6 at h
 simp only [Bool.and_eq_true] at h
 exact Kq3 (Kq5 h.1.1) h.1.2
theorem Kq8 (s:K00):K9o s=some (Kq6 s):=by
 unfold K9o K8a Kq6
 rw [sIn]
 cases hf:Kq4 s with
 | false =>
  unfold Kq4 at hf
  cases h1:inB s.fSize 2 16 <;> cases h2:((s.fPlus.length:Int) != (wr (s.fSize * s.fSize))) <;> cases h3:((s.fTimes.length:Int) != (wr (s.fSize * s.fSize))) <;> cases h4:((s.fBelow.length:Int) != (wr (s.fSize * s.fSize))) <;> simp_all [bs]
 | true =>
  have F:=Kq5 hf
  have hl:=Kq1 F (s.fSize.toNat * s.fSize.toNat) 0 (by omega)
  rw [show ((0:Nat):Int)=0 from rfl] at hl
  unfold Kq4 at hf
  simp only [Bool.and_eq_true,Bool.not_eq_true'] at hf
  obtain ⟨⟨⟨h1,h2⟩,h3⟩,h4⟩:=hf
  cases he:(List.range' 0 (s.fSize.toNat * s.fSize.toNat)).all (Kpx s s.fSize.toNat) with
  | false=>rw [he] at hl; simp [bs,h1,h2,h3,h4,hl]
  | true =>
   have T:=Kq3 F he
   have hl2:=Knq T s.fSize.toNat 0 (by omega)
   rw [show ((0:Nat):Int)=0 from rfl] at hl2
   rw [he] at hl
   have hm:(List.range' 0 s.fSize.toNat).all (fun a=>Kn5 s s.fSize.toNat a && (List.range' 0 s.fSize.toNat).all fun b=>Kni s s.fSize.toNat a b && (List.range' 0 s.fSize.toNat).all fun c=>Kn6 s s.fSize.toNat a b c)=Knl s s.fSize.toNat:=rfl
   rw [hm] at hl2
   cases hs:Knl s s.fSize.toNat <;> rw [hs] at hl2 <;> simp [bs,h1,h2,h3,h4,hl,hl2]
theorem Kq9 (s:K00):Ke5 s=some (Kq6 s):=by
 unfold Ke5 Kq6
 rw [iIn]
 cases hf:Kq4 s with
 | false =>
  unfold Kq4 at hf
  cases h1:inB s.fSize 2 16 <;> cases h2:((s.fPlus.length:Int) != (wr (s.fSize * s.fSize))) <;> cases h3:((s.fTimes.length:Int) != (wr (s.fSize * s.fSize))) <;> cases h4:((s.fBelow.length:Int) != (wr (s.fSize * s.fSize))) <;> simp_all [bs]
 | true =>
  have F:=Kq5 hf
  have hl:=Kq2 F (s.fSize.toNat * s.fSize.toNat) 0 (by omega)
  rw [show ((0:Nat):Int)=0 from rfl] at hl
  unfold Kq4 at hf
  simp only [Bool.and_eq_true,Bool.not_eq_true'] at hf
  obtain ⟨⟨⟨h1,h2⟩,h3⟩,h4⟩:=hf
  cases he:(List.range' 0 (s.fSize.toNat * s.fSize.toNat)).all (Kpx s s.fSize.toNat) with
  | false=>rw [he] at hl; simp [bs,h1,h2,h3,h4,hl]
  | true =>
   have T:=Kq3 F he
   have hl2:=Knr T s.fSize.toNat 0 (by omega)
   rw [show ((0:Nat):Int)=0 from rfl] at hl2
   rw [he] at hl
   have hm:(List.range' 0 s.fSize.toNat).all (fun a=>Kn5 s s.fSize.toNat a && (List.range' 0 s.fSize.toNat).all fun b=>Kni s s.fSize.toNat a b && (List.range' 0 s.fSize.toNat).all fun c=>Kn6 s s.fSize.toNat a b c)=Knl s s.fSize.toNat:=rfl
   rw [hm] at hl2
   cases hs:Knl s s.fSize.toNat <;> rw [hs] at hl2 <;> simp [bs,h1,h2,h3,h4,hl,hl2]
theorem Kqa {x:Int} {n:Nat} (h:inB x 0 ((n:Int) - 1)=true):x=((x.toNat:Nat):Int)∧x.toNat < n:=by
 simp only [inB,Bool.and_eq_true,decide_eq_true_eq] at h
 omega
section
variable {s:K00} {n:Nat} (h:Tab s n)
include h
theorem Kqb:wr (s.fSize - 1)=(n:Int) - 1:=by
 have:=h.lo; have:=h.hi
 rw [h.size,Kmm (by omega) (by omega)]
end
inductive Ty where
 | num
 | bin (c:Int) (a b:Ty)
 | un (c:Int) (a:Ty)
namespace Ty
def code:Ty→List Int
 | num=>[0]
 | bin c a b=>c :: (a.code ++ b.code)
 | un c a=>c :: a.code
def ok:Ty→Prop
 | num=>True
 | bin c a b=>Knw c=2∧a.ok∧b.ok
 | un c a=>Knw c=1∧a.ok
def kids:Ty→List Ty
 | num=>[]
 | bin _ a b=>[a,b]
 | un _ a=>[a]
def hd:Ty→Int
 | num=>0
 | bin c _ _=>c
 | un c _=>c
end Ty
def Kqc:List Ty→List Int
 | []=>[]
 | t :: l=>t.code ++ Kqc l
theorem Kqd (T:Ty):T.code=T.hd :: Kqc T.kids:=by cases T <;> simp [Ty.code,Ty.hd,Ty.kids,Kqc]
theorem Kqe (T:Ty):1 ≤ T.code.length:=by rw [Kqd]; simp
theorem Kqf (T:Ty):∀ (m:Nat) (l:List Int),T.ok→skip (m + 1) (T.code ++ l)=skip m l:=by
 induction T with
 | num =>
  intro m l _
  rw [Ty.code,List.singleton_append,Ko6,show Knw 0=0 from rfl,if_neg (by decide)]; rfl
 | bin c a b iha ihb =>
  intro m l h
  rw [Ty.code,List.cons_append,Ko6,h.1,if_neg (by decide),List.append_assoc,show m + (2:Int).toNat=(m + 1) + 1 from rfl,iha _ _ h.2.1,ihb _ _ h.2.2]
 | un c a ih =>
  intro m l h
  rw [Ty.code,List.cons_append,Ko6,h.1,if_neg (by decide),show m + (1:Int).toNat=m + 1 from rfl,ih _ _ h.2]
theorem Kqg (l:List Int):∀ (m:Nat) (r:List Int),skip m l=some r→∃ Ts:List Ty,Ts.length=m∧(∀ T ∈ Ts,T.ok)∧l=Kqc Ts ++ r:=by
 induction l with
 | nil =>
  intro m r h
  cases m with
  | zero=>rw [Ko4] at h; cases h; exact ⟨[],rfl,fun _ h=>(by cases h),rfl⟩
  | succ m=>rw [Ko5] at h; cases h
 | cons c l ih =>
  intro m r h
  cases m with
  | zero=>rw [Ko4] at h; cases h; exact ⟨[],rfl,fun _ h=>(by cases h),rfl⟩
  | succ m =>
   rw [Ko6] at h
   by_cases hk:Knw c=-1
   ·rw [if_pos hk] at h; cases h
   ·rw [if_neg hk] at h
    obtain ⟨Ts,h1,h2,h3⟩:=ih _ _ h
    rcases Ko0 c with ⟨q,e⟩ | ⟨q,e⟩ | ⟨q,e⟩ | ⟨q,e⟩
    ·subst q
     rw [e] at h1
     exact ⟨.num :: Ts,by simpa using h1,fun T hT=>by rcases List.mem_cons.1 hT with rfl | hT; exact trivial; exact h2 T hT,by rw [h3]; rfl⟩
    ·rw [e] at h1
     match Ts,h1 with
     | a :: b :: Ts,h1 =>
      refine ⟨.bin c a b :: Ts,by simpa using h1,fun T hT=>?_,by rw [h3]; simp [Kqc,Ty.code]⟩
      rcases List.mem_cons.1 hT with rfl | hT
      ·exact ⟨e,h2 a List.mem_cons_self,h2 b (List.mem_cons_of_mem _ List.mem_cons_self)⟩
      ·exact h2 T (List.mem_cons_of_mem _ (List.mem_cons_of_mem _ hT))
     | [_],h1=>exact absurd h1 (by simp)
     | [],h1=>exact absurd h1 (by simp)
    ·rw [e] at h1
     match Ts,h1 with
     | a :: Ts,h1 =>
      refine ⟨.un c a :: Ts,by simpa using h1,fun T hT=>?_,by rw [h3]; simp [Kqc,Ty.code]⟩
      rcases List.mem_cons.1 hT with rfl | hT
      ·exact ⟨e,h2 a List.mem_cons_self⟩
      ·exact h2 T (List.mem_cons_of_mem _ hT)
     | [],h1=>exact absurd h1 (by simp)
    ·exact absurd e hk
theorem Kqh {ty:List Int} (h:wtB ty=true):∃ T:Ty,T.ok∧ty=T.code∧ty.length ≤ 40:=by
 have hl:=Kpp h
 unfold wtB at h
 rw [Bool.and_eq_true,beq_iff_eq] at h
 obtain ⟨Ts,h1,h2,h3⟩:=Kqg _ _ _ h.2
 match Ts,h1 with
 | [T],_=>exact ⟨T,h2 T List.mem_cons_self,by rw [h3]; simp [Kqc],hl⟩
theorem Kqi {T:Ty} (h:T.ok) (hl:T.code.length ≤ 40):wtB T.code=true:=by
 unfold wtB
 have:=Kqf T 0 [] h
 rw [List.append_nil,Ko4] at this
 rw [decide_eq_true hl,show (1:Nat)=0 + 1 from rfl,this]; rfl
theorem Kqj {T:Ty} (h:T.ok):∀ K ∈ T.kids,K.ok:=by
 intro K hK
 cases T with
 | num=>cases hK
 | bin c a b=>rcases List.mem_cons.1 hK with rfl | hK; exact h.2.1; rw [List.mem_singleton.1 hK]; exact h.2.2
 | un c a=>rw [List.mem_singleton.1 hK]; exact h.2
theorem Kqk {pre:List Int} {T:Ty} {post:List Int} (h:T.ok):Ko9 (pre ++ (T.code ++ post)) 1 pre.length=((pre.length + T.code.length:Nat):Int):=by
 unfold Ko9
 rw [List.drop_left,show (1:Nat)=0 + 1 from rfl,Kqf T 0 post h,Ko4]
 simp only [List.length_append]
 omega
theorem Kql {α:Type} (p m q:List α) (mx:Option Int) (hmx:mx=none∨mx=some ((p.length + m.length:Nat):Int)):cut (p ++ (m ++ q)) (some (p.length:Int)) (some ((p.length + m.length:Nat):Int)) mx=some m:=by
 unfold cut
 have e:((p ++ (m ++ q)).take (p.length + m.length)).drop p.length=m:=by
  rw [← List.append_assoc,← List.length_append,List.take_left,List.drop_left]
 rw [if_pos]
 ·simp only [Option.getD_some,Int.toNat_natCast,e]
 ·rcases hmx with rfl | rfl <;> simp only [Option.getD_some,Option.getD_none,List.length_append] <;> omega
theorem Kqm {α:Type} (p q:List α):cut (p ++ q) (some (p.length:Int)) none none=some q:=by
 unfold cut
 rw [if_pos]
 ·simp only [Option.getD_some,Option.getD_none,Int.toNat_natCast,List.take_length,List.drop_left]
 ·simp only [Option.getD_some,Option.getD_none,List.length_append]; omega
theorem Kqn (Ks:List Ty):∀ (pre:List Int) (out:List (List Int)),(∀ K ∈ Ks,K.ok)→(pre ++ Kqc Ks).length ≤ 1099511627776→out.length + Ks.length ≤ 1099511627776→Kfs (pre ++ Kqc Ks,out,(pre.length:Int))=some (out ++ Ks.map Ty.code):=by
 induction Ks with
 | nil =>
  intro pre out hk hl ho
  rw [show Kqc []=[] from rfl,List.append_nil,Kfs.eq_def]
  simp only
  rw [Kmq (Nat.le_refl _)]; simp
 | cons K Ks ih =>
  intro pre out hk hl ho
  have hK:=hk K List.mem_cons_self
  have hp:=Kqe K
  rw [show Kqc (K :: Ks)=K.code ++ Kqc Ks from rfl] at hl ⊢
  rw [List.length_cons] at ho
  rw [Kfs.eq_def]
  simp only
  rw [Kmp (by simp only [List.length_append]; omega),if_pos rfl,Kod _ hl _ pre.length rfl,Kqk hK,bs,Kql _ _ _ _ (.inr rfl),bs,Kps (by simp only [List.length_singleton]; omega),bs]
  have:=ih (pre ++ K.code) (out ++ [K.code]) (fun K hK=>hk K (List.mem_cons_of_mem _ hK)) (by rw [List.append_assoc]; exact hl) (by simp; omega)
  rw [List.append_assoc,List.length_append] at this
  rw [this,List.map_cons,List.append_assoc]; rfl
theorem Kqo {T:Ty} (h:T.ok) (hl:T.code.length ≤ 1048576):Kfv T.code=some (T.kids.map Ty.code):=by
 unfold Kfv
 have hk:T.kids.length ≤ 2:=by cases T <;> simp [Ty.kids]
 have e:[T.hd] ++ Kqc T.kids=T.code:=(Kqd T).symm
 have:=Kqn T.kids [T.hd] [] (Kqj h) (by rw [e]; omega) (by simp only [List.length_nil]; omega)
 rw [e] at this
 rw [show (1:Int)=(([T.hd].length:Nat):Int) from rfl,this,bs]; rfl
theorem Kqp {c:Int} {a:Ty} {r:List Int} (ha:a.ok) (hl:(c :: (a.code ++ r)).length ≤ 1099511627776):Ki0 (c :: (a.code ++ r),0)=some a.code:=by
 unfold Ki0
 simp only
 have e:=Kqk (pre:=[c]) (post:=r) ha
 have h1:=Kob (c :: (a.code ++ r)) hl 1 (by simp)
 rw [show (((1:Nat)):Int)=1 from rfl] at h1
 rw [List.length_singleton] at e
 have e':Ko9 (c :: (a.code ++ r)) 1 1=((1 + a.code.length:Nat):Int):=e
 rw [h1,bs,e',if_pos (by rfl)]
 have h2:=Kql [c] a.code r none (.inl rfl)
 rw [List.length_singleton] at h2
 have h2':cut (c :: (a.code ++ r)) (some 1) (some ((1 + a.code.length:Nat):Int)) none=some a.code:=h2
 simp only [List.length_cons,List.length_append] at hl
 rw [h2',bs,Kpu _ (by omega),bs]
theorem Kqq {c:Int} {a:Ty} {r:List Int} (ha:a.ok) (hl:(c :: (a.code ++ r)).length ≤ 1099511627776):Ki0 (c :: (a.code ++ r),1)=some r:=by
 unfold Ki0
 simp only
 have e:=Kqk (pre:=[c]) (post:=r) ha
 have h1:=Kob (c :: (a.code ++ r)) hl 1 (by simp)
 rw [show (((1:Nat)):Int)=1 from rfl] at h1
 rw [List.length_singleton] at e
 have e':Ko9 (c :: (a.code ++ r)) 1 1=((1 + a.code.length:Nat):Int):=e
 rw [h1,bs,e',if_neg (by decide)]
 have h2:=Kqm (c :: a.code) r
 rw [List.length_cons,List.cons_append,Nat.add_comm] at h2
 simp only [List.length_cons,List.length_append] at hl
 rw [h2,bs,Kpu _ (by omega),bs]
def Ty.dat:Ty→Prop
 | .num=>True
 | .bin c a b=>(c=1∨c=2)∧a.dat∧b.dat
 | .un _ a=>a.dat
theorem Kqr {T:Ty} (h:T.ok):(T.code.all fun c=>!Knu c)=true→T.dat:=by
 induction T with
 | num=>intro _; trivial
 | bin c a b iha ihb =>
  intro hd
  rw [Ty.code,List.all_cons,List.all_append,Bool.and_eq_true,Bool.and_eq_true] at hd
  refine ⟨?_,iha h.2.1 hd.2.1,ihb h.2.2 hd.2.2⟩
  have h1:=h.1
  have h2:=hd.1
  unfold Knu inB at h2
  simp only [Bool.not_eq_true',Bool.or_eq_false_iff,beq_eq_false_iff_ne,Bool.and_eq_false_iff,decide_eq_false_iff_not] at h2
  rcases Ko0 c with q | q | q | q <;> omega
 | un c a ih =>
  intro hd
  rw [Ty.code,List.all_cons,Bool.and_eq_true] at hd
  exact ih h.2 hd.2
def Kqs (ty:List Int):Bool:=ty.all fun c=>!Knu c
theorem Kqt (ty:List Int) (hty:ty.length ≤ 1099511627776):∀ (l:List Int) (i:Nat),ty.drop i=l→Khr (ty,(i:Int))=some (if l.all (fun c=>!Knu c) then .inl () else .inr false):=by
 intro l
 induction l with
 | nil =>
  intro i hd
  rw [Khr.eq_def]
  simp only
  rw [Kmq (Knt hd)]; rfl
 | cons c l ih =>
  intro i hd
  obtain ⟨hi,hx,hd'⟩:=Kns hd
  rw [Khr.eq_def]
  simp only
  rw [Kmp hi,if_pos rfl,hx,bs,Knx,bs,Kmo (by omega),ih (i + 1) hd',List.all_cons]
  cases Knu c <;> simp
theorem Kqu (ty:List Int) (hty:ty.length ≤ 1099511627776):Khu ty=some (Kqs ty):=by
 unfold Khu Kqs
 rw [show (0:Int)=((0:Nat):Int) from rfl,Kqt ty hty _ 0 rfl,List.drop_zero,bs]
 cases ty.all (fun c=>!Knu c) <;> rfl
theorem Kqv (c:Int):((Ko1 c).1 == 3)=Knu c:=by
 unfold Knu inB
 rcases Ko3 c with ⟨h,e⟩ | ⟨h,e⟩ | ⟨h,e⟩ | ⟨h,e⟩ | ⟨h,e⟩ | ⟨h,e⟩ | ⟨h,e⟩ | ⟨h,e⟩ <;> rw [e] <;> (first | (subst h; rfl) | skip)
 ·rw [decide_eq_true (by omega:c ≥ 3),decide_eq_true (by omega:c ≤ 18)]; rfl
 ·rw [decide_eq_false (by omega:¬ c ≤ 18),beq_eq_false_iff_ne.2 (by omega:c ≠ 35)]; simp
 ·have:¬ (c ≥ 3∧c ≤ 18):=by omega
  rw [beq_eq_false_iff_ne.2 (by omega:c ≠ 35)]
  by_cases h3:c ≥ 3
  ·rw [decide_eq_false (by omega:¬ c ≤ 18)]; simp
  ·rw [decide_eq_false h3]; simp
theorem Kqw (c:Int):Kf8 c=some (Knu c):=by
 unfold Kf8
 rw [Ko2,bs]
 have:=Kqv c
 revert this
 rcases Ko1 c with ⟨a,b⟩
 intro this
 simp only at this ⊢
 rw [this]
theorem Kqx (ty:List Int) (hty:ty.length ≤ 1099511627776):∀ (l:List Int) (i:Nat),ty.drop i=l→∃ r,Kfc (ty,(i:Int))=some r∧(match r with | .inl _=>l.all (fun c=>!Knu c)=true | .inr m=>l.all (fun c=>!Knu c)=false∧0 ≤ m):=by
 intro l
 induction l with
 | nil =>
  intro i hd
  rw [Kfc.eq_def]
  simp only
  rw [Kmq (Knt hd)]
  exact ⟨_,rfl,rfl⟩
 | cons c l ih =>
  intro i hd
  obtain ⟨hi,hx,hd'⟩:=Kns hd
  rw [Kfc.eq_def]
  simp only
  rw [Kmp hi,if_pos rfl,hx,bs,Kqw,bs,Kmo (by omega),List.all_cons]
  cases Knu c
  ·obtain ⟨r,h1,h2⟩:=ih (i + 1) hd'
   exact ⟨r,h1,by simpa using h2⟩
  ·exact ⟨.inr (i:Int),rfl,by simp⟩
theorem Kqy (ty:List Int) (hty:ty.length ≤ 1099511627776):Kfi ty=some (!Kqs ty):=by
 unfold Kfi Kff Kqs
 obtain ⟨r,h1,h2⟩:=Kqx ty hty _ 0 rfl
 rw [List.drop_zero] at h2
 rw [show (0:Int)=((0:Nat):Int) from rfl,h1,bs]
 cases r with
 | inl u=>simp only at h2; rw [h2]; rfl
 | inr m=>simp only at h2; rw [h2.1]; simp [bs,h2.2]
def Kqz (s:K00) (g:Int):Bool:=inB g 0 (wr (s.fSize - 1))
theorem Kr0 (s:K00) (g:Int):Kct (s,g)=some (Kqz s g):=by
 unfold Kct Kqz
 simp only
 rw [iIn,bs]
def Kr1 (s:K00) (c:Int):Bool:=!(((Ko1 c).1 == 3 || (Ko1 c).1 == 4) && !Kqz s (Ko1 c).2)
def Kr2 (s:K00) (ty:List Int):Bool:=wtB ty && ty.all (Kr1 s)
theorem Kr3 (s:K00) (ty:List Int) (hty:ty.length ≤ 1099511627776):∀ (l:List Int) (i:Nat),ty.drop i=l→Kf2 (s,ty,(i:Int))=some (if l.all (Kr1 s) then .inl () else .inr false):=by
 intro l
 induction l with
 | nil =>
  intro i hd
  rw [Kf2.eq_def]
  simp only
  rw [Kmq (Knt hd)]; rfl
 | cons c l ih =>
  intro i hd
  obtain ⟨hi,hx,hd'⟩:=Kns hd
  rw [Kf2.eq_def]
  simp only
  rw [Kmp hi,if_pos rfl,hx,bs,Ko2,bs,Kmo (by omega),ih (i + 1) hd',List.all_cons]
  unfold Kr1
  rcases Ko1 c with ⟨a,b⟩
  simp only [Kr0,bs]
  cases a == 3 <;> cases a == 4 <;> cases Kqz s b <;> simp [bs]
theorem Kr4 (s:K00) (ty:List Int) (hty:ty.length ≤ 1099511627776):Kf5 (s,ty)=some (Kr2 s ty):=by
 unfold Kf5 Kr2
 simp only
 rw [Kog ty hty,bs]
 cases wtB ty
 ·rfl
 ·rw [if_pos rfl,show (0:Int)=((0:Nat):Int) from rfl,Kr3 s ty hty _ 0 rfl,List.drop_zero,bs]
  cases ty.all (Kr1 s) <;> rfl
theorem Kr5 {s:K00} {n:Nat} (h:Tab s n) (g:Int):Kqz s g=inB g 0 ((n:Int) - 1):=by
 unfold Kqz; rw [Kqb h]
theorem Kr6 {s:K00} {n:Nat} (h:Tab s n) {c:Int}:Kr1 s c=Koi s.fSize true c:=by
 unfold Kr1 Koi Koh
 have hn:=h.lo
 rw [Kr5 h,h.size]
 rcases Ko3 c with ⟨q,e⟩ | ⟨q,e⟩ | ⟨q,e⟩ | ⟨q,e⟩ | ⟨q,e⟩ | ⟨q,e⟩ | ⟨q,e⟩ | ⟨q,e⟩ <;> rw [e]
 ·subst q; rfl
 ·subst q; rfl
 ·subst q; rfl
 ·have hk:Knw c=2:=by rcases Ko0 c with h | h | h | h <;> omega
  rw [hk,if_neg (by omega),if_neg (by omega),decide_eq_true (by omega:c > 2)]
  unfold inB
  rw [decide_eq_true (by omega:c - 3 ≥ 0),decide_eq_false (by omega:¬ c - 3 < 0)]
  by_cases hc:c - 3 ≤ (n:Int) - 1
  ·rw [decide_eq_true hc,decide_eq_false (by omega:¬ c - 3 ≥ (n:Int))]; rfl
  ·rw [decide_eq_false hc,decide_eq_true (by omega:c - 3 ≥ (n:Int))]; rfl
 ·subst q; unfold inB; simp [Knw,Knu,Knv,inB]
 ·have hk:Knw c=1:=by rcases Ko0 c with h | h | h | h <;> omega
  rw [hk,if_neg (by omega),if_pos (by omega),decide_eq_true (by omega:c > 2)]
  unfold inB
  rw [decide_eq_true (by omega:c - 19 ≥ 0),decide_eq_false (by omega:¬ c - 19 < 0)]
  by_cases hc:c - 19 ≤ (n:Int) - 1
  ·rw [decide_eq_true hc,decide_eq_false (by omega:¬ c - 19 ≥ (n:Int))]; rfl
  ·rw [decide_eq_false hc,decide_eq_true (by omega:c - 19 ≥ (n:Int))]; rfl
 ·subst q; unfold inB; simp [Knw,Knu,Knv,inB]
 ·have hk:Knw c=-1:=by rcases Ko0 c with h | h | h | h <;> omega
  rw [hk]; simp
theorem Kr7 {s:K00} {n:Nat} (h:Tab s n) (ty:List Int):Kr2 s ty=yN s.fSize true ty:=by
 unfold Kr2 yN
 rw [show Kr1 s=Koi s.fSize true from funext fun c=>Kr6 h]
def Kr8 (s:K00) (ty:List Int):Bool:=Kq6 s && Kr2 s ty
theorem Kr9 (s:K00) (ty:List Int) (hty:ty.length ≤ 1099511627776):Khn (s,ty)=some (Kr8 s ty):=by
 unfold Khn Kr8
 simp only
 rw [Kq8,bs]
 cases hs:Kq6 s
 ·rfl
 ·rw [if_pos rfl,Kof ty hty,bs,Kol ty hty,Bool.true_and,Kr7 (Kq7 hs)]
  unfold yN
  cases wtB ty <;> rfl
theorem Kra (s:K00) (ty:List Int) (hty:ty.length ≤ 1099511627776):Khx (s,ty)=some (Kr8 s ty && Kqs ty):=by
 unfold Khx
 simp only
 rw [Kr9 s ty hty,bs,Kqu ty hty]
 cases Kr8 s ty <;> rfl
theorem Krb (s:K00) (ty:List Int) (hty:ty.length ≤ 1099511627776):Kfl (s,ty)=some (Kr2 s ty && Kqs ty):=by
 unfold Kfl
 simp only
 rw [Kr4 s ty hty,bs,Kqy ty hty]
 cases Kr2 s ty <;> simp [bs]
theorem Krc (s:K00) (ty:List Int) (hty:ty.length ≤ 1099511627776):Kfo (s,ty)=some (Kr8 s ty && Kqs ty):=by
 unfold Kfo Kr8
 simp only
 rw [Krb s ty hty,bs,Kq9]
 cases Kr2 s ty <;> cases Kqs ty <;> cases Kq6 s <;> rfl
def Krd:Ty→Nat
 | .num=>3
 | .bin c a b=>if c=1 then min (Krd a * Krd b) 301 else min (Krd a + Krd b) 301
 | .un _ a=>Krd a
theorem Kre (T:Ty):1 ≤ Krd T∧Krd T ≤ 301:=by
 induction T with
 | num=>decide
 | bin c a b iha ihb =>
  rw [Krd]
  have:1 ≤ Krd a * Krd b:=Nat.mul_le_mul iha.1 ihb.1
  split <;> omega
 | un c a ih=>rw [Krd]; exact ih
theorem Krf {α:Type} (x:α) (l:List α):idx (x :: l) 0=some x:=rfl
theorem Krg {α:Type} (x y:α) (l:List α):idx (x :: y :: l) 1=some y:=rfl
theorem Krh {a b:Nat} (ha:a ≤ 301) (hb:b ≤ 301):wr ((a:Int) * (b:Int))=((a * b:Nat):Int):=by
 have:a * b ≤ 301 * 301:=Nat.mul_le_mul ha hb
 rw [← Int.natCast_mul,Kmm (by omega) (by omega)]
theorem Kri {a b:Nat} (ha:a ≤ 1099511627776) (hb:b ≤ 1099511627776):wr ((a:Int) + (b:Int))=((a + b:Nat):Int):=by rw [Kmm (by omega) (by omega)]; omega
theorem Krj (a b:Nat):K78 ((a:Int),(b:Int))=some ((min a b:Nat):Int):=by
 unfold K78
 simp only
 by_cases h:a < b
 ·rw [decide_eq_true (by omega:(a:Int) < (b:Int)),if_pos rfl,Nat.min_eq_left (by omega)]
 ·rw [decide_eq_false (by omega:¬ (a:Int) < (b:Int)),if_neg (by decide),Nat.min_eq_right (by omega)]
theorem Krk (a b:Nat):mnx false (a:Int) (b:Int)=((min a b:Nat):Int):=by
 unfold mnx
 simp only [cond_false]
 by_cases h:b < a
 ·rw [if_pos (by omega),Nat.min_eq_right (by omega)]
 ·rw [if_neg (by omega),Nat.min_eq_left (by omega)]
theorem Krl (T:Ty):T.ok→T.dat→T.code.length ≤ 1048576→Ki3 T.code=some ((Krd T:Nat):Int):=by
 induction T with
 | num=>intro _ _ _; rw [Ki3.eq_def]; rfl
 | bin c a b iha ihb =>
  intro h hd hl
  have h0:=Kqp (c:=c) (r:=b.code) h.2.1 (by rw [Ty.code] at hl; omega)
  have h1:=Kqq (c:=c) (r:=b.code) h.2.1 (by rw [Ty.code] at hl; omega)
  have la:=Kre a
  have lb:=Kre b
  rw [Ty.code,List.length_cons,List.length_append] at hl
  rw [Ty.code,Ki3.eq_def]
  rw [Krf,bs]
  rcases hd.1 with rfl | rfl
  ·rw [if_neg (by decide),if_pos (by rfl),h0,bs,iha h.2.1 hd.2.1 (by omega),bs,h1,bs,ihb h.2.2 hd.2.2 (by omega),bs,Krh la.2 lb.2,show (301:Int)=((301:Nat):Int) from rfl,Krj,bs,Krd,if_pos rfl]
  ·rw [if_neg (by decide),if_neg (by decide),if_pos (by rfl),h0,bs,iha h.2.1 hd.2.1 (by omega),bs,h1,bs,ihb h.2.2 hd.2.2 (by omega),bs,Kri (by omega) (by omega),show (301:Int)=((301:Nat):Int) from rfl,Krj,bs,Krd,if_neg (by decide)]
 | un c a ih =>
  intro h hd hl
  have e:Ty.code (.un c a)=c :: (a.code ++ []):=by rw [Ty.code,List.append_nil]
  have h0:=Kqp (c:=c) (r:=[]) h.2 (by rw [← e]; omega)
  rw [Ty.code,List.length_cons] at hl
  have hk:=h.1
  have hc:c ≠ 0∧c ≠ 1∧c ≠ 2:=by rcases Ko0 c with q | q | q | q <;> omega
  rw [e,Ki3.eq_def]
  rw [Krf,bs,beq_eq_false_iff_ne.2 hc.1,beq_eq_false_iff_ne.2 hc.2.1,beq_eq_false_iff_ne.2 hc.2.2]
  rw [if_neg (by decide),if_neg (by decide),if_neg (by decide),h0,bs,ih h.2 hd (by omega),bs,Krd]
theorem Krm (T:Ty):T.ok→T.dat→T.code.length ≤ 1048576→Kfy T.code=some ((Krd T:Nat):Int):=by
 induction T with
 | num=>intro _ _ _; rw [Kfy.eq_def,Kqo (T:=.num) trivial (by simp [Ty.code])]; rfl
 | bin c a b iha ihb =>
  intro h hd hl
  have la:=Kre a
  have lb:=Kre b
  have hp:=Kqo h hl
  rw [Ty.kids,List.map_cons,List.map_cons,List.map_nil] at hp
  rw [Kfy.eq_def,hp]
  rw [Ty.code,List.length_cons,List.length_append] at hl
  rw [Ty.code,Krf,bs,Ko2,bs]
  rcases hd.1 with rfl | rfl
  ·rw [show Ko1 1=(1,-1) from rfl]
   simp only [bs,Krf,Krg]
   rw [iha h.2.1 hd.2.1 (by omega),ihb h.2.2 hd.2.2 (by omega)]
   simp only [bs]
   rw [if_pos (by rfl),bs,Krh la.2 lb.2,show (301:Int)=((301:Nat):Int) from rfl,Krk,Krd,if_pos rfl]
  ·rw [show Ko1 2=(2,-1) from rfl]
   simp only [bs,Krf,Krg]
   rw [iha h.2.1 hd.2.1 (by omega),ihb h.2.2 hd.2.2 (by omega)]
   simp only [bs]
   rw [if_neg (by decide),if_pos (by rfl),bs,bs,Kri (by omega) (by omega),show (301:Int)=((301:Nat):Int) from rfl,Krk,Krd,if_neg (by decide)]
 | un c a ih =>
  intro h hd hl
  have la:=Kre a
  have hp:=Kqo h hl
  rw [Ty.kids,List.map_cons,List.map_nil] at hp
  have hk:=h.1
  have hc:(Ko1 c).1=4:=by rcases Ko3 c with ⟨q,e⟩ | ⟨q,e⟩ | ⟨q,e⟩ | ⟨q,e⟩ | ⟨q,e⟩ | ⟨q,e⟩ | ⟨q,e⟩ | ⟨q,e⟩ <;> rw [e] <;> simp only <;> (rcases Ko0 c with q | q | q | q <;> omega)
  rw [Kfy.eq_def,hp]
  rw [Ty.code,List.length_cons] at hl
  rw [Ty.code,Krf,bs,Ko2,bs]
  revert hc
  rcases Ko1 c with ⟨x,y⟩
  intro hc
  simp only at hc
  subst hc
  simp only [bs,Krf]
  rw [ih h.2 hd (by omega)]
  simp only [bs]
  rw [if_neg (by decide),if_neg (by decide),if_pos (by rfl),bs,bs,bs,show (301:Int)=((301:Nat):Int) from rfl,Krk,Krd,Nat.min_eq_left la.2]
theorem Krn {s:K00} {ty:List Int} (h:(Kr8 s ty && Kqs ty)=true):∃ T:Ty,T.ok∧T.dat∧ty=T.code∧ty.length ≤ 40:=by
 unfold Kr8 Kr2 at h
 simp only [Bool.and_eq_true] at h
 obtain ⟨T,h1,h2,h3⟩:=Kqh h.1.2.1
 exact ⟨T,h1,Kqr h1 (by rw [← h2]; exact h.2),h2,h3⟩
theorem Kro (s:K00) (ty:List Int) (hty:ty.length ≤ 1048576) :
  (∃ T:Ty,T.ok∧T.dat∧ty=T.code∧ty.length ≤ 40∧(Kr8 s ty && Kqs ty)=true∧Ki6 (s,ty)=some (if Krd T > 300 then -1 else (Krd T:Int))∧Kg1 (s,ty)=some (if Krd T > 300 then -1 else (Krd T:Int))) ∨
  ((Kr8 s ty && Kqs ty)=false∧Ki6 (s,ty)=some (-1)∧Kg1 (s,ty)=some (-1)):=by
 unfold Ki6 Kg1
 simp only
 rw [Kra s ty (by omega),Krc s ty (by omega)]
 cases h:Kr8 s ty && Kqs ty
 ·exact .inr ⟨rfl,rfl,rfl⟩
 ·obtain ⟨T,h1,h2,h3,h4⟩:=Krn h
  refine .inl ⟨T,h1,h2,h3,h4,rfl,?_,?_⟩
  ·subst h3
   rw [bs,if_pos rfl,Krl T h1 h2 hty,bs,bs]
   by_cases q:Krd T > 300
   ·rw [decide_eq_true (by omega),if_pos rfl,if_pos q]
   ·rw [decide_eq_false (by omega),if_neg (by decide),if_neg q,bs]
  ·subst h3
   rw [bs,if_pos rfl,Krm T h1 h2 hty,bs,bs]
   by_cases q:Krd T > 300
   ·rw [decide_eq_true (by omega),if_pos rfl,if_pos q]
   ·rw [decide_eq_false (by omega),if_neg (by decide),if_neg q,bs]
def sms (s:K00):Nat:=s.fPlus.length + s.fTimes.length + s.fBelow.length
theorem Krp {l:List K02} {t:K02} (h:t ∈ l):tsz t ≤ Kon l:=by
 induction l with
 | nil=>cases h
 | cons x l ih =>
  rw [Kon]
  rcases List.mem_cons.1 h with rfl | h
  ·omega
  ·have:=ih h; omega
theorem Krq {t k:K02} (h:k ∈ t.fKids):tsz k + 1 ≤ tsz t:=by
 rw [Kop t]
 have:=Krp h
 omega
mutual
theorem Krr:∀ (t:K02),tms t ≤ 1099511627776→Kjd t=some t
 | ⟨op,N,ty,ks⟩,h=>by
  rw [tms] at h
  rw [Kjd.eq_def]
  simp only
  rw [Kpv ty (by omega),bs,show (0:Int)=((0:Nat):Int) from rfl,Krs ks ⟨op,N,ty,ks⟩ 0 ty [] rfl (by simp only; omega) (by omega) (by simp),bs]
  rfl
theorem Krs:∀ (ks:List K02) (t:K02) (i:Nat) (r:List Int) (out:List K02),t.fKids.drop i=ks→t.fKids.length ≤ 1099511627776→Koo ks ≤ 1099511627776→out.length=i→Kje (t,r,out,(i:Int))=some (out ++ ks)
 | [],t,i,r,out,hd,hk,hm,ho=>by
  rw [Kje.eq_def]
  simp only
  rw [Kmq (Knt hd),List.append_nil]; rfl
 | k :: ks,t,i,r,out,hd,hk,hm,ho=>by
  obtain ⟨hi,hx,hd'⟩:=Kns hd
  rw [Koo] at hm
  rw [Kje.eq_def]
  simp only
  rw [Kmp hi,if_pos rfl,hx,bs,Krr k (by omega),bs,Kps (by simp only [List.length_singleton]; omega),bs,Kmo (by omega),Krs ks t (i + 1) r _ hd' hk (by omega) (by simp [ho]),List.append_assoc]
  rfl
end
mutual
def shf (by_:Int):Int→K02→K02
 | from_,⟨op,N,ty,ks⟩=>⟨op,if op == 0 && decide (N ≥ from_) then N + by_ else N,ty,Krt by_ op from_ 0 ks⟩
def Krt (by_:Int):Int→Int→Nat→List K02→List K02
 | _,_,_,[]=>[]
 | op,from_,i,k :: ks=>shf by_ (from_ + ((Kp6 op (i:Int):Nat):Int)) k :: Krt by_ op from_ (i + 1) ks
end
def noT:K02:=⟨0,0,[],[]⟩
theorem Kru {α:Type} (x:α) (l:List α):cut (x :: l) (some 1) none none=some l:=Kqm [x] l
theorem Krv {g:Int→Bool} {y:List Int→Bool}:∀ (ks:List K02) (op:Int) (n i j:Nat) (hj:j < ks.length),Kpd g y op n i ks=true→tOk g y (n + Kp6 op ((i + j:Nat):Int)) ks[j]=true
 | k :: ks,op,n,i,j,hj,ht=>by
  rw [Kpd,Bool.and_eq_true] at ht
  cases j with
  | zero=>exact ht.1
  | succ j =>
   have:=Krv ks op n (i + 1) j (by simpa using hj) ht.2
   rw [show i + 1 + j=i + (j + 1) by omega] at this
   exact this
theorem Krw {c:Int} (h:Knw c=2):(c=1∧Ko1 c=(1,-1))∨(c=2∧Ko1 c=(2,-1))∨((c ≠ 0∧c ≠ 1∧c ≠ 2)∧Knv c=false∧Knu c=true∧Ko1 c=(3,Koh c)):=by
 rcases Ko0 c with q | ⟨q,_⟩ | q | q
 ·omega
 ·rcases Ko3 c with ⟨h,e⟩ | ⟨h,e⟩ | ⟨h,e⟩ | ⟨h,e⟩ | ⟨h,e⟩ | ⟨h,e⟩ | ⟨h,e⟩ | ⟨h,e⟩
  ·omega
  ·exact .inl ⟨h,e⟩
  ·exact .inr (.inl ⟨h,e⟩)
  ·refine .inr (.inr ⟨by omega,?_,?_,?_⟩)
   ·unfold Knv inB; rw [Bool.eq_false_iff]; simp; omega
   ·unfold Knu inB; simp; omega
   ·rw [e]; unfold Koh; rw [if_neg (by omega),if_neg (by omega)]
  ·subst h; exact .inr (.inr ⟨by omega,rfl,rfl,rfl⟩)
  ·omega
  ·omega
  ·omega
 ·omega
 ·omega
theorem Krx {c:Int} (h:Knw c=1):(c ≠ 0∧c ≠ 1∧c ≠ 2)∧Knv c=true∧Knu c=false∧Ko1 c=(4,Koh c):=by
 rcases Ko0 c with q | q | ⟨q,_⟩ | q
 ·omega
 ·omega
 ·rcases Ko3 c with ⟨h,e⟩ | ⟨h,e⟩ | ⟨h,e⟩ | ⟨h,e⟩ | ⟨h,e⟩ | ⟨h,e⟩ | ⟨h,e⟩ | ⟨h,e⟩
  ·omega
  ·omega
  ·omega
  ·omega
  ·omega
  ·refine ⟨by omega,?_,?_,?_⟩
   ·unfold Knv inB; simp; omega
   ·unfold Knu inB; rw [Bool.eq_false_iff]; simp; omega
   ·rw [e]; unfold Koh; rw [if_neg (by omega),if_pos (by omega)]
  ·subst h; exact ⟨by omega,rfl,rfl,rfl⟩
  ·omega
 ·omega
structure Kry (c:Int) (a b:Ty):Prop where
 p0:Ki0 (c :: (a.code ++ b.code),0)=some a.code
 p1:Ki0 (c :: (a.code ++ b.code),1)=some b.code
 pp:Kfv (c :: (a.code ++ b.code))=some [a.code,b.code]
 ok:a.ok∧b.ok
 la:a.code.length + b.code.length + 1 ≤ 1048576
theorem Krz {c:Int} {a b:Ty} (h:(Ty.bin c a b).ok) (hl:(Ty.bin c a b).code.length ≤ 1048576):Kry c a b:=by
 have hl':=hl
 rw [Ty.code] at hl'
 have h3:=Kqo h hl
 rw [Ty.kids,List.map_cons,List.map_cons,List.map_nil,Ty.code] at h3
 refine ⟨Kqp h.2.1 (by omega),Kqq h.2.1 (by omega),h3,h.2,?_⟩
 rw [List.length_cons,List.length_append] at hl'
 omega
structure UnP (c:Int) (a:Ty):Prop where
 p0:Ki0 (c :: a.code,0)=some a.code
 pp:Kfv (c :: a.code)=some [a.code]
 ok:a.ok
 la:a.code.length + 1 ≤ 1048576
theorem unP {c:Int} {a:Ty} (h:(Ty.un c a).ok) (hl:(Ty.un c a).code.length ≤ 1048576):UnP c a:=by
 have hl':=hl
 rw [Ty.code] at hl'
 have h3:=Kqo h hl
 rw [Ty.kids,List.map_cons,List.map_nil,Ty.code] at h3
 have h4:=Kqp (c:=c) (r:=[]) h.2 (by rw [List.append_nil]; omega)
 rw [List.append_nil] at h4
 refine ⟨h4,h3,h.2,?_⟩
 rw [List.length_cons] at hl'
 omega
theorem Ks0:Kfv [0]=some []:=Kqo (T:=.num) trivial (by simp [Ty.code])
def dfl:Ty→K02
 | .num=>⟨1,0,[],[]⟩
 | .bin c a b=>if c=1 then ⟨4,0,[],[dfl a,dfl b]⟩ else if c=2 then ⟨6,0,b.code,[dfl a]⟩ else ⟨9,Koh c,a.code,[dfl b]⟩
 | .un c a=>⟨11,Koh c,[],[dfl a]⟩
theorem Ks1 (T:Ty):tms (dfl T) ≤ 3 * T.code.length:=by
 induction T with
 | num=>simp [dfl,tms,Koo]
 | bin c a b iha ihb =>
  rw [dfl,Ty.code,List.length_cons,List.length_append]
  split
  ·simp only [tms,Koo,List.length_cons,List.length_nil]; omega
  ·split
   ·simp only [tms,Koo,List.length_cons,List.length_nil]; omega
   ·simp only [tms,Koo,List.length_cons,List.length_nil]; omega
 | un c a ih=>rw [dfl,Ty.code,List.length_cons]; simp only [tms,Koo,List.length_cons,List.length_nil]; omega
theorem Ks2 (T:Ty):T.ok→T.code.length ≤ 1048576→Kjk T.code=some (dfl T):=by
 induction T with
 | num=>intro _ _; rw [Kjk.eq_def,Ty.code,Ks0]; rfl
 | bin c a b iha ihb =>
  intro h hl
  have P:=Krz h hl
  have la:=P.la
  have ha:=iha P.ok.1 (by omega)
  have hb:=ihb P.ok.2 (by omega)
  rw [Ty.code,Kjk.eq_def,Krf,bs,P.pp,dfl,Ko2,bs]
  rcases Krw h.1 with ⟨rfl,e⟩ | ⟨rfl,e⟩ | ⟨h0,h1,_,e⟩
  ·rw [e]; simp [bs,Krf,Krg,ha,hb]
  ·rw [e]; simp [bs,Krf,Krg,ha,Kpv b.code (by omega)]
  ·rw [e]; simp [bs,Krf,Krg,hb,Kpv a.code (by omega),h0.2.1,h0.2.2]
 | un c a ih =>
  intro h hl
  have P:=unP h hl
  have la:=P.la
  have ha:=ih P.ok (by omega)
  obtain ⟨h0,h1,h2,e⟩:=Krx h.1
  rw [Ty.code,Kjk.eq_def,Krf,bs,P.pp,dfl,Ko2,bs,e]
  simp [bs,Krf,ha]
def vAt:Ty→Int→K02
 | .num,k=>⟨1,k,[],[]⟩
 | .bin c a b,k=>if c=1 then ⟨4,0,[],[vAt a (wr (Int.tdiv k (Krd b))),vAt b (Int.tmod k (Krd b))]⟩ else if k < (Krd a:Int) then ⟨6,0,b.code,[vAt a k]⟩ else ⟨7,0,a.code,[vAt b (wr (k - (Krd a:Int)))]⟩
 | .un c a,k=>⟨11,Koh c,[],[vAt a k]⟩
theorem Ks3 (T:Ty):∀ k,tms (vAt T k) ≤ 3 * T.code.length:=by
 induction T with
 | num=>intro k; simp [vAt,tms,Koo]
 | bin c a b iha ihb =>
  intro k
  rw [vAt,Ty.code,List.length_cons,List.length_append]
  split
  ·simp only [tms,Koo,List.length_cons,List.length_nil]
   have:=iha (wr (Int.tdiv k (Krd b)))
   have:=ihb (Int.tmod k (Krd b))
   omega
  ·split
   ·simp only [tms,Koo,List.length_cons,List.length_nil]; have:=iha k; omega
   ·simp only [tms,Koo,List.length_cons,List.length_nil]; have:=ihb (wr (k - (Krd a:Int))); omega
 | un c a ih=>intro k; rw [vAt,Ty.code,List.length_cons]; simp only [tms,Koo,List.length_cons,List.length_nil]; have:=ih k; omega
theorem Ks4 {p:Prop} [Decidable p] (h:p):chk p=some ():=by unfold chk; rw [if_pos h]
theorem Ks5 (T:Ty):T.ok→T.dat→T.code.length ≤ 1048576→∀ k,Kip (T.code,k)=some (vAt T k):=by
 induction T with
 | num=>intro _ _ _ k; rw [Kip.eq_def,Ty.code]; simp only; rw [Ks0]; rfl
 | bin c a b iha ihb =>
  intro h hd hl k
  have P:=Krz h hl
  have la:=P.la
  have ha:=iha P.ok.1 hd.2.1 (by omega)
  have hb:=ihb P.ok.2 hd.2.2 (by omega)
  have ca:=Krm a P.ok.1 hd.2.1 (by omega)
  have cb:=Krm b P.ok.2 hd.2.2 (by omega)
  have na:=Kre a
  have nb:=Kre b
  rw [Ty.code,Kip.eq_def]
  simp only
  rw [Krf,bs,P.pp,vAt,Ko2,bs]
  rcases hd.1 with rfl | rfl
  ·rw [show Ko1 1=(1,-1) from rfl]
   simp only [bs,Krf,Krg,cb,ha,hb]
   rw [if_pos (by rfl),Ks4 (by omega),bs,bs,if_pos trivial]
  ·rw [show Ko1 2=(2,-1) from rfl]
   simp only [bs,Krf,Krg,ca,ha,hb,Kpv a.code (by omega),Kpv b.code (by omega)]
   rw [if_neg (by decide),if_pos (by rfl)]
   by_cases q:k < (Krd a:Int)
   ·rw [decide_eq_false (by omega),if_neg (by decide),if_neg (by decide),if_pos q]
   ·rw [decide_eq_true (by omega),if_pos rfl,if_neg (by decide),if_neg q]
 | un c a ih =>
  intro h hd hl k
  have P:=unP h hl
  have la:=P.la
  have ha:=ih P.ok hd (by omega)
  obtain ⟨h0,h1,h2,e⟩:=Krx h.1
  rw [Ty.code,Kip.eq_def]
  simp only
  rw [Krf,bs,P.pp,vAt,Ko2,bs,e]
  simp [bs,Krf,ha]
def inG (b:List Bool) (a:Nat):Bool:=b.getD a false
def vwC (s:K00) (n:Nat) (b:List Bool) (x y:Nat):Bool :=
 (inG b (pl s n x y) == (inG b x || inG b y)) && (inG b (ti s n x y) == (inG b x && inG b y)) && !(inG b x && le s n x y && !inG b y)
def vwI (s:K00) (n:Nat) (b:List Bool):Bool:=!inG b 0 && inG b 1 && (List.range' 0 n).all fun x=>(List.range' 0 n).all fun y=>vwC s n b x y
theorem Ks6 {b:List Bool} {n a:Nat} (hb:b.length=n) (ha:a < n):idx b (a:Int)=some (inG b a):=by
 rw [Kmn (by omega)]; unfold inG; rw [List.getD_eq_getElem?_getD,List.getElem?_eq_getElem (by omega)]; rfl
def Ks7 (n:Nat):Option Int→List Int→Bool
 | _,[]=>true
 | p,g :: l=>inB g 0 ((n:Int) - 1) && (match p with | none=>true | some q=>!decide (g ≤ q)) && Ks7 n (some g) l
theorem Ks8 (n:Nat) (p:Option Int) (g:Int) (l:List Int):Ks7 n p (g :: l)=(inB g 0 ((n:Int) - 1) && (match p with | none=>true | some q=>!decide (g ≤ q)) && Ks7 n (some g) l):=by
 cases p <;> rfl
def vIn:List Int→List Bool→List Bool
 | [],b=>b
 | g :: l,b=>vIn l (b.set g.toNat true)
theorem Ks9 (l:List Int):∀ b,(vIn l b).length=b.length:=by
 induction l with
 | nil=>intro b; rfl
 | cons g l ih=>intro b; rw [vIn,ih,List.length_set]
section
variable {s:K00} {n:Nat} (h:Tab s n)
include h
theorem Ksa {b:List Bool} (hb:b.length=n) {x:Nat} (hx:x < n):∀ (k y:Nat),y + k=n→Kat (s,b,(x:Int),(y:Int))=some (if (List.range' y k).all (fun y=>vwC s n b x y) then .inl () else .inr false):=by
 have hhi:=h.hi
 intro k
 induction k with
 | zero =>
  intro y hm
  rw [Kat.eq_def]
  simp only
  rw [h.size,Kmq (by omega)]
  rfl
 | succ k ih =>
  intro y hm
  have hy:y < n:=by omega
  have ih:=ih (y + 1) (by omega)
  rw [Kat.eq_def]
  simp only
  rw [h.size,Kmp (by omega),if_pos rfl,Kmo (by omega),List.range'_succ,List.all_cons,ih]
  refine (Kom (x:=!vwC s n b x y) ?_).trans ?_
  ·rw [Kmz h hx hy]
   simp only [bs]
   rw [Ks6 hb (Kmu h hx hy),Ks6 hb hx,Ks6 hb hy]
   simp only [bs,Kn0 h hx hy,sLe h hx hy]
   rw [Ks6 hb (Kmv h hx hy)]
   simp only [bs]
   unfold vwC
   generalize inG b (pl s n x y)=p
   generalize inG b (ti s n x y)=q
   generalize inG b x=u
   generalize inG b y=v
   generalize le s n x y=w
   cases u <;> cases v <;> cases p <;> cases q <;> cases w <;> rfl
  ·cases vwC s n b x y <;> rfl
theorem Ksb {b:List Bool} (hb:b.length=n):∀ (k x:Nat),x + k=n→Kay (s,b,(x:Int))=some (if (List.range' x k).all (fun x=>(List.range' 0 n).all fun y=>vwC s n b x y) then .inl () else .inr false):=by
 have hhi:=h.hi
 intro k
 induction k with
 | zero =>
  intro x hm
  rw [Kay.eq_def]
  simp only
  rw [h.size,Kmq (by omega)]
  rfl
 | succ k ih =>
  intro x hm
  have ih:=ih (x + 1) (by omega)
  have hl:=Ksa h hb (x:=x) (by omega) n 0 (by omega)
  rw [show ((0:Nat):Int)=0 from rfl] at hl
  rw [Kay.eq_def]
  simp only
  rw [h.size,Kmp (by omega),if_pos rfl,Kmo (by omega),List.range'_succ,List.all_cons,hl,bs,ih]
  cases (List.range' 0 n).all (fun y=>vwC s n b x y) <;> rfl
theorem Ksc {b:List Bool} (hb:b.length=n):Kb1 (s,b)=some (vwI s n b):=by
 have hlo:=h.lo
 unfold Kb1 vwI
 simp only
 have hl:=Ksb h hb n 0 (by omega)
 rw [show ((0:Nat):Int)=0 from rfl] at hl
 have h0:=Ks6 hb (a:=0) (by omega)
 have h1:=Ks6 hb (a:=1) (by omega)
 rw [show ((0:Nat):Int)=0 from rfl] at h0
 rw [show ((1:Nat):Int)=1 from rfl] at h1
 rw [h0,h1,hl]
 cases inG b 0 <;> cases inG b 1 <;> cases (List.range' 0 n).all (fun x=>(List.range' 0 n).all fun y=>vwC s n b x y) <;> rfl
theorem Ksd (v:List Int) (hv:v.length ≤ 1099511627776):∀ (l:List Int) (i:Nat) (b:List Bool),v.drop i=l→b.length=n →
  Kgn (s,v,b,(i:Int))=some (if Ks7 n (if i=0 then none else v[i - 1]?) l then .inl (vIn l b) else .inr false):=by
 have hhi:=h.hi
 intro l
 induction l with
 | nil =>
  intro i b hd hb
  rw [Kgn.eq_def]
  simp only
  rw [Kmq (Knt hd)]; simp [Ks7,vIn]
 | cons g l ih =>
  intro i b hd hb
  obtain ⟨hi,hx,hd'⟩:=Kns hd
  have hg:v[i]?=some g:=by rw [Kmn hi] at hx; rw [List.getElem?_eq_getElem hi]; exact hx
  rw [Kgn.eq_def]
  simp only
  rw [Kmp hi,if_pos rfl,hx]
  simp only [bs]
  refine (Kom (x:=!(inB g 0 ((n:Int) - 1) && (match (if i=0 then none else v[i - 1]?) with | none=>true | some q=>!decide (g ≤ q)))) ?_).trans ?_
  ·rw [Kqb h,sIn,bs]
   cases inB g 0 ((n:Int) - 1)
   ·rfl
   ·by_cases h0:i=0
    ·subst h0; rfl
    ·have hp:i - 1 < v.length:=by omega
     rw [if_pos rfl,decide_eq_true (by omega:(i:Int) > 0),if_pos rfl,Kmm (by omega) (by omega),show (i:Int) - 1=((i - 1:Nat):Int) by omega,Kmn hp,bs,if_neg h0,List.getElem?_eq_getElem hp]
     simp
  ·rw [Ks8]
   cases hc:(inB g 0 ((n:Int) - 1) && (match (if i=0 then none else v[i - 1]?) with | none=>true | some q=>!decide (g ≤ q)))
   ·rfl
   ·rw [Bool.and_eq_true] at hc
    obtain ⟨e1,l1⟩:=Kqa hc.1
    rw [Bool.not_true,if_neg (by decide),Bool.true_and]
    have hidx:idx b g=some (inG b g.toNat):=by rw [e1,Ks6 hb l1,Int.toNat_natCast]
    simp only [bs,hidx]
    rw [Kmo (by omega),ih (i + 1) _ hd' (by simpa using hb),if_neg (by omega:¬ i + 1=0),Nat.add_sub_cancel,hg,vIn]
end
theorem Kse (s:K00) (v:List Int) (hv:v.length ≤ 1099511627776):Kgq (s,v)=some (Kq6 s && Ks7 s.fSize.toNat none v && vwI s s.fSize.toNat (vIn v (List.replicate s.fSize.toNat false))):=by
 unfold Kgq
 simp only
 rw [Kq8,bs]
 cases hs:Kq6 s
 ·rfl
 ·have T:=Kq7 hs
  have hsz:=T.size
  have hhi:=T.hi
  rw [if_pos rfl,Ks4 (by omega),bs]
  have hl:=Ksd T v hv v 0 (List.replicate s.fSize.toNat false) rfl (by simp)
  rw [show ((0:Nat):Int)=0 from rfl,if_pos rfl] at hl
  rw [hl,bs]
  cases Ks7 s.fSize.toNat none v
  ·rfl
  ·simp only [if_true]
   rw [Ksc T (by rw [Ks9]; simp),bs]; rfl
section
variable {s:K00} {n:Nat} (h:Tab s n)
include h
theorem Ksf {b:List Bool} (hb:b.length=n) {x:Nat} (hx:x < n):∀ (k y:Nat),y + k=n→Kea (s,b,(x:Int),(y:Int))=some (if (List.range' y k).all (fun y=>vwC s n b x y) then .inl () else .inr false):=by
 have hhi:=h.hi
 intro k
 induction k with
 | zero =>
  intro y hm
  rw [Kea.eq_def]
  simp only
  rw [h.size,Kmq (by omega)]
  rfl
 | succ k ih =>
  intro y hm
  have hy:y < n:=by omega
  have ih:=ih (y + 1) (by omega)
  rw [Kea.eq_def]
  simp only
  rw [h.size,Kmp (by omega),if_pos rfl,Kmo (by omega),List.range'_succ,List.all_cons,ih]
  refine (Kom (x:=!vwC s n b x y) ?_).trans ?_
  ·rw [Kn1 h hx hy]
   simp only [bs]
   rw [Ks6 hb (Kmu h hx hy),Ks6 hb hx,Ks6 hb hy]
   simp only [bs,Kn2 h hx hy,iLe h hx hy]
   rw [Ks6 hb (Kmv h hx hy)]
   simp only [bs]
   unfold vwC
   generalize inG b (pl s n x y)=p
   generalize inG b (ti s n x y)=q
   generalize inG b x=u
   generalize inG b y=v
   generalize le s n x y=w
   cases u <;> cases v <;> cases p <;> cases q <;> cases w <;> rfl
  ·cases vwC s n b x y <;> rfl
theorem Ksg {b:List Bool} (hb:b.length=n):∀ (k x:Nat),x + k=n→Kef (s,b,(x:Int))=some (if (List.range' x k).all (fun x=>(List.range' 0 n).all fun y=>vwC s n b x y) then .inl () else .inr false):=by
 have hhi:=h.hi
 intro k
 induction k with
 | zero =>
  intro x hm
  rw [Kef.eq_def]
  simp only
  rw [h.size,Kmq (by omega)]
  rfl
 | succ k ih =>
  intro x hm
  have ih:=ih (x + 1) (by omega)
  have hl:=Ksf h hb (x:=x) (by omega) n 0 (by omega)
  rw [show ((0:Nat):Int)=0 from rfl] at hl
  rw [Kef.eq_def]
  simp only
  rw [h.size,Kmp (by omega),if_pos rfl,Kmo (by omega),List.range'_succ,List.all_cons,hl,bs,ih]
  cases (List.range' 0 n).all (fun y=>vwC s n b x y) <;> rfl
theorem Ksh {b:List Bool} (hb:b.length=n):Kei (s,b)=some (vwI s n b):=by
 have hlo:=h.lo
 unfold Kei vwI
 simp only
 have hl:=Ksg h hb n 0 (by omega)
 rw [show ((0:Nat):Int)=0 from rfl] at hl
 have h0:=Ks6 hb (a:=0) (by omega)
 have h1:=Ks6 hb (a:=1) (by omega)
 rw [show ((0:Nat):Int)=0 from rfl] at h0
 rw [show ((1:Nat):Int)=1 from rfl] at h1
 rw [h0,h1,hl]
 cases inG b 0 <;> cases inG b 1 <;> cases (List.range' 0 n).all (fun x=>(List.range' 0 n).all fun y=>vwC s n b x y) <;> rfl
theorem Ksi (v:List Int) (hv:v.length ≤ 1099511627776):∀ (l:List Int) (i:Nat) (b:List Bool),v.drop i=l→b.length=n →
  Kem (s,v,b,(i:Int))=some (if Ks7 n (if i=0 then none else v[i - 1]?) l then .inl (vIn l b) else .inr false):=by
 have hhi:=h.hi
 intro l
 induction l with
 | nil =>
  intro i b hd hb
  rw [Kem.eq_def]
  simp only
  rw [Kmq (Knt hd)]; simp [Ks7,vIn]
 | cons g l ih =>
  intro i b hd hb
  obtain ⟨hi,hx,hd'⟩:=Kns hd
  have hg:v[i]?=some g:=by rw [Kmn hi] at hx; rw [List.getElem?_eq_getElem hi]; exact hx
  rw [Kem.eq_def]
  simp only
  rw [Kmp hi,if_pos rfl,hx]
  simp only [bs]
  refine (Kom (x:=!(inB g 0 ((n:Int) - 1) && (match (if i=0 then none else v[i - 1]?) with | none=>true | some q=>!decide (g ≤ q)))) ?_).trans ?_
  ·rw [Kr0,Kr5 h,bs]
   cases inB g 0 ((n:Int) - 1)
   ·rfl
   ·by_cases h0:i=0
    ·subst h0; rfl
    ·have hp:i - 1 < v.length:=by omega
     rw [if_pos rfl,decide_eq_true (by omega:(i:Int) > 0),if_pos rfl,Kmm (by omega) (by omega),show (i:Int) - 1=((i - 1:Nat):Int) by omega,Kmn hp,bs,if_neg h0,List.getElem?_eq_getElem hp]
     simp
  ·rw [Ks8]
   cases hc:(inB g 0 ((n:Int) - 1) && (match (if i=0 then none else v[i - 1]?) with | none=>true | some q=>!decide (g ≤ q)))
   ·rfl
   ·rw [Bool.and_eq_true] at hc
    obtain ⟨e1,l1⟩:=Kqa hc.1
    rw [Bool.not_true,if_neg (by decide),Bool.true_and]
    have hidx:idx b g=some (inG b g.toNat):=by rw [e1,Ks6 hb l1,Int.toNat_natCast]
    rw [hidx,bs]
    rw [Kmo (by omega),ih (i + 1) _ hd' (by simpa using hb),if_neg (by omega:¬ i + 1=0),Nat.add_sub_cancel,hg,vIn]
end
theorem Ksj (s:K00) (v:List Int) (hv:v.length ≤ 1099511627776):Kep (s,v)=some (Kq6 s && Ks7 s.fSize.toNat none v && vwI s s.fSize.toNat (vIn v (List.replicate s.fSize.toNat false))):=by
 unfold Kep
 simp only
 rw [Kq9,bs]
 cases hs:Kq6 s
 ·rfl
 ·have T:=Kq7 hs
  have hsz:=T.size
  have hhi:=T.hi
  rw [if_pos rfl,Ks4 (by omega),bs]
  have hl:=Ksi T v hv v 0 (List.replicate s.fSize.toNat false) rfl (by simp)
  rw [show ((0:Nat):Int)=0 from rfl,if_pos rfl] at hl
  rw [hl,bs]
  cases Ks7 s.fSize.toNat none v
  ·rfl
  ·simp only [if_true]
   rw [Ksh T (by rw [Ks9]; simp),bs]; rfl
def vwB (s:K00) (v:List Int):Bool:=Kq6 s && Ks7 s.fSize.toNat none v && vwI s s.fSize.toNat (vIn v (List.replicate s.fSize.toNat false))
theorem sVw (s:K00) (v:List Int) (hv:v.length ≤ 1099511627776):Kgq (s,v)=some (vwB s v):=Kse s v hv
theorem iVw (s:K00) (v:List Int) (hv:v.length ≤ 1099511627776):Kep (s,v)=some (vwB s v):=Ksj s v hv
theorem Ksk (l:List Int) (n:Int) (hl:l.length ≤ 1099511627776):∀ (m:List Int) (i:Nat),l.drop i=m→Kia (l,n,(i:Int))=some (if m.contains n then .inr true else .inl ()):=by
 intro m
 induction m with
 | nil =>
  intro i hd
  rw [Kia.eq_def]
  simp only
  rw [Kmq (Knt hd)]; rfl
 | cons x m ih =>
  intro i hd
  obtain ⟨hi,hx,hd'⟩:=Kns hd
  rw [Kia.eq_def]
  simp only
  rw [Kmp hi,if_pos rfl,hx,bs,Kmo (by omega),ih (i + 1) hd',List.contains_cons,show (n == x)=(x == n) from by rw [Bool.eq_iff_iff]; simp; exact eq_comm]
  cases x == n <;> simp
theorem Ksl (l:List Int) (n:Int) (hl:l.length ≤ 1099511627776):Kid (l,n)=some (l.contains n):=by
 unfold Kid
 simp only
 rw [show (0:Int)=((0:Nat):Int) from rfl,Ksk l n hl l 0 rfl,bs]
 cases l.contains n <;> rfl
theorem Ksm (l:List Int) (n:Int) (hl:l.length ≤ 1099511627776):∀ (m:List Int) (i:Nat),l.drop i=m→∃ r,Kg5 (l,n,(i:Int))=some r∧(match r with | .inl _=>m.contains n=false | .inr k=>m.contains n=true∧0 ≤ k):=by
 intro m
 induction m with
 | nil =>
  intro i hd
  rw [Kg5.eq_def]
  simp only
  rw [Kmq (Knt hd)]
  exact ⟨_,rfl,rfl⟩
 | cons x m ih =>
  intro i hd
  obtain ⟨hi,hx,hd'⟩:=Kns hd
  rw [Kg5.eq_def]
  simp only
  rw [Kmp hi,if_pos rfl,hx,bs,Kmo (by omega),List.contains_cons]
  cases n == x
  ·obtain ⟨r,h1,h2⟩:=ih (i + 1) hd'
   exact ⟨r,by rw [if_neg (by decide)]; exact h1,by simpa using h2⟩
  ·exact ⟨.inr (i:Int),rfl,by simp⟩
theorem Ksn (l:List Int) (n:Int) (hl:l.length ≤ 1099511627776):Kgb (l,n)=some (l.contains n):=by
 unfold Kgb Kg8
 simp only
 obtain ⟨r,h1,h2⟩:=Ksm l n hl l 0 rfl
 rw [show (0:Int)=((0:Nat):Int) from rfl,h1,bs]
 cases r with
 | inl u=>simp only at h2; rw [h2]; rfl
 | inr m=>simp only at h2; rw [h2.1]; simp [bs,h2.2]
def Kso (v:List Int):Ty→Int
 | .num=>3
 | .bin c a b=>if c=1 then wr (Kso v a * Kso v b) else wr (Kso v a + Kso v b)
 | .un c a=>if v.contains (Koh c) then Kso v a else 1
theorem Ksp (v:List Int) (hv:v.length ≤ 1099511627776) (T:Ty):T.ok→T.dat→T.code.length ≤ 1048576→Kig (v,T.code)=some (Kso v T):=by
 induction T with
 | num=>intro _ _ _; rw [Kig.eq_def]; rfl
 | bin c a b iha ihb =>
  intro h hd hl
  have P:=Krz h hl
  have la:=P.la
  have ha:=iha P.ok.1 hd.2.1 (by omega)
  have hb:=ihb P.ok.2 hd.2.2 (by omega)
  rw [Ty.code,Kig.eq_def]
  simp only
  rw [Krf,bs,P.p0,P.p1,Kso]
  simp only [bs,ha,hb]
  rcases hd.1 with rfl | rfl <;> rfl
 | un c a ih =>
  intro h hd hl
  have P:=unP h hl
  have la:=P.la
  have ha:=ih P.ok hd (by omega)
  obtain ⟨h0,h1,h2,e⟩:=Krx h.1
  rw [Ty.code,Kig.eq_def]
  simp only
  rw [Krf,bs,P.p0,Kso]
  simp only [bs,ha]
  rw [beq_eq_false_iff_ne.2 h0.1,beq_eq_false_iff_ne.2 h0.2.1,beq_eq_false_iff_ne.2 h0.2.2,Koj (by rw [h.1]; decide),bs,Ksl v _ hv,bs]
  cases v.contains (Koh c) <;> rfl
theorem Ksq (v:List Int) (hv:v.length ≤ 1099511627776) (T:Ty):T.ok→T.dat→T.code.length ≤ 1048576→Kgg (v,T.code)=some (Kso v T):=by
 induction T with
 | num=>intro _ _ _; rw [Kgg.eq_def,Ty.code]; simp only; rw [Ks0]; rfl
 | bin c a b iha ihb =>
  intro h hd hl
  have P:=Krz h hl
  have la:=P.la
  have ha:=iha P.ok.1 hd.2.1 (by omega)
  have hb:=ihb P.ok.2 hd.2.2 (by omega)
  rw [Ty.code,Kgg.eq_def]
  simp only
  rw [Krf,bs,P.pp,Kso,Ko2,bs]
  rcases hd.1 with rfl | rfl
  ·rw [show Ko1 1=(1,-1) from rfl]; simp only [bs,Krf,Krg,ha,hb]; rfl
  ·rw [show Ko1 2=(2,-1) from rfl]; simp only [bs,Krf,Krg,ha,hb]; rfl
 | un c a ih =>
  intro h hd hl
  have P:=unP h hl
  have la:=P.la
  have ha:=ih P.ok hd (by omega)
  obtain ⟨h0,h1,h2,e⟩:=Krx h.1
  rw [Ty.code,Kgg.eq_def]
  simp only
  rw [Krf,bs,P.pp,Kso,Ko2,bs,e]
  simp only [bs,Krf,ha,Ksn v _ hv]
  cases v.contains (Koh c) <;> rfl
theorem Ksr (s:K00) (v ty:List Int) (hs:sms s ≤ 1048576) (hv:v.length ≤ 1048576) (hty:ty.length ≤ 1048576):∃ w,Kij (s,v,ty)=some w∧Kgj (s,v,ty)=some w:=by
 unfold Kij Kgj
 simp only
 rw [sVw s v (by omega),iVw s v (by omega)]
 cases vwB s v
 ·exact ⟨-1,rfl,rfl⟩
 ·rcases Kro s ty hty with ⟨T,h1,h2,h3,h4,_,h5,h6⟩ | ⟨_,h5,h6⟩
  ·rw [h5,h6]
   simp only [bs,if_true]
   by_cases q:Krd T > 300
   ·rw [if_pos q]; exact ⟨-1,rfl,rfl⟩
   ·rw [if_neg q,decide_eq_false (by omega),if_neg (by decide)]
    subst h3
    exact ⟨Kso v T,by rw [Ksp v (by omega) T h1 h2 (by omega)]; rfl,by rw [Ksq v (by omega) T h1 h2 (by omega)]; rfl⟩
  ·rw [h5,h6]; exact ⟨-1,rfl,rfl⟩
end Go.Am
