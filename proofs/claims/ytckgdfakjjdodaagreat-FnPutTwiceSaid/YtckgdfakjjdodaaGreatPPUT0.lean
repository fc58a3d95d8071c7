/- Plain laws of the printed functions. -/
import Derived.Test.YtckgdfakjjdodaaGreatPPUTx
set_option linter.unusedSimpArgs false
set_option linter.unusedVariables false
namespace Go.Am
theorem Ko2 {x:Int} (h1:-9223372036854775808 ≤ x) (h2:x ≤ 9223372036854775807):wr x=x:=by
 unfold wr IntKind.wrap
 simp [IntKind.bits,IntKind.signed]
 omega
theorem Ko3 {α:Type} {l:List α} {n:Nat} (h:n < l.length):idx l (n:Int)=some l[n]:=by
 unfold idx
 rw [if_pos (by omega)]
 simp [h]
theorem bs {α β:Type} (a:α) (f:α→Option β):(some a >>= f)=f a:=rfl
theorem Ko4 {n:Nat} (h:n < 9223372036854775807):wr ((n:Int) + 1)=((n + 1:Nat):Int):=by
 rw [Ko2 (by omega) (by omega)]; omega
theorem Ko5 {n m:Nat} (h:n < m):decide ((n:Int) < (m:Int))=true:=decide_eq_true (by omega)
theorem Ko6 {n m:Nat} (h:m ≤ n):decide ((n:Int) < (m:Int))=false:=decide_eq_false (by omega)
theorem Ko7 {a:Int}:(a != a)=false:=by simp
structure Tab (s:K02) (n:Nat):Prop where
 size:s.fSize=(n:Int)
 lo:2 ≤ n
 hi:n ≤ 16
 lp:s.fPlus.length=n * n
 lt:s.fTimes.length=n * n
 lb:s.fBelow.length=n * n
 rp:∀ i (h:i < s.fPlus.length),0 ≤ s.fPlus[i]∧s.fPlus[i] < (n:Int)
 rt:∀ i (h:i < s.fTimes.length),0 ≤ s.fTimes[i]∧s.fTimes[i] < (n:Int)
def pl (s:K02) (n a b:Nat):Nat:=(s.fPlus.getD (a * n + b) 0).toNat
def ti (s:K02) (n a b:Nat):Nat:=(s.fTimes.getD (a * n + b) 0).toNat
def le (s:K02) (n a b:Nat):Bool:=s.fBelow.getD (a * n + b) false
theorem Ko8 {n a b:Nat} (ha:a < n) (hb:b < n):a * n + b < n * n:=by
 have:(a + 1) * n ≤ n * n:=Nat.mul_le_mul_right _ (by omega)
 rw [Nat.add_mul,Nat.one_mul] at this
 omega
theorem Ko9 {n a b:Nat} (hn:n ≤ 16) (ha:a < n) (hb:b < n):wr ((wr ((a:Int) * (n:Int))) + (b:Int))=((a * n + b:Nat):Int):=by
 have h1:a * n ≤ 256:=Nat.le_trans (Nat.mul_le_mul (by omega:a ≤ 16) hn) (by decide)
 have e:(a:Int) * (n:Int)=((a * n:Nat):Int):=by simp
 rw [e]
 generalize a * n=m at h1
 rw [Ko2 (x:=(m:Int)) (by omega) (by omega),Ko2 (by omega) (by omega)]
 omega
section
variable {s:K02} {n:Nat} (h:Tab s n)
include h
theorem Koa {a b:Nat} (ha:a < n) (hb:b < n):pl s n a b < n:=by
 have hl:a * n + b < s.fPlus.length:=by rw [h.lp]; exact Ko8 ha hb
 unfold pl
 rw [List.getD_eq_getElem?_getD,List.getElem?_eq_getElem hl]
 have:=h.rp _ hl
 simp only [Option.getD_some]
 omega
theorem Kob {a b:Nat} (ha:a < n) (hb:b < n):ti s n a b < n:=by
 have hl:a * n + b < s.fTimes.length:=by rw [h.lt]; exact Ko8 ha hb
 unfold ti
 rw [List.getD_eq_getElem?_getD,List.getElem?_eq_getElem hl]
 have:=h.rt _ hl
 simp only [Option.getD_some]
 omega
theorem Koc {a b:Nat} (ha:a < n) (hb:b < n):idx s.fPlus ((a * n + b:Nat):Int)=some ((pl s n a b:Nat):Int):=by
 have hl:a * n + b < s.fPlus.length:=by rw [h.lp]; exact Ko8 ha hb
 rw [Ko3 hl]
 unfold pl
 rw [List.getD_eq_getElem?_getD,List.getElem?_eq_getElem hl]
 have:=h.rp _ hl
 simp only [Option.getD_some]
 congr 1
 omega
theorem Kod {a b:Nat} (ha:a < n) (hb:b < n):idx s.fTimes ((a * n + b:Nat):Int)=some ((ti s n a b:Nat):Int):=by
 have hl:a * n + b < s.fTimes.length:=by rw [h.lt]; exact Ko8 ha hb
 rw [Ko3 hl]
 unfold ti
 rw [List.getD_eq_getElem?_getD,List.getElem?_eq_getElem hl]
 have:=h.rt _ hl
 simp only [Option.getD_some]
 congr 1
 omega
theorem Koe {a b:Nat} (ha:a < n) (hb:b < n):idx s.fBelow ((a * n + b:Nat):Int)=some (le s n a b):=by
 have hl:a * n + b < s.fBelow.length:=by rw [h.lb]; exact Ko8 ha hb
 rw [Ko3 hl]
 unfold le
 rw [List.getD_eq_getElem?_getD,List.getElem?_eq_getElem hl]
 rfl
theorem Kof {a b:Nat} (ha:a < n) (hb:b < n):K9p (s,(a:Int),(b:Int))=some ((pl s n a b:Nat):Int):=by
 unfold K9p
 simp only
 rw [h.size,Ko9 h.hi ha hb,Koc h ha hb,bs]
theorem Kog {a b:Nat} (ha:a < n) (hb:b < n):K9s (s,(a:Int),(b:Int))=some ((ti s n a b:Nat):Int):=by
 unfold K9s
 simp only
 rw [h.size,Ko9 h.hi ha hb,Kod h ha hb,bs]
theorem sLe {a b:Nat} (ha:a < n) (hb:b < n):K9v (s,(a:Int),(b:Int))=some (le s n a b):=by
 unfold K9v
 simp only
 rw [h.size,Ko9 h.hi ha hb,Koe h ha hb,bs]
theorem Koh {a b:Nat} (ha:a < n) (hb:b < n):Kmi (s,(a:Int),(b:Int))=some ((pl s n a b:Nat):Int):=by
 unfold Kmi
 simp only
 rw [h.size,Ko9 h.hi ha hb,Koc h ha hb,bs]
theorem Koi {a b:Nat} (ha:a < n) (hb:b < n):Kmj (s,(a:Int),(b:Int))=some ((ti s n a b:Nat):Int):=by
 unfold Kmj
 simp only
 rw [h.size,Ko9 h.hi ha hb,Kod h ha hb,bs]
theorem iLe {a b:Nat} (ha:a < n) (hb:b < n):Kmk (s,(a:Int),(b:Int))=some (le s n a b):=by
 unfold Kmk
 simp only
 rw [h.size,Ko9 h.hi ha hb,Koe h ha hb,bs]
end
theorem Koj (x y:Nat):(((x:Nat):Int) == ((y:Nat):Int))=(x == y):=by
 cases hb:(x == y) with
 | true=>have:=eq_of_beq hb; subst this; simp
 | false=>simp at hb ⊢; omega
theorem Kok (x y:Nat):(((x:Nat):Int) != ((y:Nat):Int))=(x != y):=by
 simp only [bne,Koj]
def Kol (s:K02) (n a:Nat):Bool:=(pl s n 0 a == a) && (ti s n 1 a == a) && (ti s n a 1 == a) && (ti s n 0 a == 0) && (ti s n a 0 == 0) && le s n a a
def Kom (s:K02) (n a b c:Nat):Bool :=
 (pl s n (pl s n a b) c == pl s n a (pl s n b c)) && (ti s n (ti s n a b) c == ti s n a (ti s n b c)) &&
 (ti s n a (pl s n b c) == pl s n (ti s n a b) (ti s n a c)) && (ti s n (pl s n a b) c == pl s n (ti s n a c) (ti s n b c)) &&
 (!(le s n a b) || ((!(le s n b c) || le s n a c) && le s n (pl s n a c) (pl s n b c) && le s n (ti s n a c) (ti s n b c) && le s n (ti s n c a) (ti s n c b)))
section
variable {s:K02} {n:Nat} (h:Tab s n)
include h
theorem Kon {a:Nat} (ha:a < n):K9y (s,(a:Int))=some (Kol s n a):=by
 have l0:(0:Nat) < n:=by have:=h.lo; omega
 have l1:(1:Nat) < n:=by have:=h.lo; omega
 have e0:(0:Int)=((0:Nat):Int):=rfl
 have e1:(1:Int)=((1:Nat):Int):=rfl
 unfold K9y Kol
 simp only
 rw [e0,e1]
 simp only [Kof h l0 ha,Kog h l1 ha,Kog h ha l1,Kog h l0 ha,Kog h ha l0,sLe h ha ha,bs,Koj]
 generalize (pl s n 0 a == a)=b1
 generalize (ti s n 1 a == a)=b2
 generalize (ti s n a 1 == a)=b3
 generalize (ti s n 0 a == 0)=b4
 generalize (ti s n a 0 == 0)=b5
 generalize le s n a a=b6
 cases b1 <;> cases b2 <;> cases b3 <;> cases b4 <;> cases b5 <;> cases b6 <;> rfl
theorem Koo {a b c:Nat} (ha:a < n) (hb:b < n) (hc:c < n):Kaf (s,(a:Int),(b:Int),(c:Int))=some (Kom s n a b c):=by
 unfold Kaf Kom
 simp only
 simp only [Kof h,Kog h,sLe h,Koa h,Kob h,ha,hb,hc,bs,Kok]
 generalize e1:pl s n (pl s n a b) c=x1
 generalize e2:pl s n a (pl s n b c)=x2
 generalize e3:ti s n (ti s n a b) c=x3
 generalize e4:ti s n a (ti s n b c)=x4
 generalize ti s n a (pl s n b c)=x5
 generalize pl s n (ti s n a b) (ti s n a c)=x6
 generalize ti s n (pl s n a b) c=x7
 generalize pl s n (ti s n a c) (ti s n b c)=x8
 generalize le s n (pl s n a c) (pl s n b c)=y1
 generalize le s n (ti s n a c) (ti s n b c)=y2
 generalize le s n (ti s n c a) (ti s n c b)=y3
 generalize le s n a b=y4
 generalize le s n b c=y5
 generalize le s n a c=y6
 simp only [bne]
 generalize (x1 == x2)=b1
 generalize (x3 == x4)=b2
 generalize (x5 == x6)=b3
 generalize (x7 == x8)=b4
 cases b1 <;> cases b2 <;> cases b3 <;> cases b4 <;> first | rfl | (cases y4 <;> cases y5 <;> cases y6 <;> cases y1 <;> cases y2 <;> cases y3 <;> rfl)
theorem Kop {a b c:Nat} (ha:a < n) (hb:b < n) (hc:c < n):Kmo (s,(a:Int),(b:Int),(c:Int))=some (Kom s n a b c):=by
 unfold Kmo Kom
 simp only
 simp only [Koh h,Koi h,iLe h,Koa h,Kob h,ha,hb,hc,bs,Kok]
 generalize e1:pl s n (pl s n a b) c=x1
 generalize e2:pl s n a (pl s n b c)=x2
 generalize e3:ti s n (ti s n a b) c=x3
 generalize e4:ti s n a (ti s n b c)=x4
 generalize ti s n a (pl s n b c)=x5
 generalize pl s n (ti s n a b) (ti s n a c)=x6
 generalize ti s n (pl s n a b) c=x7
 generalize pl s n (ti s n a c) (ti s n b c)=x8
 generalize le s n (pl s n a c) (pl s n b c)=y1
 generalize le s n (ti s n a c) (ti s n b c)=y2
 generalize le s n (ti s n c a) (ti s n c b)=y3
 generalize le s n a b=y4
 generalize le s n b c=y5
 generalize le s n a c=y6
 simp only [bne]
 generalize (x1 == x2)=b1
 generalize (x3 == x4)=b2
 generalize (x5 == x6)=b3
 generalize (x7 == x8)=b4
 cases b1 <;> cases b2 <;> cases b3 <;> cases b4 <;> first | rfl | (cases y4 <;> cases y5 <;> cases y6 <;> cases y1 <;> cases y2 <;> cases y3 <;> rfl)
end
def Koq (s:K02) (n a b g h:Nat):Bool:=!le s n a h || !le s n b h || le s n g h
def jok (s:K02) (n a b g:Nat):Bool:=le s n a g && le s n b g && (List.range' 0 n).all (Koq s n a b g)
def Kor (s:K02) (n a b:Nat):Int:=match (List.range' 0 n).find? (jok s n a b) with | some g=>(g:Int) | none=>-1
section
variable {s:K02} {n:Nat} (h:Tab s n)
include h
theorem Kos {a b g:Nat} (ha:a < n) (hb:b < n) (hg:g < n):∀ (k m:Nat) (ok:Bool),m + k=n→Ka2 (s,(a:Int),(b:Int),(g:Int),ok,(m:Int))=some (ok && (List.range' m k).all (Koq s n a b g)):=by
 have hhi:=h.hi
 intro k
 induction k with
 | zero =>
  intro m ok hm
  rw [Ka2.eq_def]
  simp only
  rw [h.size,Ko6 (by omega)]
  simp [bs]
 | succ k ih =>
  intro m ok hm
  rw [Ka2.eq_def]
  simp only
  rw [h.size,Ko5 (by omega),if_pos rfl,bs,sLe h ha (by omega),sLe h hb (by omega),sLe h hg (by omega)]
  cases ok with
  | false=>rfl
  | true =>
   rw [if_pos rfl]
   rw [List.range'_succ,List.all_cons]
   have ih:∀ ok,_:=fun ok=>ih (m + 1) ok (by omega)
   rw [Ko4 (by omega)]
   generalize ((m + 1:Nat):Int)=M at ih ⊢
   simp only [bs,Koq]
   cases le s n a m <;> cases le s n b m <;> cases le s n g m <;> simp [bs,ih,Koq]
theorem Kot {a b g:Nat} (ha:a < n) (hb:b < n) (hg:g < n):∀ (k m:Nat) (ok:Bool),m + k=n→Kml (s,(a:Int),(b:Int),(g:Int),ok,(m:Int))=some (ok && (List.range' m k).all (Koq s n a b g)):=by
 have hhi:=h.hi
 intro k
 induction k with
 | zero =>
  intro m ok hm
  rw [Kml.eq_def]
  simp only
  rw [h.size,Ko6 (by omega)]
  simp [bs]
 | succ k ih =>
  intro m ok hm
  rw [Kml.eq_def]
  simp only
  rw [h.size,Ko5 (by omega),if_pos rfl,iLe h ha (by omega),iLe h hb (by omega),iLe h hg (by omega)]
  rw [List.range'_succ,List.all_cons]
  have ih:∀ ok,_:=fun ok=>ih (m + 1) ok (by omega)
  rw [Ko4 (by omega)]
  generalize ((m + 1:Nat):Int)=M at ih ⊢
  simp only [bs,Koq]
  cases ok <;> cases le s n a m <;> cases le s n b m <;> cases le s n g m <;> simp [bs,ih,Koq]
theorem Kou {a b:Nat} (ha:a < n) (hb:b < n):∀ (k g:Nat),g + k=n→Ka6 (s,(a:Int),(b:Int),(g:Int))=some (match (List.range' g k).find? (jok s n a b) with | some g=>.inr (g:Int) | none=>.inl ()):=by
 have hhi:=h.hi
 intro k
 induction k with
 | zero =>
  intro g hm
  rw [Ka6.eq_def]
  simp only
  rw [h.size,Ko6 (by omega)]
  rfl
 | succ k ih =>
  intro g hm
  rw [Ka6.eq_def]
  simp only
  rw [h.size,Ko5 (by omega),if_pos rfl,sLe h ha (by omega),sLe h hb (by omega)]
  have ih:=ih (g + 1) (by omega)
  rw [Ko4 (by omega),List.range'_succ,List.find?_cons]
  have hl:=fun ok=>Kos h ha hb (g:=g) (by omega) n 0 ok (by omega)
  rw [show ((0:Nat):Int)=0 from rfl] at hl
  generalize ((g + 1:Nat):Int)=M at ih ⊢
  have hj:jok s n a b g=(le s n a g && le s n b g && (List.range' 0 n).all (Koq s n a b g)):=rfl
  rw [hj]
  cases le s n a g <;> cases le s n b g <;> cases hq:(List.range' 0 n).all (Koq s n a b g) <;> simp [bs,hl,hq,ih]
theorem Kov {a b:Nat} (ha:a < n) (hb:b < n):∀ (k g:Nat),g + k=n→Kmm (s,(a:Int),(b:Int),(g:Int))=some (match (List.range' g k).find? (jok s n a b) with | some g=>.inr (g:Int) | none=>.inl ()):=by
 have hhi:=h.hi
 intro k
 induction k with
 | zero =>
  intro g hm
  rw [Kmm.eq_def]
  simp only
  rw [h.size,Ko6 (by omega)]
  rfl
 | succ k ih =>
  intro g hm
  rw [Kmm.eq_def]
  simp only
  rw [h.size,Ko5 (by omega),if_pos rfl,iLe h ha (by omega),iLe h hb (by omega)]
  have ih:=ih (g + 1) (by omega)
  rw [Ko4 (by omega),List.range'_succ,List.find?_cons]
  have hl:=fun ok=>Kot h ha hb (g:=g) (by omega) n 0 ok (by omega)
  rw [show ((0:Nat):Int)=0 from rfl] at hl
  generalize ((g + 1:Nat):Int)=M at ih ⊢
  have hj:jok s n a b g=(le s n a g && le s n b g && (List.range' 0 n).all (Koq s n a b g)):=rfl
  rw [hj]
  cases le s n a g <;> cases le s n b g <;> cases hq:(List.range' 0 n).all (Koq s n a b g) <;> simp [bs,hl,hq,ih]
theorem Kow {a b:Nat} (ha:a < n) (hb:b < n):Ka9 (s,(a:Int),(b:Int))=some (Kor s n a b):=by
 unfold Ka9 Kor
 simp only
 have:=Kou h ha hb n 0 (by omega)
 rw [show ((0:Nat):Int)=0 from rfl] at this
 rw [this,bs]
 cases (List.range' 0 n).find? (jok s n a b) <;> rfl
theorem Kox {a b:Nat} (ha:a < n) (hb:b < n):Kmn (s,(a:Int),(b:Int))=some (Kor s n a b):=by
 unfold Kmn Kor
 simp only
 have:=Kov h ha hb n 0 (by omega)
 rw [show ((0:Nat):Int)=0 from rfl] at this
 rw [this,bs]
 cases (List.range' 0 n).find? (jok s n a b) <;> rfl
def Koy (s:K02) (n a b:Nat):Bool:=(pl s n a b == pl s n b a) && ((a == b) || !le s n a b || !le s n b a) && decide (Kor s n a b ≥ 0)
omit h in
theorem Koz (x:Int):decide (x < 0)=!decide (x ≥ 0):=by
 by_cases h:x < 0
 ·rw [decide_eq_true h,decide_eq_false (by omega)]; rfl
 ·rw [decide_eq_false h,decide_eq_true (by omega)]; rfl
theorem Kp0 {a b:Nat} (ha:a < n) (hb:b < n):Kac (s,(a:Int),(b:Int))=some (Koy s n a b):=by
 unfold Kac Koy
 simp only
 rw [Kof h ha hb,Kof h hb ha,sLe h ha hb,sLe h hb ha,Kow h ha hb]
 simp only [bs,Koj]
 generalize (pl s n a b == pl s n b a)=b1
 generalize (a == b)=b2
 cases b1 <;> cases b2 <;> cases le s n a b <;> cases le s n b a <;> simp [bs]
end
def inB (x lo hi:Int):Bool:=decide (x ≥ lo) && decide (x ≤ hi)
theorem sIn (x lo hi:Int):K8g (x,lo,hi)=some (inB x lo hi):=by
 unfold K8g inB
 simp only
 cases decide (x ≥ lo) <;> simp [bs]
theorem iIn (x lo hi:Int):Kic (x,lo,hi)=some (inB x lo hi):=by
 unfold Kic inB
 simp only
 cases decide (x ≥ lo) <;> simp [bs]
def Kp1 (s:K02) (n:Nat):Bool:=(List.range' 0 n).all fun a=>Kol s n a && (List.range' 0 n).all fun b=>Koy s n a b && (List.range' 0 n).all fun c=>Kom s n a b c
section
variable {s:K02} {n:Nat} (h:Tab s n)
include h
theorem Kp2 {a b:Nat} (ha:a < n) (hb:b < n):∀ (k c:Nat),c + k=n→Kaj (s,(a:Int),(b:Int),(c:Int))=some (if (List.range' c k).all (fun c=>Kom s n a b c) then .inl () else .inr false):=by
 have hhi:=h.hi
 intro k
 induction k with
 | zero =>
  intro c hm
  rw [Kaj.eq_def]
  simp only
  rw [h.size,Ko6 (by omega)]
  rfl
 | succ k ih =>
  intro c hm
  rw [Kaj.eq_def]
  simp only
  rw [h.size,Ko5 (by omega),if_pos rfl,Koo h ha hb (by omega),bs]
  have ih:=ih (c + 1) (by omega)
  rw [Ko4 (by omega),List.range'_succ,List.all_cons]
  generalize ((c + 1:Nat):Int)=M at ih ⊢
  generalize (List.range' (c + 1) k).all (fun c=>Kom s n a b c)=r at ih ⊢
  cases Kom s n a b c <;> cases r <;> simp [ih]
theorem Kp3 {a b:Nat} (ha:a < n) (hb:b < n):∀ (k c:Nat),c + k=n→Kmq (s,(a:Int),(b:Int),(c:Int))=some (if (List.range' c k).all (fun c=>Kom s n a b c) then .inl () else .inr false):=by
 have hhi:=h.hi
 intro k
 induction k with
 | zero =>
  intro c hm
  rw [Kmq.eq_def]
  simp only
  rw [h.size,Ko6 (by omega)]
  rfl
 | succ k ih =>
  intro c hm
  rw [Kmq.eq_def]
  simp only
  rw [h.size,Ko5 (by omega),if_pos rfl,Kop h ha hb (by omega),bs]
  have ih:=ih (c + 1) (by omega)
  rw [Ko4 (by omega),List.range'_succ,List.all_cons]
  generalize ((c + 1:Nat):Int)=M at ih ⊢
  generalize (List.range' (c + 1) k).all (fun c=>Kom s n a b c)=r at ih ⊢
  cases Kom s n a b c <;> cases r <;> simp [ih]
theorem Kp4 {a:Nat} (ha:a < n):∀ (k b:Nat),b + k=n→Kap (s,(a:Int),(b:Int))=some (if (List.range' b k).all (fun b=>Koy s n a b && (List.range' 0 n).all fun c=>Kom s n a b c) then .inl () else .inr false):=by
 have hhi:=h.hi
 intro k
 induction k with
 | zero =>
  intro c hm
  rw [Kap.eq_def]
  simp only
  rw [h.size,Ko6 (by omega)]
  rfl
 | succ k ih =>
  intro b hm
  rw [Kap.eq_def]
  simp only
  have hl:=Kp2 h ha (b:=b) (by omega) n 0 (by omega)
  rw [show ((0:Nat):Int)=0 from rfl] at hl
  rw [h.size,Ko5 (by omega),if_pos rfl,Kp0 h ha (by omega),bs,hl]
  have ih:=ih (b + 1) (by omega)
  rw [Ko4 (by omega),List.range'_succ,List.all_cons]
  generalize ((b + 1:Nat):Int)=M at ih ⊢
  generalize (List.range' (b + 1) k).all (fun b=>Koy s n a b && (List.range' 0 n).all fun c=>Kom s n a b c)=r at ih ⊢
  cases Koy s n a b <;> cases (List.range' 0 n).all (fun c=>Kom s n a b c) <;> cases r <;> simp [ih,bs]
theorem Kp5 {a:Nat} (ha:a < n):∀ (k b:Nat),b + k=n→Kmr (s,(a:Int),(b:Int))=some (if (List.range' b k).all (fun b=>Koy s n a b && (List.range' 0 n).all fun c=>Kom s n a b c) then .inl () else .inr false):=by
 have hhi:=h.hi
 intro k
 induction k with
 | zero =>
  intro c hm
  rw [Kmr.eq_def]
  simp only
  rw [h.size,Ko6 (by omega)]
  rfl
 | succ k ih =>
  intro b hm
  have hb:b < n:=by omega
  rw [Kmr.eq_def]
  simp only
  have hl:=Kp3 h ha (b:=b) (by omega) n 0 (by omega)
  rw [show ((0:Nat):Int)=0 from rfl] at hl
  rw [h.size,Ko5 (by omega),if_pos rfl,Koh h ha hb,Koh h hb ha,iLe h ha hb,iLe h hb ha,Kox h ha hb,hl]
  have ih:=ih (b + 1) (by omega)
  rw [Ko4 (by omega),List.range'_succ,List.all_cons]
  generalize ((b + 1:Nat):Int)=M at ih ⊢
  generalize (List.range' (b + 1) k).all (fun b=>Koy s n a b && (List.range' 0 n).all fun c=>Kom s n a b c)=r at ih ⊢
  simp only [bs,Kok,Koz]
  cases h1:(pl s n a b == pl s n b a) <;> cases h2:(a == b) <;> cases h3:decide (Kor s n a b ≥ 0) <;> cases h4:le s n a b <;> cases h5:le s n b a <;> cases h6:(List.range' 0 n).all (fun c=>Kom s n a b c) <;> cases r <;> simp only [Koy,bne,h1,h2,h3,h4,h5,h6,ih,bs,Bool.not_true,Bool.not_false,Bool.true_and,Bool.false_and,Bool.and_true,Bool.and_false,Bool.true_or,Bool.false_or,Bool.or_true,Bool.or_false,if_true,if_false,Bool.false_eq_true]
theorem Kp6:∀ (k a:Nat),a + k=n→Kat (s,(a:Int))=some (if (List.range' a k).all (fun a=>Kol s n a && (List.range' 0 n).all fun b=>Koy s n a b && (List.range' 0 n).all fun c=>Kom s n a b c) then .inl () else .inr false):=by
 have hhi:=h.hi
 intro k
 induction k with
 | zero =>
  intro c hm
  rw [Kat.eq_def]
  simp only
  rw [h.size,Ko6 (by omega)]
  rfl
 | succ k ih =>
  intro a hm
  have ha:a < n:=by omega
  rw [Kat.eq_def]
  simp only
  have hl:=Kp4 h ha n 0 (by omega)
  rw [show ((0:Nat):Int)=0 from rfl] at hl
  rw [h.size,Ko5 (by omega),if_pos rfl,Kon h ha,bs,hl]
  have ih:=ih (a + 1) (by omega)
  rw [Ko4 (by omega),List.range'_succ,List.all_cons]
  generalize ((a + 1:Nat):Int)=M at ih ⊢
  generalize (List.range' (a + 1) k).all (fun a=>Kol s n a && (List.range' 0 n).all fun b=>Koy s n a b && (List.range' 0 n).all fun c=>Kom s n a b c)=r at ih ⊢
  cases Kol s n a <;> cases (List.range' 0 n).all (fun b=>Koy s n a b && (List.range' 0 n).all fun c=>Kom s n a b c) <;> cases r <;> simp [ih,bs]
theorem Kp7:∀ (k a:Nat),a + k=n→Kms (s,(a:Int))=some (if (List.range' a k).all (fun a=>Kol s n a && (List.range' 0 n).all fun b=>Koy s n a b && (List.range' 0 n).all fun c=>Kom s n a b c) then .inl () else .inr false):=by
 have hhi:=h.hi
 have l0:(0:Nat) < n:=by have:=h.lo; omega
 have l1:(1:Nat) < n:=by have:=h.lo; omega
 intro k
 induction k with
 | zero =>
  intro c hm
  rw [Kms.eq_def]
  simp only
  rw [h.size,Ko6 (by omega)]
  rfl
 | succ k ih =>
  intro a hm
  have ha:a < n:=by omega
  rw [Kms.eq_def]
  simp only
  have hl:=Kp5 h ha n 0 (by omega)
  have q1:Kmi (s,0,(a:Int))=_:=Koh h l0 ha
  have q2:Kmj (s,1,(a:Int))=_:=Koi h l1 ha
  have q3:Kmj (s,(a:Int),1)=_:=Koi h ha l1
  have q4:Kmj (s,0,(a:Int))=_:=Koi h l0 ha
  have q5:Kmj (s,(a:Int),0)=_:=Koi h ha l0
  have z1:(((ti s n 0 a:Nat):Int) != 0)=(ti s n 0 a != 0):=Kok _ 0
  have z2:(((ti s n a 0:Nat):Int) != 0)=(ti s n a 0 != 0):=Kok _ 0
  rw [show ((0:Nat):Int)=0 from rfl] at hl
  rw [h.size,Ko5 (by omega),if_pos rfl,q1,q2,q3,q4,q5,iLe h ha ha,hl]
  have ih:=ih (a + 1) (by omega)
  rw [Ko4 (by omega),List.range'_succ,List.all_cons]
  generalize ((a + 1:Nat):Int)=M at ih ⊢
  generalize (List.range' (a + 1) k).all (fun a=>Kol s n a && (List.range' 0 n).all fun b=>Koy s n a b && (List.range' 0 n).all fun c=>Kom s n a b c)=r at ih ⊢
  simp only [bs,Kok,z1,z2]
  cases h1:(pl s n 0 a == a) <;> cases h2:(ti s n 1 a == a) <;> cases h3:(ti s n a 1 == a) <;> cases h4:(ti s n 0 a == 0) <;> cases h5:(ti s n a 0 == 0) <;> cases h6:le s n a a <;> cases h7:(List.range' 0 n).all (fun b=>Koy s n a b && (List.range' 0 n).all fun c=>Kom s n a b c) <;> cases r <;> simp only [Kol,bne,h1,h2,h3,h4,h5,h6,h7,ih,bs,Bool.not_true,Bool.not_false,Bool.true_and,Bool.false_and,Bool.and_true,Bool.and_false,if_true,if_false,Bool.false_eq_true]
end
theorem Kp8 {α:Type} {l r:List α} {x:α} {i:Nat} (h:l.drop i=x :: r):i < l.length∧idx l (i:Int)=some x∧l.drop (i + 1)=r:=by
 have hi:i < l.length:=by
  rcases Nat.lt_or_ge i l.length with h' | h'
  ·exact h'
  ·rw [List.drop_eq_nil_of_le h'] at h; cases h
 have e:=List.drop_eq_getElem_cons hi
 rw [h] at e
 obtain ⟨e1,e2⟩:=List.cons.inj e
 exact ⟨hi,by rw [Ko3 hi,e1],e2.symm⟩
theorem Kp9 {α:Type} {l:List α} {i:Nat} (h:l.drop i=[]):l.length ≤ i:=by
 rcases Nat.lt_or_ge i l.length with h' | h'
 ·rw [List.drop_eq_getElem_cons h'] at h; cases h
 ·exact h'
def Kpa (c:Int):Bool:=inB c 3 18 || c == 35
def Kpb (c:Int):Bool:=inB c 19 34 || c == 36
def Kpc (c:Int):Int:=if c == 0 then 0 else if c == 1 || c == 2 || Kpa c then 2 else if Kpb c then 1 else -1
theorem Kpd (c:Int):Kcg c=some (Kpa c):=by
 unfold Kcg Kpa
 simp only [sIn,bs]
 cases inB c 3 18 <;> rfl
theorem Kpe (c:Int):Kcj c=some (Kpb c):=by
 unfold Kcj Kpb
 simp only [sIn,bs]
 cases inB c 19 34 <;> rfl
theorem Kpf (c:Int):Kcm c=some (Kpc c):=by
 unfold Kcm Kpc
 simp only [Kpd,Kpe,bs]
 cases c == 0 <;> cases c == 1 <;> cases c == 2 <;> cases Kpa c <;> cases Kpb c <;> rfl
theorem Kpg (c:Int):(c=0∧Kpc c=0)∨((c=1∨c=2∨(3 ≤ c∧c ≤ 18)∨c=35)∧Kpc c=2)∨(((19 ≤ c∧c ≤ 34)∨c=36)∧Kpc c=1)∨((c < 0∨36 < c)∧Kpc c=-1):=by
 unfold Kpc Kpa Kpb inB
 by_cases h0:c=0
 ·left; subst h0; exact ⟨rfl,rfl⟩
 ·right
  have e0:(c == 0)=false:=by simpa using h0
  by_cases h1:c=1∨c=2∨(3 ≤ c∧c ≤ 18)∨c=35
  ·left
   refine ⟨h1,?_⟩
   have:(c == 1 || c == 2 || (decide (c ≥ 3) && decide (c ≤ 18) || c == 35))=true:=by
    simp only [Bool.or_eq_true,Bool.and_eq_true,beq_iff_eq,decide_eq_true_eq]; omega
   rw [e0,this]; rfl
  ·right
   have q:(c == 1 || c == 2 || (decide (c ≥ 3) && decide (c ≤ 18) || c == 35))=false:=by
    rw [Bool.eq_false_iff]; intro h
    simp only [Bool.or_eq_true,Bool.and_eq_true,beq_iff_eq,decide_eq_true_eq] at h; omega
   rw [e0,q]
   by_cases h2:(19 ≤ c∧c ≤ 34)∨c=36
   ·left
    refine ⟨h2,?_⟩
    have:(decide (c ≥ 19) && decide (c ≤ 34) || c == 36)=true:=by
     simp only [Bool.or_eq_true,Bool.and_eq_true,beq_iff_eq,decide_eq_true_eq]; omega
    rw [this]; rfl
   ·right
    refine ⟨by omega,?_⟩
    have:(decide (c ≥ 19) && decide (c ≤ 34) || c == 36)=false:=by
     rw [Bool.eq_false_iff]; intro h
     simp only [Bool.or_eq_true,Bool.and_eq_true,beq_iff_eq,decide_eq_true_eq] at h; omega
    rw [this]; rfl
def Kph (c:Int):Int × Int :=
 if inB c 0 2 then (c,-1) else if inB c 3 18 then (3,c - 3) else if inB c 19 34 then (4,c - 19) else if c == 35 then (3,-1) else if c == 36 then (4,-1) else (5,-1)
theorem Kpi (c:Int):Kil c=some (Kph c):=by
 unfold Kil Kph
 simp only [iIn,bs]
 cases h1:inB c 0 2
 ·cases h2:inB c 3 18
  ·cases h3:inB c 19 34
   ·cases c == 35 <;> cases c == 36 <;> rfl
   ·simp only [inB,Bool.and_eq_true,decide_eq_true_eq] at h3
    simp only [Bool.false_eq_true,if_false,if_true]
    rw [Ko2 (by omega) (by omega)]
  ·simp only [inB,Bool.and_eq_true,decide_eq_true_eq] at h2
   simp only [Bool.false_eq_true,if_false,if_true]
   rw [Ko2 (by omega) (by omega)]
 ·rfl
theorem Kpj (c:Int):(c=0∧Kph c=(0,-1))∨(c=1∧Kph c=(1,-1))∨(c=2∧Kph c=(2,-1))∨((3 ≤ c∧c ≤ 18)∧Kph c=(3,c - 3))∨(c=35∧Kph c=(3,-1)) ∨
  ((19 ≤ c∧c ≤ 34)∧Kph c=(4,c - 19))∨(c=36∧Kph c=(4,-1))∨((c < 0∨36 < c)∧Kph c=(5,-1)):=by
 have inT:∀ lo hi,lo ≤ c→c ≤ hi→inB c lo hi=true:=fun lo hi h1 h2=>by simp only [inB,Bool.and_eq_true,decide_eq_true_eq]; omega
 have inF:∀ lo hi,(c < lo∨hi < c)→inB c lo hi=false:=fun lo hi h=>by rw [Bool.eq_false_iff]; intro h'; simp only [inB,Bool.and_eq_true,decide_eq_true_eq] at h'; omega
 unfold Kph
 by_cases h0:0 ≤ c∧c ≤ 2
 ·rw [inT 0 2 h0.1 h0.2]
  have:c=0∨c=1∨c=2:=by omega
  rcases this with rfl | rfl | rfl <;> simp
 ·rw [inF 0 2 (by omega)]
  by_cases h1:3 ≤ c∧c ≤ 18
  ·rw [inT 3 18 h1.1 h1.2]
   exact .inr (.inr (.inr (.inl ⟨h1,rfl⟩)))
  ·rw [inF 3 18 (by omega)]
   by_cases h2:19 ≤ c∧c ≤ 34
   ·rw [inT 19 34 h2.1 h2.2]
    exact .inr (.inr (.inr (.inr (.inr (.inl ⟨h2,rfl⟩)))))
   ·rw [inF 19 34 (by omega)]
    by_cases h3:c=35
    ·subst h3; simp
    ·by_cases h4:c=36
     ·subst h4; simp
     ·have e3:(c == 35)=false:=by simpa using h3
      have e4:(c == 36)=false:=by simpa using h4
      rw [e3,e4]
      refine .inr (.inr (.inr (.inr (.inr (.inr (.inr ⟨by omega,rfl⟩))))))
def skip:Nat→List Int→Option (List Int)
 | 0,l=>some l
 | _ + 1,[]=>none
 | m + 1,c :: l=>if Kpc c=-1 then none else skip (m + (Kpc c).toNat) l
theorem Kpk (l:List Int):skip 0 l=some l:=by cases l <;> rfl
theorem Kpl (m:Nat):skip (m + 1) []=none:=rfl
theorem Kpm (m:Nat) (c:Int) (l:List Int):skip (m + 1) (c :: l)=if Kpc c=-1 then none else skip (m + (Kpc c).toNat) l:=rfl
theorem Kpn (l:List Int):∀ (m k:Nat),skip (m + k) l=(skip m l).bind (skip k):=by
 induction l with
 | nil =>
  intro m k
  cases m with
  | zero=>rw [Nat.zero_add,Kpk]; rfl
  | succ m=>rw [show m + 1 + k=(m + k) + 1 by omega,Kpl,Kpl]; rfl
 | cons c l ih =>
  intro m k
  cases m with
  | zero=>rw [Nat.zero_add,Kpk]; rfl
  | succ m =>
   rw [show m + 1 + k=(m + k) + 1 by omega,Kpm,Kpm]
   by_cases h:Kpc c=-1
   ·rw [if_pos h,if_pos h]; rfl
   ·rw [if_neg h,if_neg h,← ih]; congr 1; omega
theorem Kpo (l:List Int):∀ (m:Nat) (r:List Int),skip m l=some r→∃ p,l=p ++ r∧m ≤ p.length:=by
 induction l with
 | nil =>
  intro m r h
  cases m with
  | zero=>rw [Kpk] at h; cases h; exact ⟨[],rfl,Nat.le_refl _⟩
  | succ m=>rw [Kpl] at h; cases h
 | cons c l ih =>
  intro m r h
  cases m with
  | zero=>rw [Kpk] at h; cases h; exact ⟨[],rfl,Nat.le_refl _⟩
  | succ m =>
   rw [Kpm] at h
   by_cases hk:Kpc c=-1
   ·rw [if_pos hk] at h; cases h
   ·rw [if_neg hk] at h
    obtain ⟨p,e,hp⟩:=ih _ _ h
    exact ⟨c :: p,by rw [e]; rfl,by simp; omega⟩
def Kpp (ty:List Int) (m i:Nat):Int:=match skip m (ty.drop i) with | some r=>((ty.length - r.length:Nat):Int) | none=>-1
theorem Kpq (ty:List Int) (hty:ty.length ≤ 1099511627776):∀ (l:List Int) (i m:Nat),ty.drop i=l→m ≤ 1099511627776 + 2 * i→∃ x,Kcq (ty,((m + 1:Nat):Int),(i:Int))=some x∧(match x with | .inl ()=>-1 | .inr r=>r)=Kpp ty (m + 1) i:=by
 intro l
 induction l with
 | nil =>
  intro i m hl hm
  rw [Kcq.eq_def]
  simp only
  rw [Ko6 (Kp9 hl)]
  exact ⟨.inl (),rfl,by unfold Kpp; rw [hl,Kpl]⟩
 | cons c l ih =>
  intro i m hl hm
  obtain ⟨hi,hx,hd⟩:=Kp8 hl
  have hi2:(i:Int) < 1099511627776:=by omega
  rw [Kcq.eq_def]
  simp only
  rw [Ko5 hi,if_pos rfl,hx,bs,Kpf,bs]
  have he:Kpp ty (m + 1) i=(match (if Kpc c=-1 then none else skip (m + (Kpc c).toNat) l) with | some r=>((ty.length - r.length:Nat):Int) | none=>-1):=by
   unfold Kpp; rw [hl,Kpm]
  rw [he]
  by_cases hk:Kpc c=-1
  ·rw [if_pos hk,hk]
   exact ⟨.inr (-1),rfl,rfl⟩
  ·rw [if_neg hk]
   have hk0:0 ≤ Kpc c∧Kpc c ≤ 2:=by rcases Kpg c with h | h | h | h <;> omega
   obtain ⟨k,hkk⟩:∃ k:Nat,Kpc c=(k:Int):=⟨(Kpc c).toNat,by omega⟩
   rw [decide_eq_false (by omega),if_neg (by decide),hkk,Int.toNat_natCast]
   rw [Ko2 (x:=((m + 1:Nat):Int) - 1) (by omega) (by omega),show ((m + 1:Nat):Int) - 1=(m:Int) by omega,Ko2 (x:=(m:Int) + (k:Int)) (by omega) (by omega),Ko4 (by omega)]
   by_cases h0:m + k=0
   ·rw [show ((m:Int) + (k:Int) == 0)=true by simp; omega,if_pos rfl,h0,Kpk]
    refine ⟨_,rfl,?_⟩
    have:l.length=ty.length - (i + 1):=by rw [← hd,List.length_drop]
    simp only
    omega
   ·rw [show ((m:Int) + (k:Int) == 0)=false by simp; omega,if_neg (by decide)]
    obtain ⟨q,hq⟩:∃ q,m + k=q + 1:=⟨m + k - 1,by omega⟩
    have:=ih (i + 1) q hd (by omega)
    rw [show (m:Int) + (k:Int)=((q + 1:Nat):Int) by omega]
    obtain ⟨x,h1,h2⟩:=this
    exact ⟨x,h1,by rw [h2,hq]; unfold Kpp; rw [hd]⟩
theorem Kpr (ty:List Int) (hty:ty.length ≤ 1099511627776) (i:Nat) (hi:i ≤ ty.length):Kct (ty,(i:Int))=some (Kpp ty 1 i):=by
 unfold Kct
 obtain ⟨x,h1,h2⟩:=Kpq ty hty _ i 0 rfl (by omega)
 simp only
 rw [show (1:Int)=((0 + 1:Nat):Int) from rfl,h1,bs]
 rw [← h2]
 cases x <;> rfl
theorem Kps (ty:List Int) (i:Nat) (hi:i ≤ ty.length):Kpp ty 2 i=(if Kpp ty 1 i=-1 then -1 else Kpp ty 1 (Kpp ty 1 i).toNat):=by
 unfold Kpp
 rw [show 2=1 + 1 from rfl,Kpn]
 cases h:skip 1 (ty.drop i) with
 | none=>simp
 | some r =>
  obtain ⟨p,hp,hl⟩:=Kpo _ _ _ h
  have hlen:ty.length - i=p.length + r.length:=by rw [← List.length_drop,hp,List.length_append]
  have:ty.drop (ty.length - r.length)=r:=by
   have e:ty.drop (ty.length - r.length)=(ty.drop i).drop p.length:=by rw [List.drop_drop]; congr 1; omega
   rw [e,hp,List.drop_left]
  simp only [Option.bind_some]
  rw [if_neg (by omega),Int.toNat_natCast,this]
theorem Kpt (ty:List Int) (hty:ty.length ≤ 1099511627776):∀ (d i:Nat),ty.length - i=d→Kio (ty,(i:Int))=some (Kpp ty 1 i):=by
 intro d
 induction d using Nat.strongRecOn with
 | ind d ih =>
  intro i hd
  rw [Kio.eq_def]
  simp only
  rw [decide_eq_false (by omega:¬ (i:Int) < 0)]
  simp only [Bool.false_eq_true,if_false,bs]
  by_cases hi:i < ty.length
  ·rw [decide_eq_false (by omega),if_neg (by decide),Ko3 hi,bs,Kpi,bs]
   have hdr:=List.drop_eq_getElem_cons hi
   have he:∀ k:Nat,Kpc ty[i]=(k:Int)→Kpp ty 1 i=Kpp ty k (i + 1):=fun k hk=>by
    unfold Kpp
    rw [hdr,show 1=0 + 1 from rfl,Kpm,hk,if_neg (by omega),Int.toNat_natCast,Nat.zero_add]
   have hn:Kpc ty[i]=-1→Kpp ty 1 i=-1:=fun hk=>by
    unfold Kpp
    rw [hdr,show 1=0 + 1 from rfl,Kpm,if_pos hk]
   have i1:=ih (ty.length - (i + 1)) (by omega) (i + 1) rfl
   have hz:∀ i:Nat,i ≤ ty.length→Kpp ty 0 i=(i:Int):=fun i hi=>by unfold Kpp; rw [Kpk]; simp only [List.length_drop]; omega
   rw [Ko4 (by omega)]
   have two:Kpc ty[i]=2→((Kio (ty,((i + 1:Nat):Int))) >>= fun r_11_4=>(Kio (ty,r_11_4)) >>= fun r_11_5=>some r_11_5)=some (Kpp ty 1 i):=fun hk=>by
    rw [i1,bs,he 2 hk,Kps ty (i + 1) (by omega)]
    by_cases h1:Kpp ty 1 (i + 1)=-1
    ·rw [h1,if_pos rfl,Kio.eq_def]; rfl
    ·rw [if_neg h1]
     obtain ⟨e,hee,hlo⟩:∃ e:Nat,Kpp ty 1 (i + 1)=(e:Int)∧i + 1 < e:=by
      unfold Kpp at h1 ⊢
      cases hs:skip 1 (ty.drop (i + 1)) with
      | none=>rw [hs] at h1; exact absurd rfl h1
      | some r =>
       obtain ⟨p,hp,hl⟩:=Kpo _ _ _ hs
       have hlen:ty.length - (i + 1)=p.length + r.length:=by rw [← List.length_drop,hp,List.length_append]
       exact ⟨_,rfl,by omega⟩
     rw [hee,Int.toNat_natCast,ih (ty.length - e) (by omega) e rfl,bs]
   rcases Kpj ty[i] with ⟨h,e⟩ | ⟨h,e⟩ | ⟨h,e⟩ | ⟨h,e⟩ | ⟨h,e⟩ | ⟨h,e⟩ | ⟨h,e⟩ | ⟨h,e⟩ <;> rw [e] <;> simp only []
   ·have hk:Kpc ty[i]=0:=by rcases Kpg ty[i] with h | h | h | h <;> omega
    rw [if_pos (by rfl),he 0 hk,hz _ (by omega)]
   ·have hk:Kpc ty[i]=2:=by rcases Kpg ty[i] with h | h | h | h <;> omega
    exact two hk
   ·have hk:Kpc ty[i]=2:=by rcases Kpg ty[i] with h | h | h | h <;> omega
    exact two hk
   ·have hk:Kpc ty[i]=2:=by rcases Kpg ty[i] with h | h | h | h <;> omega
    exact two hk
   ·have hk:Kpc ty[i]=2:=by rcases Kpg ty[i] with h | h | h | h <;> omega
    exact two hk
   ·have hk:Kpc ty[i]=1:=by rcases Kpg ty[i] with h | h | h | h <;> omega
    rw [he 1 hk,if_neg (by decide),if_pos (by rfl),i1,bs]
   ·have hk:Kpc ty[i]=1:=by rcases Kpg ty[i] with h | h | h | h <;> omega
    rw [he 1 hk,if_neg (by decide),if_pos (by rfl),i1,bs]
   ·have hk:Kpc ty[i]=-1:=by rcases Kpg ty[i] with h | h | h | h <;> omega
    rw [hn hk]; rfl
  ·rw [decide_eq_true (by omega),if_pos rfl]
   unfold Kpp
   rw [List.drop_eq_nil_of_le (by omega),Kpl]
def wtB (ty:List Int):Bool:=decide (ty.length ≤ 40) && (skip 1 ty == some [])
theorem Kpu (ty:List Int):(Kpp ty 1 0 == (ty.length:Int))=(skip 1 ty == some []):=by
 unfold Kpp
 rw [List.drop_zero]
 cases h:skip 1 ty with
 | none=>simp
 | some r =>
  obtain ⟨p,hp,hl⟩:=Kpo _ _ _ h
  have hlen:ty.length=p.length + r.length:=by rw [hp,List.length_append]
  cases r with
  | nil=>simp
  | cons x xs =>
   simp only [List.length_cons] at hlen ⊢
   simp
   omega
theorem Kpv (ty:List Int) (hty:ty.length ≤ 1099511627776):Khc ty=some (wtB ty):=by
 unfold Khc wtB
 by_cases h:ty.length ≤ 40
 ·rw [decide_eq_true (by omega:(ty.length:Int) ≤ 40),if_pos rfl,show (0:Int)=((0:Nat):Int) from rfl,Kpr ty hty 0 (by omega),bs,Kpu,decide_eq_true h]
  cases hs:skip 1 ty == some [] with
  | false=>rfl
  | true =>
   have:0 < ty.length:=by
    rcases ty with _ | ⟨c,l⟩
    ·rw [show skip 1 []=none from rfl] at hs; cases hs
    ·simp
   rw [if_pos rfl,decide_eq_true (by omega:(ty.length:Int) > ((0:Nat):Int))]; rfl
 ·rw [decide_eq_false (by omega:¬ (ty.length:Int) ≤ 40),decide_eq_false h]; rfl
theorem Kpw (ty:List Int) (hty:ty.length ≤ 1099511627776):Kir ty=some (wtB ty):=by
 unfold Kir wtB
 rw [iIn,bs]
 by_cases h:ty.length ≤ 40
 ·rw [decide_eq_true h]
  by_cases h1:1 ≤ ty.length
  ·have:inB (ty.length:Int) 1 40=true:=by simp only [inB,Bool.and_eq_true,decide_eq_true_eq]; omega
   rw [this,if_pos rfl,show (0:Int)=((0:Nat):Int) from rfl,Kpt ty hty _ 0 rfl,bs,Kpu]; rfl
  ·have:inB (ty.length:Int) 1 40=false:=by rw [Bool.eq_false_iff]; intro h'; simp only [inB,Bool.and_eq_true,decide_eq_true_eq] at h'; omega
   have e:ty=[]:=List.length_eq_zero_iff.1 (by omega)
   rw [this,e]; rfl
 ·have:inB (ty.length:Int) 1 40=false:=by rw [Bool.eq_false_iff]; intro h'; simp only [inB,Bool.and_eq_true,decide_eq_true_eq] at h'; omega
  rw [this,decide_eq_false h]; rfl
def Kpx (c:Int):Int:=if 35 ≤ c then -1 else if 19 ≤ c then c - 19 else c - 3
def Kpy (size:Int) (closed:Bool) (c:Int):Bool:=!(decide (Kpc c > 0) && decide (c > 2) && (decide (Kpx c ≥ size) || closed && decide (Kpx c < 0)))
theorem Kpz {c:Int} (h:Kpc c > 0):Kd2 c=some (Kpx c):=by
 have:0 ≤ c∧c ≤ 36:=by rcases Kpg c with h | h | h | h <;> omega
 unfold Kd2 Kpx
 by_cases h1:35 ≤ c
 ·rw [decide_eq_true (by omega:c ≥ 35),if_pos rfl,if_pos h1]
 ·rw [decide_eq_false (by omega:¬ c ≥ 35),if_neg (by decide),if_neg h1]
  by_cases h2:19 ≤ c
  ·rw [decide_eq_true (by omega:c ≥ 19),if_pos rfl,if_pos h2,Ko2 (by omega) (by omega)]
  ·rw [decide_eq_false (by omega:¬ c ≥ 19),if_neg (by decide),if_neg h2,Ko2 (by omega) (by omega)]
theorem Kq0 (ty:List Int) (hty:ty.length ≤ 1099511627776) (size:Int) (cl:Bool):∀ (l:List Int) (i:Nat),ty.drop i=l→Khh (ty,size,cl,(i:Int))=some (if l.all (Kpy size cl) then .inl () else .inr false):=by
 intro l
 induction l with
 | nil =>
  intro i hl
  rw [Khh.eq_def]
  simp only
  rw [Ko6 (Kp9 hl)]; rfl
 | cons c l ih =>
  intro i hl
  obtain ⟨hi,hx,hd⟩:=Kp8 hl
  rw [Khh.eq_def]
  simp only
  rw [Ko5 hi,if_pos rfl,hx,bs,bs,Kpf,bs,Ko4 (by omega)]
  have ih:=ih (i + 1) hd
  generalize ((i + 1:Nat):Int)=M at ih ⊢
  rw [List.all_cons]
  unfold Kpy at ih ⊢
  by_cases hk:Kpc c > 0
  ·simp only [bs,Kpz hk]
   rw [decide_eq_true hk]
   generalize Kpx c=g at ih ⊢
   cases decide (c > 2) <;> cases decide (g ≥ size) <;> cases cl <;> cases decide (g < 0) <;> simp [bs,ih]
  ·rw [decide_eq_false hk]; simp [bs,ih]
theorem Kq1 (ty:List Int) (hty:ty.length ≤ 1099511627776) (size:Int) (cl:Bool):Khk (ty,size,cl)=some (ty.all (Kpy size cl)):=by
 unfold Khk
 simp only
 rw [show (0:Int)=((0:Nat):Int) from rfl,Kq0 ty hty size cl _ 0 rfl,List.drop_zero,bs]
 cases ty.all (Kpy size cl) <;> rfl
theorem Kq2 (c:Int):Kpy 16 false c=true:=by
 unfold Kpy Kpx
 rcases Kpg c with ⟨h,e⟩ | ⟨h,e⟩ | ⟨h,e⟩ | ⟨h,e⟩ <;> rw [e] <;> simp <;> split <;> (try split) <;> omega
theorem Kq3 {α β:Type} {a:Option α} {f:α→Option β} {x:α} (h:a=some x):(a >>= f)=f x:=by rw [h]; rfl
mutual
def tsz:K00→Nat
 | ⟨_,_,_,ks⟩=>1 + Kq4 ks
def Kq4:List K00→Nat
 | []=>0
 | k :: ks=>tsz k + Kq4 ks
end
mutual
def tms:K00→Nat
 | ⟨_,_,ty,ks⟩=>ty.length + ks.length + Kq5 ks
def Kq5:List K00→Nat
 | []=>0
 | k :: ks=>tms k + Kq5 ks
end
theorem Kq6 (t:K00):tms t=t.fType.length + t.fKids.length + Kq5 t.fKids:=by cases t; rw [tms]
theorem Kq7 (t:K00):tsz t=1 + Kq4 t.fKids:=by cases t; rw [tsz]
def Kq8 (left n:Nat):Int:=if n ≤ left then ((left - n:Nat):Int) else -1
theorem Kq9 {left n:Nat} (h:n ≤ left):Kq8 left n=((left - n:Nat):Int):=if_pos h
theorem Kqa {left n:Nat} (h:¬ n ≤ left):Kq8 left n=-1:=if_neg h
theorem Kqb (t:K00) (i:Int):Kfq (t,-1,i)=some (-1):=by
 rw [Kfq.eq_def]
 simp only
 cases decide (i < (t.fKids.length:Int)) <;> rfl
mutual
theorem Kqc:∀ (t:K00) (left:Nat),tms t ≤ 1099511627776→left ≤ 1048576→Kfp (t,(left:Int))=some (Kq8 left (tsz t))
 | ⟨op,N,ty,ks⟩,left,ht,hl=>by
  rw [tms] at ht
  rw [Kfp.eq_def,tsz]
  simp only
  rcases left with _ | l
  ·rw [show wr (((0:Nat):Int) - 1)=-1 from Ko2 (by omega) (by omega),Kqb,bs,Kqa (by omega)]
  ·have h:=Kqd ks ⟨op,N,ty,ks⟩ 0 l rfl (by simp only; omega) (by omega) (by omega)
   rw [Ko2 (by omega) (by omega),show ((l + 1:Nat):Int) - 1=(l:Int) by omega,show (0:Int)=((0:Nat):Int) from rfl,h,bs]
   unfold Kq8
   by_cases q:Kq4 ks ≤ l
   ·rw [if_pos q,if_pos (by omega),show l + 1 - (1 + Kq4 ks)=l - Kq4 ks by omega]
   ·rw [if_neg q,if_neg (by omega)]
theorem Kqd:∀ (ks:List K00) (t:K00) (i left:Nat),t.fKids.drop i=ks→t.fKids.length ≤ 1099511627776→Kq5 ks ≤ 1099511627776→left ≤ 1048576→Kfq (t,(left:Int),(i:Int))=some (Kq8 left (Kq4 ks))
 | [],t,i,left,hd,hk,ht,hl=>by
  rw [Kfq.eq_def,Kq4]
  simp only
  rw [Ko6 (Kp9 hd)]
  simp [bs,Kq8]
 | k :: ks,t,i,left,hd,hk,ht,hl=>by
  obtain ⟨hi,hx,hd'⟩:=Kp8 hd
  rw [Kq5] at ht
  rw [Kfq.eq_def,Kq4]
  simp only
  rw [Ko5 hi,if_pos rfl,bs,decide_eq_true (by omega:((left:Nat):Int) ≥ 0),if_pos rfl,hx,bs,Kqc k left (by omega) hl,bs,Ko4 (by omega)]
  by_cases q:tsz k ≤ left
  ·rw [Kq9 q,Kqd ks t (i + 1) (left - tsz k) hd' hk (by omega) (by omega)]
   unfold Kq8
   by_cases q2:Kq4 ks ≤ left - tsz k
   ·rw [if_pos q2,if_pos (by omega)]; congr 2; omega
   ·rw [if_neg q2,if_neg (by omega)]
  ·rw [Kqa q,Kqb,Kqa (by omega)]
end
def Kqe (op:Int):Int:=if inB op 0 12 then ([0,0,2,3,2,2,1,1,3,1,2,1,2]:List Int).getD op.toNat 0 else -1
def Kqf (op:Int):Bool:=op == 5 || op == 8 || op == 9 || op == 11 || op == 12
def Kqg (op:Int):Bool:=op == 6 || op == 7 || op == 9
def Kqh (op:Int):ByteArray:=([ByteArray.mk #[120],ByteArray.empty,ByteArray.mk #[97,100,100],ByteArray.mk #[105,102],ByteArray.mk #[112,97,105,114],ByteArray.mk #[115,112,108,105,116],ByteArray.mk #[108,101,102,116],
 ByteArray.mk #[114,105,103,104,116],ByteArray.mk #[99,97,115,101],ByteArray.mk #[102,117,110],ByteArray.mk #[97,112,112],ByteArray.mk #[98,111,120],ByteArray.mk #[111,112,101,110]]:List ByteArray).getD op.toNat ByteArray.empty
theorem Kqi {op:Int} (h:inB op 0 12=true):op=0∨op=1∨op=2∨op=3∨op=4∨op=5∨op=6∨op=7∨op=8∨op=9∨op=10∨op=11∨op=12:=by
 simp only [inB,Bool.and_eq_true,decide_eq_true_eq] at h
 omega
theorem Kqj (op:Int):Kkj op=some (Kqe op):=by
 unfold Kkj Kqe
 rw [sIn,bs]
 cases h:inB op 0 12
 ·rfl
 ·rcases Kqi h with rfl | rfl | rfl | rfl | rfl | rfl | rfl | rfl | rfl | rfl | rfl | rfl | rfl <;> rfl
theorem Kqk (op:Int):Kg6 op=some (Kqf op):=by
 unfold Kg6 Kqf
 cases op == 5 <;> cases op == 8 <;> cases op == 9 <;> cases op == 11 <;> rfl
theorem Kql (op:Int):Kkm op=some (Kqg op):=by
 unfold Kkm Kqg
 cases op == 6 <;> cases op == 7 <;> rfl
def Kqm (op:Int):K04 × Bool:=if inB op 0 12 then (K04.mk (Kqh op) (Kqe op) (Kqf op) (Kqg op),true) else (K04.mk ByteArray.empty 0 false false,false)
theorem Kqn (op:Int):Kif op=some (Kqm op):=by
 unfold Kif Kqm
 rw [iIn,bs]
 cases h:inB op 0 12
 ·rfl
 ·rcases Kqi h with rfl | rfl | rfl | rfl | rfl | rfl | rfl | rfl | rfl | rfl | rfl | rfl | rfl <;> rfl
def Kqo (op kid:Int):Nat:=if op == 5 && kid == 1 then 2 else if (op == 8 && decide (kid > 0)) || op == 9 || (op == 12 && kid == 1) then 1 else 0
theorem Kqp (op kid:Int):Kqo op kid ≤ 2:=by unfold Kqo; split <;> (try split) <;> omega
theorem Kqq (op kid:Int):Keo (op,kid)=some ((Kqo op kid:Nat):Int):=by
 unfold Keo Kqo
 simp only
 generalize (op == 5)=b1
 generalize (op == 8)=b2
 generalize (op == 9)=b3
 generalize (op == 12)=b4
 generalize (kid == 1)=b5
 generalize decide (kid > 0)=b6
 cases b1 <;> cases b2 <;> cases b3 <;> cases b4 <;> cases b5 <;> cases b6 <;> rfl
theorem Kqr (op kid:Int):Kiu (op,kid)=some ((Kqo op kid:Nat):Int):=by
 unfold Kiu Kqo
 simp only
 generalize (op == 5)=b1
 generalize (op == 8)=b2
 generalize (op == 9)=b3
 generalize (op == 12)=b4
 generalize (kid == 1)=b5
 generalize decide (kid > 0)=b6
 cases b1 <;> cases b2 <;> cases b3 <;> cases b4 <;> cases b5 <;> cases b6 <;> rfl
def Kqs (g:Int→Bool) (n:Int) (t:K00):Bool:=if t.fOp == 0 then inB t.fN 0 (n - 1) else if t.fOp == 1 then inB t.fN 0 2 else if Kqf t.fOp then g t.fN else t.fN == 0
def Kqt (y:List Int→Bool) (t:K00):Bool:=if Kqg t.fOp then y t.fType else (t.fType.length:Int) == 0
def Kqu (g:Int→Bool) (y:List Int→Bool) (n:Int) (t:K00):Bool:=inB t.fOp 0 12 && ((t.fKids.length:Int) == Kqe t.fOp) && Kqs g n t && Kqt y t
mutual
def tOk (g:Int→Bool) (y:List Int→Bool):Nat→K00→Bool
 | n,⟨op,N,ty,ks⟩=>Kqu g y (n:Int) ⟨op,N,ty,ks⟩ && Kqv g y op n 0 ks
def Kqv (g:Int→Bool) (y:List Int→Bool):Int→Nat→Nat→List K00→Bool
 | _,_,_,[]=>true
 | op,n,i,k :: ks=>tOk g y (n + Kqo op (i:Int)) k && Kqv g y op n (i + 1) ks
end
theorem Kqw (g:Int→Bool) (y:List Int→Bool) (n:Nat) (t:K00):tOk g y n t=(Kqu g y (n:Int) t && Kqv g y t.fOp n 0 t.fKids):=by cases t; rw [tOk]
def gN (size:Int) (cl:Bool) (x:Int):Bool:=!(decide (x ≥ size) || decide (x < -1) || cl && decide (x < 0))
def yN (size:Int) (cl:Bool) (ty:List Int):Bool:=wtB ty && ty.all (Kpy size cl)
theorem Kqx (t:K00) (n:Nat) (size:Int) (cl:Bool) (hty:t.fType.length ≤ 1099511627776) (hn:n ≤ 35184372088832):Kks (t,(n:Int),size,cl)=some (Kqu (gN size cl) (yN size cl) (n:Int) t):=by
 unfold Kks Kqu
 simp only
 rw [Kqj,bs]
 by_cases hk:(t.fKids.length:Int)=Kqe t.fOp
 ·have hop:inB t.fOp 0 12=true:=by
   cases h:inB t.fOp 0 12
   ·unfold Kqe at hk; rw [h] at hk; simp at hk
   ·rfl
  rw [show ((t.fKids.length:Int) != Kqe t.fOp)=false by rw [hk]; exact Ko7,if_neg (by decide),show ((t.fKids.length:Int) == Kqe t.fOp)=true by rw [hk]; simp,hop]
  refine (Kq3 (x:=if Kqs (gN size cl) (n:Int) t then .inl () else .inr false) ?_).trans ?_
  ·unfold Kqs gN
   rw [sIn,Ko2 (by omega) (by omega),sIn,Kqk]
   simp only [bs]
   generalize inB t.fN 0 ((n:Int) - 1)=b1
   generalize inB t.fN 0 2=b2
   generalize Kqf t.fOp=b3
   rw [show (t.fN != 0)=!(t.fN == 0) from rfl]
   generalize (t.fN == 0)=b4
   generalize decide (t.fN ≥ size)=b5
   generalize decide (t.fN < -1)=b6
   generalize decide (t.fN < 0)=b7
   generalize (t.fOp == 0)=b8
   generalize (t.fOp == 1)=b9
   cases b8
   ·cases b9
    ·cases b3
     ·cases b4 <;> rfl
     ·cases b5 <;> cases b6 <;> cases cl <;> cases b7 <;> rfl
    ·cases b2 <;> rfl
   ·cases b1 <;> rfl
  ·cases Kqs (gN size cl) (n:Int) t
   ·simp
   ·unfold Kqt yN
    simp only [if_true]
    rw [Kql,bs]
    cases Kqg t.fOp
    ·simp
    ·simp only [if_true]
     rw [Kpv _ hty,Kq1 _ hty]
     cases wtB t.fType <;> simp [bs]
 ·rw [show ((t.fKids.length:Int) != Kqe t.fOp)=true by simpa using hk,if_pos rfl,show ((t.fKids.length:Int) == Kqe t.fOp)=false by simpa using hk]
  simp
mutual
theorem Kqy (size:Int) (cl:Bool):∀ (t:K00) (n:Nat),tms t ≤ 1099511627776→n + 2 * tms t ≤ 35184372088832→Kkw (t,(n:Int),size,cl)=some (tOk (gN size cl) (yN size cl) n t)
 | ⟨op,N,ty,ks⟩,n,ht,hn=>by
  rw [tms] at ht hn
  rw [Kkw.eq_def,tOk]
  simp only
  rw [Kqx _ n size cl (by simp only; omega) (by omega),bs]
  cases hb:Kqu (gN size cl) (yN size cl) (n:Int) ⟨op,N,ty,ks⟩
  ·rfl
  ·have h:=Kqz size cl ks ⟨op,N,ty,ks⟩ n 0 rfl (by simp only; omega) (by omega) (by omega)
   rw [if_pos rfl,show (0:Int)=((0:Nat):Int) from rfl,h,bs]
   simp only
   cases Kqv (gN size cl) (yN size cl) op n 0 ks <;> rfl
theorem Kqz (size:Int) (cl:Bool):∀ (ks:List K00) (t:K00) (n i:Nat),t.fKids.drop i=ks→t.fKids.length ≤ 1099511627776→Kq5 ks ≤ 1099511627776→n + 2 * (ks.length + Kq5 ks) ≤ 35184372088832 →
  Kkx (t,(n:Int),size,cl,(i:Int))=some (if Kqv (gN size cl) (yN size cl) t.fOp n i ks then .inl () else .inr false)
 | [],t,n,i,hd,hk,ht,hn=>by
  rw [Kkx.eq_def,Kqv]
  simp only
  rw [Ko6 (Kp9 hd)]; rfl
 | k :: ks,t,n,i,hd,hk,ht,hn=>by
  obtain ⟨hi,hx,hd'⟩:=Kp8 hd
  rw [Kq5] at ht hn
  rw [List.length_cons] at hn
  have ha:=Kqp t.fOp (i:Int)
  rw [Kkx.eq_def,Kqv]
  simp only
  rw [Ko5 hi,if_pos rfl,hx,bs,Kqq,bs,Ko2 (by omega) (by omega),show (n:Int) + ((Kqo t.fOp (i:Int):Nat):Int)=((n + Kqo t.fOp (i:Int):Nat):Int) by omega]
  rw [Kqy size cl k (n + Kqo t.fOp (i:Int)) (by omega) (by omega),bs,Ko4 (by omega)]
  cases tOk (gN size cl) (yN size cl) (n + Kqo t.fOp (i:Int)) k
  ·rfl
  ·rw [if_pos rfl,Kqz size cl ks t n (i + 1) hd' hk (by omega) (by omega),Bool.true_and]
end
def Kr0 (ok:Bool) (nodes sz:Nat):Int:=if ok && decide (nodes + sz ≤ 400) then ((nodes + sz:Nat):Int) else 401
theorem iWs (x:Int):Kii x=some (gN 16 false x):=by
 unfold Kii
 rw [iIn,bs]
 congr 1
 unfold gN inB
 by_cases h1:x ≥ 16 <;> by_cases h2:x < -1 <;> simp [h1,h2] <;> omega
mutual
theorem Kr1:∀ (t:K00) (n nodes:Nat),tms t ≤ 1099511627776→n + 2 * tms t ≤ 35184372088832→nodes ≤ 400→Kiy (t,(n:Int),(nodes:Int))=some (Kr0 (tOk (gN 16 false) wtB n t) nodes (tsz t))
 | ⟨op,N,ty,ks⟩,n,nodes,ht,hn,hd=>by
  rw [tms] at ht hn
  rw [Kiy.eq_def,tOk,tsz]
  simp only
  rw [Kqn,bs]
  unfold Kqm
  cases hop:inB op 0 12
  ·simp [Kqu,hop,Kr0]
  ·simp only [if_true]
   rw [Ko4 (by omega)]
   by_cases h4:nodes + 1 ≤ 400
   ·rw [decide_eq_false (by omega:¬ ((nodes + 1:Nat):Int) > 400)]
    by_cases hk:(ks.length:Int)=Kqe op
    ·rw [show ((ks.length:Int) != Kqe op)=false by rw [hk]; exact Ko7]
     simp only [Bool.false_eq_true,if_false,bs]
     refine (Kq3 (x:=Kqs (gN 16 false) (n:Int) ⟨op,N,ty,ks⟩) ?_).trans ?_
     ·unfold Kqs
      simp only [iIn,Ko2 (x:=(n:Int) - 1) (by omega) (by omega),iWs,bs]
      cases op == 0 <;> cases op == 1 <;> cases Kqf op <;> rfl
     refine (Kq3 (x:=Kqs (gN 16 false) (n:Int) ⟨op,N,ty,ks⟩ && Kqt wtB ⟨op,N,ty,ks⟩) ?_).trans ?_
     ·unfold Kqt
      simp only [Kpw ty (by omega),bs]
      cases Kqg op <;> cases Kqs (gN 16 false) (n:Int) ⟨op,N,ty,ks⟩ <;> rfl
     have e:Kqu (gN 16 false) wtB (n:Int) ⟨op,N,ty,ks⟩=(Kqs (gN 16 false) (n:Int) ⟨op,N,ty,ks⟩ && Kqt wtB ⟨op,N,ty,ks⟩):=by
      unfold Kqu
      simp only
      rw [hop,hk]; simp
     rw [e]
     cases Kqs (gN 16 false) (n:Int) ⟨op,N,ty,ks⟩ && Kqt wtB ⟨op,N,ty,ks⟩
     ·simp [Kr0]
     ·have h:=Kr2 ks ⟨op,N,ty,ks⟩ n (nodes + 1) 0 rfl (by simp only; omega) (by omega) (by omega) h4
      rw [if_pos rfl,show (0:Int)=((0:Nat):Int) from rfl,h]
      simp only [Bool.true_and]
      unfold Kr0
      rw [show nodes + (1 + Kq4 ks)=nodes + 1 + Kq4 ks by omega]
      cases Kqv (gN 16 false) wtB op n 0 ks && decide (nodes + 1 + Kq4 ks ≤ 400) <;> rfl
    ·rw [show ((ks.length:Int) != Kqe op)=true by simpa using hk]
     have e:Kqu (gN 16 false) wtB (n:Int) ⟨op,N,ty,ks⟩=false:=by
      unfold Kqu
      simp only
      rw [show ((ks.length:Int) == Kqe op)=false by simpa using hk]; simp
     simp [e,Kr0]
   ·rw [decide_eq_true (by omega:((nodes + 1:Nat):Int) > 400)]
    have:¬ nodes + (1 + Kq4 ks) ≤ 400:=by omega
    simp [Kr0,this]
theorem Kr2:∀ (ks:List K00) (t:K00) (n nodes i:Nat),t.fKids.drop i=ks→t.fKids.length ≤ 1099511627776→Kq5 ks ≤ 1099511627776→n + 2 * (ks.length + Kq5 ks) ≤ 35184372088832→nodes ≤ 400 →
  Kiz (t,(n:Int),(nodes:Int),(i:Int))=some (if Kqv (gN 16 false) wtB t.fOp n i ks && decide (nodes + Kq4 ks ≤ 400) then .inl ((nodes + Kq4 ks:Nat):Int) else .inr 401)
 | [],t,n,nodes,i,hd,hk,ht,hn,h4=>by
  rw [Kiz.eq_def,Kqv,Kq4]
  simp only
  rw [Ko6 (Kp9 hd)]
  simp [h4]
 | k :: ks,t,n,nodes,i,hd,hk,ht,hn,h4=>by
  obtain ⟨hi,hx,hd'⟩:=Kp8 hd
  rw [Kq5] at ht hn
  rw [List.length_cons] at hn
  have ha:=Kqp t.fOp (i:Int)
  rw [Kiz.eq_def,Kqv,Kq4]
  simp only
  rw [Ko5 hi,if_pos rfl,hx,bs,Kqr,bs,Ko2 (by omega) (by omega),show (n:Int) + ((Kqo t.fOp (i:Int):Nat):Int)=((n + Kqo t.fOp (i:Int):Nat):Int) by omega]
  rw [Kr1 k (n + Kqo t.fOp (i:Int)) nodes (by omega) (by omega) h4,bs,Ko4 (by omega)]
  unfold Kr0
  cases tOk (gN 16 false) wtB (n + Kqo t.fOp (i:Int)) k
  ·rfl
  ·by_cases q:nodes + tsz k ≤ 400
   ·rw [decide_eq_true q,Bool.true_and,if_pos rfl,decide_eq_false (by omega:¬ ((nodes + tsz k:Nat):Int) > 400),if_neg (by decide),Kr2 ks t n (nodes + tsz k) (i + 1) hd' hk (by omega) (by omega) q,Nat.add_assoc,Bool.true_and]
   ·rw [decide_eq_false q,decide_eq_false (by omega:¬ nodes + (tsz k + Kq4 ks) ≤ 400)]
    simp
end
theorem Kr3 (ty:List Int):yN 16 false ty=wtB ty:=by
 unfold yN
 have:ty.all (Kpy 16 false)=true:=by rw [List.all_eq_true]; intro x _; exact Kq2 x
 rw [this,Bool.and_true]
def wB (t:K00):Bool:=tOk (gN 16 false) wtB 8 t && decide (tsz t ≤ 400)
theorem Kr4 (t:K00) (ht:tms t ≤ 1099511627776):Kj5 t=some (Kr0 (tOk (gN 16 false) wtB 8 t) 0 (tsz t)):=by
 unfold Kj5
 have:=Kr1 t 8 0 ht (by omega) (by omega)
 rw [show ((8:Nat):Int)=8 from rfl,show ((0:Nat):Int)=0 from rfl] at this
 rw [this,bs]
theorem Kr5 (t:K00) (ht:tms t ≤ 1099511627776):Kj8 t=some (wB t):=by
 unfold Kj8
 rw [Kr4 t ht,bs]
 unfold Kr0 wB
 rw [Nat.zero_add]
 congr 1
 cases h:tOk (gN 16 false) wtB 8 t && decide (tsz t ≤ 400)
 ·rfl
 ·simp only [Bool.and_eq_true,decide_eq_true_eq] at h
  rw [if_pos rfl,decide_eq_true (by omega)]
theorem Kr6 (t:K00) (ht:tms t ≤ 1099511627776):Kl3 t=some (wB t):=by
 unfold Kl3 wB
 have h1:=Kqc t 400 ht (by omega)
 have h2:=Kqy 16 false t 8 ht (by omega)
 rw [show ((400:Nat):Int)=400 from rfl] at h1
 rw [show ((8:Nat):Int)=8 from rfl,show yN 16 false=wtB from funext Kr3] at h2
 rw [h1,bs,h2]
 unfold Kq8
 by_cases q:tsz t ≤ 400
 ·rw [if_pos q,decide_eq_true (by omega:(((400 - tsz t:Nat)):Int) ≥ 0),decide_eq_true q,Bool.and_true]; rfl
 ·rw [if_neg q,decide_eq_false q,Bool.and_false]; rfl
mutual
def tln:K00→Prop
 | ⟨_,N,ty,ks⟩=>ty.length ≤ 9223372036854775807∧ks.length ≤ 9223372036854775807∧Kr7 ks∧(-9223372036854775808 ≤ N∧N ≤ 9223372036854775807)
def Kr7:List K00→Prop
 | []=>True
 | k :: ks=>tln k∧Kr7 ks
end
theorem Kr8 (l:List Int):∀ (m:Nat),skip m l=some []→∀ c ∈ l,0 ≤ c∧c ≤ 36:=by
 induction l with
 | nil=>intro m h c hc; cases hc
 | cons x l ih =>
  intro m h c hc
  cases m with
  | zero=>rw [Kpk] at h; cases h
  | succ m =>
   rw [Kpm] at h
   by_cases hk:Kpc x=-1
   ·rw [if_pos hk] at h; cases h
   ·rw [if_neg hk] at h
    rcases List.mem_cons.1 hc with rfl | hc
    ·rcases Kpg c with q | q | q | q <;> omega
    ·exact ih _ h c hc
theorem Kr9 {ty:List Int} (h:wtB ty=true):∀ c ∈ ty,0 ≤ c∧c ≤ 36:=by
 unfold wtB at h
 rw [Bool.and_eq_true,beq_iff_eq] at h
 exact Kr8 ty 1 h.2
theorem Kra {ty:List Int} (h:wtB ty=true):ty.length ≤ 40:=by
 unfold wtB at h
 rw [Bool.and_eq_true,decide_eq_true_eq] at h
 exact h.1
theorem Krb {g:Int→Bool} {y:List Int→Bool} {n:Nat} {t:K00} (h:tOk g y n t=true):Kqu g y (n:Int) t=true∧Kqv g y t.fOp n 0 t.fKids=true:=by
 rw [Kqw,Bool.and_eq_true] at h; exact h
theorem Krc {g:Int→Bool} {n:Int} {t:K00} (h:Kqu g wtB n t=true):(∀ c ∈ t.fType,0 ≤ c∧c ≤ 36)∧t.fType.length ≤ 40:=by
 unfold Kqu Kqt at h
 rw [Bool.and_eq_true] at h
 have h:=h.2
 cases hq:Kqg t.fOp
 ·rw [hq] at h
  simp at h
  rw [h]; simp
 ·rw [hq,if_pos rfl] at h
  exact ⟨Kr9 h,Kra h⟩
theorem Krd {n b:Nat} (h:n * b ≤ 140737488355328):Qdw n b=some ():=by unfold Qdw chk; rw [if_pos h]
theorem Kre {g:Int→Bool} {y:List Int→Bool} {n:Int} {t:K00} (h:Kqu g y n t=true):inB t.fOp 0 12=true∧(t.fKids.length:Int)=Kqe t.fOp:=by
 unfold Kqu at h
 simp only [Bool.and_eq_true,beq_iff_eq] at h
 exact ⟨h.1.1.1,h.1.1.2⟩
theorem Krf:∀ (ks:List K00),ks.length ≤ Kq4 ks
 | []=>by simp [Kq4]
 | k :: ks=>by
  have:=Krf ks
  have:=Kq7 k
  rw [Kq4,List.length_cons]; omega
theorem Krg (l:List Int) (h:l.length ≤ 1099511627776):Kcw l=some l:=by
 unfold Kcw
 rw [Krd (by simp only [List.length_nil]; omega),bs]
theorem Krh (l:List Int) (h:l.length ≤ 1099511627776):Kjb l=some l:=by
 unfold Kjb
 rw [Krd (by simp only [List.length_nil]; omega),bs]
structure Kri (s:K02) (n:Nat):Prop where
 size:s.fSize=(n:Int)
 lo:2 ≤ n
 hi:n ≤ 16
 lp:s.fPlus.length=n * n
 lt:s.fTimes.length=n * n
 lb:s.fBelow.length=n * n
def Krj (s:K02) (n i:Nat):Bool:=inB (s.fPlus.getD i 0) 0 ((n:Int) - 1) && inB (s.fTimes.getD i 0) 0 ((n:Int) - 1)
section
variable {s:K02} {n:Nat} (h:Kri s n)
include h
theorem nn:n * n ≤ 256:=Nat.le_trans (Nat.mul_le_mul h.hi h.hi) (by decide)
theorem Krk {i:Nat} (hi:i < n * n):idx s.fPlus (i:Int)=some (s.fPlus.getD i 0):=by
 have hl:i < s.fPlus.length:=by rw [h.lp]; exact hi
 rw [Ko3 hl,List.getD_eq_getElem?_getD,List.getElem?_eq_getElem hl]; rfl
theorem Krl {i:Nat} (hi:i < n * n):idx s.fTimes (i:Int)=some (s.fTimes.getD i 0):=by
 have hl:i < s.fTimes.length:=by rw [h.lt]; exact hi
 rw [Ko3 hl,List.getD_eq_getElem?_getD,List.getElem?_eq_getElem hl]; rfl
theorem Krm:wr (s.fSize - 1)=(n:Int) - 1:=by
 have:=h.lo; have:=h.hi
 rw [h.size,Ko2 (by omega) (by omega)]
theorem Krn:∀ (k i:Nat),i + k=n * n→K9f (s,(i:Int))=some (if (List.range' i k).all (Krj s n) then .inl () else .inr false):=by
 have hn:=nn h
 intro k
 induction k with
 | zero =>
  intro i hm
  rw [K9f.eq_def]
  simp only
  rw [h.lp,Ko6 (by omega)]
  rfl
 | succ k ih =>
  intro i hm
  rw [K9f.eq_def]
  simp only
  rw [h.lp,Ko5 (by omega),if_pos rfl,Krk h (by omega),Krl h (by omega),Krm h]
  have ih:=ih (i + 1) (by omega)
  rw [Ko4 (by omega),List.range'_succ,List.all_cons]
  generalize ((i + 1:Nat):Int)=M at ih ⊢
  generalize (List.range' (i + 1) k).all (Krj s n)=r at ih ⊢
  simp only [bs,sIn]
  cases h1:inB (s.fPlus.getD i 0) 0 ((n:Int) - 1) <;> cases h2:inB (s.fTimes.getD i 0) 0 ((n:Int) - 1) <;> cases r <;> simp only [Krj,h1,h2,ih,bs,Bool.not_true,Bool.not_false,Bool.true_and,Bool.false_and,Bool.and_true,Bool.and_false,if_true,if_false,Bool.false_eq_true]
theorem Kro:∀ (k i:Nat),i + k=n * n→Kmp (s,(i:Int))=some (if (List.range' i k).all (Krj s n) then .inl () else .inr false):=by
 have hn:=nn h
 intro k
 induction k with
 | zero =>
  intro i hm
  rw [Kmp.eq_def]
  simp only
  rw [h.lp,Ko6 (by omega)]
  rfl
 | succ k ih =>
  intro i hm
  rw [Kmp.eq_def]
  simp only
  rw [h.lp,Ko5 (by omega),if_pos rfl,Krk h (by omega),Krl h (by omega)]
  have ih:=ih (i + 1) (by omega)
  rw [Ko4 (by omega),List.range'_succ,List.all_cons]
  generalize ((i + 1:Nat):Int)=M at ih ⊢
  generalize (List.range' (i + 1) k).all (Krj s n)=r at ih ⊢
  have hh:∀ x,Kmh (s,x)=some (inB x 0 ((n:Int) - 1)):=fun x=>by
   unfold Kmh
   simp only
   rw [Krm h,iIn,bs]
  simp only [bs,hh]
  cases h1:inB (s.fPlus.getD i 0) 0 ((n:Int) - 1) <;> cases h2:inB (s.fTimes.getD i 0) 0 ((n:Int) - 1) <;> cases r <;> simp only [Krj,h1,h2,ih,bs,Bool.not_true,Bool.not_false,Bool.true_and,Bool.false_and,Bool.and_true,Bool.and_false,if_true,if_false,Bool.false_eq_true]
theorem Krp (he:(List.range' 0 (n * n)).all (Krj s n)=true):Tab s n:=by
 rw [List.all_eq_true] at he
 have hent:∀ i,i < n * n→Krj s n i=true:=fun i hi=>he i (by rw [List.mem_range'_1]; omega)
 refine ⟨h.size,h.lo,h.hi,h.lp,h.lt,h.lb,fun i hi=>?_,fun i hi=>?_⟩
 ·have:=hent i (by rw [← h.lp]; exact hi)
  simp only [Krj,inB,Bool.and_eq_true,decide_eq_true_eq,List.getD_eq_getElem?_getD,List.getElem?_eq_getElem hi,Option.getD_some] at this
  omega
 ·have:=hent i (by rw [← h.lt]; exact hi)
  simp only [Krj,inB,Bool.and_eq_true,decide_eq_true_eq,List.getD_eq_getElem?_getD,List.getElem?_eq_getElem hi,Option.getD_some] at this
  omega
end
def Krq (s:K02):Bool:=inB s.fSize 2 16 && !((s.fPlus.length:Int) != (wr (s.fSize * s.fSize))) && !((s.fTimes.length:Int) != (wr (s.fSize * s.fSize))) && !((s.fBelow.length:Int) != (wr (s.fSize * s.fSize)))
theorem Krr {s:K02} (h:Krq s=true):Kri s s.fSize.toNat:=by
 unfold Krq at h
 simp only [Bool.and_eq_true,Bool.not_eq_true',inB,decide_eq_true_eq,bne_eq_false_iff_eq] at h
 obtain ⟨⟨⟨⟨h1,h2⟩,h3⟩,h4⟩,h5⟩:=h
 obtain ⟨n,hn⟩:∃ n:Nat,s.fSize=(n:Int):=⟨s.fSize.toNat,by omega⟩
 rw [hn] at h1 h2 h3 h4 h5 ⊢
 have h256:n * n ≤ 256:=Nat.le_trans (Nat.mul_le_mul (by omega:n ≤ 16) (by omega:n ≤ 16)) (by decide)
 have e:(n:Int) * (n:Int)=((n * n:Nat):Int):=by simp
 rw [e] at h3 h4 h5
 generalize hm:n * n=m at *
 rw [Ko2 (by omega) (by omega)] at h3 h4 h5
 rw [Int.toNat_natCast]
 exact ⟨hn,by omega,by omega,by omega,by omega,by omega⟩
def Krs (s:K02):Bool:=Krq s && (List.range' 0 (s.fSize.toNat * s.fSize.toNat)).all (Krj s s.fSize.toNat) && Kp1 s s.fSize.toNat
theorem Krt {s:K02} (h:Krs s=true):Tab s s.fSize.toNat:=by
 unfold Krs at h
 simp only [Bool.and_eq_true] at h
 exact Krp (Krr h.1.1) h.1.2
theorem Kru (s:K02):Kaw s=some (Krs s):=by
 unfold Kaw K9i Krs
 rw [sIn]
 cases hf:Krq s with
 | false =>
  unfold Krq at hf
  cases h1:inB s.fSize 2 16 <;> cases h2:((s.fPlus.length:Int) != (wr (s.fSize * s.fSize))) <;> cases h3:((s.fTimes.length:Int) != (wr (s.fSize * s.fSize))) <;> cases h4:((s.fBelow.length:Int) != (wr (s.fSize * s.fSize))) <;> simp_all [bs]
 | true =>
  have F:=Krr hf
  have hl:=Krn F (s.fSize.toNat * s.fSize.toNat) 0 (by omega)
  rw [show ((0:Nat):Int)=0 from rfl] at hl
  unfold Krq at hf
  simp only [Bool.and_eq_true,Bool.not_eq_true'] at hf
  obtain ⟨⟨⟨h1,h2⟩,h3⟩,h4⟩:=hf
  cases he:(List.range' 0 (s.fSize.toNat * s.fSize.toNat)).all (Krj s s.fSize.toNat) with
  | false=>rw [he] at hl; simp [bs,h1,h2,h3,h4,hl]
  | true =>
   have T:=Krp F he
   have hl2:=Kp6 T s.fSize.toNat 0 (by omega)
   rw [show ((0:Nat):Int)=0 from rfl] at hl2
   rw [he] at hl
   have hm:(List.range' 0 s.fSize.toNat).all (fun a=>Kol s s.fSize.toNat a && (List.range' 0 s.fSize.toNat).all fun b=>Koy s s.fSize.toNat a b && (List.range' 0 s.fSize.toNat).all fun c=>Kom s s.fSize.toNat a b c)=Kp1 s s.fSize.toNat:=rfl
   rw [hm] at hl2
   cases hs:Kp1 s s.fSize.toNat <;> rw [hs] at hl2 <;> simp [bs,h1,h2,h3,h4,hl,hl2]
theorem Krv (s:K02):Kmt s=some (Krs s):=by
 unfold Kmt Krs
 rw [iIn]
 cases hf:Krq s with
 | false =>
  unfold Krq at hf
  cases h1:inB s.fSize 2 16 <;> cases h2:((s.fPlus.length:Int) != (wr (s.fSize * s.fSize))) <;> cases h3:((s.fTimes.length:Int) != (wr (s.fSize * s.fSize))) <;> cases h4:((s.fBelow.length:Int) != (wr (s.fSize * s.fSize))) <;> simp_all [bs]
 | true =>
  have F:=Krr hf
  have hl:=Kro F (s.fSize.toNat * s.fSize.toNat) 0 (by omega)
  rw [show ((0:Nat):Int)=0 from rfl] at hl
  unfold Krq at hf
  simp only [Bool.and_eq_true,Bool.not_eq_true'] at hf
  obtain ⟨⟨⟨h1,h2⟩,h3⟩,h4⟩:=hf
  cases he:(List.range' 0 (s.fSize.toNat * s.fSize.toNat)).all (Krj s s.fSize.toNat) with
  | false=>rw [he] at hl; simp [bs,h1,h2,h3,h4,hl]
  | true =>
   have T:=Krp F he
   have hl2:=Kp7 T s.fSize.toNat 0 (by omega)
   rw [show ((0:Nat):Int)=0 from rfl] at hl2
   rw [he] at hl
   have hm:(List.range' 0 s.fSize.toNat).all (fun a=>Kol s s.fSize.toNat a && (List.range' 0 s.fSize.toNat).all fun b=>Koy s s.fSize.toNat a b && (List.range' 0 s.fSize.toNat).all fun c=>Kom s s.fSize.toNat a b c)=Kp1 s s.fSize.toNat:=rfl
   rw [hm] at hl2
   cases hs:Kp1 s s.fSize.toNat <;> rw [hs] at hl2 <;> simp [bs,h1,h2,h3,h4,hl,hl2]
section
variable {s:K02} {n:Nat} (h:Tab s n)
include h
theorem Krw:wr (s.fSize - 1)=(n:Int) - 1:=by
 have:=h.lo; have:=h.hi
 rw [h.size,Ko2 (by omega) (by omega)]
end
inductive Ty where
 | num
 | bin (c:Int) (a b:Ty)
 | un (c:Int) (a:Ty)
namespace Ty
def code:Ty→List Int
 | num=>[0]
 | bin c a b=>c :: (a.code ++ b.code)
 | un c a=>c :: a.code
def ok:Ty→Prop
 | num=>True
 | bin c a b=>Kpc c=2∧a.ok∧b.ok
 | un c a=>Kpc c=1∧a.ok
def kids:Ty→List Ty
 | num=>[]
 | bin _ a b=>[a,b]
 | un _ a=>[a]
def hd:Ty→Int
 | num=>0
 | bin c _ _=>c
 | un c _=>c
end Ty
def Krx:List Ty→List Int
 | []=>[]
 | t :: l=>t.code ++ Krx l
theorem Kry (T:Ty):T.code=T.hd :: Krx T.kids:=by cases T <;> simp [Ty.code,Ty.hd,Ty.kids,Krx]
theorem Krz (T:Ty):1 ≤ T.code.length:=by rw [Kry]; simp
theorem Ks0 (T:Ty):∀ (m:Nat) (l:List Int),T.ok→skip (m + 1) (T.code ++ l)=skip m l:=by
 induction T with
 | num =>
  intro m l _
  rw [Ty.code,List.singleton_append,Kpm,show Kpc 0=0 from rfl,if_neg (by decide)]; rfl
 | bin c a b iha ihb =>
  intro m l h
  rw [Ty.code,List.cons_append,Kpm,h.1,if_neg (by decide),List.append_assoc,show m + (2:Int).toNat=(m + 1) + 1 from rfl,iha _ _ h.2.1,ihb _ _ h.2.2]
 | un c a ih =>
  intro m l h
  rw [Ty.code,List.cons_append,Kpm,h.1,if_neg (by decide),show m + (1:Int).toNat=m + 1 from rfl,ih _ _ h.2]
theorem Ks1 (l:List Int):∀ (m:Nat) (r:List Int),skip m l=some r→∃ Ts:List Ty,Ts.length=m∧(∀ T ∈ Ts,T.ok)∧l=Krx Ts ++ r:=by
 induction l with
 | nil =>
  intro m r h
  cases m with
  | zero=>rw [Kpk] at h; cases h; exact ⟨[],rfl,fun _ h=>(by cases h),rfl⟩
  | succ m=>rw [Kpl] at h; cases h
 | cons c l ih =>
  intro m r h
  cases m with
  | zero=>rw [Kpk] at h; cases h; exact ⟨[],rfl,fun _ h=>(by cases h),rfl⟩
  | succ m =>
   rw [Kpm] at h
   by_cases hk:Kpc c=-1
   ·rw [if_pos hk] at h; cases h
   ·rw [if_neg hk] at h
    obtain ⟨Ts,h1,h2,h3⟩:=ih _ _ h
    rcases Kpg c with ⟨q,e⟩ | ⟨q,e⟩ | ⟨q,e⟩ | ⟨q,e⟩
    ·subst q
     rw [e] at h1
     exact ⟨.num :: Ts,by simpa using h1,fun T hT=>by rcases List.mem_cons.1 hT with rfl | hT; exact trivial; exact h2 T hT,by rw [h3]; rfl⟩
    ·rw [e] at h1
     match Ts,h1 with
     | a :: b :: Ts,h1 =>
      refine ⟨.bin c a b :: Ts,by simpa using h1,fun T hT=>?_,by rw [h3]; simp [Krx,Ty.code]⟩
      rcases List.mem_cons.1 hT with rfl | hT
      ·exact ⟨e,h2 a List.mem_cons_self,h2 b (List.mem_cons_of_mem _ List.mem_cons_self)⟩
      ·exact h2 T (List.mem_cons_of_mem _ (List.mem_cons_of_mem _ hT))
     | [_],h1=>exact absurd h1 (by simp)
     | [],h1=>exact absurd h1 (by simp)
    ·rw [e] at h1
     match Ts,h1 with
     | a :: Ts,h1 =>
      refine ⟨.un c a :: Ts,by simpa using h1,fun T hT=>?_,by rw [h3]; simp [Krx,Ty.code]⟩
      rcases List.mem_cons.1 hT with rfl | hT
      ·exact ⟨e,h2 a List.mem_cons_self⟩
      ·exact h2 T (List.mem_cons_of_mem _ hT)
     | [],h1=>exact absurd h1 (by simp)
    ·exact absurd e hk
theorem Ks2 {ty:List Int} (h:wtB ty=true):∃ T:Ty,T.ok∧ty=T.code∧ty.length ≤ 40:=by
 have hl:=Kra h
 unfold wtB at h
 rw [Bool.and_eq_true,beq_iff_eq] at h
 obtain ⟨Ts,h1,h2,h3⟩:=Ks1 _ _ _ h.2
 match Ts,h1 with
 | [T],_=>exact ⟨T,h2 T List.mem_cons_self,by rw [h3]; simp [Krx],hl⟩
theorem Ks3 {T:Ty} (h:T.ok) (hl:T.code.length ≤ 40):wtB T.code=true:=by
 unfold wtB
 have:=Ks0 T 0 [] h
 rw [List.append_nil,Kpk] at this
 rw [decide_eq_true hl,show (1:Nat)=0 + 1 from rfl,this]; rfl
theorem Ks4 {T:Ty} (h:T.ok):∀ K ∈ T.kids,K.ok:=by
 intro K hK
 cases T with
 | num=>cases hK
 | bin c a b=>rcases List.mem_cons.1 hK with rfl | hK; exact h.2.1; rw [List.mem_singleton.1 hK]; exact h.2.2
 | un c a=>rw [List.mem_singleton.1 hK]; exact h.2
theorem Ks5 {pre:List Int} {T:Ty} {post:List Int} (h:T.ok):Kpp (pre ++ (T.code ++ post)) 1 pre.length=((pre.length + T.code.length:Nat):Int):=by
 unfold Kpp
 rw [List.drop_left,show (1:Nat)=0 + 1 from rfl,Ks0 T 0 post h,Kpk]
 simp only [List.length_append]
 omega
theorem Ks6 {α:Type} (p m q:List α) (mx:Option Int) (hmx:mx=none∨mx=some ((p.length + m.length:Nat):Int)):cut (p ++ (m ++ q)) (some (p.length:Int)) (some ((p.length + m.length:Nat):Int)) mx=some m:=by
 unfold cut
 have e:((p ++ (m ++ q)).take (p.length + m.length)).drop p.length=m:=by
  rw [← List.append_assoc,← List.length_append,List.take_left,List.drop_left]
 rw [if_pos]
 ·simp only [Option.getD_some,Int.toNat_natCast,e]
 ·rcases hmx with rfl | rfl <;> simp only [Option.getD_some,Option.getD_none,List.length_append] <;> omega
theorem Ks7 {α:Type} (p q:List α):cut (p ++ q) (some (p.length:Int)) none none=some q:=by
 unfold cut
 rw [if_pos]
 ·simp only [Option.getD_some,Option.getD_none,Int.toNat_natCast,List.take_length,List.drop_left]
 ·simp only [Option.getD_some,Option.getD_none,List.length_append]; omega
theorem Ks8 (Ks:List Ty):∀ (pre:List Int) (out:List (List Int)),(∀ K ∈ Ks,K.ok)→(pre ++ Krx Ks).length ≤ 1099511627776→out.length + Ks.length ≤ 1099511627776→Kn2 (pre ++ Krx Ks,out,(pre.length:Int))=some (out ++ Ks.map Ty.code):=by
 induction Ks with
 | nil =>
  intro pre out hk hl ho
  rw [show Krx []=[] from rfl,List.append_nil,Kn2.eq_def]
  simp only
  rw [Ko6 (Nat.le_refl _)]; simp
 | cons K Ks ih =>
  intro pre out hk hl ho
  have hK:=hk K List.mem_cons_self
  have hp:=Krz K
  rw [show Krx (K :: Ks)=K.code ++ Krx Ks from rfl] at hl ⊢
  rw [List.length_cons] at ho
  rw [Kn2.eq_def]
  simp only
  rw [Ko5 (by simp only [List.length_append]; omega),if_pos rfl,Kpt _ hl _ pre.length rfl,Ks5 hK,bs,Ks6 _ _ _ _ (.inr rfl),bs,Krd (by simp only [List.length_singleton]; omega),bs]
  have:=ih (pre ++ K.code) (out ++ [K.code]) (fun K hK=>hk K (List.mem_cons_of_mem _ hK)) (by rw [List.append_assoc]; exact hl) (by simp; omega)
  rw [List.append_assoc,List.length_append] at this
  rw [this,List.map_cons,List.append_assoc]; rfl
theorem Ks9 {T:Ty} (h:T.ok) (hl:T.code.length ≤ 1048576):Kn3 T.code=some (T.kids.map Ty.code):=by
 unfold Kn3
 have hk:T.kids.length ≤ 2:=by cases T <;> simp [Ty.kids]
 have e:[T.hd] ++ Krx T.kids=T.code:=(Kry T).symm
 have:=Ks8 T.kids [T.hd] [] (Ks4 h) (by rw [e]; omega) (by simp only [List.length_nil]; omega)
 rw [e] at this
 rw [show (1:Int)=(([T.hd].length:Nat):Int) from rfl,this,bs]; rfl
theorem Ksa {c:Int} {a:Ty} {r:List Int} (ha:a.ok) (hl:(c :: (a.code ++ r)).length ≤ 1099511627776):Kcz (c :: (a.code ++ r),0)=some a.code:=by
 unfold Kcz
 simp only
 have e:=Ks5 (pre:=[c]) (post:=r) ha
 have h1:=Kpr (c :: (a.code ++ r)) hl 1 (by simp)
 rw [show (((1:Nat)):Int)=1 from rfl] at h1
 rw [List.length_singleton] at e
 have e':Kpp (c :: (a.code ++ r)) 1 1=((1 + a.code.length:Nat):Int):=e
 rw [h1,bs,e',if_pos (by rfl)]
 have h2:=Ks6 [c] a.code r none (.inl rfl)
 rw [List.length_singleton] at h2
 have h2':cut (c :: (a.code ++ r)) (some 1) (some ((1 + a.code.length:Nat):Int)) none=some a.code:=h2
 simp only [List.length_cons,List.length_append] at hl
 rw [h2',bs,Krg _ (by omega),bs]
theorem Ksb {c:Int} {a:Ty} {r:List Int} (ha:a.ok) (hl:(c :: (a.code ++ r)).length ≤ 1099511627776):Kcz (c :: (a.code ++ r),1)=some r:=by
 unfold Kcz
 simp only
 have e:=Ks5 (pre:=[c]) (post:=r) ha
 have h1:=Kpr (c :: (a.code ++ r)) hl 1 (by simp)
 rw [show (((1:Nat)):Int)=1 from rfl] at h1
 rw [List.length_singleton] at e
 have e':Kpp (c :: (a.code ++ r)) 1 1=((1 + a.code.length:Nat):Int):=e
 rw [h1,bs,e',if_neg (by decide)]
 have h2:=Ks7 (c :: a.code) r
 rw [List.length_cons,List.cons_append,Nat.add_comm] at h2
 simp only [List.length_cons,List.length_append] at hl
 rw [h2,bs,Krg _ (by omega),bs]
def Ty.dat:Ty→Prop
 | .num=>True
 | .bin c a b=>(c=1∨c=2)∧a.dat∧b.dat
 | .un _ a=>a.dat
def Ksc (ty:List Int):Bool:=ty.all fun c=>!Kpa c
theorem Ksd (ty:List Int) (hty:ty.length ≤ 1099511627776):∀ (l:List Int) (i:Nat),ty.drop i=l→Khr (ty,(i:Int))=some (if l.all (fun c=>!Kpa c) then .inl () else .inr false):=by
 intro l
 induction l with
 | nil =>
  intro i hd
  rw [Khr.eq_def]
  simp only
  rw [Ko6 (Kp9 hd)]; rfl
 | cons c l ih =>
  intro i hd
  obtain ⟨hi,hx,hd'⟩:=Kp8 hd
  rw [Khr.eq_def]
  simp only
  rw [Ko5 hi,if_pos rfl,hx,bs,Kpd,bs,Ko4 (by omega),ih (i + 1) hd',List.all_cons]
  cases Kpa c <;> simp
theorem Kse (ty:List Int) (hty:ty.length ≤ 1099511627776):Khu ty=some (Ksc ty):=by
 unfold Khu Ksc
 rw [show (0:Int)=((0:Nat):Int) from rfl,Ksd ty hty _ 0 rfl,List.drop_zero,bs]
 cases ty.all (fun c=>!Kpa c) <;> rfl
theorem Ksf (c:Int):((Kph c).1 == 3)=Kpa c:=by
 unfold Kpa inB
 rcases Kpj c with ⟨h,e⟩ | ⟨h,e⟩ | ⟨h,e⟩ | ⟨h,e⟩ | ⟨h,e⟩ | ⟨h,e⟩ | ⟨h,e⟩ | ⟨h,e⟩ <;> rw [e] <;> (first | (subst h; rfl) | skip)
 ·rw [decide_eq_true (by omega:c ≥ 3),decide_eq_true (by omega:c ≤ 18)]; rfl
 ·rw [decide_eq_false (by omega:¬ c ≤ 18),beq_eq_false_iff_ne.2 (by omega:c ≠ 35)]; simp
 ·have:¬ (c ≥ 3∧c ≤ 18):=by omega
  rw [beq_eq_false_iff_ne.2 (by omega:c ≠ 35)]
  by_cases h3:c ≥ 3
  ·rw [decide_eq_false (by omega:¬ c ≤ 18)]; simp
  ·rw [decide_eq_false h3]; simp
theorem Ksg (c:Int):Kmw c=some (Kpa c):=by
 unfold Kmw
 rw [Kpi,bs]
 have:=Ksf c
 revert this
 rcases Kph c with ⟨a,b⟩
 intro this
 simp only at this ⊢
 rw [this]
theorem Ksh (ty:List Int) (hty:ty.length ≤ 1099511627776):∀ (l:List Int) (i:Nat),ty.drop i=l→∃ r,Kmx (ty,(i:Int))=some r∧(match r with | .inl _=>l.all (fun c=>!Kpa c)=true | .inr m=>l.all (fun c=>!Kpa c)=false∧0 ≤ m):=by
 intro l
 induction l with
 | nil =>
  intro i hd
  rw [Kmx.eq_def]
  simp only
  rw [Ko6 (Kp9 hd)]
  exact ⟨_,rfl,rfl⟩
 | cons c l ih =>
  intro i hd
  obtain ⟨hi,hx,hd'⟩:=Kp8 hd
  rw [Kmx.eq_def]
  simp only
  rw [Ko5 hi,if_pos rfl,hx,bs,Ksg,bs,Ko4 (by omega),List.all_cons]
  cases Kpa c
  ·obtain ⟨r,h1,h2⟩:=ih (i + 1) hd'
   exact ⟨r,h1,by simpa using h2⟩
  ·exact ⟨.inr (i:Int),rfl,by simp⟩
theorem Ksi (ty:List Int) (hty:ty.length ≤ 1099511627776):Kmz ty=some (!Ksc ty):=by
 unfold Kmz Kmy Ksc
 obtain ⟨r,h1,h2⟩:=Ksh ty hty _ 0 rfl
 rw [List.drop_zero] at h2
 rw [show (0:Int)=((0:Nat):Int) from rfl,h1,bs]
 cases r with
 | inl u=>simp only at h2; rw [h2]; rfl
 | inr m=>simp only at h2; rw [h2.1]; simp [bs,h2.2]
def Ksj (s:K02) (g:Int):Bool:=inB g 0 (wr (s.fSize - 1))
theorem Ksk (s:K02) (g:Int):Kmh (s,g)=some (Ksj s g):=by
 unfold Kmh Ksj
 simp only
 rw [iIn,bs]
def Ksl (s:K02) (c:Int):Bool:=!(((Kph c).1 == 3 || (Kph c).1 == 4) && !Ksj s (Kph c).2)
def Ksm (s:K02) (ty:List Int):Bool:=wtB ty && ty.all (Ksl s)
theorem Ksn (s:K02) (ty:List Int) (hty:ty.length ≤ 1099511627776):∀ (l:List Int) (i:Nat),ty.drop i=l→Kmu (s,ty,(i:Int))=some (if l.all (Ksl s) then .inl () else .inr false):=by
 intro l
 induction l with
 | nil =>
  intro i hd
  rw [Kmu.eq_def]
  simp only
  rw [Ko6 (Kp9 hd)]; rfl
 | cons c l ih =>
  intro i hd
  obtain ⟨hi,hx,hd'⟩:=Kp8 hd
  rw [Kmu.eq_def]
  simp only
  rw [Ko5 hi,if_pos rfl,hx,bs,Kpi,bs,Ko4 (by omega),ih (i + 1) hd',List.all_cons]
  unfold Ksl
  rcases Kph c with ⟨a,b⟩
  simp only [Ksk,bs]
  cases a == 3 <;> cases a == 4 <;> cases Ksj s b <;> simp [bs]
theorem Kso (s:K02) (ty:List Int) (hty:ty.length ≤ 1099511627776):Kmv (s,ty)=some (Ksm s ty):=by
 unfold Kmv Ksm
 simp only
 rw [Kpw ty hty,bs]
 cases wtB ty
 ·rfl
 ·rw [if_pos rfl,show (0:Int)=((0:Nat):Int) from rfl,Ksn s ty hty _ 0 rfl,List.drop_zero,bs]
  cases ty.all (Ksl s) <;> rfl
theorem Ksp {s:K02} {n:Nat} (h:Tab s n) (g:Int):Ksj s g=inB g 0 ((n:Int) - 1):=by
 unfold Ksj; rw [Krw h]
theorem Ksq {s:K02} {n:Nat} (h:Tab s n) {c:Int}:Ksl s c=Kpy s.fSize true c:=by
 unfold Ksl Kpy Kpx
 have hn:=h.lo
 rw [Ksp h,h.size]
 rcases Kpj c with ⟨q,e⟩ | ⟨q,e⟩ | ⟨q,e⟩ | ⟨q,e⟩ | ⟨q,e⟩ | ⟨q,e⟩ | ⟨q,e⟩ | ⟨q,e⟩ <;> rw [e]
 ·subst q; rfl
 ·subst q; rfl
 ·subst q; rfl
 ·have hk:Kpc c=2:=by rcases Kpg c with h | h | h | h <;> omega
  rw [hk,if_neg (by omega),if_neg (by omega),decide_eq_true (by omega:c > 2)]
  unfold inB
  rw [decide_eq_true (by omega:c - 3 ≥ 0),decide_eq_false (by omega:¬ c - 3 < 0)]
  by_cases hc:c - 3 ≤ (n:Int) - 1
  ·rw [decide_eq_true hc,decide_eq_false (by omega:¬ c - 3 ≥ (n:Int))]; rfl
  ·rw [decide_eq_false hc,decide_eq_true (by omega:c - 3 ≥ (n:Int))]; rfl
 ·subst q; unfold inB; simp [Kpc,Kpa,Kpb,inB]
 ·have hk:Kpc c=1:=by rcases Kpg c with h | h | h | h <;> omega
  rw [hk,if_neg (by omega),if_pos (by omega),decide_eq_true (by omega:c > 2)]
  unfold inB
  rw [decide_eq_true (by omega:c - 19 ≥ 0),decide_eq_false (by omega:¬ c - 19 < 0)]
  by_cases hc:c - 19 ≤ (n:Int) - 1
  ·rw [decide_eq_true hc,decide_eq_false (by omega:¬ c - 19 ≥ (n:Int))]; rfl
  ·rw [decide_eq_false hc,decide_eq_true (by omega:c - 19 ≥ (n:Int))]; rfl
 ·subst q; unfold inB; simp [Kpc,Kpa,Kpb,inB]
 ·have hk:Kpc c=-1:=by rcases Kpg c with h | h | h | h <;> omega
  rw [hk]; simp
theorem Ksr {s:K02} {n:Nat} (h:Tab s n) (ty:List Int):Ksm s ty=yN s.fSize true ty:=by
 unfold Ksm yN
 rw [show Ksl s=Kpy s.fSize true from funext fun c=>Ksq h]
def Kss (s:K02) (ty:List Int):Bool:=Krs s && Ksm s ty
theorem Kst (s:K02) (ty:List Int) (hty:ty.length ≤ 1099511627776):Khn (s,ty)=some (Kss s ty):=by
 unfold Khn Kss
 simp only
 rw [Kru,bs]
 cases hs:Krs s
 ·rfl
 ·rw [if_pos rfl,Kpv ty hty,bs,Kq1 ty hty,Bool.true_and,Ksr (Krt hs)]
  unfold yN
  cases wtB ty <;> rfl
theorem Ksu (s:K02) (ty:List Int) (hty:ty.length ≤ 1099511627776):Khx (s,ty)=some (Kss s ty && Ksc ty):=by
 unfold Khx
 simp only
 rw [Kst s ty hty,bs,Kse ty hty]
 cases Kss s ty <;> rfl
theorem Ksv (s:K02) (ty:List Int) (hty:ty.length ≤ 1099511627776):Kn0 (s,ty)=some (Ksm s ty && Ksc ty):=by
 unfold Kn0
 simp only
 rw [Kso s ty hty,bs,Ksi ty hty]
 cases Ksm s ty <;> simp [bs]
theorem Ksw (s:K02) (ty:List Int) (hty:ty.length ≤ 1099511627776):Kn1 (s,ty)=some (Kss s ty && Ksc ty):=by
 unfold Kn1 Kss
 simp only
 rw [Ksv s ty hty,bs,Krv]
 cases Ksm s ty <;> cases Ksc ty <;> cases Krs s <;> rfl
def Ksx:Ty→Nat
 | .num=>3
 | .bin c a b=>if c=1 then min (Ksx a * Ksx b) 301 else min (Ksx a + Ksx b) 301
 | .un _ a=>Ksx a
theorem Ksy (T:Ty):1 ≤ Ksx T∧Ksx T ≤ 301:=by
 induction T with
 | num=>decide
 | bin c a b iha ihb =>
  rw [Ksx]
  have:1 ≤ Ksx a * Ksx b:=Nat.mul_le_mul iha.1 ihb.1
  split <;> omega
 | un c a ih=>rw [Ksx]; exact ih
theorem Ksz {α:Type} (x:α) (l:List α):idx (x :: l) 0=some x:=rfl
theorem Kt0 {α:Type} (x y:α) (l:List α):idx (x :: y :: l) 1=some y:=rfl
theorem Kt1 {a b:Nat} (ha:a ≤ 301) (hb:b ≤ 301):wr ((a:Int) * (b:Int))=((a * b:Nat):Int):=by
 have:a * b ≤ 301 * 301:=Nat.mul_le_mul ha hb
 rw [← Int.natCast_mul,Ko2 (by omega) (by omega)]
theorem Kt2 {a b:Nat} (ha:a ≤ 1099511627776) (hb:b ≤ 1099511627776):wr ((a:Int) + (b:Int))=((a + b:Nat):Int):=by rw [Ko2 (by omega) (by omega)]; omega
theorem Kt3 (a b:Nat):K81 ((a:Int),(b:Int))=some ((min a b:Nat):Int):=by
 unfold K81
 simp only
 by_cases h:a < b
 ·rw [decide_eq_true (by omega:(a:Int) < (b:Int)),if_pos rfl,Nat.min_eq_left (by omega)]
 ·rw [decide_eq_false (by omega:¬ (a:Int) < (b:Int)),if_neg (by decide),Nat.min_eq_right (by omega)]
theorem Kt4 (a b:Nat):mnx false (a:Int) (b:Int)=((min a b:Nat):Int):=by
 unfold mnx
 simp only [cond_false]
 by_cases h:b < a
 ·rw [if_pos (by omega),Nat.min_eq_right (by omega)]
 ·rw [if_neg (by omega),Nat.min_eq_left (by omega)]
theorem Kt5 (T:Ty):T.ok→T.dat→T.code.length ≤ 1048576→Ki0 T.code=some ((Ksx T:Nat):Int):=by
 induction T with
 | num=>intro _ _ _; rw [Ki0.eq_def]; rfl
 | bin c a b iha ihb =>
  intro h hd hl
  have h0:=Ksa (c:=c) (r:=b.code) h.2.1 (by rw [Ty.code] at hl; omega)
  have h1:=Ksb (c:=c) (r:=b.code) h.2.1 (by rw [Ty.code] at hl; omega)
  have la:=Ksy a
  have lb:=Ksy b
  rw [Ty.code,List.length_cons,List.length_append] at hl
  rw [Ty.code,Ki0.eq_def]
  rw [Ksz,bs]
  rcases hd.1 with rfl | rfl
  ·rw [if_neg (by decide),if_pos (by rfl),h0,bs,iha h.2.1 hd.2.1 (by omega),bs,h1,bs,ihb h.2.2 hd.2.2 (by omega),bs,Kt1 la.2 lb.2,show (301:Int)=((301:Nat):Int) from rfl,Kt3,bs,Ksx,if_pos rfl]
  ·rw [if_neg (by decide),if_neg (by decide),if_pos (by rfl),h0,bs,iha h.2.1 hd.2.1 (by omega),bs,h1,bs,ihb h.2.2 hd.2.2 (by omega),bs,Kt2 (by omega) (by omega),show (301:Int)=((301:Nat):Int) from rfl,Kt3,bs,Ksx,if_neg (by decide)]
 | un c a ih =>
  intro h hd hl
  have e:Ty.code (.un c a)=c :: (a.code ++ []):=by rw [Ty.code,List.append_nil]
  have h0:=Ksa (c:=c) (r:=[]) h.2 (by rw [← e]; omega)
  rw [Ty.code,List.length_cons] at hl
  have hk:=h.1
  have hc:c ≠ 0∧c ≠ 1∧c ≠ 2:=by rcases Kpg c with q | q | q | q <;> omega
  rw [e,Ki0.eq_def]
  rw [Ksz,bs,beq_eq_false_iff_ne.2 hc.1,beq_eq_false_iff_ne.2 hc.2.1,beq_eq_false_iff_ne.2 hc.2.2]
  rw [if_neg (by decide),if_neg (by decide),if_neg (by decide),h0,bs,ih h.2 hd (by omega),bs,Ksx]
theorem Kt6 (T:Ty):T.ok→T.dat→T.code.length ≤ 1048576→Kn4 T.code=some ((Ksx T:Nat):Int):=by
 induction T with
 | num=>intro _ _ _; rw [Kn4.eq_def,Ks9 (T:=.num) trivial (by simp [Ty.code])]; rfl
 | bin c a b iha ihb =>
  intro h hd hl
  have la:=Ksy a
  have lb:=Ksy b
  have hp:=Ks9 h hl
  rw [Ty.kids,List.map_cons,List.map_cons,List.map_nil] at hp
  rw [Kn4.eq_def,hp]
  rw [Ty.code,List.length_cons,List.length_append] at hl
  rw [Ty.code,Ksz,bs,Kpi,bs]
  rcases hd.1 with rfl | rfl
  ·rw [show Kph 1=(1,-1) from rfl]
   simp only [bs,Ksz,Kt0]
   rw [iha h.2.1 hd.2.1 (by omega),ihb h.2.2 hd.2.2 (by omega)]
   simp only [bs]
   rw [if_pos (by rfl),bs,Kt1 la.2 lb.2,show (301:Int)=((301:Nat):Int) from rfl,Kt4,Ksx,if_pos rfl]
  ·rw [show Kph 2=(2,-1) from rfl]
   simp only [bs,Ksz,Kt0]
   rw [iha h.2.1 hd.2.1 (by omega),ihb h.2.2 hd.2.2 (by omega)]
   simp only [bs]
   rw [if_neg (by decide),if_pos (by rfl),bs,bs,Kt2 (by omega) (by omega),show (301:Int)=((301:Nat):Int) from rfl,Kt4,Ksx,if_neg (by decide)]
 | un c a ih =>
  intro h hd hl
  have la:=Ksy a
  have hp:=Ks9 h hl
  rw [Ty.kids,List.map_cons,List.map_nil] at hp
  have hk:=h.1
  have hc:(Kph c).1=4:=by rcases Kpj c with ⟨q,e⟩ | ⟨q,e⟩ | ⟨q,e⟩ | ⟨q,e⟩ | ⟨q,e⟩ | ⟨q,e⟩ | ⟨q,e⟩ | ⟨q,e⟩ <;> rw [e] <;> simp only <;> (rcases Kpg c with q | q | q | q <;> omega)
  rw [Kn4.eq_def,hp]
  rw [Ty.code,List.length_cons] at hl
  rw [Ty.code,Ksz,bs,Kpi,bs]
  revert hc
  rcases Kph c with ⟨x,y⟩
  intro hc
  simp only at hc
  subst hc
  simp only [bs,Ksz]
  rw [ih h.2 hd (by omega)]
  simp only [bs]
  rw [if_neg (by decide),if_neg (by decide),if_pos (by rfl),bs,bs,bs,show (301:Int)=((301:Nat):Int) from rfl,Kt4,Ksx,Nat.min_eq_left la.2]
def sms (s:K02):Nat:=s.fPlus.length + s.fTimes.length + s.fBelow.length
theorem Kt7 (a b:List K00):Kq5 (a ++ b)=Kq5 a + Kq5 b:=by
 induction a with
 | nil=>simp [Kq5]
 | cons x l ih=>rw [List.cons_append,Kq5,Kq5,ih]; omega
theorem Kt8 {l:List K00} {t:K00} (h:t ∈ l):tms t + l.length ≤ Kq5 l + l.length:=by
 induction l with
 | nil=>cases h
 | cons x l ih =>
  rw [Kq5]
  rcases List.mem_cons.1 h with rfl | h
  ·omega
  ·have:=ih h; omega
theorem Kt9 {l:List K00} {t:K00} (h:t ∈ l):tsz t ≤ Kq4 l:=by
 induction l with
 | nil=>cases h
 | cons x l ih =>
  rw [Kq4]
  rcases List.mem_cons.1 h with rfl | h
  ·omega
  ·have:=ih h; omega
theorem Kta {t k:K00} (h:k ∈ t.fKids):tsz k + 1 ≤ tsz t:=by
 rw [Kq7 t]
 have:=Kt9 h
 omega
mutual
theorem Ktb:∀ (t:K00),tms t ≤ 1099511627776→Kjh t=some t
 | ⟨op,N,ty,ks⟩,h=>by
  rw [tms] at h
  rw [Kjh.eq_def]
  simp only
  rw [Krh ty (by omega),bs,show (0:Int)=((0:Nat):Int) from rfl,Ktc ks ⟨op,N,ty,ks⟩ 0 ty [] rfl (by simp only; omega) (by omega) (by simp),bs]
  rfl
theorem Ktc:∀ (ks:List K00) (t:K00) (i:Nat) (r:List Int) (out:List K00),t.fKids.drop i=ks→t.fKids.length ≤ 1099511627776→Kq5 ks ≤ 1099511627776→out.length=i→Kji (t,r,out,(i:Int))=some (out ++ ks)
 | [],t,i,r,out,hd,hk,hm,ho=>by
  rw [Kji.eq_def]
  simp only
  rw [Ko6 (Kp9 hd),List.append_nil]; rfl
 | k :: ks,t,i,r,out,hd,hk,hm,ho=>by
  obtain ⟨hi,hx,hd'⟩:=Kp8 hd
  rw [Kq5] at hm
  rw [Kji.eq_def]
  simp only
  rw [Ko5 hi,if_pos rfl,hx,bs,Ktb k (by omega),bs,Krd (by simp only [List.length_singleton]; omega),bs,Ko4 (by omega),Ktc ks t (i + 1) r _ hd' hk (by omega) (by simp [ho]),List.append_assoc]
  rfl
end
mutual
def tNb (hi:Int):K00→Prop
 | ⟨op,N,_,ks⟩=>(op=0→-9223372036854775808 ≤ N∧N ≤ hi)∧Ktd hi ks
def Ktd (hi:Int):List K00→Prop
 | []=>True
 | k :: ks=>tNb hi k∧Ktd hi ks
end
mutual
def shf (by_:Int):Int→K00→K00
 | from_,⟨op,N,ty,ks⟩=>⟨op,if op == 0 && decide (N ≥ from_) then N + by_ else N,ty,Kte by_ op from_ 0 ks⟩
def Kte (by_:Int):Int→Int→Nat→List K00→List K00
 | _,_,_,[]=>[]
 | op,from_,i,k :: ks=>shf by_ (from_ + ((Kqo op (i:Int):Nat):Int)) k :: Kte by_ op from_ (i + 1) ks
end
mutual
theorem Ktf:∀ (t:K00) (fr:Int),shf 0 fr t=t
 | ⟨op,N,ty,ks⟩,fr=>by
  rw [shf,Ktg ks]
  simp
theorem Ktg:∀ (ks:List K00) (op fr:Int) (i:Nat),Kte 0 op fr i ks=ks
 | [],op,fr,i=>by rw [Kte]
 | k :: ks,op,fr,i=>by rw [Kte,Ktf k,Ktg ks]
end
theorem Kth (by_:Int):∀ (ks:List K00) (op fr:Int) (i:Nat),(Kte by_ op fr i ks).length=ks.length
 | [],op,fr,i=>by rw [Kte]
 | k :: ks,op,fr,i=>by rw [Kte,List.length_cons,List.length_cons,Kth by_ ks]
mutual
theorem Kti (b hi:Int) (hb:0 ≤ b) (hh:hi + b ≤ 9223372036854775807):∀ (t:K00) (fr:Int),tNb hi t→tms t ≤ 1099511627776→-35184372088832 ≤ fr→fr + 2 * tms t ≤ 35184372088832→Kes (t,b,fr)=some (shf b fr t)
 | ⟨op,N,ty,ks⟩,fr,hn,hm,h1,h2=>by
  rw [tms] at hm h2
  rw [tNb] at hn
  rw [Kes.eq_def,shf]
  simp only
  rw [Krg ty (by omega),bs]
  refine (Kq3 (x:=op == 0 && decide (N ≥ fr)) ?_).trans ?_
  ·cases op == 0 <;> rfl
  refine (Kq3 (x:=if op == 0 && decide (N ≥ fr) then N + b else N) ?_).trans ?_
  ·cases h:op == 0 && decide (N ≥ fr)
   ·rfl
   ·rw [Bool.and_eq_true] at h
    have:=hn.1 (eq_of_beq h.1)
    rw [if_pos rfl,Ko2 (by omega) (by omega)]; rfl
  rw [show (0:Int)=((0:Nat):Int) from rfl,Ktj b hi hb hh ks ⟨op,N,ty,ks⟩ fr 0 ty _ [] rfl (by simp only; omega) hn.2 (by omega) h1 (by omega) (by simp),bs]
  rfl
theorem Ktj (b hi:Int) (hb:0 ≤ b) (hh:hi + b ≤ 9223372036854775807):∀ (ks:List K00) (t:K00) (fr:Int) (i:Nat) (r:List Int) (o:Int) (out:List K00),t.fKids.drop i=ks→t.fKids.length ≤ 1099511627776→Ktd hi ks→Kq5 ks ≤ 1099511627776→-35184372088832 ≤ fr →
  fr + 2 * (ks.length + Kq5 ks) ≤ 35184372088832→out.length=i→Ket (t,b,fr,r,o,out,(i:Int))=some (out ++ Kte b t.fOp fr i ks)
 | [],t,fr,i,r,o,out,hd,hk,hn,hm,h1,h2,ho=>by
  rw [Ket.eq_def,Kte]
  simp only
  rw [Ko6 (Kp9 hd),List.append_nil]; rfl
 | k :: ks,t,fr,i,r,o,out,hd,hk,hn,hm,h1,h2,ho=>by
  obtain ⟨hi',hx,hd'⟩:=Kp8 hd
  rw [Kq5] at hm h2
  rw [List.length_cons] at h2
  rw [Ktd] at hn
  have ha:=Kqp t.fOp (i:Int)
  rw [Ket.eq_def,Kte]
  simp only
  rw [Ko5 hi',if_pos rfl,hx,bs,Kqq,bs,Ko2 (by omega) (by omega),Kti b hi hb hh k _ hn.1 (by omega) (by omega) (by omega),bs,Krd (by simp only [List.length_singleton]; omega),bs,Ko4 (by omega)]
  rw [Ktj b hi hb hh ks t fr (i + 1) r o _ hd' hk hn.2 (by omega) h1 (by omega) (by simp [ho]),List.append_assoc]
  rfl
end
mutual
theorem Ktk {a b:Int} (h:a ≤ b):∀ (t:K00),tNb a t→tNb b t
 | ⟨op,N,ty,ks⟩,hn=>by
  rw [tNb] at hn ⊢
  exact ⟨fun e=>by have:=hn.1 e; omega,Ktl h ks hn.2⟩
theorem Ktl {a b:Int} (h:a ≤ b):∀ (ks:List K00),Ktd a ks→Ktd b ks
 | [],_=>by rw [Ktd]; trivial
 | k :: ks,hn=>by rw [Ktd] at hn ⊢; exact ⟨Ktk h k hn.1,Ktl h ks hn.2⟩
end
mutual
theorem Ktm (g:Int→Bool) (y:List Int→Bool):∀ (t:K00) (n:Nat),tOk g y n t=true→tNb ((n:Int) + 2 * tsz t) t
 | ⟨op,N,ty,ks⟩,n,h=>by
  obtain ⟨h1,h2⟩:=Krb h
  rw [tNb]
  refine ⟨fun e=>?_,?_⟩
  ·subst e
   unfold Kqu Kqs at h1
   simp only [Bool.and_eq_true] at h1
   have h3:=h1.1.2
   rw [show ((0:Int) == 0)=true from rfl,if_pos rfl] at h3
   unfold inB at h3
   simp only [Bool.and_eq_true,decide_eq_true_eq] at h3
   omega
  ·rw [tsz]
   exact Ktl (by omega) ks (Ktn g y ks op n 0 h2)
theorem Ktn (g:Int→Bool) (y:List Int→Bool):∀ (ks:List K00) (op:Int) (n i:Nat),Kqv g y op n i ks=true→Ktd ((n:Int) + 2 * Kq4 ks + 2) ks
 | [],op,n,i,h=>by rw [Ktd]; trivial
 | k :: ks,op,n,i,h=>by
  rw [Kqv,Bool.and_eq_true] at h
  have ha:=Kqp op (i:Int)
  rw [Ktd,Kq4]
  exact ⟨Ktk (by omega) k (Ktm g y k _ h.1),Ktl (by omega) ks (Ktn g y ks op n (i + 1) h.2)⟩
end
theorem Kto {t:K00} (h:wB t=true):tOk (gN 16 false) wtB 8 t=true∧tsz t ≤ 400:=by
 unfold wB at h
 rw [Bool.and_eq_true,decide_eq_true_eq] at h
 exact h
theorem Ktp {t:K00} (hn:tNb 9223372036854775807 t) (hm:tms t ≤ 1099511627776):Kes (t,0,0)=some t:=by
 rw [Kti 0 9223372036854775807 (by omega) (by omega) t 0 hn hm (by omega) (by omega),Ktf]
mutual
theorem Ktq:∀ (t:K00),tln t→tNb 9223372036854775807 t
 | ⟨op,N,ty,ks⟩,h=>by rw [tln] at h; rw [tNb]; exact ⟨fun _=>h.2.2.2,Ktr ks h.2.2.1⟩
theorem Ktr:∀ (ks:List K00),Kr7 ks→Ktd 9223372036854775807 ks
 | [],h=>by rw [Ktd]; trivial
 | k :: ks,h=>by rw [Kr7] at h; rw [Ktd]; exact ⟨Ktq k h.1,Ktr ks h.2⟩
end
def noT:K00:=⟨0,0,[],[]⟩
def okT (o:Option K00):K00 × Bool:=match o with | some u=>(u,true) | none=>(noT,false)
theorem Kts (b:Bool):Kg9 (b,-1)=some (if b then 35 else 36):=by cases b <;> rfl
theorem Ktt {l:List K00} {i:Nat} (hi:i < l.length) (u:K00):Kq5 (l.set i u) + tms l[i]=Kq5 l + tms u:=by
 induction l generalizing i with
 | nil=>simp at hi
 | cons x l ih =>
  cases i with
  | zero=>simp only [List.set_cons_zero,Kq5,List.getElem_cons_zero]; omega
  | succ i =>
   have:=ih (i:=i) (by simpa using hi)
   simp only [List.set_cons_succ,Kq5,List.getElem_cons_succ]; omega
theorem Ktu {α:Type} (x:α) (l:List α):cut (x :: l) (some 1) none none=some l:=Ks7 [x] l
theorem Ktv {g:Int→Bool} {y:List Int→Bool}:∀ (ks:List K00) (op:Int) (n i j:Nat) (hj:j < ks.length),Kqv g y op n i ks=true→tOk g y (n + Kqo op ((i + j:Nat):Int)) ks[j]=true
 | k :: ks,op,n,i,j,hj,ht=>by
  rw [Kqv,Bool.and_eq_true] at ht
  cases j with
  | zero=>exact ht.1
  | succ j =>
   have:=Ktv ks op n (i + 1) j (by simpa using hj) ht.2
   rw [show i + 1 + j=i + (j + 1) by omega] at this
   exact this
theorem Ktw {c:Int} (h:Kpc c=1):(c ≠ 0∧c ≠ 1∧c ≠ 2)∧Kpb c=true∧Kpa c=false∧Kph c=(4,Kpx c):=by
 rcases Kpg c with q | q | ⟨q,_⟩ | q
 ·omega
 ·omega
 ·rcases Kpj c with ⟨h,e⟩ | ⟨h,e⟩ | ⟨h,e⟩ | ⟨h,e⟩ | ⟨h,e⟩ | ⟨h,e⟩ | ⟨h,e⟩ | ⟨h,e⟩
  ·omega
  ·omega
  ·omega
  ·omega
  ·omega
  ·refine ⟨by omega,?_,?_,?_⟩
   ·unfold Kpb inB; simp; omega
   ·unfold Kpa inB; rw [Bool.eq_false_iff]; simp; omega
   ·rw [e]; unfold Kpx; rw [if_neg (by omega),if_pos (by omega)]
  ·subst h; exact ⟨by omega,rfl,rfl,rfl⟩
  ·omega
 ·omega
structure Ktx (c:Int) (a b:Ty):Prop where
 p0:Kcz (c :: (a.code ++ b.code),0)=some a.code
 p1:Kcz (c :: (a.code ++ b.code),1)=some b.code
 pp:Kn3 (c :: (a.code ++ b.code))=some [a.code,b.code]
 ok:a.ok∧b.ok
 la:a.code.length + b.code.length + 1 ≤ 1048576
theorem Kty {c:Int} {a b:Ty} (h:(Ty.bin c a b).ok) (hl:(Ty.bin c a b).code.length ≤ 1048576):Ktx c a b:=by
 have hl':=hl
 rw [Ty.code] at hl'
 have h3:=Ks9 h hl
 rw [Ty.kids,List.map_cons,List.map_cons,List.map_nil,Ty.code] at h3
 refine ⟨Ksa h.2.1 (by omega),Ksb h.2.1 (by omega),h3,h.2,?_⟩
 rw [List.length_cons,List.length_append] at hl'
 omega
structure UnP (c:Int) (a:Ty):Prop where
 p0:Kcz (c :: a.code,0)=some a.code
 pp:Kn3 (c :: a.code)=some [a.code]
 ok:a.ok
 la:a.code.length + 1 ≤ 1048576
theorem unP {c:Int} {a:Ty} (h:(Ty.un c a).ok) (hl:(Ty.un c a).code.length ≤ 1048576):UnP c a:=by
 have hl':=hl
 rw [Ty.code] at hl'
 have h3:=Ks9 h hl
 rw [Ty.kids,List.map_cons,List.map_nil,Ty.code] at h3
 have h4:=Ksa (c:=c) (r:=[]) h.2 (by rw [List.append_nil]; omega)
 rw [List.append_nil] at h4
 refine ⟨h4,h3,h.2,?_⟩
 rw [List.length_cons] at hl'
 omega
theorem Ktz:Kn3 [0]=some []:=Ks9 (T:=.num) trivial (by simp [Ty.code])
def vAt:Ty→Int→K00
 | .num,k=>⟨1,k,[],[]⟩
 | .bin c a b,k=>if c=1 then ⟨4,0,[],[vAt a (wr (Int.tdiv k (Ksx b))),vAt b (Int.tmod k (Ksx b))]⟩ else if k < (Ksx a:Int) then ⟨6,0,b.code,[vAt a k]⟩ else ⟨7,0,a.code,[vAt b (wr (k - (Ksx a:Int)))]⟩
 | .un c a,k=>⟨11,Kpx c,[],[vAt a k]⟩
theorem Ku0 {p:Prop} [Decidable p] (h:p):chk p=some ():=by unfold chk; rw [if_pos h]
theorem Ku1 (T:Ty):T.ok→T.dat→T.code.length ≤ 1048576→∀ k,Ki6 (T.code,k)=some (vAt T k):=by
 induction T with
 | num=>intro _ _ _ k; rw [Ki6.eq_def]; rfl
 | bin c a b iha ihb =>
  intro h hd hl k
  have P:=Kty h hl
  have la:=P.la
  have ha:=iha P.ok.1 hd.2.1 (by omega)
  have hb:=ihb P.ok.2 hd.2.2 (by omega)
  have ca:=Kt5 a P.ok.1 hd.2.1 (by omega)
  have cb:=Kt5 b P.ok.2 hd.2.2 (by omega)
  have na:=Ksy a
  have nb:=Ksy b
  rw [Ty.code,Ki6.eq_def]
  simp only
  rw [Ksz,bs,P.p0,P.p1,vAt,Kpe]
  simp only [bs]
  rcases hd.1 with rfl | rfl
  ·rw [if_neg (by decide),show Kpb 1=false from rfl,if_neg (by decide),if_pos (by rfl),cb,bs,Ku0 (by omega),bs,ha,bs,bs,hb,bs,if_pos rfl]
  ·rw [if_neg (by decide),show Kpb 2=false from rfl,if_neg (by decide),if_neg (by decide),ca,bs]
   by_cases q:k < (Ksx a:Int)
   ·rw [decide_eq_true q,if_pos rfl,ha,bs,if_neg (by decide),if_pos q]
   ·rw [decide_eq_false q,if_neg (by decide),hb,bs,if_neg (by decide),if_neg q]
 | un c a ih =>
  intro h hd hl k
  have P:=unP h hl
  have la:=P.la
  have ha:=ih P.ok hd (by omega)
  obtain ⟨h0,h1,h2,h3⟩:=Ktw h.1
  rw [Ty.code,Ki6.eq_def]
  simp only
  rw [Ksz,bs,P.p0,vAt,Kpe]
  simp only [bs,ha]
  rw [beq_eq_false_iff_ne.2 h0.1,h1,Kpz (by rw [h.1]; decide)]
  simp [bs]
theorem Ku2 (T:Ty):T.ok→T.dat→T.code.length ≤ 1048576→∀ k,Kn6 (T.code,k)=some (vAt T k):=by
 induction T with
 | num=>intro _ _ _ k; rw [Kn6.eq_def,Ty.code]; simp only; rw [Ktz]; rfl
 | bin c a b iha ihb =>
  intro h hd hl k
  have P:=Kty h hl
  have la:=P.la
  have ha:=iha P.ok.1 hd.2.1 (by omega)
  have hb:=ihb P.ok.2 hd.2.2 (by omega)
  have ca:=Kt6 a P.ok.1 hd.2.1 (by omega)
  have cb:=Kt6 b P.ok.2 hd.2.2 (by omega)
  have na:=Ksy a
  have nb:=Ksy b
  rw [Ty.code,Kn6.eq_def]
  simp only
  rw [Ksz,bs,P.pp,vAt,Kpi,bs]
  rcases hd.1 with rfl | rfl
  ·rw [show Kph 1=(1,-1) from rfl]
   simp only [bs,Ksz,Kt0,cb,ha,hb]
   rw [if_pos (by rfl),Ku0 (by omega),bs,bs,if_pos trivial]
  ·rw [show Kph 2=(2,-1) from rfl]
   simp only [bs,Ksz,Kt0,ca,ha,hb,Krh a.code (by omega),Krh b.code (by omega)]
   rw [if_neg (by decide),if_pos (by rfl)]
   by_cases q:k < (Ksx a:Int)
   ·rw [decide_eq_false (by omega),if_neg (by decide),if_neg (by decide),if_pos q]
   ·rw [decide_eq_true (by omega),if_pos rfl,if_neg (by decide),if_neg q]
 | un c a ih =>
  intro h hd hl k
  have P:=unP h hl
  have la:=P.la
  have ha:=ih P.ok hd (by omega)
  obtain ⟨h0,h1,h2,e⟩:=Ktw h.1
  rw [Ty.code,Kn6.eq_def]
  simp only
  rw [Ksz,bs,P.pp,vAt,Kpi,bs,e]
  simp [bs,Ksz,ha]
theorem Ku3 (x y:Int) (l r:List Int):(x :: l == y :: r)=(x == y && l == r):=rfl
theorem Ku4 (a b:List Int) (ha:a.length ≤ 1099511627776) (hab:a.length=b.length):∀ (l r:List Int) (i:Nat),a.drop i=l→b.drop i=r→Kc7 (a,b,(i:Int))=some (if l == r then .inl () else .inr false):=by
 intro l
 induction l with
 | nil =>
  intro r i h1 h2
  have hi:=Kp9 h1
  rw [Kc7.eq_def]
  simp only
  rw [Ko6 hi]
  have:r=[]:=by rw [← h2]; exact List.drop_eq_nil_of_le (by omega)
  subst this; rfl
 | cons x l ih =>
  intro r i h1 h2
  obtain ⟨hi,hx,hd⟩:=Kp8 h1
  cases r with
  | nil=>have:=Kp9 h2; omega
  | cons y r =>
   obtain ⟨_,hy,hd2⟩:=Kp8 h2
   rw [Kc7.eq_def]
   simp only
   rw [Ko5 hi,if_pos rfl,hx,hy,bs,bs,Ko4 (by omega),ih r (i + 1) hd hd2,Ku3]
   by_cases e:x=y
   ·subst e; simp
   ·rw [bne_iff_ne.2 e,if_pos rfl,beq_eq_false_iff_ne.2 e]; rfl
theorem Ku5 (a b:List Int) (hb:b.length ≤ 1099511627776):Kca (a,b)=some (a == b):=by
 unfold Kca
 simp only
 by_cases h:a.length=b.length
 ·rw [h,Ko7,if_neg (by decide)]
  have:=Ku4 a b (by omega) h a b 0 rfl rfl
  rw [show ((0:Nat):Int)=0 from rfl] at this
  rw [this]
  cases a == b <;> rfl
 ·rw [bne_iff_ne.2 (by omega),if_pos rfl]
  have:a ≠ b:=fun e=>h (by rw [e])
  rw [beq_eq_false_iff_ne.2 this]
theorem Ku6 (a b:List Int) (ha:a.length ≤ 1099511627776) (hab:a.length=b.length):∀ (l r:List Int) (i:Nat),a.drop i=l→b.drop i=r→Klu (a,b,(i:Int))=some (if l == r then .inl () else .inr false):=by
 intro l
 induction l with
 | nil =>
  intro r i h1 h2
  have hi:=Kp9 h1
  rw [Klu.eq_def]
  simp only
  rw [Ko6 hi]
  have:r=[]:=by rw [← h2]; exact List.drop_eq_nil_of_le (by omega)
  subst this; rfl
 | cons x l ih =>
  intro r i h1 h2
  obtain ⟨hi,hx,hd⟩:=Kp8 h1
  cases r with
  | nil=>have:=Kp9 h2; omega
  | cons y r =>
   obtain ⟨_,hy,hd2⟩:=Kp8 h2
   rw [Klu.eq_def]
   simp only
   rw [Ko5 hi,if_pos rfl,hx,hy,bs,bs,Ko4 (by omega),ih r (i + 1) hd hd2,Ku3]
   by_cases e:x=y
   ·subst e; simp
   ·rw [bne_iff_ne.2 e,if_pos rfl,beq_eq_false_iff_ne.2 e]; rfl
theorem Ku7 (a b:List Int) (hb:b.length ≤ 1099511627776):Klx (a,b)=some (a == b):=by
 unfold Klx
 simp only
 by_cases h:a.length=b.length
 ·rw [h,Ko7,if_neg (by decide)]
  have:=Ku6 a b (by omega) h a b 0 rfl rfl
  rw [show ((0:Nat):Int)=0 from rfl] at this
  rw [this]
  cases a == b <;> rfl
 ·rw [bne_iff_ne.2 (by omega),if_pos rfl]
  have:a ≠ b:=fun e=>h (by rw [e])
  rw [beq_eq_false_iff_ne.2 this]
theorem Ku8 {α:Type} {l:List α} (h:((l.length:Int) == 0)=true):l=[]:=by
 rw [beq_iff_eq] at h; exact List.length_eq_zero_iff.1 (by omega)
theorem Ku9 (g:Int→Bool) (y:List Int→Bool) (n:Nat) (op N:Int) (ty:List Int) (ks:List K00):tOk g y n ⟨op,N,ty,ks⟩=(Kqu g y (n:Int) ⟨op,N,ty,ks⟩ && Kqv g y op n 0 ks):=Kqw ..
theorem Kua (g:Int→Bool) (y:List Int→Bool) (op:Int) (n i:Nat) (k:K00) (ks:List K00):Kqv g y op n i (k :: ks)=(tOk g y (n + Kqo op i) k && Kqv g y op n (i + 1) ks):=by rw [Kqv]
theorem Kub (g:Int→Bool) (y:List Int→Bool) (op:Int) (n i:Nat):Kqv g y op n i []=true:=by rw [Kqv]
theorem Kuc {l:List K00} (h:((l.length:Int) == 1)=true):∃ k,l=[k]:=by
 rw [beq_iff_eq] at h; match l,h with | [k],_=>exact ⟨k,rfl⟩ | [],h=>exact absurd h (by simp) | _ :: _ :: _,h=>exact absurd h (by simp only [List.length_cons]; omega)
theorem Kud {l:List K00} (h:((l.length:Int) == 2)=true):∃ k m,l=[k,m]:=by
 rw [beq_iff_eq] at h; match l,h with | [k,m],_=>exact ⟨k,m,rfl⟩ | [],h=>exact absurd h (by simp) | [_],h=>exact absurd h (by simp) | _ :: _ :: _ :: _,h=>exact absurd h (by simp only [List.length_cons]; omega)
mutual
def put (u:K00):Int→K00→K00
 | d,⟨op,N,ty,ks⟩=>if op == 0 && N == d then shf d 0 u else ⟨op,if op == 0 && decide (N > d) then N - 1 else N,ty,Kue u op d 0 ks⟩
def Kue (u:K00):Int→Int→Nat→List K00→List K00
 | _,_,_,[]=>[]
 | op,d,j,k :: ks=>put u (d + ((Kqo op (j:Int):Nat):Int)) k :: Kue u op d (j + 1) ks
end
mutual
def uses:Int→K00→Nat
 | i,⟨op,N,_,ks⟩=>if op == 0 then (if N == i then 1 else 0) else Kuf op i 0 ks
def Kuf:Int→Int→Nat→List K00→Nat
 | _,_,_,[]=>0
 | op,i,j,k :: ks=>uses (i + ((Kqo op (j:Int):Nat):Int)) k + Kuf op i (j + 1) ks
end
mutual
theorem Kug:∀ (t:K00) (i:Int),uses i t ≤ tsz t
 | ⟨op,N,ty,ks⟩,i=>by
  rw [uses,tsz]
  have:=Kuh ks op i 0
  split
  ·split <;> omega
  ·omega
theorem Kuh:∀ (ks:List K00) (op i:Int) (j:Nat),Kuf op i j ks ≤ Kq4 ks
 | [],op,i,j=>by rw [Kuf]; omega
 | k :: ks,op,i,j=>by
  rw [Kuf,Kq4]
  have:=Kug k (i + ((Kqo op (j:Int):Nat):Int))
  have:=Kuh ks op i (j + 1)
  omega
end
theorem Kui {g:Int→Bool} {y:List Int→Bool} {n:Nat} {op N:Int} {ty:List Int} {ks:List K00} (h:tOk g y n ⟨op,N,ty,ks⟩=true) (h0:op=0):ks=[]∧ty=[]∧0 ≤ N∧N < n:=by
 subst h0
 rw [Ku9,Bool.and_eq_true] at h
 have h1:=h.1
 simp only [Kqu,Kqs,Kqt,Bool.and_eq_true,show Kqe 0=0 from rfl,show Kqg 0=false from rfl,show ((0:Int) == 0)=true from rfl,if_true,Bool.false_eq_true,if_false] at h1
 have h2:=h1.1.2
 unfold inB at h2
 simp only [Bool.and_eq_true,decide_eq_true_eq] at h2
 exact ⟨Ku8 h1.1.1.2,Ku8 h1.2,by omega,by omega⟩
mutual
theorem Kuj:∀ (t:K00) (i:Int),tsz t ≤ 1048576→0 ≤ i→i + 2 * tsz t ≤ 1099511627776→Kl7 (t,i)=some ((uses i t:Nat):Int)
 | ⟨op,N,ty,ks⟩,i,hs,h0,h1=>by
  rw [tsz] at hs h1
  rw [Kl7.eq_def,uses]
  simp only
  cases h:op == 0
  ·have h2:=Kuk ks ⟨op,N,ty,ks⟩ i 0 0 rfl (by omega) h0 (by omega) (by have:=Krf ks; simp only; omega)
   rw [show ((0:Nat):Int)=0 from rfl] at h2
   rw [if_neg (by decide),if_neg (by decide),h2,bs,Nat.zero_add]
  ·cases N == i <;> rfl
theorem Kuk:∀ (ks:List K00) (t:K00) (i:Int) (n j:Nat),t.fKids.drop j=ks→n + Kq4 ks ≤ 1048576→0 ≤ i→i + 2 * Kq4 ks + 2 ≤ 1099511627776→t.fKids.length ≤ 1048576→Kl8 (t,i,(n:Int),(j:Int))=some (((n + Kuf t.fOp i j ks:Nat)):Int)
 | [],t,i,n,j,hd,hs,h0,h1,hk=>by
  rw [Kl8.eq_def,Kuf]
  simp only
  rw [Ko6 (Kp9 hd)]; rfl
 | k :: ks,t,i,n,j,hd,hs,h0,h1,hk=>by
  obtain ⟨hi,hx,hd'⟩:=Kp8 hd
  rw [Kq4] at hs h1
  have ha:=Kqp t.fOp (j:Int)
  have hp:=Kq7 k
  have hu:=Kug k (i + ((Kqo t.fOp (j:Int):Nat):Int))
  rw [Kl8.eq_def,Kuf]
  simp only
  rw [Ko5 hi,if_pos rfl,hx,bs,Kqq,bs,Ko2 (x:=i + ((Kqo t.fOp (j:Int):Nat):Int)) (by omega) (by omega),Kuj k _ (by omega) (by omega) (by omega),bs,Kt2 (by omega) (by omega),Ko4 (by omega),Kuk ks t i _ (j + 1) hd' (by omega) h0 (by omega) hk,Nat.add_assoc]
end
mutual
theorem Kul (b:Int):∀ (t:K00) (f:Int),tsz (shf b f t)=tsz t
 | ⟨op,N,ty,ks⟩,f=>by rw [shf,tsz,tsz,Kum b ks]
theorem Kum (b:Int):∀ (ks:List K00) (op f:Int) (i:Nat),Kq4 (Kte b op f i ks)=Kq4 ks
 | [],op,f,i=>by rw [Kte]
 | k :: ks,op,f,i=>by rw [Kte,Kq4,Kq4,Kul b k,Kum b ks]
end
theorem Kun (g:Int→Bool) (y:List Int→Bool) (n m:Int) (op N:Int) (ty:List Int) (ks js:List K00) (h0:(op == 0)=false) (hl:ks.length=js.length):Kqu g y n ⟨op,N,ty,ks⟩=Kqu g y m ⟨op,N,ty,js⟩:=by
 unfold Kqu Kqs Kqt
 simp only [h0,hl]
 rfl
theorem Kuo (g:Int→Bool) (y:List Int→Bool) (n:Nat) (N:Int) (h:0 ≤ N∧N < n):tOk g y n ⟨0,N,[],[]⟩=true:=by
 rw [Ku9,Kub]
 unfold Kqu Kqs Kqt
 simp only [show inB 0 0 12=true from rfl,show Kqe 0=0 from rfl,show Kqg 0=false from rfl,show ((0:Int) == 0)=true from rfl,if_true,Bool.false_eq_true,if_false]
 unfold inB
 rw [decide_eq_true (by omega:N ≥ 0),decide_eq_true (by omega:N ≤ (n:Int) - 1)]
 rfl
mutual
theorem Kup (g:Int→Bool) (y:List Int→Bool) (b:Nat):∀ (t:K00) (n:Nat) (f:Int),tOk g y n t=true→tOk g y (n + b) (shf (b:Int) f t)=true
 | ⟨op,N,ty,ks⟩,n,f,h=>by
  rw [shf]
  cases h0:op == 0
  ·rw [Ku9,Bool.and_eq_true] at h
   rw [Ku9,Bool.false_and,if_neg (by decide),Kun g y _ (n:Int) op N ty _ ks h0 (Kth (b:Int) ks op f 0),h.1,Kuq g y b ks op n 0 f h.2]; rfl
  ·have h0:=eq_of_beq h0
   obtain ⟨rfl,rfl,h1,h2⟩:=Kui h h0
   subst h0
   rw [Kte]
   refine Kuo g y _ _ ?_
   split <;> omega
theorem Kuq (g:Int→Bool) (y:List Int→Bool) (b:Nat):∀ (ks:List K00) (op:Int) (n i:Nat) (f:Int),Kqv g y op n i ks=true→Kqv g y op (n + b) i (Kte (b:Int) op f i ks)=true
 | [],op,n,i,f,h=>by rw [Kte,Kub]
 | k :: ks,op,n,i,f,h=>by
  rw [Kua,Bool.and_eq_true] at h
  rw [Kte,Kua,Kuq g y b ks op n (i + 1) f h.2,show n + b + Kqo op (i:Int)=n + Kqo op (i:Int) + b by omega,Kup g y b k _ _ h.1]; rfl
end
theorem Kur (u:K00):∀ (ks:List K00) (op d:Int) (i:Nat),(Kue u op d i ks).length=ks.length
 | [],op,d,i=>by rw [Kue]
 | k :: ks,op,d,i=>by rw [Kue,List.length_cons,List.length_cons,Kur u ks]
mutual
theorem Kus {g:Int→Bool} {y:List Int→Bool} {m:Nat} {u:K00} (hu:tOk g y m u=true):∀ (t:K00) (d:Nat),tOk g y (m + d + 1) t=true→tOk g y (m + d) (put u (d:Int) t)=true
 | ⟨op,N,ty,ks⟩,d,h=>by
  rw [put]
  cases h0:op == 0
  ·rw [Bool.false_and,Bool.false_and,if_neg (by decide),if_neg (by decide)]
   rw [Ku9,Bool.and_eq_true] at h
   rw [Ku9,Kun g y _ ((m + d + 1:Nat):Int) op N ty _ ks h0 (Kur u ks op d 0),h.1,Kut hu ks op d 0 h.2]; rfl
  ·have h0:=eq_of_beq h0
   obtain ⟨rfl,rfl,h1,h2⟩:=Kui h h0
   subst h0
   rw [Bool.true_and]
   by_cases e:N=(d:Int)
   ·rw [e,if_pos (by simp)]
    exact Kup g y d u m 0 hu
   ·rw [if_neg (by simpa using e),Kue]
    refine Kuo g y _ _ ?_
    by_cases hg:N > (d:Int)
    ·rw [decide_eq_true hg,Bool.and_self,if_pos rfl]; omega
    ·rw [decide_eq_false hg,Bool.and_false,if_neg (by decide)]; omega
theorem Kut {g:Int→Bool} {y:List Int→Bool} {m:Nat} {u:K00} (hu:tOk g y m u=true):∀ (ks:List K00) (op:Int) (d i:Nat),Kqv g y op (m + d + 1) i ks=true→Kqv g y op (m + d) i (Kue u op (d:Int) i ks)=true
 | [],op,d,i,h=>by rw [Kue,Kub]
 | k :: ks,op,d,i,h=>by
  rw [Kua,Bool.and_eq_true] at h
  have h1:=Kus hu k (d + Kqo op (i:Int)) (by rw [← Nat.add_assoc,Nat.add_right_comm _ _ 1]; exact h.1)
  rw [Kue,Kua,Kut hu ks op d (i + 1) h.2,show m + d + Kqo op (i:Int)=m + (d + Kqo op (i:Int)) by omega]
  rw [show ((d + Kqo op (i:Int):Nat):Int)=(d:Int) + ((Kqo op (i:Int):Nat):Int) by omega] at h1
  rw [h1]; rfl
end
mutual
theorem Kuu {g:Int→Bool} {y:List Int→Bool} (u:K00):∀ (t:K00) (n:Nat) (d:Int),tOk g y n t=true→tsz (put u d t) + uses d t=tsz t + uses d t * tsz u
 | ⟨op,N,ty,ks⟩,n,d,h=>by
  rw [put,uses]
  cases h0:op == 0
  ·rw [Ku9,Bool.and_eq_true] at h
   have:=Kuv u ks op n 0 d h.2
   simp only [Bool.false_and,Bool.false_eq_true,if_false,tsz]; omega
  ·have h0:=eq_of_beq h0
   obtain ⟨rfl,rfl,h1,h2⟩:=Kui h h0
   cases he:N == d
   ·simp only [Bool.and_false,Bool.true_and,Bool.false_eq_true,if_false,if_true,Kue,tsz,Kq4]; omega
   ·simp only [Bool.and_true,Bool.true_and,Bool.false_eq_true,if_false,if_true,Kul,tsz,Kq4]; omega
theorem Kuv {g:Int→Bool} {y:List Int→Bool} (u:K00):∀ (ks:List K00) (op:Int) (n i:Nat) (d:Int),Kqv g y op n i ks=true→Kq4 (Kue u op d i ks) + Kuf op d i ks=Kq4 ks + Kuf op d i ks * tsz u
 | [],op,n,i,d,h=>by rw [Kue,Kuf]; omega
 | k :: ks,op,n,i,d,h=>by
  rw [Kua,Bool.and_eq_true] at h
  have h1:=Kuu u k _ (d + ((Kqo op (i:Int):Nat):Int)) h.1
  have h2:=Kuv u ks op n (i + 1) d h.2
  rw [Kue,Kuf,Kq4,Kq4,Nat.add_mul]; omega
end
mutual
theorem Kuw {g:Int→Bool}:∀ (t:K00) (n:Nat),tOk g wtB n t=true→tms t + 3 ≤ 43 * tsz t + 3∧t.fKids.length ≤ 3
 | ⟨op,N,ty,ks⟩,n,h=>by
  obtain ⟨h1,h2⟩:=Krb h
  have h3:=(Krc h1).2
  have h4:=Kre h1
  have h5:=Kux ks op n 0 h2
  have h6:Kqe op ≤ 3:=by rcases Kqi h4.1 with h | h | h | h | h | h | h | h | h | h | h | h | h <;> (simp only at h; subst h; decide)
  have h7:=h4.2
  simp only at h3 h7 ⊢
  rw [tms,tsz]; omega
theorem Kux {g:Int→Bool}:∀ (ks:List K00) (op:Int) (n i:Nat),Kqv g wtB op n i ks=true→Kq5 ks ≤ 43 * Kq4 ks
 | [],op,n,i,h=>by rw [Kq5]; omega
 | k :: ks,op,n,i,h=>by
  rw [Kua,Bool.and_eq_true] at h
  have h1:=(Kuw k _ h.1).1
  have h2:=Kux ks op n (i + 1) h.2
  rw [Kq5,Kq4]; omega
end
mutual
theorem Kuy {g:Int→Bool} {y:List Int→Bool} (b fr:Int) (hb:0 ≤ b∧b ≤ 1099511627776) (hf:0 ≤ fr∧fr ≤ 1099511627776):∀ (t:K00) (n:Nat) (d:Int),tOk g y n t=true→tms t ≤ 1099511627776→0 ≤ d→d + 2 * tsz t ≤ 35184372088832→n + 2 * tsz t ≤ 35184372088832 →
  Kjs (t,d,fr,b)=some (shf b (fr + d) t)
 | ⟨op,N,ty,ks⟩,n,d,h,hm,h0,h1,h2=>by
  rw [tms] at hm
  rw [tsz] at h1 h2
  rw [Kjs.eq_def,shf]
  simp only
  cases hop:op == 0
  ·rw [Ku9,Bool.and_eq_true] at h
   rw [if_neg (by decide),Krh ty (by omega),bs,show (0:Int)=((0:Nat):Int) from rfl,Kuz b fr hb hf ks ⟨op,N,ty,ks⟩ n d 0 ty [] rfl h.2 (by simp only; omega) (by omega) h0 (by omega) (by omega) rfl,bs]; rfl
  ·have hop:=eq_of_beq hop
   obtain ⟨rfl,rfl,q1,q2⟩:=Kui h hop
   subst hop
   rw [if_pos rfl,Kte]
   unfold Kjo
   simp only
   rw [Ko2 (x:=N - d) (by omega) (by omega),Ko2 (x:=N + b) (by omega) (by omega),decide_eq_decide.2 (by omega:N - d ≥ fr ↔ N ≥ fr + d)]
   refine (Kq3 (x:=⟨0,if decide (N ≥ fr + d) then N + b else N,[],[]⟩) ?_).trans rfl
   refine (Kq3 (x:=if decide (N ≥ fr + d) then N + b else N) ?_).trans ?_
   ·cases decide (N ≥ fr + d) <;> rfl
   ·rw [Ktb _ (by rw [tms,Kq5]; simp)]; rfl
theorem Kuz {g:Int→Bool} {y:List Int→Bool} (b fr:Int) (hb:0 ≤ b∧b ≤ 1099511627776) (hf:0 ≤ fr∧fr ≤ 1099511627776):∀ (ks:List K00) (t:K00) (n:Nat) (d:Int) (i:Nat) (r:List Int) (out:List K00),t.fKids.drop i=ks→Kqv g y t.fOp n i ks=true →
  t.fKids.length ≤ 1099511627776→Kq5 ks ≤ 1099511627776→0 ≤ d→d + 2 * Kq4 ks + 2 ≤ 35184372088832→n + 2 * Kq4 ks + 2 ≤ 35184372088832→out.length=i→Kjt (t,d,fr,b,r,out,(i:Int))=some (out ++ Kte b t.fOp (fr + d) i ks)
 | [],t,n,d,i,r,out,hd,hw,hk,hm,h0,h1,h2,ho=>by
  rw [Kjt.eq_def,Kte]
  simp only
  rw [Ko6 (Kp9 hd),List.append_nil]; rfl
 | k :: ks,t,n,d,i,r,out,hd,hw,hk,hm,h0,h1,h2,ho=>by
  obtain ⟨hi,hx,hd'⟩:=Kp8 hd
  rw [Kq5] at hm
  rw [Kq4] at h1 h2
  rw [Kua,Bool.and_eq_true] at hw
  have ha:=Kqp t.fOp (i:Int)
  have hp:=Kq7 k
  rw [Kjt.eq_def,Kte]
  simp only
  rw [Ko5 hi,if_pos rfl,hx,bs,Kqr,bs,Ko2 (x:=d + ((Kqo t.fOp (i:Int):Nat):Int)) (by omega) (by omega),Kuy b fr hb hf k _ _ hw.1 (by omega) (by omega) (by omega) (by omega),bs,Krd (by simp only [List.length_singleton]; omega),bs,Ko4 (by omega)]
  rw [Kuz b fr hb hf ks t n d (i + 1) r _ hd' hw.2 hk (by omega) h0 (by omega) (by omega) (by simp [ho]),List.append_assoc,← Int.add_assoc]
  rfl
end
theorem Kv0 {g:Int→Bool} {y:List Int→Bool} {t:K00} {n:Nat} {b:Int} (h:tOk g y n t=true) (hb:0 ≤ b∧b ≤ 1099511627776) (hm:tms t ≤ 1099511627776) (h2:n + 2 * tsz t ≤ 35184372088832):Kjz (t,b,0)=some (shf b 0 t):=by
 unfold Kjz
 simp only
 rw [Kuy b 0 hb (by omega) t n 0 h hm (by omega) (by omega) h2,bs,Int.zero_add]
structure UOk (g:Int→Bool) (y:List Int→Bool) (m:Nat) (u:K00):Prop where
 ok:tOk g y m u=true
 ms:tms u ≤ 1099511627776
 sz:m + 2 * tsz u ≤ 35184372088832
theorem Kv1 (op N:Int) (ty:List Int) (a:K00):tsz ⟨op,N,ty,[a]⟩=1 + tsz a:=by simp [tsz,Kq4]
theorem Kv2 (op N:Int) (ty:List Int) (a b:K00):tsz ⟨op,N,ty,[a,b]⟩=1 + (tsz a + tsz b):=by simp [tsz,Kq4]
theorem Kv3 (op N:Int) (ty:List Int) (a b c:K00):tsz ⟨op,N,ty,[a,b,c]⟩=1 + (tsz a + (tsz b + tsz c)):=by simp [tsz,Kq4]
theorem Kv4 {l:List K00} (h:(l.length:Int)=3):∃ a b c,l=[a,b,c]:=by
 match l,h with | [a,b,c],_=>exact ⟨a,b,c,rfl⟩ | [],h=>exact absurd h (by simp) | [_],h=>exact absurd h (by simp) | [_,_],h=>exact absurd h (by simp) | _ :: _ :: _ :: _ :: _,h=>exact absurd h (by simp only [List.length_cons]; omega)
mutual
def tEq:K00→K00→Bool
 | ⟨o,N,t,k⟩,⟨o',N',t',k'⟩=>o == o' && N == N' && t == t' && (k.length == k'.length) && Kv5 k k'
def Kv5:List K00→List K00→Bool
 | [],_=>true
 | _ :: _,[]=>false
 | a :: k,b :: k'=>tEq a b && Kv5 k k'
end
mutual
theorem Kv6:∀ (a:K00),tEq a a=true
 | ⟨o,N,t,k⟩=>by rw [tEq,Kv7 k]; simp
theorem Kv7:∀ (k:List K00),Kv5 k k=true
 | []=>by rw [Kv5]
 | a :: k=>by rw [Kv5,Kv6 a,Kv7 k]; rfl
end
end Go.Am
