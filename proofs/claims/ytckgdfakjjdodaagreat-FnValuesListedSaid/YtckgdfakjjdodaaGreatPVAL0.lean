/- Plain laws of the printed functions. -/
import Derived.Test.YtckgdfakjjdodaaGreatPVALx
set_option linter.unusedSimpArgs false
set_option linter.unusedVariables false
namespace Go.Am
theorem Ko9 {x:Int} (h1:-9223372036854775808 ≤ x) (h2:x ≤ 9223372036854775807):wr x=x:=by
 unfold wr IntKind.wrap
 simp [IntKind.bits,IntKind.signed]
 omega
theorem Koa {α:Type} {l:List α} {n:Nat} (h:n < l.length):idx l (n:Int)=some l[n]:=by
 unfold idx
 rw [if_pos (by omega)]
 simp [h]
theorem bs {α β:Type} (a:α) (f:α→Option β):(some a >>= f)=f a:=rfl
theorem Kob {n:Nat} (h:n < 9223372036854775807):wr ((n:Int) + 1)=((n + 1:Nat):Int):=by
 rw [Ko9 (by omega) (by omega)]; omega
theorem Koc {n m:Nat} (h:n < m):decide ((n:Int) < (m:Int))=true:=decide_eq_true (by omega)
theorem Kod {n m:Nat} (h:m ≤ n):decide ((n:Int) < (m:Int))=false:=decide_eq_false (by omega)
theorem Koe {a:Int}:(a != a)=false:=by simp
structure Tab (s:K00) (n:Nat):Prop where
 size:s.fSize=(n:Int)
 lo:2 ≤ n
 hi:n ≤ 16
 lp:s.fPlus.length=n * n
 lt:s.fTimes.length=n * n
 lb:s.fBelow.length=n * n
 rp:∀ i (h:i < s.fPlus.length),0 ≤ s.fPlus[i]∧s.fPlus[i] < (n:Int)
 rt:∀ i (h:i < s.fTimes.length),0 ≤ s.fTimes[i]∧s.fTimes[i] < (n:Int)
def pl (s:K00) (n a b:Nat):Nat:=(s.fPlus.getD (a * n + b) 0).toNat
def ti (s:K00) (n a b:Nat):Nat:=(s.fTimes.getD (a * n + b) 0).toNat
def le (s:K00) (n a b:Nat):Bool:=s.fBelow.getD (a * n + b) false
theorem Kof {n a b:Nat} (ha:a < n) (hb:b < n):a * n + b < n * n:=by
 have:(a + 1) * n ≤ n * n:=Nat.mul_le_mul_right _ (by omega)
 rw [Nat.add_mul,Nat.one_mul] at this
 omega
theorem Kog {n a b:Nat} (hn:n ≤ 16) (ha:a < n) (hb:b < n):wr ((wr ((a:Int) * (n:Int))) + (b:Int))=((a * n + b:Nat):Int):=by
 have h1:a * n ≤ 256:=Nat.le_trans (Nat.mul_le_mul (by omega:a ≤ 16) hn) (by decide)
 have e:(a:Int) * (n:Int)=((a * n:Nat):Int):=by simp
 rw [e]
 generalize a * n=m at h1
 rw [Ko9 (x:=(m:Int)) (by omega) (by omega),Ko9 (by omega) (by omega)]
 omega
section
variable {s:K00} {n:Nat} (h:Tab s n)
include h
theorem Koh {a b:Nat} (ha:a < n) (hb:b < n):pl s n a b < n:=by
 have hl:a * n + b < s.fPlus.length:=by rw [h.lp]; exact Kof ha hb
 unfold pl
 rw [List.getD_eq_getElem?_getD,List.getElem?_eq_getElem hl]
 have:=h.rp _ hl
 simp only [Option.getD_some]
 omega
theorem Koi {a b:Nat} (ha:a < n) (hb:b < n):ti s n a b < n:=by
 have hl:a * n + b < s.fTimes.length:=by rw [h.lt]; exact Kof ha hb
 unfold ti
 rw [List.getD_eq_getElem?_getD,List.getElem?_eq_getElem hl]
 have:=h.rt _ hl
 simp only [Option.getD_some]
 omega
theorem Koj {a b:Nat} (ha:a < n) (hb:b < n):idx s.fPlus ((a * n + b:Nat):Int)=some ((pl s n a b:Nat):Int):=by
 have hl:a * n + b < s.fPlus.length:=by rw [h.lp]; exact Kof ha hb
 rw [Koa hl]
 unfold pl
 rw [List.getD_eq_getElem?_getD,List.getElem?_eq_getElem hl]
 have:=h.rp _ hl
 simp only [Option.getD_some]
 congr 1
 omega
theorem Kok {a b:Nat} (ha:a < n) (hb:b < n):idx s.fTimes ((a * n + b:Nat):Int)=some ((ti s n a b:Nat):Int):=by
 have hl:a * n + b < s.fTimes.length:=by rw [h.lt]; exact Kof ha hb
 rw [Koa hl]
 unfold ti
 rw [List.getD_eq_getElem?_getD,List.getElem?_eq_getElem hl]
 have:=h.rt _ hl
 simp only [Option.getD_some]
 congr 1
 omega
theorem Kol {a b:Nat} (ha:a < n) (hb:b < n):idx s.fBelow ((a * n + b:Nat):Int)=some (le s n a b):=by
 have hl:a * n + b < s.fBelow.length:=by rw [h.lb]; exact Kof ha hb
 rw [Koa hl]
 unfold le
 rw [List.getD_eq_getElem?_getD,List.getElem?_eq_getElem hl]
 rfl
theorem Kom {a b:Nat} (ha:a < n) (hb:b < n):K9s (s,(a:Int),(b:Int))=some ((pl s n a b:Nat):Int):=by
 unfold K9s
 simp only
 rw [h.size,Kog h.hi ha hb,Koj h ha hb,bs]
theorem Kon {a b:Nat} (ha:a < n) (hb:b < n):K9z (s,(a:Int),(b:Int))=some ((ti s n a b:Nat):Int):=by
 unfold K9z
 simp only
 rw [h.size,Kog h.hi ha hb,Kok h ha hb,bs]
theorem sLe {a b:Nat} (ha:a < n) (hb:b < n):Ka2 (s,(a:Int),(b:Int))=some (le s n a b):=by
 unfold Ka2
 simp only
 rw [h.size,Kog h.hi ha hb,Kol h ha hb,bs]
theorem Koo {a b:Nat} (ha:a < n) (hb:b < n):Kfa (s,(a:Int),(b:Int))=some ((pl s n a b:Nat):Int):=by
 unfold Kfa
 simp only
 rw [h.size,Kog h.hi ha hb,Koj h ha hb,bs]
theorem Kop {a b:Nat} (ha:a < n) (hb:b < n):Kfd (s,(a:Int),(b:Int))=some ((ti s n a b:Nat):Int):=by
 unfold Kfd
 simp only
 rw [h.size,Kog h.hi ha hb,Kok h ha hb,bs]
theorem iLe {a b:Nat} (ha:a < n) (hb:b < n):Kfg (s,(a:Int),(b:Int))=some (le s n a b):=by
 unfold Kfg
 simp only
 rw [h.size,Kog h.hi ha hb,Kol h ha hb,bs]
end
theorem Koq (x y:Nat):(((x:Nat):Int) == ((y:Nat):Int))=(x == y):=by
 cases hb:(x == y) with
 | true=>have:=eq_of_beq hb; subst this; simp
 | false=>simp at hb ⊢; omega
theorem Kor (x y:Nat):(((x:Nat):Int) != ((y:Nat):Int))=(x != y):=by
 simp only [bne,Koq]
def Kos (s:K00) (n a:Nat):Bool:=(pl s n 0 a == a) && (ti s n 1 a == a) && (ti s n a 1 == a) && (ti s n 0 a == 0) && (ti s n a 0 == 0) && le s n a a
def Kot (s:K00) (n a b c:Nat):Bool :=
 (pl s n (pl s n a b) c == pl s n a (pl s n b c)) && (ti s n (ti s n a b) c == ti s n a (ti s n b c)) &&
 (ti s n a (pl s n b c) == pl s n (ti s n a b) (ti s n a c)) && (ti s n (pl s n a b) c == pl s n (ti s n a c) (ti s n b c)) &&
 (!(le s n a b) || ((!(le s n b c) || le s n a c) && le s n (pl s n a c) (pl s n b c) && le s n (ti s n a c) (ti s n b c) && le s n (ti s n c a) (ti s n c b)))
section
variable {s:K00} {n:Nat} (h:Tab s n)
include h
theorem Kou {a:Nat} (ha:a < n):Ka5 (s,(a:Int))=some (Kos s n a):=by
 have l0:(0:Nat) < n:=by have:=h.lo; omega
 have l1:(1:Nat) < n:=by have:=h.lo; omega
 have e0:(0:Int)=((0:Nat):Int):=rfl
 have e1:(1:Int)=((1:Nat):Int):=rfl
 unfold Ka5 Kos
 simp only
 rw [e0,e1]
 simp only [Kom h l0 ha,Kon h l1 ha,Kon h ha l1,Kon h l0 ha,Kon h ha l0,sLe h ha ha,bs,Koq]
 generalize (pl s n 0 a == a)=b1
 generalize (ti s n 1 a == a)=b2
 generalize (ti s n a 1 == a)=b3
 generalize (ti s n 0 a == 0)=b4
 generalize (ti s n a 0 == 0)=b5
 generalize le s n a a=b6
 cases b1 <;> cases b2 <;> cases b3 <;> cases b4 <;> cases b5 <;> cases b6 <;> rfl
theorem Kov {a b c:Nat} (ha:a < n) (hb:b < n) (hc:c < n):Kam (s,(a:Int),(b:Int),(c:Int))=some (Kot s n a b c):=by
 unfold Kam Kot
 simp only
 simp only [Kom h,Kon h,sLe h,Koh h,Koi h,ha,hb,hc,bs,Kor]
 generalize e1:pl s n (pl s n a b) c=x1
 generalize e2:pl s n a (pl s n b c)=x2
 generalize e3:ti s n (ti s n a b) c=x3
 generalize e4:ti s n a (ti s n b c)=x4
 generalize ti s n a (pl s n b c)=x5
 generalize pl s n (ti s n a b) (ti s n a c)=x6
 generalize ti s n (pl s n a b) c=x7
 generalize pl s n (ti s n a c) (ti s n b c)=x8
 generalize le s n (pl s n a c) (pl s n b c)=y1
 generalize le s n (ti s n a c) (ti s n b c)=y2
 generalize le s n (ti s n c a) (ti s n c b)=y3
 generalize le s n a b=y4
 generalize le s n b c=y5
 generalize le s n a c=y6
 simp only [bne]
 generalize (x1 == x2)=b1
 generalize (x3 == x4)=b2
 generalize (x5 == x6)=b3
 generalize (x7 == x8)=b4
 cases b1 <;> cases b2 <;> cases b3 <;> cases b4 <;> first | rfl | (cases y4 <;> cases y5 <;> cases y6 <;> cases y1 <;> cases y2 <;> cases y3 <;> rfl)
theorem Kow {a b c:Nat} (ha:a < n) (hb:b < n) (hc:c < n):Kg0 (s,(a:Int),(b:Int),(c:Int))=some (Kot s n a b c):=by
 unfold Kg0 Kot
 simp only
 simp only [Koo h,Kop h,iLe h,Koh h,Koi h,ha,hb,hc,bs,Kor]
 generalize e1:pl s n (pl s n a b) c=x1
 generalize e2:pl s n a (pl s n b c)=x2
 generalize e3:ti s n (ti s n a b) c=x3
 generalize e4:ti s n a (ti s n b c)=x4
 generalize ti s n a (pl s n b c)=x5
 generalize pl s n (ti s n a b) (ti s n a c)=x6
 generalize ti s n (pl s n a b) c=x7
 generalize pl s n (ti s n a c) (ti s n b c)=x8
 generalize le s n (pl s n a c) (pl s n b c)=y1
 generalize le s n (ti s n a c) (ti s n b c)=y2
 generalize le s n (ti s n c a) (ti s n c b)=y3
 generalize le s n a b=y4
 generalize le s n b c=y5
 generalize le s n a c=y6
 simp only [bne]
 generalize (x1 == x2)=b1
 generalize (x3 == x4)=b2
 generalize (x5 == x6)=b3
 generalize (x7 == x8)=b4
 cases b1 <;> cases b2 <;> cases b3 <;> cases b4 <;> first | rfl | (cases y4 <;> cases y5 <;> cases y6 <;> cases y1 <;> cases y2 <;> cases y3 <;> rfl)
end
def Kox (s:K00) (n a b g h:Nat):Bool:=!le s n a h || !le s n b h || le s n g h
def jok (s:K00) (n a b g:Nat):Bool:=le s n a g && le s n b g && (List.range' 0 n).all (Kox s n a b g)
def Koy (s:K00) (n a b:Nat):Int:=match (List.range' 0 n).find? (jok s n a b) with | some g=>(g:Int) | none=>-1
section
variable {s:K00} {n:Nat} (h:Tab s n)
include h
theorem Koz {a b g:Nat} (ha:a < n) (hb:b < n) (hg:g < n):∀ (k m:Nat) (ok:Bool),m + k=n→Ka9 (s,(a:Int),(b:Int),(g:Int),ok,(m:Int))=some (ok && (List.range' m k).all (Kox s n a b g)):=by
 have hhi:=h.hi
 intro k
 induction k with
 | zero =>
  intro m ok hm
  rw [Ka9.eq_def]
  simp only
  rw [h.size,Kod (by omega)]
  simp [bs]
 | succ k ih =>
  intro m ok hm
  rw [Ka9.eq_def]
  simp only
  rw [h.size,Koc (by omega),if_pos rfl,bs,sLe h ha (by omega),sLe h hb (by omega),sLe h hg (by omega)]
  cases ok with
  | false=>rfl
  | true =>
   rw [if_pos rfl]
   rw [List.range'_succ,List.all_cons]
   have ih:∀ ok,_:=fun ok=>ih (m + 1) ok (by omega)
   rw [Kob (by omega)]
   generalize ((m + 1:Nat):Int)=M at ih ⊢
   simp only [bs,Kox]
   cases le s n a m <;> cases le s n b m <;> cases le s n g m <;> simp [bs,ih,Kox]
theorem Kp0 {a b g:Nat} (ha:a < n) (hb:b < n) (hg:g < n):∀ (k m:Nat) (ok:Bool),m + k=n→Kfk (s,(a:Int),(b:Int),(g:Int),ok,(m:Int))=some (ok && (List.range' m k).all (Kox s n a b g)):=by
 have hhi:=h.hi
 intro k
 induction k with
 | zero =>
  intro m ok hm
  rw [Kfk.eq_def]
  simp only
  rw [h.size,Kod (by omega)]
  simp [bs]
 | succ k ih =>
  intro m ok hm
  rw [Kfk.eq_def]
  simp only
  rw [h.size,Koc (by omega),if_pos rfl,iLe h ha (by omega),iLe h hb (by omega),iLe h hg (by omega)]
  rw [List.range'_succ,List.all_cons]
  have ih:∀ ok,_:=fun ok=>ih (m + 1) ok (by omega)
  rw [Kob (by omega)]
  generalize ((m + 1:Nat):Int)=M at ih ⊢
  simp only [bs,Kox]
  cases ok <;> cases le s n a m <;> cases le s n b m <;> cases le s n g m <;> simp [bs,ih,Kox]
theorem Kp1 {a b:Nat} (ha:a < n) (hb:b < n):∀ (k g:Nat),g + k=n→Kad (s,(a:Int),(b:Int),(g:Int))=some (match (List.range' g k).find? (jok s n a b) with | some g=>.inr (g:Int) | none=>.inl ()):=by
 have hhi:=h.hi
 intro k
 induction k with
 | zero =>
  intro g hm
  rw [Kad.eq_def]
  simp only
  rw [h.size,Kod (by omega)]
  rfl
 | succ k ih =>
  intro g hm
  rw [Kad.eq_def]
  simp only
  rw [h.size,Koc (by omega),if_pos rfl,sLe h ha (by omega),sLe h hb (by omega)]
  have ih:=ih (g + 1) (by omega)
  rw [Kob (by omega),List.range'_succ,List.find?_cons]
  have hl:=fun ok=>Koz h ha hb (g:=g) (by omega) n 0 ok (by omega)
  rw [show ((0:Nat):Int)=0 from rfl] at hl
  generalize ((g + 1:Nat):Int)=M at ih ⊢
  have hj:jok s n a b g=(le s n a g && le s n b g && (List.range' 0 n).all (Kox s n a b g)):=rfl
  rw [hj]
  cases le s n a g <;> cases le s n b g <;> cases hq:(List.range' 0 n).all (Kox s n a b g) <;> simp [bs,hl,hq,ih]
theorem Kp2 {a b:Nat} (ha:a < n) (hb:b < n):∀ (k g:Nat),g + k=n→Kfp (s,(a:Int),(b:Int),(g:Int))=some (match (List.range' g k).find? (jok s n a b) with | some g=>.inr (g:Int) | none=>.inl ()):=by
 have hhi:=h.hi
 intro k
 induction k with
 | zero =>
  intro g hm
  rw [Kfp.eq_def]
  simp only
  rw [h.size,Kod (by omega)]
  rfl
 | succ k ih =>
  intro g hm
  rw [Kfp.eq_def]
  simp only
  rw [h.size,Koc (by omega),if_pos rfl,iLe h ha (by omega),iLe h hb (by omega)]
  have ih:=ih (g + 1) (by omega)
  rw [Kob (by omega),List.range'_succ,List.find?_cons]
  have hl:=fun ok=>Kp0 h ha hb (g:=g) (by omega) n 0 ok (by omega)
  rw [show ((0:Nat):Int)=0 from rfl] at hl
  generalize ((g + 1:Nat):Int)=M at ih ⊢
  have hj:jok s n a b g=(le s n a g && le s n b g && (List.range' 0 n).all (Kox s n a b g)):=rfl
  rw [hj]
  cases le s n a g <;> cases le s n b g <;> cases hq:(List.range' 0 n).all (Kox s n a b g) <;> simp [bs,hl,hq,ih]
theorem Kp3 {a b:Nat} (ha:a < n) (hb:b < n):Kag (s,(a:Int),(b:Int))=some (Koy s n a b):=by
 unfold Kag Koy
 simp only
 have:=Kp1 h ha hb n 0 (by omega)
 rw [show ((0:Nat):Int)=0 from rfl] at this
 rw [this,bs]
 cases (List.range' 0 n).find? (jok s n a b) <;> rfl
theorem Kp4 {a b:Nat} (ha:a < n) (hb:b < n):Kfs (s,(a:Int),(b:Int))=some (Koy s n a b):=by
 unfold Kfs Koy
 simp only
 have:=Kp2 h ha hb n 0 (by omega)
 rw [show ((0:Nat):Int)=0 from rfl] at this
 rw [this,bs]
 cases (List.range' 0 n).find? (jok s n a b) <;> rfl
def Kp5 (s:K00) (n a b:Nat):Bool:=(pl s n a b == pl s n b a) && ((a == b) || !le s n a b || !le s n b a) && decide (Koy s n a b ≥ 0)
omit h in
theorem Kp6 (x:Int):decide (x < 0)=!decide (x ≥ 0):=by
 by_cases h:x < 0
 ·rw [decide_eq_true h,decide_eq_false (by omega)]; rfl
 ·rw [decide_eq_false h,decide_eq_true (by omega)]; rfl
theorem Kp7 {a b:Nat} (ha:a < n) (hb:b < n):Kaj (s,(a:Int),(b:Int))=some (Kp5 s n a b):=by
 unfold Kaj Kp5
 simp only
 rw [Kom h ha hb,Kom h hb ha,sLe h ha hb,sLe h hb ha,Kp3 h ha hb]
 simp only [bs,Koq]
 generalize (pl s n a b == pl s n b a)=b1
 generalize (a == b)=b2
 cases b1 <;> cases b2 <;> cases le s n a b <;> cases le s n b a <;> simp [bs]
end
def inB (x lo hi:Int):Bool:=decide (x ≥ lo) && decide (x ≤ hi)
theorem sIn (x lo hi:Int):K8k (x,lo,hi)=some (inB x lo hi):=by
 unfold K8k inB
 simp only
 cases decide (x ≥ lo) <;> simp [bs]
theorem iIn (x lo hi:Int):Ke8 (x,lo,hi)=some (inB x lo hi):=by
 unfold Ke8 inB
 simp only
 cases decide (x ≥ lo) <;> simp [bs]
def Kp8 (s:K00) (n:Nat):Bool:=(List.range' 0 n).all fun a=>Kos s n a && (List.range' 0 n).all fun b=>Kp5 s n a b && (List.range' 0 n).all fun c=>Kot s n a b c
section
variable {s:K00} {n:Nat} (h:Tab s n)
include h
theorem Kp9 {a b:Nat} (ha:a < n) (hb:b < n):∀ (k c:Nat),c + k=n→Kaq (s,(a:Int),(b:Int),(c:Int))=some (if (List.range' c k).all (fun c=>Kot s n a b c) then .inl () else .inr false):=by
 have hhi:=h.hi
 intro k
 induction k with
 | zero =>
  intro c hm
  rw [Kaq.eq_def]
  simp only
  rw [h.size,Kod (by omega)]
  rfl
 | succ k ih =>
  intro c hm
  rw [Kaq.eq_def]
  simp only
  rw [h.size,Koc (by omega),if_pos rfl,Kov h ha hb (by omega),bs]
  have ih:=ih (c + 1) (by omega)
  rw [Kob (by omega),List.range'_succ,List.all_cons]
  generalize ((c + 1:Nat):Int)=M at ih ⊢
  generalize (List.range' (c + 1) k).all (fun c=>Kot s n a b c)=r at ih ⊢
  cases Kot s n a b c <;> cases r <;> simp [ih]
theorem Kpa {a b:Nat} (ha:a < n) (hb:b < n):∀ (k c:Nat),c + k=n→Kg8 (s,(a:Int),(b:Int),(c:Int))=some (if (List.range' c k).all (fun c=>Kot s n a b c) then .inl () else .inr false):=by
 have hhi:=h.hi
 intro k
 induction k with
 | zero =>
  intro c hm
  rw [Kg8.eq_def]
  simp only
  rw [h.size,Kod (by omega)]
  rfl
 | succ k ih =>
  intro c hm
  rw [Kg8.eq_def]
  simp only
  rw [h.size,Koc (by omega),if_pos rfl,Kow h ha hb (by omega),bs]
  have ih:=ih (c + 1) (by omega)
  rw [Kob (by omega),List.range'_succ,List.all_cons]
  generalize ((c + 1:Nat):Int)=M at ih ⊢
  generalize (List.range' (c + 1) k).all (fun c=>Kot s n a b c)=r at ih ⊢
  cases Kot s n a b c <;> cases r <;> simp [ih]
theorem Kpb {a:Nat} (ha:a < n):∀ (k b:Nat),b + k=n→Kaw (s,(a:Int),(b:Int))=some (if (List.range' b k).all (fun b=>Kp5 s n a b && (List.range' 0 n).all fun c=>Kot s n a b c) then .inl () else .inr false):=by
 have hhi:=h.hi
 intro k
 induction k with
 | zero =>
  intro c hm
  rw [Kaw.eq_def]
  simp only
  rw [h.size,Kod (by omega)]
  rfl
 | succ k ih =>
  intro b hm
  rw [Kaw.eq_def]
  simp only
  have hl:=Kp9 h ha (b:=b) (by omega) n 0 (by omega)
  rw [show ((0:Nat):Int)=0 from rfl] at hl
  rw [h.size,Koc (by omega),if_pos rfl,Kp7 h ha (by omega),bs,hl]
  have ih:=ih (b + 1) (by omega)
  rw [Kob (by omega),List.range'_succ,List.all_cons]
  generalize ((b + 1:Nat):Int)=M at ih ⊢
  generalize (List.range' (b + 1) k).all (fun b=>Kp5 s n a b && (List.range' 0 n).all fun c=>Kot s n a b c)=r at ih ⊢
  cases Kp5 s n a b <;> cases (List.range' 0 n).all (fun c=>Kot s n a b c) <;> cases r <;> simp [ih,bs]
theorem Kpc {a:Nat} (ha:a < n):∀ (k b:Nat),b + k=n→Kgc (s,(a:Int),(b:Int))=some (if (List.range' b k).all (fun b=>Kp5 s n a b && (List.range' 0 n).all fun c=>Kot s n a b c) then .inl () else .inr false):=by
 have hhi:=h.hi
 intro k
 induction k with
 | zero =>
  intro c hm
  rw [Kgc.eq_def]
  simp only
  rw [h.size,Kod (by omega)]
  rfl
 | succ k ih =>
  intro b hm
  have hb:b < n:=by omega
  rw [Kgc.eq_def]
  simp only
  have hl:=Kpa h ha (b:=b) (by omega) n 0 (by omega)
  rw [show ((0:Nat):Int)=0 from rfl] at hl
  rw [h.size,Koc (by omega),if_pos rfl,Koo h ha hb,Koo h hb ha,iLe h ha hb,iLe h hb ha,Kp4 h ha hb,hl]
  have ih:=ih (b + 1) (by omega)
  rw [Kob (by omega),List.range'_succ,List.all_cons]
  generalize ((b + 1:Nat):Int)=M at ih ⊢
  generalize (List.range' (b + 1) k).all (fun b=>Kp5 s n a b && (List.range' 0 n).all fun c=>Kot s n a b c)=r at ih ⊢
  simp only [bs,Kor,Kp6]
  cases h1:(pl s n a b == pl s n b a) <;> cases h2:(a == b) <;> cases h3:decide (Koy s n a b ≥ 0) <;> cases h4:le s n a b <;> cases h5:le s n b a <;> cases h6:(List.range' 0 n).all (fun c=>Kot s n a b c) <;> cases r <;> simp only [Kp5,bne,h1,h2,h3,h4,h5,h6,ih,bs,Bool.not_true,Bool.not_false,Bool.true_and,Bool.false_and,Bool.and_true,Bool.and_false,Bool.true_or,Bool.false_or,Bool.or_true,Bool.or_false,if_true,if_false,Bool.false_eq_true]
theorem Kpd:∀ (k a:Nat),a + k=n→Kb0 (s,(a:Int))=some (if (List.range' a k).all (fun a=>Kos s n a && (List.range' 0 n).all fun b=>Kp5 s n a b && (List.range' 0 n).all fun c=>Kot s n a b c) then .inl () else .inr false):=by
 have hhi:=h.hi
 intro k
 induction k with
 | zero =>
  intro c hm
  rw [Kb0.eq_def]
  simp only
  rw [h.size,Kod (by omega)]
  rfl
 | succ k ih =>
  intro a hm
  have ha:a < n:=by omega
  rw [Kb0.eq_def]
  simp only
  have hl:=Kpb h ha n 0 (by omega)
  rw [show ((0:Nat):Int)=0 from rfl] at hl
  rw [h.size,Koc (by omega),if_pos rfl,Kou h ha,bs,hl]
  have ih:=ih (a + 1) (by omega)
  rw [Kob (by omega),List.range'_succ,List.all_cons]
  generalize ((a + 1:Nat):Int)=M at ih ⊢
  generalize (List.range' (a + 1) k).all (fun a=>Kos s n a && (List.range' 0 n).all fun b=>Kp5 s n a b && (List.range' 0 n).all fun c=>Kot s n a b c)=r at ih ⊢
  cases Kos s n a <;> cases (List.range' 0 n).all (fun b=>Kp5 s n a b && (List.range' 0 n).all fun c=>Kot s n a b c) <;> cases r <;> simp [ih,bs]
theorem Kpe:∀ (k a:Nat),a + k=n→Kgg (s,(a:Int))=some (if (List.range' a k).all (fun a=>Kos s n a && (List.range' 0 n).all fun b=>Kp5 s n a b && (List.range' 0 n).all fun c=>Kot s n a b c) then .inl () else .inr false):=by
 have hhi:=h.hi
 have l0:(0:Nat) < n:=by have:=h.lo; omega
 have l1:(1:Nat) < n:=by have:=h.lo; omega
 intro k
 induction k with
 | zero =>
  intro c hm
  rw [Kgg.eq_def]
  simp only
  rw [h.size,Kod (by omega)]
  rfl
 | succ k ih =>
  intro a hm
  have ha:a < n:=by omega
  rw [Kgg.eq_def]
  simp only
  have hl:=Kpc h ha n 0 (by omega)
  have q1:Kfa (s,0,(a:Int))=_:=Koo h l0 ha
  have q2:Kfd (s,1,(a:Int))=_:=Kop h l1 ha
  have q3:Kfd (s,(a:Int),1)=_:=Kop h ha l1
  have q4:Kfd (s,0,(a:Int))=_:=Kop h l0 ha
  have q5:Kfd (s,(a:Int),0)=_:=Kop h ha l0
  have z1:(((ti s n 0 a:Nat):Int) != 0)=(ti s n 0 a != 0):=Kor _ 0
  have z2:(((ti s n a 0:Nat):Int) != 0)=(ti s n a 0 != 0):=Kor _ 0
  rw [show ((0:Nat):Int)=0 from rfl] at hl
  rw [h.size,Koc (by omega),if_pos rfl,q1,q2,q3,q4,q5,iLe h ha ha,hl]
  have ih:=ih (a + 1) (by omega)
  rw [Kob (by omega),List.range'_succ,List.all_cons]
  generalize ((a + 1:Nat):Int)=M at ih ⊢
  generalize (List.range' (a + 1) k).all (fun a=>Kos s n a && (List.range' 0 n).all fun b=>Kp5 s n a b && (List.range' 0 n).all fun c=>Kot s n a b c)=r at ih ⊢
  simp only [bs,Kor,z1,z2]
  cases h1:(pl s n 0 a == a) <;> cases h2:(ti s n 1 a == a) <;> cases h3:(ti s n a 1 == a) <;> cases h4:(ti s n 0 a == 0) <;> cases h5:(ti s n a 0 == 0) <;> cases h6:le s n a a <;> cases h7:(List.range' 0 n).all (fun b=>Kp5 s n a b && (List.range' 0 n).all fun c=>Kot s n a b c) <;> cases r <;> simp only [Kos,bne,h1,h2,h3,h4,h5,h6,h7,ih,bs,Bool.not_true,Bool.not_false,Bool.true_and,Bool.false_and,Bool.and_true,Bool.and_false,if_true,if_false,Bool.false_eq_true]
end
theorem Kpf {α:Type} {l r:List α} {x:α} {i:Nat} (h:l.drop i=x :: r):i < l.length∧idx l (i:Int)=some x∧l.drop (i + 1)=r:=by
 have hi:i < l.length:=by
  rcases Nat.lt_or_ge i l.length with h' | h'
  ·exact h'
  ·rw [List.drop_eq_nil_of_le h'] at h; cases h
 have e:=List.drop_eq_getElem_cons hi
 rw [h] at e
 obtain ⟨e1,e2⟩:=List.cons.inj e
 exact ⟨hi,by rw [Koa hi,e1],e2.symm⟩
theorem Kpg {α:Type} {l:List α} {i:Nat} (h:l.drop i=[]):l.length ≤ i:=by
 rcases Nat.lt_or_ge i l.length with h' | h'
 ·rw [List.drop_eq_getElem_cons h'] at h; cases h
 ·exact h'
def Kph (c:Int):Bool:=inB c 3 18 || c == 35
def Kpi (c:Int):Bool:=inB c 19 34 || c == 36
def Kpj (c:Int):Int:=if c == 0 then 0 else if c == 1 || c == 2 || Kph c then 2 else if Kpi c then 1 else -1
theorem Kpk (c:Int):Kcm c=some (Kph c):=by
 unfold Kcm Kph
 simp only [sIn,bs]
 cases inB c 3 18 <;> rfl
theorem Kpl (c:Int):Kcp c=some (Kpi c):=by
 unfold Kcp Kpi
 simp only [sIn,bs]
 cases inB c 19 34 <;> rfl
theorem Kpm (c:Int):Kcs c=some (Kpj c):=by
 unfold Kcs Kpj
 simp only [Kpk,Kpl,bs]
 cases c == 0 <;> cases c == 1 <;> cases c == 2 <;> cases Kph c <;> cases Kpi c <;> rfl
theorem Kpn (c:Int):(c=0∧Kpj c=0)∨((c=1∨c=2∨(3 ≤ c∧c ≤ 18)∨c=35)∧Kpj c=2)∨(((19 ≤ c∧c ≤ 34)∨c=36)∧Kpj c=1)∨((c < 0∨36 < c)∧Kpj c=-1):=by
 unfold Kpj Kph Kpi inB
 by_cases h0:c=0
 ·left; subst h0; exact ⟨rfl,rfl⟩
 ·right
  have e0:(c == 0)=false:=by simpa using h0
  by_cases h1:c=1∨c=2∨(3 ≤ c∧c ≤ 18)∨c=35
  ·left
   refine ⟨h1,?_⟩
   have:(c == 1 || c == 2 || (decide (c ≥ 3) && decide (c ≤ 18) || c == 35))=true:=by
    simp only [Bool.or_eq_true,Bool.and_eq_true,beq_iff_eq,decide_eq_true_eq]; omega
   rw [e0,this]; rfl
  ·right
   have q:(c == 1 || c == 2 || (decide (c ≥ 3) && decide (c ≤ 18) || c == 35))=false:=by
    rw [Bool.eq_false_iff]; intro h
    simp only [Bool.or_eq_true,Bool.and_eq_true,beq_iff_eq,decide_eq_true_eq] at h; omega
   rw [e0,q]
   by_cases h2:(19 ≤ c∧c ≤ 34)∨c=36
   ·left
    refine ⟨h2,?_⟩
    have:(decide (c ≥ 19) && decide (c ≤ 34) || c == 36)=true:=by
     simp only [Bool.or_eq_true,Bool.and_eq_true,beq_iff_eq,decide_eq_true_eq]; omega
    rw [this]; rfl
   ·right
    refine ⟨by omega,?_⟩
    have:(decide (c ≥ 19) && decide (c ≤ 34) || c == 36)=false:=by
     rw [Bool.eq_false_iff]; intro h
     simp only [Bool.or_eq_true,Bool.and_eq_true,beq_iff_eq,decide_eq_true_eq] at h; omega
    rw [this]; rfl
def Kpo (c:Int):Int × Int :=
 if inB c 0 2 then (c,-1) else if inB c 3 18 then (3,c - 3) else if inB c 19 34 then (4,c - 19) else if c == 35 then (3,-1) else if c == 36 then (4,-1) else (5,-1)
theorem Kpp (c:Int):Keb c=some (Kpo c):=by
 unfold Keb Kpo
 simp only [iIn,bs]
 cases h1:inB c 0 2
 ·cases h2:inB c 3 18
  ·cases h3:inB c 19 34
   ·cases c == 35 <;> cases c == 36 <;> rfl
   ·simp only [inB,Bool.and_eq_true,decide_eq_true_eq] at h3
    simp only [Bool.false_eq_true,if_false,if_true]
    rw [Ko9 (by omega) (by omega)]
  ·simp only [inB,Bool.and_eq_true,decide_eq_true_eq] at h2
   simp only [Bool.false_eq_true,if_false,if_true]
   rw [Ko9 (by omega) (by omega)]
 ·rfl
theorem Kpq (c:Int):(c=0∧Kpo c=(0,-1))∨(c=1∧Kpo c=(1,-1))∨(c=2∧Kpo c=(2,-1))∨((3 ≤ c∧c ≤ 18)∧Kpo c=(3,c - 3))∨(c=35∧Kpo c=(3,-1)) ∨
  ((19 ≤ c∧c ≤ 34)∧Kpo c=(4,c - 19))∨(c=36∧Kpo c=(4,-1))∨((c < 0∨36 < c)∧Kpo c=(5,-1)):=by
 have inT:∀ lo hi,lo ≤ c→c ≤ hi→inB c lo hi=true:=fun lo hi h1 h2=>by simp only [inB,Bool.and_eq_true,decide_eq_true_eq]; omega
 have inF:∀ lo hi,(c < lo∨hi < c)→inB c lo hi=false:=fun lo hi h=>by rw [Bool.eq_false_iff]; intro h'; simp only [inB,Bool.and_eq_true,decide_eq_true_eq] at h'; omega
 unfold Kpo
 by_cases h0:0 ≤ c∧c ≤ 2
 ·rw [inT 0 2 h0.1 h0.2]
  have:c=0∨c=1∨c=2:=by omega
  rcases this with rfl | rfl | rfl <;> simp
 ·rw [inF 0 2 (by omega)]
  by_cases h1:3 ≤ c∧c ≤ 18
  ·rw [inT 3 18 h1.1 h1.2]
   exact .inr (.inr (.inr (.inl ⟨h1,rfl⟩)))
  ·rw [inF 3 18 (by omega)]
   by_cases h2:19 ≤ c∧c ≤ 34
   ·rw [inT 19 34 h2.1 h2.2]
    exact .inr (.inr (.inr (.inr (.inr (.inl ⟨h2,rfl⟩)))))
   ·rw [inF 19 34 (by omega)]
    by_cases h3:c=35
    ·subst h3; simp
    ·by_cases h4:c=36
     ·subst h4; simp
     ·have e3:(c == 35)=false:=by simpa using h3
      have e4:(c == 36)=false:=by simpa using h4
      rw [e3,e4]
      refine .inr (.inr (.inr (.inr (.inr (.inr (.inr ⟨by omega,rfl⟩))))))
def skip:Nat→List Int→Option (List Int)
 | 0,l=>some l
 | _ + 1,[]=>none
 | m + 1,c :: l=>if Kpj c=-1 then none else skip (m + (Kpj c).toNat) l
theorem Kpr (l:List Int):skip 0 l=some l:=by cases l <;> rfl
theorem Kps (m:Nat):skip (m + 1) []=none:=rfl
theorem Kpt (m:Nat) (c:Int) (l:List Int):skip (m + 1) (c :: l)=if Kpj c=-1 then none else skip (m + (Kpj c).toNat) l:=rfl
theorem Kpu (l:List Int):∀ (m k:Nat),skip (m + k) l=(skip m l).bind (skip k):=by
 induction l with
 | nil =>
  intro m k
  cases m with
  | zero=>rw [Nat.zero_add,Kpr]; rfl
  | succ m=>rw [show m + 1 + k=(m + k) + 1 by omega,Kps,Kps]; rfl
 | cons c l ih =>
  intro m k
  cases m with
  | zero=>rw [Nat.zero_add,Kpr]; rfl
  | succ m =>
   rw [show m + 1 + k=(m + k) + 1 by omega,Kpt,Kpt]
   by_cases h:Kpj c=-1
   ·rw [if_pos h,if_pos h]; rfl
   ·rw [if_neg h,if_neg h,← ih]; congr 1; omega
theorem Kpv (l:List Int):∀ (m:Nat) (r:List Int),skip m l=some r→∃ p,l=p ++ r∧m ≤ p.length:=by
 induction l with
 | nil =>
  intro m r h
  cases m with
  | zero=>rw [Kpr] at h; cases h; exact ⟨[],rfl,Nat.le_refl _⟩
  | succ m=>rw [Kps] at h; cases h
 | cons c l ih =>
  intro m r h
  cases m with
  | zero=>rw [Kpr] at h; cases h; exact ⟨[],rfl,Nat.le_refl _⟩
  | succ m =>
   rw [Kpt] at h
   by_cases hk:Kpj c=-1
   ·rw [if_pos hk] at h; cases h
   ·rw [if_neg hk] at h
    obtain ⟨p,e,hp⟩:=ih _ _ h
    exact ⟨c :: p,by rw [e]; rfl,by simp; omega⟩
def Kpw (ty:List Int) (m i:Nat):Int:=match skip m (ty.drop i) with | some r=>((ty.length - r.length:Nat):Int) | none=>-1
theorem Kpx (ty:List Int) (hty:ty.length ≤ 1099511627776):∀ (l:List Int) (i m:Nat),ty.drop i=l→m ≤ 1099511627776 + 2 * i→∃ x,Kcw (ty,((m + 1:Nat):Int),(i:Int))=some x∧(match x with | .inl ()=>-1 | .inr r=>r)=Kpw ty (m + 1) i:=by
 intro l
 induction l with
 | nil =>
  intro i m hl hm
  rw [Kcw.eq_def]
  simp only
  rw [Kod (Kpg hl)]
  exact ⟨.inl (),rfl,by unfold Kpw; rw [hl,Kps]⟩
 | cons c l ih =>
  intro i m hl hm
  obtain ⟨hi,hx,hd⟩:=Kpf hl
  have hi2:(i:Int) < 1099511627776:=by omega
  rw [Kcw.eq_def]
  simp only
  rw [Koc hi,if_pos rfl,hx,bs,Kpm,bs]
  have he:Kpw ty (m + 1) i=(match (if Kpj c=-1 then none else skip (m + (Kpj c).toNat) l) with | some r=>((ty.length - r.length:Nat):Int) | none=>-1):=by
   unfold Kpw; rw [hl,Kpt]
  rw [he]
  by_cases hk:Kpj c=-1
  ·rw [if_pos hk,hk]
   exact ⟨.inr (-1),rfl,rfl⟩
  ·rw [if_neg hk]
   have hk0:0 ≤ Kpj c∧Kpj c ≤ 2:=by rcases Kpn c with h | h | h | h <;> omega
   obtain ⟨k,hkk⟩:∃ k:Nat,Kpj c=(k:Int):=⟨(Kpj c).toNat,by omega⟩
   rw [decide_eq_false (by omega),if_neg (by decide),hkk,Int.toNat_natCast]
   rw [Ko9 (x:=((m + 1:Nat):Int) - 1) (by omega) (by omega),show ((m + 1:Nat):Int) - 1=(m:Int) by omega,Ko9 (x:=(m:Int) + (k:Int)) (by omega) (by omega),Kob (by omega)]
   by_cases h0:m + k=0
   ·rw [show ((m:Int) + (k:Int) == 0)=true by simp; omega,if_pos rfl,h0,Kpr]
    refine ⟨_,rfl,?_⟩
    have:l.length=ty.length - (i + 1):=by rw [← hd,List.length_drop]
    simp only
    omega
   ·rw [show ((m:Int) + (k:Int) == 0)=false by simp; omega,if_neg (by decide)]
    obtain ⟨q,hq⟩:∃ q,m + k=q + 1:=⟨m + k - 1,by omega⟩
    have:=ih (i + 1) q hd (by omega)
    rw [show (m:Int) + (k:Int)=((q + 1:Nat):Int) by omega]
    obtain ⟨x,h1,h2⟩:=this
    exact ⟨x,h1,by rw [h2,hq]; unfold Kpw; rw [hd]⟩
theorem Kpy (ty:List Int) (hty:ty.length ≤ 1099511627776) (i:Nat) (hi:i ≤ ty.length):Kcz (ty,(i:Int))=some (Kpw ty 1 i):=by
 unfold Kcz
 obtain ⟨x,h1,h2⟩:=Kpx ty hty _ i 0 rfl (by omega)
 simp only
 rw [show (1:Int)=((0 + 1:Nat):Int) from rfl,h1,bs]
 rw [← h2]
 cases x <;> rfl
theorem Kpz (ty:List Int) (i:Nat) (hi:i ≤ ty.length):Kpw ty 2 i=(if Kpw ty 1 i=-1 then -1 else Kpw ty 1 (Kpw ty 1 i).toNat):=by
 unfold Kpw
 rw [show 2=1 + 1 from rfl,Kpu]
 cases h:skip 1 (ty.drop i) with
 | none=>simp
 | some r =>
  obtain ⟨p,hp,hl⟩:=Kpv _ _ _ h
  have hlen:ty.length - i=p.length + r.length:=by rw [← List.length_drop,hp,List.length_append]
  have:ty.drop (ty.length - r.length)=r:=by
   have e:ty.drop (ty.length - r.length)=(ty.drop i).drop p.length:=by rw [List.drop_drop]; congr 1; omega
   rw [e,hp,List.drop_left]
  simp only [Option.bind_some]
  rw [if_neg (by omega),Int.toNat_natCast,this]
theorem Kq0 (ty:List Int) (hty:ty.length ≤ 1099511627776):∀ (d i:Nat),ty.length - i=d→Kee (ty,(i:Int))=some (Kpw ty 1 i):=by
 intro d
 induction d using Nat.strongRecOn with
 | ind d ih =>
  intro i hd
  rw [Kee.eq_def]
  simp only
  rw [decide_eq_false (by omega:¬ (i:Int) < 0)]
  simp only [Bool.false_eq_true,if_false,bs]
  by_cases hi:i < ty.length
  ·rw [decide_eq_false (by omega),if_neg (by decide),Koa hi,bs,Kpp,bs]
   have hdr:=List.drop_eq_getElem_cons hi
   have he:∀ k:Nat,Kpj ty[i]=(k:Int)→Kpw ty 1 i=Kpw ty k (i + 1):=fun k hk=>by
    unfold Kpw
    rw [hdr,show 1=0 + 1 from rfl,Kpt,hk,if_neg (by omega),Int.toNat_natCast,Nat.zero_add]
   have hn:Kpj ty[i]=-1→Kpw ty 1 i=-1:=fun hk=>by
    unfold Kpw
    rw [hdr,show 1=0 + 1 from rfl,Kpt,if_pos hk]
   have i1:=ih (ty.length - (i + 1)) (by omega) (i + 1) rfl
   have hz:∀ i:Nat,i ≤ ty.length→Kpw ty 0 i=(i:Int):=fun i hi=>by unfold Kpw; rw [Kpr]; simp only [List.length_drop]; omega
   rw [Kob (by omega)]
   have two:Kpj ty[i]=2→((Kee (ty,((i + 1:Nat):Int))) >>= fun r_11_4=>(Kee (ty,r_11_4)) >>= fun r_11_5=>some r_11_5)=some (Kpw ty 1 i):=fun hk=>by
    rw [i1,bs,he 2 hk,Kpz ty (i + 1) (by omega)]
    by_cases h1:Kpw ty 1 (i + 1)=-1
    ·rw [h1,if_pos rfl,Kee.eq_def]; rfl
    ·rw [if_neg h1]
     obtain ⟨e,hee,hlo⟩:∃ e:Nat,Kpw ty 1 (i + 1)=(e:Int)∧i + 1 < e:=by
      unfold Kpw at h1 ⊢
      cases hs:skip 1 (ty.drop (i + 1)) with
      | none=>rw [hs] at h1; exact absurd rfl h1
      | some r =>
       obtain ⟨p,hp,hl⟩:=Kpv _ _ _ hs
       have hlen:ty.length - (i + 1)=p.length + r.length:=by rw [← List.length_drop,hp,List.length_append]
       exact ⟨_,rfl,by omega⟩
     rw [hee,Int.toNat_natCast,ih (ty.length - e) (by omega) e rfl,bs]
   rcases Kpq ty[i] with ⟨h,e⟩ | ⟨h,e⟩ | ⟨h,e⟩ | ⟨h,e⟩ | ⟨h,e⟩ | ⟨h,e⟩ | ⟨h,e⟩ | ⟨h,e⟩ <;> rw [e] <;> simp only []
   ·have hk:Kpj ty[i]=0:=by rcases Kpn ty[i] with h | h | h | h <;> omega
    rw [if_pos (by rfl),he 0 hk,hz _ (by omega)]
   ·have hk:Kpj ty[i]=2:=by rcases Kpn ty[i] with h | h | h | h <;> omega
    exact two hk
   ·have hk:Kpj ty[i]=2:=by rcases Kpn ty[i] with h | h | h | h <;> omega
    exact two hk
   ·have hk:Kpj ty[i]=2:=by rcases Kpn ty[i] with h | h | h | h <;> omega
    exact two hk
   ·have hk:Kpj ty[i]=2:=by rcases Kpn ty[i] with h | h | h | h <;> omega
    exact two hk
   ·have hk:Kpj ty[i]=1:=by rcases Kpn ty[i] with h | h | h | h <;> omega
    rw [he 1 hk,if_neg (by decide),if_pos (by rfl),i1,bs]
   ·have hk:Kpj ty[i]=1:=by rcases Kpn ty[i] with h | h | h | h <;> omega
    rw [he 1 hk,if_neg (by decide),if_pos (by rfl),i1,bs]
   ·have hk:Kpj ty[i]=-1:=by rcases Kpn ty[i] with h | h | h | h <;> omega
    rw [hn hk]; rfl
  ·rw [decide_eq_true (by omega),if_pos rfl]
   unfold Kpw
   rw [List.drop_eq_nil_of_le (by omega),Kps]
def wtB (ty:List Int):Bool:=decide (ty.length ≤ 40) && (skip 1 ty == some [])
theorem Kq1 (ty:List Int):(Kpw ty 1 0 == (ty.length:Int))=(skip 1 ty == some []):=by
 unfold Kpw
 rw [List.drop_zero]
 cases h:skip 1 ty with
 | none=>simp
 | some r =>
  obtain ⟨p,hp,hl⟩:=Kpv _ _ _ h
  have hlen:ty.length=p.length + r.length:=by rw [hp,List.length_append]
  cases r with
  | nil=>simp
  | cons x xs =>
   simp only [List.length_cons] at hlen ⊢
   simp
   omega
theorem Kq2 (ty:List Int) (hty:ty.length ≤ 1099511627776):Kd2 ty=some (wtB ty):=by
 unfold Kd2 wtB
 by_cases h:ty.length ≤ 40
 ·rw [decide_eq_true (by omega:(ty.length:Int) ≤ 40),if_pos rfl,show (0:Int)=((0:Nat):Int) from rfl,Kpy ty hty 0 (by omega),bs,Kq1,decide_eq_true h]
  cases hs:skip 1 ty == some [] with
  | false=>rfl
  | true =>
   have:0 < ty.length:=by
    rcases ty with _ | ⟨c,l⟩
    ·rw [show skip 1 []=none from rfl] at hs; cases hs
    ·simp
   rw [if_pos rfl,decide_eq_true (by omega:(ty.length:Int) > ((0:Nat):Int))]; rfl
 ·rw [decide_eq_false (by omega:¬ (ty.length:Int) ≤ 40),decide_eq_false h]; rfl
theorem Kq3 (ty:List Int) (hty:ty.length ≤ 1099511627776):Keh ty=some (wtB ty):=by
 unfold Keh wtB
 rw [iIn,bs]
 by_cases h:ty.length ≤ 40
 ·rw [decide_eq_true h]
  by_cases h1:1 ≤ ty.length
  ·have:inB (ty.length:Int) 1 40=true:=by simp only [inB,Bool.and_eq_true,decide_eq_true_eq]; omega
   rw [this,if_pos rfl,show (0:Int)=((0:Nat):Int) from rfl,Kq0 ty hty _ 0 rfl,bs,Kq1]; rfl
  ·have:inB (ty.length:Int) 1 40=false:=by rw [Bool.eq_false_iff]; intro h'; simp only [inB,Bool.and_eq_true,decide_eq_true_eq] at h'; omega
   have e:ty=[]:=List.length_eq_zero_iff.1 (by omega)
   rw [this,e]; rfl
 ·have:inB (ty.length:Int) 1 40=false:=by rw [Bool.eq_false_iff]; intro h'; simp only [inB,Bool.and_eq_true,decide_eq_true_eq] at h'; omega
  rw [this,decide_eq_false h]; rfl
def Kq4 (c:Int):Int:=if 35 ≤ c then -1 else if 19 ≤ c then c - 19 else c - 3
def Kq5 (size:Int) (closed:Bool) (c:Int):Bool:=!(decide (Kpj c > 0) && decide (c > 2) && (decide (Kq4 c ≥ size) || closed && decide (Kq4 c < 0)))
theorem Kq6 {c:Int} (h:Kpj c > 0):Kd5 c=some (Kq4 c):=by
 have:0 ≤ c∧c ≤ 36:=by rcases Kpn c with h | h | h | h <;> omega
 unfold Kd5 Kq4
 by_cases h1:35 ≤ c
 ·rw [decide_eq_true (by omega:c ≥ 35),if_pos rfl,if_pos h1]
 ·rw [decide_eq_false (by omega:¬ c ≥ 35),if_neg (by decide),if_neg h1]
  by_cases h2:19 ≤ c
  ·rw [decide_eq_true (by omega:c ≥ 19),if_pos rfl,if_pos h2,Ko9 (by omega) (by omega)]
  ·rw [decide_eq_false (by omega:¬ c ≥ 19),if_neg (by decide),if_neg h2,Ko9 (by omega) (by omega)]
theorem Kq7 (ty:List Int) (hty:ty.length ≤ 1099511627776) (size:Int) (cl:Bool):∀ (l:List Int) (i:Nat),ty.drop i=l→Kda (ty,size,cl,(i:Int))=some (if l.all (Kq5 size cl) then .inl () else .inr false):=by
 intro l
 induction l with
 | nil =>
  intro i hl
  rw [Kda.eq_def]
  simp only
  rw [Kod (Kpg hl)]; rfl
 | cons c l ih =>
  intro i hl
  obtain ⟨hi,hx,hd⟩:=Kpf hl
  rw [Kda.eq_def]
  simp only
  rw [Koc hi,if_pos rfl,hx,bs,bs,Kpm,bs,Kob (by omega)]
  have ih:=ih (i + 1) hd
  generalize ((i + 1:Nat):Int)=M at ih ⊢
  rw [List.all_cons]
  unfold Kq5 at ih ⊢
  by_cases hk:Kpj c > 0
  ·simp only [bs,Kq6 hk]
   rw [decide_eq_true hk]
   generalize Kq4 c=g at ih ⊢
   cases decide (c > 2) <;> cases decide (g ≥ size) <;> cases cl <;> cases decide (g < 0) <;> simp [bs,ih]
  ·rw [decide_eq_false hk]; simp [bs,ih]
theorem Kq8 (ty:List Int) (hty:ty.length ≤ 1099511627776) (size:Int) (cl:Bool):Kdd (ty,size,cl)=some (ty.all (Kq5 size cl)):=by
 unfold Kdd
 simp only
 rw [show (0:Int)=((0:Nat):Int) from rfl,Kq7 ty hty size cl _ 0 rfl,List.drop_zero,bs]
 cases ty.all (Kq5 size cl) <;> rfl
theorem Kq9 {α β:Type} {a:Option α} {f:α→Option β} {x:α} (h:a=some x):(a >>= f)=f x:=by rw [h]; rfl
mutual
def tsz:K02→Nat
 | ⟨_,_,_,ks⟩=>1 + Kqa ks
def Kqa:List K02→Nat
 | []=>0
 | k :: ks=>tsz k + Kqa ks
end
mutual
def tms:K02→Nat
 | ⟨_,_,ty,ks⟩=>ty.length + ks.length + Kqb ks
def Kqb:List K02→Nat
 | []=>0
 | k :: ks=>tms k + Kqb ks
end
theorem Kqc (t:K02):tsz t=1 + Kqa t.fKids:=by cases t; rw [tsz]
def Kqd (left n:Nat):Int:=if n ≤ left then ((left - n:Nat):Int) else -1
theorem Kqe {left n:Nat} (h:n ≤ left):Kqd left n=((left - n:Nat):Int):=if_pos h
theorem Kqf {left n:Nat} (h:¬ n ≤ left):Kqd left n=-1:=if_neg h
theorem Kqg (t:K02) (i:Int):Knf (t,-1,i)=some (-1):=by
 rw [Knf.eq_def]
 simp only
 cases decide (i < (t.fKids.length:Int)) <;> rfl
mutual
theorem Kqh:∀ (t:K02) (left:Nat),tms t ≤ 1099511627776→left ≤ 1048576→Kne (t,(left:Int))=some (Kqd left (tsz t))
 | ⟨op,N,ty,ks⟩,left,ht,hl=>by
  rw [tms] at ht
  rw [Kne.eq_def,tsz]
  simp only
  rcases left with _ | l
  ·rw [show wr (((0:Nat):Int) - 1)=-1 from Ko9 (by omega) (by omega),Kqg,bs,Kqf (by omega)]
  ·have h:=Kqi ks ⟨op,N,ty,ks⟩ 0 l rfl (by simp only; omega) (by omega) (by omega)
   rw [Ko9 (by omega) (by omega),show ((l + 1:Nat):Int) - 1=(l:Int) by omega,show (0:Int)=((0:Nat):Int) from rfl,h,bs]
   unfold Kqd
   by_cases q:Kqa ks ≤ l
   ·rw [if_pos q,if_pos (by omega),show l + 1 - (1 + Kqa ks)=l - Kqa ks by omega]
   ·rw [if_neg q,if_neg (by omega)]
theorem Kqi:∀ (ks:List K02) (t:K02) (i left:Nat),t.fKids.drop i=ks→t.fKids.length ≤ 1099511627776→Kqb ks ≤ 1099511627776→left ≤ 1048576→Knf (t,(left:Int),(i:Int))=some (Kqd left (Kqa ks))
 | [],t,i,left,hd,hk,ht,hl=>by
  rw [Knf.eq_def,Kqa]
  simp only
  rw [Kod (Kpg hd)]
  simp [bs,Kqd]
 | k :: ks,t,i,left,hd,hk,ht,hl=>by
  obtain ⟨hi,hx,hd'⟩:=Kpf hd
  rw [Kqb] at ht
  rw [Knf.eq_def,Kqa]
  simp only
  rw [Koc hi,if_pos rfl,bs,decide_eq_true (by omega:((left:Nat):Int) ≥ 0),if_pos rfl,hx,bs,Kqh k left (by omega) hl,bs,Kob (by omega)]
  by_cases q:tsz k ≤ left
  ·rw [Kqe q,Kqi ks t (i + 1) (left - tsz k) hd' hk (by omega) (by omega)]
   unfold Kqd
   by_cases q2:Kqa ks ≤ left - tsz k
   ·rw [if_pos q2,if_pos (by omega)]; congr 2; omega
   ·rw [if_neg q2,if_neg (by omega)]
  ·rw [Kqf q,Kqg,Kqf (by omega)]
end
def Kqj (op:Int):Int:=if inB op 0 12 then ([0,0,2,3,2,2,1,1,3,1,2,1,2]:List Int).getD op.toNat 0 else -1
def Kqk (op:Int):Bool:=op == 5 || op == 8 || op == 9 || op == 11 || op == 12
def Kql (op:Int):Bool:=op == 6 || op == 7 || op == 9
def Kqm (op:Int):ByteArray:=([ByteArray.mk #[120],ByteArray.empty,ByteArray.mk #[97,100,100],ByteArray.mk #[105,102],ByteArray.mk #[112,97,105,114],ByteArray.mk #[115,112,108,105,116],ByteArray.mk #[108,101,102,116],
 ByteArray.mk #[114,105,103,104,116],ByteArray.mk #[99,97,115,101],ByteArray.mk #[102,117,110],ByteArray.mk #[97,112,112],ByteArray.mk #[98,111,120],ByteArray.mk #[111,112,101,110]]:List ByteArray).getD op.toNat ByteArray.empty
theorem Kqn {op:Int} (h:inB op 0 12=true):op=0∨op=1∨op=2∨op=3∨op=4∨op=5∨op=6∨op=7∨op=8∨op=9∨op=10∨op=11∨op=12:=by
 simp only [inB,Bool.and_eq_true,decide_eq_true_eq] at h
 omega
theorem Kqo (op:Int):Kng op=some (Kqj op):=by
 unfold Kng Kqj
 rw [sIn,bs]
 cases h:inB op 0 12
 ·rfl
 ·rcases Kqn h with rfl | rfl | rfl | rfl | rfl | rfl | rfl | rfl | rfl | rfl | rfl | rfl | rfl <;> rfl
theorem Kqp (op:Int):Knh op=some (Kqk op):=by
 unfold Knh Kqk
 cases op == 5 <;> cases op == 8 <;> cases op == 9 <;> cases op == 11 <;> rfl
theorem Kqq (op:Int):Kni op=some (Kql op):=by
 unfold Kni Kql
 cases op == 6 <;> cases op == 7 <;> rfl
def Kqr (op:Int):K04 × Bool:=if inB op 0 12 then (K04.mk (Kqm op) (Kqj op) (Kqk op) (Kql op),true) else (K04.mk ByteArray.empty 0 false false,false)
theorem Kqs (op:Int):Khs op=some (Kqr op):=by
 unfold Khs Kqr
 rw [iIn,bs]
 cases h:inB op 0 12
 ·rfl
 ·rcases Kqn h with rfl | rfl | rfl | rfl | rfl | rfl | rfl | rfl | rfl | rfl | rfl | rfl | rfl <;> rfl
def Kqt (op kid:Int):Nat:=if op == 5 && kid == 1 then 2 else if (op == 8 && decide (kid > 0)) || op == 9 || (op == 12 && kid == 1) then 1 else 0
theorem Kqu (op kid:Int):Kqt op kid ≤ 2:=by unfold Kqt; split <;> (try split) <;> omega
theorem Kqv (op kid:Int):Knk (op,kid)=some ((Kqt op kid:Nat):Int):=by
 unfold Knk Kqt
 simp only
 generalize (op == 5)=b1
 generalize (op == 8)=b2
 generalize (op == 9)=b3
 generalize (op == 12)=b4
 generalize (kid == 1)=b5
 generalize decide (kid > 0)=b6
 cases b1 <;> cases b2 <;> cases b3 <;> cases b4 <;> cases b5 <;> cases b6 <;> rfl
theorem Kqw (op kid:Int):Khy (op,kid)=some ((Kqt op kid:Nat):Int):=by
 unfold Khy Kqt
 simp only
 generalize (op == 5)=b1
 generalize (op == 8)=b2
 generalize (op == 9)=b3
 generalize (op == 12)=b4
 generalize (kid == 1)=b5
 generalize decide (kid > 0)=b6
 cases b1 <;> cases b2 <;> cases b3 <;> cases b4 <;> cases b5 <;> cases b6 <;> rfl
def Kqx (g:Int→Bool) (n:Int) (t:K02):Bool:=if t.fOp == 0 then inB t.fN 0 (n - 1) else if t.fOp == 1 then inB t.fN 0 2 else if Kqk t.fOp then g t.fN else t.fN == 0
def Kqy (y:List Int→Bool) (t:K02):Bool:=if Kql t.fOp then y t.fType else (t.fType.length:Int) == 0
def Kqz (g:Int→Bool) (y:List Int→Bool) (n:Int) (t:K02):Bool:=inB t.fOp 0 12 && ((t.fKids.length:Int) == Kqj t.fOp) && Kqx g n t && Kqy y t
mutual
def tOk (g:Int→Bool) (y:List Int→Bool):Nat→K02→Bool
 | n,⟨op,N,ty,ks⟩=>Kqz g y (n:Int) ⟨op,N,ty,ks⟩ && Kr0 g y op n 0 ks
def Kr0 (g:Int→Bool) (y:List Int→Bool):Int→Nat→Nat→List K02→Bool
 | _,_,_,[]=>true
 | op,n,i,k :: ks=>tOk g y (n + Kqt op (i:Int)) k && Kr0 g y op n (i + 1) ks
end
theorem Kr1 (g:Int→Bool) (y:List Int→Bool) (n:Nat) (t:K02):tOk g y n t=(Kqz g y (n:Int) t && Kr0 g y t.fOp n 0 t.fKids):=by cases t; rw [tOk]
def gN (size:Int) (cl:Bool) (x:Int):Bool:=!(decide (x ≥ size) || decide (x < -1) || cl && decide (x < 0))
def yN (size:Int) (cl:Bool) (ty:List Int):Bool:=wtB ty && ty.all (Kq5 size cl)
theorem Kr2 (t:K02) (n:Nat) (size:Int) (cl:Bool) (hty:t.fType.length ≤ 1099511627776) (hn:n ≤ 35184372088832):Knj (t,(n:Int),size,cl)=some (Kqz (gN size cl) (yN size cl) (n:Int) t):=by
 unfold Knj Kqz
 simp only
 rw [Kqo,bs]
 by_cases hk:(t.fKids.length:Int)=Kqj t.fOp
 ·have hop:inB t.fOp 0 12=true:=by
   cases h:inB t.fOp 0 12
   ·unfold Kqj at hk; rw [h] at hk; simp at hk
   ·rfl
  rw [show ((t.fKids.length:Int) != Kqj t.fOp)=false by rw [hk]; exact Koe,if_neg (by decide),show ((t.fKids.length:Int) == Kqj t.fOp)=true by rw [hk]; simp,hop]
  refine (Kq9 (x:=if Kqx (gN size cl) (n:Int) t then .inl () else .inr false) ?_).trans ?_
  ·unfold Kqx gN
   rw [sIn,Ko9 (by omega) (by omega),sIn,Kqp]
   simp only [bs]
   generalize inB t.fN 0 ((n:Int) - 1)=b1
   generalize inB t.fN 0 2=b2
   generalize Kqk t.fOp=b3
   rw [show (t.fN != 0)=!(t.fN == 0) from rfl]
   generalize (t.fN == 0)=b4
   generalize decide (t.fN ≥ size)=b5
   generalize decide (t.fN < -1)=b6
   generalize decide (t.fN < 0)=b7
   generalize (t.fOp == 0)=b8
   generalize (t.fOp == 1)=b9
   cases b8
   ·cases b9
    ·cases b3
     ·cases b4 <;> rfl
     ·cases b5 <;> cases b6 <;> cases cl <;> cases b7 <;> rfl
    ·cases b2 <;> rfl
   ·cases b1 <;> rfl
  ·cases Kqx (gN size cl) (n:Int) t
   ·simp
   ·unfold Kqy yN
    simp only [if_true]
    rw [Kqq,bs]
    cases Kql t.fOp
    ·simp
    ·simp only [if_true]
     rw [Kq2 _ hty,Kq8 _ hty]
     cases wtB t.fType <;> simp [bs]
 ·rw [show ((t.fKids.length:Int) != Kqj t.fOp)=true by simpa using hk,if_pos rfl,show ((t.fKids.length:Int) == Kqj t.fOp)=false by simpa using hk]
  simp
mutual
theorem Kr3 (size:Int) (cl:Bool):∀ (t:K02) (n:Nat),tms t ≤ 1099511627776→n + 2 * tms t ≤ 35184372088832→Knl (t,(n:Int),size,cl)=some (tOk (gN size cl) (yN size cl) n t)
 | ⟨op,N,ty,ks⟩,n,ht,hn=>by
  rw [tms] at ht hn
  rw [Knl.eq_def,tOk]
  simp only
  rw [Kr2 _ n size cl (by simp only; omega) (by omega),bs]
  cases hb:Kqz (gN size cl) (yN size cl) (n:Int) ⟨op,N,ty,ks⟩
  ·rfl
  ·have h:=Kr4 size cl ks ⟨op,N,ty,ks⟩ n 0 rfl (by simp only; omega) (by omega) (by omega)
   rw [if_pos rfl,show (0:Int)=((0:Nat):Int) from rfl,h,bs]
   simp only
   cases Kr0 (gN size cl) (yN size cl) op n 0 ks <;> rfl
theorem Kr4 (size:Int) (cl:Bool):∀ (ks:List K02) (t:K02) (n i:Nat),t.fKids.drop i=ks→t.fKids.length ≤ 1099511627776→Kqb ks ≤ 1099511627776→n + 2 * (ks.length + Kqb ks) ≤ 35184372088832 →
  Knm (t,(n:Int),size,cl,(i:Int))=some (if Kr0 (gN size cl) (yN size cl) t.fOp n i ks then .inl () else .inr false)
 | [],t,n,i,hd,hk,ht,hn=>by
  rw [Knm.eq_def,Kr0]
  simp only
  rw [Kod (Kpg hd)]; rfl
 | k :: ks,t,n,i,hd,hk,ht,hn=>by
  obtain ⟨hi,hx,hd'⟩:=Kpf hd
  rw [Kqb] at ht hn
  rw [List.length_cons] at hn
  have ha:=Kqu t.fOp (i:Int)
  rw [Knm.eq_def,Kr0]
  simp only
  rw [Koc hi,if_pos rfl,hx,bs,Kqv,bs,Ko9 (by omega) (by omega),show (n:Int) + ((Kqt t.fOp (i:Int):Nat):Int)=((n + Kqt t.fOp (i:Int):Nat):Int) by omega]
  rw [Kr3 size cl k (n + Kqt t.fOp (i:Int)) (by omega) (by omega),bs,Kob (by omega)]
  cases tOk (gN size cl) (yN size cl) (n + Kqt t.fOp (i:Int)) k
  ·rfl
  ·rw [if_pos rfl,Kr4 size cl ks t n (i + 1) hd' hk (by omega) (by omega),Bool.true_and]
end
def Kr5 (ok:Bool) (nodes sz:Nat):Int:=if ok && decide (nodes + sz ≤ 400) then ((nodes + sz:Nat):Int) else 401
theorem iWs (x:Int):Kmg x=some (gN 16 false x):=by
 unfold Kmg
 rw [iIn,bs]
 congr 1
 unfold gN inB
 by_cases h1:x ≥ 16 <;> by_cases h2:x < -1 <;> simp [h1,h2] <;> omega
mutual
theorem Kr6:∀ (t:K02) (n nodes:Nat),tms t ≤ 1099511627776→n + 2 * tms t ≤ 35184372088832→nodes ≤ 400→Kmk (t,(n:Int),(nodes:Int))=some (Kr5 (tOk (gN 16 false) wtB n t) nodes (tsz t))
 | ⟨op,N,ty,ks⟩,n,nodes,ht,hn,hd=>by
  rw [tms] at ht hn
  rw [Kmk.eq_def,tOk,tsz]
  simp only
  rw [Kqs,bs]
  unfold Kqr
  cases hop:inB op 0 12
  ·simp [Kqz,hop,Kr5]
  ·simp only [if_true]
   rw [Kob (by omega)]
   by_cases h4:nodes + 1 ≤ 400
   ·rw [decide_eq_false (by omega:¬ ((nodes + 1:Nat):Int) > 400)]
    by_cases hk:(ks.length:Int)=Kqj op
    ·rw [show ((ks.length:Int) != Kqj op)=false by rw [hk]; exact Koe]
     simp only [Bool.false_eq_true,if_false,bs]
     refine (Kq9 (x:=Kqx (gN 16 false) (n:Int) ⟨op,N,ty,ks⟩) ?_).trans ?_
     ·unfold Kqx
      simp only [iIn,Ko9 (x:=(n:Int) - 1) (by omega) (by omega),iWs,bs]
      cases op == 0 <;> cases op == 1 <;> cases Kqk op <;> rfl
     refine (Kq9 (x:=Kqx (gN 16 false) (n:Int) ⟨op,N,ty,ks⟩ && Kqy wtB ⟨op,N,ty,ks⟩) ?_).trans ?_
     ·unfold Kqy
      simp only [Kq3 ty (by omega),bs]
      cases Kql op <;> cases Kqx (gN 16 false) (n:Int) ⟨op,N,ty,ks⟩ <;> rfl
     have e:Kqz (gN 16 false) wtB (n:Int) ⟨op,N,ty,ks⟩=(Kqx (gN 16 false) (n:Int) ⟨op,N,ty,ks⟩ && Kqy wtB ⟨op,N,ty,ks⟩):=by
      unfold Kqz
      simp only
      rw [hop,hk]; simp
     rw [e]
     cases Kqx (gN 16 false) (n:Int) ⟨op,N,ty,ks⟩ && Kqy wtB ⟨op,N,ty,ks⟩
     ·simp [Kr5]
     ·have h:=Kr7 ks ⟨op,N,ty,ks⟩ n (nodes + 1) 0 rfl (by simp only; omega) (by omega) (by omega) h4
      rw [if_pos rfl,show (0:Int)=((0:Nat):Int) from rfl,h]
      simp only [Bool.true_and]
      unfold Kr5
      rw [show nodes + (1 + Kqa ks)=nodes + 1 + Kqa ks by omega]
      cases Kr0 (gN 16 false) wtB op n 0 ks && decide (nodes + 1 + Kqa ks ≤ 400) <;> rfl
    ·rw [show ((ks.length:Int) != Kqj op)=true by simpa using hk]
     have e:Kqz (gN 16 false) wtB (n:Int) ⟨op,N,ty,ks⟩=false:=by
      unfold Kqz
      simp only
      rw [show ((ks.length:Int) == Kqj op)=false by simpa using hk]; simp
     simp [e,Kr5]
   ·rw [decide_eq_true (by omega:((nodes + 1:Nat):Int) > 400)]
    have:¬ nodes + (1 + Kqa ks) ≤ 400:=by omega
    simp [Kr5,this]
theorem Kr7:∀ (ks:List K02) (t:K02) (n nodes i:Nat),t.fKids.drop i=ks→t.fKids.length ≤ 1099511627776→Kqb ks ≤ 1099511627776→n + 2 * (ks.length + Kqb ks) ≤ 35184372088832→nodes ≤ 400 →
  Kml (t,(n:Int),(nodes:Int),(i:Int))=some (if Kr0 (gN 16 false) wtB t.fOp n i ks && decide (nodes + Kqa ks ≤ 400) then .inl ((nodes + Kqa ks:Nat):Int) else .inr 401)
 | [],t,n,nodes,i,hd,hk,ht,hn,h4=>by
  rw [Kml.eq_def,Kr0,Kqa]
  simp only
  rw [Kod (Kpg hd)]
  simp [h4]
 | k :: ks,t,n,nodes,i,hd,hk,ht,hn,h4=>by
  obtain ⟨hi,hx,hd'⟩:=Kpf hd
  rw [Kqb] at ht hn
  rw [List.length_cons] at hn
  have ha:=Kqu t.fOp (i:Int)
  rw [Kml.eq_def,Kr0,Kqa]
  simp only
  rw [Koc hi,if_pos rfl,hx,bs,Kqw,bs,Ko9 (by omega) (by omega),show (n:Int) + ((Kqt t.fOp (i:Int):Nat):Int)=((n + Kqt t.fOp (i:Int):Nat):Int) by omega]
  rw [Kr6 k (n + Kqt t.fOp (i:Int)) nodes (by omega) (by omega) h4,bs,Kob (by omega)]
  unfold Kr5
  cases tOk (gN 16 false) wtB (n + Kqt t.fOp (i:Int)) k
  ·rfl
  ·by_cases q:nodes + tsz k ≤ 400
   ·rw [decide_eq_true q,Bool.true_and,if_pos rfl,decide_eq_false (by omega:¬ ((nodes + tsz k:Nat):Int) > 400),if_neg (by decide),Kr7 ks t n (nodes + tsz k) (i + 1) hd' hk (by omega) (by omega) q,Nat.add_assoc,Bool.true_and]
   ·rw [decide_eq_false q,decide_eq_false (by omega:¬ nodes + (tsz k + Kqa ks) ≤ 400)]
    simp
end
def wB (t:K02):Bool:=tOk (gN 16 false) wtB 8 t && decide (tsz t ≤ 400)
theorem Kr8 (t:K02) (ht:tms t ≤ 1099511627776):Kmr t=some (Kr5 (tOk (gN 16 false) wtB 8 t) 0 (tsz t)):=by
 unfold Kmr
 have:=Kr6 t 8 0 ht (by omega) (by omega)
 rw [show ((8:Nat):Int)=8 from rfl,show ((0:Nat):Int)=0 from rfl] at this
 rw [this,bs]
theorem Kr9 (t:K02) (ht:tms t ≤ 1099511627776):Kmu t=some (wB t):=by
 unfold Kmu
 rw [Kr8 t ht,bs]
 unfold Kr5 wB
 rw [Nat.zero_add]
 congr 1
 cases h:tOk (gN 16 false) wtB 8 t && decide (tsz t ≤ 400)
 ·rfl
 ·simp only [Bool.and_eq_true,decide_eq_true_eq] at h
  rw [if_pos rfl,decide_eq_true (by omega)]
theorem Kra {ty:List Int} (h:wtB ty=true):ty.length ≤ 40:=by
 unfold wtB at h
 rw [Bool.and_eq_true,decide_eq_true_eq] at h
 exact h.1
theorem Krb {g:Int→Bool} {y:List Int→Bool} {n:Nat} {t:K02} (h:tOk g y n t=true):Kqz g y (n:Int) t=true∧Kr0 g y t.fOp n 0 t.fKids=true:=by
 rw [Kr1,Bool.and_eq_true] at h; exact h
theorem Krc {n b:Nat} (h:n * b ≤ 140737488355328):Qdq n b=some ():=by unfold Qdq chk; rw [if_pos h]
def Krd (l:List K02) (i:Nat):Int:=match l[i]? with | some t=>t.fOp | none=>-1
def Kre (t:K02):Bool :=
 if t.fKids.length=0 then false else
 if t.fOp == 2 then Krd t.fKids 0 == 1 && Krd t.fKids 1 == 1 else if t.fOp == 3 then Krd t.fKids 0 == 1 else if t.fOp == 10 then Krd t.fKids 0 == 9 else if t.fOp == 5 then Krd t.fKids 0 == 4
 else if t.fOp == 8 then Krd t.fKids 0 == 6 || Krd t.fKids 0 == 7 else if t.fOp == 12 then Krd t.fKids 0 == 11 else false
theorem Krf {g:Int→Bool} {y:List Int→Bool} {n:Int} {t:K02} (h:Kqz g y n t=true):inB t.fOp 0 12=true∧(t.fKids.length:Int)=Kqj t.fOp:=by
 unfold Kqz at h
 simp only [Bool.and_eq_true,beq_iff_eq] at h
 exact ⟨h.1.1.1,h.1.1.2⟩
theorem Krg {l:List K02} {i:Nat} (h:i < l.length):∃ t,idx l (i:Int)=some t∧t.fOp=Krd l i:=⟨l[i],Koa h,by unfold Krd; rw [List.getElem?_eq_getElem h]⟩
mutual
def Krh:K02→List Int→List (List Int)
 | ⟨op,N,ty,ks⟩,p=>(if Kre ⟨op,N,ty,ks⟩ then [p] else []) ++ Kri ks 0 p
def Kri:List K02→Nat→List Int→List (List Int)
 | [],_,_=>[]
 | k :: ks,i,p=>Krh k (p ++ [(i:Int)]) ++ Kri ks (i + 1) p
end
mutual
theorem Krj:∀ (t:K02) (p:List Int),(Krh t p).length ≤ tsz t
 | ⟨op,N,ty,ks⟩,p=>by
  rw [Krh,tsz,List.length_append]
  have:=Krk ks 0 p
  split <;> simp <;> omega
theorem Krk:∀ (ks:List K02) (i:Nat) (p:List Int),(Kri ks i p).length ≤ Kqa ks
 | [],i,p=>by simp [Kri]
 | k :: ks,i,p=>by
  rw [Kri,Kqa,List.length_append]
  have:=Krj k (p ++ [(i:Int)])
  have:=Krk ks (i + 1) p
  omega
end
theorem Krl:∀ (ks:List K02),ks.length ≤ Kqa ks
 | []=>by simp [Kqa]
 | k :: ks=>by
  have:=Krl ks
  have:=Kqc k
  rw [Kqa,List.length_cons]; omega
theorem Krm (l:List Int) (h:l.length ≤ 1099511627776):Kdt l=some l:=by
 unfold Kdt
 rw [Krc (by simp only [List.length_nil]; omega),bs]
theorem Krn (l:List Int) (h:l.length ≤ 1099511627776):Kh3 l=some l:=by
 unfold Kh3
 rw [Krc (by simp only [List.length_nil]; omega),bs]
theorem Kro (t:K02) (h:inB t.fOp 0 12=true∧(t.fKids.length:Int)=Kqj t.fOp):Kmx t=some (Kre t):=by
 obtain ⟨hop,hk⟩:=h
 unfold Kmx Kre
 by_cases h0:t.fKids.length=0
 ·rw [if_pos h0,show ((t.fKids.length:Int) == 0)=true by rw [h0]; rfl,if_pos rfl]
 ·obtain ⟨a,ha,ea⟩:=Krg (l:=t.fKids) (i:=0) (by omega)
  rw [if_neg h0,show ((t.fKids.length:Int) == 0)=false from beq_eq_false_iff_ne.2 (by omega),if_neg (by decide),show (0:Int)=((0:Nat):Int) from rfl,ha,bs,ea]
  cases h2:t.fOp == 2
  ·cases t.fOp == 3 <;> cases t.fOp == 10 <;> cases t.fOp == 5 <;> cases t.fOp == 8 <;> cases t.fOp == 12 <;> (try rfl)
   all_goals cases Krd t.fKids 0 == 6 <;> rfl
  ·have h2':=eq_of_beq h2
   have hl:t.fKids.length=2:=by rw [h2'] at hk; have:Kqj 2=2:=rfl; omega
   obtain ⟨b,hb,eb⟩:=Krg (l:=t.fKids) (i:=1) (by omega)
   rw [show (1:Int)=((1:Nat):Int) from rfl,hb]
   simp only [bs,eb]
   cases Krd t.fKids 0 == ((1:Nat):Int) <;> rfl
mutual
theorem Krp (g:Int→Bool) (y:List Int→Bool):∀ (t:K02) (m:Nat) (p:List Int),tOk g y m t=true→p.length + tsz t ≤ 1048576→Kn1 (t,p)=some (Krh t p)
 | ⟨op,N,ty,ks⟩,m,p,hw,hp=>by
  obtain ⟨hw1,hw2⟩:=Krb hw
  rw [tsz] at hp
  rw [Kn1.eq_def,Krh]
  simp only
  rw [Kro _ (Krf hw1),bs]
  refine (Kq9 (x:=if Kre ⟨op,N,ty,ks⟩ then [p] else []) ?_).trans ?_
  ·cases Kre ⟨op,N,ty,ks⟩
   ·rfl
   ·rw [if_pos rfl,Krn p (by omega),bs,Krc (by simp)]; rfl
  have h:=Krq g y ks ⟨op,N,ty,ks⟩ m 0 p (if Kre ⟨op,N,ty,ks⟩ then [p] else []) rfl hw2 (by simp only [tsz]; omega) (by split <;> simp <;> omega) (by simp only; have:=Krl ks; omega)
  rw [show (0:Int)=((0:Nat):Int) from rfl,h,bs]
theorem Krq (g:Int→Bool) (y:List Int→Bool):∀ (ks:List K02) (t:K02) (m i:Nat) (p:List Int) (out:List (List Int)),t.fKids.drop i=ks→Kr0 g y t.fOp m i ks=true→p.length + tsz t ≤ 1048576→out.length + Kqa ks ≤ 1048577→t.fKids.length ≤ 1048576 →
  Kn2 (t,p,out,(i:Int))=some (out ++ Kri ks i p)
 | [],t,m,i,p,out,hd,hw,hp,ho,hk=>by
  rw [Kn2.eq_def,Kri]
  simp only
  rw [Kod (Kpg hd),List.append_nil]; rfl
 | k :: ks,t,m,i,p,out,hd,hw,hp,ho,hk=>by
  obtain ⟨hi,hx,hd'⟩:=Kpf hd
  have hm:tsz k + 1 ≤ tsz t:=by
   have e:t.fKids=t.fKids.take i ++ (k :: ks):=by rw [← hd,List.take_append_drop]
   rw [Kqc t,e]
   have:∀ (a b:List K02),Kqa (a ++ b)=Kqa a + Kqa b:=fun a b=>by
    induction a with
    | nil=>simp [Kqa]
    | cons x l ih=>rw [List.cons_append,Kqa,Kqa,ih]; omega
   rw [this,Kqa]; omega
  rw [Kqa] at ho
  rw [Kr0,Bool.and_eq_true] at hw
  have hl:=Krj k (p ++ [(i:Int)])
  rw [Kn2.eq_def,Kri]
  simp only
  rw [Koc hi,if_pos rfl,hx,bs,Krn p (by omega),bs,Krc (by simp; omega),bs,Krp g y k _ (p ++ [(i:Int)]) hw.1 (by rw [List.length_append,List.length_singleton]; omega),bs,Krc (by omega),bs,Kob (by omega)]
  rw [Krq g y ks t m (i + 1) p _ hd' hw.2 hp (by rw [List.length_append]; omega) hk,List.append_assoc]
end
structure Krr (s:K00) (n:Nat):Prop where
 size:s.fSize=(n:Int)
 lo:2 ≤ n
 hi:n ≤ 16
 lp:s.fPlus.length=n * n
 lt:s.fTimes.length=n * n
 lb:s.fBelow.length=n * n
def Krs (s:K00) (n i:Nat):Bool:=inB (s.fPlus.getD i 0) 0 ((n:Int) - 1) && inB (s.fTimes.getD i 0) 0 ((n:Int) - 1)
section
variable {s:K00} {n:Nat} (h:Krr s n)
include h
theorem nn:n * n ≤ 256:=Nat.le_trans (Nat.mul_le_mul h.hi h.hi) (by decide)
theorem Krt {i:Nat} (hi:i < n * n):idx s.fPlus (i:Int)=some (s.fPlus.getD i 0):=by
 have hl:i < s.fPlus.length:=by rw [h.lp]; exact hi
 rw [Koa hl,List.getD_eq_getElem?_getD,List.getElem?_eq_getElem hl]; rfl
theorem Kru {i:Nat} (hi:i < n * n):idx s.fTimes (i:Int)=some (s.fTimes.getD i 0):=by
 have hl:i < s.fTimes.length:=by rw [h.lt]; exact hi
 rw [Koa hl,List.getD_eq_getElem?_getD,List.getElem?_eq_getElem hl]; rfl
theorem Krv:wr (s.fSize - 1)=(n:Int) - 1:=by
 have:=h.lo; have:=h.hi
 rw [h.size,Ko9 (by omega) (by omega)]
theorem Krw:∀ (k i:Nat),i + k=n * n→K9m (s,(i:Int))=some (if (List.range' i k).all (Krs s n) then .inl () else .inr false):=by
 have hn:=nn h
 intro k
 induction k with
 | zero =>
  intro i hm
  rw [K9m.eq_def]
  simp only
  rw [h.lp,Kod (by omega)]
  rfl
 | succ k ih =>
  intro i hm
  rw [K9m.eq_def]
  simp only
  rw [h.lp,Koc (by omega),if_pos rfl,Krt h (by omega),Kru h (by omega),Krv h]
  have ih:=ih (i + 1) (by omega)
  rw [Kob (by omega),List.range'_succ,List.all_cons]
  generalize ((i + 1:Nat):Int)=M at ih ⊢
  generalize (List.range' (i + 1) k).all (Krs s n)=r at ih ⊢
  simp only [bs,sIn]
  cases h1:inB (s.fPlus.getD i 0) 0 ((n:Int) - 1) <;> cases h2:inB (s.fTimes.getD i 0) 0 ((n:Int) - 1) <;> cases r <;> simp only [Krs,h1,h2,ih,bs,Bool.not_true,Bool.not_false,Bool.true_and,Bool.false_and,Bool.and_true,Bool.and_false,if_true,if_false,Bool.false_eq_true]
theorem Krx:∀ (k i:Nat),i + k=n * n→Kg4 (s,(i:Int))=some (if (List.range' i k).all (Krs s n) then .inl () else .inr false):=by
 have hn:=nn h
 intro k
 induction k with
 | zero =>
  intro i hm
  rw [Kg4.eq_def]
  simp only
  rw [h.lp,Kod (by omega)]
  rfl
 | succ k ih =>
  intro i hm
  rw [Kg4.eq_def]
  simp only
  rw [h.lp,Koc (by omega),if_pos rfl,Krt h (by omega),Kru h (by omega)]
  have ih:=ih (i + 1) (by omega)
  rw [Kob (by omega),List.range'_succ,List.all_cons]
  generalize ((i + 1:Nat):Int)=M at ih ⊢
  generalize (List.range' (i + 1) k).all (Krs s n)=r at ih ⊢
  have hh:∀ x,Kek (s,x)=some (inB x 0 ((n:Int) - 1)):=fun x=>by
   unfold Kek
   simp only
   rw [Krv h,iIn,bs]
  simp only [bs,hh]
  cases h1:inB (s.fPlus.getD i 0) 0 ((n:Int) - 1) <;> cases h2:inB (s.fTimes.getD i 0) 0 ((n:Int) - 1) <;> cases r <;> simp only [Krs,h1,h2,ih,bs,Bool.not_true,Bool.not_false,Bool.true_and,Bool.false_and,Bool.and_true,Bool.and_false,if_true,if_false,Bool.false_eq_true]
theorem Kry (he:(List.range' 0 (n * n)).all (Krs s n)=true):Tab s n:=by
 rw [List.all_eq_true] at he
 have hent:∀ i,i < n * n→Krs s n i=true:=fun i hi=>he i (by rw [List.mem_range'_1]; omega)
 refine ⟨h.size,h.lo,h.hi,h.lp,h.lt,h.lb,fun i hi=>?_,fun i hi=>?_⟩
 ·have:=hent i (by rw [← h.lp]; exact hi)
  simp only [Krs,inB,Bool.and_eq_true,decide_eq_true_eq,List.getD_eq_getElem?_getD,List.getElem?_eq_getElem hi,Option.getD_some] at this
  omega
 ·have:=hent i (by rw [← h.lt]; exact hi)
  simp only [Krs,inB,Bool.and_eq_true,decide_eq_true_eq,List.getD_eq_getElem?_getD,List.getElem?_eq_getElem hi,Option.getD_some] at this
  omega
end
def Krz (s:K00):Bool:=inB s.fSize 2 16 && !((s.fPlus.length:Int) != (wr (s.fSize * s.fSize))) && !((s.fTimes.length:Int) != (wr (s.fSize * s.fSize))) && !((s.fBelow.length:Int) != (wr (s.fSize * s.fSize)))
theorem Ks0 {s:K00} (h:Krz s=true):Krr s s.fSize.toNat:=by
 unfold Krz at h
 simp only [Bool.and_eq_true,Bool.not_eq_true',inB,decide_eq_true_eq,bne_eq_false_iff_eq] at h
 obtain ⟨⟨⟨⟨h1,h2⟩,h3⟩,h4⟩,h5⟩:=h
 obtain ⟨n,hn⟩:∃ n:Nat,s.fSize=(n:Int):=⟨s.fSize.toNat,by omega⟩
 rw [hn] at h1 h2 h3 h4 h5 ⊢
 have h256:n * n ≤ 256:=Nat.le_trans (Nat.mul_le_mul (by omega:n ≤ 16) (by omega:n ≤ 16)) (by decide)
 have e:(n:Int) * (n:Int)=((n * n:Nat):Int):=by simp
 rw [e] at h3 h4 h5
 generalize hm:n * n=m at *
 rw [Ko9 (by omega) (by omega)] at h3 h4 h5
 rw [Int.toNat_natCast]
 exact ⟨hn,by omega,by omega,by omega,by omega,by omega⟩
def Ks1 (s:K00):Bool:=Krz s && (List.range' 0 (s.fSize.toNat * s.fSize.toNat)).all (Krs s s.fSize.toNat) && Kp8 s s.fSize.toNat
theorem Ks2 {s:K00} (h:Ks1 s=true):Tab s s.fSize.toNat:=by
 unfold Ks1 at h
 simp only [Bool.and_eq_true] at h
 exact Kry (Ks0 h.1.1) h.1.2
theorem Ks3 (s:K00):Kb3 s=some (Ks1 s):=by
 unfold Kb3 K9p Ks1
 rw [sIn]
 cases hf:Krz s with
 | false =>
  unfold Krz at hf
  cases h1:inB s.fSize 2 16 <;> cases h2:((s.fPlus.length:Int) != (wr (s.fSize * s.fSize))) <;> cases h3:((s.fTimes.length:Int) != (wr (s.fSize * s.fSize))) <;> cases h4:((s.fBelow.length:Int) != (wr (s.fSize * s.fSize))) <;> simp_all [bs]
 | true =>
  have F:=Ks0 hf
  have hl:=Krw F (s.fSize.toNat * s.fSize.toNat) 0 (by omega)
  rw [show ((0:Nat):Int)=0 from rfl] at hl
  unfold Krz at hf
  simp only [Bool.and_eq_true,Bool.not_eq_true'] at hf
  obtain ⟨⟨⟨h1,h2⟩,h3⟩,h4⟩:=hf
  cases he:(List.range' 0 (s.fSize.toNat * s.fSize.toNat)).all (Krs s s.fSize.toNat) with
  | false=>rw [he] at hl; simp [bs,h1,h2,h3,h4,hl]
  | true =>
   have T:=Kry F he
   have hl2:=Kpd T s.fSize.toNat 0 (by omega)
   rw [show ((0:Nat):Int)=0 from rfl] at hl2
   rw [he] at hl
   have hm:(List.range' 0 s.fSize.toNat).all (fun a=>Kos s s.fSize.toNat a && (List.range' 0 s.fSize.toNat).all fun b=>Kp5 s s.fSize.toNat a b && (List.range' 0 s.fSize.toNat).all fun c=>Kot s s.fSize.toNat a b c)=Kp8 s s.fSize.toNat:=rfl
   rw [hm] at hl2
   cases hs:Kp8 s s.fSize.toNat <;> rw [hs] at hl2 <;> simp [bs,h1,h2,h3,h4,hl,hl2]
theorem Ks4 (s:K00):Kgk s=some (Ks1 s):=by
 unfold Kgk Ks1
 rw [iIn]
 cases hf:Krz s with
 | false =>
  unfold Krz at hf
  cases h1:inB s.fSize 2 16 <;> cases h2:((s.fPlus.length:Int) != (wr (s.fSize * s.fSize))) <;> cases h3:((s.fTimes.length:Int) != (wr (s.fSize * s.fSize))) <;> cases h4:((s.fBelow.length:Int) != (wr (s.fSize * s.fSize))) <;> simp_all [bs]
 | true =>
  have F:=Ks0 hf
  have hl:=Krx F (s.fSize.toNat * s.fSize.toNat) 0 (by omega)
  rw [show ((0:Nat):Int)=0 from rfl] at hl
  unfold Krz at hf
  simp only [Bool.and_eq_true,Bool.not_eq_true'] at hf
  obtain ⟨⟨⟨h1,h2⟩,h3⟩,h4⟩:=hf
  cases he:(List.range' 0 (s.fSize.toNat * s.fSize.toNat)).all (Krs s s.fSize.toNat) with
  | false=>rw [he] at hl; simp [bs,h1,h2,h3,h4,hl]
  | true =>
   have T:=Kry F he
   have hl2:=Kpe T s.fSize.toNat 0 (by omega)
   rw [show ((0:Nat):Int)=0 from rfl] at hl2
   rw [he] at hl
   have hm:(List.range' 0 s.fSize.toNat).all (fun a=>Kos s s.fSize.toNat a && (List.range' 0 s.fSize.toNat).all fun b=>Kp5 s s.fSize.toNat a b && (List.range' 0 s.fSize.toNat).all fun c=>Kot s s.fSize.toNat a b c)=Kp8 s s.fSize.toNat:=rfl
   rw [hm] at hl2
   cases hs:Kp8 s s.fSize.toNat <;> rw [hs] at hl2 <;> simp [bs,h1,h2,h3,h4,hl,hl2]
section
variable {s:K00} {n:Nat} (h:Tab s n)
include h
theorem Ks5:wr (s.fSize - 1)=(n:Int) - 1:=by
 have:=h.lo; have:=h.hi
 rw [h.size,Ko9 (by omega) (by omega)]
end
inductive Ty where
 | num
 | bin (c:Int) (a b:Ty)
 | un (c:Int) (a:Ty)
namespace Ty
def code:Ty→List Int
 | num=>[0]
 | bin c a b=>c :: (a.code ++ b.code)
 | un c a=>c :: a.code
def ok:Ty→Prop
 | num=>True
 | bin c a b=>Kpj c=2∧a.ok∧b.ok
 | un c a=>Kpj c=1∧a.ok
def kids:Ty→List Ty
 | num=>[]
 | bin _ a b=>[a,b]
 | un _ a=>[a]
def hd:Ty→Int
 | num=>0
 | bin c _ _=>c
 | un c _=>c
end Ty
def Ks6:List Ty→List Int
 | []=>[]
 | t :: l=>t.code ++ Ks6 l
theorem Ks7 (T:Ty):T.code=T.hd :: Ks6 T.kids:=by cases T <;> simp [Ty.code,Ty.hd,Ty.kids,Ks6]
theorem Ks8 (T:Ty):1 ≤ T.code.length:=by rw [Ks7]; simp
theorem Ks9 (T:Ty):∀ (m:Nat) (l:List Int),T.ok→skip (m + 1) (T.code ++ l)=skip m l:=by
 induction T with
 | num =>
  intro m l _
  rw [Ty.code,List.singleton_append,Kpt,show Kpj 0=0 from rfl,if_neg (by decide)]; rfl
 | bin c a b iha ihb =>
  intro m l h
  rw [Ty.code,List.cons_append,Kpt,h.1,if_neg (by decide),List.append_assoc,show m + (2:Int).toNat=(m + 1) + 1 from rfl,iha _ _ h.2.1,ihb _ _ h.2.2]
 | un c a ih =>
  intro m l h
  rw [Ty.code,List.cons_append,Kpt,h.1,if_neg (by decide),show m + (1:Int).toNat=m + 1 from rfl,ih _ _ h.2]
theorem Ksa (l:List Int):∀ (m:Nat) (r:List Int),skip m l=some r→∃ Ts:List Ty,Ts.length=m∧(∀ T ∈ Ts,T.ok)∧l=Ks6 Ts ++ r:=by
 induction l with
 | nil =>
  intro m r h
  cases m with
  | zero=>rw [Kpr] at h; cases h; exact ⟨[],rfl,fun _ h=>(by cases h),rfl⟩
  | succ m=>rw [Kps] at h; cases h
 | cons c l ih =>
  intro m r h
  cases m with
  | zero=>rw [Kpr] at h; cases h; exact ⟨[],rfl,fun _ h=>(by cases h),rfl⟩
  | succ m =>
   rw [Kpt] at h
   by_cases hk:Kpj c=-1
   ·rw [if_pos hk] at h; cases h
   ·rw [if_neg hk] at h
    obtain ⟨Ts,h1,h2,h3⟩:=ih _ _ h
    rcases Kpn c with ⟨q,e⟩ | ⟨q,e⟩ | ⟨q,e⟩ | ⟨q,e⟩
    ·subst q
     rw [e] at h1
     exact ⟨.num :: Ts,by simpa using h1,fun T hT=>by rcases List.mem_cons.1 hT with rfl | hT; exact trivial; exact h2 T hT,by rw [h3]; rfl⟩
    ·rw [e] at h1
     match Ts,h1 with
     | a :: b :: Ts,h1 =>
      refine ⟨.bin c a b :: Ts,by simpa using h1,fun T hT=>?_,by rw [h3]; simp [Ks6,Ty.code]⟩
      rcases List.mem_cons.1 hT with rfl | hT
      ·exact ⟨e,h2 a List.mem_cons_self,h2 b (List.mem_cons_of_mem _ List.mem_cons_self)⟩
      ·exact h2 T (List.mem_cons_of_mem _ (List.mem_cons_of_mem _ hT))
     | [_],h1=>exact absurd h1 (by simp)
     | [],h1=>exact absurd h1 (by simp)
    ·rw [e] at h1
     match Ts,h1 with
     | a :: Ts,h1 =>
      refine ⟨.un c a :: Ts,by simpa using h1,fun T hT=>?_,by rw [h3]; simp [Ks6,Ty.code]⟩
      rcases List.mem_cons.1 hT with rfl | hT
      ·exact ⟨e,h2 a List.mem_cons_self⟩
      ·exact h2 T (List.mem_cons_of_mem _ hT)
     | [],h1=>exact absurd h1 (by simp)
    ·exact absurd e hk
theorem Ksb {ty:List Int} (h:wtB ty=true):∃ T:Ty,T.ok∧ty=T.code∧ty.length ≤ 40:=by
 have hl:=Kra h
 unfold wtB at h
 rw [Bool.and_eq_true,beq_iff_eq] at h
 obtain ⟨Ts,h1,h2,h3⟩:=Ksa _ _ _ h.2
 match Ts,h1 with
 | [T],_=>exact ⟨T,h2 T List.mem_cons_self,by rw [h3]; simp [Ks6],hl⟩
theorem Ksc {T:Ty} (h:T.ok) (hl:T.code.length ≤ 40):wtB T.code=true:=by
 unfold wtB
 have:=Ks9 T 0 [] h
 rw [List.append_nil,Kpr] at this
 rw [decide_eq_true hl,show (1:Nat)=0 + 1 from rfl,this]; rfl
theorem Ksd {T:Ty} (h:T.ok):∀ K ∈ T.kids,K.ok:=by
 intro K hK
 cases T with
 | num=>cases hK
 | bin c a b=>rcases List.mem_cons.1 hK with rfl | hK; exact h.2.1; rw [List.mem_singleton.1 hK]; exact h.2.2
 | un c a=>rw [List.mem_singleton.1 hK]; exact h.2
theorem Kse {pre:List Int} {T:Ty} {post:List Int} (h:T.ok):Kpw (pre ++ (T.code ++ post)) 1 pre.length=((pre.length + T.code.length:Nat):Int):=by
 unfold Kpw
 rw [List.drop_left,show (1:Nat)=0 + 1 from rfl,Ks9 T 0 post h,Kpr]
 simp only [List.length_append]
 omega
theorem Ksf {α:Type} (p m q:List α) (mx:Option Int) (hmx:mx=none∨mx=some ((p.length + m.length:Nat):Int)):cut (p ++ (m ++ q)) (some (p.length:Int)) (some ((p.length + m.length:Nat):Int)) mx=some m:=by
 unfold cut
 have e:((p ++ (m ++ q)).take (p.length + m.length)).drop p.length=m:=by
  rw [← List.append_assoc,← List.length_append,List.take_left,List.drop_left]
 rw [if_pos]
 ·simp only [Option.getD_some,Int.toNat_natCast,e]
 ·rcases hmx with rfl | rfl <;> simp only [Option.getD_some,Option.getD_none,List.length_append] <;> omega
theorem Ksg {α:Type} (p q:List α):cut (p ++ q) (some (p.length:Int)) none none=some q:=by
 unfold cut
 rw [if_pos]
 ·simp only [Option.getD_some,Option.getD_none,Int.toNat_natCast,List.take_length,List.drop_left]
 ·simp only [Option.getD_some,Option.getD_none,List.length_append]; omega
theorem Ksh (Ks:List Ty):∀ (pre:List Int) (out:List (List Int)),(∀ K ∈ Ks,K.ok)→(pre ++ Ks6 Ks).length ≤ 1099511627776→out.length + Ks.length ≤ 1099511627776→Kgr (pre ++ Ks6 Ks,out,(pre.length:Int))=some (out ++ Ks.map Ty.code):=by
 induction Ks with
 | nil =>
  intro pre out hk hl ho
  rw [show Ks6 []=[] from rfl,List.append_nil,Kgr.eq_def]
  simp only
  rw [Kod (Nat.le_refl _)]; simp
 | cons K Ks ih =>
  intro pre out hk hl ho
  have hK:=hk K List.mem_cons_self
  have hp:=Ks8 K
  rw [show Ks6 (K :: Ks)=K.code ++ Ks6 Ks from rfl] at hl ⊢
  rw [List.length_cons] at ho
  rw [Kgr.eq_def]
  simp only
  rw [Koc (by simp only [List.length_append]; omega),if_pos rfl,Kq0 _ hl _ pre.length rfl,Kse hK,bs,Ksf _ _ _ _ (.inr rfl),bs,Krc (by simp only [List.length_singleton]; omega),bs]
  have:=ih (pre ++ K.code) (out ++ [K.code]) (fun K hK=>hk K (List.mem_cons_of_mem _ hK)) (by rw [List.append_assoc]; exact hl) (by simp; omega)
  rw [List.append_assoc,List.length_append] at this
  rw [this,List.map_cons,List.append_assoc]; rfl
theorem Ksi {T:Ty} (h:T.ok) (hl:T.code.length ≤ 1048576):Kgu T.code=some (T.kids.map Ty.code):=by
 unfold Kgu
 have hk:T.kids.length ≤ 2:=by cases T <;> simp [Ty.kids]
 have e:[T.hd] ++ Ks6 T.kids=T.code:=(Ks7 T).symm
 have:=Ksh T.kids [T.hd] [] (Ksd h) (by rw [e]; omega) (by simp only [List.length_nil]; omega)
 rw [e] at this
 rw [show (1:Int)=(([T.hd].length:Nat):Int) from rfl,this,bs]; rfl
theorem Ksj {c:Int} {a:Ty} {r:List Int} (ha:a.ok) (hl:(c :: (a.code ++ r)).length ≤ 1099511627776):Kdw (c :: (a.code ++ r),0)=some a.code:=by
 unfold Kdw
 simp only
 have e:=Kse (pre:=[c]) (post:=r) ha
 have h1:=Kpy (c :: (a.code ++ r)) hl 1 (by simp)
 rw [show (((1:Nat)):Int)=1 from rfl] at h1
 rw [List.length_singleton] at e
 have e':Kpw (c :: (a.code ++ r)) 1 1=((1 + a.code.length:Nat):Int):=e
 rw [h1,bs,e',if_pos (by rfl)]
 have h2:=Ksf [c] a.code r none (.inl rfl)
 rw [List.length_singleton] at h2
 have h2':cut (c :: (a.code ++ r)) (some 1) (some ((1 + a.code.length:Nat):Int)) none=some a.code:=h2
 simp only [List.length_cons,List.length_append] at hl
 rw [h2',bs,Krm _ (by omega),bs]
theorem Ksk {c:Int} {a:Ty} {r:List Int} (ha:a.ok) (hl:(c :: (a.code ++ r)).length ≤ 1099511627776):Kdw (c :: (a.code ++ r),1)=some r:=by
 unfold Kdw
 simp only
 have e:=Kse (pre:=[c]) (post:=r) ha
 have h1:=Kpy (c :: (a.code ++ r)) hl 1 (by simp)
 rw [show (((1:Nat)):Int)=1 from rfl] at h1
 rw [List.length_singleton] at e
 have e':Kpw (c :: (a.code ++ r)) 1 1=((1 + a.code.length:Nat):Int):=e
 rw [h1,bs,e',if_neg (by decide)]
 have h2:=Ksg (c :: a.code) r
 rw [List.length_cons,List.cons_append,Nat.add_comm] at h2
 simp only [List.length_cons,List.length_append] at hl
 rw [h2,bs,Krm _ (by omega),bs]
def Ty.dat:Ty→Prop
 | .num=>True
 | .bin c a b=>(c=1∨c=2)∧a.dat∧b.dat
 | .un _ a=>a.dat
theorem Ksl {T:Ty} (h:T.ok):(T.code.all fun c=>!Kph c)=true→T.dat:=by
 induction T with
 | num=>intro _; trivial
 | bin c a b iha ihb =>
  intro hd
  rw [Ty.code,List.all_cons,List.all_append,Bool.and_eq_true,Bool.and_eq_true] at hd
  refine ⟨?_,iha h.2.1 hd.2.1,ihb h.2.2 hd.2.2⟩
  have h1:=h.1
  have h2:=hd.1
  unfold Kph inB at h2
  simp only [Bool.not_eq_true',Bool.or_eq_false_iff,beq_eq_false_iff_ne,Bool.and_eq_false_iff,decide_eq_false_iff_not] at h2
  rcases Kpn c with q | q | q | q <;> omega
 | un c a ih =>
  intro hd
  rw [Ty.code,List.all_cons,Bool.and_eq_true] at hd
  exact ih h.2 hd.2
def Ksm (ty:List Int):Bool:=ty.all fun c=>!Kph c
theorem Ksn (ty:List Int) (hty:ty.length ≤ 1099511627776):∀ (l:List Int) (i:Nat),ty.drop i=l→Kdk (ty,(i:Int))=some (if l.all (fun c=>!Kph c) then .inl () else .inr false):=by
 intro l
 induction l with
 | nil =>
  intro i hd
  rw [Kdk.eq_def]
  simp only
  rw [Kod (Kpg hd)]; rfl
 | cons c l ih =>
  intro i hd
  obtain ⟨hi,hx,hd'⟩:=Kpf hd
  rw [Kdk.eq_def]
  simp only
  rw [Koc hi,if_pos rfl,hx,bs,Kpk,bs,Kob (by omega),ih (i + 1) hd',List.all_cons]
  cases Kph c <;> simp
theorem Kso (ty:List Int) (hty:ty.length ≤ 1099511627776):Kdn ty=some (Ksm ty):=by
 unfold Kdn Ksm
 rw [show (0:Int)=((0:Nat):Int) from rfl,Ksn ty hty _ 0 rfl,List.drop_zero,bs]
 cases ty.all (fun c=>!Kph c) <;> rfl
theorem Ksp (c:Int):((Kpo c).1 == 3)=Kph c:=by
 unfold Kph inB
 rcases Kpq c with ⟨h,e⟩ | ⟨h,e⟩ | ⟨h,e⟩ | ⟨h,e⟩ | ⟨h,e⟩ | ⟨h,e⟩ | ⟨h,e⟩ | ⟨h,e⟩ <;> rw [e] <;> (first | (subst h; rfl) | skip)
 ·rw [decide_eq_true (by omega:c ≥ 3),decide_eq_true (by omega:c ≤ 18)]; rfl
 ·rw [decide_eq_false (by omega:¬ c ≤ 18),beq_eq_false_iff_ne.2 (by omega:c ≠ 35)]; simp
 ·have:¬ (c ≥ 3∧c ≤ 18):=by omega
  rw [beq_eq_false_iff_ne.2 (by omega:c ≠ 35)]
  by_cases h3:c ≥ 3
  ·rw [decide_eq_false (by omega:¬ c ≤ 18)]; simp
  ·rw [decide_eq_false h3]; simp
theorem Ksq (c:Int):Keu c=some (Kph c):=by
 unfold Keu
 rw [Kpp,bs]
 have:=Ksp c
 revert this
 rcases Kpo c with ⟨a,b⟩
 intro this
 simp only at this ⊢
 rw [this]
theorem Ksr (ty:List Int) (hty:ty.length ≤ 1099511627776):∀ (l:List Int) (i:Nat),ty.drop i=l→∃ r,Key (ty,(i:Int))=some r∧(match r with | .inl _=>l.all (fun c=>!Kph c)=true | .inr m=>l.all (fun c=>!Kph c)=false∧0 ≤ m):=by
 intro l
 induction l with
 | nil =>
  intro i hd
  rw [Key.eq_def]
  simp only
  rw [Kod (Kpg hd)]
  exact ⟨_,rfl,rfl⟩
 | cons c l ih =>
  intro i hd
  obtain ⟨hi,hx,hd'⟩:=Kpf hd
  rw [Key.eq_def]
  simp only
  rw [Koc hi,if_pos rfl,hx,bs,Ksq,bs,Kob (by omega),List.all_cons]
  cases Kph c
  ·obtain ⟨r,h1,h2⟩:=ih (i + 1) hd'
   exact ⟨r,h1,by simpa using h2⟩
  ·exact ⟨.inr (i:Int),rfl,by simp⟩
theorem Kss (ty:List Int) (hty:ty.length ≤ 1099511627776):Kf4 ty=some (!Ksm ty):=by
 unfold Kf4 Kf1 Ksm
 obtain ⟨r,h1,h2⟩:=Ksr ty hty _ 0 rfl
 rw [List.drop_zero] at h2
 rw [show (0:Int)=((0:Nat):Int) from rfl,h1,bs]
 cases r with
 | inl u=>simp only at h2; rw [h2]; rfl
 | inr m=>simp only at h2; rw [h2.1]; simp [bs,h2.2]
def Kst (s:K00) (g:Int):Bool:=inB g 0 (wr (s.fSize - 1))
theorem Ksu (s:K00) (g:Int):Kek (s,g)=some (Kst s g):=by
 unfold Kek Kst
 simp only
 rw [iIn,bs]
def Ksv (s:K00) (c:Int):Bool:=!(((Kpo c).1 == 3 || (Kpo c).1 == 4) && !Kst s (Kpo c).2)
def Ksw (s:K00) (ty:List Int):Bool:=wtB ty && ty.all (Ksv s)
theorem Ksx (s:K00) (ty:List Int) (hty:ty.length ≤ 1099511627776):∀ (l:List Int) (i:Nat),ty.drop i=l→Keo (s,ty,(i:Int))=some (if l.all (Ksv s) then .inl () else .inr false):=by
 intro l
 induction l with
 | nil =>
  intro i hd
  rw [Keo.eq_def]
  simp only
  rw [Kod (Kpg hd)]; rfl
 | cons c l ih =>
  intro i hd
  obtain ⟨hi,hx,hd'⟩:=Kpf hd
  rw [Keo.eq_def]
  simp only
  rw [Koc hi,if_pos rfl,hx,bs,Kpp,bs,Kob (by omega),ih (i + 1) hd',List.all_cons]
  unfold Ksv
  rcases Kpo c with ⟨a,b⟩
  simp only [Ksu,bs]
  cases a == 3 <;> cases a == 4 <;> cases Kst s b <;> simp [bs]
theorem Ksy (s:K00) (ty:List Int) (hty:ty.length ≤ 1099511627776):Ker (s,ty)=some (Ksw s ty):=by
 unfold Ker Ksw
 simp only
 rw [Kq3 ty hty,bs]
 cases wtB ty
 ·rfl
 ·rw [if_pos rfl,show (0:Int)=((0:Nat):Int) from rfl,Ksx s ty hty _ 0 rfl,List.drop_zero,bs]
  cases ty.all (Ksv s) <;> rfl
theorem Ksz {s:K00} {n:Nat} (h:Tab s n) (g:Int):Kst s g=inB g 0 ((n:Int) - 1):=by
 unfold Kst; rw [Ks5 h]
theorem Kt0 {s:K00} {n:Nat} (h:Tab s n) {c:Int}:Ksv s c=Kq5 s.fSize true c:=by
 unfold Ksv Kq5 Kq4
 have hn:=h.lo
 rw [Ksz h,h.size]
 rcases Kpq c with ⟨q,e⟩ | ⟨q,e⟩ | ⟨q,e⟩ | ⟨q,e⟩ | ⟨q,e⟩ | ⟨q,e⟩ | ⟨q,e⟩ | ⟨q,e⟩ <;> rw [e]
 ·subst q; rfl
 ·subst q; rfl
 ·subst q; rfl
 ·have hk:Kpj c=2:=by rcases Kpn c with h | h | h | h <;> omega
  rw [hk,if_neg (by omega),if_neg (by omega),decide_eq_true (by omega:c > 2)]
  unfold inB
  rw [decide_eq_true (by omega:c - 3 ≥ 0),decide_eq_false (by omega:¬ c - 3 < 0)]
  by_cases hc:c - 3 ≤ (n:Int) - 1
  ·rw [decide_eq_true hc,decide_eq_false (by omega:¬ c - 3 ≥ (n:Int))]; rfl
  ·rw [decide_eq_false hc,decide_eq_true (by omega:c - 3 ≥ (n:Int))]; rfl
 ·subst q; unfold inB; simp [Kpj,Kph,Kpi,inB]
 ·have hk:Kpj c=1:=by rcases Kpn c with h | h | h | h <;> omega
  rw [hk,if_neg (by omega),if_pos (by omega),decide_eq_true (by omega:c > 2)]
  unfold inB
  rw [decide_eq_true (by omega:c - 19 ≥ 0),decide_eq_false (by omega:¬ c - 19 < 0)]
  by_cases hc:c - 19 ≤ (n:Int) - 1
  ·rw [decide_eq_true hc,decide_eq_false (by omega:¬ c - 19 ≥ (n:Int))]; rfl
  ·rw [decide_eq_false hc,decide_eq_true (by omega:c - 19 ≥ (n:Int))]; rfl
 ·subst q; unfold inB; simp [Kpj,Kph,Kpi,inB]
 ·have hk:Kpj c=-1:=by rcases Kpn c with h | h | h | h <;> omega
  rw [hk]; simp
theorem Kt1 {s:K00} {n:Nat} (h:Tab s n) (ty:List Int):Ksw s ty=yN s.fSize true ty:=by
 unfold Ksw yN
 rw [show Ksv s=Kq5 s.fSize true from funext fun c=>Kt0 h]
def Kt2 (s:K00) (ty:List Int):Bool:=Ks1 s && Ksw s ty
theorem Kt3 (s:K00) (ty:List Int) (hty:ty.length ≤ 1099511627776):Kdg (s,ty)=some (Kt2 s ty):=by
 unfold Kdg Kt2
 simp only
 rw [Ks3,bs]
 cases hs:Ks1 s
 ·rfl
 ·rw [if_pos rfl,Kq2 ty hty,bs,Kq8 ty hty,Bool.true_and,Kt1 (Ks2 hs)]
  unfold yN
  cases wtB ty <;> rfl
theorem Kt4 (s:K00) (ty:List Int) (hty:ty.length ≤ 1099511627776):Kdq (s,ty)=some (Kt2 s ty && Ksm ty):=by
 unfold Kdq
 simp only
 rw [Kt3 s ty hty,bs,Kso ty hty]
 cases Kt2 s ty <;> rfl
theorem Kt5 (s:K00) (ty:List Int) (hty:ty.length ≤ 1099511627776):Kf7 (s,ty)=some (Ksw s ty && Ksm ty):=by
 unfold Kf7
 simp only
 rw [Ksy s ty hty,bs,Kss ty hty]
 cases Ksw s ty <;> simp [bs]
theorem Kt6 (s:K00) (ty:List Int) (hty:ty.length ≤ 1099511627776):Kgn (s,ty)=some (Kt2 s ty && Ksm ty):=by
 unfold Kgn Kt2
 simp only
 rw [Kt5 s ty hty,bs,Ks4]
 cases Ksw s ty <;> cases Ksm ty <;> cases Ks1 s <;> rfl
def Kt7:Ty→Nat
 | .num=>3
 | .bin c a b=>if c=1 then min (Kt7 a * Kt7 b) 301 else min (Kt7 a + Kt7 b) 301
 | .un _ a=>Kt7 a
theorem Kt8 (T:Ty):1 ≤ Kt7 T∧Kt7 T ≤ 301:=by
 induction T with
 | num=>decide
 | bin c a b iha ihb =>
  rw [Kt7]
  have:1 ≤ Kt7 a * Kt7 b:=Nat.mul_le_mul iha.1 ihb.1
  split <;> omega
 | un c a ih=>rw [Kt7]; exact ih
theorem Kt9 {α:Type} (x:α) (l:List α):idx (x :: l) 0=some x:=rfl
theorem Kta {α:Type} (x y:α) (l:List α):idx (x :: y :: l) 1=some y:=rfl
theorem Ktb {a b:Nat} (ha:a ≤ 301) (hb:b ≤ 301):wr ((a:Int) * (b:Int))=((a * b:Nat):Int):=by
 have:a * b ≤ 301 * 301:=Nat.mul_le_mul ha hb
 rw [← Int.natCast_mul,Ko9 (by omega) (by omega)]
theorem Ktc {a b:Nat} (ha:a ≤ 1099511627776) (hb:b ≤ 1099511627776):wr ((a:Int) + (b:Int))=((a + b:Nat):Int):=by rw [Ko9 (by omega) (by omega)]; omega
theorem Ktd (a b:Nat):K8n ((a:Int),(b:Int))=some ((min a b:Nat):Int):=by
 unfold K8n
 simp only
 by_cases h:a < b
 ·rw [decide_eq_true (by omega:(a:Int) < (b:Int)),if_pos rfl,Nat.min_eq_left (by omega)]
 ·rw [decide_eq_false (by omega:¬ (a:Int) < (b:Int)),if_neg (by decide),Nat.min_eq_right (by omega)]
theorem Kte (a b:Nat):mnx false (a:Int) (b:Int)=((min a b:Nat):Int):=by
 unfold mnx
 simp only [cond_false]
 by_cases h:b < a
 ·rw [if_pos (by omega),Nat.min_eq_right (by omega)]
 ·rw [if_neg (by omega),Nat.min_eq_left (by omega)]
theorem Ktf (T:Ty):T.ok→T.dat→T.code.length ≤ 1048576→Kdz T.code=some ((Kt7 T:Nat):Int):=by
 induction T with
 | num=>intro _ _ _; rw [Kdz.eq_def]; rfl
 | bin c a b iha ihb =>
  intro h hd hl
  have h0:=Ksj (c:=c) (r:=b.code) h.2.1 (by rw [Ty.code] at hl; omega)
  have h1:=Ksk (c:=c) (r:=b.code) h.2.1 (by rw [Ty.code] at hl; omega)
  have la:=Kt8 a
  have lb:=Kt8 b
  rw [Ty.code,List.length_cons,List.length_append] at hl
  rw [Ty.code,Kdz.eq_def]
  rw [Kt9,bs]
  rcases hd.1 with rfl | rfl
  ·rw [if_neg (by decide),if_pos (by rfl),h0,bs,iha h.2.1 hd.2.1 (by omega),bs,h1,bs,ihb h.2.2 hd.2.2 (by omega),bs,Ktb la.2 lb.2,show (301:Int)=((301:Nat):Int) from rfl,Ktd,bs,Kt7,if_pos rfl]
  ·rw [if_neg (by decide),if_neg (by decide),if_pos (by rfl),h0,bs,iha h.2.1 hd.2.1 (by omega),bs,h1,bs,ihb h.2.2 hd.2.2 (by omega),bs,Ktc (by omega) (by omega),show (301:Int)=((301:Nat):Int) from rfl,Ktd,bs,Kt7,if_neg (by decide)]
 | un c a ih =>
  intro h hd hl
  have e:Ty.code (.un c a)=c :: (a.code ++ []):=by rw [Ty.code,List.append_nil]
  have h0:=Ksj (c:=c) (r:=[]) h.2 (by rw [← e]; omega)
  rw [Ty.code,List.length_cons] at hl
  have hk:=h.1
  have hc:c ≠ 0∧c ≠ 1∧c ≠ 2:=by rcases Kpn c with q | q | q | q <;> omega
  rw [e,Kdz.eq_def]
  rw [Kt9,bs,beq_eq_false_iff_ne.2 hc.1,beq_eq_false_iff_ne.2 hc.2.1,beq_eq_false_iff_ne.2 hc.2.2]
  rw [if_neg (by decide),if_neg (by decide),if_neg (by decide),h0,bs,ih h.2 hd (by omega),bs,Kt7]
theorem Ktg (T:Ty):T.ok→T.dat→T.code.length ≤ 1048576→Kgx T.code=some ((Kt7 T:Nat):Int):=by
 induction T with
 | num=>intro _ _ _; rw [Kgx.eq_def,Ksi (T:=.num) trivial (by simp [Ty.code])]; rfl
 | bin c a b iha ihb =>
  intro h hd hl
  have la:=Kt8 a
  have lb:=Kt8 b
  have hp:=Ksi h hl
  rw [Ty.kids,List.map_cons,List.map_cons,List.map_nil] at hp
  rw [Kgx.eq_def,hp]
  rw [Ty.code,List.length_cons,List.length_append] at hl
  rw [Ty.code,Kt9,bs,Kpp,bs]
  rcases hd.1 with rfl | rfl
  ·rw [show Kpo 1=(1,-1) from rfl]
   simp only [bs,Kt9,Kta]
   rw [iha h.2.1 hd.2.1 (by omega),ihb h.2.2 hd.2.2 (by omega)]
   simp only [bs]
   rw [if_pos (by rfl),bs,Ktb la.2 lb.2,show (301:Int)=((301:Nat):Int) from rfl,Kte,Kt7,if_pos rfl]
  ·rw [show Kpo 2=(2,-1) from rfl]
   simp only [bs,Kt9,Kta]
   rw [iha h.2.1 hd.2.1 (by omega),ihb h.2.2 hd.2.2 (by omega)]
   simp only [bs]
   rw [if_neg (by decide),if_pos (by rfl),bs,bs,Ktc (by omega) (by omega),show (301:Int)=((301:Nat):Int) from rfl,Kte,Kt7,if_neg (by decide)]
 | un c a ih =>
  intro h hd hl
  have la:=Kt8 a
  have hp:=Ksi h hl
  rw [Ty.kids,List.map_cons,List.map_nil] at hp
  have hk:=h.1
  have hc:(Kpo c).1=4:=by rcases Kpq c with ⟨q,e⟩ | ⟨q,e⟩ | ⟨q,e⟩ | ⟨q,e⟩ | ⟨q,e⟩ | ⟨q,e⟩ | ⟨q,e⟩ | ⟨q,e⟩ <;> rw [e] <;> simp only <;> (rcases Kpn c with q | q | q | q <;> omega)
  rw [Kgx.eq_def,hp]
  rw [Ty.code,List.length_cons] at hl
  rw [Ty.code,Kt9,bs,Kpp,bs]
  revert hc
  rcases Kpo c with ⟨x,y⟩
  intro hc
  simp only at hc
  subst hc
  simp only [bs,Kt9]
  rw [ih h.2 hd (by omega)]
  simp only [bs]
  rw [if_neg (by decide),if_neg (by decide),if_pos (by rfl),bs,bs,bs,show (301:Int)=((301:Nat):Int) from rfl,Kte,Kt7,Nat.min_eq_left la.2]
theorem Kth {s:K00} {ty:List Int} (h:(Kt2 s ty && Ksm ty)=true):∃ T:Ty,T.ok∧T.dat∧ty=T.code∧ty.length ≤ 40:=by
 unfold Kt2 Ksw at h
 simp only [Bool.and_eq_true] at h
 obtain ⟨T,h1,h2,h3⟩:=Ksb h.1.2.1
 exact ⟨T,h1,Ksl h1 (by rw [← h2]; exact h.2),h2,h3⟩
theorem Kti (s:K00) (ty:List Int) (hty:ty.length ≤ 1048576) :
  (∃ T:Ty,T.ok∧T.dat∧ty=T.code∧ty.length ≤ 40∧(Kt2 s ty && Ksm ty)=true∧Ke2 (s,ty)=some (if Kt7 T > 300 then -1 else (Kt7 T:Int))∧Kh0 (s,ty)=some (if Kt7 T > 300 then -1 else (Kt7 T:Int))) ∨
  ((Kt2 s ty && Ksm ty)=false∧Ke2 (s,ty)=some (-1)∧Kh0 (s,ty)=some (-1)):=by
 unfold Ke2 Kh0
 simp only
 rw [Kt4 s ty (by omega),Kt6 s ty (by omega)]
 cases h:Kt2 s ty && Ksm ty
 ·exact .inr ⟨rfl,rfl,rfl⟩
 ·obtain ⟨T,h1,h2,h3,h4⟩:=Kth h
  refine .inl ⟨T,h1,h2,h3,h4,rfl,?_,?_⟩
  ·subst h3
   rw [bs,if_pos rfl,Ktf T h1 h2 hty,bs,bs]
   by_cases q:Kt7 T > 300
   ·rw [decide_eq_true (by omega),if_pos rfl,if_pos q]
   ·rw [decide_eq_false (by omega),if_neg (by decide),if_neg q,bs]
  ·subst h3
   rw [bs,if_pos rfl,Ktg T h1 h2 hty,bs,bs]
   by_cases q:Kt7 T > 300
   ·rw [decide_eq_true (by omega),if_pos rfl,if_pos q]
   ·rw [decide_eq_false (by omega),if_neg (by decide),if_neg q,bs]
def sms (s:K00):Nat:=s.fPlus.length + s.fTimes.length + s.fBelow.length
theorem Ktj {l:List K02} {t:K02} (h:t ∈ l):tsz t ≤ Kqa l:=by
 induction l with
 | nil=>cases h
 | cons x l ih =>
  rw [Kqa]
  rcases List.mem_cons.1 h with rfl | h
  ·omega
  ·have:=ih h; omega
theorem Ktk {t k:K02} (h:k ∈ t.fKids):tsz k + 1 ≤ tsz t:=by
 rw [Kqc t]
 have:=Ktj h
 omega
def noT:K02:=⟨0,0,[],[]⟩
theorem Ktl (b:Bool):(!(b == b))=false:=by cases b <;> rfl
def lct:List (List Int)→Nat
 | []=>0
 | x :: l=>x.length + lct l
theorem Ktm {l:List (List Int)} {x:List Int} (h:x ∈ l):x.length ≤ lct l:=by
 induction l with
 | nil=>cases h
 | cons y l ih =>
  rw [lct]
  rcases List.mem_cons.1 h with rfl | h
  ·omega
  ·have:=ih h; omega
theorem Ktn {α:Type} (x:α) (l:List α):cut (x :: l) (some 1) none none=some l:=Ksg [x] l
theorem Kto {g:Int→Bool} {y:List Int→Bool}:∀ (ks:List K02) (op:Int) (n i j:Nat) (hj:j < ks.length),Kr0 g y op n i ks=true→tOk g y (n + Kqt op ((i + j:Nat):Int)) ks[j]=true
 | k :: ks,op,n,i,j,hj,ht=>by
  rw [Kr0,Bool.and_eq_true] at ht
  cases j with
  | zero=>exact ht.1
  | succ j =>
   have:=Kto ks op n (i + 1) j (by simpa using hj) ht.2
   rw [show i + 1 + j=i + (j + 1) by omega] at this
   exact this
theorem Ktp {c:Int} (h:Kpj c=2):(c=1∧Kpo c=(1,-1))∨(c=2∧Kpo c=(2,-1))∨((c ≠ 0∧c ≠ 1∧c ≠ 2)∧Kpi c=false∧Kph c=true∧Kpo c=(3,Kq4 c)):=by
 rcases Kpn c with q | ⟨q,_⟩ | q | q
 ·omega
 ·rcases Kpq c with ⟨h,e⟩ | ⟨h,e⟩ | ⟨h,e⟩ | ⟨h,e⟩ | ⟨h,e⟩ | ⟨h,e⟩ | ⟨h,e⟩ | ⟨h,e⟩
  ·omega
  ·exact .inl ⟨h,e⟩
  ·exact .inr (.inl ⟨h,e⟩)
  ·refine .inr (.inr ⟨by omega,?_,?_,?_⟩)
   ·unfold Kpi inB; rw [Bool.eq_false_iff]; simp; omega
   ·unfold Kph inB; simp; omega
   ·rw [e]; unfold Kq4; rw [if_neg (by omega),if_neg (by omega)]
  ·subst h; exact .inr (.inr ⟨by omega,rfl,rfl,rfl⟩)
  ·omega
  ·omega
  ·omega
 ·omega
 ·omega
theorem Ktq {c:Int} (h:Kpj c=1):(c ≠ 0∧c ≠ 1∧c ≠ 2)∧Kpi c=true∧Kph c=false∧Kpo c=(4,Kq4 c):=by
 rcases Kpn c with q | q | ⟨q,_⟩ | q
 ·omega
 ·omega
 ·rcases Kpq c with ⟨h,e⟩ | ⟨h,e⟩ | ⟨h,e⟩ | ⟨h,e⟩ | ⟨h,e⟩ | ⟨h,e⟩ | ⟨h,e⟩ | ⟨h,e⟩
  ·omega
  ·omega
  ·omega
  ·omega
  ·omega
  ·refine ⟨by omega,?_,?_,?_⟩
   ·unfold Kpi inB; simp; omega
   ·unfold Kph inB; rw [Bool.eq_false_iff]; simp; omega
   ·rw [e]; unfold Kq4; rw [if_neg (by omega),if_pos (by omega)]
  ·subst h; exact ⟨by omega,rfl,rfl,rfl⟩
  ·omega
 ·omega
structure Ktr (c:Int) (a b:Ty):Prop where
 p0:Kdw (c :: (a.code ++ b.code),0)=some a.code
 p1:Kdw (c :: (a.code ++ b.code),1)=some b.code
 pp:Kgu (c :: (a.code ++ b.code))=some [a.code,b.code]
 ok:a.ok∧b.ok
 la:a.code.length + b.code.length + 1 ≤ 1048576
theorem Kts {c:Int} {a b:Ty} (h:(Ty.bin c a b).ok) (hl:(Ty.bin c a b).code.length ≤ 1048576):Ktr c a b:=by
 have hl':=hl
 rw [Ty.code] at hl'
 have h3:=Ksi h hl
 rw [Ty.kids,List.map_cons,List.map_cons,List.map_nil,Ty.code] at h3
 refine ⟨Ksj h.2.1 (by omega),Ksk h.2.1 (by omega),h3,h.2,?_⟩
 rw [List.length_cons,List.length_append] at hl'
 omega
structure UnP (c:Int) (a:Ty):Prop where
 p0:Kdw (c :: a.code,0)=some a.code
 pp:Kgu (c :: a.code)=some [a.code]
 ok:a.ok
 la:a.code.length + 1 ≤ 1048576
theorem unP {c:Int} {a:Ty} (h:(Ty.un c a).ok) (hl:(Ty.un c a).code.length ≤ 1048576):UnP c a:=by
 have hl':=hl
 rw [Ty.code] at hl'
 have h3:=Ksi h hl
 rw [Ty.kids,List.map_cons,List.map_nil,Ty.code] at h3
 have h4:=Ksj (c:=c) (r:=[]) h.2 (by rw [List.append_nil]; omega)
 rw [List.append_nil] at h4
 refine ⟨h4,h3,h.2,?_⟩
 rw [List.length_cons] at hl'
 omega
theorem Ktt:Kgu [0]=some []:=Ksi (T:=.num) trivial (by simp [Ty.code])
def vAt:Ty→Int→K02
 | .num,k=>⟨1,k,[],[]⟩
 | .bin c a b,k=>if c=1 then ⟨4,0,[],[vAt a (wr (Int.tdiv k (Kt7 b))),vAt b (Int.tmod k (Kt7 b))]⟩ else if k < (Kt7 a:Int) then ⟨6,0,b.code,[vAt a k]⟩ else ⟨7,0,a.code,[vAt b (wr (k - (Kt7 a:Int)))]⟩
 | .un c a,k=>⟨11,Kq4 c,[],[vAt a k]⟩
theorem Ktu (T:Ty):∀ k,tms (vAt T k) ≤ 3 * T.code.length:=by
 induction T with
 | num=>intro k; simp [vAt,tms,Kqb]
 | bin c a b iha ihb =>
  intro k
  rw [vAt,Ty.code,List.length_cons,List.length_append]
  split
  ·simp only [tms,Kqb,List.length_cons,List.length_nil]
   have:=iha (wr (Int.tdiv k (Kt7 b)))
   have:=ihb (Int.tmod k (Kt7 b))
   omega
  ·split
   ·simp only [tms,Kqb,List.length_cons,List.length_nil]; have:=iha k; omega
   ·simp only [tms,Kqb,List.length_cons,List.length_nil]; have:=ihb (wr (k - (Kt7 a:Int))); omega
 | un c a ih=>intro k; rw [vAt,Ty.code,List.length_cons]; simp only [tms,Kqb,List.length_cons,List.length_nil]; have:=ih k; omega
theorem Ktv {p:Prop} [Decidable p] (h:p):chk p=some ():=by unfold chk; rw [if_pos h]
theorem Ktw (T:Ty):T.ok→T.dat→T.code.length ≤ 1048576→∀ k,Kh6 (T.code,k)=some (vAt T k):=by
 induction T with
 | num=>intro _ _ _ k; rw [Kh6.eq_def,Ty.code]; simp only; rw [Ktt]; rfl
 | bin c a b iha ihb =>
  intro h hd hl k
  have P:=Kts h hl
  have la:=P.la
  have ha:=iha P.ok.1 hd.2.1 (by omega)
  have hb:=ihb P.ok.2 hd.2.2 (by omega)
  have ca:=Ktg a P.ok.1 hd.2.1 (by omega)
  have cb:=Ktg b P.ok.2 hd.2.2 (by omega)
  have na:=Kt8 a
  have nb:=Kt8 b
  rw [Ty.code,Kh6.eq_def]
  simp only
  rw [Kt9,bs,P.pp,vAt,Kpp,bs]
  rcases hd.1 with rfl | rfl
  ·rw [show Kpo 1=(1,-1) from rfl]
   simp only [bs,Kt9,Kta,cb,ha,hb]
   rw [if_pos (by rfl),Ktv (by omega),bs,bs,if_pos trivial]
  ·rw [show Kpo 2=(2,-1) from rfl]
   simp only [bs,Kt9,Kta,ca,ha,hb,Krn a.code (by omega),Krn b.code (by omega)]
   rw [if_neg (by decide),if_pos (by rfl)]
   by_cases q:k < (Kt7 a:Int)
   ·rw [decide_eq_false (by omega),if_neg (by decide),if_neg (by decide),if_pos q]
   ·rw [decide_eq_true (by omega),if_pos rfl,if_neg (by decide),if_neg q]
 | un c a ih =>
  intro h hd hl k
  have P:=unP h hl
  have la:=P.la
  have ha:=ih P.ok hd (by omega)
  obtain ⟨h0,h1,h2,e⟩:=Ktq h.1
  rw [Ty.code,Kh6.eq_def]
  simp only
  rw [Kt9,bs,P.pp,vAt,Kpp,bs,e]
  simp [bs,Kt9,ha]
theorem Ktx (x y:Int) (l r:List Int):(x :: l == y :: r)=(x == y && l == r):=rfl
theorem Kty (a b:List Int) (ha:a.length ≤ 1099511627776) (hab:a.length=b.length):∀ (l r:List Int) (i:Nat),a.drop i=l→b.drop i=r→Kno (a,b,(i:Int))=some (if l == r then .inl () else .inr false):=by
 intro l
 induction l with
 | nil =>
  intro r i h1 h2
  have hi:=Kpg h1
  rw [Kno.eq_def]
  simp only
  rw [Kod hi]
  have:r=[]:=by rw [← h2]; exact List.drop_eq_nil_of_le (by omega)
  subst this; rfl
 | cons x l ih =>
  intro r i h1 h2
  obtain ⟨hi,hx,hd⟩:=Kpf h1
  cases r with
  | nil=>have:=Kpg h2; omega
  | cons y r =>
   obtain ⟨_,hy,hd2⟩:=Kpf h2
   rw [Kno.eq_def]
   simp only
   rw [Koc hi,if_pos rfl,hx,hy,bs,bs,Kob (by omega),ih r (i + 1) hd hd2,Ktx]
   by_cases e:x=y
   ·subst e; simp
   ·rw [bne_iff_ne.2 e,if_pos rfl,beq_eq_false_iff_ne.2 e]; rfl
theorem Ktz (a b:List Int) (hb:b.length ≤ 1099511627776):Knp (a,b)=some (a == b):=by
 unfold Knp
 simp only
 by_cases h:a.length=b.length
 ·rw [h,Koe,if_neg (by decide)]
  have:=Kty a b (by omega) h a b 0 rfl rfl
  rw [show ((0:Nat):Int)=0 from rfl] at this
  rw [this]
  cases a == b <;> rfl
 ·rw [bne_iff_ne.2 (by omega),if_pos rfl]
  have:a ≠ b:=fun e=>h (by rw [e])
  rw [beq_eq_false_iff_ne.2 this]
theorem Ku0 (a b:List Int) (ha:a.length ≤ 1099511627776) (hab:a.length=b.length):∀ (l r:List Int) (i:Nat),a.drop i=l→b.drop i=r→Kiy (a,b,(i:Int))=some (if l == r then .inl () else .inr false):=by
 intro l
 induction l with
 | nil =>
  intro r i h1 h2
  have hi:=Kpg h1
  rw [Kiy.eq_def]
  simp only
  rw [Kod hi]
  have:r=[]:=by rw [← h2]; exact List.drop_eq_nil_of_le (by omega)
  subst this; rfl
 | cons x l ih =>
  intro r i h1 h2
  obtain ⟨hi,hx,hd⟩:=Kpf h1
  cases r with
  | nil=>have:=Kpg h2; omega
  | cons y r =>
   obtain ⟨_,hy,hd2⟩:=Kpf h2
   rw [Kiy.eq_def]
   simp only
   rw [Koc hi,if_pos rfl,hx,hy,bs,bs,Kob (by omega),ih r (i + 1) hd hd2,Ktx]
   by_cases e:x=y
   ·subst e; simp
   ·rw [bne_iff_ne.2 e,if_pos rfl,beq_eq_false_iff_ne.2 e]; rfl
theorem Ku1 (a b:List Int) (hb:b.length ≤ 1099511627776):Kj1 (a,b)=some (a == b):=by
 unfold Kj1
 simp only
 by_cases h:a.length=b.length
 ·rw [h,Koe,if_neg (by decide)]
  have:=Ku0 a b (by omega) h a b 0 rfl rfl
  rw [show ((0:Nat):Int)=0 from rfl] at this
  rw [this]
  cases a == b <;> rfl
 ·rw [bne_iff_ne.2 (by omega),if_pos rfl]
  have:a ≠ b:=fun e=>h (by rw [e])
  rw [beq_eq_false_iff_ne.2 this]
def vB:Ty→K02→Bool
 | .num,⟨op,N,ty,ks⟩=>op == 1 && inB N 0 2 && (ty.length:Int) == 0 && (ks.length:Int) == 0
 | .bin c a b,⟨op,N,ty,ks⟩ =>
  if c=1 then op == 4 && N == 0 && (ty.length:Int) == 0 && (match ks with | [k,m]=>vB a k && vB b m | _=>false)
  else N == 0 && (match ks with | [k]=>if op=6 then ty == b.code && vB a k else if op=7 then ty == a.code && vB b k else false | _=>false)
 | .un c a,⟨op,N,ty,ks⟩=>op == 11 && N == Kq4 c && (ty.length:Int) == 0 && (match ks with | [k]=>vB a k | _=>false)
theorem Ku2 (op N:Int) (ty:List Int) (ks:List K02):vB .num ⟨op,N,ty,ks⟩=(op == 1 && inB N 0 2 && (ty.length:Int) == 0 && (ks.length:Int) == 0):=rfl
theorem Ku3 (c:Int) (a b:Ty) (op N:Int) (ty:List Int) (ks:List K02):vB (.bin c a b) ⟨op,N,ty,ks⟩=(if c=1 then op == 4 && N == 0 && (ty.length:Int) == 0 && (match ks with | [k,m]=>vB a k && vB b m | _=>false)
  else N == 0 && (match ks with | [k]=>if op=6 then ty == b.code && vB a k else if op=7 then ty == a.code && vB b k else false | _=>false)):=rfl
theorem Ku4 (c:Int) (a:Ty) (op N:Int) (ty:List Int) (ks:List K02):vB (.un c a) ⟨op,N,ty,ks⟩=(op == 11 && N == Kq4 c && (ty.length:Int) == 0 && (match ks with | [k]=>vB a k | _=>false)):=rfl
theorem d20:((2:Int) == 0)=false:=rfl
theorem d21:((2:Int) == 1)=false:=rfl
theorem d22:((2:Int) == 2)=true:=rfl
theorem Ku5 (T:Ty):∀ v:K02,T.ok→T.dat→T.code.length ≤ 1048576→Km4 (T.code,v)=some (vB T v):=by
 induction T with
 | num =>
  intro ⟨op,N,ty,ks⟩ _ _ _
  rw [Km4.eq_def,Ty.code,Ku2]
  simp only [Kt9,bs]
  rw [Kpp,Ktt,iIn]
  simp only [bs]
  cases op == 1 <;> cases inB N 0 2 <;> cases (ty.length:Int) == 0 <;> rfl
 | bin c a b iha ihb =>
  intro ⟨op,N,ty,ks⟩ h hd hl
  have P:=Kts h hl
  have la:=P.la
  rw [Ty.code,Km4.eq_def]
  simp only [Kt9,bs]
  rw [P.pp,Ku3,Kpp]
  simp only [bs]
  rcases Ktp h.1 with ⟨rfl,e⟩ | ⟨rfl,e⟩ | ⟨h0,h1,_,e⟩
  ·rw [e,if_pos rfl]
   simp only [Kt9,Kta,bs]
   match ks with
   | []=>cases op == 4 <;> cases N == 0 <;> cases (ty.length:Int) == 0 <;> rfl
   | [k]=>cases op == 4 <;> cases N == 0 <;> cases (ty.length:Int) == 0 <;> rfl
   | [k,m] =>
    simp only [Kt9,Kta,bs,iha k P.ok.1 hd.2.1 (by omega),ihb m P.ok.2 hd.2.2 (by omega)]
    cases op == 4 <;> cases N == 0 <;> cases (ty.length:Int) == 0 <;> cases vB a k <;> cases vB b m <;> rfl
   | k :: m :: o :: ks =>
    have:(((k :: m :: o :: ks).length:Int) == 2)=false:=beq_eq_false_iff_ne.2 (by simp only [List.length_cons]; omega)
    rw [this]
    cases op == 4 <;> cases N == 0 <;> cases (ty.length:Int) == 0 <;> rfl
  ·rw [e,if_neg (by decide)]
   simp only [Kt9,Kta,bs,d20,d21,d22,Bool.false_eq_true,if_false,if_true]
   by_cases hN:N=0
   ·subst hN
    match ks with
    | []=>rfl
    | [k] =>
     by_cases h6:op=6
     ·subst h6
      have e1:wr (1 - 0)=1:=by decide
      have e0:wr (6 - 6)=0:=by decide
      refine (Kq9 (x:=false) rfl).trans ?_
      simp only [Bool.false_eq_true,if_false,e1,e0,Kt9,Kta,bs]
      rw [Ku1 ty b.code (by omega),iha k P.ok.1 hd.2.1 (by omega)]
      cases ty == b.code <;> rfl
     ·by_cases h7:op=7
      ·subst h7
       have e1:wr (1 - 1)=0:=by decide
       have e0:wr (7 - 6)=1:=by decide
       refine (Kq9 (x:=false) rfl).trans ?_
       simp only [Bool.false_eq_true,if_false,e1,e0,Kt9,Kta,bs]
       rw [Ku1 ty a.code (by omega),ihb k P.ok.2 hd.2.2 (by omega)]
       cases ty == a.code <;> rfl
      ·refine (Kq9 (x:=true) (by rw [bne_iff_ne.2 h6,bne_iff_ne.2 h7]; rfl)).trans ?_
       show some false=some (if op=6 then ty == b.code && vB a k else if op=7 then ty == a.code && vB b k else false)
       rw [if_neg h6,if_neg h7]
    | k :: m :: ks =>
     have:(((k :: m :: ks).length:Int) != 1)=true:=bne_iff_ne.2 (by simp only [List.length_cons]; omega)
     rw [this]; rfl
   ·rw [bne_iff_ne.2 hN,beq_eq_false_iff_ne.2 hN]; rfl
  ·exact absurd hd.1 (by omega)
 | un c a ih =>
  intro ⟨op,N,ty,ks⟩ h hd hl
  have P:=unP h hl
  have la:=P.la
  obtain ⟨h0,h1,h2,e⟩:=Ktq h.1
  rw [Ty.code,Km4.eq_def]
  simp only [Kt9,bs]
  rw [P.pp,Ku4,Kpp,e]
  simp only [bs]
  match ks with
  | []=>cases op == 11 <;> cases N == Kq4 c <;> cases (ty.length:Int) == 0 <;> rfl
  | [k] =>
   simp only [Kt9,Kta,bs,ih k P.ok hd (by omega)]
   cases op == 11 <;> cases N == Kq4 c <;> cases (ty.length:Int) == 0 <;> rfl
  | k :: m :: ks =>
   have:(((k :: m :: ks).length:Int) == 1)=false:=beq_eq_false_iff_ne.2 (by simp only [List.length_cons]; omega)
   rw [this]
   cases op == 11 <;> cases N == Kq4 c <;> cases (ty.length:Int) == 0 <;> rfl
theorem Ku6 {α:Type} {l:List α} (h:((l.length:Int) == 0)=true):l=[]:=by
 rw [beq_iff_eq] at h; exact List.length_eq_zero_iff.1 (by omega)
theorem Ku7 (g:Int→Bool) (y:List Int→Bool) (n:Nat) (op N:Int) (ty:List Int) (ks:List K02):tOk g y n ⟨op,N,ty,ks⟩=(Kqz g y (n:Int) ⟨op,N,ty,ks⟩ && Kr0 g y op n 0 ks):=Kr1 ..
theorem Ku8 (g:Int→Bool) (y:List Int→Bool) (op:Int) (n i:Nat) (k:K02) (ks:List K02):Kr0 g y op n i (k :: ks)=(tOk g y (n + Kqt op i) k && Kr0 g y op n (i + 1) ks):=by rw [Kr0]
theorem Ku9 (g:Int→Bool) (y:List Int→Bool) (op:Int) (n i:Nat):Kr0 g y op n i []=true:=by rw [Kr0]
structure Kua (g:Int→Bool) (y:List Int→Bool) (T:Ty):Prop where
 un:∀ c a,T=.un c a→g (Kq4 c)=true
 y:y T.code=true
def Kub (P:Ty→Prop):Ty→Prop
 | .num=>P .num
 | .bin c a b=>P (.bin c a b)∧Kub P a∧Kub P b
 | .un c a=>P (.un c a)∧Kub P a
theorem Kuc {P:Ty→Prop} {T:Ty} (h:Kub P T):P T:=by cases T <;> first | exact h | exact h.1
theorem Kud (op N:Int) (ty:List Int) (ks:List K02):tsz ⟨op,N,ty,ks⟩=1 + Kqa ks:=by rw [tsz]
theorem Kue (g:Int→Bool) (y:List Int→Bool) (T:Ty):∀ (v:K02) (n:Nat),T.dat→Kub (Kua g y) T→vB T v=true→tOk g y n v=true∧tsz v ≤ T.code.length:=by
 induction T with
 | num =>
  intro ⟨op,N,ty,ks⟩ n _ hT h
  simp only [Ku2,Bool.and_eq_true] at h
  obtain ⟨⟨⟨h1,h2⟩,h3⟩,h4⟩:=h
  have h1:=eq_of_beq h1
  have h3:=Ku6 h3
  have h4:=Ku6 h4
  subst h1 h3 h4
  rw [Ku7,Kud]
  refine ⟨?_,by simp [Kqa,Ty.code]⟩
  simp [Kqz,Kqx,Kqy,h2,Ku9,show inB 1 0 12=true from rfl,Kqj,Kql]
 | bin c a b iha ihb =>
  intro ⟨op,N,ty,ks⟩ n hd hT h
  rw [Ku3] at h
  rw [Ty.code,List.length_cons,List.length_append]
  rcases hd.1 with rfl | rfl
  ·rw [if_pos rfl] at h
   simp only [Bool.and_eq_true] at h
   obtain ⟨⟨⟨h1,h2⟩,h3⟩,h4⟩:=h
   have h1:=eq_of_beq h1
   have h2:=eq_of_beq h2
   have h3:=Ku6 h3
   subst h1 h2 h3
   match ks,h4 with
   | [k,m],h4 =>
    simp only [Bool.and_eq_true] at h4
    obtain ⟨p1,q1⟩:=iha k (n + Kqt 4 0) hd.2.1 hT.2.1 h4.1
    obtain ⟨p2,q2⟩:=ihb m (n + Kqt 4 1) hd.2.2 hT.2.2 h4.2
    rw [Ku7,Kud,Ku8,Ku8,Ku9]
    refine ⟨?_,by simp only [Kqa]; omega⟩
    simp [Kqz,Kqx,Kqy,inB,Kqj,Kql,Kqk]
    exact ⟨p1,p2⟩
  ·rw [if_neg (by decide)] at h
   simp only [Bool.and_eq_true] at h
   obtain ⟨h2,h4⟩:=h
   have h2:=eq_of_beq h2
   subst h2
   match ks,h4 with
   | [k],h4 =>
    simp only at h4
    by_cases h6:op=6
    ·subst h6
     rw [if_pos rfl,Bool.and_eq_true] at h4
     obtain ⟨p1,q1⟩:=iha k (n + Kqt 6 0) hd.2.1 hT.2.1 h4.2
     have h5:=eq_of_beq h4.1
     subst h5
     rw [Ku7,Kud,Ku8,Ku9]
     refine ⟨?_,by simp only [Kqa]; omega⟩
     simp [Kqz,Kqx,Kqy,inB,Kqj,Kql,Kqk,(Kuc hT.2.2).y]
     exact p1
    ·rw [if_neg h6] at h4
     by_cases h7:op=7
     ·subst h7
      rw [if_pos rfl,Bool.and_eq_true] at h4
      obtain ⟨p1,q1⟩:=ihb k (n + Kqt 7 0) hd.2.2 hT.2.2 h4.2
      have h5:=eq_of_beq h4.1
      subst h5
      rw [Ku7,Kud,Ku8,Ku9]
      refine ⟨?_,by simp only [Kqa]; omega⟩
      simp [Kqz,Kqx,Kqy,inB,Kqj,Kql,Kqk,(Kuc hT.2.1).y]
      exact p1
     ·rw [if_neg h7] at h4; cases h4
 | un c a ih =>
  intro ⟨op,N,ty,ks⟩ n hd hT h
  simp only [Ku4,Bool.and_eq_true] at h
  obtain ⟨⟨⟨h1,h2⟩,h3⟩,h4⟩:=h
  have h1:=eq_of_beq h1
  have h2:=eq_of_beq h2
  have h3:=Ku6 h3
  subst h1 h2 h3
  rw [Ty.code,List.length_cons]
  match ks,h4 with
  | [k],h4 =>
   simp only at h4
   obtain ⟨p1,q1⟩:=ih k (n + Kqt 11 0) hd hT.2 h4
   rw [Ku7,Kud,Ku8,Ku9]
   refine ⟨?_,by simp only [Kqa]; omega⟩
   simp [Kqz,Kqx,Kqy,inB,Kqj,Kql,Kqk,hT.1.un c a rfl]
   exact p1
theorem Kuf {l:List K02} (h:((l.length:Int) == 1)=true):∃ k,l=[k]:=by
 rw [beq_iff_eq] at h; match l,h with | [k],_=>exact ⟨k,rfl⟩ | [],h=>exact absurd h (by simp) | _ :: _ :: _,h=>exact absurd h (by simp only [List.length_cons]; omega)
theorem Kug {l:List K02} (h:((l.length:Int) == 2)=true):∃ k m,l=[k,m]:=by
 rw [beq_iff_eq] at h; match l,h with | [k,m],_=>exact ⟨k,m,rfl⟩ | [],h=>exact absurd h (by simp) | [_],h=>exact absurd h (by simp) | _ :: _ :: _ :: _,h=>exact absurd h (by simp only [List.length_cons]; omega)
theorem Kuh (g:Int→Bool) (y:List Int→Bool) (T:Ty):∀ (v:K02) (n:Nat),T.ok→T.dat→T.code.length ≤ 1048576→tOk g y n v=true→Knq (T.code,v)=some (vB T v):=by
 induction T with
 | num =>
  intro ⟨op,N,ty,ks⟩ n _ _ _ hv
  rw [Knq.eq_def,Ty.code,Ku2]
  simp only [Kt9,bs]
  by_cases h1:op=1
  ·subst h1
   rw [Ku7] at hv
   simp [Kqz,Kqx,Kqy,Kqj,Kql,Kr0,inB] at hv
   simp [hv,inB]
  ·rw [beq_eq_false_iff_ne.2 h1]; rfl
 | bin c a b iha ihb =>
  intro ⟨op,N,ty,ks⟩ n h hd hl hv
  have P:=Kts h hl
  have la:=P.la
  rw [Ty.code,Knq.eq_def]
  simp only [Kt9,bs]
  rw [P.p0,P.p1,Ku3]
  simp only [bs]
  rw [Ku7] at hv
  rcases hd.1 with rfl | rfl
  ·rw [if_pos rfl]
   by_cases h1:op=4
   ·subst h1
    simp [Kqz,Kqx,Kqy,Kqj,Kql,Kqk,inB] at hv
    obtain ⟨k,m,rfl⟩:=Kug (l:=ks) (beq_iff_eq.2 hv.1.1.1)
    rw [Ku8,Ku8,Bool.and_eq_true,Bool.and_eq_true] at hv
    rw [Kt9,Kta,bs,bs,iha k _ P.ok.1 hd.2.1 (by omega) hv.2.1,ihb m _ P.ok.2 hd.2.2 (by omega) hv.2.2.1]
    simp [hv.1.1.2,hv.1.2,bs]
    cases vB a k <;> rfl
   ·rw [beq_eq_false_iff_ne.2 h1]; rfl
  ·rw [if_neg (by decide)]
   simp only [d20,d21,d22,Bool.false_eq_true,if_false,if_true,bs]
   by_cases h6:op=6
   ·subst h6
    simp [Kqz,Kqx,Kqy,Kqj,Kql,Kqk,inB] at hv
    obtain ⟨k,rfl⟩:=Kuf (l:=ks) (beq_iff_eq.2 hv.1.1.1)
    rw [Ku8,Bool.and_eq_true] at hv
    simp only [Kt9,bs]
    rw [Ktz ty b.code (by omega),iha k _ P.ok.1 hd.2.1 (by omega) hv.2.1,hv.1.1.2]
    cases ty == b.code <;> cases vB a k <;> rfl
   ·by_cases h7:op=7
    ·subst h7
     simp [Kqz,Kqx,Kqy,Kqj,Kql,Kqk,inB] at hv
     obtain ⟨k,rfl⟩:=Kuf (l:=ks) (beq_iff_eq.2 hv.1.1.1)
     rw [Ku8,Bool.and_eq_true] at hv
     simp only [Kt9,bs]
     rw [Ktz ty a.code (by omega),ihb k _ P.ok.2 hd.2.2 (by omega) hv.2.1,hv.1.1.2]
     cases ty == a.code <;> cases vB b k <;> rfl
    ·rw [beq_eq_false_iff_ne.2 h6,beq_eq_false_iff_ne.2 h7]
     match ks with
     | []=>cases N == 0 <;> rfl
     | [k] =>
      show _=some (N == 0 && (if op=6 then ty == b.code && vB a k else if op=7 then ty == a.code && vB b k else false))
      rw [if_neg h6,if_neg h7]
      cases N == 0 <;> rfl
     | k :: m :: ks=>cases N == 0 <;> rfl
 | un c a ih =>
  intro ⟨op,N,ty,ks⟩ n h hd hl hv
  have P:=unP h hl
  have la:=P.la
  obtain ⟨h0,h1,h2,e⟩:=Ktq h.1
  rw [Ty.code,Knq.eq_def]
  simp only [Kt9,bs]
  rw [beq_eq_false_iff_ne.2 h0.1,beq_eq_false_iff_ne.2 h0.2.1,beq_eq_false_iff_ne.2 h0.2.2,P.p0,Ku4,Kq6 (by rw [h.1]; decide)]
  simp only [bs]
  rw [Ku7] at hv
  by_cases q:op=11
  ·subst q
   simp [Kqz,Kqx,Kqy,Kqj,Kql,Kqk,inB] at hv
   obtain ⟨k,rfl⟩:=Kuf (l:=ks) (beq_iff_eq.2 hv.1.1.1)
   rw [Ku8,Bool.and_eq_true] at hv
   simp only [Kt9,bs,Bool.false_eq_true,if_false]
   rw [ih k _ P.ok hd (by omega) hv.2.1,hv.1.2]
   cases N == Kq4 c <;> cases vB a k <;> rfl
  ·rw [beq_eq_false_iff_ne.2 q]; rfl
def Kui (s:K00) (t:K02) (n:Nat):Bool:=Ks1 s && decide (tsz t ≤ 400) && tOk (gN s.fSize true) (yN s.fSize true) n t
theorem Kuj (s:K00) (t:K02) (n:Nat) (hn:n ≤ 8) (ht:tms t ≤ 1099511627776):Knn (s,t,(n:Int))=some (Kui s t n):=by
 unfold Knn Kui
 simp only
 rw [Ks3,bs]
 cases Ks1 s
 ·rfl
 ·rw [if_pos rfl,sIn,bs]
  have:inB (n:Int) 0 8=true:=by unfold inB; rw [decide_eq_true (by omega),decide_eq_true (by omega)]; rfl
  have hl:=Kqh t 400 ht (by decide)
  rw [show ((400:Nat):Int)=400 from rfl] at hl
  rw [this,if_pos rfl,hl,bs]
  by_cases h:tsz t ≤ 400
  ·rw [Kqe h,decide_eq_true (by omega),decide_eq_true h,if_pos rfl,Kr3 _ _ t n ht (by omega)]
   cases tOk (gN s.fSize true) (yN s.fSize true) n t <;> rfl
  ·rw [Kqf h,decide_eq_false h]; rfl
theorem Kuk {s:K00} {T:Ty} (h:T.ok) (hl:T.code.length ≤ 40) (hc:T.code.all (Kq5 s.fSize true)=true):Kub (Kua (gN s.fSize true) (yN s.fSize true)) T:=by
 have hy:∀ K:Ty,K.ok→K.code.length ≤ 40→K.code.all (Kq5 s.fSize true)=true→yN s.fSize true K.code=true:=by
  intro K h1 h2 h3
  unfold yN
  rw [Ksc h1 h2,h3]; rfl
 induction T with
 | num=>exact ⟨fun c a e=>(by cases e),hy _ h hl hc⟩
 | bin c a b iha ihb =>
  have hc':=hc
  have hl':=hl
  rw [Ty.code,List.length_cons,List.length_append] at hl'
  rw [Ty.code,List.all_cons,List.all_append,Bool.and_eq_true,Bool.and_eq_true] at hc'
  exact ⟨⟨fun c a e=>(by cases e),hy _ h hl hc⟩,iha h.2.1 (by omega) hc'.2.1,ihb h.2.2 (by omega) hc'.2.2⟩
 | un c a ih =>
  have hc':=hc
  have hl':=hl
  rw [Ty.code,List.length_cons] at hl'
  rw [Ty.code,List.all_cons,Bool.and_eq_true] at hc'
  refine ⟨⟨fun d e q=>?_,hy _ h hl hc⟩,ih h.2 (by omega) hc'.2⟩
  cases q
  have hk:=h.1
  have h1:=hc'.1
  have h3:c > 2:=by rcases Kpn c with q | q | q | q <;> omega
  unfold Kq5 at h1
  rw [hk,decide_eq_true h3] at h1
  unfold gN
  simp only [show decide ((1:Int) > 0)=true from rfl,Bool.true_and,Bool.not_eq_true',Bool.or_eq_false_iff,decide_eq_false_iff_not] at h1 ⊢
  refine ⟨⟨h1.1,by omega⟩,h1.2⟩
theorem Kul (op N:Int) (ty:List Int) (a:K02):tsz ⟨op,N,ty,[a]⟩=1 + tsz a:=by simp [tsz,Kqa]
theorem Kum (op N:Int) (ty:List Int) (a b:K02):tsz ⟨op,N,ty,[a,b]⟩=1 + (tsz a + tsz b):=by simp [tsz,Kqa]
theorem Kun (op N:Int) (ty:List Int) (a b c:K02):tsz ⟨op,N,ty,[a,b,c]⟩=1 + (tsz a + (tsz b + tsz c)):=by simp [tsz,Kqa]
theorem Kuo {l:List K02} (h:(l.length:Int)=3):∃ a b c,l=[a,b,c]:=by
 match l,h with | [a,b,c],_=>exact ⟨a,b,c,rfl⟩ | [],h=>exact absurd h (by simp) | [_],h=>exact absurd h (by simp) | [_,_],h=>exact absurd h (by simp) | _ :: _ :: _ :: _ :: _,h=>exact absurd h (by simp only [List.length_cons]; omega)
def lms (l:List (List Int)):Nat:=l.length + lct l
theorem Kup {v:K02} (h:vB .num v=true):∃ N,v=⟨1,N,[],[]⟩∧0 ≤ N∧N ≤ 2:=by
 obtain ⟨op,N,ty,ks⟩:=v
 simp only [vB,Bool.and_eq_true] at h
 obtain ⟨⟨⟨h1,h2⟩,h3⟩,h4⟩:=h
 have h1:=eq_of_beq h1
 have h3:=Ku6 h3
 have h4:=Ku6 h4
 subst h1 h3 h4
 unfold inB at h2
 simp only [Bool.and_eq_true,decide_eq_true_eq] at h2
 exact ⟨N,rfl,h2.1,h2.2⟩
theorem Kuq {a b:Ty} {v:K02} (h:vB (.bin 1 a b) v=true):∃ k m,v=⟨4,0,[],[k,m]⟩∧vB a k=true∧vB b m=true:=by
 obtain ⟨op,N,ty,ks⟩:=v
 rw [Ku3,if_pos rfl] at h
 simp only [Bool.and_eq_true] at h
 obtain ⟨⟨⟨h1,h2⟩,h3⟩,h4⟩:=h
 have h1:=eq_of_beq h1
 have h2:=eq_of_beq h2
 have h3:=Ku6 h3
 subst h1 h2 h3
 match ks,h4 with
 | [k,m],h4 =>
  simp only [Bool.and_eq_true] at h4
  exact ⟨k,m,rfl,h4.1,h4.2⟩
theorem Kur {a b:Ty} {v:K02} (h:vB (.bin 2 a b) v=true):(∃ k,v=⟨6,0,b.code,[k]⟩∧vB a k=true)∨(∃ k,v=⟨7,0,a.code,[k]⟩∧vB b k=true):=by
 obtain ⟨op,N,ty,ks⟩:=v
 rw [Ku3,if_neg (by decide)] at h
 simp only [Bool.and_eq_true] at h
 obtain ⟨h2,h4⟩:=h
 have h2:=eq_of_beq h2
 subst h2
 match ks,h4 with
 | [k],h4 =>
  simp only at h4
  by_cases h6:op=6
  ·subst h6
   rw [if_pos rfl,Bool.and_eq_true] at h4
   have h5:=eq_of_beq h4.1
   subst h5
   exact .inl ⟨k,rfl,h4.2⟩
  ·rw [if_neg h6] at h4
   by_cases h7:op=7
   ·subst h7
    rw [if_pos rfl,Bool.and_eq_true] at h4
    have h5:=eq_of_beq h4.1
    subst h5
    exact .inr ⟨k,rfl,h4.2⟩
   ·rw [if_neg h7] at h4; cases h4
theorem Kus {c:Int} {a:Ty} {v:K02} (h:vB (.un c a) v=true):∃ k,v=⟨11,Kq4 c,[],[k]⟩∧vB a k=true:=by
 obtain ⟨op,N,ty,ks⟩:=v
 simp only [Ku4,Bool.and_eq_true] at h
 obtain ⟨⟨⟨h1,h2⟩,h3⟩,h4⟩:=h
 have h1:=eq_of_beq h1
 have h2:=eq_of_beq h2
 have h3:=Ku6 h3
 subst h1 h2 h3
 match ks,h4 with
 | [k],h4=>exact ⟨k,rfl,h4⟩
def Kut (v:K02) (i:Nat):K02:=v.fKids.getD i noT
def plV:Ty→K02→Nat
 | .num,v=>v.fN.toNat
 | .bin c a b,v=>if c=1 then plV a (Kut v 0) * Kt7 b + plV b (Kut v 1) else if v.fOp=6 then plV a (Kut v 0) else Kt7 a + plV b (Kut v 0)
 | .un _ a,v=>plV a (Kut v 0)
theorem Kuu {a b:Ty} (h:Kt7 (.bin 1 a b) ≤ 300):Kt7 (.bin 1 a b)=Kt7 a * Kt7 b∧Kt7 a ≤ 300∧Kt7 b ≤ 300:=by
 rw [Kt7,if_pos rfl] at h ⊢
 have h1:=(Kt8 a).1
 have h2:=(Kt8 b).1
 have h3:Kt7 a ≤ Kt7 a * Kt7 b:=Nat.le_mul_of_pos_right _ h2
 have h4:Kt7 b ≤ Kt7 a * Kt7 b:=Nat.le_mul_of_pos_left _ h1
 omega
theorem Kuv {c:Int} {a b:Ty} (hc:c ≠ 1) (h:Kt7 (.bin c a b) ≤ 300):Kt7 (.bin c a b)=Kt7 a + Kt7 b∧Kt7 a ≤ 300∧Kt7 b ≤ 300:=by
 rw [Kt7,if_neg hc] at h ⊢
 omega
theorem Kuw (T:Ty):∀ v,T.dat→Kt7 T ≤ 300→vB T v=true→plV T v < Kt7 T∧vAt T (plV T v)=v:=by
 induction T with
 | num =>
  intro v _ _ h
  obtain ⟨N,rfl,h1,h2⟩:=Kup h
  rw [plV,Kt7,vAt]
  simp only
  refine ⟨by omega,?_⟩
  rw [Int.toNat_of_nonneg h1]
 | bin c a b iha ihb =>
  intro v hd hc h
  rcases hd.1 with rfl | rfl
  ·obtain ⟨k,m,rfl,h1,h2⟩:=Kuq h
   obtain ⟨e,c1,c2⟩:=Kuu hc
   obtain ⟨p1,q1⟩:=iha k hd.2.1 c1 h1
   obtain ⟨p2,q2⟩:=ihb m hd.2.2 c2 h2
   rw [plV,if_pos rfl,vAt,if_pos rfl,e]
   rw [e] at hc
   simp only [Kut,List.getD_cons_zero,List.getD_cons_succ]
   have hle:plV a k * Kt7 b + plV b m < Kt7 a * Kt7 b:=by
    have:(plV a k + 1) * Kt7 b ≤ Kt7 a * Kt7 b:=Nat.mul_le_mul_right _ p1
    rw [Nat.add_mul] at this; omega
   refine ⟨hle,?_⟩
   have hpos:=(Kt8 b).1
   have e1:Int.tdiv ((plV a k * Kt7 b + plV b m:Nat):Int) (Kt7 b:Int)=(plV a k:Int):=by
    rw [← Int.ofNat_tdiv]
    congr 1
    rw [Nat.add_comm,Nat.add_mul_div_right _ _ hpos,Nat.div_eq_of_lt p2]; omega
   have e2:Int.tmod ((plV a k * Kt7 b + plV b m:Nat):Int) (Kt7 b:Int)=(plV b m:Int):=by
    rw [← Int.ofNat_tmod]
    congr 1
    rw [Nat.add_comm,Nat.add_mul_mod_self_right,Nat.mod_eq_of_lt p2]
   rw [e1,e2,Ko9 (by omega) (by omega),q1,q2]
  ·obtain ⟨e,c1,c2⟩:=Kuv (by decide) hc
   rw [plV,if_neg (by decide:¬ (2:Int)=1),vAt,if_neg (by decide:¬ (2:Int)=1),e]
   rcases Kur h with ⟨k,rfl,h1⟩ | ⟨k,rfl,h1⟩
   ·obtain ⟨p1,q1⟩:=iha k hd.2.1 c1 h1
    simp only [Kut,List.getD_cons_zero,if_true]
    rw [if_pos (by omega),q1]
    exact ⟨by omega,rfl⟩
   ·obtain ⟨p1,q1⟩:=ihb k hd.2.2 c2 h1
    simp only [Kut,List.getD_cons_zero]
    rw [if_neg (by decide:¬ (7:Int)=6),if_neg (by omega),Ko9 (by omega) (by omega),show ((Kt7 a + plV b k:Nat):Int) - (Kt7 a:Int)=(plV b k:Int) by omega,q1]
    exact ⟨by omega,rfl⟩
 | un c a ih =>
  intro v hd hc h
  obtain ⟨k,rfl,h1⟩:=Kus h
  obtain ⟨p,q⟩:=ih k hd hc h1
  rw [plV,vAt,Kt7]
  simp only [Kut,List.getD_cons_zero]
  rw [q]
  exact ⟨p,rfl⟩
theorem Kux (T:Ty):∀ k:Nat,T.dat→Kt7 T ≤ 300→k < Kt7 T→plV T (vAt T k)=k:=by
 induction T with
 | num=>intro k _ _ _; rw [vAt,plV]; exact Int.toNat_natCast k
 | bin c a b iha ihb =>
  intro k hd hc hk
  rcases hd.1 with rfl | rfl
  ·obtain ⟨e,c1,c2⟩:=Kuu hc
   have hpos:=(Kt8 b).1
   rw [e] at hk
   have d1:k / Kt7 b < Kt7 a:=(Nat.div_lt_iff_lt_mul hpos).2 hk
   have d2:k % Kt7 b < Kt7 b:=Nat.mod_lt _ hpos
   have d3:=Nat.div_add_mod k (Kt7 b)
   rw [vAt,if_pos rfl,plV,if_pos rfl,← Int.ofNat_tdiv,← Int.ofNat_tmod]
   generalize k / Kt7 b=q at d1 d3 ⊢
   generalize k % Kt7 b=r at d2 d3 ⊢
   rw [Ko9 (by omega) (by omega)]
   simp only [Kut,List.getD_cons_zero,List.getD_cons_succ]
   rw [iha _ hd.2.1 c1 d1,ihb _ hd.2.2 c2 d2,Nat.mul_comm]
   exact d3
  ·obtain ⟨e,c1,c2⟩:=Kuv (by decide) hc
   rw [e] at hk
   rw [vAt,if_neg (by decide:¬ (2:Int)=1)]
   by_cases h:(k:Int) < (Kt7 a:Int)
   ·rw [if_pos h,plV,if_neg (by decide:¬ (2:Int)=1)]
    simp only [Kut,List.getD_cons_zero,if_true]
    exact iha k hd.2.1 c1 (by omega)
   ·rw [if_neg h,plV,if_neg (by decide:¬ (2:Int)=1),Ko9 (by omega) (by omega),show (k:Int) - (Kt7 a:Int)=((k - Kt7 a:Nat):Int) by omega]
    simp only [Kut,List.getD_cons_zero]
    rw [if_neg (by decide:¬ (7:Int)=6),ihb _ hd.2.2 c2 (by omega)]; omega
 | un c a ih =>
  intro k hd hc hk
  rw [vAt,plV]
  simp only [Kut,List.getD_cons_zero]
  exact ih k hd hc hk
theorem Kuy {s:K00} {T:Ty} (v:K02) (h:(Kt2 s T.code && Ksm T.code)=true) (h1:T.ok) (h2:T.dat) (h4:T.code.length ≤ 40) (hv:tms v ≤ 1048576):Knr (s,T.code,v)=some (vB T v):=by
 unfold Knr
 simp only
 rw [Kt4 s T.code (by omega),h]
 rw [bs,if_pos rfl]
 have e:=Kuj s v 0 (by decide) (by omega)
 rw [show ((0:Nat):Int)=0 from rfl] at e
 rw [e,bs]
 cases ht:Kui s v 0
 ·have:vB T v=false:=by
   rw [Bool.eq_false_iff]
   intro hb
   unfold Kt2 Ksw at h
   simp only [Bool.and_eq_true] at h
   have T':=Ks2 h.1.1
   have hc:=h.1.2.2
   rw [show Ksv s=Kq5 s.fSize true from funext fun c=>Kt0 T'] at hc
   obtain ⟨p,q⟩:=Kue _ _ T v 0 h2 (Kuk h1 h4 hc) hb
   unfold Kui at ht
   rw [h.1.1,decide_eq_true (by omega),p] at ht
   cases ht
  rw [this]; rfl
 ·rw [if_pos rfl]
  unfold Kui at ht
  rw [Bool.and_eq_true] at ht
  rw [Kuh _ _ T v 0 h1 h2 (by omega) ht.2]; rfl
theorem Kuz {s:K00} {T:Ty} (v:K02) (h:(Kt2 s T.code && Ksm T.code)=true) (h1:T.ok) (h2:T.dat) (h4:T.code.length ≤ 40) (hv:tms v ≤ 1048576):Knr (s,T.code,v)=some (vB T v)∧Km7 (s,T.code,v)=some (vB T v):=by
 refine ⟨Kuy v h h1 h2 h4 hv,?_⟩
 unfold Km7
 simp only
 rw [Kt6 s T.code (by omega),h]
 rw [bs,if_pos rfl,Ku5 T v h1 h2 (by omega)]
 rfl
theorem Kv0 (T:Ty):∀ v:K02,T.ok→T.dat→T.code.length ≤ 1048576→Kt7 T ≤ 300→vB T v=true→Kma (T.code,v)=some ((plV T v:Nat):Int):=by
 induction T with
 | num =>
  intro v _ _ _ _ hv
  obtain ⟨N,rfl,h1,h2⟩:=Kup hv
  rw [Kma.eq_def,Ty.code]
  simp only
  rw [Ktt,plV]
  simp only [bs]
  rw [Int.toNat_of_nonneg h1]; rfl
 | bin c a b iha ihb =>
  intro v h hd hl hc hv
  have P:=Kts h hl
  have la:=P.la
  rw [Ty.code,Kma.eq_def]
  simp only
  rw [P.pp]
  rcases hd.1 with rfl | rfl
  ·obtain ⟨k,m,rfl,h1,h2⟩:=Kuq hv
   obtain ⟨e,c1,c2⟩:=Kuu hc
   have p1:=(Kuw a k hd.2.1 c1 h1).1
   have p2:=(Kuw b m hd.2.2 c2 h2).1
   have hle:plV a k * Kt7 b ≤ 90000:=Nat.le_trans (Nat.mul_le_mul (by omega:plV a k ≤ 300) c2) (by decide)
   simp only [Kt9,Kta,bs]
   rw [iha k P.ok.1 hd.2.1 (by omega) c1 h1,ihb m P.ok.2 hd.2.2 (by omega) c2 h2,Ktg b P.ok.2 hd.2.2 (by omega)]
   simp only [bs]
   rw [plV,if_pos rfl]
   simp only [Kut,List.getD_cons_zero,List.getD_cons_succ]
   rw [Ktb (by omega) (by omega),Ktc (by omega) (by omega)]; rfl
  ·obtain ⟨e,c1,c2⟩:=Kuv (by decide) hc
   rw [plV,if_neg (by decide:¬ (2:Int)=1)]
   rcases Kur hv with ⟨k,rfl,h1⟩ | ⟨k,rfl,h1⟩
   ·simp only [Kt9,Kta,bs]
    rw [iha k P.ok.1 hd.2.1 (by omega) c1 h1]
    rfl
   ·have p1:=(Kuw b k hd.2.2 c2 h1).1
    simp only [Kt9,Kta,bs]
    rw [ihb k P.ok.2 hd.2.2 (by omega) c2 h1,Ktg a P.ok.1 hd.2.1 (by omega)]
    simp only [bs,Kut,List.getD_cons_zero]
    rw [if_neg (by decide:¬ (7:Int)=6),Ktc (by omega) (by omega)]
    rfl
 | un c a ih =>
  intro v h hd hl hc hv
  have P:=unP h hl
  have la:=P.la
  obtain ⟨k,rfl,q⟩:=Kus hv
  rw [Ty.code,Kma.eq_def]
  simp only
  rw [P.pp]
  simp only [Kt9,Kta,bs]
  rw [ih k P.ok hd (by omega) hc q]
  rfl
end Go.Am
