/- Plain laws of the printed functions. -/
import Derived.Test.YtckgdfakjjdodaaGreatPERAx
set_option linter.unusedSimpArgs false
set_option linter.unusedVariables false
namespace Go.Am
theorem Koq {x:Int} (h1:-9223372036854775808 ≤ x) (h2:x ≤ 9223372036854775807):wr x=x:=by
 unfold wr IntKind.wrap
 simp [IntKind.bits,IntKind.signed]
 omega
theorem Kor {α:Type} {l:List α} {n:Nat} (h:n < l.length):idx l (n:Int)=some l[n]:=by
 unfold idx
 rw [if_pos (by omega)]
 simp [h]
theorem bs {α β:Type} (a:α) (f:α→Option β):(some a >>= f)=f a:=rfl
theorem Kos {n:Nat} (h:n < 9223372036854775807):wr ((n:Int) + 1)=((n + 1:Nat):Int):=by
 rw [Koq (by omega) (by omega)]; omega
theorem Kot {n m:Nat} (h:n < m):decide ((n:Int) < (m:Int))=true:=decide_eq_true (by omega)
theorem Kou {n m:Nat} (h:m ≤ n):decide ((n:Int) < (m:Int))=false:=decide_eq_false (by omega)
theorem Kov {a:Int}:(a != a)=false:=by simp
structure Tab (s:K00) (n:Nat):Prop where
 size:s.fSize=(n:Int)
 lo:2 ≤ n
 hi:n ≤ 16
 lp:s.fPlus.length=n * n
 lt:s.fTimes.length=n * n
 lb:s.fBelow.length=n * n
 rp:∀ i (h:i < s.fPlus.length),0 ≤ s.fPlus[i]∧s.fPlus[i] < (n:Int)
 rt:∀ i (h:i < s.fTimes.length),0 ≤ s.fTimes[i]∧s.fTimes[i] < (n:Int)
def pl (s:K00) (n a b:Nat):Nat:=(s.fPlus.getD (a * n + b) 0).toNat
def ti (s:K00) (n a b:Nat):Nat:=(s.fTimes.getD (a * n + b) 0).toNat
def le (s:K00) (n a b:Nat):Bool:=s.fBelow.getD (a * n + b) false
theorem Kow {n a b:Nat} (ha:a < n) (hb:b < n):a * n + b < n * n:=by
 have:(a + 1) * n ≤ n * n:=Nat.mul_le_mul_right _ (by omega)
 rw [Nat.add_mul,Nat.one_mul] at this
 omega
theorem Kox {n a b:Nat} (hn:n ≤ 16) (ha:a < n) (hb:b < n):wr ((wr ((a:Int) * (n:Int))) + (b:Int))=((a * n + b:Nat):Int):=by
 have h1:a * n ≤ 256:=Nat.le_trans (Nat.mul_le_mul (by omega:a ≤ 16) hn) (by decide)
 have e:(a:Int) * (n:Int)=((a * n:Nat):Int):=by simp
 rw [e]
 generalize a * n=m at h1
 rw [Koq (x:=(m:Int)) (by omega) (by omega),Koq (by omega) (by omega)]
 omega
section
variable {s:K00} {n:Nat} (h:Tab s n)
include h
theorem Koy {a b:Nat} (ha:a < n) (hb:b < n):pl s n a b < n:=by
 have hl:a * n + b < s.fPlus.length:=by rw [h.lp]; exact Kow ha hb
 unfold pl
 rw [List.getD_eq_getElem?_getD,List.getElem?_eq_getElem hl]
 have:=h.rp _ hl
 simp only [Option.getD_some]
 omega
theorem Koz {a b:Nat} (ha:a < n) (hb:b < n):ti s n a b < n:=by
 have hl:a * n + b < s.fTimes.length:=by rw [h.lt]; exact Kow ha hb
 unfold ti
 rw [List.getD_eq_getElem?_getD,List.getElem?_eq_getElem hl]
 have:=h.rt _ hl
 simp only [Option.getD_some]
 omega
theorem Kp0 {a b:Nat} (ha:a < n) (hb:b < n):idx s.fPlus ((a * n + b:Nat):Int)=some ((pl s n a b:Nat):Int):=by
 have hl:a * n + b < s.fPlus.length:=by rw [h.lp]; exact Kow ha hb
 rw [Kor hl]
 unfold pl
 rw [List.getD_eq_getElem?_getD,List.getElem?_eq_getElem hl]
 have:=h.rp _ hl
 simp only [Option.getD_some]
 congr 1
 omega
theorem Kp1 {a b:Nat} (ha:a < n) (hb:b < n):idx s.fTimes ((a * n + b:Nat):Int)=some ((ti s n a b:Nat):Int):=by
 have hl:a * n + b < s.fTimes.length:=by rw [h.lt]; exact Kow ha hb
 rw [Kor hl]
 unfold ti
 rw [List.getD_eq_getElem?_getD,List.getElem?_eq_getElem hl]
 have:=h.rt _ hl
 simp only [Option.getD_some]
 congr 1
 omega
theorem Kp2 {a b:Nat} (ha:a < n) (hb:b < n):idx s.fBelow ((a * n + b:Nat):Int)=some (le s n a b):=by
 have hl:a * n + b < s.fBelow.length:=by rw [h.lb]; exact Kow ha hb
 rw [Kor hl]
 unfold le
 rw [List.getD_eq_getElem?_getD,List.getElem?_eq_getElem hl]
 rfl
theorem Kp3 {a b:Nat} (ha:a < n) (hb:b < n):K94 (s,(a:Int),(b:Int))=some ((pl s n a b:Nat):Int):=by
 unfold K94
 simp only
 rw [h.size,Kox h.hi ha hb,Kp0 h ha hb,bs]
theorem Kp4 {a b:Nat} (ha:a < n) (hb:b < n):K9b (s,(a:Int),(b:Int))=some ((ti s n a b:Nat):Int):=by
 unfold K9b
 simp only
 rw [h.size,Kox h.hi ha hb,Kp1 h ha hb,bs]
theorem sLe {a b:Nat} (ha:a < n) (hb:b < n):K9e (s,(a:Int),(b:Int))=some (le s n a b):=by
 unfold K9e
 simp only
 rw [h.size,Kox h.hi ha hb,Kp2 h ha hb,bs]
theorem Kp5 {a b:Nat} (ha:a < n) (hb:b < n):Key (s,(a:Int),(b:Int))=some ((pl s n a b:Nat):Int):=by
 unfold Key
 simp only
 rw [h.size,Kox h.hi ha hb,Kp0 h ha hb,bs]
theorem Kp6 {a b:Nat} (ha:a < n) (hb:b < n):Kf1 (s,(a:Int),(b:Int))=some ((ti s n a b:Nat):Int):=by
 unfold Kf1
 simp only
 rw [h.size,Kox h.hi ha hb,Kp1 h ha hb,bs]
theorem iLe {a b:Nat} (ha:a < n) (hb:b < n):Kf4 (s,(a:Int),(b:Int))=some (le s n a b):=by
 unfold Kf4
 simp only
 rw [h.size,Kox h.hi ha hb,Kp2 h ha hb,bs]
end
theorem Kp7 (x y:Nat):(((x:Nat):Int) == ((y:Nat):Int))=(x == y):=by
 cases hb:(x == y) with
 | true=>have:=eq_of_beq hb; subst this; simp
 | false=>simp at hb ⊢; omega
theorem Kp8 (x y:Nat):(((x:Nat):Int) != ((y:Nat):Int))=(x != y):=by
 simp only [bne,Kp7]
def Kp9 (s:K00) (n a:Nat):Bool:=(pl s n 0 a == a) && (ti s n 1 a == a) && (ti s n a 1 == a) && (ti s n 0 a == 0) && (ti s n a 0 == 0) && le s n a a
def Kpa (s:K00) (n a b c:Nat):Bool :=
 (pl s n (pl s n a b) c == pl s n a (pl s n b c)) && (ti s n (ti s n a b) c == ti s n a (ti s n b c)) &&
 (ti s n a (pl s n b c) == pl s n (ti s n a b) (ti s n a c)) && (ti s n (pl s n a b) c == pl s n (ti s n a c) (ti s n b c)) &&
 (!(le s n a b) || ((!(le s n b c) || le s n a c) && le s n (pl s n a c) (pl s n b c) && le s n (ti s n a c) (ti s n b c) && le s n (ti s n c a) (ti s n c b)))
section
variable {s:K00} {n:Nat} (h:Tab s n)
include h
theorem Kpb {a:Nat} (ha:a < n):K9h (s,(a:Int))=some (Kp9 s n a):=by
 have l0:(0:Nat) < n:=by have:=h.lo; omega
 have l1:(1:Nat) < n:=by have:=h.lo; omega
 have e0:(0:Int)=((0:Nat):Int):=rfl
 have e1:(1:Int)=((1:Nat):Int):=rfl
 unfold K9h Kp9
 simp only
 rw [e0,e1]
 simp only [Kp3 h l0 ha,Kp4 h l1 ha,Kp4 h ha l1,Kp4 h l0 ha,Kp4 h ha l0,sLe h ha ha,bs,Kp7]
 generalize (pl s n 0 a == a)=b1
 generalize (ti s n 1 a == a)=b2
 generalize (ti s n a 1 == a)=b3
 generalize (ti s n 0 a == 0)=b4
 generalize (ti s n a 0 == 0)=b5
 generalize le s n a a=b6
 cases b1 <;> cases b2 <;> cases b3 <;> cases b4 <;> cases b5 <;> cases b6 <;> rfl
theorem Kpc {a b c:Nat} (ha:a < n) (hb:b < n) (hc:c < n):K9y (s,(a:Int),(b:Int),(c:Int))=some (Kpa s n a b c):=by
 unfold K9y Kpa
 simp only
 simp only [Kp3 h,Kp4 h,sLe h,Koy h,Koz h,ha,hb,hc,bs,Kp8]
 generalize e1:pl s n (pl s n a b) c=x1
 generalize e2:pl s n a (pl s n b c)=x2
 generalize e3:ti s n (ti s n a b) c=x3
 generalize e4:ti s n a (ti s n b c)=x4
 generalize ti s n a (pl s n b c)=x5
 generalize pl s n (ti s n a b) (ti s n a c)=x6
 generalize ti s n (pl s n a b) c=x7
 generalize pl s n (ti s n a c) (ti s n b c)=x8
 generalize le s n (pl s n a c) (pl s n b c)=y1
 generalize le s n (ti s n a c) (ti s n b c)=y2
 generalize le s n (ti s n c a) (ti s n c b)=y3
 generalize le s n a b=y4
 generalize le s n b c=y5
 generalize le s n a c=y6
 simp only [bne]
 generalize (x1 == x2)=b1
 generalize (x3 == x4)=b2
 generalize (x5 == x6)=b3
 generalize (x7 == x8)=b4
 cases b1 <;> cases b2 <;> cases b3 <;> cases b4 <;> first | rfl | (cases y4 <;> cases y5 <;> cases y6 <;> cases y1 <;> cases y2 <;> cases y3 <;> rfl)
theorem Kpd {a b c:Nat} (ha:a < n) (hb:b < n) (hc:c < n):Kfn (s,(a:Int),(b:Int),(c:Int))=some (Kpa s n a b c):=by
 unfold Kfn Kpa
 simp only
 simp only [Kp5 h,Kp6 h,iLe h,Koy h,Koz h,ha,hb,hc,bs,Kp8]
 generalize e1:pl s n (pl s n a b) c=x1
 generalize e2:pl s n a (pl s n b c)=x2
 generalize e3:ti s n (ti s n a b) c=x3
 generalize e4:ti s n a (ti s n b c)=x4
 generalize ti s n a (pl s n b c)=x5
 generalize pl s n (ti s n a b) (ti s n a c)=x6
 generalize ti s n (pl s n a b) c=x7
 generalize pl s n (ti s n a c) (ti s n b c)=x8
 generalize le s n (pl s n a c) (pl s n b c)=y1
 generalize le s n (ti s n a c) (ti s n b c)=y2
 generalize le s n (ti s n c a) (ti s n c b)=y3
 generalize le s n a b=y4
 generalize le s n b c=y5
 generalize le s n a c=y6
 simp only [bne]
 generalize (x1 == x2)=b1
 generalize (x3 == x4)=b2
 generalize (x5 == x6)=b3
 generalize (x7 == x8)=b4
 cases b1 <;> cases b2 <;> cases b3 <;> cases b4 <;> first | rfl | (cases y4 <;> cases y5 <;> cases y6 <;> cases y1 <;> cases y2 <;> cases y3 <;> rfl)
end
def Kpe (s:K00) (n a b g h:Nat):Bool:=!le s n a h || !le s n b h || le s n g h
def jok (s:K00) (n a b g:Nat):Bool:=le s n a g && le s n b g && (List.range' 0 n).all (Kpe s n a b g)
def Kpf (s:K00) (n a b:Nat):Int:=match (List.range' 0 n).find? (jok s n a b) with | some g=>(g:Int) | none=>-1
section
variable {s:K00} {n:Nat} (h:Tab s n)
include h
theorem Kpg {a b g:Nat} (ha:a < n) (hb:b < n) (hg:g < n):∀ (k m:Nat) (ok:Bool),m + k=n→K9l (s,(a:Int),(b:Int),(g:Int),ok,(m:Int))=some (ok && (List.range' m k).all (Kpe s n a b g)):=by
 have hhi:=h.hi
 intro k
 induction k with
 | zero =>
  intro m ok hm
  rw [K9l.eq_def]
  simp only
  rw [h.size,Kou (by omega)]
  simp [bs]
 | succ k ih =>
  intro m ok hm
  rw [K9l.eq_def]
  simp only
  rw [h.size,Kot (by omega),if_pos rfl,bs,sLe h ha (by omega),sLe h hb (by omega),sLe h hg (by omega)]
  cases ok with
  | false=>rfl
  | true =>
   rw [if_pos rfl]
   rw [List.range'_succ,List.all_cons]
   have ih:∀ ok,_:=fun ok=>ih (m + 1) ok (by omega)
   rw [Kos (by omega)]
   generalize ((m + 1:Nat):Int)=M at ih ⊢
   simp only [bs,Kpe]
   cases le s n a m <;> cases le s n b m <;> cases le s n g m <;> simp [bs,ih,Kpe]
theorem Kph {a b g:Nat} (ha:a < n) (hb:b < n) (hg:g < n):∀ (k m:Nat) (ok:Bool),m + k=n→Kfc (s,(a:Int),(b:Int),(g:Int),ok,(m:Int))=some (ok && (List.range' m k).all (Kpe s n a b g)):=by
 have hhi:=h.hi
 intro k
 induction k with
 | zero =>
  intro m ok hm
  rw [Kfc.eq_def]
  simp only
  rw [h.size,Kou (by omega)]
  simp [bs]
 | succ k ih =>
  intro m ok hm
  rw [Kfc.eq_def]
  simp only
  rw [h.size,Kot (by omega),if_pos rfl,iLe h ha (by omega),iLe h hb (by omega),iLe h hg (by omega)]
  rw [List.range'_succ,List.all_cons]
  have ih:∀ ok,_:=fun ok=>ih (m + 1) ok (by omega)
  rw [Kos (by omega)]
  generalize ((m + 1:Nat):Int)=M at ih ⊢
  simp only [bs,Kpe]
  cases ok <;> cases le s n a m <;> cases le s n b m <;> cases le s n g m <;> simp [bs,ih,Kpe]
theorem Kpi {a b:Nat} (ha:a < n) (hb:b < n):∀ (k g:Nat),g + k=n→K9p (s,(a:Int),(b:Int),(g:Int))=some (match (List.range' g k).find? (jok s n a b) with | some g=>.inr (g:Int) | none=>.inl ()):=by
 have hhi:=h.hi
 intro k
 induction k with
 | zero =>
  intro g hm
  rw [K9p.eq_def]
  simp only
  rw [h.size,Kou (by omega)]
  rfl
 | succ k ih =>
  intro g hm
  rw [K9p.eq_def]
  simp only
  rw [h.size,Kot (by omega),if_pos rfl,sLe h ha (by omega),sLe h hb (by omega)]
  have ih:=ih (g + 1) (by omega)
  rw [Kos (by omega),List.range'_succ,List.find?_cons]
  have hl:=fun ok=>Kpg h ha hb (g:=g) (by omega) n 0 ok (by omega)
  rw [show ((0:Nat):Int)=0 from rfl] at hl
  generalize ((g + 1:Nat):Int)=M at ih ⊢
  have hj:jok s n a b g=(le s n a g && le s n b g && (List.range' 0 n).all (Kpe s n a b g)):=rfl
  rw [hj]
  cases le s n a g <;> cases le s n b g <;> cases hq:(List.range' 0 n).all (Kpe s n a b g) <;> simp [bs,hl,hq,ih]
theorem Kpj {a b:Nat} (ha:a < n) (hb:b < n):∀ (k g:Nat),g + k=n→Kfh (s,(a:Int),(b:Int),(g:Int))=some (match (List.range' g k).find? (jok s n a b) with | some g=>.inr (g:Int) | none=>.inl ()):=by
 have hhi:=h.hi
 intro k
 induction k with
 | zero =>
  intro g hm
  rw [Kfh.eq_def]
  simp only
  rw [h.size,Kou (by omega)]
  rfl
 | succ k ih =>
  intro g hm
  rw [Kfh.eq_def]
  simp only
  rw [h.size,Kot (by omega),if_pos rfl,iLe h ha (by omega),iLe h hb (by omega)]
  have ih:=ih (g + 1) (by omega)
  rw [Kos (by omega),List.range'_succ,List.find?_cons]
  have hl:=fun ok=>Kph h ha hb (g:=g) (by omega) n 0 ok (by omega)
  rw [show ((0:Nat):Int)=0 from rfl] at hl
  generalize ((g + 1:Nat):Int)=M at ih ⊢
  have hj:jok s n a b g=(le s n a g && le s n b g && (List.range' 0 n).all (Kpe s n a b g)):=rfl
  rw [hj]
  cases le s n a g <;> cases le s n b g <;> cases hq:(List.range' 0 n).all (Kpe s n a b g) <;> simp [bs,hl,hq,ih]
theorem Kpk {a b:Nat} (ha:a < n) (hb:b < n):K9s (s,(a:Int),(b:Int))=some (Kpf s n a b):=by
 unfold K9s Kpf
 simp only
 have:=Kpi h ha hb n 0 (by omega)
 rw [show ((0:Nat):Int)=0 from rfl] at this
 rw [this,bs]
 cases (List.range' 0 n).find? (jok s n a b) <;> rfl
theorem Kpl {a b:Nat} (ha:a < n) (hb:b < n):Kfk (s,(a:Int),(b:Int))=some (Kpf s n a b):=by
 unfold Kfk Kpf
 simp only
 have:=Kpj h ha hb n 0 (by omega)
 rw [show ((0:Nat):Int)=0 from rfl] at this
 rw [this,bs]
 cases (List.range' 0 n).find? (jok s n a b) <;> rfl
def Kpm (s:K00) (n a b:Nat):Bool:=(pl s n a b == pl s n b a) && ((a == b) || !le s n a b || !le s n b a) && decide (Kpf s n a b ≥ 0)
omit h in
theorem Kpn (x:Int):decide (x < 0)=!decide (x ≥ 0):=by
 by_cases h:x < 0
 ·rw [decide_eq_true h,decide_eq_false (by omega)]; rfl
 ·rw [decide_eq_false h,decide_eq_true (by omega)]; rfl
theorem Kpo {a b:Nat} (ha:a < n) (hb:b < n):K9v (s,(a:Int),(b:Int))=some (Kpm s n a b):=by
 unfold K9v Kpm
 simp only
 rw [Kp3 h ha hb,Kp3 h hb ha,sLe h ha hb,sLe h hb ha,Kpk h ha hb]
 simp only [bs,Kp7]
 generalize (pl s n a b == pl s n b a)=b1
 generalize (a == b)=b2
 cases b1 <;> cases b2 <;> cases le s n a b <;> cases le s n b a <;> simp [bs]
end
def inB (x lo hi:Int):Bool:=decide (x ≥ lo) && decide (x ≤ hi)
theorem sIn (x lo hi:Int):K7w (x,lo,hi)=some (inB x lo hi):=by
 unfold K7w inB
 simp only
 cases decide (x ≥ lo) <;> simp [bs]
theorem iIn (x lo hi:Int):Kes (x,lo,hi)=some (inB x lo hi):=by
 unfold Kes inB
 simp only
 cases decide (x ≥ lo) <;> simp [bs]
def Kpp (s:K00) (n:Nat):Bool:=(List.range' 0 n).all fun a=>Kp9 s n a && (List.range' 0 n).all fun b=>Kpm s n a b && (List.range' 0 n).all fun c=>Kpa s n a b c
section
variable {s:K00} {n:Nat} (h:Tab s n)
include h
theorem Kpq {a b:Nat} (ha:a < n) (hb:b < n):∀ (k c:Nat),c + k=n→Ka2 (s,(a:Int),(b:Int),(c:Int))=some (if (List.range' c k).all (fun c=>Kpa s n a b c) then .inl () else .inr false):=by
 have hhi:=h.hi
 intro k
 induction k with
 | zero =>
  intro c hm
  rw [Ka2.eq_def]
  simp only
  rw [h.size,Kou (by omega)]
  rfl
 | succ k ih =>
  intro c hm
  rw [Ka2.eq_def]
  simp only
  rw [h.size,Kot (by omega),if_pos rfl,Kpc h ha hb (by omega),bs]
  have ih:=ih (c + 1) (by omega)
  rw [Kos (by omega),List.range'_succ,List.all_cons]
  generalize ((c + 1:Nat):Int)=M at ih ⊢
  generalize (List.range' (c + 1) k).all (fun c=>Kpa s n a b c)=r at ih ⊢
  cases Kpa s n a b c <;> cases r <;> simp [ih]
theorem Kpr {a b:Nat} (ha:a < n) (hb:b < n):∀ (k c:Nat),c + k=n→Kfv (s,(a:Int),(b:Int),(c:Int))=some (if (List.range' c k).all (fun c=>Kpa s n a b c) then .inl () else .inr false):=by
 have hhi:=h.hi
 intro k
 induction k with
 | zero =>
  intro c hm
  rw [Kfv.eq_def]
  simp only
  rw [h.size,Kou (by omega)]
  rfl
 | succ k ih =>
  intro c hm
  rw [Kfv.eq_def]
  simp only
  rw [h.size,Kot (by omega),if_pos rfl,Kpd h ha hb (by omega),bs]
  have ih:=ih (c + 1) (by omega)
  rw [Kos (by omega),List.range'_succ,List.all_cons]
  generalize ((c + 1:Nat):Int)=M at ih ⊢
  generalize (List.range' (c + 1) k).all (fun c=>Kpa s n a b c)=r at ih ⊢
  cases Kpa s n a b c <;> cases r <;> simp [ih]
theorem Kps {a:Nat} (ha:a < n):∀ (k b:Nat),b + k=n→Ka8 (s,(a:Int),(b:Int))=some (if (List.range' b k).all (fun b=>Kpm s n a b && (List.range' 0 n).all fun c=>Kpa s n a b c) then .inl () else .inr false):=by
 have hhi:=h.hi
 intro k
 induction k with
 | zero =>
  intro c hm
  rw [Ka8.eq_def]
  simp only
  rw [h.size,Kou (by omega)]
  rfl
 | succ k ih =>
  intro b hm
  rw [Ka8.eq_def]
  simp only
  have hl:=Kpq h ha (b:=b) (by omega) n 0 (by omega)
  rw [show ((0:Nat):Int)=0 from rfl] at hl
  rw [h.size,Kot (by omega),if_pos rfl,Kpo h ha (by omega),bs,hl]
  have ih:=ih (b + 1) (by omega)
  rw [Kos (by omega),List.range'_succ,List.all_cons]
  generalize ((b + 1:Nat):Int)=M at ih ⊢
  generalize (List.range' (b + 1) k).all (fun b=>Kpm s n a b && (List.range' 0 n).all fun c=>Kpa s n a b c)=r at ih ⊢
  cases Kpm s n a b <;> cases (List.range' 0 n).all (fun c=>Kpa s n a b c) <;> cases r <;> simp [ih,bs]
theorem Kpt {a:Nat} (ha:a < n):∀ (k b:Nat),b + k=n→Kg0 (s,(a:Int),(b:Int))=some (if (List.range' b k).all (fun b=>Kpm s n a b && (List.range' 0 n).all fun c=>Kpa s n a b c) then .inl () else .inr false):=by
 have hhi:=h.hi
 intro k
 induction k with
 | zero =>
  intro c hm
  rw [Kg0.eq_def]
  simp only
  rw [h.size,Kou (by omega)]
  rfl
 | succ k ih =>
  intro b hm
  have hb:b < n:=by omega
  rw [Kg0.eq_def]
  simp only
  have hl:=Kpr h ha (b:=b) (by omega) n 0 (by omega)
  rw [show ((0:Nat):Int)=0 from rfl] at hl
  rw [h.size,Kot (by omega),if_pos rfl,Kp5 h ha hb,Kp5 h hb ha,iLe h ha hb,iLe h hb ha,Kpl h ha hb,hl]
  have ih:=ih (b + 1) (by omega)
  rw [Kos (by omega),List.range'_succ,List.all_cons]
  generalize ((b + 1:Nat):Int)=M at ih ⊢
  generalize (List.range' (b + 1) k).all (fun b=>Kpm s n a b && (List.range' 0 n).all fun c=>Kpa s n a b c)=r at ih ⊢
  simp only [bs,Kp8,Kpn]
  cases h1:(pl s n a b == pl s n b a) <;> cases h2:(a == b) <;> cases h3:decide (Kpf s n a b ≥ 0) <;> cases h4:le s n a b <;> cases h5:le s n b a <;> cases h6:(List.range' 0 n).all (fun c=>Kpa s n a b c) <;> cases r <;> simp only [Kpm,bne,h1,h2,h3,h4,h5,h6,ih,bs,Bool.not_true,Bool.not_false,Bool.true_and,Bool.false_and,Bool.and_true,Bool.and_false,Bool.true_or,Bool.false_or,Bool.or_true,Bool.or_false,if_true,if_false,Bool.false_eq_true]
theorem Kpu:∀ (k a:Nat),a + k=n→Kac (s,(a:Int))=some (if (List.range' a k).all (fun a=>Kp9 s n a && (List.range' 0 n).all fun b=>Kpm s n a b && (List.range' 0 n).all fun c=>Kpa s n a b c) then .inl () else .inr false):=by
 have hhi:=h.hi
 intro k
 induction k with
 | zero =>
  intro c hm
  rw [Kac.eq_def]
  simp only
  rw [h.size,Kou (by omega)]
  rfl
 | succ k ih =>
  intro a hm
  have ha:a < n:=by omega
  rw [Kac.eq_def]
  simp only
  have hl:=Kps h ha n 0 (by omega)
  rw [show ((0:Nat):Int)=0 from rfl] at hl
  rw [h.size,Kot (by omega),if_pos rfl,Kpb h ha,bs,hl]
  have ih:=ih (a + 1) (by omega)
  rw [Kos (by omega),List.range'_succ,List.all_cons]
  generalize ((a + 1:Nat):Int)=M at ih ⊢
  generalize (List.range' (a + 1) k).all (fun a=>Kp9 s n a && (List.range' 0 n).all fun b=>Kpm s n a b && (List.range' 0 n).all fun c=>Kpa s n a b c)=r at ih ⊢
  cases Kp9 s n a <;> cases (List.range' 0 n).all (fun b=>Kpm s n a b && (List.range' 0 n).all fun c=>Kpa s n a b c) <;> cases r <;> simp [ih,bs]
theorem Kpv:∀ (k a:Nat),a + k=n→Kg4 (s,(a:Int))=some (if (List.range' a k).all (fun a=>Kp9 s n a && (List.range' 0 n).all fun b=>Kpm s n a b && (List.range' 0 n).all fun c=>Kpa s n a b c) then .inl () else .inr false):=by
 have hhi:=h.hi
 have l0:(0:Nat) < n:=by have:=h.lo; omega
 have l1:(1:Nat) < n:=by have:=h.lo; omega
 intro k
 induction k with
 | zero =>
  intro c hm
  rw [Kg4.eq_def]
  simp only
  rw [h.size,Kou (by omega)]
  rfl
 | succ k ih =>
  intro a hm
  have ha:a < n:=by omega
  rw [Kg4.eq_def]
  simp only
  have hl:=Kpt h ha n 0 (by omega)
  have q1:Key (s,0,(a:Int))=_:=Kp5 h l0 ha
  have q2:Kf1 (s,1,(a:Int))=_:=Kp6 h l1 ha
  have q3:Kf1 (s,(a:Int),1)=_:=Kp6 h ha l1
  have q4:Kf1 (s,0,(a:Int))=_:=Kp6 h l0 ha
  have q5:Kf1 (s,(a:Int),0)=_:=Kp6 h ha l0
  have z1:(((ti s n 0 a:Nat):Int) != 0)=(ti s n 0 a != 0):=Kp8 _ 0
  have z2:(((ti s n a 0:Nat):Int) != 0)=(ti s n a 0 != 0):=Kp8 _ 0
  rw [show ((0:Nat):Int)=0 from rfl] at hl
  rw [h.size,Kot (by omega),if_pos rfl,q1,q2,q3,q4,q5,iLe h ha ha,hl]
  have ih:=ih (a + 1) (by omega)
  rw [Kos (by omega),List.range'_succ,List.all_cons]
  generalize ((a + 1:Nat):Int)=M at ih ⊢
  generalize (List.range' (a + 1) k).all (fun a=>Kp9 s n a && (List.range' 0 n).all fun b=>Kpm s n a b && (List.range' 0 n).all fun c=>Kpa s n a b c)=r at ih ⊢
  simp only [bs,Kp8,z1,z2]
  cases h1:(pl s n 0 a == a) <;> cases h2:(ti s n 1 a == a) <;> cases h3:(ti s n a 1 == a) <;> cases h4:(ti s n 0 a == 0) <;> cases h5:(ti s n a 0 == 0) <;> cases h6:le s n a a <;> cases h7:(List.range' 0 n).all (fun b=>Kpm s n a b && (List.range' 0 n).all fun c=>Kpa s n a b c) <;> cases r <;> simp only [Kp9,bne,h1,h2,h3,h4,h5,h6,h7,ih,bs,Bool.not_true,Bool.not_false,Bool.true_and,Bool.false_and,Bool.and_true,Bool.and_false,if_true,if_false,Bool.false_eq_true]
end
theorem Kpw {α:Type} {l r:List α} {x:α} {i:Nat} (h:l.drop i=x :: r):i < l.length∧idx l (i:Int)=some x∧l.drop (i + 1)=r:=by
 have hi:i < l.length:=by
  rcases Nat.lt_or_ge i l.length with h' | h'
  ·exact h'
  ·rw [List.drop_eq_nil_of_le h'] at h; cases h
 have e:=List.drop_eq_getElem_cons hi
 rw [h] at e
 obtain ⟨e1,e2⟩:=List.cons.inj e
 exact ⟨hi,by rw [Kor hi,e1],e2.symm⟩
theorem Kpx {α:Type} {l:List α} {i:Nat} (h:l.drop i=[]):l.length ≤ i:=by
 rcases Nat.lt_or_ge i l.length with h' | h'
 ·rw [List.drop_eq_getElem_cons h'] at h; cases h
 ·exact h'
def Kpy (c:Int):Bool:=inB c 3 18 || c == 35
def Kpz (c:Int):Bool:=inB c 19 34 || c == 36
def Kq0 (c:Int):Int:=if c == 0 then 0 else if c == 1 || c == 2 || Kpy c then 2 else if Kpz c then 1 else -1
theorem Kq1 (c:Int):Kbl c=some (Kpy c):=by
 unfold Kbl Kpy
 simp only [sIn,bs]
 cases inB c 3 18 <;> rfl
theorem Kq2 (c:Int):Kbo c=some (Kpz c):=by
 unfold Kbo Kpz
 simp only [sIn,bs]
 cases inB c 19 34 <;> rfl
theorem Kq3 (c:Int):Kbr c=some (Kq0 c):=by
 unfold Kbr Kq0
 simp only [Kq1,Kq2,bs]
 cases c == 0 <;> cases c == 1 <;> cases c == 2 <;> cases Kpy c <;> cases Kpz c <;> rfl
theorem Kq4 (c:Int):(c=0∧Kq0 c=0)∨((c=1∨c=2∨(3 ≤ c∧c ≤ 18)∨c=35)∧Kq0 c=2)∨(((19 ≤ c∧c ≤ 34)∨c=36)∧Kq0 c=1)∨((c < 0∨36 < c)∧Kq0 c=-1):=by
 unfold Kq0 Kpy Kpz inB
 by_cases h0:c=0
 ·left; subst h0; exact ⟨rfl,rfl⟩
 ·right
  have e0:(c == 0)=false:=by simpa using h0
  by_cases h1:c=1∨c=2∨(3 ≤ c∧c ≤ 18)∨c=35
  ·left
   refine ⟨h1,?_⟩
   have:(c == 1 || c == 2 || (decide (c ≥ 3) && decide (c ≤ 18) || c == 35))=true:=by
    simp only [Bool.or_eq_true,Bool.and_eq_true,beq_iff_eq,decide_eq_true_eq]; omega
   rw [e0,this]; rfl
  ·right
   have q:(c == 1 || c == 2 || (decide (c ≥ 3) && decide (c ≤ 18) || c == 35))=false:=by
    rw [Bool.eq_false_iff]; intro h
    simp only [Bool.or_eq_true,Bool.and_eq_true,beq_iff_eq,decide_eq_true_eq] at h; omega
   rw [e0,q]
   by_cases h2:(19 ≤ c∧c ≤ 34)∨c=36
   ·left
    refine ⟨h2,?_⟩
    have:(decide (c ≥ 19) && decide (c ≤ 34) || c == 36)=true:=by
     simp only [Bool.or_eq_true,Bool.and_eq_true,beq_iff_eq,decide_eq_true_eq]; omega
    rw [this]; rfl
   ·right
    refine ⟨by omega,?_⟩
    have:(decide (c ≥ 19) && decide (c ≤ 34) || c == 36)=false:=by
     rw [Bool.eq_false_iff]; intro h
     simp only [Bool.or_eq_true,Bool.and_eq_true,beq_iff_eq,decide_eq_true_eq] at h; omega
    rw [this]; rfl
def Kq5 (c:Int):Int × Int :=
 if inB c 0 2 then (c,-1) else if inB c 3 18 then (3,c - 3) else if inB c 19 34 then (4,c - 19) else if c == 35 then (3,-1) else if c == 36 then (4,-1) else (5,-1)
theorem Kq6 (c:Int):Kgt c=some (Kq5 c):=by
 unfold Kgt Kq5
 simp only [iIn,bs]
 cases h1:inB c 0 2
 ·cases h2:inB c 3 18
  ·cases h3:inB c 19 34
   ·cases c == 35 <;> cases c == 36 <;> rfl
   ·simp only [inB,Bool.and_eq_true,decide_eq_true_eq] at h3
    simp only [Bool.false_eq_true,if_false,if_true]
    rw [Koq (by omega) (by omega)]
  ·simp only [inB,Bool.and_eq_true,decide_eq_true_eq] at h2
   simp only [Bool.false_eq_true,if_false,if_true]
   rw [Koq (by omega) (by omega)]
 ·rfl
theorem Kq7 (c:Int):(c=0∧Kq5 c=(0,-1))∨(c=1∧Kq5 c=(1,-1))∨(c=2∧Kq5 c=(2,-1))∨((3 ≤ c∧c ≤ 18)∧Kq5 c=(3,c - 3))∨(c=35∧Kq5 c=(3,-1)) ∨
  ((19 ≤ c∧c ≤ 34)∧Kq5 c=(4,c - 19))∨(c=36∧Kq5 c=(4,-1))∨((c < 0∨36 < c)∧Kq5 c=(5,-1)):=by
 have inT:∀ lo hi,lo ≤ c→c ≤ hi→inB c lo hi=true:=fun lo hi h1 h2=>by simp only [inB,Bool.and_eq_true,decide_eq_true_eq]; omega
 have inF:∀ lo hi,(c < lo∨hi < c)→inB c lo hi=false:=fun lo hi h=>by rw [Bool.eq_false_iff]; intro h'; simp only [inB,Bool.and_eq_true,decide_eq_true_eq] at h'; omega
 unfold Kq5
 by_cases h0:0 ≤ c∧c ≤ 2
 ·rw [inT 0 2 h0.1 h0.2]
  have:c=0∨c=1∨c=2:=by omega
  rcases this with rfl | rfl | rfl <;> simp
 ·rw [inF 0 2 (by omega)]
  by_cases h1:3 ≤ c∧c ≤ 18
  ·rw [inT 3 18 h1.1 h1.2]
   exact .inr (.inr (.inr (.inl ⟨h1,rfl⟩)))
  ·rw [inF 3 18 (by omega)]
   by_cases h2:19 ≤ c∧c ≤ 34
   ·rw [inT 19 34 h2.1 h2.2]
    exact .inr (.inr (.inr (.inr (.inr (.inl ⟨h2,rfl⟩)))))
   ·rw [inF 19 34 (by omega)]
    by_cases h3:c=35
    ·subst h3; simp
    ·by_cases h4:c=36
     ·subst h4; simp
     ·have e3:(c == 35)=false:=by simpa using h3
      have e4:(c == 36)=false:=by simpa using h4
      rw [e3,e4]
      refine .inr (.inr (.inr (.inr (.inr (.inr (.inr ⟨by omega,rfl⟩))))))
def skip:Nat→List Int→Option (List Int)
 | 0,l=>some l
 | _ + 1,[]=>none
 | m + 1,c :: l=>if Kq0 c=-1 then none else skip (m + (Kq0 c).toNat) l
theorem Kq8 (l:List Int):skip 0 l=some l:=by cases l <;> rfl
theorem Kq9 (m:Nat):skip (m + 1) []=none:=rfl
theorem Kqa (m:Nat) (c:Int) (l:List Int):skip (m + 1) (c :: l)=if Kq0 c=-1 then none else skip (m + (Kq0 c).toNat) l:=rfl
theorem Kqb (l:List Int):∀ (m k:Nat),skip (m + k) l=(skip m l).bind (skip k):=by
 induction l with
 | nil =>
  intro m k
  cases m with
  | zero=>rw [Nat.zero_add,Kq8]; rfl
  | succ m=>rw [show m + 1 + k=(m + k) + 1 by omega,Kq9,Kq9]; rfl
 | cons c l ih =>
  intro m k
  cases m with
  | zero=>rw [Nat.zero_add,Kq8]; rfl
  | succ m =>
   rw [show m + 1 + k=(m + k) + 1 by omega,Kqa,Kqa]
   by_cases h:Kq0 c=-1
   ·rw [if_pos h,if_pos h]; rfl
   ·rw [if_neg h,if_neg h,← ih]; congr 1; omega
theorem Kqc (l:List Int):∀ (m:Nat) (r:List Int),skip m l=some r→∃ p,l=p ++ r∧m ≤ p.length:=by
 induction l with
 | nil =>
  intro m r h
  cases m with
  | zero=>rw [Kq8] at h; cases h; exact ⟨[],rfl,Nat.le_refl _⟩
  | succ m=>rw [Kq9] at h; cases h
 | cons c l ih =>
  intro m r h
  cases m with
  | zero=>rw [Kq8] at h; cases h; exact ⟨[],rfl,Nat.le_refl _⟩
  | succ m =>
   rw [Kqa] at h
   by_cases hk:Kq0 c=-1
   ·rw [if_pos hk] at h; cases h
   ·rw [if_neg hk] at h
    obtain ⟨p,e,hp⟩:=ih _ _ h
    exact ⟨c :: p,by rw [e]; rfl,by simp; omega⟩
def Kqd (ty:List Int) (m i:Nat):Int:=match skip m (ty.drop i) with | some r=>((ty.length - r.length:Nat):Int) | none=>-1
theorem Kqe (ty:List Int) (hty:ty.length ≤ 1099511627776):∀ (l:List Int) (i m:Nat),ty.drop i=l→m ≤ 1099511627776 + 2 * i→∃ x,Kbv (ty,((m + 1:Nat):Int),(i:Int))=some x∧(match x with | .inl ()=>-1 | .inr r=>r)=Kqd ty (m + 1) i:=by
 intro l
 induction l with
 | nil =>
  intro i m hl hm
  rw [Kbv.eq_def]
  simp only
  rw [Kou (Kpx hl)]
  exact ⟨.inl (),rfl,by unfold Kqd; rw [hl,Kq9]⟩
 | cons c l ih =>
  intro i m hl hm
  obtain ⟨hi,hx,hd⟩:=Kpw hl
  have hi2:(i:Int) < 1099511627776:=by omega
  rw [Kbv.eq_def]
  simp only
  rw [Kot hi,if_pos rfl,hx,bs,Kq3,bs]
  have he:Kqd ty (m + 1) i=(match (if Kq0 c=-1 then none else skip (m + (Kq0 c).toNat) l) with | some r=>((ty.length - r.length:Nat):Int) | none=>-1):=by
   unfold Kqd; rw [hl,Kqa]
  rw [he]
  by_cases hk:Kq0 c=-1
  ·rw [if_pos hk,hk]
   exact ⟨.inr (-1),rfl,rfl⟩
  ·rw [if_neg hk]
   have hk0:0 ≤ Kq0 c∧Kq0 c ≤ 2:=by rcases Kq4 c with h | h | h | h <;> omega
   obtain ⟨k,hkk⟩:∃ k:Nat,Kq0 c=(k:Int):=⟨(Kq0 c).toNat,by omega⟩
   rw [decide_eq_false (by omega),if_neg (by decide),hkk,Int.toNat_natCast]
   rw [Koq (x:=((m + 1:Nat):Int) - 1) (by omega) (by omega),show ((m + 1:Nat):Int) - 1=(m:Int) by omega,Koq (x:=(m:Int) + (k:Int)) (by omega) (by omega),Kos (by omega)]
   by_cases h0:m + k=0
   ·rw [show ((m:Int) + (k:Int) == 0)=true by simp; omega,if_pos rfl,h0,Kq8]
    refine ⟨_,rfl,?_⟩
    have:l.length=ty.length - (i + 1):=by rw [← hd,List.length_drop]
    simp only
    omega
   ·rw [show ((m:Int) + (k:Int) == 0)=false by simp; omega,if_neg (by decide)]
    obtain ⟨q,hq⟩:∃ q,m + k=q + 1:=⟨m + k - 1,by omega⟩
    have:=ih (i + 1) q hd (by omega)
    rw [show (m:Int) + (k:Int)=((q + 1:Nat):Int) by omega]
    obtain ⟨x,h1,h2⟩:=this
    exact ⟨x,h1,by rw [h2,hq]; unfold Kqd; rw [hd]⟩
theorem Kqf (ty:List Int) (hty:ty.length ≤ 1099511627776) (i:Nat) (hi:i ≤ ty.length):Kby (ty,(i:Int))=some (Kqd ty 1 i):=by
 unfold Kby
 obtain ⟨x,h1,h2⟩:=Kqe ty hty _ i 0 rfl (by omega)
 simp only
 rw [show (1:Int)=((0 + 1:Nat):Int) from rfl,h1,bs]
 rw [← h2]
 cases x <;> rfl
theorem Kqg (ty:List Int) (i:Nat) (hi:i ≤ ty.length):Kqd ty 2 i=(if Kqd ty 1 i=-1 then -1 else Kqd ty 1 (Kqd ty 1 i).toNat):=by
 unfold Kqd
 rw [show 2=1 + 1 from rfl,Kqb]
 cases h:skip 1 (ty.drop i) with
 | none=>simp
 | some r =>
  obtain ⟨p,hp,hl⟩:=Kqc _ _ _ h
  have hlen:ty.length - i=p.length + r.length:=by rw [← List.length_drop,hp,List.length_append]
  have:ty.drop (ty.length - r.length)=r:=by
   have e:ty.drop (ty.length - r.length)=(ty.drop i).drop p.length:=by rw [List.drop_drop]; congr 1; omega
   rw [e,hp,List.drop_left]
  simp only [Option.bind_some]
  rw [if_neg (by omega),Int.toNat_natCast,this]
theorem Kqh (ty:List Int) (hty:ty.length ≤ 1099511627776):∀ (d i:Nat),ty.length - i=d→Kgw (ty,(i:Int))=some (Kqd ty 1 i):=by
 intro d
 induction d using Nat.strongRecOn with
 | ind d ih =>
  intro i hd
  rw [Kgw.eq_def]
  simp only
  rw [decide_eq_false (by omega:¬ (i:Int) < 0)]
  simp only [Bool.false_eq_true,if_false,bs]
  by_cases hi:i < ty.length
  ·rw [decide_eq_false (by omega),if_neg (by decide),Kor hi,bs,Kq6,bs]
   have hdr:=List.drop_eq_getElem_cons hi
   have he:∀ k:Nat,Kq0 ty[i]=(k:Int)→Kqd ty 1 i=Kqd ty k (i + 1):=fun k hk=>by
    unfold Kqd
    rw [hdr,show 1=0 + 1 from rfl,Kqa,hk,if_neg (by omega),Int.toNat_natCast,Nat.zero_add]
   have hn:Kq0 ty[i]=-1→Kqd ty 1 i=-1:=fun hk=>by
    unfold Kqd
    rw [hdr,show 1=0 + 1 from rfl,Kqa,if_pos hk]
   have i1:=ih (ty.length - (i + 1)) (by omega) (i + 1) rfl
   have hz:∀ i:Nat,i ≤ ty.length→Kqd ty 0 i=(i:Int):=fun i hi=>by unfold Kqd; rw [Kq8]; simp only [List.length_drop]; omega
   rw [Kos (by omega)]
   have two:Kq0 ty[i]=2→((Kgw (ty,((i + 1:Nat):Int))) >>= fun r_11_4=>(Kgw (ty,r_11_4)) >>= fun r_11_5=>some r_11_5)=some (Kqd ty 1 i):=fun hk=>by
    rw [i1,bs,he 2 hk,Kqg ty (i + 1) (by omega)]
    by_cases h1:Kqd ty 1 (i + 1)=-1
    ·rw [h1,if_pos rfl,Kgw.eq_def]; rfl
    ·rw [if_neg h1]
     obtain ⟨e,hee,hlo⟩:∃ e:Nat,Kqd ty 1 (i + 1)=(e:Int)∧i + 1 < e:=by
      unfold Kqd at h1 ⊢
      cases hs:skip 1 (ty.drop (i + 1)) with
      | none=>rw [hs] at h1; exact absurd rfl h1
      | some r =>
       obtain ⟨p,hp,hl⟩:=Kqc _ _ _ hs
       have hlen:ty.length - (i + 1)=p.length + r.length:=by rw [← List.length_drop,hp,List.length_append]
       exact ⟨_,rfl,by omega⟩
     rw [hee,Int.toNat_natCast,ih (ty.length - e) (by omega) e rfl,bs]
   rcases Kq7 ty[i] with ⟨h,e⟩ | ⟨h,e⟩ | ⟨h,e⟩ | ⟨h,e⟩ | ⟨h,e⟩ | ⟨h,e⟩ | ⟨h,e⟩ | ⟨h,e⟩ <;> rw [e] <;> simp only []
   ·have hk:Kq0 ty[i]=0:=by rcases Kq4 ty[i] with h | h | h | h <;> omega
    rw [if_pos (by rfl),he 0 hk,hz _ (by omega)]
   ·have hk:Kq0 ty[i]=2:=by rcases Kq4 ty[i] with h | h | h | h <;> omega
    exact two hk
   ·have hk:Kq0 ty[i]=2:=by rcases Kq4 ty[i] with h | h | h | h <;> omega
    exact two hk
   ·have hk:Kq0 ty[i]=2:=by rcases Kq4 ty[i] with h | h | h | h <;> omega
    exact two hk
   ·have hk:Kq0 ty[i]=2:=by rcases Kq4 ty[i] with h | h | h | h <;> omega
    exact two hk
   ·have hk:Kq0 ty[i]=1:=by rcases Kq4 ty[i] with h | h | h | h <;> omega
    rw [he 1 hk,if_neg (by decide),if_pos (by rfl),i1,bs]
   ·have hk:Kq0 ty[i]=1:=by rcases Kq4 ty[i] with h | h | h | h <;> omega
    rw [he 1 hk,if_neg (by decide),if_pos (by rfl),i1,bs]
   ·have hk:Kq0 ty[i]=-1:=by rcases Kq4 ty[i] with h | h | h | h <;> omega
    rw [hn hk]; rfl
  ·rw [decide_eq_true (by omega),if_pos rfl]
   unfold Kqd
   rw [List.drop_eq_nil_of_le (by omega),Kq9]
def wtB (ty:List Int):Bool:=decide (ty.length ≤ 40) && (skip 1 ty == some [])
theorem Kqi (ty:List Int):(Kqd ty 1 0 == (ty.length:Int))=(skip 1 ty == some []):=by
 unfold Kqd
 rw [List.drop_zero]
 cases h:skip 1 ty with
 | none=>simp
 | some r =>
  obtain ⟨p,hp,hl⟩:=Kqc _ _ _ h
  have hlen:ty.length=p.length + r.length:=by rw [hp,List.length_append]
  cases r with
  | nil=>simp
  | cons x xs =>
   simp only [List.length_cons] at hlen ⊢
   simp
   omega
theorem Kqj (ty:List Int) (hty:ty.length ≤ 1099511627776):Kji ty=some (wtB ty):=by
 unfold Kji wtB
 by_cases h:ty.length ≤ 40
 ·rw [decide_eq_true (by omega:(ty.length:Int) ≤ 40),if_pos rfl,show (0:Int)=((0:Nat):Int) from rfl,Kqf ty hty 0 (by omega),bs,Kqi,decide_eq_true h]
  cases hs:skip 1 ty == some [] with
  | false=>rfl
  | true =>
   have:0 < ty.length:=by
    rcases ty with _ | ⟨c,l⟩
    ·rw [show skip 1 []=none from rfl] at hs; cases hs
    ·simp
   rw [if_pos rfl,decide_eq_true (by omega:(ty.length:Int) > ((0:Nat):Int))]; rfl
 ·rw [decide_eq_false (by omega:¬ (ty.length:Int) ≤ 40),decide_eq_false h]; rfl
theorem Kqk (ty:List Int) (hty:ty.length ≤ 1099511627776):Kgz ty=some (wtB ty):=by
 unfold Kgz wtB
 rw [iIn,bs]
 by_cases h:ty.length ≤ 40
 ·rw [decide_eq_true h]
  by_cases h1:1 ≤ ty.length
  ·have:inB (ty.length:Int) 1 40=true:=by simp only [inB,Bool.and_eq_true,decide_eq_true_eq]; omega
   rw [this,if_pos rfl,show (0:Int)=((0:Nat):Int) from rfl,Kqh ty hty _ 0 rfl,bs,Kqi]; rfl
  ·have:inB (ty.length:Int) 1 40=false:=by rw [Bool.eq_false_iff]; intro h'; simp only [inB,Bool.and_eq_true,decide_eq_true_eq] at h'; omega
   have e:ty=[]:=List.length_eq_zero_iff.1 (by omega)
   rw [this,e]; rfl
 ·have:inB (ty.length:Int) 1 40=false:=by rw [Bool.eq_false_iff]; intro h'; simp only [inB,Bool.and_eq_true,decide_eq_true_eq] at h'; omega
  rw [this,decide_eq_false h]; rfl
def Kql (c:Int):Int:=if 35 ≤ c then -1 else if 19 ≤ c then c - 19 else c - 3
def Kqm (size:Int) (closed:Bool) (c:Int):Bool:=!(decide (Kq0 c > 0) && decide (c > 2) && (decide (Kql c ≥ size) || closed && decide (Kql c < 0)))
theorem Kqn {c:Int} (h:Kq0 c > 0):Kca c=some (Kql c):=by
 have:0 ≤ c∧c ≤ 36:=by rcases Kq4 c with h | h | h | h <;> omega
 unfold Kca Kql
 by_cases h1:35 ≤ c
 ·rw [decide_eq_true (by omega:c ≥ 35),if_pos rfl,if_pos h1]
 ·rw [decide_eq_false (by omega:¬ c ≥ 35),if_neg (by decide),if_neg h1]
  by_cases h2:19 ≤ c
  ·rw [decide_eq_true (by omega:c ≥ 19),if_pos rfl,if_pos h2,Koq (by omega) (by omega)]
  ·rw [decide_eq_false (by omega:¬ c ≥ 19),if_neg (by decide),if_neg h2,Koq (by omega) (by omega)]
theorem Kqo (ty:List Int) (hty:ty.length ≤ 1099511627776) (size:Int) (cl:Bool):∀ (l:List Int) (i:Nat),ty.drop i=l→Kjn (ty,size,cl,(i:Int))=some (if l.all (Kqm size cl) then .inl () else .inr false):=by
 intro l
 induction l with
 | nil =>
  intro i hl
  rw [Kjn.eq_def]
  simp only
  rw [Kou (Kpx hl)]; rfl
 | cons c l ih =>
  intro i hl
  obtain ⟨hi,hx,hd⟩:=Kpw hl
  rw [Kjn.eq_def]
  simp only
  rw [Kot hi,if_pos rfl,hx,bs,bs,Kq3,bs,Kos (by omega)]
  have ih:=ih (i + 1) hd
  generalize ((i + 1:Nat):Int)=M at ih ⊢
  rw [List.all_cons]
  unfold Kqm at ih ⊢
  by_cases hk:Kq0 c > 0
  ·simp only [bs,Kqn hk]
   rw [decide_eq_true hk]
   generalize Kql c=g at ih ⊢
   cases decide (c > 2) <;> cases decide (g ≥ size) <;> cases cl <;> cases decide (g < 0) <;> simp [bs,ih]
  ·rw [decide_eq_false hk]; simp [bs,ih]
theorem Kqp (ty:List Int) (hty:ty.length ≤ 1099511627776) (size:Int) (cl:Bool):Kjq (ty,size,cl)=some (ty.all (Kqm size cl)):=by
 unfold Kjq
 simp only
 rw [show (0:Int)=((0:Nat):Int) from rfl,Kqo ty hty size cl _ 0 rfl,List.drop_zero,bs]
 cases ty.all (Kqm size cl) <;> rfl
theorem Kqq {α β:Type} {a:Option α} {f:α→Option β} {x:α} (h:a=some x):(a >>= f)=f x:=by rw [h]; rfl
mutual
def tsz:K01→Nat
 | ⟨_,_,_,ks⟩=>1 + Kqr ks
def Kqr:List K01→Nat
 | []=>0
 | k :: ks=>tsz k + Kqr ks
end
mutual
def tms:K01→Nat
 | ⟨_,_,ty,ks⟩=>ty.length + ks.length + Kqs ks
def Kqs:List K01→Nat
 | []=>0
 | k :: ks=>tms k + Kqs ks
end
theorem Kqt (t:K01):tms t=t.fType.length + t.fKids.length + Kqs t.fKids:=by cases t; rw [tms]
theorem Kqu (t:K01):tsz t=1 + Kqr t.fKids:=by cases t; rw [tsz]
def Kqv (left n:Nat):Int:=if n ≤ left then ((left - n:Nat):Int) else -1
theorem Kqw {left n:Nat} (h:n ≤ left):Kqv left n=((left - n:Nat):Int):=if_pos h
theorem Kqx {left n:Nat} (h:¬ n ≤ left):Kqv left n=-1:=if_neg h
theorem Kqy (t:K01) (i:Int):Kk8 (t,-1,i)=some (-1):=by
 rw [Kk8.eq_def]
 simp only
 cases decide (i < (t.fKids.length:Int)) <;> rfl
mutual
theorem Kqz:∀ (t:K01) (left:Nat),tms t ≤ 1099511627776→left ≤ 1048576→Kk7 (t,(left:Int))=some (Kqv left (tsz t))
 | ⟨op,N,ty,ks⟩,left,ht,hl=>by
  rw [tms] at ht
  rw [Kk7.eq_def,tsz]
  simp only
  rcases left with _ | l
  ·rw [show wr (((0:Nat):Int) - 1)=-1 from Koq (by omega) (by omega),Kqy,bs,Kqx (by omega)]
  ·have h:=Kr0 ks ⟨op,N,ty,ks⟩ 0 l rfl (by simp only; omega) (by omega) (by omega)
   rw [Koq (by omega) (by omega),show ((l + 1:Nat):Int) - 1=(l:Int) by omega,show (0:Int)=((0:Nat):Int) from rfl,h,bs]
   unfold Kqv
   by_cases q:Kqr ks ≤ l
   ·rw [if_pos q,if_pos (by omega),show l + 1 - (1 + Kqr ks)=l - Kqr ks by omega]
   ·rw [if_neg q,if_neg (by omega)]
theorem Kr0:∀ (ks:List K01) (t:K01) (i left:Nat),t.fKids.drop i=ks→t.fKids.length ≤ 1099511627776→Kqs ks ≤ 1099511627776→left ≤ 1048576→Kk8 (t,(left:Int),(i:Int))=some (Kqv left (Kqr ks))
 | [],t,i,left,hd,hk,ht,hl=>by
  rw [Kk8.eq_def,Kqr]
  simp only
  rw [Kou (Kpx hd)]
  simp [bs,Kqv]
 | k :: ks,t,i,left,hd,hk,ht,hl=>by
  obtain ⟨hi,hx,hd'⟩:=Kpw hd
  rw [Kqs] at ht
  rw [Kk8.eq_def,Kqr]
  simp only
  rw [Kot hi,if_pos rfl,bs,decide_eq_true (by omega:((left:Nat):Int) ≥ 0),if_pos rfl,hx,bs,Kqz k left (by omega) hl,bs,Kos (by omega)]
  by_cases q:tsz k ≤ left
  ·rw [Kqw q,Kr0 ks t (i + 1) (left - tsz k) hd' hk (by omega) (by omega)]
   unfold Kqv
   by_cases q2:Kqr ks ≤ left - tsz k
   ·rw [if_pos q2,if_pos (by omega)]; congr 2; omega
   ·rw [if_neg q2,if_neg (by omega)]
  ·rw [Kqx q,Kqy,Kqx (by omega)]
end
def Kr1 (op:Int):Int:=if inB op 0 12 then ([0,0,2,3,2,2,1,1,3,1,2,1,2]:List Int).getD op.toNat 0 else -1
def Kr2 (op:Int):Bool:=op == 5 || op == 8 || op == 9 || op == 11 || op == 12
def Kr3 (op:Int):Bool:=op == 6 || op == 7 || op == 9
def Kr4 (op:Int):ByteArray:=([ByteArray.mk #[120],ByteArray.empty,ByteArray.mk #[97,100,100],ByteArray.mk #[105,102],ByteArray.mk #[112,97,105,114],ByteArray.mk #[115,112,108,105,116],ByteArray.mk #[108,101,102,116],
 ByteArray.mk #[114,105,103,104,116],ByteArray.mk #[99,97,115,101],ByteArray.mk #[102,117,110],ByteArray.mk #[97,112,112],ByteArray.mk #[98,111,120],ByteArray.mk #[111,112,101,110]]:List ByteArray).getD op.toNat ByteArray.empty
theorem Kr5 {op:Int} (h:inB op 0 12=true):op=0∨op=1∨op=2∨op=3∨op=4∨op=5∨op=6∨op=7∨op=8∨op=9∨op=10∨op=11∨op=12:=by
 simp only [inB,Bool.and_eq_true,decide_eq_true_eq] at h
 omega
theorem Kr6 (op:Int):Kke op=some (Kr1 op):=by
 unfold Kke Kr1
 rw [sIn,bs]
 cases h:inB op 0 12
 ·rfl
 ·rcases Kr5 h with rfl | rfl | rfl | rfl | rfl | rfl | rfl | rfl | rfl | rfl | rfl | rfl | rfl <;> rfl
theorem Kr7 (op:Int):Kkk op=some (Kr2 op):=by
 unfold Kkk Kr2
 cases op == 5 <;> cases op == 8 <;> cases op == 9 <;> cases op == 11 <;> rfl
theorem Kr8 (op:Int):Kkn op=some (Kr3 op):=by
 unfold Kkn Kr3
 cases op == 6 <;> cases op == 7 <;> rfl
def Kr9 (op:Int):K03 × Bool:=if inB op 0 12 then (K03.mk (Kr4 op) (Kr1 op) (Kr2 op) (Kr3 op),true) else (K03.mk ByteArray.empty 0 false false,false)
theorem Kra (op:Int):Kme op=some (Kr9 op):=by
 unfold Kme Kr9
 rw [iIn,bs]
 cases h:inB op 0 12
 ·rfl
 ·rcases Kr5 h with rfl | rfl | rfl | rfl | rfl | rfl | rfl | rfl | rfl | rfl | rfl | rfl | rfl <;> rfl
def Krb (op kid:Int):Nat:=if op == 5 && kid == 1 then 2 else if (op == 8 && decide (kid > 0)) || op == 9 || (op == 12 && kid == 1) then 1 else 0
theorem Krc (op kid:Int):Krb op kid ≤ 2:=by unfold Krb; split <;> (try split) <;> omega
theorem Krd (op kid:Int):Kcg (op,kid)=some ((Krb op kid:Nat):Int):=by
 unfold Kcg Krb
 simp only
 generalize (op == 5)=b1
 generalize (op == 8)=b2
 generalize (op == 9)=b3
 generalize (op == 12)=b4
 generalize (kid == 1)=b5
 generalize decide (kid > 0)=b6
 cases b1 <;> cases b2 <;> cases b3 <;> cases b4 <;> cases b5 <;> cases b6 <;> rfl
theorem Kre (op kid:Int):Kmk (op,kid)=some ((Krb op kid:Nat):Int):=by
 unfold Kmk Krb
 simp only
 generalize (op == 5)=b1
 generalize (op == 8)=b2
 generalize (op == 9)=b3
 generalize (op == 12)=b4
 generalize (kid == 1)=b5
 generalize decide (kid > 0)=b6
 cases b1 <;> cases b2 <;> cases b3 <;> cases b4 <;> cases b5 <;> cases b6 <;> rfl
def Krf (g:Int→Bool) (n:Int) (t:K01):Bool:=if t.fOp == 0 then inB t.fN 0 (n - 1) else if t.fOp == 1 then inB t.fN 0 2 else if Kr2 t.fOp then g t.fN else t.fN == 0
def Krg (y:List Int→Bool) (t:K01):Bool:=if Kr3 t.fOp then y t.fType else (t.fType.length:Int) == 0
def Krh (g:Int→Bool) (y:List Int→Bool) (n:Int) (t:K01):Bool:=inB t.fOp 0 12 && ((t.fKids.length:Int) == Kr1 t.fOp) && Krf g n t && Krg y t
mutual
def tOk (g:Int→Bool) (y:List Int→Bool):Nat→K01→Bool
 | n,⟨op,N,ty,ks⟩=>Krh g y (n:Int) ⟨op,N,ty,ks⟩ && Kri g y op n 0 ks
def Kri (g:Int→Bool) (y:List Int→Bool):Int→Nat→Nat→List K01→Bool
 | _,_,_,[]=>true
 | op,n,i,k :: ks=>tOk g y (n + Krb op (i:Int)) k && Kri g y op n (i + 1) ks
end
theorem Krj (g:Int→Bool) (y:List Int→Bool) (n:Nat) (t:K01):tOk g y n t=(Krh g y (n:Int) t && Kri g y t.fOp n 0 t.fKids):=by cases t; rw [tOk]
def gN (size:Int) (cl:Bool) (x:Int):Bool:=!(decide (x ≥ size) || decide (x < -1) || cl && decide (x < 0))
def yN (size:Int) (cl:Bool) (ty:List Int):Bool:=wtB ty && ty.all (Kqm size cl)
theorem Krk (t:K01) (n:Nat) (size:Int) (cl:Bool) (hty:t.fType.length ≤ 1099511627776) (hn:n ≤ 35184372088832):Kkt (t,(n:Int),size,cl)=some (Krh (gN size cl) (yN size cl) (n:Int) t):=by
 unfold Kkt Krh
 simp only
 rw [Kr6,bs]
 by_cases hk:(t.fKids.length:Int)=Kr1 t.fOp
 ·have hop:inB t.fOp 0 12=true:=by
   cases h:inB t.fOp 0 12
   ·unfold Kr1 at hk; rw [h] at hk; simp at hk
   ·rfl
  rw [show ((t.fKids.length:Int) != Kr1 t.fOp)=false by rw [hk]; exact Kov,if_neg (by decide),show ((t.fKids.length:Int) == Kr1 t.fOp)=true by rw [hk]; simp,hop]
  refine (Kqq (x:=if Krf (gN size cl) (n:Int) t then .inl () else .inr false) ?_).trans ?_
  ·unfold Krf gN
   rw [sIn,Koq (by omega) (by omega),sIn,Kr7]
   simp only [bs]
   generalize inB t.fN 0 ((n:Int) - 1)=b1
   generalize inB t.fN 0 2=b2
   generalize Kr2 t.fOp=b3
   rw [show (t.fN != 0)=!(t.fN == 0) from rfl]
   generalize (t.fN == 0)=b4
   generalize decide (t.fN ≥ size)=b5
   generalize decide (t.fN < -1)=b6
   generalize decide (t.fN < 0)=b7
   generalize (t.fOp == 0)=b8
   generalize (t.fOp == 1)=b9
   cases b8
   ·cases b9
    ·cases b3
     ·cases b4 <;> rfl
     ·cases b5 <;> cases b6 <;> cases cl <;> cases b7 <;> rfl
    ·cases b2 <;> rfl
   ·cases b1 <;> rfl
  ·cases Krf (gN size cl) (n:Int) t
   ·simp
   ·unfold Krg yN
    simp only [if_true]
    rw [Kr8,bs]
    cases Kr3 t.fOp
    ·simp
    ·simp only [if_true]
     rw [Kqj _ hty,Kqp _ hty]
     cases wtB t.fType <;> simp [bs]
 ·rw [show ((t.fKids.length:Int) != Kr1 t.fOp)=true by simpa using hk,if_pos rfl,show ((t.fKids.length:Int) == Kr1 t.fOp)=false by simpa using hk]
  simp
mutual
theorem Krl (size:Int) (cl:Bool):∀ (t:K01) (n:Nat),tms t ≤ 1099511627776→n + 2 * tms t ≤ 35184372088832→Kkx (t,(n:Int),size,cl)=some (tOk (gN size cl) (yN size cl) n t)
 | ⟨op,N,ty,ks⟩,n,ht,hn=>by
  rw [tms] at ht hn
  rw [Kkx.eq_def,tOk]
  simp only
  rw [Krk _ n size cl (by simp only; omega) (by omega),bs]
  cases hb:Krh (gN size cl) (yN size cl) (n:Int) ⟨op,N,ty,ks⟩
  ·rfl
  ·have h:=Krm size cl ks ⟨op,N,ty,ks⟩ n 0 rfl (by simp only; omega) (by omega) (by omega)
   rw [if_pos rfl,show (0:Int)=((0:Nat):Int) from rfl,h,bs]
   simp only
   cases Kri (gN size cl) (yN size cl) op n 0 ks <;> rfl
theorem Krm (size:Int) (cl:Bool):∀ (ks:List K01) (t:K01) (n i:Nat),t.fKids.drop i=ks→t.fKids.length ≤ 1099511627776→Kqs ks ≤ 1099511627776→n + 2 * (ks.length + Kqs ks) ≤ 35184372088832 →
  Kky (t,(n:Int),size,cl,(i:Int))=some (if Kri (gN size cl) (yN size cl) t.fOp n i ks then .inl () else .inr false)
 | [],t,n,i,hd,hk,ht,hn=>by
  rw [Kky.eq_def,Kri]
  simp only
  rw [Kou (Kpx hd)]; rfl
 | k :: ks,t,n,i,hd,hk,ht,hn=>by
  obtain ⟨hi,hx,hd'⟩:=Kpw hd
  rw [Kqs] at ht hn
  rw [List.length_cons] at hn
  have ha:=Krc t.fOp (i:Int)
  rw [Kky.eq_def,Kri]
  simp only
  rw [Kot hi,if_pos rfl,hx,bs,Krd,bs,Koq (by omega) (by omega),show (n:Int) + ((Krb t.fOp (i:Int):Nat):Int)=((n + Krb t.fOp (i:Int):Nat):Int) by omega]
  rw [Krl size cl k (n + Krb t.fOp (i:Int)) (by omega) (by omega),bs,Kos (by omega)]
  cases tOk (gN size cl) (yN size cl) (n + Krb t.fOp (i:Int)) k
  ·rfl
  ·rw [if_pos rfl,Krm size cl ks t n (i + 1) hd' hk (by omega) (by omega),Bool.true_and]
end
def Krn (ok:Bool) (nodes sz:Nat):Int:=if ok && decide (nodes + sz ≤ 400) then ((nodes + sz:Nat):Int) else 401
theorem iWs (x:Int):Kmh x=some (gN 16 false x):=by
 unfold Kmh
 rw [iIn,bs]
 congr 1
 unfold gN inB
 by_cases h1:x ≥ 16 <;> by_cases h2:x < -1 <;> simp [h1,h2] <;> omega
mutual
theorem Kro:∀ (t:K01) (n nodes:Nat),tms t ≤ 1099511627776→n + 2 * tms t ≤ 35184372088832→nodes ≤ 400→Kmp (t,(n:Int),(nodes:Int))=some (Krn (tOk (gN 16 false) wtB n t) nodes (tsz t))
 | ⟨op,N,ty,ks⟩,n,nodes,ht,hn,hd=>by
  rw [tms] at ht hn
  rw [Kmp.eq_def,tOk,tsz]
  simp only
  rw [Kra,bs]
  unfold Kr9
  cases hop:inB op 0 12
  ·simp [Krh,hop,Krn]
  ·simp only [if_true]
   rw [Kos (by omega)]
   by_cases h4:nodes + 1 ≤ 400
   ·rw [decide_eq_false (by omega:¬ ((nodes + 1:Nat):Int) > 400)]
    by_cases hk:(ks.length:Int)=Kr1 op
    ·rw [show ((ks.length:Int) != Kr1 op)=false by rw [hk]; exact Kov]
     simp only [Bool.false_eq_true,if_false,bs]
     refine (Kqq (x:=Krf (gN 16 false) (n:Int) ⟨op,N,ty,ks⟩) ?_).trans ?_
     ·unfold Krf
      simp only [iIn,Koq (x:=(n:Int) - 1) (by omega) (by omega),iWs,bs]
      cases op == 0 <;> cases op == 1 <;> cases Kr2 op <;> rfl
     refine (Kqq (x:=Krf (gN 16 false) (n:Int) ⟨op,N,ty,ks⟩ && Krg wtB ⟨op,N,ty,ks⟩) ?_).trans ?_
     ·unfold Krg
      simp only [Kqk ty (by omega),bs]
      cases Kr3 op <;> cases Krf (gN 16 false) (n:Int) ⟨op,N,ty,ks⟩ <;> rfl
     have e:Krh (gN 16 false) wtB (n:Int) ⟨op,N,ty,ks⟩=(Krf (gN 16 false) (n:Int) ⟨op,N,ty,ks⟩ && Krg wtB ⟨op,N,ty,ks⟩):=by
      unfold Krh
      simp only
      rw [hop,hk]; simp
     rw [e]
     cases Krf (gN 16 false) (n:Int) ⟨op,N,ty,ks⟩ && Krg wtB ⟨op,N,ty,ks⟩
     ·simp [Krn]
     ·have h:=Krp ks ⟨op,N,ty,ks⟩ n (nodes + 1) 0 rfl (by simp only; omega) (by omega) (by omega) h4
      rw [if_pos rfl,show (0:Int)=((0:Nat):Int) from rfl,h]
      simp only [Bool.true_and]
      unfold Krn
      rw [show nodes + (1 + Kqr ks)=nodes + 1 + Kqr ks by omega]
      cases Kri (gN 16 false) wtB op n 0 ks && decide (nodes + 1 + Kqr ks ≤ 400) <;> rfl
    ·rw [show ((ks.length:Int) != Kr1 op)=true by simpa using hk]
     have e:Krh (gN 16 false) wtB (n:Int) ⟨op,N,ty,ks⟩=false:=by
      unfold Krh
      simp only
      rw [show ((ks.length:Int) == Kr1 op)=false by simpa using hk]; simp
     simp [e,Krn]
   ·rw [decide_eq_true (by omega:((nodes + 1:Nat):Int) > 400)]
    have:¬ nodes + (1 + Kqr ks) ≤ 400:=by omega
    simp [Krn,this]
theorem Krp:∀ (ks:List K01) (t:K01) (n nodes i:Nat),t.fKids.drop i=ks→t.fKids.length ≤ 1099511627776→Kqs ks ≤ 1099511627776→n + 2 * (ks.length + Kqs ks) ≤ 35184372088832→nodes ≤ 400 →
  Kmq (t,(n:Int),(nodes:Int),(i:Int))=some (if Kri (gN 16 false) wtB t.fOp n i ks && decide (nodes + Kqr ks ≤ 400) then .inl ((nodes + Kqr ks:Nat):Int) else .inr 401)
 | [],t,n,nodes,i,hd,hk,ht,hn,h4=>by
  rw [Kmq.eq_def,Kri,Kqr]
  simp only
  rw [Kou (Kpx hd)]
  simp [h4]
 | k :: ks,t,n,nodes,i,hd,hk,ht,hn,h4=>by
  obtain ⟨hi,hx,hd'⟩:=Kpw hd
  rw [Kqs] at ht hn
  rw [List.length_cons] at hn
  have ha:=Krc t.fOp (i:Int)
  rw [Kmq.eq_def,Kri,Kqr]
  simp only
  rw [Kot hi,if_pos rfl,hx,bs,Kre,bs,Koq (by omega) (by omega),show (n:Int) + ((Krb t.fOp (i:Int):Nat):Int)=((n + Krb t.fOp (i:Int):Nat):Int) by omega]
  rw [Kro k (n + Krb t.fOp (i:Int)) nodes (by omega) (by omega) h4,bs,Kos (by omega)]
  unfold Krn
  cases tOk (gN 16 false) wtB (n + Krb t.fOp (i:Int)) k
  ·rfl
  ·by_cases q:nodes + tsz k ≤ 400
   ·rw [decide_eq_true q,Bool.true_and,if_pos rfl,decide_eq_false (by omega:¬ ((nodes + tsz k:Nat):Int) > 400),if_neg (by decide),Krp ks t n (nodes + tsz k) (i + 1) hd' hk (by omega) (by omega) q,Nat.add_assoc,Bool.true_and]
   ·rw [decide_eq_false q,decide_eq_false (by omega:¬ nodes + (tsz k + Kqr ks) ≤ 400)]
    simp
end
def wB (t:K01):Bool:=tOk (gN 16 false) wtB 8 t && decide (tsz t ≤ 400)
theorem Krq (t:K01) (ht:tms t ≤ 1099511627776):Kmw t=some (Krn (tOk (gN 16 false) wtB 8 t) 0 (tsz t)):=by
 unfold Kmw
 have:=Kro t 8 0 ht (by omega) (by omega)
 rw [show ((8:Nat):Int)=8 from rfl,show ((0:Nat):Int)=0 from rfl] at this
 rw [this,bs]
theorem Krr (t:K01) (ht:tms t ≤ 1099511627776):Kmz t=some (wB t):=by
 unfold Kmz
 rw [Krq t ht,bs]
 unfold Krn wB
 rw [Nat.zero_add]
 congr 1
 cases h:tOk (gN 16 false) wtB 8 t && decide (tsz t ≤ 400)
 ·rfl
 ·simp only [Bool.and_eq_true,decide_eq_true_eq] at h
  rw [if_pos rfl,decide_eq_true (by omega)]
mutual
def tln:K01→Prop
 | ⟨_,N,ty,ks⟩=>ty.length ≤ 9223372036854775807∧ks.length ≤ 9223372036854775807∧Krs ks∧(-9223372036854775808 ≤ N∧N ≤ 9223372036854775807)
def Krs:List K01→Prop
 | []=>True
 | k :: ks=>tln k∧Krs ks
end
theorem Krt (l:List Int):∀ (m:Nat),skip m l=some []→∀ c ∈ l,0 ≤ c∧c ≤ 36:=by
 induction l with
 | nil=>intro m h c hc; cases hc
 | cons x l ih =>
  intro m h c hc
  cases m with
  | zero=>rw [Kq8] at h; cases h
  | succ m =>
   rw [Kqa] at h
   by_cases hk:Kq0 x=-1
   ·rw [if_pos hk] at h; cases h
   ·rw [if_neg hk] at h
    rcases List.mem_cons.1 hc with rfl | hc
    ·rcases Kq4 c with q | q | q | q <;> omega
    ·exact ih _ h c hc
theorem Kru {ty:List Int} (h:wtB ty=true):∀ c ∈ ty,0 ≤ c∧c ≤ 36:=by
 unfold wtB at h
 rw [Bool.and_eq_true,beq_iff_eq] at h
 exact Krt ty 1 h.2
theorem Krv {ty:List Int} (h:wtB ty=true):ty.length ≤ 40:=by
 unfold wtB at h
 rw [Bool.and_eq_true,decide_eq_true_eq] at h
 exact h.1
theorem Krw {g:Int→Bool} {y:List Int→Bool} {n:Nat} {t:K01} (h:tOk g y n t=true):Krh g y (n:Int) t=true∧Kri g y t.fOp n 0 t.fKids=true:=by
 rw [Krj,Bool.and_eq_true] at h; exact h
theorem Krx {g:Int→Bool} {n:Int} {t:K01} (h:Krh g wtB n t=true):(∀ c ∈ t.fType,0 ≤ c∧c ≤ 36)∧t.fType.length ≤ 40:=by
 unfold Krh Krg at h
 rw [Bool.and_eq_true] at h
 have h:=h.2
 cases hq:Kr3 t.fOp
 ·rw [hq] at h
  simp at h
  rw [h]; simp
 ·rw [hq,if_pos rfl] at h
  exact ⟨Kru h,Krv h⟩
theorem Kry {n b:Nat} (h:n * b ≤ 140737488355328):Qe5 n b=some ():=by unfold Qe5 chk; rw [if_pos h]
theorem Krz {g:Int→Bool} {y:List Int→Bool} {n:Int} {t:K01} (h:Krh g y n t=true):inB t.fOp 0 12=true∧(t.fKids.length:Int)=Kr1 t.fOp:=by
 unfold Krh at h
 simp only [Bool.and_eq_true,beq_iff_eq] at h
 exact ⟨h.1.1.1,h.1.1.2⟩
theorem Ks0 (l:List Int) (h:l.length ≤ 1099511627776):Kc1 l=some l:=by
 unfold Kc1
 rw [Kry (by simp only [List.length_nil]; omega),bs]
theorem Ks1 (l:List Int) (h:l.length ≤ 1099511627776):Kif l=some l:=by
 unfold Kif
 rw [Kry (by simp only [List.length_nil]; omega),bs]
structure Ks2 (s:K00) (n:Nat):Prop where
 size:s.fSize=(n:Int)
 lo:2 ≤ n
 hi:n ≤ 16
 lp:s.fPlus.length=n * n
 lt:s.fTimes.length=n * n
 lb:s.fBelow.length=n * n
def Ks3 (s:K00) (n i:Nat):Bool:=inB (s.fPlus.getD i 0) 0 ((n:Int) - 1) && inB (s.fTimes.getD i 0) 0 ((n:Int) - 1)
section
variable {s:K00} {n:Nat} (h:Ks2 s n)
include h
theorem nn:n * n ≤ 256:=Nat.le_trans (Nat.mul_le_mul h.hi h.hi) (by decide)
theorem Ks4 {i:Nat} (hi:i < n * n):idx s.fPlus (i:Int)=some (s.fPlus.getD i 0):=by
 have hl:i < s.fPlus.length:=by rw [h.lp]; exact hi
 rw [Kor hl,List.getD_eq_getElem?_getD,List.getElem?_eq_getElem hl]; rfl
theorem Ks5 {i:Nat} (hi:i < n * n):idx s.fTimes (i:Int)=some (s.fTimes.getD i 0):=by
 have hl:i < s.fTimes.length:=by rw [h.lt]; exact hi
 rw [Kor hl,List.getD_eq_getElem?_getD,List.getElem?_eq_getElem hl]; rfl
theorem Ks6:wr (s.fSize - 1)=(n:Int) - 1:=by
 have:=h.lo; have:=h.hi
 rw [h.size,Koq (by omega) (by omega)]
theorem Ks7:∀ (k i:Nat),i + k=n * n→K8y (s,(i:Int))=some (if (List.range' i k).all (Ks3 s n) then .inl () else .inr false):=by
 have hn:=nn h
 intro k
 induction k with
 | zero =>
  intro i hm
  rw [K8y.eq_def]
  simp only
  rw [h.lp,Kou (by omega)]
  rfl
 | succ k ih =>
  intro i hm
  rw [K8y.eq_def]
  simp only
  rw [h.lp,Kot (by omega),if_pos rfl,Ks4 h (by omega),Ks5 h (by omega),Ks6 h]
  have ih:=ih (i + 1) (by omega)
  rw [Kos (by omega),List.range'_succ,List.all_cons]
  generalize ((i + 1:Nat):Int)=M at ih ⊢
  generalize (List.range' (i + 1) k).all (Ks3 s n)=r at ih ⊢
  simp only [bs,sIn]
  cases h1:inB (s.fPlus.getD i 0) 0 ((n:Int) - 1) <;> cases h2:inB (s.fTimes.getD i 0) 0 ((n:Int) - 1) <;> cases r <;> simp only [Ks3,h1,h2,ih,bs,Bool.not_true,Bool.not_false,Bool.true_and,Bool.false_and,Bool.and_true,Bool.and_false,if_true,if_false,Bool.false_eq_true]
theorem Ks8:∀ (k i:Nat),i + k=n * n→Kfr (s,(i:Int))=some (if (List.range' i k).all (Ks3 s n) then .inl () else .inr false):=by
 have hn:=nn h
 intro k
 induction k with
 | zero =>
  intro i hm
  rw [Kfr.eq_def]
  simp only
  rw [h.lp,Kou (by omega)]
  rfl
 | succ k ih =>
  intro i hm
  rw [Kfr.eq_def]
  simp only
  rw [h.lp,Kot (by omega),if_pos rfl,Ks4 h (by omega),Ks5 h (by omega)]
  have ih:=ih (i + 1) (by omega)
  rw [Kos (by omega),List.range'_succ,List.all_cons]
  generalize ((i + 1:Nat):Int)=M at ih ⊢
  generalize (List.range' (i + 1) k).all (Ks3 s n)=r at ih ⊢
  have hh:∀ x,Kev (s,x)=some (inB x 0 ((n:Int) - 1)):=fun x=>by
   unfold Kev
   simp only
   rw [Ks6 h,iIn,bs]
  simp only [bs,hh]
  cases h1:inB (s.fPlus.getD i 0) 0 ((n:Int) - 1) <;> cases h2:inB (s.fTimes.getD i 0) 0 ((n:Int) - 1) <;> cases r <;> simp only [Ks3,h1,h2,ih,bs,Bool.not_true,Bool.not_false,Bool.true_and,Bool.false_and,Bool.and_true,Bool.and_false,if_true,if_false,Bool.false_eq_true]
theorem Ks9 (he:(List.range' 0 (n * n)).all (Ks3 s n)=true):Tab s n:=by
 rw [List.all_eq_true] at he
 have hent:∀ i,i < n * n→Ks3 s n i=true:=fun i hi=>he i (by rw [List.mem_range'_1]; omega)
 refine ⟨h.size,h.lo,h.hi,h.lp,h.lt,h.lb,fun i hi=>?_,fun i hi=>?_⟩
 ·have:=hent i (by rw [← h.lp]; exact hi)
  simp only [Ks3,inB,Bool.and_eq_true,decide_eq_true_eq,List.getD_eq_getElem?_getD,List.getElem?_eq_getElem hi,Option.getD_some] at this
  omega
 ·have:=hent i (by rw [← h.lt]; exact hi)
  simp only [Ks3,inB,Bool.and_eq_true,decide_eq_true_eq,List.getD_eq_getElem?_getD,List.getElem?_eq_getElem hi,Option.getD_some] at this
  omega
end
def Ksa (s:K00):Bool:=inB s.fSize 2 16 && !((s.fPlus.length:Int) != (wr (s.fSize * s.fSize))) && !((s.fTimes.length:Int) != (wr (s.fSize * s.fSize))) && !((s.fBelow.length:Int) != (wr (s.fSize * s.fSize)))
theorem Ksb {s:K00} (h:Ksa s=true):Ks2 s s.fSize.toNat:=by
 unfold Ksa at h
 simp only [Bool.and_eq_true,Bool.not_eq_true',inB,decide_eq_true_eq,bne_eq_false_iff_eq] at h
 obtain ⟨⟨⟨⟨h1,h2⟩,h3⟩,h4⟩,h5⟩:=h
 obtain ⟨n,hn⟩:∃ n:Nat,s.fSize=(n:Int):=⟨s.fSize.toNat,by omega⟩
 rw [hn] at h1 h2 h3 h4 h5 ⊢
 have h256:n * n ≤ 256:=Nat.le_trans (Nat.mul_le_mul (by omega:n ≤ 16) (by omega:n ≤ 16)) (by decide)
 have e:(n:Int) * (n:Int)=((n * n:Nat):Int):=by simp
 rw [e] at h3 h4 h5
 generalize hm:n * n=m at *
 rw [Koq (by omega) (by omega)] at h3 h4 h5
 rw [Int.toNat_natCast]
 exact ⟨hn,by omega,by omega,by omega,by omega,by omega⟩
def Ksc (s:K00):Bool:=Ksa s && (List.range' 0 (s.fSize.toNat * s.fSize.toNat)).all (Ks3 s s.fSize.toNat) && Kpp s s.fSize.toNat
theorem Ksd {s:K00} (h:Ksc s=true):Tab s s.fSize.toNat:=by
 unfold Ksc at h
 simp only [Bool.and_eq_true] at h
 exact Ks9 (Ksb h.1.1) h.1.2
theorem Kse (s:K00):Kaf s=some (Ksc s):=by
 unfold Kaf K91 Ksc
 rw [sIn]
 cases hf:Ksa s with
 | false =>
  unfold Ksa at hf
  cases h1:inB s.fSize 2 16 <;> cases h2:((s.fPlus.length:Int) != (wr (s.fSize * s.fSize))) <;> cases h3:((s.fTimes.length:Int) != (wr (s.fSize * s.fSize))) <;> cases h4:((s.fBelow.length:Int) != (wr (s.fSize * s.fSize))) <;> simp_all [bs]
 | true =>
  have F:=Ksb hf
  have hl:=Ks7 F (s.fSize.toNat * s.fSize.toNat) 0 (by omega)
  rw [show ((0:Nat):Int)=0 from rfl] at hl
  unfold Ksa at hf
  simp only [Bool.and_eq_true,Bool.not_eq_true'] at hf
  obtain ⟨⟨⟨h1,h2⟩,h3⟩,h4⟩:=hf
  cases he:(List.range' 0 (s.fSize.toNat * s.fSize.toNat)).all (Ks3 s s.fSize.toNat) with
  | false=>rw [he] at hl; simp [bs,h1,h2,h3,h4,hl]
  | true =>
   have T:=Ks9 F he
   have hl2:=Kpu T s.fSize.toNat 0 (by omega)
   rw [show ((0:Nat):Int)=0 from rfl] at hl2
   rw [he] at hl
   have hm:(List.range' 0 s.fSize.toNat).all (fun a=>Kp9 s s.fSize.toNat a && (List.range' 0 s.fSize.toNat).all fun b=>Kpm s s.fSize.toNat a b && (List.range' 0 s.fSize.toNat).all fun c=>Kpa s s.fSize.toNat a b c)=Kpp s s.fSize.toNat:=rfl
   rw [hm] at hl2
   cases hs:Kpp s s.fSize.toNat <;> rw [hs] at hl2 <;> simp [bs,h1,h2,h3,h4,hl,hl2]
theorem Ksf (s:K00):Kg7 s=some (Ksc s):=by
 unfold Kg7 Ksc
 rw [iIn]
 cases hf:Ksa s with
 | false =>
  unfold Ksa at hf
  cases h1:inB s.fSize 2 16 <;> cases h2:((s.fPlus.length:Int) != (wr (s.fSize * s.fSize))) <;> cases h3:((s.fTimes.length:Int) != (wr (s.fSize * s.fSize))) <;> cases h4:((s.fBelow.length:Int) != (wr (s.fSize * s.fSize))) <;> simp_all [bs]
 | true =>
  have F:=Ksb hf
  have hl:=Ks8 F (s.fSize.toNat * s.fSize.toNat) 0 (by omega)
  rw [show ((0:Nat):Int)=0 from rfl] at hl
  unfold Ksa at hf
  simp only [Bool.and_eq_true,Bool.not_eq_true'] at hf
  obtain ⟨⟨⟨h1,h2⟩,h3⟩,h4⟩:=hf
  cases he:(List.range' 0 (s.fSize.toNat * s.fSize.toNat)).all (Ks3 s s.fSize.toNat) with
  | false=>rw [he] at hl; simp [bs,h1,h2,h3,h4,hl]
  | true =>
   have T:=Ks9 F he
   have hl2:=Kpv T s.fSize.toNat 0 (by omega)
   rw [show ((0:Nat):Int)=0 from rfl] at hl2
   rw [he] at hl
   have hm:(List.range' 0 s.fSize.toNat).all (fun a=>Kp9 s s.fSize.toNat a && (List.range' 0 s.fSize.toNat).all fun b=>Kpm s s.fSize.toNat a b && (List.range' 0 s.fSize.toNat).all fun c=>Kpa s s.fSize.toNat a b c)=Kpp s s.fSize.toNat:=rfl
   rw [hm] at hl2
   cases hs:Kpp s s.fSize.toNat <;> rw [hs] at hl2 <;> simp [bs,h1,h2,h3,h4,hl,hl2]
theorem Ksg {x:Int} {n:Nat} (h:inB x 0 ((n:Int) - 1)=true):x=((x.toNat:Nat):Int)∧x.toNat < n:=by
 simp only [inB,Bool.and_eq_true,decide_eq_true_eq] at h
 omega
section
variable {s:K00} {n:Nat} (h:Tab s n)
include h
theorem Ksh:wr (s.fSize - 1)=(n:Int) - 1:=by
 have:=h.lo; have:=h.hi
 rw [h.size,Koq (by omega) (by omega)]
end
inductive Ty where
 | num
 | bin (c:Int) (a b:Ty)
 | un (c:Int) (a:Ty)
namespace Ty
def code:Ty→List Int
 | num=>[0]
 | bin c a b=>c :: (a.code ++ b.code)
 | un c a=>c :: a.code
def ok:Ty→Prop
 | num=>True
 | bin c a b=>Kq0 c=2∧a.ok∧b.ok
 | un c a=>Kq0 c=1∧a.ok
def kids:Ty→List Ty
 | num=>[]
 | bin _ a b=>[a,b]
 | un _ a=>[a]
def hd:Ty→Int
 | num=>0
 | bin c _ _=>c
 | un c _=>c
end Ty
def Ksi:List Ty→List Int
 | []=>[]
 | t :: l=>t.code ++ Ksi l
theorem Ksj (T:Ty):T.code=T.hd :: Ksi T.kids:=by cases T <;> simp [Ty.code,Ty.hd,Ty.kids,Ksi]
theorem Ksk (T:Ty):1 ≤ T.code.length:=by rw [Ksj]; simp
theorem Ksl (T:Ty):∀ (m:Nat) (l:List Int),T.ok→skip (m + 1) (T.code ++ l)=skip m l:=by
 induction T with
 | num =>
  intro m l _
  rw [Ty.code,List.singleton_append,Kqa,show Kq0 0=0 from rfl,if_neg (by decide)]; rfl
 | bin c a b iha ihb =>
  intro m l h
  rw [Ty.code,List.cons_append,Kqa,h.1,if_neg (by decide),List.append_assoc,show m + (2:Int).toNat=(m + 1) + 1 from rfl,iha _ _ h.2.1,ihb _ _ h.2.2]
 | un c a ih =>
  intro m l h
  rw [Ty.code,List.cons_append,Kqa,h.1,if_neg (by decide),show m + (1:Int).toNat=m + 1 from rfl,ih _ _ h.2]
theorem Ksm (l:List Int):∀ (m:Nat) (r:List Int),skip m l=some r→∃ Ts:List Ty,Ts.length=m∧(∀ T ∈ Ts,T.ok)∧l=Ksi Ts ++ r:=by
 induction l with
 | nil =>
  intro m r h
  cases m with
  | zero=>rw [Kq8] at h; cases h; exact ⟨[],rfl,fun _ h=>(by cases h),rfl⟩
  | succ m=>rw [Kq9] at h; cases h
 | cons c l ih =>
  intro m r h
  cases m with
  | zero=>rw [Kq8] at h; cases h; exact ⟨[],rfl,fun _ h=>(by cases h),rfl⟩
  | succ m =>
   rw [Kqa] at h
   by_cases hk:Kq0 c=-1
   ·rw [if_pos hk] at h; cases h
   ·rw [if_neg hk] at h
    obtain ⟨Ts,h1,h2,h3⟩:=ih _ _ h
    rcases Kq4 c with ⟨q,e⟩ | ⟨q,e⟩ | ⟨q,e⟩ | ⟨q,e⟩
    ·subst q
     rw [e] at h1
     exact ⟨.num :: Ts,by simpa using h1,fun T hT=>by rcases List.mem_cons.1 hT with rfl | hT; exact trivial; exact h2 T hT,by rw [h3]; rfl⟩
    ·rw [e] at h1
     match Ts,h1 with
     | a :: b :: Ts,h1 =>
      refine ⟨.bin c a b :: Ts,by simpa using h1,fun T hT=>?_,by rw [h3]; simp [Ksi,Ty.code]⟩
      rcases List.mem_cons.1 hT with rfl | hT
      ·exact ⟨e,h2 a List.mem_cons_self,h2 b (List.mem_cons_of_mem _ List.mem_cons_self)⟩
      ·exact h2 T (List.mem_cons_of_mem _ (List.mem_cons_of_mem _ hT))
     | [_],h1=>exact absurd h1 (by simp)
     | [],h1=>exact absurd h1 (by simp)
    ·rw [e] at h1
     match Ts,h1 with
     | a :: Ts,h1 =>
      refine ⟨.un c a :: Ts,by simpa using h1,fun T hT=>?_,by rw [h3]; simp [Ksi,Ty.code]⟩
      rcases List.mem_cons.1 hT with rfl | hT
      ·exact ⟨e,h2 a List.mem_cons_self⟩
      ·exact h2 T (List.mem_cons_of_mem _ hT)
     | [],h1=>exact absurd h1 (by simp)
    ·exact absurd e hk
theorem Ksn {ty:List Int} (h:wtB ty=true):∃ T:Ty,T.ok∧ty=T.code∧ty.length ≤ 40:=by
 have hl:=Krv h
 unfold wtB at h
 rw [Bool.and_eq_true,beq_iff_eq] at h
 obtain ⟨Ts,h1,h2,h3⟩:=Ksm _ _ _ h.2
 match Ts,h1 with
 | [T],_=>exact ⟨T,h2 T List.mem_cons_self,by rw [h3]; simp [Ksi],hl⟩
theorem Kso {T:Ty} (h:T.ok) (hl:T.code.length ≤ 40):wtB T.code=true:=by
 unfold wtB
 have:=Ksl T 0 [] h
 rw [List.append_nil,Kq8] at this
 rw [decide_eq_true hl,show (1:Nat)=0 + 1 from rfl,this]; rfl
theorem Ksp {T:Ty} (h:T.ok):∀ K ∈ T.kids,K.ok:=by
 intro K hK
 cases T with
 | num=>cases hK
 | bin c a b=>rcases List.mem_cons.1 hK with rfl | hK; exact h.2.1; rw [List.mem_singleton.1 hK]; exact h.2.2
 | un c a=>rw [List.mem_singleton.1 hK]; exact h.2
theorem Ksq {pre:List Int} {T:Ty} {post:List Int} (h:T.ok):Kqd (pre ++ (T.code ++ post)) 1 pre.length=((pre.length + T.code.length:Nat):Int):=by
 unfold Kqd
 rw [List.drop_left,show (1:Nat)=0 + 1 from rfl,Ksl T 0 post h,Kq8]
 simp only [List.length_append]
 omega
theorem Ksr {α:Type} (p m q:List α) (mx:Option Int) (hmx:mx=none∨mx=some ((p.length + m.length:Nat):Int)):cut (p ++ (m ++ q)) (some (p.length:Int)) (some ((p.length + m.length:Nat):Int)) mx=some m:=by
 unfold cut
 have e:((p ++ (m ++ q)).take (p.length + m.length)).drop p.length=m:=by
  rw [← List.append_assoc,← List.length_append,List.take_left,List.drop_left]
 rw [if_pos]
 ·simp only [Option.getD_some,Int.toNat_natCast,e]
 ·rcases hmx with rfl | rfl <;> simp only [Option.getD_some,Option.getD_none,List.length_append] <;> omega
theorem Kss {α:Type} (p q:List α):cut (p ++ q) (some (p.length:Int)) none none=some q:=by
 unfold cut
 rw [if_pos]
 ·simp only [Option.getD_some,Option.getD_none,Int.toNat_natCast,List.take_length,List.drop_left]
 ·simp only [Option.getD_some,Option.getD_none,List.length_append]; omega
theorem Kst (Ks:List Ty):∀ (pre:List Int) (out:List (List Int)),(∀ K ∈ Ks,K.ok)→(pre ++ Ksi Ks).length ≤ 1099511627776→out.length + Ks.length ≤ 1099511627776→Kht (pre ++ Ksi Ks,out,(pre.length:Int))=some (out ++ Ks.map Ty.code):=by
 induction Ks with
 | nil =>
  intro pre out hk hl ho
  rw [show Ksi []=[] from rfl,List.append_nil,Kht.eq_def]
  simp only
  rw [Kou (Nat.le_refl _)]; simp
 | cons K Ks ih =>
  intro pre out hk hl ho
  have hK:=hk K List.mem_cons_self
  have hp:=Ksk K
  rw [show Ksi (K :: Ks)=K.code ++ Ksi Ks from rfl] at hl ⊢
  rw [List.length_cons] at ho
  rw [Kht.eq_def]
  simp only
  rw [Kot (by simp only [List.length_append]; omega),if_pos rfl,Kqh _ hl _ pre.length rfl,Ksq hK,bs,Ksr _ _ _ _ (.inr rfl),bs,Kry (by simp only [List.length_singleton]; omega),bs]
  have:=ih (pre ++ K.code) (out ++ [K.code]) (fun K hK=>hk K (List.mem_cons_of_mem _ hK)) (by rw [List.append_assoc]; exact hl) (by simp; omega)
  rw [List.append_assoc,List.length_append] at this
  rw [this,List.map_cons,List.append_assoc]; rfl
theorem Ksu {T:Ty} (h:T.ok) (hl:T.code.length ≤ 1048576):Khw T.code=some (T.kids.map Ty.code):=by
 unfold Khw
 have hk:T.kids.length ≤ 2:=by cases T <;> simp [Ty.kids]
 have e:[T.hd] ++ Ksi T.kids=T.code:=(Ksj T).symm
 have:=Kst T.kids [T.hd] [] (Ksp h) (by rw [e]; omega) (by simp only [List.length_nil]; omega)
 rw [e] at this
 rw [show (1:Int)=(([T.hd].length:Nat):Int) from rfl,this,bs]; rfl
theorem Ksv {c:Int} {a:Ty} {r:List Int} (ha:a.ok) (hl:(c :: (a.code ++ r)).length ≤ 1099511627776):Kc4 (c :: (a.code ++ r),0)=some a.code:=by
 unfold Kc4
 simp only
 have e:=Ksq (pre:=[c]) (post:=r) ha
 have h1:=Kqf (c :: (a.code ++ r)) hl 1 (by simp)
 rw [show (((1:Nat)):Int)=1 from rfl] at h1
 rw [List.length_singleton] at e
 have e':Kqd (c :: (a.code ++ r)) 1 1=((1 + a.code.length:Nat):Int):=e
 rw [h1,bs,e',if_pos (by rfl)]
 have h2:=Ksr [c] a.code r none (.inl rfl)
 rw [List.length_singleton] at h2
 have h2':cut (c :: (a.code ++ r)) (some 1) (some ((1 + a.code.length:Nat):Int)) none=some a.code:=h2
 simp only [List.length_cons,List.length_append] at hl
 rw [h2',bs,Ks0 _ (by omega),bs]
theorem Ksw {c:Int} {a:Ty} {r:List Int} (ha:a.ok) (hl:(c :: (a.code ++ r)).length ≤ 1099511627776):Kc4 (c :: (a.code ++ r),1)=some r:=by
 unfold Kc4
 simp only
 have e:=Ksq (pre:=[c]) (post:=r) ha
 have h1:=Kqf (c :: (a.code ++ r)) hl 1 (by simp)
 rw [show (((1:Nat)):Int)=1 from rfl] at h1
 rw [List.length_singleton] at e
 have e':Kqd (c :: (a.code ++ r)) 1 1=((1 + a.code.length:Nat):Int):=e
 rw [h1,bs,e',if_neg (by decide)]
 have h2:=Kss (c :: a.code) r
 rw [List.length_cons,List.cons_append,Nat.add_comm] at h2
 simp only [List.length_cons,List.length_append] at hl
 rw [h2,bs,Ks0 _ (by omega),bs]
def Ty.dat:Ty→Prop
 | .num=>True
 | .bin c a b=>(c=1∨c=2)∧a.dat∧b.dat
 | .un _ a=>a.dat
def Ksx (ty:List Int):Bool:=ty.all fun c=>!Kpy c
theorem Ksy (ty:List Int) (hty:ty.length ≤ 1099511627776):∀ (l:List Int) (i:Nat),ty.drop i=l→Kjx (ty,(i:Int))=some (if l.all (fun c=>!Kpy c) then .inl () else .inr false):=by
 intro l
 induction l with
 | nil =>
  intro i hd
  rw [Kjx.eq_def]
  simp only
  rw [Kou (Kpx hd)]; rfl
 | cons c l ih =>
  intro i hd
  obtain ⟨hi,hx,hd'⟩:=Kpw hd
  rw [Kjx.eq_def]
  simp only
  rw [Kot hi,if_pos rfl,hx,bs,Kq1,bs,Kos (by omega),ih (i + 1) hd',List.all_cons]
  cases Kpy c <;> simp
theorem Ksz (ty:List Int) (hty:ty.length ≤ 1099511627776):Kk0 ty=some (Ksx ty):=by
 unfold Kk0 Ksx
 rw [show (0:Int)=((0:Nat):Int) from rfl,Ksy ty hty _ 0 rfl,List.drop_zero,bs]
 cases ty.all (fun c=>!Kpy c) <;> rfl
theorem Kt0 (c:Int):((Kq5 c).1 == 3)=Kpy c:=by
 unfold Kpy inB
 rcases Kq7 c with ⟨h,e⟩ | ⟨h,e⟩ | ⟨h,e⟩ | ⟨h,e⟩ | ⟨h,e⟩ | ⟨h,e⟩ | ⟨h,e⟩ | ⟨h,e⟩ <;> rw [e] <;> (first | (subst h; rfl) | skip)
 ·rw [decide_eq_true (by omega:c ≥ 3),decide_eq_true (by omega:c ≤ 18)]; rfl
 ·rw [decide_eq_false (by omega:¬ c ≤ 18),beq_eq_false_iff_ne.2 (by omega:c ≠ 35)]; simp
 ·have:¬ (c ≥ 3∧c ≤ 18):=by omega
  rw [beq_eq_false_iff_ne.2 (by omega:c ≠ 35)]
  by_cases h3:c ≥ 3
  ·rw [decide_eq_false (by omega:¬ c ≤ 18)]; simp
  ·rw [decide_eq_false h3]; simp
theorem Kt1 (c:Int):Kh9 c=some (Kpy c):=by
 unfold Kh9
 rw [Kq6,bs]
 have:=Kt0 c
 revert this
 rcases Kq5 c with ⟨a,b⟩
 intro this
 simp only at this ⊢
 rw [this]
theorem Kt2 (ty:List Int) (hty:ty.length ≤ 1099511627776):∀ (l:List Int) (i:Nat),ty.drop i=l→∃ r,Khd (ty,(i:Int))=some r∧(match r with | .inl _=>l.all (fun c=>!Kpy c)=true | .inr m=>l.all (fun c=>!Kpy c)=false∧0 ≤ m):=by
 intro l
 induction l with
 | nil =>
  intro i hd
  rw [Khd.eq_def]
  simp only
  rw [Kou (Kpx hd)]
  exact ⟨_,rfl,rfl⟩
 | cons c l ih =>
  intro i hd
  obtain ⟨hi,hx,hd'⟩:=Kpw hd
  rw [Khd.eq_def]
  simp only
  rw [Kot hi,if_pos rfl,hx,bs,Kt1,bs,Kos (by omega),List.all_cons]
  cases Kpy c
  ·obtain ⟨r,h1,h2⟩:=ih (i + 1) hd'
   exact ⟨r,h1,by simpa using h2⟩
  ·exact ⟨.inr (i:Int),rfl,by simp⟩
theorem Kt3 (ty:List Int) (hty:ty.length ≤ 1099511627776):Khj ty=some (!Ksx ty):=by
 unfold Khj Khg Ksx
 obtain ⟨r,h1,h2⟩:=Kt2 ty hty _ 0 rfl
 rw [List.drop_zero] at h2
 rw [show (0:Int)=((0:Nat):Int) from rfl,h1,bs]
 cases r with
 | inl u=>simp only at h2; rw [h2]; rfl
 | inr m=>simp only at h2; rw [h2.1]; simp [bs,h2.2]
def Kt4 (s:K00) (g:Int):Bool:=inB g 0 (wr (s.fSize - 1))
theorem Kt5 (s:K00) (g:Int):Kev (s,g)=some (Kt4 s g):=by
 unfold Kev Kt4
 simp only
 rw [iIn,bs]
def Kt6 (s:K00) (c:Int):Bool:=!(((Kq5 c).1 == 3 || (Kq5 c).1 == 4) && !Kt4 s (Kq5 c).2)
def Kt7 (s:K00) (ty:List Int):Bool:=wtB ty && ty.all (Kt6 s)
theorem Kt8 (s:K00) (ty:List Int) (hty:ty.length ≤ 1099511627776):∀ (l:List Int) (i:Nat),ty.drop i=l→Kh3 (s,ty,(i:Int))=some (if l.all (Kt6 s) then .inl () else .inr false):=by
 intro l
 induction l with
 | nil =>
  intro i hd
  rw [Kh3.eq_def]
  simp only
  rw [Kou (Kpx hd)]; rfl
 | cons c l ih =>
  intro i hd
  obtain ⟨hi,hx,hd'⟩:=Kpw hd
  rw [Kh3.eq_def]
  simp only
  rw [Kot hi,if_pos rfl,hx,bs,Kq6,bs,Kos (by omega),ih (i + 1) hd',List.all_cons]
  unfold Kt6
  rcases Kq5 c with ⟨a,b⟩
  simp only [Kt5,bs]
  cases a == 3 <;> cases a == 4 <;> cases Kt4 s b <;> simp [bs]
theorem Kt9 (s:K00) (ty:List Int) (hty:ty.length ≤ 1099511627776):Kh6 (s,ty)=some (Kt7 s ty):=by
 unfold Kh6 Kt7
 simp only
 rw [Kqk ty hty,bs]
 cases wtB ty
 ·rfl
 ·rw [if_pos rfl,show (0:Int)=((0:Nat):Int) from rfl,Kt8 s ty hty _ 0 rfl,List.drop_zero,bs]
  cases ty.all (Kt6 s) <;> rfl
theorem Kta {s:K00} {n:Nat} (h:Tab s n) (g:Int):Kt4 s g=inB g 0 ((n:Int) - 1):=by
 unfold Kt4; rw [Ksh h]
theorem Ktb {s:K00} {n:Nat} (h:Tab s n) {c:Int}:Kt6 s c=Kqm s.fSize true c:=by
 unfold Kt6 Kqm Kql
 have hn:=h.lo
 rw [Kta h,h.size]
 rcases Kq7 c with ⟨q,e⟩ | ⟨q,e⟩ | ⟨q,e⟩ | ⟨q,e⟩ | ⟨q,e⟩ | ⟨q,e⟩ | ⟨q,e⟩ | ⟨q,e⟩ <;> rw [e]
 ·subst q; rfl
 ·subst q; rfl
 ·subst q; rfl
 ·have hk:Kq0 c=2:=by rcases Kq4 c with h | h | h | h <;> omega
  rw [hk,if_neg (by omega),if_neg (by omega),decide_eq_true (by omega:c > 2)]
  unfold inB
  rw [decide_eq_true (by omega:c - 3 ≥ 0),decide_eq_false (by omega:¬ c - 3 < 0)]
  by_cases hc:c - 3 ≤ (n:Int) - 1
  ·rw [decide_eq_true hc,decide_eq_false (by omega:¬ c - 3 ≥ (n:Int))]; rfl
  ·rw [decide_eq_false hc,decide_eq_true (by omega:c - 3 ≥ (n:Int))]; rfl
 ·subst q; unfold inB; simp [Kq0,Kpy,Kpz,inB]
 ·have hk:Kq0 c=1:=by rcases Kq4 c with h | h | h | h <;> omega
  rw [hk,if_neg (by omega),if_pos (by omega),decide_eq_true (by omega:c > 2)]
  unfold inB
  rw [decide_eq_true (by omega:c - 19 ≥ 0),decide_eq_false (by omega:¬ c - 19 < 0)]
  by_cases hc:c - 19 ≤ (n:Int) - 1
  ·rw [decide_eq_true hc,decide_eq_false (by omega:¬ c - 19 ≥ (n:Int))]; rfl
  ·rw [decide_eq_false hc,decide_eq_true (by omega:c - 19 ≥ (n:Int))]; rfl
 ·subst q; unfold inB; simp [Kq0,Kpy,Kpz,inB]
 ·have hk:Kq0 c=-1:=by rcases Kq4 c with h | h | h | h <;> omega
  rw [hk]; simp
theorem Ktc {s:K00} {n:Nat} (h:Tab s n) (ty:List Int):Kt7 s ty=yN s.fSize true ty:=by
 unfold Kt7 yN
 rw [show Kt6 s=Kqm s.fSize true from funext fun c=>Ktb h]
def Ktd (s:K00) (ty:List Int):Bool:=Ksc s && Kt7 s ty
theorem Kte (s:K00) (ty:List Int) (hty:ty.length ≤ 1099511627776):Kjt (s,ty)=some (Ktd s ty):=by
 unfold Kjt Ktd
 simp only
 rw [Kse,bs]
 cases hs:Ksc s
 ·rfl
 ·rw [if_pos rfl,Kqj ty hty,bs,Kqp ty hty,Bool.true_and,Ktc (Ksd hs)]
  unfold yN
  cases wtB ty <;> rfl
theorem Ktf (s:K00) (ty:List Int) (hty:ty.length ≤ 1099511627776):Kk3 (s,ty)=some (Ktd s ty && Ksx ty):=by
 unfold Kk3
 simp only
 rw [Kte s ty hty,bs,Ksz ty hty]
 cases Ktd s ty <;> rfl
theorem Ktg (s:K00) (ty:List Int) (hty:ty.length ≤ 1099511627776):Khm (s,ty)=some (Kt7 s ty && Ksx ty):=by
 unfold Khm
 simp only
 rw [Kt9 s ty hty,bs,Kt3 ty hty]
 cases Kt7 s ty <;> simp [bs]
theorem Kth (s:K00) (ty:List Int) (hty:ty.length ≤ 1099511627776):Khp (s,ty)=some (Ktd s ty && Ksx ty):=by
 unfold Khp Ktd
 simp only
 rw [Ktg s ty hty,bs,Ksf]
 cases Kt7 s ty <;> cases Ksx ty <;> cases Ksc s <;> rfl
theorem Kti {α:Type} (x:α) (l:List α):idx (x :: l) 0=some x:=rfl
theorem Ktj {α:Type} (x y:α) (l:List α):idx (x :: y :: l) 1=some y:=rfl
theorem Ktk {a b:Nat} (ha:a ≤ 1099511627776) (hb:b ≤ 1099511627776):wr ((a:Int) + (b:Int))=((a + b:Nat):Int):=by rw [Koq (by omega) (by omega)]; omega
theorem Ktl (a b:Nat):K7z ((a:Int),(b:Int))=some ((min a b:Nat):Int):=by
 unfold K7z
 simp only
 by_cases h:a < b
 ·rw [decide_eq_true (by omega:(a:Int) < (b:Int)),if_pos rfl,Nat.min_eq_left (by omega)]
 ·rw [decide_eq_false (by omega:¬ (a:Int) < (b:Int)),if_neg (by decide),Nat.min_eq_right (by omega)]
def sms (s:K00):Nat:=s.fPlus.length + s.fTimes.length + s.fBelow.length
theorem Ktm (a b:List K01):Kqs (a ++ b)=Kqs a + Kqs b:=by
 induction a with
 | nil=>simp [Kqs]
 | cons x l ih=>rw [List.cons_append,Kqs,Kqs,ih]; omega
theorem Ktn {l:List K01} {t:K01} (h:t ∈ l):tms t + l.length ≤ Kqs l + l.length:=by
 induction l with
 | nil=>cases h
 | cons x l ih =>
  rw [Kqs]
  rcases List.mem_cons.1 h with rfl | h
  ·omega
  ·have:=ih h; omega
theorem Kto {l:List K01} {t:K01} (h:t ∈ l):tsz t ≤ Kqr l:=by
 induction l with
 | nil=>cases h
 | cons x l ih =>
  rw [Kqr]
  rcases List.mem_cons.1 h with rfl | h
  ·omega
  ·have:=ih h; omega
theorem Ktp {t k:K01} (h:k ∈ t.fKids):tsz k + 1 ≤ tsz t:=by
 rw [Kqu t]
 have:=Kto h
 omega
mutual
theorem Ktq:∀ (t:K01),tms t ≤ 1099511627776→Kij t=some t
 | ⟨op,N,ty,ks⟩,h=>by
  rw [tms] at h
  rw [Kij.eq_def]
  simp only
  rw [Ks1 ty (by omega),bs,show (0:Int)=((0:Nat):Int) from rfl,Ktr ks ⟨op,N,ty,ks⟩ 0 ty [] rfl (by simp only; omega) (by omega) (by simp),bs]
  rfl
theorem Ktr:∀ (ks:List K01) (t:K01) (i:Nat) (r:List Int) (out:List K01),t.fKids.drop i=ks→t.fKids.length ≤ 1099511627776→Kqs ks ≤ 1099511627776→out.length=i→Kik (t,r,out,(i:Int))=some (out ++ ks)
 | [],t,i,r,out,hd,hk,hm,ho=>by
  rw [Kik.eq_def]
  simp only
  rw [Kou (Kpx hd),List.append_nil]; rfl
 | k :: ks,t,i,r,out,hd,hk,hm,ho=>by
  obtain ⟨hi,hx,hd'⟩:=Kpw hd
  rw [Kqs] at hm
  rw [Kik.eq_def]
  simp only
  rw [Kot hi,if_pos rfl,hx,bs,Ktq k (by omega),bs,Kry (by simp only [List.length_singleton]; omega),bs,Kos (by omega),Ktr ks t (i + 1) r _ hd' hk (by omega) (by simp [ho]),List.append_assoc]
  rfl
end
mutual
def tNb (hi:Int):K01→Prop
 | ⟨op,N,_,ks⟩=>(op=0→-9223372036854775808 ≤ N∧N ≤ hi)∧Kts hi ks
def Kts (hi:Int):List K01→Prop
 | []=>True
 | k :: ks=>tNb hi k∧Kts hi ks
end
mutual
def shf (by_:Int):Int→K01→K01
 | from_,⟨op,N,ty,ks⟩=>⟨op,if op == 0 && decide (N ≥ from_) then N + by_ else N,ty,Ktt by_ op from_ 0 ks⟩
def Ktt (by_:Int):Int→Int→Nat→List K01→List K01
 | _,_,_,[]=>[]
 | op,from_,i,k :: ks=>shf by_ (from_ + ((Krb op (i:Int):Nat):Int)) k :: Ktt by_ op from_ (i + 1) ks
end
mutual
theorem Ktu:∀ (t:K01) (fr:Int),shf 0 fr t=t
 | ⟨op,N,ty,ks⟩,fr=>by
  rw [shf,Ktv ks]
  simp
theorem Ktv:∀ (ks:List K01) (op fr:Int) (i:Nat),Ktt 0 op fr i ks=ks
 | [],op,fr,i=>by rw [Ktt]
 | k :: ks,op,fr,i=>by rw [Ktt,Ktu k,Ktv ks]
end
mutual
theorem Ktw (b hi:Int) (hb:0 ≤ b) (hh:hi + b ≤ 9223372036854775807):∀ (t:K01) (fr:Int),tNb hi t→tms t ≤ 1099511627776→-35184372088832 ≤ fr→fr + 2 * tms t ≤ 35184372088832→Kck (t,b,fr)=some (shf b fr t)
 | ⟨op,N,ty,ks⟩,fr,hn,hm,h1,h2=>by
  rw [tms] at hm h2
  rw [tNb] at hn
  rw [Kck.eq_def,shf]
  simp only
  rw [Ks0 ty (by omega),bs]
  refine (Kqq (x:=op == 0 && decide (N ≥ fr)) ?_).trans ?_
  ·cases op == 0 <;> rfl
  refine (Kqq (x:=if op == 0 && decide (N ≥ fr) then N + b else N) ?_).trans ?_
  ·cases h:op == 0 && decide (N ≥ fr)
   ·rfl
   ·rw [Bool.and_eq_true] at h
    have:=hn.1 (eq_of_beq h.1)
    rw [if_pos rfl,Koq (by omega) (by omega)]; rfl
  rw [show (0:Int)=((0:Nat):Int) from rfl,Ktx b hi hb hh ks ⟨op,N,ty,ks⟩ fr 0 ty _ [] rfl (by simp only; omega) hn.2 (by omega) h1 (by omega) (by simp),bs]
  rfl
theorem Ktx (b hi:Int) (hb:0 ≤ b) (hh:hi + b ≤ 9223372036854775807):∀ (ks:List K01) (t:K01) (fr:Int) (i:Nat) (r:List Int) (o:Int) (out:List K01),t.fKids.drop i=ks→t.fKids.length ≤ 1099511627776→Kts hi ks→Kqs ks ≤ 1099511627776→-35184372088832 ≤ fr →
  fr + 2 * (ks.length + Kqs ks) ≤ 35184372088832→out.length=i→Kcl (t,b,fr,r,o,out,(i:Int))=some (out ++ Ktt b t.fOp fr i ks)
 | [],t,fr,i,r,o,out,hd,hk,hn,hm,h1,h2,ho=>by
  rw [Kcl.eq_def,Ktt]
  simp only
  rw [Kou (Kpx hd),List.append_nil]; rfl
 | k :: ks,t,fr,i,r,o,out,hd,hk,hn,hm,h1,h2,ho=>by
  obtain ⟨hi',hx,hd'⟩:=Kpw hd
  rw [Kqs] at hm h2
  rw [List.length_cons] at h2
  rw [Kts] at hn
  have ha:=Krc t.fOp (i:Int)
  rw [Kcl.eq_def,Ktt]
  simp only
  rw [Kot hi',if_pos rfl,hx,bs,Krd,bs,Koq (by omega) (by omega),Ktw b hi hb hh k _ hn.1 (by omega) (by omega) (by omega),bs,Kry (by simp only [List.length_singleton]; omega),bs,Kos (by omega)]
  rw [Ktx b hi hb hh ks t fr (i + 1) r o _ hd' hk hn.2 (by omega) h1 (by omega) (by simp [ho]),List.append_assoc]
  rfl
end
theorem Kty {t:K01} (hn:tNb 9223372036854775807 t) (hm:tms t ≤ 1099511627776):Kck (t,0,0)=some t:=by
 rw [Ktw 0 9223372036854775807 (by omega) (by omega) t 0 hn hm (by omega) (by omega),Ktu]
mutual
theorem Ktz:∀ (t:K01),tln t→tNb 9223372036854775807 t
 | ⟨op,N,ty,ks⟩,h=>by rw [tln] at h; rw [tNb]; exact ⟨fun _=>h.2.2.2,Ku0 ks h.2.2.1⟩
theorem Ku0:∀ (ks:List K01),Krs ks→Kts 9223372036854775807 ks
 | [],h=>by rw [Kts]; trivial
 | k :: ks,h=>by rw [Krs] at h; rw [Kts]; exact ⟨Ktz k h.1,Ku0 ks h.2⟩
end
def noT:K01:=⟨0,0,[],[]⟩
theorem Ku1 {l:List K01} {i:Nat} (hi:i < l.length) (u:K01):Kqs (l.set i u) + tms l[i]=Kqs l + tms u:=by
 induction l generalizing i with
 | nil=>simp at hi
 | cons x l ih =>
  cases i with
  | zero=>simp only [List.set_cons_zero,Kqs,List.getElem_cons_zero]; omega
  | succ i =>
   have:=ih (i:=i) (by simpa using hi)
   simp only [List.set_cons_succ,Kqs,List.getElem_cons_succ]; omega
theorem Ku2 {α:Type} (x:α) (l:List α):cut (x :: l) (some 1) none none=some l:=Kss [x] l
theorem Ku3 {g:Int→Bool} {y:List Int→Bool}:∀ (ks:List K01) (op:Int) (n i j:Nat) (hj:j < ks.length),Kri g y op n i ks=true→tOk g y (n + Krb op ((i + j:Nat):Int)) ks[j]=true
 | k :: ks,op,n,i,j,hj,ht=>by
  rw [Kri,Bool.and_eq_true] at ht
  cases j with
  | zero=>exact ht.1
  | succ j =>
   have:=Ku3 ks op n (i + 1) j (by simpa using hj) ht.2
   rw [show i + 1 + j=i + (j + 1) by omega] at this
   exact this
theorem Ku4 {c:Int} (h:Kq0 c=2):(c=1∧Kq5 c=(1,-1))∨(c=2∧Kq5 c=(2,-1))∨((c ≠ 0∧c ≠ 1∧c ≠ 2)∧Kpz c=false∧Kpy c=true∧Kq5 c=(3,Kql c)):=by
 rcases Kq4 c with q | ⟨q,_⟩ | q | q
 ·omega
 ·rcases Kq7 c with ⟨h,e⟩ | ⟨h,e⟩ | ⟨h,e⟩ | ⟨h,e⟩ | ⟨h,e⟩ | ⟨h,e⟩ | ⟨h,e⟩ | ⟨h,e⟩
  ·omega
  ·exact .inl ⟨h,e⟩
  ·exact .inr (.inl ⟨h,e⟩)
  ·refine .inr (.inr ⟨by omega,?_,?_,?_⟩)
   ·unfold Kpz inB; rw [Bool.eq_false_iff]; simp; omega
   ·unfold Kpy inB; simp; omega
   ·rw [e]; unfold Kql; rw [if_neg (by omega),if_neg (by omega)]
  ·subst h; exact .inr (.inr ⟨by omega,rfl,rfl,rfl⟩)
  ·omega
  ·omega
  ·omega
 ·omega
 ·omega
theorem Ku5 {c:Int} (h:Kq0 c=1):(c ≠ 0∧c ≠ 1∧c ≠ 2)∧Kpz c=true∧Kpy c=false∧Kq5 c=(4,Kql c):=by
 rcases Kq4 c with q | q | ⟨q,_⟩ | q
 ·omega
 ·omega
 ·rcases Kq7 c with ⟨h,e⟩ | ⟨h,e⟩ | ⟨h,e⟩ | ⟨h,e⟩ | ⟨h,e⟩ | ⟨h,e⟩ | ⟨h,e⟩ | ⟨h,e⟩
  ·omega
  ·omega
  ·omega
  ·omega
  ·omega
  ·refine ⟨by omega,?_,?_,?_⟩
   ·unfold Kpz inB; simp; omega
   ·unfold Kpy inB; rw [Bool.eq_false_iff]; simp; omega
   ·rw [e]; unfold Kql; rw [if_neg (by omega),if_pos (by omega)]
  ·subst h; exact ⟨by omega,rfl,rfl,rfl⟩
  ·omega
 ·omega
structure Ku6 (c:Int) (a b:Ty):Prop where
 p0:Kc4 (c :: (a.code ++ b.code),0)=some a.code
 p1:Kc4 (c :: (a.code ++ b.code),1)=some b.code
 pp:Khw (c :: (a.code ++ b.code))=some [a.code,b.code]
 ok:a.ok∧b.ok
 la:a.code.length + b.code.length + 1 ≤ 1048576
theorem Ku7 {c:Int} {a b:Ty} (h:(Ty.bin c a b).ok) (hl:(Ty.bin c a b).code.length ≤ 1048576):Ku6 c a b:=by
 have hl':=hl
 rw [Ty.code] at hl'
 have h3:=Ksu h hl
 rw [Ty.kids,List.map_cons,List.map_cons,List.map_nil,Ty.code] at h3
 refine ⟨Ksv h.2.1 (by omega),Ksw h.2.1 (by omega),h3,h.2,?_⟩
 rw [List.length_cons,List.length_append] at hl'
 omega
structure UnP (c:Int) (a:Ty):Prop where
 p0:Kc4 (c :: a.code,0)=some a.code
 pp:Khw (c :: a.code)=some [a.code]
 ok:a.ok
 la:a.code.length + 1 ≤ 1048576
theorem unP {c:Int} {a:Ty} (h:(Ty.un c a).ok) (hl:(Ty.un c a).code.length ≤ 1048576):UnP c a:=by
 have hl':=hl
 rw [Ty.code] at hl'
 have h3:=Ksu h hl
 rw [Ty.kids,List.map_cons,List.map_nil,Ty.code] at h3
 have h4:=Ksv (c:=c) (r:=[]) h.2 (by rw [List.append_nil]; omega)
 rw [List.append_nil] at h4
 refine ⟨h4,h3,h.2,?_⟩
 rw [List.length_cons] at hl'
 omega
theorem Ku8:Khw [0]=some []:=Ksu (T:=.num) trivial (by simp [Ty.code])
def dfl:Ty→K01
 | .num=>⟨1,0,[],[]⟩
 | .bin c a b=>if c=1 then ⟨4,0,[],[dfl a,dfl b]⟩ else if c=2 then ⟨6,0,b.code,[dfl a]⟩ else ⟨9,Kql c,a.code,[dfl b]⟩
 | .un c a=>⟨11,Kql c,[],[dfl a]⟩
theorem Ku9 (T:Ty):tms (dfl T) ≤ 3 * T.code.length:=by
 induction T with
 | num=>simp [dfl,tms,Kqs]
 | bin c a b iha ihb =>
  rw [dfl,Ty.code,List.length_cons,List.length_append]
  split
  ·simp only [tms,Kqs,List.length_cons,List.length_nil]; omega
  ·split
   ·simp only [tms,Kqs,List.length_cons,List.length_nil]; omega
   ·simp only [tms,Kqs,List.length_cons,List.length_nil]; omega
 | un c a ih=>rw [dfl,Ty.code,List.length_cons]; simp only [tms,Kqs,List.length_cons,List.length_nil]; omega
theorem Kua (T:Ty):T.ok→T.code.length ≤ 1048576→Klu T.code=some (dfl T):=by
 induction T with
 | num=>intro _ _; rw [Klu.eq_def]; rfl
 | bin c a b iha ihb =>
  intro h hl
  have P:=Ku7 h hl
  have la:=P.la
  have ha:=iha P.ok.1 (by omega)
  have hb:=ihb P.ok.2 (by omega)
  rw [Ty.code,Klu.eq_def,Kti,bs,P.p0,P.p1,dfl,Kq2]
  simp only [bs,ha,hb]
  rcases Ku4 h.1 with ⟨rfl,_⟩ | ⟨rfl,_⟩ | ⟨h0,h1,_,_⟩
  ·rfl
  ·rfl
  ·rw [beq_eq_false_iff_ne.2 h0.1,beq_eq_false_iff_ne.2 h0.2.1,beq_eq_false_iff_ne.2 h0.2.2,h1,if_neg h0.2.1,if_neg h0.2.2,Kqn (by rw [h.1]; decide)]
   simp [bs]
 | un c a ih =>
  intro h hl
  have P:=unP h hl
  have la:=P.la
  have ha:=ih P.ok (by omega)
  obtain ⟨h0,h1,h2,h3⟩:=Ku5 h.1
  rw [Ty.code,Klu.eq_def,Kti,bs,P.p0,dfl,Kq2]
  simp only [bs,ha]
  rw [beq_eq_false_iff_ne.2 h0.1,h1,Kqn (by rw [h.1]; decide)]
  simp [bs]
theorem Kub (T:Ty):T.ok→T.code.length ≤ 1048576→Kj2 T.code=some (dfl T):=by
 induction T with
 | num=>intro _ _; rw [Kj2.eq_def,Ty.code,Ku8]; rfl
 | bin c a b iha ihb =>
  intro h hl
  have P:=Ku7 h hl
  have la:=P.la
  have ha:=iha P.ok.1 (by omega)
  have hb:=ihb P.ok.2 (by omega)
  rw [Ty.code,Kj2.eq_def,Kti,bs,P.pp,dfl,Kq6,bs]
  rcases Ku4 h.1 with ⟨rfl,e⟩ | ⟨rfl,e⟩ | ⟨h0,h1,_,e⟩
  ·rw [e]; simp [bs,Kti,Ktj,ha,hb]
  ·rw [e]; simp [bs,Kti,Ktj,ha,Ks1 b.code (by omega)]
  ·rw [e]; simp [bs,Kti,Ktj,hb,Ks1 a.code (by omega),h0.2.1,h0.2.2]
 | un c a ih =>
  intro h hl
  have P:=unP h hl
  have la:=P.la
  have ha:=ih P.ok (by omega)
  obtain ⟨h0,h1,h2,e⟩:=Ku5 h.1
  rw [Ty.code,Kj2.eq_def,Kti,bs,P.pp,dfl,Kq6,bs,e]
  simp [bs,Kti,ha]
theorem Kuc {p:Prop} [Decidable p] (h:p):chk p=some ():=by unfold chk; rw [if_pos h]
def inG (b:List Bool) (a:Nat):Bool:=b.getD a false
def vwC (s:K00) (n:Nat) (b:List Bool) (x y:Nat):Bool :=
 (inG b (pl s n x y) == (inG b x || inG b y)) && (inG b (ti s n x y) == (inG b x && inG b y)) && !(inG b x && le s n x y && !inG b y)
def vwI (s:K00) (n:Nat) (b:List Bool):Bool:=!inG b 0 && inG b 1 && (List.range' 0 n).all fun x=>(List.range' 0 n).all fun y=>vwC s n b x y
theorem Kud {b:List Bool} {n a:Nat} (hb:b.length=n) (ha:a < n):idx b (a:Int)=some (inG b a):=by
 rw [Kor (by omega)]; unfold inG; rw [List.getD_eq_getElem?_getD,List.getElem?_eq_getElem (by omega)]; rfl
def Kue (n:Nat):Option Int→List Int→Bool
 | _,[]=>true
 | p,g :: l=>inB g 0 ((n:Int) - 1) && (match p with | none=>true | some q=>!decide (g ≤ q)) && Kue n (some g) l
theorem Kuf (n:Nat) (p:Option Int) (g:Int) (l:List Int):Kue n p (g :: l)=(inB g 0 ((n:Int) - 1) && (match p with | none=>true | some q=>!decide (g ≤ q)) && Kue n (some g) l):=by
 cases p <;> rfl
def vIn:List Int→List Bool→List Bool
 | [],b=>b
 | g :: l,b=>vIn l (b.set g.toNat true)
theorem Kug (l:List Int):∀ b,(vIn l b).length=b.length:=by
 induction l with
 | nil=>intro b; rfl
 | cons g l ih=>intro b; rw [vIn,ih,List.length_set]
section
variable {s:K00} {n:Nat} (h:Tab s n)
include h
theorem Kuh {b:List Bool} (hb:b.length=n) {x:Nat} (hx:x < n):∀ (k y:Nat),y + k=n→Kd4 (s,b,(x:Int),(y:Int))=some (if (List.range' y k).all (fun y=>vwC s n b x y) then .inl () else .inr false):=by
 have hhi:=h.hi
 intro k
 induction k with
 | zero =>
  intro y hm
  rw [Kd4.eq_def]
  simp only
  rw [h.size,Kou (by omega)]
  rfl
 | succ k ih =>
  intro y hm
  have hy:y < n:=by omega
  have ih:=ih (y + 1) (by omega)
  rw [Kd4.eq_def]
  simp only
  rw [h.size,Kot (by omega),if_pos rfl,Kos (by omega),List.range'_succ,List.all_cons,ih]
  refine (Kqq (x:=!vwC s n b x y) ?_).trans ?_
  ·rw [Kp3 h hx hy]
   simp only [bs]
   rw [Kud hb (Koy h hx hy),Kud hb hx,Kud hb hy]
   simp only [bs,Kp4 h hx hy,sLe h hx hy]
   rw [Kud hb (Koz h hx hy)]
   simp only [bs]
   unfold vwC
   generalize inG b (pl s n x y)=p
   generalize inG b (ti s n x y)=q
   generalize inG b x=u
   generalize inG b y=v
   generalize le s n x y=w
   cases u <;> cases v <;> cases p <;> cases q <;> cases w <;> rfl
  ·cases vwC s n b x y <;> rfl
theorem Kui {b:List Bool} (hb:b.length=n):∀ (k x:Nat),x + k=n→Kd9 (s,b,(x:Int))=some (if (List.range' x k).all (fun x=>(List.range' 0 n).all fun y=>vwC s n b x y) then .inl () else .inr false):=by
 have hhi:=h.hi
 intro k
 induction k with
 | zero =>
  intro x hm
  rw [Kd9.eq_def]
  simp only
  rw [h.size,Kou (by omega)]
  rfl
 | succ k ih =>
  intro x hm
  have ih:=ih (x + 1) (by omega)
  have hl:=Kuh h hb (x:=x) (by omega) n 0 (by omega)
  rw [show ((0:Nat):Int)=0 from rfl] at hl
  rw [Kd9.eq_def]
  simp only
  rw [h.size,Kot (by omega),if_pos rfl,Kos (by omega),List.range'_succ,List.all_cons,hl,bs,ih]
  cases (List.range' 0 n).all (fun y=>vwC s n b x y) <;> rfl
theorem Kuj {b:List Bool} (hb:b.length=n):Kdc (s,b)=some (vwI s n b):=by
 have hlo:=h.lo
 unfold Kdc vwI
 simp only
 have hl:=Kui h hb n 0 (by omega)
 rw [show ((0:Nat):Int)=0 from rfl] at hl
 have h0:=Kud hb (a:=0) (by omega)
 have h1:=Kud hb (a:=1) (by omega)
 rw [show ((0:Nat):Int)=0 from rfl] at h0
 rw [show ((1:Nat):Int)=1 from rfl] at h1
 rw [h0,h1,hl]
 cases inG b 0 <;> cases inG b 1 <;> cases (List.range' 0 n).all (fun x=>(List.range' 0 n).all fun y=>vwC s n b x y) <;> rfl
theorem Kuk (v:List Int) (hv:v.length ≤ 1099511627776):∀ (l:List Int) (i:Nat) (b:List Bool),v.drop i=l→b.length=n →
  Kjc (s,v,b,(i:Int))=some (if Kue n (if i=0 then none else v[i - 1]?) l then .inl (vIn l b) else .inr false):=by
 have hhi:=h.hi
 intro l
 induction l with
 | nil =>
  intro i b hd hb
  rw [Kjc.eq_def]
  simp only
  rw [Kou (Kpx hd)]; simp [Kue,vIn]
 | cons g l ih =>
  intro i b hd hb
  obtain ⟨hi,hx,hd'⟩:=Kpw hd
  have hg:v[i]?=some g:=by rw [Kor hi] at hx; rw [List.getElem?_eq_getElem hi]; exact hx
  rw [Kjc.eq_def]
  simp only
  rw [Kot hi,if_pos rfl,hx]
  simp only [bs]
  refine (Kqq (x:=!(inB g 0 ((n:Int) - 1) && (match (if i=0 then none else v[i - 1]?) with | none=>true | some q=>!decide (g ≤ q)))) ?_).trans ?_
  ·rw [Ksh h,sIn,bs]
   cases inB g 0 ((n:Int) - 1)
   ·rfl
   ·by_cases h0:i=0
    ·subst h0; rfl
    ·have hp:i - 1 < v.length:=by omega
     rw [if_pos rfl,decide_eq_true (by omega:(i:Int) > 0),if_pos rfl,Koq (by omega) (by omega),show (i:Int) - 1=((i - 1:Nat):Int) by omega,Kor hp,bs,if_neg h0,List.getElem?_eq_getElem hp]
     simp
  ·rw [Kuf]
   cases hc:(inB g 0 ((n:Int) - 1) && (match (if i=0 then none else v[i - 1]?) with | none=>true | some q=>!decide (g ≤ q)))
   ·rfl
   ·rw [Bool.and_eq_true] at hc
    obtain ⟨e1,l1⟩:=Ksg hc.1
    rw [Bool.not_true,if_neg (by decide),Bool.true_and]
    have hidx:idx b g=some (inG b g.toNat):=by rw [e1,Kud hb l1,Int.toNat_natCast]
    simp only [bs,hidx]
    rw [Kos (by omega),ih (i + 1) _ hd' (by simpa using hb),if_neg (by omega:¬ i + 1=0),Nat.add_sub_cancel,hg,vIn]
end
theorem Kul (s:K00) (v:List Int) (hv:v.length ≤ 1099511627776):Kjf (s,v)=some (Ksc s && Kue s.fSize.toNat none v && vwI s s.fSize.toNat (vIn v (List.replicate s.fSize.toNat false))):=by
 unfold Kjf
 simp only
 rw [Kse,bs]
 cases hs:Ksc s
 ·rfl
 ·have T:=Ksd hs
  have hsz:=T.size
  have hhi:=T.hi
  rw [if_pos rfl,Kuc (by omega),bs]
  have hl:=Kuk T v hv v 0 (List.replicate s.fSize.toNat false) rfl (by simp)
  rw [show ((0:Nat):Int)=0 from rfl,if_pos rfl] at hl
  rw [hl,bs]
  cases Kue s.fSize.toNat none v
  ·rfl
  ·simp only [if_true]
   rw [Kuj T (by rw [Kug]; simp),bs]; rfl
section
variable {s:K00} {n:Nat} (h:Tab s n)
include h
theorem Kum {b:List Bool} (hb:b.length=n) {x:Nat} (hx:x < n):∀ (k y:Nat),y + k=n→Kgc (s,b,(x:Int),(y:Int))=some (if (List.range' y k).all (fun y=>vwC s n b x y) then .inl () else .inr false):=by
 have hhi:=h.hi
 intro k
 induction k with
 | zero =>
  intro y hm
  rw [Kgc.eq_def]
  simp only
  rw [h.size,Kou (by omega)]
  rfl
 | succ k ih =>
  intro y hm
  have hy:y < n:=by omega
  have ih:=ih (y + 1) (by omega)
  rw [Kgc.eq_def]
  simp only
  rw [h.size,Kot (by omega),if_pos rfl,Kos (by omega),List.range'_succ,List.all_cons,ih]
  refine (Kqq (x:=!vwC s n b x y) ?_).trans ?_
  ·rw [Kp5 h hx hy]
   simp only [bs]
   rw [Kud hb (Koy h hx hy),Kud hb hx,Kud hb hy]
   simp only [bs,Kp6 h hx hy,iLe h hx hy]
   rw [Kud hb (Koz h hx hy)]
   simp only [bs]
   unfold vwC
   generalize inG b (pl s n x y)=p
   generalize inG b (ti s n x y)=q
   generalize inG b x=u
   generalize inG b y=v
   generalize le s n x y=w
   cases u <;> cases v <;> cases p <;> cases q <;> cases w <;> rfl
  ·cases vwC s n b x y <;> rfl
theorem Kun {b:List Bool} (hb:b.length=n):∀ (k x:Nat),x + k=n→Kgg (s,b,(x:Int))=some (if (List.range' x k).all (fun x=>(List.range' 0 n).all fun y=>vwC s n b x y) then .inl () else .inr false):=by
 have hhi:=h.hi
 intro k
 induction k with
 | zero =>
  intro x hm
  rw [Kgg.eq_def]
  simp only
  rw [h.size,Kou (by omega)]
  rfl
 | succ k ih =>
  intro x hm
  have ih:=ih (x + 1) (by omega)
  have hl:=Kum h hb (x:=x) (by omega) n 0 (by omega)
  rw [show ((0:Nat):Int)=0 from rfl] at hl
  rw [Kgg.eq_def]
  simp only
  rw [h.size,Kot (by omega),if_pos rfl,Kos (by omega),List.range'_succ,List.all_cons,hl,bs,ih]
  cases (List.range' 0 n).all (fun y=>vwC s n b x y) <;> rfl
theorem Kuo {b:List Bool} (hb:b.length=n):Kgj (s,b)=some (vwI s n b):=by
 have hlo:=h.lo
 unfold Kgj vwI
 simp only
 have hl:=Kun h hb n 0 (by omega)
 rw [show ((0:Nat):Int)=0 from rfl] at hl
 have h0:=Kud hb (a:=0) (by omega)
 have h1:=Kud hb (a:=1) (by omega)
 rw [show ((0:Nat):Int)=0 from rfl] at h0
 rw [show ((1:Nat):Int)=1 from rfl] at h1
 rw [h0,h1,hl]
 cases inG b 0 <;> cases inG b 1 <;> cases (List.range' 0 n).all (fun x=>(List.range' 0 n).all fun y=>vwC s n b x y) <;> rfl
theorem Kup (v:List Int) (hv:v.length ≤ 1099511627776):∀ (l:List Int) (i:Nat) (b:List Bool),v.drop i=l→b.length=n →
  Kgn (s,v,b,(i:Int))=some (if Kue n (if i=0 then none else v[i - 1]?) l then .inl (vIn l b) else .inr false):=by
 have hhi:=h.hi
 intro l
 induction l with
 | nil =>
  intro i b hd hb
  rw [Kgn.eq_def]
  simp only
  rw [Kou (Kpx hd)]; simp [Kue,vIn]
 | cons g l ih =>
  intro i b hd hb
  obtain ⟨hi,hx,hd'⟩:=Kpw hd
  have hg:v[i]?=some g:=by rw [Kor hi] at hx; rw [List.getElem?_eq_getElem hi]; exact hx
  rw [Kgn.eq_def]
  simp only
  rw [Kot hi,if_pos rfl,hx]
  simp only [bs]
  refine (Kqq (x:=!(inB g 0 ((n:Int) - 1) && (match (if i=0 then none else v[i - 1]?) with | none=>true | some q=>!decide (g ≤ q)))) ?_).trans ?_
  ·rw [Kt5,Kta h,bs]
   cases inB g 0 ((n:Int) - 1)
   ·rfl
   ·by_cases h0:i=0
    ·subst h0; rfl
    ·have hp:i - 1 < v.length:=by omega
     rw [if_pos rfl,decide_eq_true (by omega:(i:Int) > 0),if_pos rfl,Koq (by omega) (by omega),show (i:Int) - 1=((i - 1:Nat):Int) by omega,Kor hp,bs,if_neg h0,List.getElem?_eq_getElem hp]
     simp
  ·rw [Kuf]
   cases hc:(inB g 0 ((n:Int) - 1) && (match (if i=0 then none else v[i - 1]?) with | none=>true | some q=>!decide (g ≤ q)))
   ·rfl
   ·rw [Bool.and_eq_true] at hc
    obtain ⟨e1,l1⟩:=Ksg hc.1
    rw [Bool.not_true,if_neg (by decide),Bool.true_and]
    have hidx:idx b g=some (inG b g.toNat):=by rw [e1,Kud hb l1,Int.toNat_natCast]
    rw [hidx,bs]
    rw [Kos (by omega),ih (i + 1) _ hd' (by simpa using hb),if_neg (by omega:¬ i + 1=0),Nat.add_sub_cancel,hg,vIn]
end
theorem Kuq (s:K00) (v:List Int) (hv:v.length ≤ 1099511627776):Kgq (s,v)=some (Ksc s && Kue s.fSize.toNat none v && vwI s s.fSize.toNat (vIn v (List.replicate s.fSize.toNat false))):=by
 unfold Kgq
 simp only
 rw [Ksf,bs]
 cases hs:Ksc s
 ·rfl
 ·have T:=Ksd hs
  have hsz:=T.size
  have hhi:=T.hi
  rw [if_pos rfl,Kuc (by omega),bs]
  have hl:=Kup T v hv v 0 (List.replicate s.fSize.toNat false) rfl (by simp)
  rw [show ((0:Nat):Int)=0 from rfl,if_pos rfl] at hl
  rw [hl,bs]
  cases Kue s.fSize.toNat none v
  ·rfl
  ·simp only [if_true]
   rw [Kuo T (by rw [Kug]; simp),bs]; rfl
def vwB (s:K00) (v:List Int):Bool:=Ksc s && Kue s.fSize.toNat none v && vwI s s.fSize.toNat (vIn v (List.replicate s.fSize.toNat false))
theorem sVw (s:K00) (v:List Int) (hv:v.length ≤ 1099511627776):Kjf (s,v)=some (vwB s v):=Kul s v hv
theorem iVw (s:K00) (v:List Int) (hv:v.length ≤ 1099511627776):Kgq (s,v)=some (vwB s v):=Kuq s v hv
theorem Kur (l:List Int) (n:Int) (hl:l.length ≤ 1099511627776):∀ (m:List Int) (i:Nat),l.drop i=m→Kll (l,n,(i:Int))=some (if m.contains n then .inr true else .inl ()):=by
 intro m
 induction m with
 | nil =>
  intro i hd
  rw [Kll.eq_def]
  simp only
  rw [Kou (Kpx hd)]; rfl
 | cons x m ih =>
  intro i hd
  obtain ⟨hi,hx,hd'⟩:=Kpw hd
  rw [Kll.eq_def]
  simp only
  rw [Kot hi,if_pos rfl,hx,bs,Kos (by omega),ih (i + 1) hd',List.contains_cons,show (n == x)=(x == n) from by rw [Bool.eq_iff_iff]; simp; exact eq_comm]
  cases x == n <;> simp
theorem Kus (l:List Int) (n:Int) (hl:l.length ≤ 1099511627776):Klo (l,n)=some (l.contains n):=by
 unfold Klo
 simp only
 rw [show (0:Int)=((0:Nat):Int) from rfl,Kur l n hl l 0 rfl,bs]
 cases l.contains n <;> rfl
theorem Kut (l:List Int) (n:Int) (hl:l.length ≤ 1099511627776):∀ (m:List Int) (i:Nat),l.drop i=m→∃ r,Kir (l,n,(i:Int))=some r∧(match r with | .inl _=>m.contains n=false | .inr k=>m.contains n=true∧0 ≤ k):=by
 intro m
 induction m with
 | nil =>
  intro i hd
  rw [Kir.eq_def]
  simp only
  rw [Kou (Kpx hd)]
  exact ⟨_,rfl,rfl⟩
 | cons x m ih =>
  intro i hd
  obtain ⟨hi,hx,hd'⟩:=Kpw hd
  rw [Kir.eq_def]
  simp only
  rw [Kot hi,if_pos rfl,hx,bs,Kos (by omega),List.contains_cons]
  cases n == x
  ·obtain ⟨r,h1,h2⟩:=ih (i + 1) hd'
   exact ⟨r,by rw [if_neg (by decide)]; exact h1,by simpa using h2⟩
  ·exact ⟨.inr (i:Int),rfl,by simp⟩
theorem Kuu (l:List Int) (n:Int) (hl:l.length ≤ 1099511627776):Kix (l,n)=some (l.contains n):=by
 unfold Kix Kiu
 simp only
 obtain ⟨r,h1,h2⟩:=Kut l n hl l 0 rfl
 rw [show (0:Int)=((0:Nat):Int) from rfl,h1,bs]
 cases r with
 | inl u=>simp only at h2; rw [h2]; rfl
 | inr m=>simp only at h2; rw [h2.1]; simp [bs,h2.2]
theorem Kuv (x y:Int) (l r:List Int):(x :: l == y :: r)=(x == y && l == r):=rfl
theorem Kuw (a b:List Int) (ha:a.length ≤ 1099511627776) (hab:a.length=b.length):∀ (l r:List Int) (i:Nat),a.drop i=l→b.drop i=r→Kl8 (a,b,(i:Int))=some (if l == r then .inl () else .inr false):=by
 intro l
 induction l with
 | nil =>
  intro r i h1 h2
  have hi:=Kpx h1
  rw [Kl8.eq_def]
  simp only
  rw [Kou hi]
  have:r=[]:=by rw [← h2]; exact List.drop_eq_nil_of_le (by omega)
  subst this; rfl
 | cons x l ih =>
  intro r i h1 h2
  obtain ⟨hi,hx,hd⟩:=Kpw h1
  cases r with
  | nil=>have:=Kpx h2; omega
  | cons y r =>
   obtain ⟨_,hy,hd2⟩:=Kpw h2
   rw [Kl8.eq_def]
   simp only
   rw [Kot hi,if_pos rfl,hx,hy,bs,bs,Kos (by omega),ih r (i + 1) hd hd2,Kuv]
   by_cases e:x=y
   ·subst e; simp
   ·rw [bne_iff_ne.2 e,if_pos rfl,beq_eq_false_iff_ne.2 e]; rfl
theorem Kux (a b:List Int) (hb:b.length ≤ 1099511627776):Klb (a,b)=some (a == b):=by
 unfold Klb
 simp only
 by_cases h:a.length=b.length
 ·rw [h,Kov,if_neg (by decide)]
  have:=Kuw a b (by omega) h a b 0 rfl rfl
  rw [show ((0:Nat):Int)=0 from rfl] at this
  rw [this]
  cases a == b <;> rfl
 ·rw [bne_iff_ne.2 (by omega),if_pos rfl]
  have:a ≠ b:=fun e=>h (by rw [e])
  rw [beq_eq_false_iff_ne.2 this]
theorem Kuy (a b:List Int) (ha:a.length ≤ 1099511627776) (hab:a.length=b.length):∀ (l r:List Int) (i:Nat),a.drop i=l→b.drop i=r→Ki0 (a,b,(i:Int))=some (if l == r then .inl () else .inr false):=by
 intro l
 induction l with
 | nil =>
  intro r i h1 h2
  have hi:=Kpx h1
  rw [Ki0.eq_def]
  simp only
  rw [Kou hi]
  have:r=[]:=by rw [← h2]; exact List.drop_eq_nil_of_le (by omega)
  subst this; rfl
 | cons x l ih =>
  intro r i h1 h2
  obtain ⟨hi,hx,hd⟩:=Kpw h1
  cases r with
  | nil=>have:=Kpx h2; omega
  | cons y r =>
   obtain ⟨_,hy,hd2⟩:=Kpw h2
   rw [Ki0.eq_def]
   simp only
   rw [Kot hi,if_pos rfl,hx,hy,bs,bs,Kos (by omega),ih r (i + 1) hd hd2,Kuv]
   by_cases e:x=y
   ·subst e; simp
   ·rw [bne_iff_ne.2 e,if_pos rfl,beq_eq_false_iff_ne.2 e]; rfl
theorem Kuz (a b:List Int) (hb:b.length ≤ 1099511627776):Ki3 (a,b)=some (a == b):=by
 unfold Ki3
 simp only
 by_cases h:a.length=b.length
 ·rw [h,Kov,if_neg (by decide)]
  have:=Kuy a b (by omega) h a b 0 rfl rfl
  rw [show ((0:Nat):Int)=0 from rfl] at this
  rw [this]
  cases a == b <;> rfl
 ·rw [bne_iff_ne.2 (by omega),if_pos rfl]
  have:a ≠ b:=fun e=>h (by rw [e])
  rw [beq_eq_false_iff_ne.2 this]
def vB:Ty→K01→Bool
 | .num,⟨op,N,ty,ks⟩=>op == 1 && inB N 0 2 && (ty.length:Int) == 0 && (ks.length:Int) == 0
 | .bin c a b,⟨op,N,ty,ks⟩ =>
  if c=1 then op == 4 && N == 0 && (ty.length:Int) == 0 && (match ks with | [k,m]=>vB a k && vB b m | _=>false)
  else N == 0 && (match ks with | [k]=>if op=6 then ty == b.code && vB a k else if op=7 then ty == a.code && vB b k else false | _=>false)
 | .un c a,⟨op,N,ty,ks⟩=>op == 11 && N == Kql c && (ty.length:Int) == 0 && (match ks with | [k]=>vB a k | _=>false)
theorem Kv0 (op N:Int) (ty:List Int) (ks:List K01):vB .num ⟨op,N,ty,ks⟩=(op == 1 && inB N 0 2 && (ty.length:Int) == 0 && (ks.length:Int) == 0):=rfl
theorem Kv1 (c:Int) (a b:Ty) (op N:Int) (ty:List Int) (ks:List K01):vB (.bin c a b) ⟨op,N,ty,ks⟩=(if c=1 then op == 4 && N == 0 && (ty.length:Int) == 0 && (match ks with | [k,m]=>vB a k && vB b m | _=>false)
  else N == 0 && (match ks with | [k]=>if op=6 then ty == b.code && vB a k else if op=7 then ty == a.code && vB b k else false | _=>false)):=rfl
theorem Kv2 (c:Int) (a:Ty) (op N:Int) (ty:List Int) (ks:List K01):vB (.un c a) ⟨op,N,ty,ks⟩=(op == 11 && N == Kql c && (ty.length:Int) == 0 && (match ks with | [k]=>vB a k | _=>false)):=rfl
theorem d20:((2:Int) == 0)=false:=rfl
theorem d21:((2:Int) == 1)=false:=rfl
theorem d22:((2:Int) == 2)=true:=rfl
theorem Kv3 (T:Ty):∀ v:K01,T.ok→T.dat→T.code.length ≤ 1048576→Ki9 (T.code,v)=some (vB T v):=by
 induction T with
 | num =>
  intro ⟨op,N,ty,ks⟩ _ _ _
  rw [Ki9.eq_def,Ty.code,Kv0]
  simp only [Kti,bs]
  rw [Kq6,Ku8,iIn]
  simp only [bs]
  cases op == 1 <;> cases inB N 0 2 <;> cases (ty.length:Int) == 0 <;> rfl
 | bin c a b iha ihb =>
  intro ⟨op,N,ty,ks⟩ h hd hl
  have P:=Ku7 h hl
  have la:=P.la
  rw [Ty.code,Ki9.eq_def]
  simp only [Kti,bs]
  rw [P.pp,Kv1,Kq6]
  simp only [bs]
  rcases Ku4 h.1 with ⟨rfl,e⟩ | ⟨rfl,e⟩ | ⟨h0,h1,_,e⟩
  ·rw [e,if_pos rfl]
   simp only [Kti,Ktj,bs]
   match ks with
   | []=>cases op == 4 <;> cases N == 0 <;> cases (ty.length:Int) == 0 <;> rfl
   | [k]=>cases op == 4 <;> cases N == 0 <;> cases (ty.length:Int) == 0 <;> rfl
   | [k,m] =>
    simp only [Kti,Ktj,bs,iha k P.ok.1 hd.2.1 (by omega),ihb m P.ok.2 hd.2.2 (by omega)]
    cases op == 4 <;> cases N == 0 <;> cases (ty.length:Int) == 0 <;> cases vB a k <;> cases vB b m <;> rfl
   | k :: m :: o :: ks =>
    have:(((k :: m :: o :: ks).length:Int) == 2)=false:=beq_eq_false_iff_ne.2 (by simp only [List.length_cons]; omega)
    rw [this]
    cases op == 4 <;> cases N == 0 <;> cases (ty.length:Int) == 0 <;> rfl
  ·rw [e,if_neg (by decide)]
   simp only [Kti,Ktj,bs,d20,d21,d22,Bool.false_eq_true,if_false,if_true]
   by_cases hN:N=0
   ·subst hN
    match ks with
    | []=>rfl
    | [k] =>
     by_cases h6:op=6
     ·subst h6
      have e1:wr (1 - 0)=1:=by decide
      have e0:wr (6 - 6)=0:=by decide
      refine (Kqq (x:=false) rfl).trans ?_
      simp only [Bool.false_eq_true,if_false,e1,e0,Kti,Ktj,bs]
      rw [Kuz ty b.code (by omega),iha k P.ok.1 hd.2.1 (by omega)]
      cases ty == b.code <;> rfl
     ·by_cases h7:op=7
      ·subst h7
       have e1:wr (1 - 1)=0:=by decide
       have e0:wr (7 - 6)=1:=by decide
       refine (Kqq (x:=false) rfl).trans ?_
       simp only [Bool.false_eq_true,if_false,e1,e0,Kti,Ktj,bs]
       rw [Kuz ty a.code (by omega),ihb k P.ok.2 hd.2.2 (by omega)]
       cases ty == a.code <;> rfl
      ·refine (Kqq (x:=true) (by rw [bne_iff_ne.2 h6,bne_iff_ne.2 h7]; rfl)).trans ?_
       show some false=some (if op=6 then ty == b.code && vB a k else if op=7 then ty == a.code && vB b k else false)
       rw [if_neg h6,if_neg h7]
    | k :: m :: ks =>
     have:(((k :: m :: ks).length:Int) != 1)=true:=bne_iff_ne.2 (by simp only [List.length_cons]; omega)
     rw [this]; rfl
   ·rw [bne_iff_ne.2 hN,beq_eq_false_iff_ne.2 hN]; rfl
  ·exact absurd hd.1 (by omega)
 | un c a ih =>
  intro ⟨op,N,ty,ks⟩ h hd hl
  have P:=unP h hl
  have la:=P.la
  obtain ⟨h0,h1,h2,e⟩:=Ku5 h.1
  rw [Ty.code,Ki9.eq_def]
  simp only [Kti,bs]
  rw [P.pp,Kv2,Kq6,e]
  simp only [bs]
  match ks with
  | []=>cases op == 11 <;> cases N == Kql c <;> cases (ty.length:Int) == 0 <;> rfl
  | [k] =>
   simp only [Kti,Ktj,bs,ih k P.ok hd (by omega)]
   cases op == 11 <;> cases N == Kql c <;> cases (ty.length:Int) == 0 <;> rfl
  | k :: m :: ks =>
   have:(((k :: m :: ks).length:Int) == 1)=false:=beq_eq_false_iff_ne.2 (by simp only [List.length_cons]; omega)
   rw [this]
   cases op == 11 <;> cases N == Kql c <;> cases (ty.length:Int) == 0 <;> rfl
theorem Kv4 {α:Type} {l:List α} (h:((l.length:Int) == 0)=true):l=[]:=by
 rw [beq_iff_eq] at h; exact List.length_eq_zero_iff.1 (by omega)
theorem Kv5 (g:Int→Bool) (y:List Int→Bool) (n:Nat) (op N:Int) (ty:List Int) (ks:List K01):tOk g y n ⟨op,N,ty,ks⟩=(Krh g y (n:Int) ⟨op,N,ty,ks⟩ && Kri g y op n 0 ks):=Krj ..
theorem Kv6 (g:Int→Bool) (y:List Int→Bool) (op:Int) (n i:Nat) (k:K01) (ks:List K01):Kri g y op n i (k :: ks)=(tOk g y (n + Krb op i) k && Kri g y op n (i + 1) ks):=by rw [Kri]
theorem Kv7 (g:Int→Bool) (y:List Int→Bool) (op:Int) (n i:Nat):Kri g y op n i []=true:=by rw [Kri]
structure Kv8 (g:Int→Bool) (y:List Int→Bool) (T:Ty):Prop where
 un:∀ c a,T=.un c a→g (Kql c)=true
 y:y T.code=true
def Kv9 (P:Ty→Prop):Ty→Prop
 | .num=>P .num
 | .bin c a b=>P (.bin c a b)∧Kv9 P a∧Kv9 P b
 | .un c a=>P (.un c a)∧Kv9 P a
theorem Kva {P:Ty→Prop} {T:Ty} (h:Kv9 P T):P T:=by cases T <;> first | exact h | exact h.1
theorem Kvb (op N:Int) (ty:List Int) (ks:List K01):tsz ⟨op,N,ty,ks⟩=1 + Kqr ks:=by rw [tsz]
theorem Kvc (g:Int→Bool) (y:List Int→Bool) (T:Ty):∀ (v:K01) (n:Nat),T.dat→Kv9 (Kv8 g y) T→vB T v=true→tOk g y n v=true∧tsz v ≤ T.code.length:=by
 induction T with
 | num =>
  intro ⟨op,N,ty,ks⟩ n _ hT h
  simp only [Kv0,Bool.and_eq_true] at h
  obtain ⟨⟨⟨h1,h2⟩,h3⟩,h4⟩:=h
  have h1:=eq_of_beq h1
  have h3:=Kv4 h3
  have h4:=Kv4 h4
  subst h1 h3 h4
  rw [Kv5,Kvb]
  refine ⟨?_,by simp [Kqr,Ty.code]⟩
  simp [Krh,Krf,Krg,h2,Kv7,show inB 1 0 12=true from rfl,Kr1,Kr3]
 | bin c a b iha ihb =>
  intro ⟨op,N,ty,ks⟩ n hd hT h
  rw [Kv1] at h
  rw [Ty.code,List.length_cons,List.length_append]
  rcases hd.1 with rfl | rfl
  ·rw [if_pos rfl] at h
   simp only [Bool.and_eq_true] at h
   obtain ⟨⟨⟨h1,h2⟩,h3⟩,h4⟩:=h
   have h1:=eq_of_beq h1
   have h2:=eq_of_beq h2
   have h3:=Kv4 h3
   subst h1 h2 h3
   match ks,h4 with
   | [k,m],h4 =>
    simp only [Bool.and_eq_true] at h4
    obtain ⟨p1,q1⟩:=iha k (n + Krb 4 0) hd.2.1 hT.2.1 h4.1
    obtain ⟨p2,q2⟩:=ihb m (n + Krb 4 1) hd.2.2 hT.2.2 h4.2
    rw [Kv5,Kvb,Kv6,Kv6,Kv7]
    refine ⟨?_,by simp only [Kqr]; omega⟩
    simp [Krh,Krf,Krg,inB,Kr1,Kr3,Kr2]
    exact ⟨p1,p2⟩
  ·rw [if_neg (by decide)] at h
   simp only [Bool.and_eq_true] at h
   obtain ⟨h2,h4⟩:=h
   have h2:=eq_of_beq h2
   subst h2
   match ks,h4 with
   | [k],h4 =>
    simp only at h4
    by_cases h6:op=6
    ·subst h6
     rw [if_pos rfl,Bool.and_eq_true] at h4
     obtain ⟨p1,q1⟩:=iha k (n + Krb 6 0) hd.2.1 hT.2.1 h4.2
     have h5:=eq_of_beq h4.1
     subst h5
     rw [Kv5,Kvb,Kv6,Kv7]
     refine ⟨?_,by simp only [Kqr]; omega⟩
     simp [Krh,Krf,Krg,inB,Kr1,Kr3,Kr2,(Kva hT.2.2).y]
     exact p1
    ·rw [if_neg h6] at h4
     by_cases h7:op=7
     ·subst h7
      rw [if_pos rfl,Bool.and_eq_true] at h4
      obtain ⟨p1,q1⟩:=ihb k (n + Krb 7 0) hd.2.2 hT.2.2 h4.2
      have h5:=eq_of_beq h4.1
      subst h5
      rw [Kv5,Kvb,Kv6,Kv7]
      refine ⟨?_,by simp only [Kqr]; omega⟩
      simp [Krh,Krf,Krg,inB,Kr1,Kr3,Kr2,(Kva hT.2.1).y]
      exact p1
     ·rw [if_neg h7] at h4; cases h4
 | un c a ih =>
  intro ⟨op,N,ty,ks⟩ n hd hT h
  simp only [Kv2,Bool.and_eq_true] at h
  obtain ⟨⟨⟨h1,h2⟩,h3⟩,h4⟩:=h
  have h1:=eq_of_beq h1
  have h2:=eq_of_beq h2
  have h3:=Kv4 h3
  subst h1 h2 h3
  rw [Ty.code,List.length_cons]
  match ks,h4 with
  | [k],h4 =>
   simp only at h4
   obtain ⟨p1,q1⟩:=ih k (n + Krb 11 0) hd hT.2 h4
   rw [Kv5,Kvb,Kv6,Kv7]
   refine ⟨?_,by simp only [Kqr]; omega⟩
   simp [Krh,Krf,Krg,inB,Kr1,Kr3,Kr2,hT.1.un c a rfl]
   exact p1
theorem Kvd {l:List K01} (h:((l.length:Int) == 1)=true):∃ k,l=[k]:=by
 rw [beq_iff_eq] at h; match l,h with | [k],_=>exact ⟨k,rfl⟩ | [],h=>exact absurd h (by simp) | _ :: _ :: _,h=>exact absurd h (by simp only [List.length_cons]; omega)
theorem Kve {l:List K01} (h:((l.length:Int) == 2)=true):∃ k m,l=[k,m]:=by
 rw [beq_iff_eq] at h; match l,h with | [k,m],_=>exact ⟨k,m,rfl⟩ | [],h=>exact absurd h (by simp) | [_],h=>exact absurd h (by simp) | _ :: _ :: _ :: _,h=>exact absurd h (by simp only [List.length_cons]; omega)
theorem Kvf (g:Int→Bool) (y:List Int→Bool) (T:Ty):∀ (v:K01) (n:Nat),T.ok→T.dat→T.code.length ≤ 1048576→tOk g y n v=true→Kle (T.code,v)=some (vB T v):=by
 induction T with
 | num =>
  intro ⟨op,N,ty,ks⟩ n _ _ _ hv
  rw [Kle.eq_def,Ty.code,Kv0]
  simp only [Kti,bs]
  by_cases h1:op=1
  ·subst h1
   rw [Kv5] at hv
   simp [Krh,Krf,Krg,Kr1,Kr3,Kri,inB] at hv
   simp [hv,inB]
  ·rw [beq_eq_false_iff_ne.2 h1]; rfl
 | bin c a b iha ihb =>
  intro ⟨op,N,ty,ks⟩ n h hd hl hv
  have P:=Ku7 h hl
  have la:=P.la
  rw [Ty.code,Kle.eq_def]
  simp only [Kti,bs]
  rw [P.p0,P.p1,Kv1]
  simp only [bs]
  rw [Kv5] at hv
  rcases hd.1 with rfl | rfl
  ·rw [if_pos rfl]
   by_cases h1:op=4
   ·subst h1
    simp [Krh,Krf,Krg,Kr1,Kr3,Kr2,inB] at hv
    obtain ⟨k,m,rfl⟩:=Kve (l:=ks) (beq_iff_eq.2 hv.1.1.1)
    rw [Kv6,Kv6,Bool.and_eq_true,Bool.and_eq_true] at hv
    rw [Kti,Ktj,bs,bs,iha k _ P.ok.1 hd.2.1 (by omega) hv.2.1,ihb m _ P.ok.2 hd.2.2 (by omega) hv.2.2.1]
    simp [hv.1.1.2,hv.1.2,bs]
    cases vB a k <;> rfl
   ·rw [beq_eq_false_iff_ne.2 h1]; rfl
  ·rw [if_neg (by decide)]
   simp only [d20,d21,d22,Bool.false_eq_true,if_false,if_true,bs]
   by_cases h6:op=6
   ·subst h6
    simp [Krh,Krf,Krg,Kr1,Kr3,Kr2,inB] at hv
    obtain ⟨k,rfl⟩:=Kvd (l:=ks) (beq_iff_eq.2 hv.1.1.1)
    rw [Kv6,Bool.and_eq_true] at hv
    simp only [Kti,bs]
    rw [Kux ty b.code (by omega),iha k _ P.ok.1 hd.2.1 (by omega) hv.2.1,hv.1.1.2]
    cases ty == b.code <;> cases vB a k <;> rfl
   ·by_cases h7:op=7
    ·subst h7
     simp [Krh,Krf,Krg,Kr1,Kr3,Kr2,inB] at hv
     obtain ⟨k,rfl⟩:=Kvd (l:=ks) (beq_iff_eq.2 hv.1.1.1)
     rw [Kv6,Bool.and_eq_true] at hv
     simp only [Kti,bs]
     rw [Kux ty a.code (by omega),ihb k _ P.ok.2 hd.2.2 (by omega) hv.2.1,hv.1.1.2]
     cases ty == a.code <;> cases vB b k <;> rfl
    ·rw [beq_eq_false_iff_ne.2 h6,beq_eq_false_iff_ne.2 h7]
     match ks with
     | []=>cases N == 0 <;> rfl
     | [k] =>
      show _=some (N == 0 && (if op=6 then ty == b.code && vB a k else if op=7 then ty == a.code && vB b k else false))
      rw [if_neg h6,if_neg h7]
      cases N == 0 <;> rfl
     | k :: m :: ks=>cases N == 0 <;> rfl
 | un c a ih =>
  intro ⟨op,N,ty,ks⟩ n h hd hl hv
  have P:=unP h hl
  have la:=P.la
  obtain ⟨h0,h1,h2,e⟩:=Ku5 h.1
  rw [Ty.code,Kle.eq_def]
  simp only [Kti,bs]
  rw [beq_eq_false_iff_ne.2 h0.1,beq_eq_false_iff_ne.2 h0.2.1,beq_eq_false_iff_ne.2 h0.2.2,P.p0,Kv2,Kqn (by rw [h.1]; decide)]
  simp only [bs]
  rw [Kv5] at hv
  by_cases q:op=11
  ·subst q
   simp [Krh,Krf,Krg,Kr1,Kr3,Kr2,inB] at hv
   obtain ⟨k,rfl⟩:=Kvd (l:=ks) (beq_iff_eq.2 hv.1.1.1)
   rw [Kv6,Bool.and_eq_true] at hv
   simp only [Kti,bs,Bool.false_eq_true,if_false]
   rw [ih k _ P.ok hd (by omega) hv.2.1,hv.1.2]
   cases N == Kql c <;> cases vB a k <;> rfl
  ·rw [beq_eq_false_iff_ne.2 q]; rfl
def Kvg (s:K00) (t:K01) (n:Nat):Bool:=Ksc s && decide (tsz t ≤ 400) && tOk (gN s.fSize true) (yN s.fSize true) n t
theorem Kvh (s:K00) (t:K01) (n:Nat) (hn:n ≤ 8) (ht:tms t ≤ 1099511627776):Kl4 (s,t,(n:Int))=some (Kvg s t n):=by
 unfold Kl4 Kvg
 simp only
 rw [Kse,bs]
 cases Ksc s
 ·rfl
 ·rw [if_pos rfl,sIn,bs]
  have:inB (n:Int) 0 8=true:=by unfold inB; rw [decide_eq_true (by omega),decide_eq_true (by omega)]; rfl
  have hl:=Kqz t 400 ht (by decide)
  rw [show ((400:Nat):Int)=400 from rfl] at hl
  rw [this,if_pos rfl,hl,bs]
  by_cases h:tsz t ≤ 400
  ·rw [Kqw h,decide_eq_true (by omega),decide_eq_true h,if_pos rfl,Krl _ _ t n ht (by omega)]
   cases tOk (gN s.fSize true) (yN s.fSize true) n t <;> rfl
  ·rw [Kqx h,decide_eq_false h]; rfl
theorem Kvi {s:K00} {T:Ty} (h:T.ok) (hl:T.code.length ≤ 40) (hc:T.code.all (Kqm s.fSize true)=true):Kv9 (Kv8 (gN s.fSize true) (yN s.fSize true)) T:=by
 have hy:∀ K:Ty,K.ok→K.code.length ≤ 40→K.code.all (Kqm s.fSize true)=true→yN s.fSize true K.code=true:=by
  intro K h1 h2 h3
  unfold yN
  rw [Kso h1 h2,h3]; rfl
 induction T with
 | num=>exact ⟨fun c a e=>(by cases e),hy _ h hl hc⟩
 | bin c a b iha ihb =>
  have hc':=hc
  have hl':=hl
  rw [Ty.code,List.length_cons,List.length_append] at hl'
  rw [Ty.code,List.all_cons,List.all_append,Bool.and_eq_true,Bool.and_eq_true] at hc'
  exact ⟨⟨fun c a e=>(by cases e),hy _ h hl hc⟩,iha h.2.1 (by omega) hc'.2.1,ihb h.2.2 (by omega) hc'.2.2⟩
 | un c a ih =>
  have hc':=hc
  have hl':=hl
  rw [Ty.code,List.length_cons] at hl'
  rw [Ty.code,List.all_cons,Bool.and_eq_true] at hc'
  refine ⟨⟨fun d e q=>?_,hy _ h hl hc⟩,ih h.2 (by omega) hc'.2⟩
  cases q
  have hk:=h.1
  have h1:=hc'.1
  have h3:c > 2:=by rcases Kq4 c with q | q | q | q <;> omega
  unfold Kqm at h1
  rw [hk,decide_eq_true h3] at h1
  unfold gN
  simp only [show decide ((1:Int) > 0)=true from rfl,Bool.true_and,Bool.not_eq_true',Bool.or_eq_false_iff,decide_eq_false_iff_not] at h1 ⊢
  refine ⟨⟨h1.1,by omega⟩,h1.2⟩
mutual
def put (u:K01):Int→K01→K01
 | d,⟨op,N,ty,ks⟩=>if op == 0 && N == d then shf d 0 u else ⟨op,if op == 0 && decide (N > d) then N - 1 else N,ty,Kvj u op d 0 ks⟩
def Kvj (u:K01):Int→Int→Nat→List K01→List K01
 | _,_,_,[]=>[]
 | op,d,j,k :: ks=>put u (d + ((Krb op (j:Int):Nat):Int)) k :: Kvj u op d (j + 1) ks
end
mutual
theorem Kvk {g:Int→Bool}:∀ (t:K01) (n:Nat),tOk g wtB n t=true→tms t + 3 ≤ 43 * tsz t + 3∧t.fKids.length ≤ 3
 | ⟨op,N,ty,ks⟩,n,h=>by
  obtain ⟨h1,h2⟩:=Krw h
  have h3:=(Krx h1).2
  have h4:=Krz h1
  have h5:=Kvl ks op n 0 h2
  have h6:Kr1 op ≤ 3:=by rcases Kr5 h4.1 with h | h | h | h | h | h | h | h | h | h | h | h | h <;> (simp only at h; subst h; decide)
  have h7:=h4.2
  simp only at h3 h7 ⊢
  rw [tms,tsz]; omega
theorem Kvl {g:Int→Bool}:∀ (ks:List K01) (op:Int) (n i:Nat),Kri g wtB op n i ks=true→Kqs ks ≤ 43 * Kqr ks
 | [],op,n,i,h=>by rw [Kqs]; omega
 | k :: ks,op,n,i,h=>by
  rw [Kv6,Bool.and_eq_true] at h
  have h1:=(Kvk k _ h.1).1
  have h2:=Kvl ks op n (i + 1) h.2
  rw [Kqs,Kqr]; omega
end
theorem Kvm (op N:Int) (ty:List Int) (a:K01):tsz ⟨op,N,ty,[a]⟩=1 + tsz a:=by simp [tsz,Kqr]
theorem Kvn (op N:Int) (ty:List Int) (a b:K01):tsz ⟨op,N,ty,[a,b]⟩=1 + (tsz a + tsz b):=by simp [tsz,Kqr]
theorem Kvo (op N:Int) (ty:List Int) (a b c:K01):tsz ⟨op,N,ty,[a,b,c]⟩=1 + (tsz a + (tsz b + tsz c)):=by simp [tsz,Kqr]
theorem Kvp {l:List K01} (h:(l.length:Int)=3):∃ a b c,l=[a,b,c]:=by
 match l,h with | [a,b,c],_=>exact ⟨a,b,c,rfl⟩ | [],h=>exact absurd h (by simp) | [_],h=>exact absurd h (by simp) | [_,_],h=>exact absurd h (by simp) | _ :: _ :: _ :: _ :: _,h=>exact absurd h (by simp only [List.length_cons]; omega)
end Go.Am
