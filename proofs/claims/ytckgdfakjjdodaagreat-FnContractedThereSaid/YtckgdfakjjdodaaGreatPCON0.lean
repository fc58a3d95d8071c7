/- Plain laws of the printed functions. -/
import Derived.Test.YtckgdfakjjdodaaGreatPCONx
set_option linter.unusedSimpArgs false
set_option linter.unusedVariables false
namespace Go.Am
theorem Kom {x:Int} (h1:-9223372036854775808 ≤ x) (h2:x ≤ 9223372036854775807):wr x=x:=by
 unfold wr IntKind.wrap
 simp [IntKind.bits,IntKind.signed]
 omega
theorem Kon {α:Type} {l:List α} {n:Nat} (h:n < l.length):idx l (n:Int)=some l[n]:=by
 unfold idx
 rw [if_pos (by omega)]
 simp [h]
theorem bs {α β:Type} (a:α) (f:α→Option β):(some a >>= f)=f a:=rfl
theorem Koo {n:Nat} (h:n < 9223372036854775807):wr ((n:Int) + 1)=((n + 1:Nat):Int):=by
 rw [Kom (by omega) (by omega)]; omega
theorem Kop {n m:Nat} (h:n < m):decide ((n:Int) < (m:Int))=true:=decide_eq_true (by omega)
theorem Koq {n m:Nat} (h:m ≤ n):decide ((n:Int) < (m:Int))=false:=decide_eq_false (by omega)
theorem Kor {a:Int}:(a != a)=false:=by simp
structure Tab (s:K02) (n:Nat):Prop where
 size:s.fSize=(n:Int)
 lo:2 ≤ n
 hi:n ≤ 16
 lp:s.fPlus.length=n * n
 lt:s.fTimes.length=n * n
 lb:s.fBelow.length=n * n
 rp:∀ i (h:i < s.fPlus.length),0 ≤ s.fPlus[i]∧s.fPlus[i] < (n:Int)
 rt:∀ i (h:i < s.fTimes.length),0 ≤ s.fTimes[i]∧s.fTimes[i] < (n:Int)
def pl (s:K02) (n a b:Nat):Nat:=(s.fPlus.getD (a * n + b) 0).toNat
def ti (s:K02) (n a b:Nat):Nat:=(s.fTimes.getD (a * n + b) 0).toNat
def le (s:K02) (n a b:Nat):Bool:=s.fBelow.getD (a * n + b) false
theorem Kos {n a b:Nat} (ha:a < n) (hb:b < n):a * n + b < n * n:=by
 have:(a + 1) * n ≤ n * n:=Nat.mul_le_mul_right _ (by omega)
 rw [Nat.add_mul,Nat.one_mul] at this
 omega
theorem Kot {n a b:Nat} (hn:n ≤ 16) (ha:a < n) (hb:b < n):wr ((wr ((a:Int) * (n:Int))) + (b:Int))=((a * n + b:Nat):Int):=by
 have h1:a * n ≤ 256:=Nat.le_trans (Nat.mul_le_mul (by omega:a ≤ 16) hn) (by decide)
 have e:(a:Int) * (n:Int)=((a * n:Nat):Int):=by simp
 rw [e]
 generalize a * n=m at h1
 rw [Kom (x:=(m:Int)) (by omega) (by omega),Kom (by omega) (by omega)]
 omega
section
variable {s:K02} {n:Nat} (h:Tab s n)
include h
theorem Kou {a b:Nat} (ha:a < n) (hb:b < n):pl s n a b < n:=by
 have hl:a * n + b < s.fPlus.length:=by rw [h.lp]; exact Kos ha hb
 unfold pl
 rw [List.getD_eq_getElem?_getD,List.getElem?_eq_getElem hl]
 have:=h.rp _ hl
 simp only [Option.getD_some]
 omega
theorem Kov {a b:Nat} (ha:a < n) (hb:b < n):ti s n a b < n:=by
 have hl:a * n + b < s.fTimes.length:=by rw [h.lt]; exact Kos ha hb
 unfold ti
 rw [List.getD_eq_getElem?_getD,List.getElem?_eq_getElem hl]
 have:=h.rt _ hl
 simp only [Option.getD_some]
 omega
theorem Kow {a b:Nat} (ha:a < n) (hb:b < n):idx s.fPlus ((a * n + b:Nat):Int)=some ((pl s n a b:Nat):Int):=by
 have hl:a * n + b < s.fPlus.length:=by rw [h.lp]; exact Kos ha hb
 rw [Kon hl]
 unfold pl
 rw [List.getD_eq_getElem?_getD,List.getElem?_eq_getElem hl]
 have:=h.rp _ hl
 simp only [Option.getD_some]
 congr 1
 omega
theorem Kox {a b:Nat} (ha:a < n) (hb:b < n):idx s.fTimes ((a * n + b:Nat):Int)=some ((ti s n a b:Nat):Int):=by
 have hl:a * n + b < s.fTimes.length:=by rw [h.lt]; exact Kos ha hb
 rw [Kon hl]
 unfold ti
 rw [List.getD_eq_getElem?_getD,List.getElem?_eq_getElem hl]
 have:=h.rt _ hl
 simp only [Option.getD_some]
 congr 1
 omega
theorem Koy {a b:Nat} (ha:a < n) (hb:b < n):idx s.fBelow ((a * n + b:Nat):Int)=some (le s n a b):=by
 have hl:a * n + b < s.fBelow.length:=by rw [h.lb]; exact Kos ha hb
 rw [Kon hl]
 unfold le
 rw [List.getD_eq_getElem?_getD,List.getElem?_eq_getElem hl]
 rfl
theorem Koz {a b:Nat} (ha:a < n) (hb:b < n):K9w (s,(a:Int),(b:Int))=some ((pl s n a b:Nat):Int):=by
 unfold K9w
 simp only
 rw [h.size,Kot h.hi ha hb,Kow h ha hb,bs]
theorem Kp0 {a b:Nat} (ha:a < n) (hb:b < n):K9z (s,(a:Int),(b:Int))=some ((ti s n a b:Nat):Int):=by
 unfold K9z
 simp only
 rw [h.size,Kot h.hi ha hb,Kox h ha hb,bs]
theorem sLe {a b:Nat} (ha:a < n) (hb:b < n):Ka2 (s,(a:Int),(b:Int))=some (le s n a b):=by
 unfold Ka2
 simp only
 rw [h.size,Kot h.hi ha hb,Koy h ha hb,bs]
theorem Kp1 {a b:Nat} (ha:a < n) (hb:b < n):Kn7 (s,(a:Int),(b:Int))=some ((pl s n a b:Nat):Int):=by
 unfold Kn7
 simp only
 rw [h.size,Kot h.hi ha hb,Kow h ha hb,bs]
theorem Kp2 {a b:Nat} (ha:a < n) (hb:b < n):Kn8 (s,(a:Int),(b:Int))=some ((ti s n a b:Nat):Int):=by
 unfold Kn8
 simp only
 rw [h.size,Kot h.hi ha hb,Kox h ha hb,bs]
theorem iLe {a b:Nat} (ha:a < n) (hb:b < n):Kn9 (s,(a:Int),(b:Int))=some (le s n a b):=by
 unfold Kn9
 simp only
 rw [h.size,Kot h.hi ha hb,Koy h ha hb,bs]
end
theorem Kp3 (x y:Nat):(((x:Nat):Int) == ((y:Nat):Int))=(x == y):=by
 cases hb:(x == y) with
 | true=>have:=eq_of_beq hb; subst this; simp
 | false=>simp at hb ⊢; omega
theorem Kp4 (x y:Nat):(((x:Nat):Int) != ((y:Nat):Int))=(x != y):=by
 simp only [bne,Kp3]
def Kp5 (s:K02) (n a:Nat):Bool:=(pl s n 0 a == a) && (ti s n 1 a == a) && (ti s n a 1 == a) && (ti s n 0 a == 0) && (ti s n a 0 == 0) && le s n a a
def Kp6 (s:K02) (n a b c:Nat):Bool :=
 (pl s n (pl s n a b) c == pl s n a (pl s n b c)) && (ti s n (ti s n a b) c == ti s n a (ti s n b c)) &&
 (ti s n a (pl s n b c) == pl s n (ti s n a b) (ti s n a c)) && (ti s n (pl s n a b) c == pl s n (ti s n a c) (ti s n b c)) &&
 (!(le s n a b) || ((!(le s n b c) || le s n a c) && le s n (pl s n a c) (pl s n b c) && le s n (ti s n a c) (ti s n b c) && le s n (ti s n c a) (ti s n c b)))
section
variable {s:K02} {n:Nat} (h:Tab s n)
include h
theorem Kp7 {a:Nat} (ha:a < n):Ka5 (s,(a:Int))=some (Kp5 s n a):=by
 have l0:(0:Nat) < n:=by have:=h.lo; omega
 have l1:(1:Nat) < n:=by have:=h.lo; omega
 have e0:(0:Int)=((0:Nat):Int):=rfl
 have e1:(1:Int)=((1:Nat):Int):=rfl
 unfold Ka5 Kp5
 simp only
 rw [e0,e1]
 simp only [Koz h l0 ha,Kp0 h l1 ha,Kp0 h ha l1,Kp0 h l0 ha,Kp0 h ha l0,sLe h ha ha,bs,Kp3]
 generalize (pl s n 0 a == a)=b1
 generalize (ti s n 1 a == a)=b2
 generalize (ti s n a 1 == a)=b3
 generalize (ti s n 0 a == 0)=b4
 generalize (ti s n a 0 == 0)=b5
 generalize le s n a a=b6
 cases b1 <;> cases b2 <;> cases b3 <;> cases b4 <;> cases b5 <;> cases b6 <;> rfl
theorem Kp8 {a b c:Nat} (ha:a < n) (hb:b < n) (hc:c < n):Kam (s,(a:Int),(b:Int),(c:Int))=some (Kp6 s n a b c):=by
 unfold Kam Kp6
 simp only
 simp only [Koz h,Kp0 h,sLe h,Kou h,Kov h,ha,hb,hc,bs,Kp4]
 generalize e1:pl s n (pl s n a b) c=x1
 generalize e2:pl s n a (pl s n b c)=x2
 generalize e3:ti s n (ti s n a b) c=x3
 generalize e4:ti s n a (ti s n b c)=x4
 generalize ti s n a (pl s n b c)=x5
 generalize pl s n (ti s n a b) (ti s n a c)=x6
 generalize ti s n (pl s n a b) c=x7
 generalize pl s n (ti s n a c) (ti s n b c)=x8
 generalize le s n (pl s n a c) (pl s n b c)=y1
 generalize le s n (ti s n a c) (ti s n b c)=y2
 generalize le s n (ti s n c a) (ti s n c b)=y3
 generalize le s n a b=y4
 generalize le s n b c=y5
 generalize le s n a c=y6
 simp only [bne]
 generalize (x1 == x2)=b1
 generalize (x3 == x4)=b2
 generalize (x5 == x6)=b3
 generalize (x7 == x8)=b4
 cases b1 <;> cases b2 <;> cases b3 <;> cases b4 <;> first | rfl | (cases y4 <;> cases y5 <;> cases y6 <;> cases y1 <;> cases y2 <;> cases y3 <;> rfl)
end
def Kp9 (s:K02) (n a b g h:Nat):Bool:=!le s n a h || !le s n b h || le s n g h
def jok (s:K02) (n a b g:Nat):Bool:=le s n a g && le s n b g && (List.range' 0 n).all (Kp9 s n a b g)
def Kpa (s:K02) (n a b:Nat):Int:=match (List.range' 0 n).find? (jok s n a b) with | some g=>(g:Int) | none=>-1
section
variable {s:K02} {n:Nat} (h:Tab s n)
include h
theorem Kpb {a b g:Nat} (ha:a < n) (hb:b < n) (hg:g < n):∀ (k m:Nat) (ok:Bool),m + k=n→Ka9 (s,(a:Int),(b:Int),(g:Int),ok,(m:Int))=some (ok && (List.range' m k).all (Kp9 s n a b g)):=by
 have hhi:=h.hi
 intro k
 induction k with
 | zero =>
  intro m ok hm
  rw [Ka9.eq_def]
  simp only
  rw [h.size,Koq (by omega)]
  simp [bs]
 | succ k ih =>
  intro m ok hm
  rw [Ka9.eq_def]
  simp only
  rw [h.size,Kop (by omega),if_pos rfl,bs,sLe h ha (by omega),sLe h hb (by omega),sLe h hg (by omega)]
  cases ok with
  | false=>rfl
  | true =>
   rw [if_pos rfl]
   rw [List.range'_succ,List.all_cons]
   have ih:∀ ok,_:=fun ok=>ih (m + 1) ok (by omega)
   rw [Koo (by omega)]
   generalize ((m + 1:Nat):Int)=M at ih ⊢
   simp only [bs,Kp9]
   cases le s n a m <;> cases le s n b m <;> cases le s n g m <;> simp [bs,ih,Kp9]
theorem Kpc {a b g:Nat} (ha:a < n) (hb:b < n) (hg:g < n):∀ (k m:Nat) (ok:Bool),m + k=n→Kna (s,(a:Int),(b:Int),(g:Int),ok,(m:Int))=some (ok && (List.range' m k).all (Kp9 s n a b g)):=by
 have hhi:=h.hi
 intro k
 induction k with
 | zero =>
  intro m ok hm
  rw [Kna.eq_def]
  simp only
  rw [h.size,Koq (by omega)]
  simp [bs]
 | succ k ih =>
  intro m ok hm
  rw [Kna.eq_def]
  simp only
  rw [h.size,Kop (by omega),if_pos rfl,iLe h ha (by omega),iLe h hb (by omega),iLe h hg (by omega)]
  rw [List.range'_succ,List.all_cons]
  have ih:∀ ok,_:=fun ok=>ih (m + 1) ok (by omega)
  rw [Koo (by omega)]
  generalize ((m + 1:Nat):Int)=M at ih ⊢
  simp only [bs,Kp9]
  cases ok <;> cases le s n a m <;> cases le s n b m <;> cases le s n g m <;> simp [bs,ih,Kp9]
theorem Kpd {a b:Nat} (ha:a < n) (hb:b < n):∀ (k g:Nat),g + k=n→Kad (s,(a:Int),(b:Int),(g:Int))=some (match (List.range' g k).find? (jok s n a b) with | some g=>.inr (g:Int) | none=>.inl ()):=by
 have hhi:=h.hi
 intro k
 induction k with
 | zero =>
  intro g hm
  rw [Kad.eq_def]
  simp only
  rw [h.size,Koq (by omega)]
  rfl
 | succ k ih =>
  intro g hm
  rw [Kad.eq_def]
  simp only
  rw [h.size,Kop (by omega),if_pos rfl,sLe h ha (by omega),sLe h hb (by omega)]
  have ih:=ih (g + 1) (by omega)
  rw [Koo (by omega),List.range'_succ,List.find?_cons]
  have hl:=fun ok=>Kpb h ha hb (g:=g) (by omega) n 0 ok (by omega)
  rw [show ((0:Nat):Int)=0 from rfl] at hl
  generalize ((g + 1:Nat):Int)=M at ih ⊢
  have hj:jok s n a b g=(le s n a g && le s n b g && (List.range' 0 n).all (Kp9 s n a b g)):=rfl
  rw [hj]
  cases le s n a g <;> cases le s n b g <;> cases hq:(List.range' 0 n).all (Kp9 s n a b g) <;> simp [bs,hl,hq,ih]
theorem Kpe {a b:Nat} (ha:a < n) (hb:b < n):∀ (k g:Nat),g + k=n→Knb (s,(a:Int),(b:Int),(g:Int))=some (match (List.range' g k).find? (jok s n a b) with | some g=>.inr (g:Int) | none=>.inl ()):=by
 have hhi:=h.hi
 intro k
 induction k with
 | zero =>
  intro g hm
  rw [Knb.eq_def]
  simp only
  rw [h.size,Koq (by omega)]
  rfl
 | succ k ih =>
  intro g hm
  rw [Knb.eq_def]
  simp only
  rw [h.size,Kop (by omega),if_pos rfl,iLe h ha (by omega),iLe h hb (by omega)]
  have ih:=ih (g + 1) (by omega)
  rw [Koo (by omega),List.range'_succ,List.find?_cons]
  have hl:=fun ok=>Kpc h ha hb (g:=g) (by omega) n 0 ok (by omega)
  rw [show ((0:Nat):Int)=0 from rfl] at hl
  generalize ((g + 1:Nat):Int)=M at ih ⊢
  have hj:jok s n a b g=(le s n a g && le s n b g && (List.range' 0 n).all (Kp9 s n a b g)):=rfl
  rw [hj]
  cases le s n a g <;> cases le s n b g <;> cases hq:(List.range' 0 n).all (Kp9 s n a b g) <;> simp [bs,hl,hq,ih]
theorem Kpf {a b:Nat} (ha:a < n) (hb:b < n):Kag (s,(a:Int),(b:Int))=some (Kpa s n a b):=by
 unfold Kag Kpa
 simp only
 have:=Kpd h ha hb n 0 (by omega)
 rw [show ((0:Nat):Int)=0 from rfl] at this
 rw [this,bs]
 cases (List.range' 0 n).find? (jok s n a b) <;> rfl
theorem Kpg {a b:Nat} (ha:a < n) (hb:b < n):Knc (s,(a:Int),(b:Int))=some (Kpa s n a b):=by
 unfold Knc Kpa
 simp only
 have:=Kpe h ha hb n 0 (by omega)
 rw [show ((0:Nat):Int)=0 from rfl] at this
 rw [this,bs]
 cases (List.range' 0 n).find? (jok s n a b) <;> rfl
def Kph (s:K02) (n a b:Nat):Bool:=(pl s n a b == pl s n b a) && ((a == b) || !le s n a b || !le s n b a) && decide (Kpa s n a b ≥ 0)
theorem Kpi {a b:Nat} (ha:a < n) (hb:b < n):Kaj (s,(a:Int),(b:Int))=some (Kph s n a b):=by
 unfold Kaj Kph
 simp only
 rw [Koz h ha hb,Koz h hb ha,sLe h ha hb,sLe h hb ha,Kpf h ha hb]
 simp only [bs,Kp3]
 generalize (pl s n a b == pl s n b a)=b1
 generalize (a == b)=b2
 cases b1 <;> cases b2 <;> cases le s n a b <;> cases le s n b a <;> simp [bs]
end
def inB (x lo hi:Int):Bool:=decide (x ≥ lo) && decide (x ≤ hi)
theorem sIn (x lo hi:Int):K8n (x,lo,hi)=some (inB x lo hi):=by
 unfold K8n inB
 simp only
 cases decide (x ≥ lo) <;> simp [bs]
theorem iIn (x lo hi:Int):Kiy (x,lo,hi)=some (inB x lo hi):=by
 unfold Kiy inB
 simp only
 cases decide (x ≥ lo) <;> simp [bs]
def Kpj (s:K02) (n:Nat):Bool:=(List.range' 0 n).all fun a=>Kp5 s n a && (List.range' 0 n).all fun b=>Kph s n a b && (List.range' 0 n).all fun c=>Kp6 s n a b c
section
variable {s:K02} {n:Nat} (h:Tab s n)
include h
theorem Kpk {a b:Nat} (ha:a < n) (hb:b < n):∀ (k c:Nat),c + k=n→Kaq (s,(a:Int),(b:Int),(c:Int))=some (if (List.range' c k).all (fun c=>Kp6 s n a b c) then .inl () else .inr false):=by
 have hhi:=h.hi
 intro k
 induction k with
 | zero =>
  intro c hm
  rw [Kaq.eq_def]
  simp only
  rw [h.size,Koq (by omega)]
  rfl
 | succ k ih =>
  intro c hm
  rw [Kaq.eq_def]
  simp only
  rw [h.size,Kop (by omega),if_pos rfl,Kp8 h ha hb (by omega),bs]
  have ih:=ih (c + 1) (by omega)
  rw [Koo (by omega),List.range'_succ,List.all_cons]
  generalize ((c + 1:Nat):Int)=M at ih ⊢
  generalize (List.range' (c + 1) k).all (fun c=>Kp6 s n a b c)=r at ih ⊢
  cases Kp6 s n a b c <;> cases r <;> simp [ih]
theorem Kpl {a:Nat} (ha:a < n):∀ (k b:Nat),b + k=n→Kaw (s,(a:Int),(b:Int))=some (if (List.range' b k).all (fun b=>Kph s n a b && (List.range' 0 n).all fun c=>Kp6 s n a b c) then .inl () else .inr false):=by
 have hhi:=h.hi
 intro k
 induction k with
 | zero =>
  intro c hm
  rw [Kaw.eq_def]
  simp only
  rw [h.size,Koq (by omega)]
  rfl
 | succ k ih =>
  intro b hm
  rw [Kaw.eq_def]
  simp only
  have hl:=Kpk h ha (b:=b) (by omega) n 0 (by omega)
  rw [show ((0:Nat):Int)=0 from rfl] at hl
  rw [h.size,Kop (by omega),if_pos rfl,Kpi h ha (by omega),bs,hl]
  have ih:=ih (b + 1) (by omega)
  rw [Koo (by omega),List.range'_succ,List.all_cons]
  generalize ((b + 1:Nat):Int)=M at ih ⊢
  generalize (List.range' (b + 1) k).all (fun b=>Kph s n a b && (List.range' 0 n).all fun c=>Kp6 s n a b c)=r at ih ⊢
  cases Kph s n a b <;> cases (List.range' 0 n).all (fun c=>Kp6 s n a b c) <;> cases r <;> simp [ih,bs]
theorem Kpm:∀ (k a:Nat),a + k=n→Kb0 (s,(a:Int))=some (if (List.range' a k).all (fun a=>Kp5 s n a && (List.range' 0 n).all fun b=>Kph s n a b && (List.range' 0 n).all fun c=>Kp6 s n a b c) then .inl () else .inr false):=by
 have hhi:=h.hi
 intro k
 induction k with
 | zero =>
  intro c hm
  rw [Kb0.eq_def]
  simp only
  rw [h.size,Koq (by omega)]
  rfl
 | succ k ih =>
  intro a hm
  have ha:a < n:=by omega
  rw [Kb0.eq_def]
  simp only
  have hl:=Kpl h ha n 0 (by omega)
  rw [show ((0:Nat):Int)=0 from rfl] at hl
  rw [h.size,Kop (by omega),if_pos rfl,Kp7 h ha,bs,hl]
  have ih:=ih (a + 1) (by omega)
  rw [Koo (by omega),List.range'_succ,List.all_cons]
  generalize ((a + 1:Nat):Int)=M at ih ⊢
  generalize (List.range' (a + 1) k).all (fun a=>Kp5 s n a && (List.range' 0 n).all fun b=>Kph s n a b && (List.range' 0 n).all fun c=>Kp6 s n a b c)=r at ih ⊢
  cases Kp5 s n a <;> cases (List.range' 0 n).all (fun b=>Kph s n a b && (List.range' 0 n).all fun c=>Kp6 s n a b c) <;> cases r <;> simp [ih,bs]
end
theorem Kpn {α:Type} {l r:List α} {x:α} {i:Nat} (h:l.drop i=x :: r):i < l.length∧idx l (i:Int)=some x∧l.drop (i + 1)=r:=by
 have hi:i < l.length:=by
  rcases Nat.lt_or_ge i l.length with h' | h'
  ·exact h'
  ·rw [List.drop_eq_nil_of_le h'] at h; cases h
 have e:=List.drop_eq_getElem_cons hi
 rw [h] at e
 obtain ⟨e1,e2⟩:=List.cons.inj e
 exact ⟨hi,by rw [Kon hi,e1],e2.symm⟩
theorem Kpo {α:Type} {l:List α} {i:Nat} (h:l.drop i=[]):l.length ≤ i:=by
 rcases Nat.lt_or_ge i l.length with h' | h'
 ·rw [List.drop_eq_getElem_cons h'] at h; cases h
 ·exact h'
def Kpp (c:Int):Bool:=inB c 3 18 || c == 35
def Kpq (c:Int):Bool:=inB c 19 34 || c == 36
def Kpr (c:Int):Int:=if c == 0 then 0 else if c == 1 || c == 2 || Kpp c then 2 else if Kpq c then 1 else -1
theorem Kps (c:Int):Kcn c=some (Kpp c):=by
 unfold Kcn Kpp
 simp only [sIn,bs]
 cases inB c 3 18 <;> rfl
theorem Kpt (c:Int):Kcq c=some (Kpq c):=by
 unfold Kcq Kpq
 simp only [sIn,bs]
 cases inB c 19 34 <;> rfl
theorem Kpu (c:Int):Kct c=some (Kpr c):=by
 unfold Kct Kpr
 simp only [Kps,Kpt,bs]
 cases c == 0 <;> cases c == 1 <;> cases c == 2 <;> cases Kpp c <;> cases Kpq c <;> rfl
theorem Kpv (c:Int):(c=0∧Kpr c=0)∨((c=1∨c=2∨(3 ≤ c∧c ≤ 18)∨c=35)∧Kpr c=2)∨(((19 ≤ c∧c ≤ 34)∨c=36)∧Kpr c=1)∨((c < 0∨36 < c)∧Kpr c=-1):=by
 unfold Kpr Kpp Kpq inB
 by_cases h0:c=0
 ·left; subst h0; exact ⟨rfl,rfl⟩
 ·right
  have e0:(c == 0)=false:=by simpa using h0
  by_cases h1:c=1∨c=2∨(3 ≤ c∧c ≤ 18)∨c=35
  ·left
   refine ⟨h1,?_⟩
   have:(c == 1 || c == 2 || (decide (c ≥ 3) && decide (c ≤ 18) || c == 35))=true:=by
    simp only [Bool.or_eq_true,Bool.and_eq_true,beq_iff_eq,decide_eq_true_eq]; omega
   rw [e0,this]; rfl
  ·right
   have q:(c == 1 || c == 2 || (decide (c ≥ 3) && decide (c ≤ 18) || c == 35))=false:=by
    rw [Bool.eq_false_iff]; intro h
    simp only [Bool.or_eq_true,Bool.and_eq_true,beq_iff_eq,decide_eq_true_eq] at h; omega
   rw [e0,q]
   by_cases h2:(19 ≤ c∧c ≤ 34)∨c=36
   ·left
    refine ⟨h2,?_⟩
    have:(decide (c ≥ 19) && decide (c ≤ 34) || c == 36)=true:=by
     simp only [Bool.or_eq_true,Bool.and_eq_true,beq_iff_eq,decide_eq_true_eq]; omega
    rw [this]; rfl
   ·right
    refine ⟨by omega,?_⟩
    have:(decide (c ≥ 19) && decide (c ≤ 34) || c == 36)=false:=by
     rw [Bool.eq_false_iff]; intro h
     simp only [Bool.or_eq_true,Bool.and_eq_true,beq_iff_eq,decide_eq_true_eq] at h; omega
    rw [this]; rfl
def Kpw (c:Int):Int × Int :=
 if inB c 0 2 then (c,-1) else if inB c 3 18 then (3,c - 3) else if inB c 19 34 then (4,c - 19) else if c == 35 then (3,-1) else if c == 36 then (4,-1) else (5,-1)
theorem Kpx (c:Int):Kj7 c=some (Kpw c):=by
 unfold Kj7 Kpw
 simp only [iIn,bs]
 cases h1:inB c 0 2
 ·cases h2:inB c 3 18
  ·cases h3:inB c 19 34
   ·cases c == 35 <;> cases c == 36 <;> rfl
   ·simp only [inB,Bool.and_eq_true,decide_eq_true_eq] at h3
    simp only [Bool.false_eq_true,if_false,if_true]
    rw [Kom (by omega) (by omega)]
  ·simp only [inB,Bool.and_eq_true,decide_eq_true_eq] at h2
   simp only [Bool.false_eq_true,if_false,if_true]
   rw [Kom (by omega) (by omega)]
 ·rfl
theorem Kpy (c:Int):(c=0∧Kpw c=(0,-1))∨(c=1∧Kpw c=(1,-1))∨(c=2∧Kpw c=(2,-1))∨((3 ≤ c∧c ≤ 18)∧Kpw c=(3,c - 3))∨(c=35∧Kpw c=(3,-1)) ∨
  ((19 ≤ c∧c ≤ 34)∧Kpw c=(4,c - 19))∨(c=36∧Kpw c=(4,-1))∨((c < 0∨36 < c)∧Kpw c=(5,-1)):=by
 have inT:∀ lo hi,lo ≤ c→c ≤ hi→inB c lo hi=true:=fun lo hi h1 h2=>by simp only [inB,Bool.and_eq_true,decide_eq_true_eq]; omega
 have inF:∀ lo hi,(c < lo∨hi < c)→inB c lo hi=false:=fun lo hi h=>by rw [Bool.eq_false_iff]; intro h'; simp only [inB,Bool.and_eq_true,decide_eq_true_eq] at h'; omega
 unfold Kpw
 by_cases h0:0 ≤ c∧c ≤ 2
 ·rw [inT 0 2 h0.1 h0.2]
  have:c=0∨c=1∨c=2:=by omega
  rcases this with rfl | rfl | rfl <;> simp
 ·rw [inF 0 2 (by omega)]
  by_cases h1:3 ≤ c∧c ≤ 18
  ·rw [inT 3 18 h1.1 h1.2]
   exact .inr (.inr (.inr (.inl ⟨h1,rfl⟩)))
  ·rw [inF 3 18 (by omega)]
   by_cases h2:19 ≤ c∧c ≤ 34
   ·rw [inT 19 34 h2.1 h2.2]
    exact .inr (.inr (.inr (.inr (.inr (.inl ⟨h2,rfl⟩)))))
   ·rw [inF 19 34 (by omega)]
    by_cases h3:c=35
    ·subst h3; simp
    ·by_cases h4:c=36
     ·subst h4; simp
     ·have e3:(c == 35)=false:=by simpa using h3
      have e4:(c == 36)=false:=by simpa using h4
      rw [e3,e4]
      refine .inr (.inr (.inr (.inr (.inr (.inr (.inr ⟨by omega,rfl⟩))))))
def skip:Nat→List Int→Option (List Int)
 | 0,l=>some l
 | _ + 1,[]=>none
 | m + 1,c :: l=>if Kpr c=-1 then none else skip (m + (Kpr c).toNat) l
theorem Kpz (l:List Int):skip 0 l=some l:=by cases l <;> rfl
theorem Kq0 (m:Nat):skip (m + 1) []=none:=rfl
theorem Kq1 (m:Nat) (c:Int) (l:List Int):skip (m + 1) (c :: l)=if Kpr c=-1 then none else skip (m + (Kpr c).toNat) l:=rfl
theorem Kq2 (l:List Int):∀ (m k:Nat),skip (m + k) l=(skip m l).bind (skip k):=by
 induction l with
 | nil =>
  intro m k
  cases m with
  | zero=>rw [Nat.zero_add,Kpz]; rfl
  | succ m=>rw [show m + 1 + k=(m + k) + 1 by omega,Kq0,Kq0]; rfl
 | cons c l ih =>
  intro m k
  cases m with
  | zero=>rw [Nat.zero_add,Kpz]; rfl
  | succ m =>
   rw [show m + 1 + k=(m + k) + 1 by omega,Kq1,Kq1]
   by_cases h:Kpr c=-1
   ·rw [if_pos h,if_pos h]; rfl
   ·rw [if_neg h,if_neg h,← ih]; congr 1; omega
theorem Kq3 (l:List Int):∀ (m:Nat) (r:List Int),skip m l=some r→∃ p,l=p ++ r∧m ≤ p.length:=by
 induction l with
 | nil =>
  intro m r h
  cases m with
  | zero=>rw [Kpz] at h; cases h; exact ⟨[],rfl,Nat.le_refl _⟩
  | succ m=>rw [Kq0] at h; cases h
 | cons c l ih =>
  intro m r h
  cases m with
  | zero=>rw [Kpz] at h; cases h; exact ⟨[],rfl,Nat.le_refl _⟩
  | succ m =>
   rw [Kq1] at h
   by_cases hk:Kpr c=-1
   ·rw [if_pos hk] at h; cases h
   ·rw [if_neg hk] at h
    obtain ⟨p,e,hp⟩:=ih _ _ h
    exact ⟨c :: p,by rw [e]; rfl,by simp; omega⟩
def Kq4 (ty:List Int) (m i:Nat):Int:=match skip m (ty.drop i) with | some r=>((ty.length - r.length:Nat):Int) | none=>-1
theorem Kq5 (ty:List Int) (hty:ty.length ≤ 1099511627776):∀ (l:List Int) (i m:Nat),ty.drop i=l→m ≤ 1099511627776 + 2 * i→∃ x,Kcx (ty,((m + 1:Nat):Int),(i:Int))=some x∧(match x with | .inl ()=>-1 | .inr r=>r)=Kq4 ty (m + 1) i:=by
 intro l
 induction l with
 | nil =>
  intro i m hl hm
  rw [Kcx.eq_def]
  simp only
  rw [Koq (Kpo hl)]
  exact ⟨.inl (),rfl,by unfold Kq4; rw [hl,Kq0]⟩
 | cons c l ih =>
  intro i m hl hm
  obtain ⟨hi,hx,hd⟩:=Kpn hl
  have hi2:(i:Int) < 1099511627776:=by omega
  rw [Kcx.eq_def]
  simp only
  rw [Kop hi,if_pos rfl,hx,bs,Kpu,bs]
  have he:Kq4 ty (m + 1) i=(match (if Kpr c=-1 then none else skip (m + (Kpr c).toNat) l) with | some r=>((ty.length - r.length:Nat):Int) | none=>-1):=by
   unfold Kq4; rw [hl,Kq1]
  rw [he]
  by_cases hk:Kpr c=-1
  ·rw [if_pos hk,hk]
   exact ⟨.inr (-1),rfl,rfl⟩
  ·rw [if_neg hk]
   have hk0:0 ≤ Kpr c∧Kpr c ≤ 2:=by rcases Kpv c with h | h | h | h <;> omega
   obtain ⟨k,hkk⟩:∃ k:Nat,Kpr c=(k:Int):=⟨(Kpr c).toNat,by omega⟩
   rw [decide_eq_false (by omega),if_neg (by decide),hkk,Int.toNat_natCast]
   rw [Kom (x:=((m + 1:Nat):Int) - 1) (by omega) (by omega),show ((m + 1:Nat):Int) - 1=(m:Int) by omega,Kom (x:=(m:Int) + (k:Int)) (by omega) (by omega),Koo (by omega)]
   by_cases h0:m + k=0
   ·rw [show ((m:Int) + (k:Int) == 0)=true by simp; omega,if_pos rfl,h0,Kpz]
    refine ⟨_,rfl,?_⟩
    have:l.length=ty.length - (i + 1):=by rw [← hd,List.length_drop]
    simp only
    omega
   ·rw [show ((m:Int) + (k:Int) == 0)=false by simp; omega,if_neg (by decide)]
    obtain ⟨q,hq⟩:∃ q,m + k=q + 1:=⟨m + k - 1,by omega⟩
    have:=ih (i + 1) q hd (by omega)
    rw [show (m:Int) + (k:Int)=((q + 1:Nat):Int) by omega]
    obtain ⟨x,h1,h2⟩:=this
    exact ⟨x,h1,by rw [h2,hq]; unfold Kq4; rw [hd]⟩
theorem Kq6 (ty:List Int) (hty:ty.length ≤ 1099511627776) (i:Nat) (hi:i ≤ ty.length):Kd0 (ty,(i:Int))=some (Kq4 ty 1 i):=by
 unfold Kd0
 obtain ⟨x,h1,h2⟩:=Kq5 ty hty _ i 0 rfl (by omega)
 simp only
 rw [show (1:Int)=((0 + 1:Nat):Int) from rfl,h1,bs]
 rw [← h2]
 cases x <;> rfl
theorem Kq7 (ty:List Int) (i:Nat) (hi:i ≤ ty.length):Kq4 ty 2 i=(if Kq4 ty 1 i=-1 then -1 else Kq4 ty 1 (Kq4 ty 1 i).toNat):=by
 unfold Kq4
 rw [show 2=1 + 1 from rfl,Kq2]
 cases h:skip 1 (ty.drop i) with
 | none=>simp
 | some r =>
  obtain ⟨p,hp,hl⟩:=Kq3 _ _ _ h
  have hlen:ty.length - i=p.length + r.length:=by rw [← List.length_drop,hp,List.length_append]
  have:ty.drop (ty.length - r.length)=r:=by
   have e:ty.drop (ty.length - r.length)=(ty.drop i).drop p.length:=by rw [List.drop_drop]; congr 1; omega
   rw [e,hp,List.drop_left]
  simp only [Option.bind_some]
  rw [if_neg (by omega),Int.toNat_natCast,this]
theorem Kq8 (ty:List Int) (hty:ty.length ≤ 1099511627776):∀ (d i:Nat),ty.length - i=d→Kja (ty,(i:Int))=some (Kq4 ty 1 i):=by
 intro d
 induction d using Nat.strongRecOn with
 | ind d ih =>
  intro i hd
  rw [Kja.eq_def]
  simp only
  rw [decide_eq_false (by omega:¬ (i:Int) < 0)]
  simp only [Bool.false_eq_true,if_false,bs]
  by_cases hi:i < ty.length
  ·rw [decide_eq_false (by omega),if_neg (by decide),Kon hi,bs,Kpx,bs]
   have hdr:=List.drop_eq_getElem_cons hi
   have he:∀ k:Nat,Kpr ty[i]=(k:Int)→Kq4 ty 1 i=Kq4 ty k (i + 1):=fun k hk=>by
    unfold Kq4
    rw [hdr,show 1=0 + 1 from rfl,Kq1,hk,if_neg (by omega),Int.toNat_natCast,Nat.zero_add]
   have hn:Kpr ty[i]=-1→Kq4 ty 1 i=-1:=fun hk=>by
    unfold Kq4
    rw [hdr,show 1=0 + 1 from rfl,Kq1,if_pos hk]
   have i1:=ih (ty.length - (i + 1)) (by omega) (i + 1) rfl
   have hz:∀ i:Nat,i ≤ ty.length→Kq4 ty 0 i=(i:Int):=fun i hi=>by unfold Kq4; rw [Kpz]; simp only [List.length_drop]; omega
   rw [Koo (by omega)]
   have two:Kpr ty[i]=2→((Kja (ty,((i + 1:Nat):Int))) >>= fun r_11_4=>(Kja (ty,r_11_4)) >>= fun r_11_5=>some r_11_5)=some (Kq4 ty 1 i):=fun hk=>by
    rw [i1,bs,he 2 hk,Kq7 ty (i + 1) (by omega)]
    by_cases h1:Kq4 ty 1 (i + 1)=-1
    ·rw [h1,if_pos rfl,Kja.eq_def]; rfl
    ·rw [if_neg h1]
     obtain ⟨e,hee,hlo⟩:∃ e:Nat,Kq4 ty 1 (i + 1)=(e:Int)∧i + 1 < e:=by
      unfold Kq4 at h1 ⊢
      cases hs:skip 1 (ty.drop (i + 1)) with
      | none=>rw [hs] at h1; exact absurd rfl h1
      | some r =>
       obtain ⟨p,hp,hl⟩:=Kq3 _ _ _ hs
       have hlen:ty.length - (i + 1)=p.length + r.length:=by rw [← List.length_drop,hp,List.length_append]
       exact ⟨_,rfl,by omega⟩
     rw [hee,Int.toNat_natCast,ih (ty.length - e) (by omega) e rfl,bs]
   rcases Kpy ty[i] with ⟨h,e⟩ | ⟨h,e⟩ | ⟨h,e⟩ | ⟨h,e⟩ | ⟨h,e⟩ | ⟨h,e⟩ | ⟨h,e⟩ | ⟨h,e⟩ <;> rw [e] <;> simp only []
   ·have hk:Kpr ty[i]=0:=by rcases Kpv ty[i] with h | h | h | h <;> omega
    rw [if_pos (by rfl),he 0 hk,hz _ (by omega)]
   ·have hk:Kpr ty[i]=2:=by rcases Kpv ty[i] with h | h | h | h <;> omega
    exact two hk
   ·have hk:Kpr ty[i]=2:=by rcases Kpv ty[i] with h | h | h | h <;> omega
    exact two hk
   ·have hk:Kpr ty[i]=2:=by rcases Kpv ty[i] with h | h | h | h <;> omega
    exact two hk
   ·have hk:Kpr ty[i]=2:=by rcases Kpv ty[i] with h | h | h | h <;> omega
    exact two hk
   ·have hk:Kpr ty[i]=1:=by rcases Kpv ty[i] with h | h | h | h <;> omega
    rw [he 1 hk,if_neg (by decide),if_pos (by rfl),i1,bs]
   ·have hk:Kpr ty[i]=1:=by rcases Kpv ty[i] with h | h | h | h <;> omega
    rw [he 1 hk,if_neg (by decide),if_pos (by rfl),i1,bs]
   ·have hk:Kpr ty[i]=-1:=by rcases Kpv ty[i] with h | h | h | h <;> omega
    rw [hn hk]; rfl
  ·rw [decide_eq_true (by omega),if_pos rfl]
   unfold Kq4
   rw [List.drop_eq_nil_of_le (by omega),Kq0]
def wtB (ty:List Int):Bool:=decide (ty.length ≤ 40) && (skip 1 ty == some [])
theorem Kq9 (ty:List Int):(Kq4 ty 1 0 == (ty.length:Int))=(skip 1 ty == some []):=by
 unfold Kq4
 rw [List.drop_zero]
 cases h:skip 1 ty with
 | none=>simp
 | some r =>
  obtain ⟨p,hp,hl⟩:=Kq3 _ _ _ h
  have hlen:ty.length=p.length + r.length:=by rw [hp,List.length_append]
  cases r with
  | nil=>simp
  | cons x xs =>
   simp only [List.length_cons] at hlen ⊢
   simp
   omega
theorem Kqa (ty:List Int) (hty:ty.length ≤ 1099511627776):Khf ty=some (wtB ty):=by
 unfold Khf wtB
 by_cases h:ty.length ≤ 40
 ·rw [decide_eq_true (by omega:(ty.length:Int) ≤ 40),if_pos rfl,show (0:Int)=((0:Nat):Int) from rfl,Kq6 ty hty 0 (by omega),bs,Kq9,decide_eq_true h]
  cases hs:skip 1 ty == some [] with
  | false=>rfl
  | true =>
   have:0 < ty.length:=by
    rcases ty with _ | ⟨c,l⟩
    ·rw [show skip 1 []=none from rfl] at hs; cases hs
    ·simp
   rw [if_pos rfl,decide_eq_true (by omega:(ty.length:Int) > ((0:Nat):Int))]; rfl
 ·rw [decide_eq_false (by omega:¬ (ty.length:Int) ≤ 40),decide_eq_false h]; rfl
theorem Kqb (ty:List Int) (hty:ty.length ≤ 1099511627776):Kjd ty=some (wtB ty):=by
 unfold Kjd wtB
 rw [iIn,bs]
 by_cases h:ty.length ≤ 40
 ·rw [decide_eq_true h]
  by_cases h1:1 ≤ ty.length
  ·have:inB (ty.length:Int) 1 40=true:=by simp only [inB,Bool.and_eq_true,decide_eq_true_eq]; omega
   rw [this,if_pos rfl,show (0:Int)=((0:Nat):Int) from rfl,Kq8 ty hty _ 0 rfl,bs,Kq9]; rfl
  ·have:inB (ty.length:Int) 1 40=false:=by rw [Bool.eq_false_iff]; intro h'; simp only [inB,Bool.and_eq_true,decide_eq_true_eq] at h'; omega
   have e:ty=[]:=List.length_eq_zero_iff.1 (by omega)
   rw [this,e]; rfl
 ·have:inB (ty.length:Int) 1 40=false:=by rw [Bool.eq_false_iff]; intro h'; simp only [inB,Bool.and_eq_true,decide_eq_true_eq] at h'; omega
  rw [this,decide_eq_false h]; rfl
def Kqc (c:Int):Int:=if 35 ≤ c then -1 else if 19 ≤ c then c - 19 else c - 3
def Kqd (size:Int) (closed:Bool) (c:Int):Bool:=!(decide (Kpr c > 0) && decide (c > 2) && (decide (Kqc c ≥ size) || closed && decide (Kqc c < 0)))
theorem Kqe {c:Int} (h:Kpr c > 0):Kd9 c=some (Kqc c):=by
 have:0 ≤ c∧c ≤ 36:=by rcases Kpv c with h | h | h | h <;> omega
 unfold Kd9 Kqc
 by_cases h1:35 ≤ c
 ·rw [decide_eq_true (by omega:c ≥ 35),if_pos rfl,if_pos h1]
 ·rw [decide_eq_false (by omega:¬ c ≥ 35),if_neg (by decide),if_neg h1]
  by_cases h2:19 ≤ c
  ·rw [decide_eq_true (by omega:c ≥ 19),if_pos rfl,if_pos h2,Kom (by omega) (by omega)]
  ·rw [decide_eq_false (by omega:¬ c ≥ 19),if_neg (by decide),if_neg h2,Kom (by omega) (by omega)]
theorem Kqf (ty:List Int) (hty:ty.length ≤ 1099511627776) (size:Int) (cl:Bool):∀ (l:List Int) (i:Nat),ty.drop i=l→Khk (ty,size,cl,(i:Int))=some (if l.all (Kqd size cl) then .inl () else .inr false):=by
 intro l
 induction l with
 | nil =>
  intro i hl
  rw [Khk.eq_def]
  simp only
  rw [Koq (Kpo hl)]; rfl
 | cons c l ih =>
  intro i hl
  obtain ⟨hi,hx,hd⟩:=Kpn hl
  rw [Khk.eq_def]
  simp only
  rw [Kop hi,if_pos rfl,hx,bs,bs,Kpu,bs,Koo (by omega)]
  have ih:=ih (i + 1) hd
  generalize ((i + 1:Nat):Int)=M at ih ⊢
  rw [List.all_cons]
  unfold Kqd at ih ⊢
  by_cases hk:Kpr c > 0
  ·simp only [bs,Kqe hk]
   rw [decide_eq_true hk]
   generalize Kqc c=g at ih ⊢
   cases decide (c > 2) <;> cases decide (g ≥ size) <;> cases cl <;> cases decide (g < 0) <;> simp [bs,ih]
  ·rw [decide_eq_false hk]; simp [bs,ih]
theorem Kqg (ty:List Int) (hty:ty.length ≤ 1099511627776) (size:Int) (cl:Bool):Khn (ty,size,cl)=some (ty.all (Kqd size cl)):=by
 unfold Khn
 simp only
 rw [show (0:Int)=((0:Nat):Int) from rfl,Kqf ty hty size cl _ 0 rfl,List.drop_zero,bs]
 cases ty.all (Kqd size cl) <;> rfl
theorem Kqh (c:Int):Kqd 16 false c=true:=by
 unfold Kqd Kqc
 rcases Kpv c with ⟨h,e⟩ | ⟨h,e⟩ | ⟨h,e⟩ | ⟨h,e⟩ <;> rw [e] <;> simp <;> split <;> (try split) <;> omega
theorem Kqi {α β:Type} {a:Option α} {f:α→Option β} {x:α} (h:a=some x):(a >>= f)=f x:=by rw [h]; rfl
mutual
def tsz:K00→Nat
 | ⟨_,_,_,ks⟩=>1 + Kqj ks
def Kqj:List K00→Nat
 | []=>0
 | k :: ks=>tsz k + Kqj ks
end
mutual
def tms:K00→Nat
 | ⟨_,_,ty,ks⟩=>ty.length + ks.length + Kqk ks
def Kqk:List K00→Nat
 | []=>0
 | k :: ks=>tms k + Kqk ks
end
theorem Kql (t:K00):tms t=t.fType.length + t.fKids.length + Kqk t.fKids:=by cases t; rw [tms]
theorem Kqm (t:K00):tsz t=1 + Kqj t.fKids:=by cases t; rw [tsz]
def Kqn (left n:Nat):Int:=if n ≤ left then ((left - n:Nat):Int) else -1
theorem Kqo {left n:Nat} (h:n ≤ left):Kqn left n=((left - n:Nat):Int):=if_pos h
theorem Kqp {left n:Nat} (h:¬ n ≤ left):Kqn left n=-1:=if_neg h
theorem Kqq (t:K00) (i:Int):Kfx (t,-1,i)=some (-1):=by
 rw [Kfx.eq_def]
 simp only
 cases decide (i < (t.fKids.length:Int)) <;> rfl
mutual
theorem Kqr:∀ (t:K00) (left:Nat),tms t ≤ 1099511627776→left ≤ 1048576→Kfw (t,(left:Int))=some (Kqn left (tsz t))
 | ⟨op,N,ty,ks⟩,left,ht,hl=>by
  rw [tms] at ht
  rw [Kfw.eq_def,tsz]
  simp only
  rcases left with _ | l
  ·rw [show wr (((0:Nat):Int) - 1)=-1 from Kom (by omega) (by omega),Kqq,bs,Kqp (by omega)]
  ·have h:=Kqs ks ⟨op,N,ty,ks⟩ 0 l rfl (by simp only; omega) (by omega) (by omega)
   rw [Kom (by omega) (by omega),show ((l + 1:Nat):Int) - 1=(l:Int) by omega,show (0:Int)=((0:Nat):Int) from rfl,h,bs]
   unfold Kqn
   by_cases q:Kqj ks ≤ l
   ·rw [if_pos q,if_pos (by omega),show l + 1 - (1 + Kqj ks)=l - Kqj ks by omega]
   ·rw [if_neg q,if_neg (by omega)]
theorem Kqs:∀ (ks:List K00) (t:K00) (i left:Nat),t.fKids.drop i=ks→t.fKids.length ≤ 1099511627776→Kqk ks ≤ 1099511627776→left ≤ 1048576→Kfx (t,(left:Int),(i:Int))=some (Kqn left (Kqj ks))
 | [],t,i,left,hd,hk,ht,hl=>by
  rw [Kfx.eq_def,Kqj]
  simp only
  rw [Koq (Kpo hd)]
  simp [bs,Kqn]
 | k :: ks,t,i,left,hd,hk,ht,hl=>by
  obtain ⟨hi,hx,hd'⟩:=Kpn hd
  rw [Kqk] at ht
  rw [Kfx.eq_def,Kqj]
  simp only
  rw [Kop hi,if_pos rfl,bs,decide_eq_true (by omega:((left:Nat):Int) ≥ 0),if_pos rfl,hx,bs,Kqr k left (by omega) hl,bs,Koo (by omega)]
  by_cases q:tsz k ≤ left
  ·rw [Kqo q,Kqs ks t (i + 1) (left - tsz k) hd' hk (by omega) (by omega)]
   unfold Kqn
   by_cases q2:Kqj ks ≤ left - tsz k
   ·rw [if_pos q2,if_pos (by omega)]; congr 2; omega
   ·rw [if_neg q2,if_neg (by omega)]
  ·rw [Kqp q,Kqq,Kqp (by omega)]
end
def Kqt (op:Int):Int:=if inB op 0 12 then ([0,0,2,3,2,2,1,1,3,1,2,1,2]:List Int).getD op.toNat 0 else -1
def Kqu (op:Int):Bool:=op == 5 || op == 8 || op == 9 || op == 11 || op == 12
def Kqv (op:Int):Bool:=op == 6 || op == 7 || op == 9
def Kqw (op:Int):ByteArray:=([ByteArray.mk #[120],ByteArray.empty,ByteArray.mk #[97,100,100],ByteArray.mk #[105,102],ByteArray.mk #[112,97,105,114],ByteArray.mk #[115,112,108,105,116],ByteArray.mk #[108,101,102,116],
 ByteArray.mk #[114,105,103,104,116],ByteArray.mk #[99,97,115,101],ByteArray.mk #[102,117,110],ByteArray.mk #[97,112,112],ByteArray.mk #[98,111,120],ByteArray.mk #[111,112,101,110]]:List ByteArray).getD op.toNat ByteArray.empty
theorem Kqx {op:Int} (h:inB op 0 12=true):op=0∨op=1∨op=2∨op=3∨op=4∨op=5∨op=6∨op=7∨op=8∨op=9∨op=10∨op=11∨op=12:=by
 simp only [inB,Bool.and_eq_true,decide_eq_true_eq] at h
 omega
theorem Kqy (op:Int):Kh9 op=some (Kqt op):=by
 unfold Kh9 Kqt
 rw [sIn,bs]
 cases h:inB op 0 12
 ·rfl
 ·rcases Kqx h with rfl | rfl | rfl | rfl | rfl | rfl | rfl | rfl | rfl | rfl | rfl | rfl | rfl <;> rfl
theorem Kqz (op:Int):Kgd op=some (Kqu op):=by
 unfold Kgd Kqu
 cases op == 5 <;> cases op == 8 <;> cases op == 9 <;> cases op == 11 <;> rfl
theorem Kr0 (op:Int):Khc op=some (Kqv op):=by
 unfold Khc Kqv
 cases op == 6 <;> cases op == 7 <;> rfl
def Kr1 (op:Int):K04 × Bool:=if inB op 0 12 then (K04.mk (Kqw op) (Kqt op) (Kqu op) (Kqv op),true) else (K04.mk ByteArray.empty 0 false false,false)
theorem Kr2 (op:Int):Kj1 op=some (Kr1 op):=by
 unfold Kj1 Kr1
 rw [iIn,bs]
 cases h:inB op 0 12
 ·rfl
 ·rcases Kqx h with rfl | rfl | rfl | rfl | rfl | rfl | rfl | rfl | rfl | rfl | rfl | rfl | rfl <;> rfl
def Kr3 (op kid:Int):Nat:=if op == 5 && kid == 1 then 2 else if (op == 8 && decide (kid > 0)) || op == 9 || (op == 12 && kid == 1) then 1 else 0
theorem Kr4 (op kid:Int):Kr3 op kid ≤ 2:=by unfold Kr3; split <;> (try split) <;> omega
theorem Kr5 (op kid:Int):Kev (op,kid)=some ((Kr3 op kid:Nat):Int):=by
 unfold Kev Kr3
 simp only
 generalize (op == 5)=b1
 generalize (op == 8)=b2
 generalize (op == 9)=b3
 generalize (op == 12)=b4
 generalize (kid == 1)=b5
 generalize decide (kid > 0)=b6
 cases b1 <;> cases b2 <;> cases b3 <;> cases b4 <;> cases b5 <;> cases b6 <;> rfl
theorem Kr6 (op kid:Int):Kjg (op,kid)=some ((Kr3 op kid:Nat):Int):=by
 unfold Kjg Kr3
 simp only
 generalize (op == 5)=b1
 generalize (op == 8)=b2
 generalize (op == 9)=b3
 generalize (op == 12)=b4
 generalize (kid == 1)=b5
 generalize decide (kid > 0)=b6
 cases b1 <;> cases b2 <;> cases b3 <;> cases b4 <;> cases b5 <;> cases b6 <;> rfl
def Kr7 (g:Int→Bool) (n:Int) (t:K00):Bool:=if t.fOp == 0 then inB t.fN 0 (n - 1) else if t.fOp == 1 then inB t.fN 0 2 else if Kqu t.fOp then g t.fN else t.fN == 0
def Kr8 (y:List Int→Bool) (t:K00):Bool:=if Kqv t.fOp then y t.fType else (t.fType.length:Int) == 0
def Kr9 (g:Int→Bool) (y:List Int→Bool) (n:Int) (t:K00):Bool:=inB t.fOp 0 12 && ((t.fKids.length:Int) == Kqt t.fOp) && Kr7 g n t && Kr8 y t
mutual
def tOk (g:Int→Bool) (y:List Int→Bool):Nat→K00→Bool
 | n,⟨op,N,ty,ks⟩=>Kr9 g y (n:Int) ⟨op,N,ty,ks⟩ && Kra g y op n 0 ks
def Kra (g:Int→Bool) (y:List Int→Bool):Int→Nat→Nat→List K00→Bool
 | _,_,_,[]=>true
 | op,n,i,k :: ks=>tOk g y (n + Kr3 op (i:Int)) k && Kra g y op n (i + 1) ks
end
theorem Krb (g:Int→Bool) (y:List Int→Bool) (n:Nat) (t:K00):tOk g y n t=(Kr9 g y (n:Int) t && Kra g y t.fOp n 0 t.fKids):=by cases t; rw [tOk]
def gN (size:Int) (cl:Bool) (x:Int):Bool:=!(decide (x ≥ size) || decide (x < -1) || cl && decide (x < 0))
def yN (size:Int) (cl:Bool) (ty:List Int):Bool:=wtB ty && ty.all (Kqd size cl)
theorem Krc (t:K00) (n:Nat) (size:Int) (cl:Bool) (hty:t.fType.length ≤ 1099511627776) (hn:n ≤ 35184372088832):Kht (t,(n:Int),size,cl)=some (Kr9 (gN size cl) (yN size cl) (n:Int) t):=by
 unfold Kht Kr9
 simp only
 rw [Kqy,bs]
 by_cases hk:(t.fKids.length:Int)=Kqt t.fOp
 ·have hop:inB t.fOp 0 12=true:=by
   cases h:inB t.fOp 0 12
   ·unfold Kqt at hk; rw [h] at hk; simp at hk
   ·rfl
  rw [show ((t.fKids.length:Int) != Kqt t.fOp)=false by rw [hk]; exact Kor,if_neg (by decide),show ((t.fKids.length:Int) == Kqt t.fOp)=true by rw [hk]; simp,hop]
  refine (Kqi (x:=if Kr7 (gN size cl) (n:Int) t then .inl () else .inr false) ?_).trans ?_
  ·unfold Kr7 gN
   rw [sIn,Kom (by omega) (by omega),sIn,Kqz]
   simp only [bs]
   generalize inB t.fN 0 ((n:Int) - 1)=b1
   generalize inB t.fN 0 2=b2
   generalize Kqu t.fOp=b3
   rw [show (t.fN != 0)=!(t.fN == 0) from rfl]
   generalize (t.fN == 0)=b4
   generalize decide (t.fN ≥ size)=b5
   generalize decide (t.fN < -1)=b6
   generalize decide (t.fN < 0)=b7
   generalize (t.fOp == 0)=b8
   generalize (t.fOp == 1)=b9
   cases b8
   ·cases b9
    ·cases b3
     ·cases b4 <;> rfl
     ·cases b5 <;> cases b6 <;> cases cl <;> cases b7 <;> rfl
    ·cases b2 <;> rfl
   ·cases b1 <;> rfl
  ·cases Kr7 (gN size cl) (n:Int) t
   ·simp
   ·unfold Kr8 yN
    simp only [if_true]
    rw [Kr0,bs]
    cases Kqv t.fOp
    ·simp
    ·simp only [if_true]
     rw [Kqa _ hty,Kqg _ hty]
     cases wtB t.fType <;> simp [bs]
 ·rw [show ((t.fKids.length:Int) != Kqt t.fOp)=true by simpa using hk,if_pos rfl,show ((t.fKids.length:Int) == Kqt t.fOp)=false by simpa using hk]
  simp
mutual
theorem Krd (size:Int) (cl:Bool):∀ (t:K00) (n:Nat),tms t ≤ 1099511627776→n + 2 * tms t ≤ 35184372088832→Khx (t,(n:Int),size,cl)=some (tOk (gN size cl) (yN size cl) n t)
 | ⟨op,N,ty,ks⟩,n,ht,hn=>by
  rw [tms] at ht hn
  rw [Khx.eq_def,tOk]
  simp only
  rw [Krc _ n size cl (by simp only; omega) (by omega),bs]
  cases hb:Kr9 (gN size cl) (yN size cl) (n:Int) ⟨op,N,ty,ks⟩
  ·rfl
  ·have h:=Kre size cl ks ⟨op,N,ty,ks⟩ n 0 rfl (by simp only; omega) (by omega) (by omega)
   rw [if_pos rfl,show (0:Int)=((0:Nat):Int) from rfl,h,bs]
   simp only
   cases Kra (gN size cl) (yN size cl) op n 0 ks <;> rfl
theorem Kre (size:Int) (cl:Bool):∀ (ks:List K00) (t:K00) (n i:Nat),t.fKids.drop i=ks→t.fKids.length ≤ 1099511627776→Kqk ks ≤ 1099511627776→n + 2 * (ks.length + Kqk ks) ≤ 35184372088832 →
  Khy (t,(n:Int),size,cl,(i:Int))=some (if Kra (gN size cl) (yN size cl) t.fOp n i ks then .inl () else .inr false)
 | [],t,n,i,hd,hk,ht,hn=>by
  rw [Khy.eq_def,Kra]
  simp only
  rw [Koq (Kpo hd)]; rfl
 | k :: ks,t,n,i,hd,hk,ht,hn=>by
  obtain ⟨hi,hx,hd'⟩:=Kpn hd
  rw [Kqk] at ht hn
  rw [List.length_cons] at hn
  have ha:=Kr4 t.fOp (i:Int)
  rw [Khy.eq_def,Kra]
  simp only
  rw [Kop hi,if_pos rfl,hx,bs,Kr5,bs,Kom (by omega) (by omega),show (n:Int) + ((Kr3 t.fOp (i:Int):Nat):Int)=((n + Kr3 t.fOp (i:Int):Nat):Int) by omega]
  rw [Krd size cl k (n + Kr3 t.fOp (i:Int)) (by omega) (by omega),bs,Koo (by omega)]
  cases tOk (gN size cl) (yN size cl) (n + Kr3 t.fOp (i:Int)) k
  ·rfl
  ·rw [if_pos rfl,Kre size cl ks t n (i + 1) hd' hk (by omega) (by omega),Bool.true_and]
end
def Krf (ok:Bool) (nodes sz:Nat):Int:=if ok && decide (nodes + sz ≤ 400) then ((nodes + sz:Nat):Int) else 401
theorem iWs (x:Int):Kj4 x=some (gN 16 false x):=by
 unfold Kj4
 rw [iIn,bs]
 congr 1
 unfold gN inB
 by_cases h1:x ≥ 16 <;> by_cases h2:x < -1 <;> simp [h1,h2] <;> omega
mutual
theorem Krg:∀ (t:K00) (n nodes:Nat),tms t ≤ 1099511627776→n + 2 * tms t ≤ 35184372088832→nodes ≤ 400→Kjl (t,(n:Int),(nodes:Int))=some (Krf (tOk (gN 16 false) wtB n t) nodes (tsz t))
 | ⟨op,N,ty,ks⟩,n,nodes,ht,hn,hd=>by
  rw [tms] at ht hn
  rw [Kjl.eq_def,tOk,tsz]
  simp only
  rw [Kr2,bs]
  unfold Kr1
  cases hop:inB op 0 12
  ·simp [Kr9,hop,Krf]
  ·simp only [if_true]
   rw [Koo (by omega)]
   by_cases h4:nodes + 1 ≤ 400
   ·rw [decide_eq_false (by omega:¬ ((nodes + 1:Nat):Int) > 400)]
    by_cases hk:(ks.length:Int)=Kqt op
    ·rw [show ((ks.length:Int) != Kqt op)=false by rw [hk]; exact Kor]
     simp only [Bool.false_eq_true,if_false,bs]
     refine (Kqi (x:=Kr7 (gN 16 false) (n:Int) ⟨op,N,ty,ks⟩) ?_).trans ?_
     ·unfold Kr7
      simp only [iIn,Kom (x:=(n:Int) - 1) (by omega) (by omega),iWs,bs]
      cases op == 0 <;> cases op == 1 <;> cases Kqu op <;> rfl
     refine (Kqi (x:=Kr7 (gN 16 false) (n:Int) ⟨op,N,ty,ks⟩ && Kr8 wtB ⟨op,N,ty,ks⟩) ?_).trans ?_
     ·unfold Kr8
      simp only [Kqb ty (by omega),bs]
      cases Kqv op <;> cases Kr7 (gN 16 false) (n:Int) ⟨op,N,ty,ks⟩ <;> rfl
     have e:Kr9 (gN 16 false) wtB (n:Int) ⟨op,N,ty,ks⟩=(Kr7 (gN 16 false) (n:Int) ⟨op,N,ty,ks⟩ && Kr8 wtB ⟨op,N,ty,ks⟩):=by
      unfold Kr9
      simp only
      rw [hop,hk]; simp
     rw [e]
     cases Kr7 (gN 16 false) (n:Int) ⟨op,N,ty,ks⟩ && Kr8 wtB ⟨op,N,ty,ks⟩
     ·simp [Krf]
     ·have h:=Krh ks ⟨op,N,ty,ks⟩ n (nodes + 1) 0 rfl (by simp only; omega) (by omega) (by omega) h4
      rw [if_pos rfl,show (0:Int)=((0:Nat):Int) from rfl,h]
      simp only [Bool.true_and]
      unfold Krf
      rw [show nodes + (1 + Kqj ks)=nodes + 1 + Kqj ks by omega]
      cases Kra (gN 16 false) wtB op n 0 ks && decide (nodes + 1 + Kqj ks ≤ 400) <;> rfl
    ·rw [show ((ks.length:Int) != Kqt op)=true by simpa using hk]
     have e:Kr9 (gN 16 false) wtB (n:Int) ⟨op,N,ty,ks⟩=false:=by
      unfold Kr9
      simp only
      rw [show ((ks.length:Int) == Kqt op)=false by simpa using hk]; simp
     simp [e,Krf]
   ·rw [decide_eq_true (by omega:((nodes + 1:Nat):Int) > 400)]
    have:¬ nodes + (1 + Kqj ks) ≤ 400:=by omega
    simp [Krf,this]
theorem Krh:∀ (ks:List K00) (t:K00) (n nodes i:Nat),t.fKids.drop i=ks→t.fKids.length ≤ 1099511627776→Kqk ks ≤ 1099511627776→n + 2 * (ks.length + Kqk ks) ≤ 35184372088832→nodes ≤ 400 →
  Kjm (t,(n:Int),(nodes:Int),(i:Int))=some (if Kra (gN 16 false) wtB t.fOp n i ks && decide (nodes + Kqj ks ≤ 400) then .inl ((nodes + Kqj ks:Nat):Int) else .inr 401)
 | [],t,n,nodes,i,hd,hk,ht,hn,h4=>by
  rw [Kjm.eq_def,Kra,Kqj]
  simp only
  rw [Koq (Kpo hd)]
  simp [h4]
 | k :: ks,t,n,nodes,i,hd,hk,ht,hn,h4=>by
  obtain ⟨hi,hx,hd'⟩:=Kpn hd
  rw [Kqk] at ht hn
  rw [List.length_cons] at hn
  have ha:=Kr4 t.fOp (i:Int)
  rw [Kjm.eq_def,Kra,Kqj]
  simp only
  rw [Kop hi,if_pos rfl,hx,bs,Kr6,bs,Kom (by omega) (by omega),show (n:Int) + ((Kr3 t.fOp (i:Int):Nat):Int)=((n + Kr3 t.fOp (i:Int):Nat):Int) by omega]
  rw [Krg k (n + Kr3 t.fOp (i:Int)) nodes (by omega) (by omega) h4,bs,Koo (by omega)]
  unfold Krf
  cases tOk (gN 16 false) wtB (n + Kr3 t.fOp (i:Int)) k
  ·rfl
  ·by_cases q:nodes + tsz k ≤ 400
   ·rw [decide_eq_true q,Bool.true_and,if_pos rfl,decide_eq_false (by omega:¬ ((nodes + tsz k:Nat):Int) > 400),if_neg (by decide),Krh ks t n (nodes + tsz k) (i + 1) hd' hk (by omega) (by omega) q,Nat.add_assoc,Bool.true_and]
   ·rw [decide_eq_false q,decide_eq_false (by omega:¬ nodes + (tsz k + Kqj ks) ≤ 400)]
    simp
end
theorem Kri (ty:List Int):yN 16 false ty=wtB ty:=by
 unfold yN
 have:ty.all (Kqd 16 false)=true:=by rw [List.all_eq_true]; intro x _; exact Kqh x
 rw [this,Bool.and_true]
def wB (t:K00):Bool:=tOk (gN 16 false) wtB 8 t && decide (tsz t ≤ 400)
theorem Krj (t:K00) (ht:tms t ≤ 1099511627776):Kjs t=some (Krf (tOk (gN 16 false) wtB 8 t) 0 (tsz t)):=by
 unfold Kjs
 have:=Krg t 8 0 ht (by omega) (by omega)
 rw [show ((8:Nat):Int)=8 from rfl,show ((0:Nat):Int)=0 from rfl] at this
 rw [this,bs]
theorem Krk (t:K00) (ht:tms t ≤ 1099511627776):Kjv t=some (wB t):=by
 unfold Kjv
 rw [Krj t ht,bs]
 unfold Krf wB
 rw [Nat.zero_add]
 congr 1
 cases h:tOk (gN 16 false) wtB 8 t && decide (tsz t ≤ 400)
 ·rfl
 ·simp only [Bool.and_eq_true,decide_eq_true_eq] at h
  rw [if_pos rfl,decide_eq_true (by omega)]
theorem Krl (t:K00) (ht:tms t ≤ 1099511627776):Ki4 t=some (wB t):=by
 unfold Ki4 wB
 have h1:=Kqr t 400 ht (by omega)
 have h2:=Krd 16 false t 8 ht (by omega)
 rw [show ((400:Nat):Int)=400 from rfl] at h1
 rw [show ((8:Nat):Int)=8 from rfl,show yN 16 false=wtB from funext Kri] at h2
 rw [h1,bs,h2]
 unfold Kqn
 by_cases q:tsz t ≤ 400
 ·rw [if_pos q,decide_eq_true (by omega:(((400 - tsz t:Nat)):Int) ≥ 0),decide_eq_true q,Bool.and_true]; rfl
 ·rw [if_neg q,decide_eq_false q,Bool.and_false]; rfl
mutual
def tln:K00→Prop
 | ⟨_,N,ty,ks⟩=>ty.length ≤ 9223372036854775807∧ks.length ≤ 9223372036854775807∧Krm ks∧(-9223372036854775808 ≤ N∧N ≤ 9223372036854775807)
def Krm:List K00→Prop
 | []=>True
 | k :: ks=>tln k∧Krm ks
end
theorem Krn (l:List Int):∀ (m:Nat),skip m l=some []→∀ c ∈ l,0 ≤ c∧c ≤ 36:=by
 induction l with
 | nil=>intro m h c hc; cases hc
 | cons x l ih =>
  intro m h c hc
  cases m with
  | zero=>rw [Kpz] at h; cases h
  | succ m =>
   rw [Kq1] at h
   by_cases hk:Kpr x=-1
   ·rw [if_pos hk] at h; cases h
   ·rw [if_neg hk] at h
    rcases List.mem_cons.1 hc with rfl | hc
    ·rcases Kpv c with q | q | q | q <;> omega
    ·exact ih _ h c hc
theorem Kro {ty:List Int} (h:wtB ty=true):∀ c ∈ ty,0 ≤ c∧c ≤ 36:=by
 unfold wtB at h
 rw [Bool.and_eq_true,beq_iff_eq] at h
 exact Krn ty 1 h.2
theorem Krp {ty:List Int} (h:wtB ty=true):ty.length ≤ 40:=by
 unfold wtB at h
 rw [Bool.and_eq_true,decide_eq_true_eq] at h
 exact h.1
theorem Krq {g:Int→Bool} {y:List Int→Bool} {n:Nat} {t:K00} (h:tOk g y n t=true):Kr9 g y (n:Int) t=true∧Kra g y t.fOp n 0 t.fKids=true:=by
 rw [Krb,Bool.and_eq_true] at h; exact h
theorem Krr {g:Int→Bool} {n:Int} {t:K00} (h:Kr9 g wtB n t=true):(∀ c ∈ t.fType,0 ≤ c∧c ≤ 36)∧t.fType.length ≤ 40:=by
 unfold Kr9 Kr8 at h
 rw [Bool.and_eq_true] at h
 have h:=h.2
 cases hq:Kqv t.fOp
 ·rw [hq] at h
  simp at h
  rw [h]; simp
 ·rw [hq,if_pos rfl] at h
  exact ⟨Kro h,Krp h⟩
theorem Krs {n b:Nat} (h:n * b ≤ 140737488355328):Qdw n b=some ():=by unfold Qdw chk; rw [if_pos h]
def Krt (l:List K00) (i:Nat):Int:=match l[i]? with | some t=>t.fOp | none=>-1
def Kru (t:K00):Bool :=
 if t.fKids.length=0 then false else
 if t.fOp == 2 then Krt t.fKids 0 == 1 && Krt t.fKids 1 == 1 else if t.fOp == 3 then Krt t.fKids 0 == 1 else if t.fOp == 10 then Krt t.fKids 0 == 9 else if t.fOp == 5 then Krt t.fKids 0 == 4
 else if t.fOp == 8 then Krt t.fKids 0 == 6 || Krt t.fKids 0 == 7 else if t.fOp == 12 then Krt t.fKids 0 == 11 else false
theorem Krv {g:Int→Bool} {y:List Int→Bool} {n:Int} {t:K00} (h:Kr9 g y n t=true):inB t.fOp 0 12=true∧(t.fKids.length:Int)=Kqt t.fOp:=by
 unfold Kr9 at h
 simp only [Bool.and_eq_true,beq_iff_eq] at h
 exact ⟨h.1.1.1,h.1.1.2⟩
theorem Krw {l:List K00} {i:Nat} (h:i < l.length):∃ t,idx l (i:Int)=some t∧t.fOp=Krt l i:=⟨l[i],Kon h,by unfold Krt; rw [List.getElem?_eq_getElem h]⟩
mutual
def Krx:K00→List Int→List (List Int)
 | ⟨op,N,ty,ks⟩,p=>(if Kru ⟨op,N,ty,ks⟩ then [p] else []) ++ Kry ks 0 p
def Kry:List K00→Nat→List Int→List (List Int)
 | [],_,_=>[]
 | k :: ks,i,p=>Krx k (p ++ [(i:Int)]) ++ Kry ks (i + 1) p
end
mutual
theorem Krz:∀ (t:K00) (p:List Int),(Krx t p).length ≤ tsz t
 | ⟨op,N,ty,ks⟩,p=>by
  rw [Krx,tsz,List.length_append]
  have:=Ks0 ks 0 p
  split <;> simp <;> omega
theorem Ks0:∀ (ks:List K00) (i:Nat) (p:List Int),(Kry ks i p).length ≤ Kqj ks
 | [],i,p=>by simp [Kry]
 | k :: ks,i,p=>by
  rw [Kry,Kqj,List.length_append]
  have:=Krz k (p ++ [(i:Int)])
  have:=Ks0 ks (i + 1) p
  omega
end
theorem Ks1:∀ (ks:List K00),ks.length ≤ Kqj ks
 | []=>by simp [Kqj]
 | k :: ks=>by
  have:=Ks1 ks
  have:=Kqm k
  rw [Kqj,List.length_cons]; omega
theorem Ks2 (l:List Int) (h:l.length ≤ 1099511627776):Kd3 l=some l:=by
 unfold Kd3
 rw [Krs (by simp only [List.length_nil]; omega),bs]
theorem Ks3 (t:K00) (h:inB t.fOp 0 12=true∧(t.fKids.length:Int)=Kqt t.fOp):Ki7 t=some (Kru t):=by
 obtain ⟨hop,hk⟩:=h
 unfold Ki7 Kru
 by_cases h0:t.fKids.length=0
 ·rw [if_pos h0,show ((t.fKids.length:Int) == 0)=true by rw [h0]; rfl,if_pos rfl]
 ·obtain ⟨a,ha,ea⟩:=Krw (l:=t.fKids) (i:=0) (by omega)
  rw [if_neg h0,show ((t.fKids.length:Int) == 0)=false from beq_eq_false_iff_ne.2 (by omega),if_neg (by decide),show (0:Int)=((0:Nat):Int) from rfl,ha,bs,ea]
  cases h2:t.fOp == 2
  ·cases t.fOp == 3 <;> cases t.fOp == 10 <;> cases t.fOp == 5 <;> cases t.fOp == 8 <;> cases t.fOp == 12 <;> (try rfl)
   all_goals cases Krt t.fKids 0 == 6 <;> rfl
  ·have h2':=eq_of_beq h2
   have hl:t.fKids.length=2:=by rw [h2'] at hk; have:Kqt 2=2:=rfl; omega
   obtain ⟨b,hb,eb⟩:=Krw (l:=t.fKids) (i:=1) (by omega)
   rw [show (1:Int)=((1:Nat):Int) from rfl,hb]
   simp only [bs,eb]
   cases Krt t.fKids 0 == ((1:Nat):Int) <;> rfl
mutual
theorem Ks4 (g:Int→Bool) (y:List Int→Bool):∀ (t:K00) (m:Nat) (p:List Int),tOk g y m t=true→p.length + tsz t ≤ 1048576→Kib (t,p)=some (Krx t p)
 | ⟨op,N,ty,ks⟩,m,p,hw,hp=>by
  obtain ⟨hw1,hw2⟩:=Krq hw
  rw [tsz] at hp
  rw [Kib.eq_def,Krx]
  simp only
  rw [Ks3 _ (Krv hw1),bs]
  refine (Kqi (x:=if Kru ⟨op,N,ty,ks⟩ then [p] else []) ?_).trans ?_
  ·cases Kru ⟨op,N,ty,ks⟩
   ·rfl
   ·rw [if_pos rfl,Ks2 p (by omega),bs,Krs (by simp)]; rfl
  have h:=Ks5 g y ks ⟨op,N,ty,ks⟩ m 0 p (if Kru ⟨op,N,ty,ks⟩ then [p] else []) rfl hw2 (by simp only [tsz]; omega) (by split <;> simp <;> omega) (by simp only; have:=Ks1 ks; omega)
  rw [show (0:Int)=((0:Nat):Int) from rfl,h,bs]
theorem Ks5 (g:Int→Bool) (y:List Int→Bool):∀ (ks:List K00) (t:K00) (m i:Nat) (p:List Int) (out:List (List Int)),t.fKids.drop i=ks→Kra g y t.fOp m i ks=true→p.length + tsz t ≤ 1048576→out.length + Kqj ks ≤ 1048577→t.fKids.length ≤ 1048576 →
  Kic (t,p,out,(i:Int))=some (out ++ Kry ks i p)
 | [],t,m,i,p,out,hd,hw,hp,ho,hk=>by
  rw [Kic.eq_def,Kry]
  simp only
  rw [Koq (Kpo hd),List.append_nil]; rfl
 | k :: ks,t,m,i,p,out,hd,hw,hp,ho,hk=>by
  obtain ⟨hi,hx,hd'⟩:=Kpn hd
  have hm:tsz k + 1 ≤ tsz t:=by
   have e:t.fKids=t.fKids.take i ++ (k :: ks):=by rw [← hd,List.take_append_drop]
   rw [Kqm t,e]
   have:∀ (a b:List K00),Kqj (a ++ b)=Kqj a + Kqj b:=fun a b=>by
    induction a with
    | nil=>simp [Kqj]
    | cons x l ih=>rw [List.cons_append,Kqj,Kqj,ih]; omega
   rw [this,Kqj]; omega
  rw [Kqj] at ho
  rw [Kra,Bool.and_eq_true] at hw
  have hl:=Krz k (p ++ [(i:Int)])
  rw [Kic.eq_def,Kry]
  simp only
  rw [Kop hi,if_pos rfl,hx,bs,Ks2 p (by omega),bs,Krs (by simp; omega),bs,Ks4 g y k _ (p ++ [(i:Int)]) hw.1 (by rw [List.length_append,List.length_singleton]; omega),bs,Krs (by omega),bs,Koo (by omega)]
  rw [Ks5 g y ks t m (i + 1) p _ hd' hw.2 hp (by rw [List.length_append]; omega) hk,List.append_assoc]
end
theorem Ks6 (l:List Int) (h:l.length ≤ 1099511627776):Kk8 l=some l:=by
 unfold Kk8
 rw [Krs (by simp only [List.length_nil]; omega),bs]
theorem Ks7 (t:K00) (h:inB t.fOp 0 12=true∧(t.fKids.length:Int)=Kqt t.fOp):Kk5 t=some (Kru t):=by
 obtain ⟨hop,hk⟩:=h
 unfold Kk5 Kru
 by_cases h0:t.fKids.length=0
 ·rw [if_pos h0,show ((t.fKids.length:Int) == 0)=true by rw [h0]; rfl,if_pos rfl]
 ·obtain ⟨a,ha,ea⟩:=Krw (l:=t.fKids) (i:=0) (by omega)
  rw [if_neg h0,show ((t.fKids.length:Int) == 0)=false from beq_eq_false_iff_ne.2 (by omega),if_neg (by decide),show (0:Int)=((0:Nat):Int) from rfl,ha,bs,ea]
  cases h2:t.fOp == 2
  ·cases t.fOp == 3 <;> cases t.fOp == 10 <;> cases t.fOp == 5 <;> cases t.fOp == 8 <;> cases t.fOp == 12 <;> (try rfl)
   all_goals cases Krt t.fKids 0 == 6 <;> rfl
  ·have h2':=eq_of_beq h2
   have hl:t.fKids.length=2:=by rw [h2'] at hk; have:Kqt 2=2:=rfl; omega
   obtain ⟨b,hb,eb⟩:=Krw (l:=t.fKids) (i:=1) (by omega)
   rw [show (1:Int)=((1:Nat):Int) from rfl,hb]
   simp only [bs,eb]
   cases Krt t.fKids 0 == ((1:Nat):Int) <;> rfl
mutual
theorem Ks8 (g:Int→Bool) (y:List Int→Bool):∀ (t:K00) (m:Nat) (p:List Int),tOk g y m t=true→p.length + tsz t ≤ 1048576→Knd (t,p)=some (Krx t p)
 | ⟨op,N,ty,ks⟩,m,p,hw,hp=>by
  obtain ⟨hw1,hw2⟩:=Krq hw
  rw [tsz] at hp
  rw [Knd.eq_def,Krx]
  simp only
  rw [Ks7 _ (Krv hw1),bs]
  refine (Kqi (x:=if Kru ⟨op,N,ty,ks⟩ then [p] else []) ?_).trans ?_
  ·cases Kru ⟨op,N,ty,ks⟩
   ·rfl
   ·rw [if_pos rfl,Ks6 p (by omega),bs,Krs (by simp)]; rfl
  have h:=Ks9 g y ks ⟨op,N,ty,ks⟩ m 0 p (if Kru ⟨op,N,ty,ks⟩ then [p] else []) rfl hw2 (by simp only [tsz]; omega) (by split <;> simp <;> omega) (by simp only; have:=Ks1 ks; omega)
  rw [show (0:Int)=((0:Nat):Int) from rfl,h,bs]
theorem Ks9 (g:Int→Bool) (y:List Int→Bool):∀ (ks:List K00) (t:K00) (m i:Nat) (p:List Int) (out:List (List Int)),t.fKids.drop i=ks→Kra g y t.fOp m i ks=true→p.length + tsz t ≤ 1048576→out.length + Kqj ks ≤ 1048577→t.fKids.length ≤ 1048576 →
  Kne (t,p,out,(i:Int))=some (out ++ Kry ks i p)
 | [],t,m,i,p,out,hd,hw,hp,ho,hk=>by
  rw [Kne.eq_def,Kry]
  simp only
  rw [Koq (Kpo hd),List.append_nil]; rfl
 | k :: ks,t,m,i,p,out,hd,hw,hp,ho,hk=>by
  obtain ⟨hi,hx,hd'⟩:=Kpn hd
  have hm:tsz k + 1 ≤ tsz t:=by
   have e:t.fKids=t.fKids.take i ++ (k :: ks):=by rw [← hd,List.take_append_drop]
   rw [Kqm t,e]
   have:∀ (a b:List K00),Kqj (a ++ b)=Kqj a + Kqj b:=fun a b=>by
    induction a with
    | nil=>simp [Kqj]
    | cons x l ih=>rw [List.cons_append,Kqj,Kqj,ih]; omega
   rw [this,Kqj]; omega
  rw [Kqj] at ho
  rw [Kra,Bool.and_eq_true] at hw
  have hl:=Krz k (p ++ [(i:Int)])
  rw [Kne.eq_def,Kry]
  simp only
  rw [Kop hi,if_pos rfl,hx,bs,Ks6 p (by omega),bs,Krs (by simp; omega),bs,Ks8 g y k _ (p ++ [(i:Int)]) hw.1 (by rw [List.length_append,List.length_singleton]; omega),bs,Krs (by omega),bs,Koo (by omega)]
  rw [Ks9 g y ks t m (i + 1) p _ hd' hw.2 hp (by rw [List.length_append]; omega) hk,List.append_assoc]
end
structure Ksa (s:K02) (n:Nat):Prop where
 size:s.fSize=(n:Int)
 lo:2 ≤ n
 hi:n ≤ 16
 lp:s.fPlus.length=n * n
 lt:s.fTimes.length=n * n
 lb:s.fBelow.length=n * n
def Ksb (s:K02) (n i:Nat):Bool:=inB (s.fPlus.getD i 0) 0 ((n:Int) - 1) && inB (s.fTimes.getD i 0) 0 ((n:Int) - 1)
section
variable {s:K02} {n:Nat} (h:Ksa s n)
include h
theorem nn:n * n ≤ 256:=Nat.le_trans (Nat.mul_le_mul h.hi h.hi) (by decide)
theorem Ksc {i:Nat} (hi:i < n * n):idx s.fPlus (i:Int)=some (s.fPlus.getD i 0):=by
 have hl:i < s.fPlus.length:=by rw [h.lp]; exact hi
 rw [Kon hl,List.getD_eq_getElem?_getD,List.getElem?_eq_getElem hl]; rfl
theorem Ksd {i:Nat} (hi:i < n * n):idx s.fTimes (i:Int)=some (s.fTimes.getD i 0):=by
 have hl:i < s.fTimes.length:=by rw [h.lt]; exact hi
 rw [Kon hl,List.getD_eq_getElem?_getD,List.getElem?_eq_getElem hl]; rfl
theorem Kse:wr (s.fSize - 1)=(n:Int) - 1:=by
 have:=h.lo; have:=h.hi
 rw [h.size,Kom (by omega) (by omega)]
theorem Ksf:∀ (k i:Nat),i + k=n * n→K9m (s,(i:Int))=some (if (List.range' i k).all (Ksb s n) then .inl () else .inr false):=by
 have hn:=nn h
 intro k
 induction k with
 | zero =>
  intro i hm
  rw [K9m.eq_def]
  simp only
  rw [h.lp,Koq (by omega)]
  rfl
 | succ k ih =>
  intro i hm
  rw [K9m.eq_def]
  simp only
  rw [h.lp,Kop (by omega),if_pos rfl,Ksc h (by omega),Ksd h (by omega),Kse h]
  have ih:=ih (i + 1) (by omega)
  rw [Koo (by omega),List.range'_succ,List.all_cons]
  generalize ((i + 1:Nat):Int)=M at ih ⊢
  generalize (List.range' (i + 1) k).all (Ksb s n)=r at ih ⊢
  simp only [bs,sIn]
  cases h1:inB (s.fPlus.getD i 0) 0 ((n:Int) - 1) <;> cases h2:inB (s.fTimes.getD i 0) 0 ((n:Int) - 1) <;> cases r <;> simp only [Ksb,h1,h2,ih,bs,Bool.not_true,Bool.not_false,Bool.true_and,Bool.false_and,Bool.and_true,Bool.and_false,if_true,if_false,Bool.false_eq_true]
theorem Ksg (he:(List.range' 0 (n * n)).all (Ksb s n)=true):Tab s n:=by
 rw [List.all_eq_true] at he
 have hent:∀ i,i < n * n→Ksb s n i=true:=fun i hi=>he i (by rw [List.mem_range'_1]; omega)
 refine ⟨h.size,h.lo,h.hi,h.lp,h.lt,h.lb,fun i hi=>?_,fun i hi=>?_⟩
 ·have:=hent i (by rw [← h.lp]; exact hi)
  simp only [Ksb,inB,Bool.and_eq_true,decide_eq_true_eq,List.getD_eq_getElem?_getD,List.getElem?_eq_getElem hi,Option.getD_some] at this
  omega
 ·have:=hent i (by rw [← h.lt]; exact hi)
  simp only [Ksb,inB,Bool.and_eq_true,decide_eq_true_eq,List.getD_eq_getElem?_getD,List.getElem?_eq_getElem hi,Option.getD_some] at this
  omega
end
def Ksh (s:K02):Bool:=inB s.fSize 2 16 && !((s.fPlus.length:Int) != (wr (s.fSize * s.fSize))) && !((s.fTimes.length:Int) != (wr (s.fSize * s.fSize))) && !((s.fBelow.length:Int) != (wr (s.fSize * s.fSize)))
theorem Ksi {s:K02} (h:Ksh s=true):Ksa s s.fSize.toNat:=by
 unfold Ksh at h
 simp only [Bool.and_eq_true,Bool.not_eq_true',inB,decide_eq_true_eq,bne_eq_false_iff_eq] at h
 obtain ⟨⟨⟨⟨h1,h2⟩,h3⟩,h4⟩,h5⟩:=h
 obtain ⟨n,hn⟩:∃ n:Nat,s.fSize=(n:Int):=⟨s.fSize.toNat,by omega⟩
 rw [hn] at h1 h2 h3 h4 h5 ⊢
 have h256:n * n ≤ 256:=Nat.le_trans (Nat.mul_le_mul (by omega:n ≤ 16) (by omega:n ≤ 16)) (by decide)
 have e:(n:Int) * (n:Int)=((n * n:Nat):Int):=by simp
 rw [e] at h3 h4 h5
 generalize hm:n * n=m at *
 rw [Kom (by omega) (by omega)] at h3 h4 h5
 rw [Int.toNat_natCast]
 exact ⟨hn,by omega,by omega,by omega,by omega,by omega⟩
def Ksj (s:K02):Bool:=Ksh s && (List.range' 0 (s.fSize.toNat * s.fSize.toNat)).all (Ksb s s.fSize.toNat) && Kpj s s.fSize.toNat
theorem Ksk {s:K02} (h:Ksj s=true):Tab s s.fSize.toNat:=by
 unfold Ksj at h
 simp only [Bool.and_eq_true] at h
 exact Ksg (Ksi h.1.1) h.1.2
theorem Ksl (s:K02):Kb3 s=some (Ksj s):=by
 unfold Kb3 K9p Ksj
 rw [sIn]
 cases hf:Ksh s with
 | false =>
  unfold Ksh at hf
  cases h1:inB s.fSize 2 16 <;> cases h2:((s.fPlus.length:Int) != (wr (s.fSize * s.fSize))) <;> cases h3:((s.fTimes.length:Int) != (wr (s.fSize * s.fSize))) <;> cases h4:((s.fBelow.length:Int) != (wr (s.fSize * s.fSize))) <;> simp_all [bs]
 | true =>
  have F:=Ksi hf
  have hl:=Ksf F (s.fSize.toNat * s.fSize.toNat) 0 (by omega)
  rw [show ((0:Nat):Int)=0 from rfl] at hl
  unfold Ksh at hf
  simp only [Bool.and_eq_true,Bool.not_eq_true'] at hf
  obtain ⟨⟨⟨h1,h2⟩,h3⟩,h4⟩:=hf
  cases he:(List.range' 0 (s.fSize.toNat * s.fSize.toNat)).all (Ksb s s.fSize.toNat) with
  | false=>rw [he] at hl; simp [bs,h1,h2,h3,h4,hl]
  | true =>
   have T:=Ksg F he
   have hl2:=Kpm T s.fSize.toNat 0 (by omega)
   rw [show ((0:Nat):Int)=0 from rfl] at hl2
   rw [he] at hl
   have hm:(List.range' 0 s.fSize.toNat).all (fun a=>Kp5 s s.fSize.toNat a && (List.range' 0 s.fSize.toNat).all fun b=>Kph s s.fSize.toNat a b && (List.range' 0 s.fSize.toNat).all fun c=>Kp6 s s.fSize.toNat a b c)=Kpj s s.fSize.toNat:=rfl
   rw [hm] at hl2
   cases hs:Kpj s s.fSize.toNat <;> rw [hs] at hl2 <;> simp [bs,h1,h2,h3,h4,hl,hl2]
inductive Ty where
 | num
 | bin (c:Int) (a b:Ty)
 | un (c:Int) (a:Ty)
namespace Ty
def code:Ty→List Int
 | num=>[0]
 | bin c a b=>c :: (a.code ++ b.code)
 | un c a=>c :: a.code
def ok:Ty→Prop
 | num=>True
 | bin c a b=>Kpr c=2∧a.ok∧b.ok
 | un c a=>Kpr c=1∧a.ok
def kids:Ty→List Ty
 | num=>[]
 | bin _ a b=>[a,b]
 | un _ a=>[a]
def hd:Ty→Int
 | num=>0
 | bin c _ _=>c
 | un c _=>c
end Ty
def Ksm:List Ty→List Int
 | []=>[]
 | t :: l=>t.code ++ Ksm l
theorem Ksn (T:Ty):T.code=T.hd :: Ksm T.kids:=by cases T <;> simp [Ty.code,Ty.hd,Ty.kids,Ksm]
theorem Kso (T:Ty):1 ≤ T.code.length:=by rw [Ksn]; simp
theorem Ksp (T:Ty):∀ (m:Nat) (l:List Int),T.ok→skip (m + 1) (T.code ++ l)=skip m l:=by
 induction T with
 | num =>
  intro m l _
  rw [Ty.code,List.singleton_append,Kq1,show Kpr 0=0 from rfl,if_neg (by decide)]; rfl
 | bin c a b iha ihb =>
  intro m l h
  rw [Ty.code,List.cons_append,Kq1,h.1,if_neg (by decide),List.append_assoc,show m + (2:Int).toNat=(m + 1) + 1 from rfl,iha _ _ h.2.1,ihb _ _ h.2.2]
 | un c a ih =>
  intro m l h
  rw [Ty.code,List.cons_append,Kq1,h.1,if_neg (by decide),show m + (1:Int).toNat=m + 1 from rfl,ih _ _ h.2]
theorem Ksq (l:List Int):∀ (m:Nat) (r:List Int),skip m l=some r→∃ Ts:List Ty,Ts.length=m∧(∀ T ∈ Ts,T.ok)∧l=Ksm Ts ++ r:=by
 induction l with
 | nil =>
  intro m r h
  cases m with
  | zero=>rw [Kpz] at h; cases h; exact ⟨[],rfl,fun _ h=>(by cases h),rfl⟩
  | succ m=>rw [Kq0] at h; cases h
 | cons c l ih =>
  intro m r h
  cases m with
  | zero=>rw [Kpz] at h; cases h; exact ⟨[],rfl,fun _ h=>(by cases h),rfl⟩
  | succ m =>
   rw [Kq1] at h
   by_cases hk:Kpr c=-1
   ·rw [if_pos hk] at h; cases h
   ·rw [if_neg hk] at h
    obtain ⟨Ts,h1,h2,h3⟩:=ih _ _ h
    rcases Kpv c with ⟨q,e⟩ | ⟨q,e⟩ | ⟨q,e⟩ | ⟨q,e⟩
    ·subst q
     rw [e] at h1
     exact ⟨.num :: Ts,by simpa using h1,fun T hT=>by rcases List.mem_cons.1 hT with rfl | hT; exact trivial; exact h2 T hT,by rw [h3]; rfl⟩
    ·rw [e] at h1
     match Ts,h1 with
     | a :: b :: Ts,h1 =>
      refine ⟨.bin c a b :: Ts,by simpa using h1,fun T hT=>?_,by rw [h3]; simp [Ksm,Ty.code]⟩
      rcases List.mem_cons.1 hT with rfl | hT
      ·exact ⟨e,h2 a List.mem_cons_self,h2 b (List.mem_cons_of_mem _ List.mem_cons_self)⟩
      ·exact h2 T (List.mem_cons_of_mem _ (List.mem_cons_of_mem _ hT))
     | [_],h1=>exact absurd h1 (by simp)
     | [],h1=>exact absurd h1 (by simp)
    ·rw [e] at h1
     match Ts,h1 with
     | a :: Ts,h1 =>
      refine ⟨.un c a :: Ts,by simpa using h1,fun T hT=>?_,by rw [h3]; simp [Ksm,Ty.code]⟩
      rcases List.mem_cons.1 hT with rfl | hT
      ·exact ⟨e,h2 a List.mem_cons_self⟩
      ·exact h2 T (List.mem_cons_of_mem _ hT)
     | [],h1=>exact absurd h1 (by simp)
    ·exact absurd e hk
theorem Ksr {ty:List Int} (h:wtB ty=true):∃ T:Ty,T.ok∧ty=T.code∧ty.length ≤ 40:=by
 have hl:=Krp h
 unfold wtB at h
 rw [Bool.and_eq_true,beq_iff_eq] at h
 obtain ⟨Ts,h1,h2,h3⟩:=Ksq _ _ _ h.2
 match Ts,h1 with
 | [T],_=>exact ⟨T,h2 T List.mem_cons_self,by rw [h3]; simp [Ksm],hl⟩
theorem Kss {T:Ty} (h:T.ok) (hl:T.code.length ≤ 40):wtB T.code=true:=by
 unfold wtB
 have:=Ksp T 0 [] h
 rw [List.append_nil,Kpz] at this
 rw [decide_eq_true hl,show (1:Nat)=0 + 1 from rfl,this]; rfl
theorem Kst {T:Ty} (h:T.ok):∀ K ∈ T.kids,K.ok:=by
 intro K hK
 cases T with
 | num=>cases hK
 | bin c a b=>rcases List.mem_cons.1 hK with rfl | hK; exact h.2.1; rw [List.mem_singleton.1 hK]; exact h.2.2
 | un c a=>rw [List.mem_singleton.1 hK]; exact h.2
theorem Ksu {pre:List Int} {T:Ty} {post:List Int} (h:T.ok):Kq4 (pre ++ (T.code ++ post)) 1 pre.length=((pre.length + T.code.length:Nat):Int):=by
 unfold Kq4
 rw [List.drop_left,show (1:Nat)=0 + 1 from rfl,Ksp T 0 post h,Kpz]
 simp only [List.length_append]
 omega
theorem Ksv {α:Type} (p m q:List α) (mx:Option Int) (hmx:mx=none∨mx=some ((p.length + m.length:Nat):Int)):cut (p ++ (m ++ q)) (some (p.length:Int)) (some ((p.length + m.length:Nat):Int)) mx=some m:=by
 unfold cut
 have e:((p ++ (m ++ q)).take (p.length + m.length)).drop p.length=m:=by
  rw [← List.append_assoc,← List.length_append,List.take_left,List.drop_left]
 rw [if_pos]
 ·simp only [Option.getD_some,Int.toNat_natCast,e]
 ·rcases hmx with rfl | rfl <;> simp only [Option.getD_some,Option.getD_none,List.length_append] <;> omega
theorem Ksw {α:Type} (p q:List α):cut (p ++ q) (some (p.length:Int)) none none=some q:=by
 unfold cut
 rw [if_pos]
 ·simp only [Option.getD_some,Option.getD_none,Int.toNat_natCast,List.take_length,List.drop_left]
 ·simp only [Option.getD_some,Option.getD_none,List.length_append]; omega
theorem Ksx (Ks:List Ty):∀ (pre:List Int) (out:List (List Int)),(∀ K ∈ Ks,K.ok)→(pre ++ Ksm Ks).length ≤ 1099511627776→out.length + Ks.length ≤ 1099511627776→Knf (pre ++ Ksm Ks,out,(pre.length:Int))=some (out ++ Ks.map Ty.code):=by
 induction Ks with
 | nil =>
  intro pre out hk hl ho
  rw [show Ksm []=[] from rfl,List.append_nil,Knf.eq_def]
  simp only
  rw [Koq (Nat.le_refl _)]; simp
 | cons K Ks ih =>
  intro pre out hk hl ho
  have hK:=hk K List.mem_cons_self
  have hp:=Kso K
  rw [show Ksm (K :: Ks)=K.code ++ Ksm Ks from rfl] at hl ⊢
  rw [List.length_cons] at ho
  rw [Knf.eq_def]
  simp only
  rw [Kop (by simp only [List.length_append]; omega),if_pos rfl,Kq8 _ hl _ pre.length rfl,Ksu hK,bs,Ksv _ _ _ _ (.inr rfl),bs,Krs (by simp only [List.length_singleton]; omega),bs]
  have:=ih (pre ++ K.code) (out ++ [K.code]) (fun K hK=>hk K (List.mem_cons_of_mem _ hK)) (by rw [List.append_assoc]; exact hl) (by simp; omega)
  rw [List.append_assoc,List.length_append] at this
  rw [this,List.map_cons,List.append_assoc]; rfl
theorem Ksy {T:Ty} (h:T.ok) (hl:T.code.length ≤ 1048576):Kng T.code=some (T.kids.map Ty.code):=by
 unfold Kng
 have hk:T.kids.length ≤ 2:=by cases T <;> simp [Ty.kids]
 have e:[T.hd] ++ Ksm T.kids=T.code:=(Ksn T).symm
 have:=Ksx T.kids [T.hd] [] (Kst h) (by rw [e]; omega) (by simp only [List.length_nil]; omega)
 rw [e] at this
 rw [show (1:Int)=(([T.hd].length:Nat):Int) from rfl,this,bs]; rfl
theorem Ksz {c:Int} {a:Ty} {r:List Int} (ha:a.ok) (hl:(c :: (a.code ++ r)).length ≤ 1099511627776):Kd6 (c :: (a.code ++ r),0)=some a.code:=by
 unfold Kd6
 simp only
 have e:=Ksu (pre:=[c]) (post:=r) ha
 have h1:=Kq6 (c :: (a.code ++ r)) hl 1 (by simp)
 rw [show (((1:Nat)):Int)=1 from rfl] at h1
 rw [List.length_singleton] at e
 have e':Kq4 (c :: (a.code ++ r)) 1 1=((1 + a.code.length:Nat):Int):=e
 rw [h1,bs,e',if_pos (by rfl)]
 have h2:=Ksv [c] a.code r none (.inl rfl)
 rw [List.length_singleton] at h2
 have h2':cut (c :: (a.code ++ r)) (some 1) (some ((1 + a.code.length:Nat):Int)) none=some a.code:=h2
 simp only [List.length_cons,List.length_append] at hl
 rw [h2',bs,Ks2 _ (by omega),bs]
theorem Kt0 {c:Int} {a:Ty} {r:List Int} (ha:a.ok) (hl:(c :: (a.code ++ r)).length ≤ 1099511627776):Kd6 (c :: (a.code ++ r),1)=some r:=by
 unfold Kd6
 simp only
 have e:=Ksu (pre:=[c]) (post:=r) ha
 have h1:=Kq6 (c :: (a.code ++ r)) hl 1 (by simp)
 rw [show (((1:Nat)):Int)=1 from rfl] at h1
 rw [List.length_singleton] at e
 have e':Kq4 (c :: (a.code ++ r)) 1 1=((1 + a.code.length:Nat):Int):=e
 rw [h1,bs,e',if_neg (by decide)]
 have h2:=Ksw (c :: a.code) r
 rw [List.length_cons,List.cons_append,Nat.add_comm] at h2
 simp only [List.length_cons,List.length_append] at hl
 rw [h2,bs,Ks2 _ (by omega),bs]
theorem Kt1 {α:Type} (x:α) (l:List α):idx (x :: l) 0=some x:=rfl
theorem Kt2 {a b:Nat} (ha:a ≤ 1099511627776) (hb:b ≤ 1099511627776):wr ((a:Int) + (b:Int))=((a + b:Nat):Int):=by rw [Kom (by omega) (by omega)]; omega
theorem Kt3 (a b:Nat):K88 ((a:Int),(b:Int))=some ((min a b:Nat):Int):=by
 unfold K88
 simp only
 by_cases h:a < b
 ·rw [decide_eq_true (by omega:(a:Int) < (b:Int)),if_pos rfl,Nat.min_eq_left (by omega)]
 ·rw [decide_eq_false (by omega:¬ (a:Int) < (b:Int)),if_neg (by decide),Nat.min_eq_right (by omega)]
def sms (s:K02):Nat:=s.fPlus.length + s.fTimes.length + s.fBelow.length
theorem Kt4 (a b:List K00):Kqk (a ++ b)=Kqk a + Kqk b:=by
 induction a with
 | nil=>simp [Kqk]
 | cons x l ih=>rw [List.cons_append,Kqk,Kqk,ih]; omega
theorem Kt5 {l:List K00} {t:K00} (h:t ∈ l):tms t + l.length ≤ Kqk l + l.length:=by
 induction l with
 | nil=>cases h
 | cons x l ih =>
  rw [Kqk]
  rcases List.mem_cons.1 h with rfl | h
  ·omega
  ·have:=ih h; omega
theorem Kt6 {l:List K00} {t:K00} (h:t ∈ l):tsz t ≤ Kqj l:=by
 induction l with
 | nil=>cases h
 | cons x l ih =>
  rw [Kqj]
  rcases List.mem_cons.1 h with rfl | h
  ·omega
  ·have:=ih h; omega
theorem Kt7 {t k:K00} (h:k ∈ t.fKids):tms k + 1 ≤ tms t:=by
 rw [Kql t]
 have:=Kt5 h
 have:1 ≤ t.fKids.length:=List.length_pos_of_mem h
 omega
theorem Kt8 {t k:K00} (h:k ∈ t.fKids):tsz k + 1 ≤ tsz t:=by
 rw [Kqm t]
 have:=Kt6 h
 omega
mutual
theorem Kt9:∀ (t:K00),tms t ≤ 1099511627776→Kkc t=some t
 | ⟨op,N,ty,ks⟩,h=>by
  rw [tms] at h
  rw [Kkc.eq_def]
  simp only
  rw [Ks6 ty (by omega),bs,show (0:Int)=((0:Nat):Int) from rfl,Kta ks ⟨op,N,ty,ks⟩ 0 ty [] rfl (by simp only; omega) (by omega) (by simp),bs]
  rfl
theorem Kta:∀ (ks:List K00) (t:K00) (i:Nat) (r:List Int) (out:List K00),t.fKids.drop i=ks→t.fKids.length ≤ 1099511627776→Kqk ks ≤ 1099511627776→out.length=i→Kkd (t,r,out,(i:Int))=some (out ++ ks)
 | [],t,i,r,out,hd,hk,hm,ho=>by
  rw [Kkd.eq_def]
  simp only
  rw [Koq (Kpo hd),List.append_nil]; rfl
 | k :: ks,t,i,r,out,hd,hk,hm,ho=>by
  obtain ⟨hi,hx,hd'⟩:=Kpn hd
  rw [Kqk] at hm
  rw [Kkd.eq_def]
  simp only
  rw [Kop hi,if_pos rfl,hx,bs,Kt9 k (by omega),bs,Krs (by simp only [List.length_singleton]; omega),bs,Koo (by omega),Kta ks t (i + 1) r _ hd' hk (by omega) (by simp [ho]),List.append_assoc]
  rfl
end
mutual
def tNb (hi:Int):K00→Prop
 | ⟨op,N,_,ks⟩=>(op=0→-9223372036854775808 ≤ N∧N ≤ hi)∧Ktb hi ks
def Ktb (hi:Int):List K00→Prop
 | []=>True
 | k :: ks=>tNb hi k∧Ktb hi ks
end
mutual
def shf (by_:Int):Int→K00→K00
 | from_,⟨op,N,ty,ks⟩=>⟨op,if op == 0 && decide (N ≥ from_) then N + by_ else N,ty,Ktc by_ op from_ 0 ks⟩
def Ktc (by_:Int):Int→Int→Nat→List K00→List K00
 | _,_,_,[]=>[]
 | op,from_,i,k :: ks=>shf by_ (from_ + ((Kr3 op (i:Int):Nat):Int)) k :: Ktc by_ op from_ (i + 1) ks
end
mutual
theorem Ktd:∀ (t:K00) (fr:Int),shf 0 fr t=t
 | ⟨op,N,ty,ks⟩,fr=>by
  rw [shf,Kte ks]
  simp
theorem Kte:∀ (ks:List K00) (op fr:Int) (i:Nat),Ktc 0 op fr i ks=ks
 | [],op,fr,i=>by rw [Ktc]
 | k :: ks,op,fr,i=>by rw [Ktc,Ktd k,Kte ks]
end
theorem Ktf (by_:Int):∀ (ks:List K00) (op fr:Int) (i:Nat),(Ktc by_ op fr i ks).length=ks.length
 | [],op,fr,i=>by rw [Ktc]
 | k :: ks,op,fr,i=>by rw [Ktc,List.length_cons,List.length_cons,Ktf by_ ks]
mutual
theorem Ktg (b hi:Int) (hb:0 ≤ b) (hh:hi + b ≤ 9223372036854775807):∀ (t:K00) (fr:Int),tNb hi t→tms t ≤ 1099511627776→-35184372088832 ≤ fr→fr + 2 * tms t ≤ 35184372088832→Kez (t,b,fr)=some (shf b fr t)
 | ⟨op,N,ty,ks⟩,fr,hn,hm,h1,h2=>by
  rw [tms] at hm h2
  rw [tNb] at hn
  rw [Kez.eq_def,shf]
  simp only
  rw [Ks2 ty (by omega),bs]
  refine (Kqi (x:=op == 0 && decide (N ≥ fr)) ?_).trans ?_
  ·cases op == 0 <;> rfl
  refine (Kqi (x:=if op == 0 && decide (N ≥ fr) then N + b else N) ?_).trans ?_
  ·cases h:op == 0 && decide (N ≥ fr)
   ·rfl
   ·rw [Bool.and_eq_true] at h
    have:=hn.1 (eq_of_beq h.1)
    rw [if_pos rfl,Kom (by omega) (by omega)]; rfl
  rw [show (0:Int)=((0:Nat):Int) from rfl,Kth b hi hb hh ks ⟨op,N,ty,ks⟩ fr 0 ty _ [] rfl (by simp only; omega) hn.2 (by omega) h1 (by omega) (by simp),bs]
  rfl
theorem Kth (b hi:Int) (hb:0 ≤ b) (hh:hi + b ≤ 9223372036854775807):∀ (ks:List K00) (t:K00) (fr:Int) (i:Nat) (r:List Int) (o:Int) (out:List K00),t.fKids.drop i=ks→t.fKids.length ≤ 1099511627776→Ktb hi ks→Kqk ks ≤ 1099511627776→-35184372088832 ≤ fr →
  fr + 2 * (ks.length + Kqk ks) ≤ 35184372088832→out.length=i→Kf0 (t,b,fr,r,o,out,(i:Int))=some (out ++ Ktc b t.fOp fr i ks)
 | [],t,fr,i,r,o,out,hd,hk,hn,hm,h1,h2,ho=>by
  rw [Kf0.eq_def,Ktc]
  simp only
  rw [Koq (Kpo hd),List.append_nil]; rfl
 | k :: ks,t,fr,i,r,o,out,hd,hk,hn,hm,h1,h2,ho=>by
  obtain ⟨hi',hx,hd'⟩:=Kpn hd
  rw [Kqk] at hm h2
  rw [List.length_cons] at h2
  rw [Ktb] at hn
  have ha:=Kr4 t.fOp (i:Int)
  rw [Kf0.eq_def,Ktc]
  simp only
  rw [Kop hi',if_pos rfl,hx,bs,Kr5,bs,Kom (by omega) (by omega),Ktg b hi hb hh k _ hn.1 (by omega) (by omega) (by omega),bs,Krs (by simp only [List.length_singleton]; omega),bs,Koo (by omega)]
  rw [Kth b hi hb hh ks t fr (i + 1) r o _ hd' hk hn.2 (by omega) h1 (by omega) (by simp [ho]),List.append_assoc]
  rfl
end
mutual
theorem Kti {a b:Int} (h:a ≤ b):∀ (t:K00),tNb a t→tNb b t
 | ⟨op,N,ty,ks⟩,hn=>by
  rw [tNb] at hn ⊢
  exact ⟨fun e=>by have:=hn.1 e; omega,Ktj h ks hn.2⟩
theorem Ktj {a b:Int} (h:a ≤ b):∀ (ks:List K00),Ktb a ks→Ktb b ks
 | [],_=>by rw [Ktb]; trivial
 | k :: ks,hn=>by rw [Ktb] at hn ⊢; exact ⟨Kti h k hn.1,Ktj h ks hn.2⟩
end
mutual
theorem Ktk (g:Int→Bool) (y:List Int→Bool):∀ (t:K00) (n:Nat),tOk g y n t=true→tNb ((n:Int) + 2 * tsz t) t
 | ⟨op,N,ty,ks⟩,n,h=>by
  obtain ⟨h1,h2⟩:=Krq h
  rw [tNb]
  refine ⟨fun e=>?_,?_⟩
  ·subst e
   unfold Kr9 Kr7 at h1
   simp only [Bool.and_eq_true] at h1
   have h3:=h1.1.2
   rw [show ((0:Int) == 0)=true from rfl,if_pos rfl] at h3
   unfold inB at h3
   simp only [Bool.and_eq_true,decide_eq_true_eq] at h3
   omega
  ·rw [tsz]
   exact Ktj (by omega) ks (Ktl g y ks op n 0 h2)
theorem Ktl (g:Int→Bool) (y:List Int→Bool):∀ (ks:List K00) (op:Int) (n i:Nat),Kra g y op n i ks=true→Ktb ((n:Int) + 2 * Kqj ks + 2) ks
 | [],op,n,i,h=>by rw [Ktb]; trivial
 | k :: ks,op,n,i,h=>by
  rw [Kra,Bool.and_eq_true] at h
  have ha:=Kr4 op (i:Int)
  rw [Ktb,Kqj]
  exact ⟨Kti (by omega) k (Ktk g y k _ h.1),Ktj (by omega) ks (Ktl g y ks op n (i + 1) h.2)⟩
end
theorem Ktm {t:K00} (h:wB t=true):tOk (gN 16 false) wtB 8 t=true∧tsz t ≤ 400:=by
 unfold wB at h
 rw [Bool.and_eq_true,decide_eq_true_eq] at h
 exact h
theorem Ktn {t:K00} (h:wB t=true):tNb 1048576 t:=by
 obtain ⟨h1,h2⟩:=Ktm h
 exact Kti (by omega) t (Ktk _ _ t 8 h1)
theorem Kto {t:K00} (hn:tNb 9223372036854775807 t) (hm:tms t ≤ 1099511627776):Kez (t,0,0)=some t:=by
 rw [Ktg 0 9223372036854775807 (by omega) (by omega) t 0 hn hm (by omega) (by omega),Ktd]
theorem Ktp {hi:Int} {l:List K00} (h:Ktb hi l):∀ t ∈ l,tNb hi t:=by
 induction l with
 | nil=>intro t ht; cases ht
 | cons x l ih =>
  rw [Ktb] at h
  intro t ht
  rcases List.mem_cons.1 ht with rfl | ht
  ·exact h.1
  ·exact ih h.2 t ht
theorem Ktq {hi:Int} {t:K00} (h:tNb hi t):Ktb hi t.fKids:=by cases t; rw [tNb] at h; exact h.2
mutual
theorem Ktr:∀ (t:K00),tln t→tNb 9223372036854775807 t
 | ⟨op,N,ty,ks⟩,h=>by rw [tln] at h; rw [tNb]; exact ⟨fun _=>h.2.2.2,Kts ks h.2.2.1⟩
theorem Kts:∀ (ks:List K00),Krm ks→Ktb 9223372036854775807 ks
 | [],h=>by rw [Ktb]; trivial
 | k :: ks,h=>by rw [Krm] at h; rw [Ktb]; exact ⟨Ktr k h.1,Kts ks h.2⟩
end
def Ktt (t:K00) (i:Int):Option K00:=if inB i 0 ((t.fKids.length:Int) - 1) then t.fKids[i.toNat]? else none
def atP:K00→List Int→Option K00
 | t,[]=>some t
 | t,i :: l=>(Ktt t i).bind fun k=>atP k l
theorem Ktu {t k:K00} {i:Int} (h:Ktt t i=some k):k ∈ t.fKids:=by
 unfold Ktt at h
 split at h
 ·exact List.mem_of_getElem? h
 ·cases h
theorem Ktv {l:List Int}:∀ {t u:K00},atP t l=some u→tms u ≤ tms t∧∀ hi,tNb hi t→tNb hi u:=by
 induction l with
 | nil=>intro t u h; cases h; exact ⟨Nat.le_refl _,fun _ h=>h⟩
 | cons i l ih =>
  intro t u h
  simp only [atP] at h
  cases hs:Ktt t i with
  | none=>rw [hs] at h; cases h
  | some k =>
   rw [hs] at h
   obtain ⟨h1,h2⟩:=ih h
   have hk:=Ktu hs
   have:=Kt7 hk
   exact ⟨by omega,fun hi hn=>h2 hi (Ktp (Ktq hn) k hk)⟩
def Ktw (t:K00):Int × Int × List Int × List K00:=(t.fOp,t.fN,t.fType,t.fKids)
theorem Ktx {t:K00} {i:Int} (h:inB i 0 ((t.fKids.length:Int) - 1)=true):∃ k,Ktt t i=some k∧idx t.fKids i=some k:=by
 have h':=h
 unfold inB at h'
 simp only [Bool.and_eq_true,decide_eq_true_eq] at h'
 have hl:i.toNat < t.fKids.length:=by omega
 refine ⟨t.fKids[i.toNat],?_,?_⟩
 ·unfold Ktt; rw [if_pos h,List.getElem?_eq_getElem hl]
 ·unfold idx; rw [if_pos h'.1,List.getElem?_eq_getElem hl]
theorem Kty (p:List Int) (hp:p.length ≤ 1099511627776):∀ (l:List Int) (i:Nat) (t:K00),p.drop i=l→tms t ≤ 1099511627776→Kmx (p,t.fOp,t.fN,t.fType,t.fKids,(i:Int))=some (match atP t l with | some u=>.inl (Ktw u) | none=>.inr (⟨0,0,[],[]⟩,false)):=by
 intro l
 induction l with
 | nil =>
  intro i t hd hm
  rw [Kmx.eq_def]
  simp only
  rw [Koq (Kpo hd)]; rfl
 | cons x l ih =>
  intro i t hd hm
  obtain ⟨hi,hx,hd'⟩:=Kpn hd
  have hkl:t.fKids.length ≤ 1099511627776:=by have:=Kql t; omega
  rw [Kmx.eq_def]
  simp only
  rw [Kop hi,if_pos rfl,hx,bs,Kom (x:=(t.fKids.length:Int) - 1) (by omega) (by omega),sIn,bs]
  simp only [atP]
  cases hb:inB x 0 ((t.fKids.length:Int) - 1)
  ·have:Ktt t x=none:=by unfold Ktt; rw [hb]; rfl
   rw [this]; rfl
  ·obtain ⟨k,h1,h2⟩:=Ktx hb
   have:=Kt7 (Ktu h1)
   rw [if_pos rfl,bs,h2,bs,Koo (by omega),ih (i + 1) k hd' (by omega),h1]; rfl
theorem Ktz (p:List Int) (hp:p.length ≤ 1099511627776):∀ (l:List Int) (i:Nat) (t:K00),p.drop i=l→tms t ≤ 1099511627776→Kjz (p,t.fOp,t.fN,t.fType,t.fKids,(i:Int))=some (match atP t l with | some u=>.inl (Ktw u) | none=>.inr (⟨0,0,[],[]⟩,false)):=by
 intro l
 induction l with
 | nil =>
  intro i t hd hm
  rw [Kjz.eq_def]
  simp only
  rw [Koq (Kpo hd)]; rfl
 | cons x l ih =>
  intro i t hd hm
  obtain ⟨hi,hx,hd'⟩:=Kpn hd
  have hkl:t.fKids.length ≤ 1099511627776:=by have:=Kql t; omega
  rw [Kjz.eq_def]
  simp only
  rw [Kop hi,if_pos rfl,hx,bs,Kom (x:=(t.fKids.length:Int) - 1) (by omega) (by omega),iIn,bs]
  simp only [atP]
  cases hb:inB x 0 ((t.fKids.length:Int) - 1)
  ·have:Ktt t x=none:=by unfold Ktt; rw [hb]; rfl
   rw [this]; rfl
  ·obtain ⟨k,h1,h2⟩:=Ktx hb
   have:=Kt7 (Ktu h1)
   rw [if_pos rfl,h2,bs,Koo (by omega),ih (i + 1) k hd' (by omega),h1]; rfl
theorem Ku0 (u:K00):K00.mk u.fOp u.fN u.fType u.fKids=u:=by cases u; rfl
def noT:K00:=⟨0,0,[],[]⟩
def okT (o:Option K00):K00 × Bool:=match o with | some u=>(u,true) | none=>(noT,false)
theorem Ku1 (t:K00) (p:List Int) (ht:tms t ≤ 1099511627776) (hp:p.length ≤ 1099511627776):Kn0 (t,p)=some (okT (if wB t then atP t p else none)):=by
 unfold Kn0
 simp only
 rw [Krl t ht,bs]
 cases hw:wB t
 ·rfl
 ·rw [if_pos rfl,show (0:Int)=((0:Nat):Int) from rfl,Kty p hp p 0 t rfl ht,bs]
  cases h:atP t p with
  | none=>simp [okT,noT,h]
  | some u =>
   obtain ⟨h1,h2⟩:=Ktv h
   have:=Kto (Kti (by omega) u (h2 _ (Ktn hw))) (by omega)
   simp only [Ktw,if_true,h]
   rw [Ku0,show ((0:Nat):Int)=0 from rfl,this,bs]; rfl
theorem iAt (t:K00) (p:List Int) (ht:tms t ≤ 1099511627776) (hp:p.length ≤ 1099511627776):Kk2 (t,p)=some (okT (atP t p)):=by
 unfold Kk2
 simp only
 rw [show (0:Int)=((0:Nat):Int) from rfl,Ktz p hp p 0 t rfl ht,bs]
 cases h:atP t p with
 | none=>rfl
 | some u=>cases u; rfl
theorem Ku2 (t:K00) (p:List Int) (ht:tms t ≤ 1099511627776) (hp:p.length ≤ 1099511627776):Kll (t,p)=some (okT (if wB t then atP t p else none)):=by
 unfold Kll
 simp only
 rw [Krk t ht,bs]
 cases hw:wB t
 ·rfl
 ·rw [if_pos rfl,iAt t p ht hp,bs]
  cases h:atP t p with
  | none=>simp [okT,noT,h]
  | some u =>
   obtain ⟨h1,h2⟩:=Ktv h
   simp only [okT,if_true,h]
   rw [Kt9 u (by omega),bs]
def lct:List (List Int)→Nat
 | []=>0
 | x :: l=>x.length + lct l
theorem Ku3 {l:List (List Int)} {x:List Int} (h:x ∈ l):x.length ≤ lct l:=by
 induction l with
 | nil=>cases h
 | cons y l ih =>
  rw [lct]
  rcases List.mem_cons.1 h with rfl | h
  ·omega
  ·have:=ih h; omega
theorem Ku4 (a b:List (List Int)):lct (a ++ b)=lct a + lct b:=by
 induction a with
 | nil=>simp [lct]
 | cons x l ih=>rw [List.cons_append,lct,lct,ih]; omega
mutual
theorem Ku5:∀ (t:K00) (p:List Int),lct (Krx t p) ≤ (p.length + tsz t) * tsz t
 | ⟨op,N,ty,ks⟩,p=>by
  rw [Krx,tsz,Ku4]
  have h1:=Ku6 ks 0 p
  have h2:lct (if Kru ⟨op,N,ty,ks⟩ then [p] else []) ≤ p.length:=by split <;> simp [lct]
  have h3:(p.length + (1 + Kqj ks)) * (1 + Kqj ks)=(p.length + (1 + Kqj ks)) + (p.length + (1 + Kqj ks)) * Kqj ks:=by rw [Nat.mul_add,Nat.mul_one]
  have h4:(p.length + 1 + Kqj ks) * Kqj ks=(p.length + (1 + Kqj ks)) * Kqj ks:=by rw [Nat.add_assoc]
  omega
theorem Ku6:∀ (ks:List K00) (i:Nat) (p:List Int),lct (Kry ks i p) ≤ (p.length + 1 + Kqj ks) * Kqj ks
 | [],i,p=>by simp [Kry,lct]
 | k :: ks,i,p=>by
  rw [Kry,Kqj,Ku4]
  have h1:=Ku5 k (p ++ [(i:Int)])
  have h2:=Ku6 ks (i + 1) p
  rw [List.length_append,List.length_singleton] at h1
  have h3:(p.length + 1 + tsz k) * tsz k ≤ (p.length + 1 + (tsz k + Kqj ks)) * tsz k:=Nat.mul_le_mul_right _ (by omega)
  have h4:(p.length + 1 + Kqj ks) * Kqj ks ≤ (p.length + 1 + (tsz k + Kqj ks)) * Kqj ks:=Nat.mul_le_mul_right _ (by omega)
  rw [Nat.mul_add]
  omega
end
theorem Ku7 (t:K00) (ht:tms t ≤ 1099511627776):Kii t=some (if wB t then Krx t [] else [])∧Knh t=some (if wB t then Krx t [] else []):=by
 unfold Kii Knh
 rw [Krl t ht,Krk t ht]
 cases h:wB t
 ·exact ⟨rfl,rfl⟩
 ·obtain ⟨h1,h2⟩:=Ktm h
  refine ⟨?_,?_⟩
  ·rw [bs,if_pos rfl,Ks4 _ _ t 8 [] h1 (by simp; omega)]; rfl
  ·rw [bs,if_pos rfl,Ks8 _ _ t 8 [] h1 (by simp; omega)]; rfl
theorem Ku8 (b:Bool):Kgg (b,-1)=some (if b then 35 else 36):=by cases b <;> rfl
def Ku9 (t:K00) (i:Int):K00:=t.fKids.getD i.toNat noT
def Kua:List Int→K00→K00→K00
 | [],_,u=>u
 | i :: l,t,u=>⟨t.fOp,t.fN,t.fType,t.fKids.set i.toNat (Kua l (Ku9 t i) u)⟩
theorem Kub {t u:K00} {i:Int} {l:List Int} (h:atP t (i :: l)=some u):∃ k,inB i 0 ((t.fKids.length:Int) - 1)=true∧i.toNat < t.fKids.length∧idx t.fKids i=some k∧Ku9 t i=k∧k ∈ t.fKids∧atP k l=some u:=by
 simp only [atP] at h
 cases hs:Ktt t i with
 | none=>rw [hs] at h; cases h
 | some k =>
  rw [hs] at h
  have hm:=Ktu hs
  unfold Ktt at hs
  cases hb:inB i 0 ((t.fKids.length:Int) - 1)
  ·rw [hb] at hs; cases hs
  ·rw [hb,if_pos rfl] at hs
   have h':=hb
   unfold inB at h'
   simp only [Bool.and_eq_true,decide_eq_true_eq] at h'
   refine ⟨k,rfl,by omega,?_,?_,hm,h⟩
   ·unfold idx; rw [if_pos (by omega)]; exact hs
   ·unfold Ku9; rw [List.getD_eq_getElem?_getD,hs]; rfl
theorem Kuc {l:List K00} {i:Nat} (hi:i < l.length) (u:K00):Kqk (l.set i u) + tms l[i]=Kqk l + tms u:=by
 induction l generalizing i with
 | nil=>simp at hi
 | cons x l ih =>
  cases i with
  | zero=>simp only [List.set_cons_zero,Kqk,List.getElem_cons_zero]; omega
  | succ i =>
   have:=ih (i:=i) (by simpa using hi)
   simp only [List.set_cons_succ,Kqk,List.getElem_cons_succ]; omega
theorem Kud {t:K00} {i:Int} (h:i.toNat < t.fKids.length):Ku9 t i=t.fKids[i.toNat]:=by
 unfold Ku9; rw [List.getD_eq_getElem?_getD,List.getElem?_eq_getElem h]; rfl
theorem Kue (u:K00):∀ (p:List Int) (t x:K00),atP t p=some x→tms (Kua p t u) ≤ tms t + tms u:=by
 intro p
 induction p with
 | nil=>intro t x _; rw [Kua]; omega
 | cons i l ih =>
  intro t x h
  obtain ⟨k,h1,h2,h3,h4,h5,h6⟩:=Kub h
  have:=ih k x h6
  rw [Kua,Kql t,tms,List.length_set]
  have hs:=Kuc h2 (Kua l (Ku9 t i) u)
  rw [← Kud h2,h4] at hs
  rw [h4]
  omega
theorem Kuf:∀ (p:List Int) (t x:K00),atP t p=some x→p.length + 1 ≤ tsz t:=by
 intro p
 induction p with
 | nil=>intro t x _; rw [Kqm]; simp
 | cons i l ih =>
  intro t x h
  obtain ⟨k,h1,h2,h3,h4,h5,h6⟩:=Kub h
  have:=ih k x h6
  have:=Kt8 h5
  rw [List.length_cons]; omega
theorem Kug {α:Type} (x:α) (l:List α):cut (x :: l) (some 1) none none=some l:=Ksw [x] l
theorem Kuh {ks:List K00} {hi:Int} (hh:hi ≤ 9223372036854775807) (hn:Ktb hi ks) (hm:Kqk ks ≤ 1099511627776):∀ k ∈ ks,Kez (k,0,0)=some k:=fun k hk =>
 Kto (Kti hh k (Ktp hn k hk)) (by have:=Kt5 hk; omega)
theorem Kui (u:K00) (hu:tNb 9223372036854775807 u) (hum:tms u ≤ 1099511627776):∀ (p:List Int) (t x:K00),atP t p=some x→p.length ≤ 1099511627776→tNb 9223372036854775807 t→tms t ≤ 1099511627776→Kni (t,p,u)=some (Kua p t u):=by
 intro p
 induction p with
 | nil =>
  intro t x _ _ _ _
  rw [Kni.eq_def,Kua]
  simp only
  rw [if_pos (by rfl),Kto hu hum,bs]
 | cons j l ih =>
  intro t x h hp hn hm
  obtain ⟨k,h1,h2,h3,h4,h5,h6⟩:=Kub h
  have h1':=h1
  unfold inB at h1'
  simp only [Bool.and_eq_true,decide_eq_true_eq] at h1'
  obtain ⟨jn,hj⟩:∃ jn:Nat,j=(jn:Int):=⟨j.toNat,by omega⟩
  rw [List.length_cons] at hp
  have hk:=Kt7 h5
  have hte:=Kql t
  have ihk:=ih k x h6 (by omega) (Ktp (Ktq hn) k h5) (by omega)
  rw [Kni.eq_def,Kua]
  simp only
  rw [if_neg (by simp; omega),Ks2 _ (by omega),bs]
  have loop:∀ (ks:List K00) (i:Nat) (out:List K00),t.fKids.drop i=ks→out.length=i→Knj (t,j :: l,u,t.fType,out,(i:Int))=some (out ++ (t.fKids.set jn (Kua l k u)).drop i):=by
   intro ks
   induction ks with
   | nil =>
    intro i out hd ho
    have:=Kpo hd
    rw [Knj.eq_def]
    simp only
    rw [Koq this,List.drop_eq_nil_of_le (by simpa using this),List.append_nil]; rfl
   | cons y ks ihl =>
    intro i out hd ho
    obtain ⟨hi,hx,hd'⟩:=Kpn hd
    have hy:t.fKids[i]=y:=by rw [Kon hi] at hx; exact Option.some.inj hx
    have hset:i < (t.fKids.set jn (Kua l k u)).length:=by simpa using hi
    rw [Knj.eq_def]
    simp only
    rw [Kop hi,if_pos rfl,Kt1,bs,Koo (by omega)]
    refine (Kqi (x:=out ++ [(t.fKids.set jn (Kua l k u))[i]]) ?_).trans ?_
    ·by_cases e:i=jn
     ·subst e
      rw [hj,show ((i:Int) == (i:Int))=true by simp,if_pos rfl,hx,bs,Kug,bs]
      have:y=k:=by rw [hj] at h3; rw [hx] at h3; exact Option.some.inj h3
      rw [this,ihk,bs,Krs (by simp only [List.length_singleton]; omega),bs]
      rw [List.getElem_set_self]
     ·rw [hj,show ((i:Int) == (jn:Int))=false from beq_eq_false_iff_ne.2 (by omega),if_neg (by decide),hx,bs]
      have hym:y ∈ t.fKids:=by rw [← hy]; exact List.getElem_mem hi
      rw [Kuh (by omega) (Ktq hn) (by omega) y hym,bs,Krs (by simp only [List.length_singleton]; omega),bs,List.getElem_set_ne (fun h=>e h.symm),hy]
    rw [ihl (i + 1) _ hd' (by simp [ho]),List.append_assoc,List.drop_eq_getElem_cons hset]; rfl
  rw [show (0:Int)=((0:Nat):Int) from rfl,loop t.fKids 0 [] rfl rfl,bs,List.drop_zero,List.nil_append,h4,hj,Int.toNat_natCast]
theorem Kuj (u:K00) (hum:tms u ≤ 1099511627776):∀ (p:List Int) (t x:K00),atP t p=some x→p.length ≤ 1099511627776→tms t ≤ 1099511627776→Klf (t,p,u)=some (Kua p t u):=by
 intro p
 induction p with
 | nil =>
  intro t x _ _ _
  rw [Klf.eq_def,Kua]
  simp only
  rw [if_pos (by rfl),Kt9 u hum,bs]
 | cons j l ih =>
  intro t x h hp hm
  obtain ⟨k,h1,h2,h3,h4,h5,h6⟩:=Kub h
  rw [List.length_cons] at hp
  have hk:=Kt7 h5
  rw [Klf.eq_def,Kua]
  simp only
  rw [if_neg (by simp; omega),Kt9 t hm,bs,Kt1,bs,bs,h3,bs,Kug,bs,ih k x h6 (by omega) (by omega),bs,bs,h4]
theorem iR1 (x:Int):Klu x=some ((fun _=>true) x):=rfl
theorem iR2 (x:List Int) (h:x.length ≤ 1099511627776):Klx x=some ((fun _=>true) x):=rfl
mutual
theorem Kuk:∀ (t:K00) (n nodes:Nat),tms t ≤ 1099511627776→n + 2 * tms t ≤ 35184372088832→nodes ≤ 400→Km1 (t,(n:Int),(nodes:Int))=some (Krf (tOk (fun _=>true) (fun _=>true) n t) nodes (tsz t))
 | ⟨op,N,ty,ks⟩,n,nodes,ht,hn,hd=>by
  rw [tms] at ht hn
  rw [Km1.eq_def,tOk,tsz]
  simp only
  rw [Kr2,bs]
  unfold Kr1
  cases hop:inB op 0 12
  ·simp [Kr9,hop,Krf]
  ·simp only [if_true]
   rw [Koo (by omega)]
   by_cases h4:nodes + 1 ≤ 400
   ·rw [decide_eq_false (by omega:¬ ((nodes + 1:Nat):Int) > 400)]
    by_cases hk:(ks.length:Int)=Kqt op
    ·rw [show ((ks.length:Int) != Kqt op)=false by rw [hk]; exact Kor]
     simp only [Bool.false_eq_true,if_false,bs]
     refine (Kqi (x:=Kr7 (fun _=>true) (n:Int) ⟨op,N,ty,ks⟩) ?_).trans ?_
     ·unfold Kr7
      simp only [iIn,Kom (x:=(n:Int) - 1) (by omega) (by omega),iR1,bs]
      cases op == 0 <;> cases op == 1 <;> cases Kqu op <;> rfl
     refine (Kqi (x:=Kr7 (fun _=>true) (n:Int) ⟨op,N,ty,ks⟩ && Kr8 (fun _=>true) ⟨op,N,ty,ks⟩) ?_).trans ?_
     ·unfold Kr8
      simp only [iR2 ty (by omega),bs]
      cases Kqv op <;> cases Kr7 (fun _=>true) (n:Int) ⟨op,N,ty,ks⟩ <;> rfl
     have e:Kr9 (fun _=>true) (fun _=>true) (n:Int) ⟨op,N,ty,ks⟩=(Kr7 (fun _=>true) (n:Int) ⟨op,N,ty,ks⟩ && Kr8 (fun _=>true) ⟨op,N,ty,ks⟩):=by
      unfold Kr9
      simp only
      rw [hop,hk]; simp
     rw [e]
     cases Kr7 (fun _=>true) (n:Int) ⟨op,N,ty,ks⟩ && Kr8 (fun _=>true) ⟨op,N,ty,ks⟩
     ·simp [Krf]
     ·have h:=Kul ks ⟨op,N,ty,ks⟩ n (nodes + 1) 0 rfl (by simp only; omega) (by omega) (by omega) h4
      rw [if_pos rfl,show (0:Int)=((0:Nat):Int) from rfl,h]
      simp only [Bool.true_and]
      unfold Krf
      rw [show nodes + (1 + Kqj ks)=nodes + 1 + Kqj ks by omega]
      cases Kra (fun _=>true) (fun _=>true) op n 0 ks && decide (nodes + 1 + Kqj ks ≤ 400) <;> rfl
    ·rw [show ((ks.length:Int) != Kqt op)=true by simpa using hk]
     have e:Kr9 (fun _=>true) (fun _=>true) (n:Int) ⟨op,N,ty,ks⟩=false:=by
      unfold Kr9
      simp only
      rw [show ((ks.length:Int) == Kqt op)=false by simpa using hk]; simp
     simp [e,Krf]
   ·rw [decide_eq_true (by omega:((nodes + 1:Nat):Int) > 400)]
    have:¬ nodes + (1 + Kqj ks) ≤ 400:=by omega
    simp [Krf,this]
theorem Kul:∀ (ks:List K00) (t:K00) (n nodes i:Nat),t.fKids.drop i=ks→t.fKids.length ≤ 1099511627776→Kqk ks ≤ 1099511627776→n + 2 * (ks.length + Kqk ks) ≤ 35184372088832→nodes ≤ 400 →
  Km2 (t,(n:Int),(nodes:Int),(i:Int))=some (if Kra (fun _=>true) (fun _=>true) t.fOp n i ks && decide (nodes + Kqj ks ≤ 400) then .inl ((nodes + Kqj ks:Nat):Int) else .inr 401)
 | [],t,n,nodes,i,hd,hk,ht,hn,h4=>by
  rw [Km2.eq_def,Kra,Kqj]
  simp only
  rw [Koq (Kpo hd)]
  simp [h4]
 | k :: ks,t,n,nodes,i,hd,hk,ht,hn,h4=>by
  obtain ⟨hi,hx,hd'⟩:=Kpn hd
  rw [Kqk] at ht hn
  rw [List.length_cons] at hn
  have ha:=Kr4 t.fOp (i:Int)
  rw [Km2.eq_def,Kra,Kqj]
  simp only
  rw [Kop hi,if_pos rfl,hx,bs,Kr6,bs,Kom (by omega) (by omega),show (n:Int) + ((Kr3 t.fOp (i:Int):Nat):Int)=((n + Kr3 t.fOp (i:Int):Nat):Int) by omega]
  rw [Kuk k (n + Kr3 t.fOp (i:Int)) nodes (by omega) (by omega) h4,bs,Koo (by omega)]
  unfold Krf
  cases tOk (fun _=>true) (fun _=>true) (n + Kr3 t.fOp (i:Int)) k
  ·rfl
  ·by_cases q:nodes + tsz k ≤ 400
   ·rw [decide_eq_true q,Bool.true_and,if_pos rfl,decide_eq_false (by omega:¬ ((nodes + tsz k:Nat):Int) > 400),if_neg (by decide),Kul ks t n (nodes + tsz k) (i + 1) hd' hk (by omega) (by omega) q,Nat.add_assoc,Bool.true_and]
   ·rw [decide_eq_false q,decide_eq_false (by omega:¬ nodes + (tsz k + Kqj ks) ≤ 400)]
    simp
end
theorem Kum {x a b:Int} (hab:a ≤ b) (h:inB x 0 a=true):inB x 0 b=true:=by
 unfold inB at h ⊢
 simp only [Bool.and_eq_true,decide_eq_true_eq] at h ⊢
 omega
mutual
theorem Kun {g:Int→Bool} {y:List Int→Bool}:∀ (t:K00) (n m:Nat),n ≤ m→tOk g y n t=true→tOk (fun _=>true) (fun _=>true) m t=true
 | ⟨op,N,ty,ks⟩,n,m,h,ht=>by
  rw [tOk,Bool.and_eq_true] at ht ⊢
  refine ⟨?_,Kuo ks op n m 0 h ht.2⟩
  have h1:=ht.1
  unfold Kr9 Kr7 Kr8 at h1 ⊢
  simp only [Bool.and_eq_true] at h1 ⊢
  refine ⟨⟨h1.1.1,?_⟩,?_⟩
  ·have h2:=h1.1.2
   revert h2
   cases op == 0
   ·cases op == 1
    ·cases Kqu op <;> simp
    ·simp
   ·intro h2
    rw [if_pos rfl] at h2 ⊢
    exact Kum (by omega) h2
  ·have h2:=h1.2
   revert h2
   cases Kqv op <;> simp
theorem Kuo {g:Int→Bool} {y:List Int→Bool}:∀ (ks:List K00) (op:Int) (n m i:Nat),n ≤ m→Kra g y op n i ks=true→Kra (fun _=>true) (fun _=>true) op m i ks=true
 | [],op,n,m,i,h,ht=>by rw [Kra]
 | k :: ks,op,n,m,i,h,ht=>by
  rw [Kra,Bool.and_eq_true] at ht ⊢
  exact ⟨Kun k _ _ (by omega) ht.1,Kuo ks op n m (i + 1) h ht.2⟩
end
theorem Kup {g:Int→Bool} {y:List Int→Bool}:∀ (ks:List K00) (op:Int) (n i j:Nat) (hj:j < ks.length),Kra g y op n i ks=true→tOk g y (n + Kr3 op ((i + j:Nat):Int)) ks[j]=true
 | k :: ks,op,n,i,j,hj,ht=>by
  rw [Kra,Bool.and_eq_true] at ht
  cases j with
  | zero=>exact ht.1
  | succ j =>
   have:=Kup ks op n (i + 1) j (by simpa using hj) ht.2
   rw [show i + 1 + j=i + (j + 1) by omega] at this
   exact this
theorem Kuq {g:Int→Bool} {y:List Int→Bool} (u:K00):∀ (p:List Int) (t x:K00) (n:Nat),atP t p=some x→tOk g y n (Kua p t u)=true→∃ m,m ≤ n + 2 * p.length∧tOk g y m u=true:=by
 intro p
 induction p with
 | nil=>intro t x n _ h; exact ⟨n,by simp,h⟩
 | cons i l ih =>
  intro t x n ha h
  obtain ⟨k,h1,h2,h3,h4,h5,h6⟩:=Kub ha
  rw [Kua,tOk,Bool.and_eq_true] at h
  have:=Kup _ _ _ 0 i.toNat (by simpa using h2) h.2
  rw [List.getElem_set_self,h4] at this
  obtain ⟨m,e1,e2⟩:=ih k x _ h6 this
  have:=Kr4 t.fOp ((0 + i.toNat:Nat):Int)
  exact ⟨m,by rw [List.length_cons]; omega,e2⟩
def Kur (t:K00) (p:List Int) (u:K00):Option K00:=if wB t && (atP t p).isSome && decide (tsz u ≤ 400) && wB (Kua p t u) then some (Kua p t u) else none
theorem Kus (t:K00) (p:List Int) (u:K00) (ht:tms t ≤ 1048576) (hp:p.length ≤ 1048576) (hu:tms u ≤ 1048576) (hn:tNb 9223372036854775807 u) :
  Knk (t,p,u)=some (okT (Kur t p u))∧Km8 (t,p,u)=some (okT (Kur t p u)):=by
 unfold Knk Km8 Kur
 simp only
 rw [Ku1 t p (by omega) (by omega),Krk t (by omega),bs,bs]
 cases hw:wB t
 ·exact ⟨rfl,rfl⟩
 ·simp only [if_true,Bool.true_and]
  rw [iAt t p (by omega) (by omega),bs]
  cases h:atP t p with
  | none=>exact ⟨rfl,rfl⟩
  | some x =>
   have l1:=Kqr u 400 (by omega) (by omega)
   have c1:=Kuk u 1048576 0 (by omega) (by omega) (by omega)
   rw [show ((400:Nat):Int)=400 from rfl] at l1
   rw [show ((1048576:Nat):Int)=1048576 from rfl,show ((0:Nat):Int)=0 from rfl] at c1
   simp only [okT,if_true,Option.isSome_some,Bool.true_and]
   rw [l1,c1,bs,bs,bs,bs]
   have hs:=Kue u p t x h
   have s1:=Kui u hn (by omega) p t x h (by omega) (Kti (by omega) t (Ktn hw)) (by omega)
   have s2:=Kuj u (by omega) p t x h (by omega) (by omega)
   have w1:=Krl (Kua p t u) (by omega)
   have w2:=Krk (Kua p t u) (by omega)
   have hpl:=Kuf p t x h
   have htz:=(Ktm hw).2
   by_cases q:tsz u ≤ 400
   ·rw [Kqo q,decide_eq_false (by omega:¬ ((400 - tsz u:Nat):Int) < 0),decide_eq_true q,if_neg (by decide),s1,bs,w1,bs]
    refine ⟨by cases wB (Kua p t u) <;> rfl,?_⟩
    unfold Krf
    rw [Nat.zero_add,decide_eq_true q,Bool.and_true]
    cases hL:tOk (fun _=>true) (fun _=>true) 1048576 u
    ·have:wB (Kua p t u)=false:=by
      cases hq:wB (Kua p t u)
      ·rfl
      ·obtain ⟨m,e1,e2⟩:=Kuq u p t x 8 h (Ktm hq).1
       rw [Kun u m 1048576 (by omega) e2] at hL
       cases hL
     rw [this]; rfl
    ·rw [if_pos rfl,decide_eq_false (by omega:¬ ((tsz u:Nat):Int) > 400),if_neg (by decide),s2,bs,w2,bs]
     cases wB (Kua p t u) <;> rfl
   ·rw [Kqp q,decide_eq_false q]
    refine ⟨rfl,?_⟩
    unfold Krf
    rw [Nat.zero_add,decide_eq_false q,Bool.and_false]; rfl
structure Kut (c:Int) (a b:Ty):Prop where
 p0:Kd6 (c :: (a.code ++ b.code),0)=some a.code
 p1:Kd6 (c :: (a.code ++ b.code),1)=some b.code
 pp:Kng (c :: (a.code ++ b.code))=some [a.code,b.code]
 ok:a.ok∧b.ok
 la:a.code.length + b.code.length + 1 ≤ 1048576
theorem Kuu {c:Int} {a b:Ty} (h:(Ty.bin c a b).ok) (hl:(Ty.bin c a b).code.length ≤ 1048576):Kut c a b:=by
 have hl':=hl
 rw [Ty.code] at hl'
 have h3:=Ksy h hl
 rw [Ty.kids,List.map_cons,List.map_cons,List.map_nil,Ty.code] at h3
 refine ⟨Ksz h.2.1 (by omega),Kt0 h.2.1 (by omega),h3,h.2,?_⟩
 rw [List.length_cons,List.length_append] at hl'
 omega
structure UnP (c:Int) (a:Ty):Prop where
 p0:Kd6 (c :: a.code,0)=some a.code
 pp:Kng (c :: a.code)=some [a.code]
 ok:a.ok
 la:a.code.length + 1 ≤ 1048576
theorem unP {c:Int} {a:Ty} (h:(Ty.un c a).ok) (hl:(Ty.un c a).code.length ≤ 1048576):UnP c a:=by
 have hl':=hl
 rw [Ty.code] at hl'
 have h3:=Ksy h hl
 rw [Ty.kids,List.map_cons,List.map_nil,Ty.code] at h3
 have h4:=Ksz (c:=c) (r:=[]) h.2 (by rw [List.append_nil]; omega)
 rw [List.append_nil] at h4
 refine ⟨h4,h3,h.2,?_⟩
 rw [List.length_cons] at hl'
 omega
theorem Kuv {p:Prop} [Decidable p] (h:p):chk p=some ():=by unfold chk; rw [if_pos h]
theorem Kuw (x y:Int) (l r:List Int):(x :: l == y :: r)=(x == y && l == r):=rfl
theorem Kux (a b:List Int) (ha:a.length ≤ 1099511627776) (hab:a.length=b.length):∀ (l r:List Int) (i:Nat),a.drop i=l→b.drop i=r→Kce (a,b,(i:Int))=some (if l == r then .inl () else .inr false):=by
 intro l
 induction l with
 | nil =>
  intro r i h1 h2
  have hi:=Kpo h1
  rw [Kce.eq_def]
  simp only
  rw [Koq hi]
  have:r=[]:=by rw [← h2]; exact List.drop_eq_nil_of_le (by omega)
  subst this; rfl
 | cons x l ih =>
  intro r i h1 h2
  obtain ⟨hi,hx,hd⟩:=Kpn h1
  cases r with
  | nil=>have:=Kpo h2; omega
  | cons y r =>
   obtain ⟨_,hy,hd2⟩:=Kpn h2
   rw [Kce.eq_def]
   simp only
   rw [Kop hi,if_pos rfl,hx,hy,bs,bs,Koo (by omega),ih r (i + 1) hd hd2,Kuw]
   by_cases e:x=y
   ·subst e; simp
   ·rw [bne_iff_ne.2 e,if_pos rfl,beq_eq_false_iff_ne.2 e]; rfl
theorem Kuy (a b:List Int) (hb:b.length ≤ 1099511627776):Kch (a,b)=some (a == b):=by
 unfold Kch
 simp only
 by_cases h:a.length=b.length
 ·rw [h,Kor,if_neg (by decide)]
  have:=Kux a b (by omega) h a b 0 rfl rfl
  rw [show ((0:Nat):Int)=0 from rfl] at this
  rw [this]
  cases a == b <;> rfl
 ·rw [bne_iff_ne.2 (by omega),if_pos rfl]
  have:a ≠ b:=fun e=>h (by rw [e])
  rw [beq_eq_false_iff_ne.2 this]
theorem Kuz (a b:List Int) (ha:a.length ≤ 1099511627776) (hab:a.length=b.length):∀ (l r:List Int) (i:Nat),a.drop i=l→b.drop i=r→Kmc (a,b,(i:Int))=some (if l == r then .inl () else .inr false):=by
 intro l
 induction l with
 | nil =>
  intro r i h1 h2
  have hi:=Kpo h1
  rw [Kmc.eq_def]
  simp only
  rw [Koq hi]
  have:r=[]:=by rw [← h2]; exact List.drop_eq_nil_of_le (by omega)
  subst this; rfl
 | cons x l ih =>
  intro r i h1 h2
  obtain ⟨hi,hx,hd⟩:=Kpn h1
  cases r with
  | nil=>have:=Kpo h2; omega
  | cons y r =>
   obtain ⟨_,hy,hd2⟩:=Kpn h2
   rw [Kmc.eq_def]
   simp only
   rw [Kop hi,if_pos rfl,hx,hy,bs,bs,Koo (by omega),ih r (i + 1) hd hd2,Kuw]
   by_cases e:x=y
   ·subst e; simp
   ·rw [bne_iff_ne.2 e,if_pos rfl,beq_eq_false_iff_ne.2 e]; rfl
theorem Kv0 (a b:List Int) (hb:b.length ≤ 1099511627776):Kmf (a,b)=some (a == b):=by
 unfold Kmf
 simp only
 by_cases h:a.length=b.length
 ·rw [h,Kor,if_neg (by decide)]
  have:=Kuz a b (by omega) h a b 0 rfl rfl
  rw [show ((0:Nat):Int)=0 from rfl] at this
  rw [this]
  cases a == b <;> rfl
 ·rw [bne_iff_ne.2 (by omega),if_pos rfl]
  have:a ≠ b:=fun e=>h (by rw [e])
  rw [beq_eq_false_iff_ne.2 this]
theorem Kv1 {α:Type} {l:List α} (h:((l.length:Int) == 0)=true):l=[]:=by
 rw [beq_iff_eq] at h; exact List.length_eq_zero_iff.1 (by omega)
theorem Kv2 (g:Int→Bool) (y:List Int→Bool) (n:Nat) (op N:Int) (ty:List Int) (ks:List K00):tOk g y n ⟨op,N,ty,ks⟩=(Kr9 g y (n:Int) ⟨op,N,ty,ks⟩ && Kra g y op n 0 ks):=Krb ..
theorem Kv3 (g:Int→Bool) (y:List Int→Bool) (op:Int) (n i:Nat) (k:K00) (ks:List K00):Kra g y op n i (k :: ks)=(tOk g y (n + Kr3 op i) k && Kra g y op n (i + 1) ks):=by rw [Kra]
theorem Kv4 (g:Int→Bool) (y:List Int→Bool) (op:Int) (n i:Nat):Kra g y op n i []=true:=by rw [Kra]
theorem Kv5 {l:List K00} (h:((l.length:Int) == 1)=true):∃ k,l=[k]:=by
 rw [beq_iff_eq] at h; match l,h with | [k],_=>exact ⟨k,rfl⟩ | [],h=>exact absurd h (by simp) | _ :: _ :: _,h=>exact absurd h (by simp only [List.length_cons]; omega)
theorem Kv6 {l:List K00} (h:((l.length:Int) == 2)=true):∃ k m,l=[k,m]:=by
 rw [beq_iff_eq] at h; match l,h with | [k,m],_=>exact ⟨k,m,rfl⟩ | [],h=>exact absurd h (by simp) | [_],h=>exact absurd h (by simp) | _ :: _ :: _ :: _,h=>exact absurd h (by simp only [List.length_cons]; omega)
end Go.Am
