/- Plain laws of the printed functions. -/
import Derived.Test.YtjolnnofmlaeaaaDoorPSYx
set_option linter.unusedSimpArgs false
set_option linter.unusedVariables false
namespace Go.Am
theorem Kct {x:Int} (h1:-9223372036854775808 ≤ x) (h2:x ≤ 9223372036854775807):wr x=x:=by
 unfold wr IntKind.wrap
 simp [IntKind.bits,IntKind.signed]
 omega
theorem Kcu {α:Type} {l:List α} {n:Nat} (h:n < l.length):idx l (n:Int)=some l[n]:=by
 unfold idx
 rw [if_pos (by omega)]
 simp [h]
theorem bs {α β:Type} (a:α) (f:α→Option β):(some a >>= f)=f a:=rfl
theorem Kcv {n:Nat} (h:n < 9223372036854775807):wr ((n:Int) + 1)=((n + 1:Nat):Int):=by
 rw [Kct (by omega) (by omega)]; omega
theorem Kcw {n m:Nat} (h:n < m):decide ((n:Int) < (m:Int))=true:=decide_eq_true (by omega)
theorem Kcx {n m:Nat} (h:m ≤ n):decide ((n:Int) < (m:Int))=false:=decide_eq_false (by omega)
theorem Kcy {a:Int}:(a != a)=false:=by simp
structure Tab (s:K00) (n:Nat):Prop where
 size:s.fSize=(n:Int)
 lo:2 ≤ n
 hi:n ≤ 16
 lp:s.fPlus.length=n * n
 lt:s.fTimes.length=n * n
 lb:s.fBelow.length=n * n
 rp:∀ i (h:i < s.fPlus.length),0 ≤ s.fPlus[i]∧s.fPlus[i] < (n:Int)
 rt:∀ i (h:i < s.fTimes.length),0 ≤ s.fTimes[i]∧s.fTimes[i] < (n:Int)
def pl (s:K00) (n a b:Nat):Nat:=(s.fPlus.getD (a * n + b) 0).toNat
def ti (s:K00) (n a b:Nat):Nat:=(s.fTimes.getD (a * n + b) 0).toNat
def le (s:K00) (n a b:Nat):Bool:=s.fBelow.getD (a * n + b) false
theorem Kcz {n a b:Nat} (ha:a < n) (hb:b < n):a * n + b < n * n:=by
 have:(a + 1) * n ≤ n * n:=Nat.mul_le_mul_right _ (by omega)
 rw [Nat.add_mul,Nat.one_mul] at this
 omega
theorem Kd0 {n a b:Nat} (hn:n ≤ 16) (ha:a < n) (hb:b < n):wr ((wr ((a:Int) * (n:Int))) + (b:Int))=((a * n + b:Nat):Int):=by
 have h1:a * n ≤ 256:=Nat.le_trans (Nat.mul_le_mul (by omega:a ≤ 16) hn) (by decide)
 have e:(a:Int) * (n:Int)=((a * n:Nat):Int):=by simp
 rw [e]
 generalize a * n=m at h1
 rw [Kct (x:=(m:Int)) (by omega) (by omega),Kct (by omega) (by omega)]
 omega
section
variable {s:K00} {n:Nat} (h:Tab s n)
include h
theorem Kd1 {a b:Nat} (ha:a < n) (hb:b < n):pl s n a b < n:=by
 have hl:a * n + b < s.fPlus.length:=by rw [h.lp]; exact Kcz ha hb
 unfold pl
 rw [List.getD_eq_getElem?_getD,List.getElem?_eq_getElem hl]
 have:=h.rp _ hl
 simp only [Option.getD_some]
 omega
theorem Kd2 {a b:Nat} (ha:a < n) (hb:b < n):ti s n a b < n:=by
 have hl:a * n + b < s.fTimes.length:=by rw [h.lt]; exact Kcz ha hb
 unfold ti
 rw [List.getD_eq_getElem?_getD,List.getElem?_eq_getElem hl]
 have:=h.rt _ hl
 simp only [Option.getD_some]
 omega
theorem Kd3 {a b:Nat} (ha:a < n) (hb:b < n):idx s.fPlus ((a * n + b:Nat):Int)=some ((pl s n a b:Nat):Int):=by
 have hl:a * n + b < s.fPlus.length:=by rw [h.lp]; exact Kcz ha hb
 rw [Kcu hl]
 unfold pl
 rw [List.getD_eq_getElem?_getD,List.getElem?_eq_getElem hl]
 have:=h.rp _ hl
 simp only [Option.getD_some]
 congr 1
 omega
theorem Kd4 {a b:Nat} (ha:a < n) (hb:b < n):idx s.fTimes ((a * n + b:Nat):Int)=some ((ti s n a b:Nat):Int):=by
 have hl:a * n + b < s.fTimes.length:=by rw [h.lt]; exact Kcz ha hb
 rw [Kcu hl]
 unfold ti
 rw [List.getD_eq_getElem?_getD,List.getElem?_eq_getElem hl]
 have:=h.rt _ hl
 simp only [Option.getD_some]
 congr 1
 omega
theorem Kd5 {a b:Nat} (ha:a < n) (hb:b < n):idx s.fBelow ((a * n + b:Nat):Int)=some (le s n a b):=by
 have hl:a * n + b < s.fBelow.length:=by rw [h.lb]; exact Kcz ha hb
 rw [Kcu hl]
 unfold le
 rw [List.getD_eq_getElem?_getD,List.getElem?_eq_getElem hl]
 rfl
theorem Kd6 {a b:Nat} (ha:a < n) (hb:b < n):Kay (s,(a:Int),(b:Int))=some ((pl s n a b:Nat):Int):=by
 unfold Kay
 simp only
 rw [h.size,Kd0 h.hi ha hb,Kd3 h ha hb,bs]
theorem Kd7 {a b:Nat} (ha:a < n) (hb:b < n):Kaz (s,(a:Int),(b:Int))=some ((ti s n a b:Nat):Int):=by
 unfold Kaz
 simp only
 rw [h.size,Kd0 h.hi ha hb,Kd4 h ha hb,bs]
theorem sLe {a b:Nat} (ha:a < n) (hb:b < n):Kb0 (s,(a:Int),(b:Int))=some (le s n a b):=by
 unfold Kb0
 simp only
 rw [h.size,Kd0 h.hi ha hb,Kd5 h ha hb,bs]
theorem Kd8 {a b:Nat} (ha:a < n) (hb:b < n):K5i (s,(a:Int),(b:Int))=some ((pl s n a b:Nat):Int):=by
 unfold K5i
 simp only
 rw [h.size,Kd0 h.hi ha hb,Kd3 h ha hb,bs]
theorem Kd9 {a b:Nat} (ha:a < n) (hb:b < n):K5l (s,(a:Int),(b:Int))=some ((ti s n a b:Nat):Int):=by
 unfold K5l
 simp only
 rw [h.size,Kd0 h.hi ha hb,Kd4 h ha hb,bs]
theorem iLe {a b:Nat} (ha:a < n) (hb:b < n):K5o (s,(a:Int),(b:Int))=some (le s n a b):=by
 unfold K5o
 simp only
 rw [h.size,Kd0 h.hi ha hb,Kd5 h ha hb,bs]
end
theorem Kda (x y:Nat):(((x:Nat):Int) == ((y:Nat):Int))=(x == y):=by
 cases hb:(x == y) with
 | true=>have:=eq_of_beq hb; subst this; simp
 | false=>simp at hb ⊢; omega
theorem Kdb (x y:Nat):(((x:Nat):Int) != ((y:Nat):Int))=(x != y):=by
 simp only [bne,Kda]
def Kdc (s:K00) (n a:Nat):Bool:=(pl s n 0 a == a) && (ti s n 1 a == a) && (ti s n a 1 == a) && (ti s n 0 a == 0) && (ti s n a 0 == 0) && le s n a a
def Kdd (s:K00) (n a b c:Nat):Bool :=
 (pl s n (pl s n a b) c == pl s n a (pl s n b c)) && (ti s n (ti s n a b) c == ti s n a (ti s n b c)) &&
 (ti s n a (pl s n b c) == pl s n (ti s n a b) (ti s n a c)) && (ti s n (pl s n a b) c == pl s n (ti s n a c) (ti s n b c)) &&
 (!(le s n a b) || ((!(le s n b c) || le s n a c) && le s n (pl s n a c) (pl s n b c) && le s n (ti s n a c) (ti s n b c) && le s n (ti s n c a) (ti s n c b)))
section
variable {s:K00} {n:Nat} (h:Tab s n)
include h
theorem Kde {a b c:Nat} (ha:a < n) (hb:b < n) (hc:c < n):K63 (s,(a:Int),(b:Int),(c:Int))=some (Kdd s n a b c):=by
 unfold K63 Kdd
 simp only
 simp only [Kd8 h,Kd9 h,iLe h,Kd1 h,Kd2 h,ha,hb,hc,bs,Kdb]
 generalize e1:pl s n (pl s n a b) c=x1
 generalize e2:pl s n a (pl s n b c)=x2
 generalize e3:ti s n (ti s n a b) c=x3
 generalize e4:ti s n a (ti s n b c)=x4
 generalize ti s n a (pl s n b c)=x5
 generalize pl s n (ti s n a b) (ti s n a c)=x6
 generalize ti s n (pl s n a b) c=x7
 generalize pl s n (ti s n a c) (ti s n b c)=x8
 generalize le s n (pl s n a c) (pl s n b c)=y1
 generalize le s n (ti s n a c) (ti s n b c)=y2
 generalize le s n (ti s n c a) (ti s n c b)=y3
 generalize le s n a b=y4
 generalize le s n b c=y5
 generalize le s n a c=y6
 simp only [bne]
 generalize (x1 == x2)=b1
 generalize (x3 == x4)=b2
 generalize (x5 == x6)=b3
 generalize (x7 == x8)=b4
 cases b1 <;> cases b2 <;> cases b3 <;> cases b4 <;> first | rfl | (cases y4 <;> cases y5 <;> cases y6 <;> cases y1 <;> cases y2 <;> cases y3 <;> rfl)
end
def Kdf (s:K00) (n a b g h:Nat):Bool:=!le s n a h || !le s n b h || le s n g h
def jok (s:K00) (n a b g:Nat):Bool:=le s n a g && le s n b g && (List.range' 0 n).all (Kdf s n a b g)
def Kdg (s:K00) (n a b:Nat):Int:=match (List.range' 0 n).find? (jok s n a b) with | some g=>(g:Int) | none=>-1
section
variable {s:K00} {n:Nat} (h:Tab s n)
include h
theorem Kdh {a b g:Nat} (ha:a < n) (hb:b < n) (hg:g < n):∀ (k m:Nat) (ok:Bool),m + k=n→Kb1 (s,(a:Int),(b:Int),(g:Int),ok,(m:Int))=some (ok && (List.range' m k).all (Kdf s n a b g)):=by
 have hhi:=h.hi
 intro k
 induction k with
 | zero =>
  intro m ok hm
  rw [Kb1.eq_def]
  simp only
  rw [h.size,Kcx (by omega)]
  simp [bs]
 | succ k ih =>
  intro m ok hm
  rw [Kb1.eq_def]
  simp only
  rw [h.size,Kcw (by omega),if_pos rfl,bs,sLe h ha (by omega),sLe h hb (by omega),sLe h hg (by omega)]
  cases ok with
  | false=>rfl
  | true =>
   rw [if_pos rfl]
   rw [List.range'_succ,List.all_cons]
   have ih:∀ ok,_:=fun ok=>ih (m + 1) ok (by omega)
   rw [Kcv (by omega)]
   generalize ((m + 1:Nat):Int)=M at ih ⊢
   simp only [bs,Kdf]
   cases le s n a m <;> cases le s n b m <;> cases le s n g m <;> simp [bs,ih,Kdf]
theorem Kdi {a b g:Nat} (ha:a < n) (hb:b < n) (hg:g < n):∀ (k m:Nat) (ok:Bool),m + k=n→K5s (s,(a:Int),(b:Int),(g:Int),ok,(m:Int))=some (ok && (List.range' m k).all (Kdf s n a b g)):=by
 have hhi:=h.hi
 intro k
 induction k with
 | zero =>
  intro m ok hm
  rw [K5s.eq_def]
  simp only
  rw [h.size,Kcx (by omega)]
  simp [bs]
 | succ k ih =>
  intro m ok hm
  rw [K5s.eq_def]
  simp only
  rw [h.size,Kcw (by omega),if_pos rfl,iLe h ha (by omega),iLe h hb (by omega),iLe h hg (by omega)]
  rw [List.range'_succ,List.all_cons]
  have ih:∀ ok,_:=fun ok=>ih (m + 1) ok (by omega)
  rw [Kcv (by omega)]
  generalize ((m + 1:Nat):Int)=M at ih ⊢
  simp only [bs,Kdf]
  cases ok <;> cases le s n a m <;> cases le s n b m <;> cases le s n g m <;> simp [bs,ih,Kdf]
theorem Kdj {a b:Nat} (ha:a < n) (hb:b < n):∀ (k g:Nat),g + k=n→Kb2 (s,(a:Int),(b:Int),(g:Int))=some (match (List.range' g k).find? (jok s n a b) with | some g=>.inr (g:Int) | none=>.inl ()):=by
 have hhi:=h.hi
 intro k
 induction k with
 | zero =>
  intro g hm
  rw [Kb2.eq_def]
  simp only
  rw [h.size,Kcx (by omega)]
  rfl
 | succ k ih =>
  intro g hm
  rw [Kb2.eq_def]
  simp only
  rw [h.size,Kcw (by omega),if_pos rfl,sLe h ha (by omega),sLe h hb (by omega)]
  have ih:=ih (g + 1) (by omega)
  rw [Kcv (by omega),List.range'_succ,List.find?_cons]
  have hl:=fun ok=>Kdh h ha hb (g:=g) (by omega) n 0 ok (by omega)
  rw [show ((0:Nat):Int)=0 from rfl] at hl
  generalize ((g + 1:Nat):Int)=M at ih ⊢
  have hj:jok s n a b g=(le s n a g && le s n b g && (List.range' 0 n).all (Kdf s n a b g)):=rfl
  rw [hj]
  cases le s n a g <;> cases le s n b g <;> cases hq:(List.range' 0 n).all (Kdf s n a b g) <;> simp [bs,hl,hq,ih]
theorem Kdk {a b:Nat} (ha:a < n) (hb:b < n):∀ (k g:Nat),g + k=n→K5x (s,(a:Int),(b:Int),(g:Int))=some (match (List.range' g k).find? (jok s n a b) with | some g=>.inr (g:Int) | none=>.inl ()):=by
 have hhi:=h.hi
 intro k
 induction k with
 | zero =>
  intro g hm
  rw [K5x.eq_def]
  simp only
  rw [h.size,Kcx (by omega)]
  rfl
 | succ k ih =>
  intro g hm
  rw [K5x.eq_def]
  simp only
  rw [h.size,Kcw (by omega),if_pos rfl,iLe h ha (by omega),iLe h hb (by omega)]
  have ih:=ih (g + 1) (by omega)
  rw [Kcv (by omega),List.range'_succ,List.find?_cons]
  have hl:=fun ok=>Kdi h ha hb (g:=g) (by omega) n 0 ok (by omega)
  rw [show ((0:Nat):Int)=0 from rfl] at hl
  generalize ((g + 1:Nat):Int)=M at ih ⊢
  have hj:jok s n a b g=(le s n a g && le s n b g && (List.range' 0 n).all (Kdf s n a b g)):=rfl
  rw [hj]
  cases le s n a g <;> cases le s n b g <;> cases hq:(List.range' 0 n).all (Kdf s n a b g) <;> simp [bs,hl,hq,ih]
theorem Kdl {a b:Nat} (ha:a < n) (hb:b < n):Kb3 (s,(a:Int),(b:Int))=some (Kdg s n a b):=by
 unfold Kb3 Kdg
 simp only
 have:=Kdj h ha hb n 0 (by omega)
 rw [show ((0:Nat):Int)=0 from rfl] at this
 rw [this,bs]
 cases (List.range' 0 n).find? (jok s n a b) <;> rfl
theorem Kdm {a b:Nat} (ha:a < n) (hb:b < n):K60 (s,(a:Int),(b:Int))=some (Kdg s n a b):=by
 unfold K60 Kdg
 simp only
 have:=Kdk h ha hb n 0 (by omega)
 rw [show ((0:Nat):Int)=0 from rfl] at this
 rw [this,bs]
 cases (List.range' 0 n).find? (jok s n a b) <;> rfl
def Kdn (s:K00) (n a b:Nat):Bool:=(pl s n a b == pl s n b a) && ((a == b) || !le s n a b || !le s n b a) && decide (Kdg s n a b ≥ 0)
omit h in
theorem Kdo (x:Int):decide (x < 0)=!decide (x ≥ 0):=by
 by_cases h:x < 0
 ·rw [decide_eq_true h,decide_eq_false (by omega)]; rfl
 ·rw [decide_eq_false h,decide_eq_true (by omega)]; rfl
end
def inB (x lo hi:Int):Bool:=decide (x ≥ lo) && decide (x ≤ hi)
theorem sIn (x lo hi:Int):Kax (x,lo,hi)=some (inB x lo hi):=by
 unfold Kax inB
 simp only
 cases decide (x ≥ lo) <;> simp [bs]
theorem iIn (x lo hi:Int):K38 (x,lo,hi)=some (inB x lo hi):=by
 unfold K38 inB
 simp only
 cases decide (x ≥ lo) <;> simp [bs]
def Kdp (s:K00) (n:Nat):Bool:=(List.range' 0 n).all fun a=>Kdc s n a && (List.range' 0 n).all fun b=>Kdn s n a b && (List.range' 0 n).all fun c=>Kdd s n a b c
section
variable {s:K00} {n:Nat} (h:Tab s n)
include h
theorem Kdq {a b:Nat} (ha:a < n) (hb:b < n):∀ (k c:Nat),c + k=n→K6b (s,(a:Int),(b:Int),(c:Int))=some (if (List.range' c k).all (fun c=>Kdd s n a b c) then .inl () else .inr false):=by
 have hhi:=h.hi
 intro k
 induction k with
 | zero =>
  intro c hm
  rw [K6b.eq_def]
  simp only
  rw [h.size,Kcx (by omega)]
  rfl
 | succ k ih =>
  intro c hm
  rw [K6b.eq_def]
  simp only
  rw [h.size,Kcw (by omega),if_pos rfl,Kde h ha hb (by omega),bs]
  have ih:=ih (c + 1) (by omega)
  rw [Kcv (by omega),List.range'_succ,List.all_cons]
  generalize ((c + 1:Nat):Int)=M at ih ⊢
  generalize (List.range' (c + 1) k).all (fun c=>Kdd s n a b c)=r at ih ⊢
  cases Kdd s n a b c <;> cases r <;> simp [ih]
theorem Kdr {a:Nat} (ha:a < n):∀ (k b:Nat),b + k=n→K6i (s,(a:Int),(b:Int))=some (if (List.range' b k).all (fun b=>Kdn s n a b && (List.range' 0 n).all fun c=>Kdd s n a b c) then .inl () else .inr false):=by
 have hhi:=h.hi
 intro k
 induction k with
 | zero =>
  intro c hm
  rw [K6i.eq_def]
  simp only
  rw [h.size,Kcx (by omega)]
  rfl
 | succ k ih =>
  intro b hm
  have hb:b < n:=by omega
  rw [K6i.eq_def]
  simp only
  have hl:=Kdq h ha (b:=b) (by omega) n 0 (by omega)
  rw [show ((0:Nat):Int)=0 from rfl] at hl
  rw [h.size,Kcw (by omega),if_pos rfl,Kd8 h ha hb,Kd8 h hb ha,iLe h ha hb,iLe h hb ha,Kdm h ha hb,hl]
  have ih:=ih (b + 1) (by omega)
  rw [Kcv (by omega),List.range'_succ,List.all_cons]
  generalize ((b + 1:Nat):Int)=M at ih ⊢
  generalize (List.range' (b + 1) k).all (fun b=>Kdn s n a b && (List.range' 0 n).all fun c=>Kdd s n a b c)=r at ih ⊢
  simp only [bs,Kdb,Kdo]
  cases h1:(pl s n a b == pl s n b a) <;> cases h2:(a == b) <;> cases h3:decide (Kdg s n a b ≥ 0) <;> cases h4:le s n a b <;> cases h5:le s n b a <;> cases h6:(List.range' 0 n).all (fun c=>Kdd s n a b c) <;> cases r <;> simp only [Kdn,bne,h1,h2,h3,h4,h5,h6,ih,bs,Bool.not_true,Bool.not_false,Bool.true_and,Bool.false_and,Bool.and_true,Bool.and_false,Bool.true_or,Bool.false_or,Bool.or_true,Bool.or_false,if_true,if_false,Bool.false_eq_true]
theorem Kds:∀ (k a:Nat),a + k=n→K6m (s,(a:Int))=some (if (List.range' a k).all (fun a=>Kdc s n a && (List.range' 0 n).all fun b=>Kdn s n a b && (List.range' 0 n).all fun c=>Kdd s n a b c) then .inl () else .inr false):=by
 have hhi:=h.hi
 have l0:(0:Nat) < n:=by have:=h.lo; omega
 have l1:(1:Nat) < n:=by have:=h.lo; omega
 intro k
 induction k with
 | zero =>
  intro c hm
  rw [K6m.eq_def]
  simp only
  rw [h.size,Kcx (by omega)]
  rfl
 | succ k ih =>
  intro a hm
  have ha:a < n:=by omega
  rw [K6m.eq_def]
  simp only
  have hl:=Kdr h ha n 0 (by omega)
  have q1:K5i (s,0,(a:Int))=_:=Kd8 h l0 ha
  have q2:K5l (s,1,(a:Int))=_:=Kd9 h l1 ha
  have q3:K5l (s,(a:Int),1)=_:=Kd9 h ha l1
  have q4:K5l (s,0,(a:Int))=_:=Kd9 h l0 ha
  have q5:K5l (s,(a:Int),0)=_:=Kd9 h ha l0
  have z1:(((ti s n 0 a:Nat):Int) != 0)=(ti s n 0 a != 0):=Kdb _ 0
  have z2:(((ti s n a 0:Nat):Int) != 0)=(ti s n a 0 != 0):=Kdb _ 0
  rw [show ((0:Nat):Int)=0 from rfl] at hl
  rw [h.size,Kcw (by omega),if_pos rfl,q1,q2,q3,q4,q5,iLe h ha ha,hl]
  have ih:=ih (a + 1) (by omega)
  rw [Kcv (by omega),List.range'_succ,List.all_cons]
  generalize ((a + 1:Nat):Int)=M at ih ⊢
  generalize (List.range' (a + 1) k).all (fun a=>Kdc s n a && (List.range' 0 n).all fun b=>Kdn s n a b && (List.range' 0 n).all fun c=>Kdd s n a b c)=r at ih ⊢
  simp only [bs,Kdb,z1,z2]
  cases h1:(pl s n 0 a == a) <;> cases h2:(ti s n 1 a == a) <;> cases h3:(ti s n a 1 == a) <;> cases h4:(ti s n 0 a == 0) <;> cases h5:(ti s n a 0 == 0) <;> cases h6:le s n a a <;> cases h7:(List.range' 0 n).all (fun b=>Kdn s n a b && (List.range' 0 n).all fun c=>Kdd s n a b c) <;> cases r <;> simp only [Kdc,bne,h1,h2,h3,h4,h5,h6,h7,ih,bs,Bool.not_true,Bool.not_false,Bool.true_and,Bool.false_and,Bool.and_true,Bool.and_false,if_true,if_false,Bool.false_eq_true]
end
theorem Kdt {α:Type} {l r:List α} {x:α} {i:Nat} (h:l.drop i=x :: r):i < l.length∧idx l (i:Int)=some x∧l.drop (i + 1)=r:=by
 have hi:i < l.length:=by
  rcases Nat.lt_or_ge i l.length with h' | h'
  ·exact h'
  ·rw [List.drop_eq_nil_of_le h'] at h; cases h
 have e:=List.drop_eq_getElem_cons hi
 rw [h] at e
 obtain ⟨e1,e2⟩:=List.cons.inj e
 exact ⟨hi,by rw [Kcu hi,e1],e2.symm⟩
theorem Kdu {α:Type} {l:List α} {i:Nat} (h:l.drop i=[]):l.length ≤ i:=by
 rcases Nat.lt_or_ge i l.length with h' | h'
 ·rw [List.drop_eq_getElem_cons h'] at h; cases h
 ·exact h'
def Kdv (c:Int):Bool:=inB c 3 18 || c == 35
def Kdw (c:Int):Bool:=inB c 19 34 || c == 36
def Kdx (c:Int):Int:=if c == 0 then 0 else if c == 1 || c == 2 || Kdv c then 2 else if Kdw c then 1 else -1
theorem Kdy (c:Int):Kb4 c=some (Kdv c):=by
 unfold Kb4 Kdv
 simp only [sIn,bs]
 cases inB c 3 18 <;> rfl
theorem Kdz (c:Int):Kb5 c=some (Kdw c):=by
 unfold Kb5 Kdw
 simp only [sIn,bs]
 cases inB c 19 34 <;> rfl
theorem Ke0 (c:Int):Kb6 c=some (Kdx c):=by
 unfold Kb6 Kdx
 simp only [Kdy,Kdz,bs]
 cases c == 0 <;> cases c == 1 <;> cases c == 2 <;> cases Kdv c <;> cases Kdw c <;> rfl
theorem Ke1 (c:Int):(c=0∧Kdx c=0)∨((c=1∨c=2∨(3 ≤ c∧c ≤ 18)∨c=35)∧Kdx c=2)∨(((19 ≤ c∧c ≤ 34)∨c=36)∧Kdx c=1)∨((c < 0∨36 < c)∧Kdx c=-1):=by
 unfold Kdx Kdv Kdw inB
 by_cases h0:c=0
 ·left; subst h0; exact ⟨rfl,rfl⟩
 ·right
  have e0:(c == 0)=false:=by simpa using h0
  by_cases h1:c=1∨c=2∨(3 ≤ c∧c ≤ 18)∨c=35
  ·left
   refine ⟨h1,?_⟩
   have:(c == 1 || c == 2 || (decide (c ≥ 3) && decide (c ≤ 18) || c == 35))=true:=by
    simp only [Bool.or_eq_true,Bool.and_eq_true,beq_iff_eq,decide_eq_true_eq]; omega
   rw [e0,this]; rfl
  ·right
   have q:(c == 1 || c == 2 || (decide (c ≥ 3) && decide (c ≤ 18) || c == 35))=false:=by
    rw [Bool.eq_false_iff]; intro h
    simp only [Bool.or_eq_true,Bool.and_eq_true,beq_iff_eq,decide_eq_true_eq] at h; omega
   rw [e0,q]
   by_cases h2:(19 ≤ c∧c ≤ 34)∨c=36
   ·left
    refine ⟨h2,?_⟩
    have:(decide (c ≥ 19) && decide (c ≤ 34) || c == 36)=true:=by
     simp only [Bool.or_eq_true,Bool.and_eq_true,beq_iff_eq,decide_eq_true_eq]; omega
    rw [this]; rfl
   ·right
    refine ⟨by omega,?_⟩
    have:(decide (c ≥ 19) && decide (c ≤ 34) || c == 36)=false:=by
     rw [Bool.eq_false_iff]; intro h
     simp only [Bool.or_eq_true,Bool.and_eq_true,beq_iff_eq,decide_eq_true_eq] at h; omega
    rw [this]; rfl
def Ke2 (c:Int):Int × Int :=
 if inB c 0 2 then (c,-1) else if inB c 3 18 then (3,c - 3) else if inB c 19 34 then (4,c - 19) else if c == 35 then (3,-1) else if c == 36 then (4,-1) else (5,-1)
theorem Ke3 (c:Int):Kba c=some (Ke2 c):=by
 unfold Kba Ke2
 simp only [iIn,bs]
 cases h1:inB c 0 2
 ·cases h2:inB c 3 18
  ·cases h3:inB c 19 34
   ·cases c == 35 <;> cases c == 36 <;> rfl
   ·simp only [inB,Bool.and_eq_true,decide_eq_true_eq] at h3
    simp only [Bool.false_eq_true,if_false,if_true]
    rw [Kct (by omega) (by omega)]
  ·simp only [inB,Bool.and_eq_true,decide_eq_true_eq] at h2
   simp only [Bool.false_eq_true,if_false,if_true]
   rw [Kct (by omega) (by omega)]
 ·rfl
theorem Ke4 (c:Int):(c=0∧Ke2 c=(0,-1))∨(c=1∧Ke2 c=(1,-1))∨(c=2∧Ke2 c=(2,-1))∨((3 ≤ c∧c ≤ 18)∧Ke2 c=(3,c - 3))∨(c=35∧Ke2 c=(3,-1)) ∨
  ((19 ≤ c∧c ≤ 34)∧Ke2 c=(4,c - 19))∨(c=36∧Ke2 c=(4,-1))∨((c < 0∨36 < c)∧Ke2 c=(5,-1)):=by
 have inT:∀ lo hi,lo ≤ c→c ≤ hi→inB c lo hi=true:=fun lo hi h1 h2=>by simp only [inB,Bool.and_eq_true,decide_eq_true_eq]; omega
 have inF:∀ lo hi,(c < lo∨hi < c)→inB c lo hi=false:=fun lo hi h=>by rw [Bool.eq_false_iff]; intro h'; simp only [inB,Bool.and_eq_true,decide_eq_true_eq] at h'; omega
 unfold Ke2
 by_cases h0:0 ≤ c∧c ≤ 2
 ·rw [inT 0 2 h0.1 h0.2]
  have:c=0∨c=1∨c=2:=by omega
  rcases this with rfl | rfl | rfl <;> simp
 ·rw [inF 0 2 (by omega)]
  by_cases h1:3 ≤ c∧c ≤ 18
  ·rw [inT 3 18 h1.1 h1.2]
   exact .inr (.inr (.inr (.inl ⟨h1,rfl⟩)))
  ·rw [inF 3 18 (by omega)]
   by_cases h2:19 ≤ c∧c ≤ 34
   ·rw [inT 19 34 h2.1 h2.2]
    exact .inr (.inr (.inr (.inr (.inr (.inl ⟨h2,rfl⟩)))))
   ·rw [inF 19 34 (by omega)]
    by_cases h3:c=35
    ·subst h3; simp
    ·by_cases h4:c=36
     ·subst h4; simp
     ·have e3:(c == 35)=false:=by simpa using h3
      have e4:(c == 36)=false:=by simpa using h4
      rw [e3,e4]
      refine .inr (.inr (.inr (.inr (.inr (.inr (.inr ⟨by omega,rfl⟩))))))
def skip:Nat→List Int→Option (List Int)
 | 0,l=>some l
 | _ + 1,[]=>none
 | m + 1,c :: l=>if Kdx c=-1 then none else skip (m + (Kdx c).toNat) l
theorem Ke5 (l:List Int):skip 0 l=some l:=by cases l <;> rfl
theorem Ke6 (m:Nat):skip (m + 1) []=none:=rfl
theorem Ke7 (m:Nat) (c:Int) (l:List Int):skip (m + 1) (c :: l)=if Kdx c=-1 then none else skip (m + (Kdx c).toNat) l:=rfl
theorem Ke8 (l:List Int):∀ (m k:Nat),skip (m + k) l=(skip m l).bind (skip k):=by
 induction l with
 | nil =>
  intro m k
  cases m with
  | zero=>rw [Nat.zero_add,Ke5]; rfl
  | succ m=>rw [show m + 1 + k=(m + k) + 1 by omega,Ke6,Ke6]; rfl
 | cons c l ih =>
  intro m k
  cases m with
  | zero=>rw [Nat.zero_add,Ke5]; rfl
  | succ m =>
   rw [show m + 1 + k=(m + k) + 1 by omega,Ke7,Ke7]
   by_cases h:Kdx c=-1
   ·rw [if_pos h,if_pos h]; rfl
   ·rw [if_neg h,if_neg h,← ih]; congr 1; omega
theorem Ke9 (l:List Int):∀ (m:Nat) (r:List Int),skip m l=some r→∃ p,l=p ++ r∧m ≤ p.length:=by
 induction l with
 | nil =>
  intro m r h
  cases m with
  | zero=>rw [Ke5] at h; cases h; exact ⟨[],rfl,Nat.le_refl _⟩
  | succ m=>rw [Ke6] at h; cases h
 | cons c l ih =>
  intro m r h
  cases m with
  | zero=>rw [Ke5] at h; cases h; exact ⟨[],rfl,Nat.le_refl _⟩
  | succ m =>
   rw [Ke7] at h
   by_cases hk:Kdx c=-1
   ·rw [if_pos hk] at h; cases h
   ·rw [if_neg hk] at h
    obtain ⟨p,e,hp⟩:=ih _ _ h
    exact ⟨c :: p,by rw [e]; rfl,by simp; omega⟩
def Kea (ty:List Int) (m i:Nat):Int:=match skip m (ty.drop i) with | some r=>((ty.length - r.length:Nat):Int) | none=>-1
theorem Keb (ty:List Int) (hty:ty.length ≤ 1099511627776):∀ (l:List Int) (i m:Nat),ty.drop i=l→m ≤ 1099511627776 + 2 * i→∃ x,Kb7 (ty,((m + 1:Nat):Int),(i:Int))=some x∧(match x with | .inl ()=>-1 | .inr r=>r)=Kea ty (m + 1) i:=by
 intro l
 induction l with
 | nil =>
  intro i m hl hm
  rw [Kb7.eq_def]
  simp only
  rw [Kcx (Kdu hl)]
  exact ⟨.inl (),rfl,by unfold Kea; rw [hl,Ke6]⟩
 | cons c l ih =>
  intro i m hl hm
  obtain ⟨hi,hx,hd⟩:=Kdt hl
  have hi2:(i:Int) < 1099511627776:=by omega
  rw [Kb7.eq_def]
  simp only
  rw [Kcw hi,if_pos rfl,hx,bs,Ke0,bs]
  have he:Kea ty (m + 1) i=(match (if Kdx c=-1 then none else skip (m + (Kdx c).toNat) l) with | some r=>((ty.length - r.length:Nat):Int) | none=>-1):=by
   unfold Kea; rw [hl,Ke7]
  rw [he]
  by_cases hk:Kdx c=-1
  ·rw [if_pos hk,hk]
   exact ⟨.inr (-1),rfl,rfl⟩
  ·rw [if_neg hk]
   have hk0:0 ≤ Kdx c∧Kdx c ≤ 2:=by rcases Ke1 c with h | h | h | h <;> omega
   obtain ⟨k,hkk⟩:∃ k:Nat,Kdx c=(k:Int):=⟨(Kdx c).toNat,by omega⟩
   rw [decide_eq_false (by omega),if_neg (by decide),hkk,Int.toNat_natCast]
   rw [Kct (x:=((m + 1:Nat):Int) - 1) (by omega) (by omega),show ((m + 1:Nat):Int) - 1=(m:Int) by omega,Kct (x:=(m:Int) + (k:Int)) (by omega) (by omega),Kcv (by omega)]
   by_cases h0:m + k=0
   ·rw [show ((m:Int) + (k:Int) == 0)=true by simp; omega,if_pos rfl,h0,Ke5]
    refine ⟨_,rfl,?_⟩
    have:l.length=ty.length - (i + 1):=by rw [← hd,List.length_drop]
    simp only
    omega
   ·rw [show ((m:Int) + (k:Int) == 0)=false by simp; omega,if_neg (by decide)]
    obtain ⟨q,hq⟩:∃ q,m + k=q + 1:=⟨m + k - 1,by omega⟩
    have:=ih (i + 1) q hd (by omega)
    rw [show (m:Int) + (k:Int)=((q + 1:Nat):Int) by omega]
    obtain ⟨x,h1,h2⟩:=this
    exact ⟨x,h1,by rw [h2,hq]; unfold Kea; rw [hd]⟩
theorem Kec (ty:List Int) (hty:ty.length ≤ 1099511627776) (i:Nat) (hi:i ≤ ty.length):Kb8 (ty,(i:Int))=some (Kea ty 1 i):=by
 unfold Kb8
 obtain ⟨x,h1,h2⟩:=Keb ty hty _ i 0 rfl (by omega)
 simp only
 rw [show (1:Int)=((0 + 1:Nat):Int) from rfl,h1,bs]
 rw [← h2]
 cases x <;> rfl
theorem Ked (ty:List Int) (i:Nat) (hi:i ≤ ty.length):Kea ty 2 i=(if Kea ty 1 i=-1 then -1 else Kea ty 1 (Kea ty 1 i).toNat):=by
 unfold Kea
 rw [show 2=1 + 1 from rfl,Ke8]
 cases h:skip 1 (ty.drop i) with
 | none=>simp
 | some r =>
  obtain ⟨p,hp,hl⟩:=Ke9 _ _ _ h
  have hlen:ty.length - i=p.length + r.length:=by rw [← List.length_drop,hp,List.length_append]
  have:ty.drop (ty.length - r.length)=r:=by
   have e:ty.drop (ty.length - r.length)=(ty.drop i).drop p.length:=by rw [List.drop_drop]; congr 1; omega
   rw [e,hp,List.drop_left]
  simp only [Option.bind_some]
  rw [if_neg (by omega),Int.toNat_natCast,this]
theorem Kee (ty:List Int) (hty:ty.length ≤ 1099511627776):∀ (d i:Nat),ty.length - i=d→Kbb (ty,(i:Int))=some (Kea ty 1 i):=by
 intro d
 induction d using Nat.strongRecOn with
 | ind d ih =>
  intro i hd
  rw [Kbb.eq_def]
  simp only
  rw [decide_eq_false (by omega:¬ (i:Int) < 0)]
  simp only [Bool.false_eq_true,if_false,bs]
  by_cases hi:i < ty.length
  ·rw [decide_eq_false (by omega),if_neg (by decide),Kcu hi,bs,Ke3,bs]
   have hdr:=List.drop_eq_getElem_cons hi
   have he:∀ k:Nat,Kdx ty[i]=(k:Int)→Kea ty 1 i=Kea ty k (i + 1):=fun k hk=>by
    unfold Kea
    rw [hdr,show 1=0 + 1 from rfl,Ke7,hk,if_neg (by omega),Int.toNat_natCast,Nat.zero_add]
   have hn:Kdx ty[i]=-1→Kea ty 1 i=-1:=fun hk=>by
    unfold Kea
    rw [hdr,show 1=0 + 1 from rfl,Ke7,if_pos hk]
   have i1:=ih (ty.length - (i + 1)) (by omega) (i + 1) rfl
   have hz:∀ i:Nat,i ≤ ty.length→Kea ty 0 i=(i:Int):=fun i hi=>by unfold Kea; rw [Ke5]; simp only [List.length_drop]; omega
   rw [Kcv (by omega)]
   have two:Kdx ty[i]=2→((Kbb (ty,((i + 1:Nat):Int))) >>= fun r_11_4=>(Kbb (ty,r_11_4)) >>= fun r_11_5=>some r_11_5)=some (Kea ty 1 i):=fun hk=>by
    rw [i1,bs,he 2 hk,Ked ty (i + 1) (by omega)]
    by_cases h1:Kea ty 1 (i + 1)=-1
    ·rw [h1,if_pos rfl,Kbb.eq_def]; rfl
    ·rw [if_neg h1]
     obtain ⟨e,hee,hlo⟩:∃ e:Nat,Kea ty 1 (i + 1)=(e:Int)∧i + 1 < e:=by
      unfold Kea at h1 ⊢
      cases hs:skip 1 (ty.drop (i + 1)) with
      | none=>rw [hs] at h1; exact absurd rfl h1
      | some r =>
       obtain ⟨p,hp,hl⟩:=Ke9 _ _ _ hs
       have hlen:ty.length - (i + 1)=p.length + r.length:=by rw [← List.length_drop,hp,List.length_append]
       exact ⟨_,rfl,by omega⟩
     rw [hee,Int.toNat_natCast,ih (ty.length - e) (by omega) e rfl,bs]
   rcases Ke4 ty[i] with ⟨h,e⟩ | ⟨h,e⟩ | ⟨h,e⟩ | ⟨h,e⟩ | ⟨h,e⟩ | ⟨h,e⟩ | ⟨h,e⟩ | ⟨h,e⟩ <;> rw [e] <;> simp only []
   ·have hk:Kdx ty[i]=0:=by rcases Ke1 ty[i] with h | h | h | h <;> omega
    rw [if_pos (by rfl),he 0 hk,hz _ (by omega)]
   ·have hk:Kdx ty[i]=2:=by rcases Ke1 ty[i] with h | h | h | h <;> omega
    exact two hk
   ·have hk:Kdx ty[i]=2:=by rcases Ke1 ty[i] with h | h | h | h <;> omega
    exact two hk
   ·have hk:Kdx ty[i]=2:=by rcases Ke1 ty[i] with h | h | h | h <;> omega
    exact two hk
   ·have hk:Kdx ty[i]=2:=by rcases Ke1 ty[i] with h | h | h | h <;> omega
    exact two hk
   ·have hk:Kdx ty[i]=1:=by rcases Ke1 ty[i] with h | h | h | h <;> omega
    rw [he 1 hk,if_neg (by decide),if_pos (by rfl),i1,bs]
   ·have hk:Kdx ty[i]=1:=by rcases Ke1 ty[i] with h | h | h | h <;> omega
    rw [he 1 hk,if_neg (by decide),if_pos (by rfl),i1,bs]
   ·have hk:Kdx ty[i]=-1:=by rcases Ke1 ty[i] with h | h | h | h <;> omega
    rw [hn hk]; rfl
  ·rw [decide_eq_true (by omega),if_pos rfl]
   unfold Kea
   rw [List.drop_eq_nil_of_le (by omega),Ke6]
def wtB (ty:List Int):Bool:=decide (ty.length ≤ 40) && (skip 1 ty == some [])
def Kef (c:Int):Int:=if 35 ≤ c then -1 else if 19 ≤ c then c - 19 else c - 3
def Keg (size:Int) (closed:Bool) (c:Int):Bool:=!(decide (Kdx c > 0) && decide (c > 2) && (decide (Kef c ≥ size) || closed && decide (Kef c < 0)))
theorem Keh {c:Int} (h:Kdx c > 0):Kb9 c=some (Kef c):=by
 have:0 ≤ c∧c ≤ 36:=by rcases Ke1 c with h | h | h | h <;> omega
 unfold Kb9 Kef
 by_cases h1:35 ≤ c
 ·rw [decide_eq_true (by omega:c ≥ 35),if_pos rfl,if_pos h1]
 ·rw [decide_eq_false (by omega:¬ c ≥ 35),if_neg (by decide),if_neg h1]
  by_cases h2:19 ≤ c
  ·rw [decide_eq_true (by omega:c ≥ 19),if_pos rfl,if_pos h2,Kct (by omega) (by omega)]
  ·rw [decide_eq_false (by omega:¬ c ≥ 19),if_neg (by decide),if_neg h2,Kct (by omega) (by omega)]
mutual
def tsz:Kaw→Nat
 | ⟨_,_,_,ks⟩=>1 + Kei ks
def Kei:List Kaw→Nat
 | []=>0
 | k :: ks=>tsz k + Kei ks
end
theorem Kej (t:Kaw):tsz t=1 + Kei t.fKids:=by cases t; rw [tsz]
def Kek (op:Int):Int:=if inB op 0 12 then ([0,0,2,3,2,2,1,1,3,1,2,1,2]:List Int).getD op.toNat 0 else -1
def Kel (op:Int):Bool:=op == 5 || op == 8 || op == 9 || op == 11 || op == 12
def Kem (op:Int):Bool:=op == 6 || op == 7 || op == 9
theorem Ken {op:Int} (h:inB op 0 12=true):op=0∨op=1∨op=2∨op=3∨op=4∨op=5∨op=6∨op=7∨op=8∨op=9∨op=10∨op=11∨op=12:=by
 simp only [inB,Bool.and_eq_true,decide_eq_true_eq] at h
 omega
def Keo (op kid:Int):Nat:=if op == 5 && kid == 1 then 2 else if (op == 8 && decide (kid > 0)) || op == 9 || (op == 12 && kid == 1) then 1 else 0
theorem Kep (op kid:Int):Keo op kid ≤ 2:=by unfold Keo; split <;> (try split) <;> omega
theorem Keq (op kid:Int):Kbc (op,kid)=some ((Keo op kid:Nat):Int):=by
 unfold Kbc Keo
 simp only
 generalize (op == 5)=b1
 generalize (op == 8)=b2
 generalize (op == 9)=b3
 generalize (op == 12)=b4
 generalize (kid == 1)=b5
 generalize decide (kid > 0)=b6
 cases b1 <;> cases b2 <;> cases b3 <;> cases b4 <;> cases b5 <;> cases b6 <;> rfl
def Ker (g:Int→Bool) (n:Int) (t:Kaw):Bool:=if t.fOp == 0 then inB t.fN 0 (n - 1) else if t.fOp == 1 then inB t.fN 0 2 else if Kel t.fOp then g t.fN else t.fN == 0
def Kes (y:List Int→Bool) (t:Kaw):Bool:=if Kem t.fOp then y t.fType else (t.fType.length:Int) == 0
def Ket (g:Int→Bool) (y:List Int→Bool) (n:Int) (t:Kaw):Bool:=inB t.fOp 0 12 && ((t.fKids.length:Int) == Kek t.fOp) && Ker g n t && Kes y t
mutual
def tOk (g:Int→Bool) (y:List Int→Bool):Nat→Kaw→Bool
 | n,⟨op,N,ty,ks⟩=>Ket g y (n:Int) ⟨op,N,ty,ks⟩ && Keu g y op n 0 ks
def Keu (g:Int→Bool) (y:List Int→Bool):Int→Nat→Nat→List Kaw→Bool
 | _,_,_,[]=>true
 | op,n,i,k :: ks=>tOk g y (n + Keo op (i:Int)) k && Keu g y op n (i + 1) ks
end
theorem Kev (g:Int→Bool) (y:List Int→Bool) (n:Nat) (t:Kaw):tOk g y n t=(Ket g y (n:Int) t && Keu g y t.fOp n 0 t.fKids):=by cases t; rw [tOk]
def gN (size:Int) (cl:Bool) (x:Int):Bool:=!(decide (x ≥ size) || decide (x < -1) || cl && decide (x < 0))
def yN (size:Int) (cl:Bool) (ty:List Int):Bool:=wtB ty && ty.all (Keg size cl)
theorem Kew {ty:List Int} (h:wtB ty=true):ty.length ≤ 40:=by
 unfold wtB at h
 rw [Bool.and_eq_true,decide_eq_true_eq] at h
 exact h.1
theorem Kex {g:Int→Bool} {y:List Int→Bool} {n:Nat} {t:Kaw} (h:tOk g y n t=true):Ket g y (n:Int) t=true∧Keu g y t.fOp n 0 t.fKids=true:=by
 rw [Kev,Bool.and_eq_true] at h; exact h
theorem Key {n b:Nat} (h:n * b ≤ 140737488355328):Qey n b=some ():=by unfold Qey chk; rw [if_pos h]
theorem Kez {g:Int→Bool} {y:List Int→Bool} {n:Int} {t:Kaw} (h:Ket g y n t=true):inB t.fOp 0 12=true∧(t.fKids.length:Int)=Kek t.fOp:=by
 unfold Ket at h
 simp only [Bool.and_eq_true,beq_iff_eq] at h
 exact ⟨h.1.1.1,h.1.1.2⟩
theorem Kf0 (l:List Int) (h:l.length ≤ 1099511627776):Kbd l=some l:=by
 unfold Kbd
 rw [Key (by simp only [List.length_nil]; omega),bs]
theorem Kf1 (l:List Int) (h:l.length ≤ 1099511627776):Kbe l=some l:=by
 unfold Kbe
 rw [Key (by simp only [List.length_nil]; omega),bs]
structure Kf2 (s:K00) (n:Nat):Prop where
 size:s.fSize=(n:Int)
 lo:2 ≤ n
 hi:n ≤ 16
 lp:s.fPlus.length=n * n
 lt:s.fTimes.length=n * n
 lb:s.fBelow.length=n * n
def Kf3 (s:K00) (n i:Nat):Bool:=inB (s.fPlus.getD i 0) 0 ((n:Int) - 1) && inB (s.fTimes.getD i 0) 0 ((n:Int) - 1)
section
variable {s:K00} {n:Nat} (h:Kf2 s n)
include h
theorem nn:n * n ≤ 256:=Nat.le_trans (Nat.mul_le_mul h.hi h.hi) (by decide)
theorem Kf4 {i:Nat} (hi:i < n * n):idx s.fPlus (i:Int)=some (s.fPlus.getD i 0):=by
 have hl:i < s.fPlus.length:=by rw [h.lp]; exact hi
 rw [Kcu hl,List.getD_eq_getElem?_getD,List.getElem?_eq_getElem hl]; rfl
theorem Kf5 {i:Nat} (hi:i < n * n):idx s.fTimes (i:Int)=some (s.fTimes.getD i 0):=by
 have hl:i < s.fTimes.length:=by rw [h.lt]; exact hi
 rw [Kcu hl,List.getD_eq_getElem?_getD,List.getElem?_eq_getElem hl]; rfl
theorem Kf6:wr (s.fSize - 1)=(n:Int) - 1:=by
 have:=h.lo; have:=h.hi
 rw [h.size,Kct (by omega) (by omega)]
theorem Kf7:∀ (k i:Nat),i + k=n * n→K67 (s,(i:Int))=some (if (List.range' i k).all (Kf3 s n) then .inl () else .inr false):=by
 have hn:=nn h
 intro k
 induction k with
 | zero =>
  intro i hm
  rw [K67.eq_def]
  simp only
  rw [h.lp,Kcx (by omega)]
  rfl
 | succ k ih =>
  intro i hm
  rw [K67.eq_def]
  simp only
  rw [h.lp,Kcw (by omega),if_pos rfl,Kf4 h (by omega),Kf5 h (by omega)]
  have ih:=ih (i + 1) (by omega)
  rw [Kcv (by omega),List.range'_succ,List.all_cons]
  generalize ((i + 1:Nat):Int)=M at ih ⊢
  generalize (List.range' (i + 1) k).all (Kf3 s n)=r at ih ⊢
  have hh:∀ x,K5f (s,x)=some (inB x 0 ((n:Int) - 1)):=fun x=>by
   unfold K5f
   simp only
   rw [Kf6 h,iIn,bs]
  simp only [bs,hh]
  cases h1:inB (s.fPlus.getD i 0) 0 ((n:Int) - 1) <;> cases h2:inB (s.fTimes.getD i 0) 0 ((n:Int) - 1) <;> cases r <;> simp only [Kf3,h1,h2,ih,bs,Bool.not_true,Bool.not_false,Bool.true_and,Bool.false_and,Bool.and_true,Bool.and_false,if_true,if_false,Bool.false_eq_true]
theorem Kf8 (he:(List.range' 0 (n * n)).all (Kf3 s n)=true):Tab s n:=by
 rw [List.all_eq_true] at he
 have hent:∀ i,i < n * n→Kf3 s n i=true:=fun i hi=>he i (by rw [List.mem_range'_1]; omega)
 refine ⟨h.size,h.lo,h.hi,h.lp,h.lt,h.lb,fun i hi=>?_,fun i hi=>?_⟩
 ·have:=hent i (by rw [← h.lp]; exact hi)
  simp only [Kf3,inB,Bool.and_eq_true,decide_eq_true_eq,List.getD_eq_getElem?_getD,List.getElem?_eq_getElem hi,Option.getD_some] at this
  omega
 ·have:=hent i (by rw [← h.lt]; exact hi)
  simp only [Kf3,inB,Bool.and_eq_true,decide_eq_true_eq,List.getD_eq_getElem?_getD,List.getElem?_eq_getElem hi,Option.getD_some] at this
  omega
end
def Kf9 (s:K00):Bool:=inB s.fSize 2 16 && !((s.fPlus.length:Int) != (wr (s.fSize * s.fSize))) && !((s.fTimes.length:Int) != (wr (s.fSize * s.fSize))) && !((s.fBelow.length:Int) != (wr (s.fSize * s.fSize)))
theorem Kfa {s:K00} (h:Kf9 s=true):Kf2 s s.fSize.toNat:=by
 unfold Kf9 at h
 simp only [Bool.and_eq_true,Bool.not_eq_true',inB,decide_eq_true_eq,bne_eq_false_iff_eq] at h
 obtain ⟨⟨⟨⟨h1,h2⟩,h3⟩,h4⟩,h5⟩:=h
 obtain ⟨n,hn⟩:∃ n:Nat,s.fSize=(n:Int):=⟨s.fSize.toNat,by omega⟩
 rw [hn] at h1 h2 h3 h4 h5 ⊢
 have h256:n * n ≤ 256:=Nat.le_trans (Nat.mul_le_mul (by omega:n ≤ 16) (by omega:n ≤ 16)) (by decide)
 have e:(n:Int) * (n:Int)=((n * n:Nat):Int):=by simp
 rw [e] at h3 h4 h5
 generalize hm:n * n=m at *
 rw [Kct (by omega) (by omega)] at h3 h4 h5
 rw [Int.toNat_natCast]
 exact ⟨hn,by omega,by omega,by omega,by omega,by omega⟩
def Kfb (s:K00):Bool:=Kf9 s && (List.range' 0 (s.fSize.toNat * s.fSize.toNat)).all (Kf3 s s.fSize.toNat) && Kdp s s.fSize.toNat
theorem Kfc {s:K00} (h:Kfb s=true):Tab s s.fSize.toNat:=by
 unfold Kfb at h
 simp only [Bool.and_eq_true] at h
 exact Kf8 (Kfa h.1.1) h.1.2
theorem Kfd (s:K00):K6p s=some (Kfb s):=by
 unfold K6p Kfb
 rw [iIn]
 cases hf:Kf9 s with
 | false =>
  unfold Kf9 at hf
  cases h1:inB s.fSize 2 16 <;> cases h2:((s.fPlus.length:Int) != (wr (s.fSize * s.fSize))) <;> cases h3:((s.fTimes.length:Int) != (wr (s.fSize * s.fSize))) <;> cases h4:((s.fBelow.length:Int) != (wr (s.fSize * s.fSize))) <;> simp_all [bs]
 | true =>
  have F:=Kfa hf
  have hl:=Kf7 F (s.fSize.toNat * s.fSize.toNat) 0 (by omega)
  rw [show ((0:Nat):Int)=0 from rfl] at hl
  unfold Kf9 at hf
  simp only [Bool.and_eq_true,Bool.not_eq_true'] at hf
  obtain ⟨⟨⟨h1,h2⟩,h3⟩,h4⟩:=hf
  cases he:(List.range' 0 (s.fSize.toNat * s.fSize.toNat)).all (Kf3 s s.fSize.toNat) with
  | false=>rw [he] at hl; simp [bs,h1,h2,h3,h4,hl]
  | true =>
   have T:=Kf8 F he
   have hl2:=Kds T s.fSize.toNat 0 (by omega)
   rw [show ((0:Nat):Int)=0 from rfl] at hl2
   rw [he] at hl
   have hm:(List.range' 0 s.fSize.toNat).all (fun a=>Kdc s s.fSize.toNat a && (List.range' 0 s.fSize.toNat).all fun b=>Kdn s s.fSize.toNat a b && (List.range' 0 s.fSize.toNat).all fun c=>Kdd s s.fSize.toNat a b c)=Kdp s s.fSize.toNat:=rfl
   rw [hm] at hl2
   cases hs:Kdp s s.fSize.toNat <;> rw [hs] at hl2 <;> simp [bs,h1,h2,h3,h4,hl,hl2]
inductive Ty where
 | num
 | bin (c:Int) (a b:Ty)
 | un (c:Int) (a:Ty)
namespace Ty
def code:Ty→List Int
 | num=>[0]
 | bin c a b=>c :: (a.code ++ b.code)
 | un c a=>c :: a.code
def ok:Ty→Prop
 | num=>True
 | bin c a b=>Kdx c=2∧a.ok∧b.ok
 | un c a=>Kdx c=1∧a.ok
def kids:Ty→List Ty
 | num=>[]
 | bin _ a b=>[a,b]
 | un _ a=>[a]
def hd:Ty→Int
 | num=>0
 | bin c _ _=>c
 | un c _=>c
end Ty
def Kfe:List Ty→List Int
 | []=>[]
 | t :: l=>t.code ++ Kfe l
theorem Kff (T:Ty):T.code=T.hd :: Kfe T.kids:=by cases T <;> simp [Ty.code,Ty.hd,Ty.kids,Kfe]
theorem Kfg (T:Ty):1 ≤ T.code.length:=by rw [Kff]; simp
theorem Kfh (T:Ty):∀ (m:Nat) (l:List Int),T.ok→skip (m + 1) (T.code ++ l)=skip m l:=by
 induction T with
 | num =>
  intro m l _
  rw [Ty.code,List.singleton_append,Ke7,show Kdx 0=0 from rfl,if_neg (by decide)]; rfl
 | bin c a b iha ihb =>
  intro m l h
  rw [Ty.code,List.cons_append,Ke7,h.1,if_neg (by decide),List.append_assoc,show m + (2:Int).toNat=(m + 1) + 1 from rfl,iha _ _ h.2.1,ihb _ _ h.2.2]
 | un c a ih =>
  intro m l h
  rw [Ty.code,List.cons_append,Ke7,h.1,if_neg (by decide),show m + (1:Int).toNat=m + 1 from rfl,ih _ _ h.2]
theorem Kfi (l:List Int):∀ (m:Nat) (r:List Int),skip m l=some r→∃ Ts:List Ty,Ts.length=m∧(∀ T ∈ Ts,T.ok)∧l=Kfe Ts ++ r:=by
 induction l with
 | nil =>
  intro m r h
  cases m with
  | zero=>rw [Ke5] at h; cases h; exact ⟨[],rfl,fun _ h=>(by cases h),rfl⟩
  | succ m=>rw [Ke6] at h; cases h
 | cons c l ih =>
  intro m r h
  cases m with
  | zero=>rw [Ke5] at h; cases h; exact ⟨[],rfl,fun _ h=>(by cases h),rfl⟩
  | succ m =>
   rw [Ke7] at h
   by_cases hk:Kdx c=-1
   ·rw [if_pos hk] at h; cases h
   ·rw [if_neg hk] at h
    obtain ⟨Ts,h1,h2,h3⟩:=ih _ _ h
    rcases Ke1 c with ⟨q,e⟩ | ⟨q,e⟩ | ⟨q,e⟩ | ⟨q,e⟩
    ·subst q
     rw [e] at h1
     exact ⟨.num :: Ts,by simpa using h1,fun T hT=>by rcases List.mem_cons.1 hT with rfl | hT; exact trivial; exact h2 T hT,by rw [h3]; rfl⟩
    ·rw [e] at h1
     match Ts,h1 with
     | a :: b :: Ts,h1 =>
      refine ⟨.bin c a b :: Ts,by simpa using h1,fun T hT=>?_,by rw [h3]; simp [Kfe,Ty.code]⟩
      rcases List.mem_cons.1 hT with rfl | hT
      ·exact ⟨e,h2 a List.mem_cons_self,h2 b (List.mem_cons_of_mem _ List.mem_cons_self)⟩
      ·exact h2 T (List.mem_cons_of_mem _ (List.mem_cons_of_mem _ hT))
     | [_],h1=>exact absurd h1 (by simp)
     | [],h1=>exact absurd h1 (by simp)
    ·rw [e] at h1
     match Ts,h1 with
     | a :: Ts,h1 =>
      refine ⟨.un c a :: Ts,by simpa using h1,fun T hT=>?_,by rw [h3]; simp [Kfe,Ty.code]⟩
      rcases List.mem_cons.1 hT with rfl | hT
      ·exact ⟨e,h2 a List.mem_cons_self⟩
      ·exact h2 T (List.mem_cons_of_mem _ hT)
     | [],h1=>exact absurd h1 (by simp)
    ·exact absurd e hk
theorem Kfj {ty:List Int} (h:wtB ty=true):∃ T:Ty,T.ok∧ty=T.code∧ty.length ≤ 40:=by
 have hl:=Kew h
 unfold wtB at h
 rw [Bool.and_eq_true,beq_iff_eq] at h
 obtain ⟨Ts,h1,h2,h3⟩:=Kfi _ _ _ h.2
 match Ts,h1 with
 | [T],_=>exact ⟨T,h2 T List.mem_cons_self,by rw [h3]; simp [Kfe],hl⟩
theorem Kfk {T:Ty} (h:T.ok) (hl:T.code.length ≤ 40):wtB T.code=true:=by
 unfold wtB
 have:=Kfh T 0 [] h
 rw [List.append_nil,Ke5] at this
 rw [decide_eq_true hl,show (1:Nat)=0 + 1 from rfl,this]; rfl
theorem Kfl {T:Ty} (h:T.ok):∀ K ∈ T.kids,K.ok:=by
 intro K hK
 cases T with
 | num=>cases hK
 | bin c a b=>rcases List.mem_cons.1 hK with rfl | hK; exact h.2.1; rw [List.mem_singleton.1 hK]; exact h.2.2
 | un c a=>rw [List.mem_singleton.1 hK]; exact h.2
theorem Kfm {pre:List Int} {T:Ty} {post:List Int} (h:T.ok):Kea (pre ++ (T.code ++ post)) 1 pre.length=((pre.length + T.code.length:Nat):Int):=by
 unfold Kea
 rw [List.drop_left,show (1:Nat)=0 + 1 from rfl,Kfh T 0 post h,Ke5]
 simp only [List.length_append]
 omega
theorem Kfn {α:Type} (p m q:List α) (mx:Option Int) (hmx:mx=none∨mx=some ((p.length + m.length:Nat):Int)):cut (p ++ (m ++ q)) (some (p.length:Int)) (some ((p.length + m.length:Nat):Int)) mx=some m:=by
 unfold cut
 have e:((p ++ (m ++ q)).take (p.length + m.length)).drop p.length=m:=by
  rw [← List.append_assoc,← List.length_append,List.take_left,List.drop_left]
 rw [if_pos]
 ·simp only [Option.getD_some,Int.toNat_natCast,e]
 ·rcases hmx with rfl | rfl <;> simp only [Option.getD_some,Option.getD_none,List.length_append] <;> omega
theorem Kfo {α:Type} (p q:List α):cut (p ++ q) (some (p.length:Int)) none none=some q:=by
 unfold cut
 rw [if_pos]
 ·simp only [Option.getD_some,Option.getD_none,Int.toNat_natCast,List.take_length,List.drop_left]
 ·simp only [Option.getD_some,Option.getD_none,List.length_append]; omega
theorem Kfp (Ks:List Ty):∀ (pre:List Int) (out:List (List Int)),(∀ K ∈ Ks,K.ok)→(pre ++ Kfe Ks).length ≤ 1099511627776→out.length + Ks.length ≤ 1099511627776→Kbg (pre ++ Kfe Ks,out,(pre.length:Int))=some (out ++ Ks.map Ty.code):=by
 induction Ks with
 | nil =>
  intro pre out hk hl ho
  rw [show Kfe []=[] from rfl,List.append_nil,Kbg.eq_def]
  simp only
  rw [Kcx (Nat.le_refl _)]; simp
 | cons K Ks ih =>
  intro pre out hk hl ho
  have hK:=hk K List.mem_cons_self
  have hp:=Kfg K
  rw [show Kfe (K :: Ks)=K.code ++ Kfe Ks from rfl] at hl ⊢
  rw [List.length_cons] at ho
  rw [Kbg.eq_def]
  simp only
  rw [Kcw (by simp only [List.length_append]; omega),if_pos rfl,Kee _ hl _ pre.length rfl,Kfm hK,bs,Kfn _ _ _ _ (.inr rfl),bs,Key (by simp only [List.length_singleton]; omega),bs]
  have:=ih (pre ++ K.code) (out ++ [K.code]) (fun K hK=>hk K (List.mem_cons_of_mem _ hK)) (by rw [List.append_assoc]; exact hl) (by simp; omega)
  rw [List.append_assoc,List.length_append] at this
  rw [this,List.map_cons,List.append_assoc]; rfl
theorem Kfq {T:Ty} (h:T.ok) (hl:T.code.length ≤ 1048576):Kbh T.code=some (T.kids.map Ty.code):=by
 unfold Kbh
 have hk:T.kids.length ≤ 2:=by cases T <;> simp [Ty.kids]
 have e:[T.hd] ++ Kfe T.kids=T.code:=(Kff T).symm
 have:=Kfp T.kids [T.hd] [] (Kfl h) (by rw [e]; omega) (by simp only [List.length_nil]; omega)
 rw [e] at this
 rw [show (1:Int)=(([T.hd].length:Nat):Int) from rfl,this,bs]; rfl
theorem Kfr {c:Int} {a:Ty} {r:List Int} (ha:a.ok) (hl:(c :: (a.code ++ r)).length ≤ 1099511627776):Kbf (c :: (a.code ++ r),0)=some a.code:=by
 unfold Kbf
 simp only
 have e:=Kfm (pre:=[c]) (post:=r) ha
 have h1:=Kec (c :: (a.code ++ r)) hl 1 (by simp)
 rw [show (((1:Nat)):Int)=1 from rfl] at h1
 rw [List.length_singleton] at e
 have e':Kea (c :: (a.code ++ r)) 1 1=((1 + a.code.length:Nat):Int):=e
 rw [h1,bs,e',if_pos (by rfl)]
 have h2:=Kfn [c] a.code r none (.inl rfl)
 rw [List.length_singleton] at h2
 have h2':cut (c :: (a.code ++ r)) (some 1) (some ((1 + a.code.length:Nat):Int)) none=some a.code:=h2
 simp only [List.length_cons,List.length_append] at hl
 rw [h2',bs,Kf0 _ (by omega),bs]
theorem Kfs {c:Int} {a:Ty} {r:List Int} (ha:a.ok) (hl:(c :: (a.code ++ r)).length ≤ 1099511627776):Kbf (c :: (a.code ++ r),1)=some r:=by
 unfold Kbf
 simp only
 have e:=Kfm (pre:=[c]) (post:=r) ha
 have h1:=Kec (c :: (a.code ++ r)) hl 1 (by simp)
 rw [show (((1:Nat)):Int)=1 from rfl] at h1
 rw [List.length_singleton] at e
 have e':Kea (c :: (a.code ++ r)) 1 1=((1 + a.code.length:Nat):Int):=e
 rw [h1,bs,e',if_neg (by decide)]
 have h2:=Kfo (c :: a.code) r
 rw [List.length_cons,List.cons_append,Nat.add_comm] at h2
 simp only [List.length_cons,List.length_append] at hl
 rw [h2,bs,Kf0 _ (by omega),bs]
theorem Kft {α:Type} (x:α) (l:List α):idx (x :: l) 0=some x:=rfl
theorem Kfu {a b:Nat} (ha:a ≤ 1099511627776) (hb:b ≤ 1099511627776):wr ((a:Int) + (b:Int))=((a + b:Nat):Int):=by rw [Kct (by omega) (by omega)]; omega
theorem Kfv {l:List Kaw} {t:Kaw} (h:t ∈ l):tsz t ≤ Kei l:=by
 induction l with
 | nil=>cases h
 | cons x l ih =>
  rw [Kei]
  rcases List.mem_cons.1 h with rfl | h
  ·omega
  ·have:=ih h; omega
theorem Kfw {t k:Kaw} (h:k ∈ t.fKids):tsz k + 1 ≤ tsz t:=by
 rw [Kej t]
 have:=Kfv h
 omega
theorem Kfx {α:Type} (x:α) (l:List α):cut (x :: l) (some 1) none none=some l:=Kfo [x] l
theorem Kfy {g:Int→Bool} {y:List Int→Bool}:∀ (ks:List Kaw) (op:Int) (n i j:Nat) (hj:j < ks.length),Keu g y op n i ks=true→tOk g y (n + Keo op ((i + j:Nat):Int)) ks[j]=true
 | k :: ks,op,n,i,j,hj,ht=>by
  rw [Keu,Bool.and_eq_true] at ht
  cases j with
  | zero=>exact ht.1
  | succ j =>
   have:=Kfy ks op n (i + 1) j (by simpa using hj) ht.2
   rw [show i + 1 + j=i + (j + 1) by omega] at this
   exact this
structure Kfz (c:Int) (a b:Ty):Prop where
 p0:Kbf (c :: (a.code ++ b.code),0)=some a.code
 p1:Kbf (c :: (a.code ++ b.code),1)=some b.code
 pp:Kbh (c :: (a.code ++ b.code))=some [a.code,b.code]
 ok:a.ok∧b.ok
 la:a.code.length + b.code.length + 1 ≤ 1048576
theorem Kg0 {c:Int} {a b:Ty} (h:(Ty.bin c a b).ok) (hl:(Ty.bin c a b).code.length ≤ 1048576):Kfz c a b:=by
 have hl':=hl
 rw [Ty.code] at hl'
 have h3:=Kfq h hl
 rw [Ty.kids,List.map_cons,List.map_cons,List.map_nil,Ty.code] at h3
 refine ⟨Kfr h.2.1 (by omega),Kfs h.2.1 (by omega),h3,h.2,?_⟩
 rw [List.length_cons,List.length_append] at hl'
 omega
structure UnP (c:Int) (a:Ty):Prop where
 p0:Kbf (c :: a.code,0)=some a.code
 pp:Kbh (c :: a.code)=some [a.code]
 ok:a.ok
 la:a.code.length + 1 ≤ 1048576
theorem unP {c:Int} {a:Ty} (h:(Ty.un c a).ok) (hl:(Ty.un c a).code.length ≤ 1048576):UnP c a:=by
 have hl':=hl
 rw [Ty.code] at hl'
 have h3:=Kfq h hl
 rw [Ty.kids,List.map_cons,List.map_nil,Ty.code] at h3
 have h4:=Kfr (c:=c) (r:=[]) h.2 (by rw [List.append_nil]; omega)
 rw [List.append_nil] at h4
 refine ⟨h4,h3,h.2,?_⟩
 rw [List.length_cons] at hl'
 omega
theorem Kg1 {p:Prop} [Decidable p] (h:p):chk p=some ():=by unfold chk; rw [if_pos h]
theorem Kg2 (x y:Int) (l r:List Int):(x :: l == y :: r)=(x == y && l == r):=rfl
theorem Kg3 (a b:List Int) (ha:a.length ≤ 1099511627776) (hab:a.length=b.length):∀ (l r:List Int) (i:Nat),a.drop i=l→b.drop i=r→Kbi (a,b,(i:Int))=some (if l == r then .inl () else .inr false):=by
 intro l
 induction l with
 | nil =>
  intro r i h1 h2
  have hi:=Kdu h1
  rw [Kbi.eq_def]
  simp only
  rw [Kcx hi]
  have:r=[]:=by rw [← h2]; exact List.drop_eq_nil_of_le (by omega)
  subst this; rfl
 | cons x l ih =>
  intro r i h1 h2
  obtain ⟨hi,hx,hd⟩:=Kdt h1
  cases r with
  | nil=>have:=Kdu h2; omega
  | cons y r =>
   obtain ⟨_,hy,hd2⟩:=Kdt h2
   rw [Kbi.eq_def]
   simp only
   rw [Kcw hi,if_pos rfl,hx,hy,bs,bs,Kcv (by omega),ih r (i + 1) hd hd2,Kg2]
   by_cases e:x=y
   ·subst e; simp
   ·rw [bne_iff_ne.2 e,if_pos rfl,beq_eq_false_iff_ne.2 e]; rfl
theorem Kg4 (a b:List Int) (hb:b.length ≤ 1099511627776):Kbj (a,b)=some (a == b):=by
 unfold Kbj
 simp only
 by_cases h:a.length=b.length
 ·rw [h,Kcy,if_neg (by decide)]
  have:=Kg3 a b (by omega) h a b 0 rfl rfl
  rw [show ((0:Nat):Int)=0 from rfl] at this
  rw [this]
  cases a == b <;> rfl
 ·rw [bne_iff_ne.2 (by omega),if_pos rfl]
  have:a ≠ b:=fun e=>h (by rw [e])
  rw [beq_eq_false_iff_ne.2 this]
theorem Kg5 (a b:List Int) (ha:a.length ≤ 1099511627776) (hab:a.length=b.length):∀ (l r:List Int) (i:Nat),a.drop i=l→b.drop i=r→K8x (a,b,(i:Int))=some (if l == r then .inl () else .inr false):=by
 intro l
 induction l with
 | nil =>
  intro r i h1 h2
  have hi:=Kdu h1
  rw [K8x.eq_def]
  simp only
  rw [Kcx hi]
  have:r=[]:=by rw [← h2]; exact List.drop_eq_nil_of_le (by omega)
  subst this; rfl
 | cons x l ih =>
  intro r i h1 h2
  obtain ⟨hi,hx,hd⟩:=Kdt h1
  cases r with
  | nil=>have:=Kdu h2; omega
  | cons y r =>
   obtain ⟨_,hy,hd2⟩:=Kdt h2
   rw [K8x.eq_def]
   simp only
   rw [Kcw hi,if_pos rfl,hx,hy,bs,bs,Kcv (by omega),ih r (i + 1) hd hd2,Kg2]
   by_cases e:x=y
   ·subst e; simp
   ·rw [bne_iff_ne.2 e,if_pos rfl,beq_eq_false_iff_ne.2 e]; rfl
theorem Kg6 (a b:List Int) (hb:b.length ≤ 1099511627776):K90 (a,b)=some (a == b):=by
 unfold K90
 simp only
 by_cases h:a.length=b.length
 ·rw [h,Kcy,if_neg (by decide)]
  have:=Kg5 a b (by omega) h a b 0 rfl rfl
  rw [show ((0:Nat):Int)=0 from rfl] at this
  rw [this]
  cases a == b <;> rfl
 ·rw [bne_iff_ne.2 (by omega),if_pos rfl]
  have:a ≠ b:=fun e=>h (by rw [e])
  rw [beq_eq_false_iff_ne.2 this]
theorem Kg7 (g:Int→Bool) (y:List Int→Bool) (op:Int) (n i:Nat) (k:Kaw) (ks:List Kaw):Keu g y op n i (k :: ks)=(tOk g y (n + Keo op i) k && Keu g y op n (i + 1) ks):=by rw [Keu]
theorem Kg8 {l:List Kaw} (h:((l.length:Int) == 1)=true):∃ k,l=[k]:=by
 rw [beq_iff_eq] at h; match l,h with | [k],_=>exact ⟨k,rfl⟩ | [],h=>exact absurd h (by simp) | _ :: _ :: _,h=>exact absurd h (by simp only [List.length_cons]; omega)
theorem Kg9 {l:List Kaw} (h:((l.length:Int) == 2)=true):∃ k m,l=[k,m]:=by
 rw [beq_iff_eq] at h; match l,h with | [k,m],_=>exact ⟨k,m,rfl⟩ | [],h=>exact absurd h (by simp) | [_],h=>exact absurd h (by simp) | _ :: _ :: _ :: _,h=>exact absurd h (by simp only [List.length_cons]; omega)
theorem Kga (op N:Int) (ty:List Int) (a:Kaw):tsz ⟨op,N,ty,[a]⟩=1 + tsz a:=by simp [tsz,Kei]
theorem Kgb (op N:Int) (ty:List Int) (a b:Kaw):tsz ⟨op,N,ty,[a,b]⟩=1 + (tsz a + tsz b):=by simp [tsz,Kei]
theorem Kgc (op N:Int) (ty:List Int) (a b c:Kaw):tsz ⟨op,N,ty,[a,b,c]⟩=1 + (tsz a + (tsz b + tsz c)):=by simp [tsz,Kei]
theorem Kgd {l:List Kaw} (h:(l.length:Int)=3):∃ a b c,l=[a,b,c]:=by
 match l,h with | [a,b,c],_=>exact ⟨a,b,c,rfl⟩ | [],h=>exact absurd h (by simp) | [_],h=>exact absurd h (by simp) | [_,_],h=>exact absurd h (by simp) | _ :: _ :: _ :: _ :: _,h=>exact absurd h (by simp only [List.length_cons]; omega)
def Kge (l:List Nat):List Int:=l.map fun x:Nat=>(x:Int)
theorem Kgf (l:List Nat):(Kge l).length=l.length:=List.length_map ..
theorem Kgg (l:List Nat) (i:Nat):(Kge l).drop i=Kge (l.drop i):=(List.map_drop ..).symm
theorem Kgh (l:List Nat) (i:Nat):(Kge l).take i=Kge (l.take i):=(List.map_take ..).symm
theorem Kgi {l r:List Nat} {x i:Nat} (h:l.drop i=x :: r):i < l.length∧idx (Kge l) (i:Int)=some (x:Int)∧l.drop (i + 1)=r:=by
 have h2:(Kge l).drop i=(x:Int) :: Kge r:=by rw [Kgg,h]; rfl
 obtain ⟨q1,q2,q3⟩:=Kdt h2
 rw [Kgf] at q1
 refine ⟨q1,q2,?_⟩
 rw [← List.drop_drop,h]
 rfl
structure Kgj (s:K00) (n:Nat):Prop where
 tab:Tab s n
 one:∀ a,a < n→Kdc s n a=true
 two:∀ a b,a < n→b < n→Kdn s n a b=true
theorem Kgk {s:K00} (h:Kfb s=true):Kgj s s.fSize.toNat:=by
 have ht:=Kfc h
 unfold Kfb at h
 simp only [Bool.and_eq_true] at h
 have hm:=h.2
 unfold Kdp at hm
 rw [List.all_eq_true] at hm
 refine ⟨ht,fun a ha=>?_,fun a b ha hb=>?_⟩
 ·have:=hm a (by rw [List.mem_range'_1]; omega)
  simp only [Bool.and_eq_true] at this
  exact this.1
 ·have:=hm a (by rw [List.mem_range'_1]; omega)
  simp only [Bool.and_eq_true,List.all_eq_true] at this
  exact (this.2 b (by rw [List.mem_range'_1]; omega)).1
section
variable {s:K00} {n:Nat} (hs:Kgj s n)
include hs
theorem Kgl:1 < n:=by have:=hs.tab.lo; omega
theorem Kgm:0 < n:=by have:=hs.tab.lo; omega
theorem Kgn {a:Nat} (ha:a < n):pl s n 0 a=a:=by
 have:=hs.one a ha
 simp only [Kdc,Bool.and_eq_true,beq_iff_eq] at this
 exact this.1.1.1.1.1
theorem Kgo {a:Nat} (ha:a < n):ti s n 1 a=a:=by
 have:=hs.one a ha
 simp only [Kdc,Bool.and_eq_true,beq_iff_eq] at this
 exact this.1.1.1.1.2
def Kgp (s:K00) (n a b:Nat):Nat:=(Kdg s n a b).toNat
theorem Kgq {a b:Nat} (ha:a < n) (hb:b < n):Kdg s n a b=((Kgp s n a b:Nat):Int)∧Kgp s n a b < n:=by
 have h:=hs.two a b ha hb
 simp only [Kdn,Bool.and_eq_true,decide_eq_true_eq] at h
 have h0:=h.2
 unfold Kgp
 refine ⟨by omega,?_⟩
 unfold Kdg at h0 ⊢
 cases hf:(List.range' 0 n).find? (jok s n a b) with
 | none=>rw [hf] at h0; exact absurd h0 (by decide)
 | some g =>
  have:=List.mem_of_find?_eq_some hf
  rw [List.mem_range'_1] at this
  simp only [Int.toNat_natCast]
  omega
end
def Kgr (s:K00) (n:Nat) (a b:List Nat):List Nat:=List.zipWith (pl s n) a b
def Kgs (s:K00) (n g:Nat) (a:List Nat):List Nat:=a.map (ti s n g)
def Kgt (s:K00) (n:Nat) (a b:List Nat):List Nat:=List.zipWith (Kgp s n) a b
def Kgu (n:Nat) (l:List Nat):Prop:=∀ x ∈ l,x < n
theorem Kgv {n x:Nat} {l:List Nat} (h:Kgu n (x :: l)):x < n∧Kgu n l:=⟨h x List.mem_cons_self,fun y hy=>h y (List.mem_cons_of_mem _ hy)⟩
theorem Kgw {n:Nat} {l:List Nat} (h:Kgu n l) (i:Nat):Kgu n (l.drop i):=fun x hx=>h x (List.mem_of_mem_drop hx)
section
variable {s:K00} {n:Nat} (hs:Kgj s n)
include hs
theorem Kgx:∀ {a b:List Nat},Kgu n a→Kgu n b→Kgu n (Kgr s n a b)
 | [],_,_,_=>fun x hx=>by cases hx
 | _ :: _,[],_,_=>fun x hx=>by cases hx
 | x :: a,y :: b,ha,hb=>fun z hz=>by
  obtain ⟨h1,h2⟩:=Kgv ha
  obtain ⟨h3,h4⟩:=Kgv hb
  rcases List.mem_cons.1 hz with rfl | hz
  ·exact Kd1 hs.tab h1 h3
  ·exact Kgx h2 h4 z hz
theorem Kgy {g:Nat} (hg:g < n) {a:List Nat} (ha:Kgu n a):Kgu n (Kgs s n g a):=fun x hx=>by
 obtain ⟨y,hy,rfl⟩:=List.mem_map.1 hx
 exact Kd2 hs.tab hg (ha y hy)
theorem Kgz:∀ {a b:List Nat},Kgu n a→Kgu n b→Kgu n (Kgt s n a b)
 | [],_,_,_=>fun x hx=>by cases hx
 | _ :: _,[],_,_=>fun x hx=>by cases hx
 | x :: a,y :: b,ha,hb=>fun z hz=>by
  obtain ⟨h1,h2⟩:=Kgv ha
  obtain ⟨h3,h4⟩:=Kgv hb
  rcases List.mem_cons.1 hz with rfl | hz
  ·exact (Kgq hs h1 h3).2
  ·exact Kgz h2 h4 z hz
theorem Kh0 {a:List Nat} (ha:Kgu n a):Kgs s n 1 a=a:=by
 induction a with
 | nil=>rfl
 | cons x a ih =>
  obtain ⟨h1,h2⟩:=Kgv ha
  show ti s n 1 x :: Kgs s n 1 a=_
  rw [Kgo hs h1,ih h2]
theorem Kh1 {a:List Nat} (ha:Kgu n a):Kgr s n (List.replicate a.length 0) a=a:=by
 induction a with
 | nil=>rfl
 | cons x a ih =>
  obtain ⟨h1,h2⟩:=Kgv ha
  show pl s n 0 x :: Kgr s n (List.replicate a.length 0) a=_
  rw [Kgn hs h1,ih h2]
theorem Kh2 (g:Nat) (hg:g < n) (a b:List Nat) (ha:Kgu n a) (hb:Kgu n b) (hl:a.length ≤ 1099511627776):∀ (al bl:List Nat) (i:Nat) (out:List Int),a.drop i=al→b.drop i=bl→al.length=bl.length→out.length + al.length ≤ 1099511627776 →
  Kbs (s,Kge a,(g:Int),Kge b,out,(i:Int))=some (out ++ Kge (Kgr s n al (Kgs s n g bl))):=by
 intro al
 induction al with
 | nil =>
  intro bl i out hd _ _ _
  rw [Kbs.eq_def]
  simp only
  rw [Kgf,Kcx (Kdu hd)]
  simp [Kgr,Kge]
 | cons x al ih =>
  intro bl i out hd hd2 hll ho
  cases bl with
  | nil=>simp at hll
  | cons y bl =>
   obtain ⟨h1,h2,h3⟩:=Kgi hd
   obtain ⟨k1,k2,k3⟩:=Kgi hd2
   have hx:x < n:=Kgw ha i x (by rw [hd]; exact List.mem_cons_self)
   have hy:y < n:=Kgw hb i y (by rw [hd2]; exact List.mem_cons_self)
   rw [Kbs.eq_def]
   simp only
   simp only [List.length_cons] at ho hll
   rw [Kgf,Kcw h1,if_pos rfl,h2,bs,k2,bs,Kd7 hs.tab hg hy,bs,Kd6 hs.tab hx (Kd2 hs.tab hg hy),bs,Key (by simp; omega),bs,Kcv (by omega),ih bl (i + 1) _ h3 k3 (by omega) (by simp; omega)]
   rw [List.append_assoc]
   rfl
theorem Kh3 (g:Nat) (hg:g < n) (a b:List Nat) (ha:Kgu n a) (hb:Kgu n b) (hl:a.length ≤ 1048576) (hab:a.length=b.length):Kbt (s,Kge a,(g:Int),Kge b)=some (Kge (Kgr s n a (Kgs s n g b))):=by
 unfold Kbt
 simp only
 rw [show (0:Int)=((0:Nat):Int) from rfl,Kh2 hs g hg a b ha hb (by omega) a b 0 [] rfl rfl hab (by simp; omega)]
 rfl
theorem Kh4 (a b:List Nat) (ha:Kgu n a) (hb:Kgu n b) (hl:a.length ≤ 1048576) (hab:a.length=b.length):Kbt (s,Kge a,1,Kge b)=some (Kge (Kgr s n a b)):=by
 have:=Kh3 hs 1 (Kgl hs) a b ha hb hl hab
 rw [Kh0 hs hb] at this
 exact this
theorem Kh5 (a b:List Nat) (ha:Kgu n a) (hb:Kgu n b) (hl:a.length ≤ 1099511627776):∀ (al bl:List Nat) (i:Nat) (out:List Int),a.drop i=al→b.drop i=bl→al.length=bl.length→out.length + al.length ≤ 1099511627776 →
  Kbv (s,Kge a,Kge b,out,(i:Int))=some (out ++ Kge (Kgt s n al bl)):=by
 intro al
 induction al with
 | nil =>
  intro bl i out hd _ _ _
  rw [Kbv.eq_def]
  simp only
  rw [Kgf,Kcx (Kdu hd)]
  simp [Kgt,Kge]
 | cons x al ih =>
  intro bl i out hd hd2 hll ho
  cases bl with
  | nil=>simp at hll
  | cons y bl =>
   obtain ⟨h1,h2,h3⟩:=Kgi hd
   obtain ⟨k1,k2,k3⟩:=Kgi hd2
   have hx:x < n:=Kgw ha i x (by rw [hd]; exact List.mem_cons_self)
   have hy:y < n:=Kgw hb i y (by rw [hd2]; exact List.mem_cons_self)
   rw [Kbv.eq_def]
   simp only
   simp only [List.length_cons] at ho hll
   rw [Kgf,Kcw h1,if_pos rfl,h2,bs,k2,bs,Kdl hs.tab hx hy,bs,(Kgq hs hx hy).1,Key (by simp; omega),bs,Kcv (by omega),ih bl (i + 1) _ h3 k3 (by omega) (by simp; omega)]
   rw [List.append_assoc]
   rfl
theorem Kh6 (a b:List Nat) (ha:Kgu n a) (hb:Kgu n b) (hl:a.length ≤ 1048576) (hab:a.length=b.length):Kbw (s,Kge a,Kge b)=some (Kge (Kgt s n a b)):=by
 unfold Kbw
 simp only
 rw [show (0:Int)=((0:Nat):Int) from rfl,Kh5 hs a b ha hb (by omega) a b 0 [] rfl rfl hab (by simp; omega)]
 rfl
end
theorem Kh7 {α:Type} {out:List α} {i:Nat} (h:i < out.length) (x:α):(out.set i x).take (i + 1)=out.take i ++ [x]:=by
 rw [List.take_set,List.take_succ_eq_append_getElem h,List.set_append_right _ _ (by simp; omega)]
 simp [Nat.min_eq_left (Nat.le_of_lt h)]
section
variable {s:K00} {n:Nat} (hs:Kgj s n)
include hs
theorem Kh8 (a b:List Nat) (ha:Kgu n a) (hb:Kgu n b) (hl:a.length ≤ 1099511627776):∀ (al bl:List Nat) (i:Nat) (out:List Int),a.drop i=al→b.drop i=bl→al.length=bl.length→out.length=a.length →
  Kc7 (s,Kge a,Kge b,out,(i:Int))=some (out.take i ++ Kge (Kgr s n al bl)):=by
 intro al
 induction al with
 | nil =>
  intro bl i out hd _ _ ho
  rw [Kc7.eq_def]
  simp only
  have:=Kdu hd
  rw [Kgf,Kcx this]
  simp [Kgr,Kge,List.take_of_length_le (show out.length ≤ i by omega)]
 | cons x al ih =>
  intro bl i out hd hd2 hll ho
  cases bl with
  | nil=>simp at hll
  | cons y bl =>
   obtain ⟨h1,h2,h3⟩:=Kgi hd
   obtain ⟨k1,k2,k3⟩:=Kgi hd2
   have hx:x < n:=Kgw ha i x (by rw [hd]; exact List.mem_cons_self)
   have hy:y < n:=Kgw hb i y (by rw [hd2]; exact List.mem_cons_self)
   rw [Kc7.eq_def]
   simp only
   simp only [List.length_cons] at hll
   have hio:i < out.length:=by omega
   rw [Kgf,Kcw h1,if_pos rfl,h2,bs,k2,bs,Kd8 hs.tab hx hy,bs,Kcu hio,bs,Kcv (by omega),Int.toNat_natCast,ih bl (i + 1) _ h3 k3 (by omega) (by rw [List.length_set]; exact ho)]
   rw [Kh7 hio,List.append_assoc]
   rfl
theorem Kh9 (a b:List Nat) (ha:Kgu n a) (hb:Kgu n b) (hl:a.length ≤ 1048576) (hab:a.length=b.length):Kc9 (⟨s⟩,Kge a,Kge b)=some (Kge (Kgr s n a b)):=by
 unfold Kc9 Kc8
 simp only
 rw [Kgf,Kg1 (by simp; omega),bs,Int.toNat_natCast,show (0:Int)=((0:Nat):Int) from rfl]
 rw [show (List.replicate a.length (((0:Nat):Int)))=List.replicate a.length (0:Int) from rfl,Kh8 hs a b ha hb (by omega) a b 0 _ rfl rfl hab (by simp)]
 rfl
theorem Kha (a b:List Nat) (ha:Kgu n a) (hb:Kgu n b) (hl:a.length ≤ 1099511627776):∀ (al bl:List Nat) (i:Nat) (out:List Int),a.drop i=al→b.drop i=bl→al.length=bl.length→out.length=a.length →
  Kcb (s,Kge a,Kge b,out,(i:Int))=some (out.take i ++ Kge (Kgt s n al bl)):=by
 intro al
 induction al with
 | nil =>
  intro bl i out hd _ _ ho
  rw [Kcb.eq_def]
  simp only
  have:=Kdu hd
  rw [Kgf,Kcx this]
  simp [Kgt,Kge,List.take_of_length_le (show out.length ≤ i by omega)]
 | cons x al ih =>
  intro bl i out hd hd2 hll ho
  cases bl with
  | nil=>simp at hll
  | cons y bl =>
   obtain ⟨h1,h2,h3⟩:=Kgi hd
   obtain ⟨k1,k2,k3⟩:=Kgi hd2
   have hx:x < n:=Kgw ha i x (by rw [hd]; exact List.mem_cons_self)
   have hy:y < n:=Kgw hb i y (by rw [hd2]; exact List.mem_cons_self)
   rw [Kcb.eq_def]
   simp only
   simp only [List.length_cons] at hll
   have hio:i < out.length:=by omega
   rw [Kgf,Kcw h1,if_pos rfl,h2,bs,k2,bs,Kdm hs.tab hx hy,bs,(Kgq hs hx hy).1,Kcu hio,bs,Kcv (by omega),Int.toNat_natCast,ih bl (i + 1) _ h3 k3 (by omega) (by rw [List.length_set]; exact ho)]
   rw [Kh7 hio,List.append_assoc]
   rfl
theorem Khb (a b:List Nat) (ha:Kgu n a) (hb:Kgu n b) (hl:a.length ≤ 1048576) (hab:a.length=b.length):Kcd (⟨s⟩,Kge a,Kge b)=some (Kge (Kgt s n a b)):=by
 unfold Kcd Kcc
 simp only
 rw [Kgf,Kg1 (by simp; omega),bs,Int.toNat_natCast,show (0:Int)=((0:Nat):Int) from rfl]
 rw [show (List.replicate a.length (((0:Nat):Int)))=List.replicate a.length (0:Int) from rfl,Kha hs a b ha hb (by omega) a b 0 _ rfl rfl hab (by simp)]
 rfl
theorem Khc (g:Nat) (hg:g < n) (a:List Nat) (ha:Kgu n a) (hl:a.length ≤ 1099511627776):∀ (al:List Nat) (i:Nat) (out:List Int),a.drop i=al→out.length=a.length →
  Kcn (⟨s⟩,(g:Int),Kge a,out,(i:Int))=some (out.take i ++ Kge (Kgs s n g al)):=by
 intro al
 induction al with
 | nil =>
  intro i out hd ho
  rw [Kcn.eq_def]
  simp only
  have:=Kdu hd
  rw [Kgf,Kcx this]
  simp [Kgs,Kge,List.take_of_length_le (show out.length ≤ i by omega)]
 | cons x al ih =>
  intro i out hd ho
  obtain ⟨h1,h2,h3⟩:=Kgi hd
  have hx:x < n:=Kgw ha i x (by rw [hd]; exact List.mem_cons_self)
  rw [Kcn.eq_def]
  simp only
  have hio:i < out.length:=by omega
  rw [Kgf,Kcw h1,if_pos rfl,h2,bs,Kd9 hs.tab hg hx,bs,Kcu hio,bs,Kcv (by omega),Int.toNat_natCast,ih (i + 1) _ h3 (by rw [List.length_set]; exact ho)]
  rw [Kh7 hio,List.append_assoc]
  rfl
theorem Khd (g:Nat) (hg:g < n) (a:List Nat) (ha:Kgu n a) (hl:a.length ≤ 1048576):Kco (⟨s⟩,(g:Int),Kge a)=some (Kge (Kgs s n g a)):=by
 unfold Kco
 simp only
 rw [Kgf,Kg1 (by simp; omega),bs,Int.toNat_natCast,show (0:Int)=((0:Nat):Int) from rfl]
 rw [show (List.replicate a.length (((0:Nat):Int)))=List.replicate a.length (0:Int) from rfl,Khc hs g hg a ha (by omega) a 0 _ rfl (by simp)]
 rfl
theorem Khe (g:Nat) (hg:g < n) (a:List Nat) (ha:Kgu n a) (hl:a.length ≤ 1099511627776):∀ (al:List Nat) (i:Nat),a.drop i=al →
  ∃ r,Kcj (Kge a,⟨s⟩,(g:Int),(i:Int))=some r∧(match r with | .inl _=>(al.all fun x=>le s n x g)=true | .inr j=>(al.all fun x=>le s n x g)=false∧0 ≤ j):=by
 intro al
 induction al with
 | nil =>
  intro i hd
  rw [Kcj.eq_def]
  simp only
  rw [Kgf,Kcx (Kdu hd)]
  exact ⟨_,rfl,rfl⟩
 | cons x al ih =>
  intro i hd
  obtain ⟨h1,h2,h3⟩:=Kgi hd
  have hx:x < n:=Kgw ha i x (by rw [hd]; exact List.mem_cons_self)
  rw [Kcj.eq_def]
  simp only
  rw [Kgf,Kcw h1,if_pos rfl,h2,bs]
  unfold Kci
  simp only
  rw [iLe hs.tab hx hg]
  simp only [bs]
  cases hle:le s n x g with
  | true =>
   obtain ⟨r,hr,hm⟩:=ih (i + 1) h3
   refine ⟨r,?_,?_⟩
   ·rw [if_neg (by simp),Kcv (by omega)]; exact hr
   ·rw [List.all_cons,hle,Bool.true_and]; exact hm
  | false =>
   exact ⟨_,if_pos rfl,by simp [List.all_cons,hle]⟩
theorem Khf (g:Nat) (hg:g < n) (a:List Nat) (ha:Kgu n a) (hl:a.length ≤ 1048576):Kcm (⟨s⟩,Kge a,(g:Int))=some (a.all fun x=>le s n x g):=by
 obtain ⟨r,hr,hm⟩:=Khe hs g hg a ha (by omega) a 0 rfl
 unfold Kcm Kcl Kck
 simp only
 rw [show (0:Int)=((0:Nat):Int) from rfl,hr]
 cases r with
 | inl _=>simp only [bs] at hm ⊢; rw [hm]; rfl
 | inr j =>
  simp only [bs] at hm ⊢
  rw [hm.1,decide_eq_true (by omega)]; rfl
end
theorem Khg (k:Nat) (h:k ≤ 1048576):Kbn (k:Int)=some (Kge (List.replicate k 0)):=by
 unfold Kbn
 rw [Int.toNat_natCast,Kg1 (by constructor <;> omega),bs]
 unfold Kge
 rw [List.map_replicate]
 rfl
theorem Khh (ctx front:List (List Int)) (h:ctx.length + front.length ≤ 1048576):Kbo (ctx,front)=some (front ++ ctx):=by
 unfold Kbo
 simp only
 rw [Key (by simp; omega),bs,Key (by omega),bs]
theorem Khi (ps:List (List Int)) (hp:ps.length ≤ 1099511627776):∀ (l:List (List Int)) (i:Nat) (out:List Int),ps.drop i=l→out.length + l.flatten.length ≤ 1099511627776→Kbq (ps,out,(i:Int))=some (out ++ l.flatten):=by
 intro l
 induction l with
 | nil =>
  intro i out hd _
  rw [Kbq.eq_def]
  simp only
  rw [Kcx (Kdu hd)]
  simp
 | cons x l ih =>
  intro i out hd ho
  obtain ⟨h1,h2,h3⟩:=Kdt hd
  rw [List.flatten_cons,List.length_append] at ho
  rw [Kbq.eq_def]
  simp only
  rw [Kcw h1,if_pos rfl,h2,bs,Key (by omega),bs,Kcv (by omega),ih (i + 1) _ h3 (by rw [List.length_append]; omega),List.flatten_cons,List.append_assoc]
theorem Khj (c:Int) (ps:List (List Int)) (hp:ps.length ≤ 1048576) (h:ps.flatten.length ≤ 1048576):Kbr (c,ps)=some (c :: ps.flatten):=by
 unfold Kbr
 simp only
 rw [show (0:Int)=((0:Nat):Int) from rfl,Khi ps (by omega) ps 0 [c] rfl (by rw [List.length_singleton]; omega)]
 rfl
theorem Khk (ps:List (List (Int))) (hp:ps.length ≤ 1099511627776):∀ (l:List (List (Int))) (i sz:Nat),ps.drop i=l→sz + l.flatten.length ≤ 1099511627776→Kcf (ps,(sz:Int),(i:Int))=some (((sz + l.flatten.length:Nat)):Int):=by
 intro l
 induction l with
 | nil =>
  intro i sz hd _
  rw [Kcf.eq_def]
  simp only
  rw [Kcx (Kdu hd)]
  simp
 | cons x l ih =>
  intro i sz hd ho
  obtain ⟨h1,h2,h3⟩:=Kdt hd
  rw [List.flatten_cons,List.length_append] at ho
  have e:wr ((sz:Int) + (x.length:Int))=((sz + x.length:Nat):Int):=Kfu (by omega) (by omega)
  rw [Kcf.eq_def]
  simp only
  rw [Kcw h1,if_pos rfl,h2,bs,e,decide_eq_false (by omega),if_neg (by decide),bs,Kcv (by omega),ih (i + 1) _ h3 (by omega),List.flatten_cons,List.length_append,Nat.add_assoc]
theorem Khl (ps:List (List (Int))) (hp:ps.length ≤ 1099511627776):∀ (l:List (List (Int))) (i:Nat) (out:List (Int)),ps.drop i=l→out.length + l.flatten.length ≤ 1099511627776→Kcg (ps,out,(i:Int))=some (out ++ l.flatten):=by
 intro l
 induction l with
 | nil =>
  intro i out hd _
  rw [Kcg.eq_def]
  simp only
  rw [Kcx (Kdu hd)]
  simp
 | cons x l ih =>
  intro i out hd ho
  obtain ⟨h1,h2,h3⟩:=Kdt hd
  rw [List.flatten_cons,List.length_append] at ho
  rw [Kcg.eq_def]
  simp only
  rw [Kcw h1,if_pos rfl,h2,bs,Key (by omega),bs,Kcv (by omega),ih (i + 1) _ h3 (by rw [List.length_append]; omega),List.flatten_cons,List.append_assoc]
theorem Khm (k:Nat) (h:k ≤ 1048576):Kce (k:Int)=some ():=by
 unfold Kce
 have e:wr ((k:Int) - wr (0 - 0))=(k:Int):=by rw [Kct (x:=0 - 0) (by decide) (by decide),Kct (by omega) (by omega)]; omega
 rw [decide_eq_false (by omega),if_neg (by decide),e]
 by_cases hk:k=0
 ·subst hk; rfl
 ·rw [decide_eq_true (by omega),if_pos rfl,Int.toNat_natCast,Kg1 (by constructor <;> omega),bs]
theorem Khn (ps:List (List (Int))) (hp:ps.length ≤ 1048576) (h:ps.flatten.length ≤ 1048576):Kch ps=some ps.flatten:=by
 unfold Kch
 have h0:=Khk ps (by omega) ps 0 0 rfl (by omega)
 rw [Nat.zero_add] at h0
 rw [show (0:Int)=((0:Nat):Int) from rfl,h0,bs,Khm _ h,bs,Khl ps (by omega) ps 0 [] rfl (by rw [List.length_nil]; omega)]
 rfl
theorem Kho (ps:List (List (List Int))) (hp:ps.length ≤ 1099511627776):∀ (l:List (List (List Int))) (i sz:Nat),ps.drop i=l→sz + l.flatten.length ≤ 1099511627776→Kc3 (ps,(sz:Int),(i:Int))=some (((sz + l.flatten.length:Nat)):Int):=by
 intro l
 induction l with
 | nil =>
  intro i sz hd _
  rw [Kc3.eq_def]
  simp only
  rw [Kcx (Kdu hd)]
  simp
 | cons x l ih =>
  intro i sz hd ho
  obtain ⟨h1,h2,h3⟩:=Kdt hd
  rw [List.flatten_cons,List.length_append] at ho
  have e:wr ((sz:Int) + (x.length:Int))=((sz + x.length:Nat):Int):=Kfu (by omega) (by omega)
  rw [Kc3.eq_def]
  simp only
  rw [Kcw h1,if_pos rfl,h2,bs,e,decide_eq_false (by omega),if_neg (by decide),bs,Kcv (by omega),ih (i + 1) _ h3 (by omega),List.flatten_cons,List.length_append,Nat.add_assoc]
theorem Khp (ps:List (List (List Int))) (hp:ps.length ≤ 1099511627776):∀ (l:List (List (List Int))) (i:Nat) (out:List (List Int)),ps.drop i=l→out.length + l.flatten.length ≤ 1099511627776→Kc4 (ps,out,(i:Int))=some (out ++ l.flatten):=by
 intro l
 induction l with
 | nil =>
  intro i out hd _
  rw [Kc4.eq_def]
  simp only
  rw [Kcx (Kdu hd)]
  simp
 | cons x l ih =>
  intro i out hd ho
  obtain ⟨h1,h2,h3⟩:=Kdt hd
  rw [List.flatten_cons,List.length_append] at ho
  rw [Kc4.eq_def]
  simp only
  rw [Kcw h1,if_pos rfl,h2,bs,Key (by omega),bs,Kcv (by omega),ih (i + 1) _ h3 (by rw [List.length_append]; omega),List.flatten_cons,List.append_assoc]
theorem Khq (k:Nat) (h:k ≤ 1048576):Kc2 (k:Int)=some ():=by
 unfold Kc2
 have e:wr ((k:Int) - wr (0 - 0))=(k:Int):=by rw [Kct (x:=0 - 0) (by decide) (by decide),Kct (by omega) (by omega)]; omega
 rw [decide_eq_false (by omega),if_neg (by decide),e]
 by_cases hk:k=0
 ·subst hk; rfl
 ·rw [decide_eq_true (by omega),if_pos rfl,Int.toNat_natCast,Kg1 (by constructor <;> omega),bs]
theorem Khr (ps:List (List (List Int))) (hp:ps.length ≤ 1048576) (h:ps.flatten.length ≤ 1048576):Kc5 ps=some ps.flatten:=by
 unfold Kc5
 have h0:=Kho ps (by omega) ps 0 0 rfl (by omega)
 rw [Nat.zero_add] at h0
 rw [show (0:Int)=((0:Nat):Int) from rfl,h0,bs,Khq _ h,bs,Khp ps (by omega) ps 0 [] rfl (by rw [List.length_nil]; omega)]
 rfl
def TyS (s:K00) (ty:List Int):Prop:=yN s.fSize true ty=true
theorem Khs {s:K00} {ty:List Int} (h:TyS s ty):ty.length ≤ 40:=by
 unfold TyS yN at h
 rw [Bool.and_eq_true] at h
 exact Kew h.1
theorem Kht {s:K00} {ty:List Int} (h:TyS s ty):∃ T:Ty,T.ok∧ty=T.code∧T.code.length ≤ 40∧T.code.all (Keg s.fSize true)=true:=by
 have hl:=Khs h
 unfold TyS yN at h
 rw [Bool.and_eq_true] at h
 obtain ⟨T,h1,rfl,_⟩:=Kfj h.1
 exact ⟨T,h1,rfl,hl,h.2⟩
theorem Khu {s:K00} {T:Ty} (h:T.ok) (hl:T.code.length ≤ 40) (hc:T.code.all (Keg s.fSize true)=true):TyS s T.code:=by
 unfold TyS yN
 rw [Kfk h hl,hc]; rfl
structure Khv (s:K00) (c:Int) (a b:List Int):Prop where
 ya:TyS s a
 yb:TyS s b
 p0:Kbf (c :: (a ++ b),0)=some a
 p1:Kbf (c :: (a ++ b),1)=some b
 pp:Kbh (c :: (a ++ b))=some [a,b]
structure Khw (s:K00) (c:Int) (a:List Int):Prop where
 ya:TyS s a
 p0:Kbf (c :: a,0)=some a
 pp:Kbh (c :: a)=some [a]
theorem Khx {s:K00} {c:Int} (hc:c=35∨c=36):Keg s.fSize true c=false:=by
 rcases hc with rfl | rfl
 ·unfold Keg Kef
  rw [show Kdx 35=2 from rfl]; simp
 ·unfold Keg Kef
  rw [show Kdx 36=1 from rfl]; simp
theorem Khy {s:K00}:TyS s [0]:=Khu (T:=.num) trivial (by decide) (by
 show (Keg s.fSize true 0 && true)=true
 unfold Keg
 rw [show Kdx 0=0 from rfl]; simp)
section
variable {s:K00} {n:Nat} (hs:Kgj s n)
include hs
theorem Khz {c:Int} (hc:3 ≤ c∧c ≤ 18):Keg s.fSize true c=true ↔ c - 3 < (n:Int):=by
 have hk:Kdx c=2:=by rcases Ke1 c with h | h | h | h <;> omega
 unfold Keg Kef
 rw [hk,hs.tab.size,if_neg (by omega),if_neg (by omega)]
 simp
 omega
theorem Ki0 {c:Int} (hc:19 ≤ c∧c ≤ 34):Keg s.fSize true c=true ↔ c - 19 < (n:Int):=by
 have hk:Kdx c=1:=by rcases Ke1 c with h | h | h | h <;> omega
 unfold Keg Kef
 rw [hk,hs.tab.size,if_neg (by omega),if_pos (by omega)]
 simp
 omega
theorem Ki1 {ty:List Int} (h:TyS s ty):ty=[0]∨(∃ a b,ty=1 :: (a ++ b)∧Khv s 1 a b)∨(∃ a b,ty=2 :: (a ++ b)∧Khv s 2 a b) ∨
  (∃ (g:Nat) (a b:List Int),g < n∧g ≤ 15∧ty=(3 + (g:Int)) :: (a ++ b)∧Khv s (3 + (g:Int)) a b)∨(∃ (g:Nat) (a:List Int),g < n∧g ≤ 15∧ty=(19 + (g:Int)) :: a∧Khw s (19 + (g:Int)) a):=by
 obtain ⟨T,hT,rfl,hl,hc⟩:=Kht h
 cases T with
 | num=>exact .inl rfl
 | bin c a b =>
  have B:=Kg0 hT (by omega)
  have hl':=hl
  rw [Ty.code,List.length_cons,List.length_append] at hl'
  rw [Ty.code,List.all_cons,List.all_append,Bool.and_eq_true,Bool.and_eq_true] at hc
  have hP:Khv s c a.code b.code:=⟨Khu B.ok.1 (by omega) hc.2.1,Khu B.ok.2 (by omega) hc.2.2,B.p0,B.p1,B.pp⟩
  have hk:=hT.1
  rcases Ke1 c with ⟨q,e⟩ | ⟨q,e⟩ | ⟨q,e⟩ | ⟨q,e⟩
  ·rw [e] at hk; exact absurd hk (by decide)
  ·rcases q with rfl | rfl | q | rfl
   ·exact .inr (.inl ⟨_,_,rfl,hP⟩)
   ·exact .inr (.inr (.inl ⟨_,_,rfl,hP⟩))
   ·have:=(Khz hs q).1 hc.1
    obtain ⟨g,hg⟩:∃ g:Nat,c=3 + (g:Int):=⟨(c - 3).toNat,by omega⟩
    subst hg
    exact .inr (.inr (.inr (.inl ⟨g,_,_,by omega,by omega,rfl,hP⟩)))
   ·rw [Khx (s:=s) (.inl rfl)] at hc; exact absurd hc.1 (by decide)
  ·rw [e] at hk; exact absurd hk (by decide)
  ·rw [e] at hk; exact absurd hk (by decide)
 | un c a =>
  have B:=unP hT (by omega)
  have hl':=hl
  rw [Ty.code,List.length_cons] at hl'
  rw [Ty.code,List.all_cons,Bool.and_eq_true] at hc
  have hP:Khw s c a.code:=⟨Khu B.ok (by omega) hc.2,B.p0,B.pp⟩
  have hk:=hT.1
  rcases Ke1 c with ⟨q,e⟩ | ⟨q,e⟩ | ⟨q,e⟩ | ⟨q,e⟩
  ·rw [e] at hk; exact absurd hk (by decide)
  ·rw [e] at hk; exact absurd hk (by decide)
  ·rcases q with q | rfl
   ·have:=(Ki0 hs q).1 hc.1
    obtain ⟨g,hg⟩:∃ g:Nat,c=19 + (g:Int):=⟨(c - 19).toNat,by omega⟩
    subst hg
    exact .inr (.inr (.inr (.inr ⟨g,_,by omega,by omega,rfl,hP⟩)))
   ·rw [Khx (s:=s) (.inr rfl)] at hc; exact absurd hc.1 (by decide)
  ·rw [e] at hk; exact absurd hk (by decide)
theorem Ki2 {c:Int} {a b:List Int} (ha:TyS s a) (hb:TyS s b) (hc:c=1∨c=2∨∃ g:Nat,g < n∧c=3 + (g:Int)) (hl:(c :: (a ++ b)).length ≤ 40):TyS s (c :: (a ++ b)):=by
 obtain ⟨A,hA,rfl,_,hAc⟩:=Kht ha
 obtain ⟨B,hB,rfl,_,hBc⟩:=Kht hb
 have hn:=hs.tab.hi
 have hk:Kdx c=2∧Keg s.fSize true c=true:=by
  rcases hc with rfl | rfl | ⟨g,hg,rfl⟩
  ·exact ⟨rfl,by unfold Keg; rw [show Kdx 1=2 from rfl]; simp⟩
  ·exact ⟨rfl,by unfold Keg; rw [show Kdx 2=2 from rfl]; simp⟩
  ·refine ⟨by rcases Ke1 (3 + (g:Int)) with h | h | h | h <;> omega,(Khz hs (by omega)).2 (by omega)⟩
 have:TyS s (Ty.bin c A B).code:=Khu ⟨hk.1,hA,hB⟩ hl (by rw [Ty.code,List.all_cons,List.all_append,hk.2,hAc,hBc]; rfl)
 exact this
theorem Ki3 {g:Nat} (hg:g < n) {a:List Int} (ha:TyS s a) (hl:((19 + (g:Int)) :: a).length ≤ 40):TyS s ((19 + (g:Int)) :: a):=by
 obtain ⟨A,hA,rfl,_,hAc⟩:=Kht ha
 have hn:=hs.tab.hi
 have hk:Kdx (19 + (g:Int))=1:=by rcases Ke1 (19 + (g:Int)) with h | h | h | h <;> omega
 have:TyS s (Ty.un (19 + (g:Int)) A).code:=Khu ⟨hk,hA⟩ hl (by rw [Ty.code,List.all_cons,(Ki0 hs (by omega)).2 (by omega),hAc]; rfl)
 exact this
theorem Ki4 {x:Int} (h:gN s.fSize true x=true):∃ g:Nat,x=(g:Int)∧g < n:=by
 unfold gN at h
 rw [hs.tab.size] at h
 simp at h
 exact ⟨x.toNat,by omega,by omega⟩
end
structure Ki5 (s:K00) (n:Nat) (k:Kaw) (m:Nat):Prop where
 ok:tOk (gN s.fSize true) (yN s.fSize true) n k=true
 sz:tsz k + 1 ≤ m
theorem nd1 {s:K00} {n m:Nat} {op N:Int} {ty:List Int} {ks:List Kaw} (h:tOk (gN s.fSize true) (yN s.fSize true) n ⟨op,N,ty,ks⟩=true) (hm:tsz ⟨op,N,ty,ks⟩ ≤ m) (hk:Kek op=1):∃ a,ks=[a]∧Ki5 s (n + Keo op 0) a m:=by
 obtain ⟨h1,h2⟩:=Kex h
 obtain ⟨a,rfl⟩:=Kg8 (l:=ks) (beq_iff_eq.2 (by rw [← hk]; exact (Kez h1).2))
 simp only at h2
 rw [Kg7,Bool.and_eq_true] at h2
 rw [Kga] at hm
 exact ⟨a,rfl,h2.1,by omega⟩
theorem nd2 {s:K00} {n m:Nat} {op N:Int} {ty:List Int} {ks:List Kaw} (h:tOk (gN s.fSize true) (yN s.fSize true) n ⟨op,N,ty,ks⟩=true) (hm:tsz ⟨op,N,ty,ks⟩ ≤ m) (hk:Kek op=2):∃ a b,ks=[a,b]∧Ki5 s (n + Keo op 0) a m∧Ki5 s (n + Keo op 1) b m:=by
 obtain ⟨h1,h2⟩:=Kex h
 obtain ⟨a,b,rfl⟩:=Kg9 (l:=ks) (beq_iff_eq.2 (by rw [← hk]; exact (Kez h1).2))
 simp only at h2
 rw [Kg7,Kg7,Bool.and_eq_true,Bool.and_eq_true] at h2
 rw [Kgb] at hm
 exact ⟨a,b,rfl,⟨h2.1,by omega⟩,⟨h2.2.1,by omega⟩⟩
theorem nd3 {s:K00} {n m:Nat} {op N:Int} {ty:List Int} {ks:List Kaw} (h:tOk (gN s.fSize true) (yN s.fSize true) n ⟨op,N,ty,ks⟩=true) (hm:tsz ⟨op,N,ty,ks⟩ ≤ m) (hk:Kek op=3):∃ a b c,ks=[a,b,c]∧Ki5 s (n + Keo op 0) a m∧Ki5 s (n + Keo op 1) b m∧Ki5 s (n + Keo op 2) c m:=by
 obtain ⟨h1,h2⟩:=Kex h
 obtain ⟨a,b,c,rfl⟩:=Kgd (l:=ks) (by rw [← hk]; exact (Kez h1).2)
 simp only at h2
 rw [Kg7,Kg7,Kg7,Bool.and_eq_true,Bool.and_eq_true,Bool.and_eq_true] at h2
 rw [Kgc] at hm
 exact ⟨a,b,c,rfl,⟨h2.1,by omega⟩,⟨h2.2.1,by omega⟩,⟨h2.2.2.1,by omega⟩⟩
theorem Ki6 {s:K00} {n:Nat} {t:Kaw} (h:tOk (gN s.fSize true) (yN s.fSize true) n t=true) (hg:Kel t.fOp=true):gN s.fSize true t.fN=true:=by
 have h1:=(Kex h).1
 unfold Ket Ker at h1
 simp only [Bool.and_eq_true] at h1
 have h2:=h1.1.2
 have hop:(t.fOp == 0)=false∧(t.fOp == 1)=false:=by
  simp only [Kel,Bool.or_eq_true,beq_iff_eq] at hg
  constructor <;> rw [beq_eq_false_iff_ne] <;> omega
 rw [hop.1,hop.2,hg] at h2
 simpa using h2
theorem Ki7 {s:K00} {n:Nat} {t:Kaw} (h:tOk (gN s.fSize true) (yN s.fSize true) n t=true) (hg:Kem t.fOp=true):TyS s t.fType:=by
 have h1:=(Kex h).1
 unfold Ket Kes at h1
 simp only [Bool.and_eq_true] at h1
 have h2:=h1.2
 rw [hg] at h2
 show yN s.fSize true t.fType=true
 simpa using h2
theorem Ki8 {s:K00} {n:Nat} {t:Kaw} (h:tOk (gN s.fSize true) (yN s.fSize true) n t=true) (hg:t.fOp=0):∃ i:Nat,t.fN=(i:Int)∧i < n∧t.fKids=[]:=by
 have h1:=(Kex h).1
 have hl:=(Kez h1).2
 unfold Ket Ker at h1
 simp only [Bool.and_eq_true] at h1
 have h2:=h1.1.2
 rw [hg] at h2 hl
 simp [inB] at h2
 refine ⟨t.fN.toNat,by omega,by omega,?_⟩
 have:(t.fKids.length:Int)=0:=hl
 exact List.eq_nil_of_length_eq_zero (by omega)
theorem Ki9 {s:K00} {n:Nat} {t:Kaw} (h:tOk (gN s.fSize true) (yN s.fSize true) n t=true) (hg:t.fOp=1):t.fKids=[]:=by
 have h1:=(Kex h).1
 have hl:=(Kez h1).2
 rw [hg] at hl
 have:(t.fKids.length:Int)=0:=hl
 exact List.eq_nil_of_length_eq_zero (by omega)
def Kia (t:Kaw) (out:List Kbl) (w:Nat):Option (List (List Int)) :=
 (if (decide ((w:Int) > 0))=true then some (true) else some ((t.fOp == 9))) >>= fun v =>
 if v=true then
  (if (decide ((w:Int) > 0))=true then (idx out 0) >>= fun e=>some (e.fty) else some ([])) >>= fun first=>(Kc1 (t,(w:Int),first)) >>= fun r=>some (r)
 else some ([])
def Kib (p0:Kbm) (ctx:List (List Int)) (t:Kaw) (out:List Kbl) (needs used:List (List Int)) (w:Nat) (more:List (List Int)) (y:Kbl):Option (((List Kbl) × (List (List Int)) × (List (List Int))) ⊕ (Kbl)) :=
 if (y.ffault != 0)=true then
  (Qey ([(w:Int)].length + y.fpath.length) 8) >>= fun _=>some (.inr (Kbl.mk [] [] [] y.ffault ([(w:Int)] ++ y.fpath)))
 else
  (Kc6 (p0,t,(w:Int),y.fty)) >>= fun f =>
  if (f != 0)=true then some (.inr (Kbl.mk [] [] [] f []))
  else
   (if (t.fOp == 10)=true then
    if ((w:Int) == 1)=true then
     (idx out 0) >>= fun e=>(Kbh e.fty) >>= fun r=>(idx r 0) >>= fun q=>(K90 (y.fty,q)) >>= fun b=>some ((!b))
    else some (false)
   else some (false)) >>= fun v =>
   if v=true then some (.inr (Kbl.mk [] [] [] 3 []))
   else
    (Qey (out.length + [y].length) 8) >>= fun _ =>
    (cut y.fneeds none (some (more.length:Int)) none) >>= fun c1 =>
    (Qey (used.length + [c1].length) 24) >>= fun _ =>
    (cut y.fneeds (some (more.length:Int)) none none) >>= fun c2 =>
    (Qey (needs.length + [c2].length) 24) >>= fun _ =>
    Kcs (p0,ctx,t,(out ++ [y]),(needs ++ [c2]),(used ++ [c1]),(wr ((w:Int) + 1)))
theorem Kic {p0:Kbm} {ctx:List (List Int)} {t:Kaw} {out:List Kbl} {needs used:List (List Int)} {w:Nat} {k:Kaw} {more:List (List Int)} {y:Kbl} (hw:w < t.fKids.length) (hk:idx t.fKids (w:Int)=some k) (hm:Kia t out w=some more)
  (hc:ctx.length + more.length ≤ 1000000) (hy:Kcr (p0,more ++ ctx,k)=some y):Kcs (p0,ctx,t,out,needs,used,(w:Int))=Kib p0 ctx t out needs used w more y:=by
 rw [Kcs.eq_def]
 simp only
 rw [Kcw hw,if_pos rfl,hk,bs]
 have key:∀ {β:Type} (R:List (List Int)→Option β),((if (decide ((w:Int) > 0))=true then some (true) else some ((t.fOp == 9))) >>= fun v =>
   (if v=true then (if (decide ((w:Int) > 0))=true then (idx out 0) >>= fun e=>some (e.fty) else some ([])) >>= fun first=>(Kc1 (t,(w:Int),first)) >>= fun r=>some (r) else some ([])) >>= R)=(Kia t out w >>= R):=fun R=>by
  unfold Kia
  simp only [Option.bind_eq_bind,Option.bind_assoc]
 refine (key _).trans ?_
 rw [hm,bs,Khr [more,ctx] (by simp) (by simp; omega),bs]
 simp only [List.flatten_cons,List.flatten_nil,List.append_nil]
 rw [hy,bs]
 rfl
theorem Kid {p0:Kbm} {ctx:List (List Int)} {t:Kaw} {out:List Kbl} {needs used:List (List Int)} {w:Nat} (hw:t.fKids.length ≤ w):Kcs (p0,ctx,t,out,needs,used,(w:Int))=some (.inl (out,needs,used)):=by
 rw [Kcs.eq_def]
 simp only
 rw [Kcx hw]; rfl
theorem Kie {α:Type} {l:List α} {m:Nat} (h:m ≤ l.length):cut l none (some (m:Int)) none=some (l.take m):=by
 unfold cut
 simp only [Option.getD_none,Option.getD_some,Int.toNat_natCast,Int.toNat_zero,List.drop_zero]
 rw [if_pos (by omega)]
theorem Kif {α:Type} {l:List α} {m:Nat} (h:m ≤ l.length):cut l (some (m:Int)) none none=some (l.drop m):=by
 unfold cut
 simp only [Option.getD_none,Option.getD_some,Int.toNat_natCast]
 rw [if_pos (by omega),List.take_length]
def Kig (t:Kaw) (out:List Kbl) (w:Nat) (y:Kbl):Option Bool :=
 if (t.fOp == 10)=true then
  if ((w:Int) == 1)=true then
   (idx out 0) >>= fun e=>(Kbh e.fty) >>= fun r=>(idx r 0) >>= fun q=>(K90 (y.fty,q)) >>= fun b=>some ((!b))
  else some (false)
 else some (false)
section
variable {p0:Kbm} {ctx:List (List Int)} {t:Kaw} {out:List Kbl} {needs used:List (List Int)} {w:Nat} {more:List (List Int)} {y:Kbl}
theorem Kih (h:y.ffault ≠ 0) (hp:y.fpath.length ≤ 1000000):Kib p0 ctx t out needs used w more y=some (.inr ⟨[],[],[],y.ffault,(w:Int) :: y.fpath⟩):=by
 unfold Kib
 rw [if_pos (bne_iff_ne.2 h),Key (by simp; omega),bs]
 rfl
theorem Kii {f:Int} (h:y.ffault=0) (hf:Kc6 (p0,t,(w:Int),y.fty)=some f) (hf0:f ≠ 0):Kib p0 ctx t out needs used w more y=some (.inr ⟨[],[],[],f,[]⟩):=by
 unfold Kib
 rw [if_neg (by simp [h]),hf,bs,if_pos (bne_iff_ne.2 hf0)]
theorem Kij (h:y.ffault=0) (hf:Kc6 (p0,t,(w:Int),y.fty)=some 0) (ha:Kig t out w y=some true):Kib p0 ctx t out needs used w more y=some (.inr ⟨[],[],[],3,[]⟩):=by
 unfold Kib
 rw [if_neg (by simp [h]),hf,bs,if_neg (by simp)]
 refine (congrArg (· >>= _) (show _=some true from ha)).trans ?_
 rw [bs,if_pos rfl]
theorem Kik {ns:List Nat} (h:y.ffault=0) (hf:Kc6 (p0,t,(w:Int),y.fty)=some 0) (ha:Kig t out w y=some false) (hn:y.fneeds=Kge ns) (hl:more.length ≤ ns.length)
  (h1:out.length ≤ 1000000) (h2:needs.length ≤ 1000000) (h3:used.length ≤ 1000000) (h4:w ≤ 1000000) :
  Kib p0 ctx t out needs used w more y=Kcs (p0,ctx,t,(out ++ [y]),(needs ++ [Kge (ns.drop more.length)]),(used ++ [Kge (ns.take more.length)]),((w + 1:Nat):Int)):=by
 unfold Kib
 rw [if_neg (by simp [h]),hf,bs,if_neg (by simp)]
 refine (congrArg (· >>= _) (show _=some false from ha)).trans ?_
 rw [bs,if_neg (by simp),Key (by simp; omega),bs,hn,Kie (by rw [Kgf]; exact hl),bs,Key (by simp; omega),bs,Kif (by rw [Kgf]; exact hl),bs,Key (by simp; omega),bs,Kcv (by omega),Kgh,Kgg]
theorem Kil {r:Kbl} (hc:ctx.length ≤ 1000000) (h:Kcs (p0,ctx,t,[],[],[],((0:Nat):Int))=some (.inr r)):Kcr (p0,ctx,t)=some r:=by
 rw [Kcr.eq_def]
 simp only
 rw [Kg1 (by simp; omega),bs,show (0:Int)=((0:Nat):Int) from rfl,h]
 rfl
theorem Kim {o:List Kbl} {nd us:List (List Int)} {f:Int} {g:Kbl} (hc:ctx.length ≤ 1000000) (h:Kcs (p0,ctx,t,[],[],[],((0:Nat):Int))=some (.inl (o,nd,us)))
  (hf:Kcq (p0,⟨[],Kge (List.replicate ctx.length 0),o,0,[]⟩,ctx,t,nd,us)=some (f,g)) (hg:g.fpath=[]:=by rfl):Kcr (p0,ctx,t)=some (if f=0 then ⟨g.fty,g.fneeds,g.fkids,0,g.fpath⟩ else ⟨[],[],[],f,[]⟩):=by
 have e:Kge (List.replicate ctx.length 0)=List.replicate (Int.toNat (ctx.length:Int)) (0:Int):=by
  unfold Kge; rw [List.map_replicate,Int.toNat_natCast]; rfl
 rw [e] at hf
 rw [Kcr.eq_def]
 simp only
 rw [Kg1 (by simp; omega),bs,show Kcs (p0,ctx,t,[],[],[],0)=some (.inl (o,nd,us)) from h,bs]
 simp only
 rw [hf,bs]
 simp only
 by_cases hz:f=0
 ·subst hz; first | (rw [if_neg (by simp),if_pos rfl]; done) | rw [if_neg (by simp),if_pos rfl,hg]
 ·rw [if_pos (bne_iff_ne.2 hz),if_neg hz]
theorem Kin (h:t.fOp ≠ 10):Kig t out w y=some false:=by
 unfold Kig
 rw [if_neg (by simpa using h)]
theorem Kio (h:w ≠ 1):Kig t out w y=some false:=by
 unfold Kig
 have:((w:Int) == 1)=false:=by rw [beq_eq_false_iff_ne]; omega
 rw [this]
 simp
end
section
variable {s:K00} {n:Nat} (hs:Kgj s n) {N:Int} {ty:List Int} {ks:List Kaw} {w:Nat} {c:Int} {r:List Int}
theorem Kip {op:Int} (h:(op=4∨op=6∨op=7∨op=9∨op=11)∨(w ≠ 0∧(op=3∨op=5∨op=8∨op=10∨op=12))):Kc6 (⟨s⟩,⟨op,N,ty,ks⟩,(w:Int),c :: r)=some 0:=by
 have hw:∀ hw:w ≠ 0,((w:Int) == 0)=false:=fun hw=>by rw [beq_eq_false_iff_ne]; omega
 unfold Kc6
 rcases h with (rfl | rfl | rfl | rfl | rfl) | ⟨h0,(rfl | rfl | rfl | rfl | rfl)⟩
 all_goals first | simp [Kft,Ke3,hw h0] | (by_cases h0:w=0 <;> simp [Kft,Ke3,h0])
theorem Kiq:Kc6 (⟨s⟩,⟨2,N,ty,ks⟩,(w:Int),c :: r)=some (if (Ke2 c).1=0 then 0 else 2):=by
 unfold Kc6
 by_cases h:(Ke2 c).1=0 <;> simp [Kft,Ke3,h]
theorem Kir:Kc6 (⟨s⟩,⟨3,N,ty,ks⟩,((0:Nat):Int),c :: r)=some (if (Ke2 c).1=0 then 0 else 2):=by
 unfold Kc6
 by_cases h:(Ke2 c).1=0 <;> simp [Kft,Ke3,h]
theorem Kis:Kc6 (⟨s⟩,⟨10,N,ty,ks⟩,((0:Nat):Int),c :: r)=some (if (Ke2 c).1=3 then 0 else 6):=by
 unfold Kc6
 by_cases h:(Ke2 c).1=3 <;> simp [Kft,Ke3,h]
include hs
theorem Kit {g:Nat} (hg:g < n):Kc6 (⟨s⟩,⟨5,(g:Int),ty,ks⟩,((0:Nat):Int),c :: r)=some (if (Ke2 c).1=1 then (if le s n 1 g then 0 else 8) else 4):=by
 have hl:=iLe hs.tab (Kgl hs) hg
 unfold Kc6
 by_cases h:(Ke2 c).1=1 <;> cases hle:le s n 1 g <;> simp [Kft,Ke3,h,show K5o (s,1,(g:Int))=some (le s n 1 g) from hl,hle]
theorem Kiu {g:Nat} (hg:g < n):Kc6 (⟨s⟩,⟨8,(g:Int),ty,ks⟩,((0:Nat):Int),c :: r)=some (if (Ke2 c).1=2 then (if le s n 1 g then 0 else 8) else 5):=by
 have hl:=iLe hs.tab (Kgl hs) hg
 unfold Kc6
 by_cases h:(Ke2 c).1=2 <;> cases hle:le s n 1 g <;> simp [Kft,Ke3,h,show K5o (s,1,(g:Int))=some (le s n 1 g) from hl,hle]
theorem Kiv {g:Nat} (hg:g < n):Kc6 (⟨s⟩,⟨12,(g:Int),ty,ks⟩,((0:Nat):Int),c :: r)=some (if (Ke2 c).1=4 then (if le s n 1 g then 0 else 8) else 7):=by
 have hl:=iLe hs.tab (Kgl hs) hg
 unfold Kc6
 by_cases h:(Ke2 c).1=4 <;> cases hle:le s n 1 g <;> simp [Kft,Ke3,h,show K5o (s,1,(g:Int))=some (le s n 1 g) from hl,hle]
end
def Kiw (ty:List Int) (ns:List Nat) (kids:List Kbl):Int × Kbl:=(if ty.length > 40 then 3 else 0,⟨ty,Kge ns,kids,0,[]⟩)
theorem Kix {α:Type} (x:α) (l:List α):idx (x :: l) 0=some x:=rfl
theorem Kiy {α:Type} (x y:α) (l:List α):idx (x :: y :: l) 1=some y:=rfl
theorem Kiz {α:Type} (x y z:α) (l:List α):idx (x :: y :: z :: l) 2=some z:=rfl
section
variable {s:K00} {n:Nat} (hs:Kgj s n) {N:Int} {ty:List Int} {ks:List Kaw} {ctx us:List (List Int)} {z:List Int} {y0 y1 y2:Kbl} {a b d:List Nat}
theorem Kj0 {i:Nat} {q:List Int} {zs:List Nat} (hi:ctx[i]?=some q) (hz:i < zs.length) (hq:q.length ≤ 40):Kcq (⟨s⟩,⟨[],Kge zs,[],0,[]⟩,ctx,⟨0,(i:Int),ty,ks⟩,[],[])=some (Kiw q (zs.set i 1) []):=by
 obtain ⟨h1,h2⟩:=List.getElem?_eq_some_iff.1 hi
 have e1:idx ctx (i:Int)=some q:=by rw [Kcu h1,h2]
 have e2:idx (Kge zs) (i:Int)=some ((zs[i]:Nat):Int):=by rw [Kcu (by rw [Kgf]; exact hz)]; simp [Kge]
 have e3:List.set (Kge zs) i 1=Kge (zs.set i 1):=by unfold Kge; rw [List.map_set]; rfl
 have h40:¬ ((q.length:Int) > 40):=by omega
 unfold Kcq Kcp Kiw
 simp [e1,e2,e3,Kf1 q (by omega),show ¬ (40 < (q.length:Int)) by omega,show ¬ (40 < q.length) by omega]
theorem Kj1 {zs:List Nat}:Kcq (⟨s⟩,⟨[],Kge zs,[],0,[]⟩,ctx,⟨1,N,ty,ks⟩,[],[])=some (Kiw [0] zs []):=by
 unfold Kcq Kcp Kiw
 simp
theorem Kj2 (hy:y0.fty.length ≤ 1000) (ht:ty.length ≤ 1000):Kcq (⟨s⟩,⟨[],z,[y0],0,[]⟩,ctx,⟨6,N,ty,ks⟩,[Kge a],us)=some (Kiw (2 :: (y0.fty ++ ty)) a [y0]):=by
 have hc:=Khn [[2],y0.fty,ty] (by simp) (by simp; omega)
 unfold Kcq Kcp Kiw Kca
 simp only [List.flatten_cons,List.flatten_nil,List.append_nil,List.singleton_append,List.cons_append,List.nil_append] at hc
 simp [Kix,Kiy,hc]
 split <;> rename_i q40
 ·rw [if_pos (by omega)]
 ·rw [if_neg (by omega)]
theorem Kj3 (hy:y0.fty.length ≤ 1000) (ht:ty.length ≤ 1000):Kcq (⟨s⟩,⟨[],z,[y0],0,[]⟩,ctx,⟨7,N,ty,ks⟩,[Kge a],us)=some (Kiw (2 :: (ty ++ y0.fty)) a [y0]):=by
 have hc:=Khn [[2],ty,y0.fty] (by simp) (by simp; omega)
 unfold Kcq Kcp Kiw Kca
 simp only [List.flatten_cons,List.flatten_nil,List.append_nil,List.singleton_append,List.cons_append,List.nil_append] at hc
 simp [Kix,Kiy,hc]
 split <;> rename_i q40
 ·rw [if_pos (by omega)]
 ·rw [if_neg (by omega)]
include hs
theorem Kj4 (ha:Kgu n a) (hb:Kgu n b) (hl:a.length ≤ 1000000) (hab:a.length=b.length):Kcq (⟨s⟩,⟨[],z,[y0,y1],0,[]⟩,ctx,⟨2,N,ty,ks⟩,[Kge a,Kge b],us)=some (Kiw [0] (Kgr s n a b) [y0,y1]):=by
 have h:=Kh9 hs a b ha hb (by omega) hab
 unfold Kcq Kcp Kiw
 simp [Kix,Kiy,h]
theorem Kj5 (ha:Kgu n a) (hb:Kgu n b) (hd:Kgu n d) (hl:a.length ≤ 1000000) (hab:a.length=b.length) (had:a.length=d.length) (h2:y2.fty.length ≤ 1000) (h1:y1.fty.length ≤ 40) :
  Kcq (⟨s⟩,⟨[],z,[y0,y1,y2],0,[]⟩,ctx,⟨3,N,ty,ks⟩,[Kge a,Kge b,Kge d],us)=some (if y1.fty=y2.fty then Kiw y1.fty (Kgr s n a (Kgt s n b d)) [y0,y1,y2] else (3,⟨[],z,[y0,y1,y2],0,[]⟩)):=by
 have hj:=Khb hs b d hb hd (by omega) (by omega)
 have hlj:(Kgt s n b d).length=a.length:=by unfold Kgt; rw [List.length_zipWith]; omega
 have h:=Kh9 hs a (Kgt s n b d) ha (Kgz hs hb hd) (by omega) hlj.symm
 have he:=Kg6 y1.fty y2.fty (by omega)
 unfold Kcq Kcp Kiw Kca
 by_cases hq:y1.fty=y2.fty
 ·rw [show (y1.fty == y2.fty)=true from beq_iff_eq.2 hq] at he
  rw [if_pos hq]
  simp [Kix,Kiy,Kiz,he,hj,h,show ¬ (40 < (y1.fty.length:Int)) by omega,show ¬ (40 < y1.fty.length) by omega]
 ·rw [show (y1.fty == y2.fty)=false from beq_eq_false_iff_ne.2 hq] at he
  rw [if_neg hq]
  simp [Kix,Kiy,Kiz,he]
theorem Kj6 (ha:Kgu n a) (hb:Kgu n b) (hl:a.length ≤ 1000000) (hab:a.length=b.length) (h0:y0.fty.length ≤ 1000) (h1:y1.fty.length ≤ 1000) :
  Kcq (⟨s⟩,⟨[],z,[y0,y1],0,[]⟩,ctx,⟨4,N,ty,ks⟩,[Kge a,Kge b],us)=some (Kiw (1 :: (y0.fty ++ y1.fty)) (Kgr s n a b) [y0,y1]):=by
 have h:=Kh9 hs a b ha hb (by omega) hab
 have hc:=Khn [[1],y0.fty,y1.fty] (by simp) (by simp; omega)
 unfold Kcq Kcp Kiw Kca
 simp only [List.flatten_cons,List.flatten_nil,List.append_nil,List.singleton_append,List.cons_append,List.nil_append] at hc
 simp [Kix,Kiy,hc,h]
 split <;> rename_i q40
 ·rw [if_pos (by omega)]
 ·rw [if_neg (by omega)]
theorem Kj7 {g:Nat} (hg:g < n) {u:List Nat} (hu:Kgu n u) (hul:u.length ≤ 1000000) (hy:y0.fty.length ≤ 1000) (ht:ty.length ≤ 1000) :
  Kcq (⟨s⟩,⟨[],z,[y0],0,[]⟩,ctx,⟨9,(g:Int),ty,ks⟩,[Kge a],[Kge u])=some (if (u.all fun x=>le s n x g)=true then Kiw ((3 + (g:Int)) :: (ty ++ y0.fty)) a [y0] else (9,⟨[],z,[y0],0,[]⟩)):=by
 have hn:=hs.tab.hi
 have e:=Khf hs g hg u hu (by omega)
 have hw:wr (3 + (g:Int))=3 + (g:Int):=Kct (by omega) (by omega)
 have hc:=Khn [[3 + (g:Int)],ty,y0.fty] (by simp) (by simp; omega)
 unfold Kcq Kcp Kiw Kca
 simp only [List.flatten_cons,List.flatten_nil,List.append_nil,List.singleton_append,List.cons_append,List.nil_append] at hc
 cases hq:(u.all fun x=>le s n x g) with
 | true =>
  rw [hq] at e
  simp [Kix,Kiy,e,hc,hw]
  split <;> rename_i q40
  ·rw [if_pos (by omega)]
  ·rw [if_neg (by omega)]
 | false =>
  rw [hq] at e
  simp [Kix,Kiy,e]
theorem Kj8 {g:Nat} (hg:g < n) (ha:Kgu n a) (hl:a.length ≤ 1000000) (hy:y0.fty.length ≤ 1000) :
  Kcq (⟨s⟩,⟨[],z,[y0],0,[]⟩,ctx,⟨11,(g:Int),ty,ks⟩,[Kge a],us)=some (Kiw ((19 + (g:Int)) :: y0.fty) (Kgs s n g a) [y0]):=by
 have hn:=hs.tab.hi
 have e:=Khd hs g hg a ha (by omega)
 have hw:wr (19 + (g:Int))=19 + (g:Int):=Kct (by omega) (by omega)
 have hc:=Khn [[19 + (g:Int)],y0.fty] (by simp) (by simp; omega)
 unfold Kcq Kcp Kiw Kca
 simp only [List.flatten_cons,List.flatten_nil,List.append_nil,List.singleton_append,List.cons_append,List.nil_append] at hc
 simp [Kix,Kiy,hc,hw,e]
 split <;> rename_i q40
 ·rw [if_pos (by omega)]
 ·rw [if_neg (by omega)]
theorem Kj9 {g:Nat} (hg:g < n) {p q:List Int} (hty:y0.fty=(3 + (g:Int)) :: (p ++ q)) (hP:Khv s (3 + (g:Int)) p q) (ha:Kgu n a) (hb:Kgu n b) (hl:a.length ≤ 1000000) (hab:a.length=b.length) :
  Kcq (⟨s⟩,⟨[],z,[y0,y1],0,[]⟩,ctx,⟨10,N,ty,ks⟩,[Kge a,Kge b],us)=some (Kiw q (Kgr s n a (Kgs s n g b)) [y0,y1]):=by
 have hn:=hs.tab.hi
 have e:=Khd hs g hg b hb (by omega)
 have hlj:(Kgs s n g b).length=a.length:=by unfold Kgs; rw [List.length_map]; omega
 have h:=Kh9 hs a (Kgs s n g b) ha (Kgy hs hg hb) (by omega) hlj.symm
 have hsh:Ke2 (3 + (g:Int))=(3,(g:Int)):=by
  rcases Ke4 (3 + (g:Int)) with h | h | h | h | h | h | h | h <;> first | omega | (obtain ⟨_,e⟩:=h; rw [e]; congr 1; omega)
 have hq:=Khs hP.yb
 have pp:=hP.pp
 rw [← hty] at pp
 have i0:idx y0.fty 0=some (3 + (g:Int)):=by rw [hty]; rfl
 unfold Kcq Kcp Kiw Kca
 simp [Kix,Kiy,i0,Ke3,hsh,pp,e,h,show ¬ (40 < (q.length:Int)) by omega,show ¬ (40 < q.length) by omega]
theorem Kja {g:Nat} (hg:g < n) {u:List Nat} {us':List Int} (hu:Kgu n u) (hul:u.length ≤ 1000000) (ha:Kgu n a) (hb:Kgu n b) (hl:a.length ≤ 1000000) (hab:a.length=b.length) (h1:y1.fty.length ≤ 40) :
  Kcq (⟨s⟩,⟨[],z,[y0,y1],0,[]⟩,ctx,⟨5,(g:Int),ty,ks⟩,[Kge a,Kge b],[us',Kge u])=some (if (u.all fun x=>le s n x g)=true then Kiw y1.fty (Kgr s n (Kgs s n g a) b) [y0,y1] else (9,⟨[],z,[y0,y1],0,[]⟩)):=by
 have e:=Khf hs g hg u hu (by omega)
 have e2:=Khd hs g hg a ha (by omega)
 have hlj:(Kgs s n g a).length=a.length:=by unfold Kgs; rw [List.length_map]
 have h:=Kh9 hs (Kgs s n g a) b (Kgy hs hg ha) hb (by omega) (by omega)
 unfold Kcq Kcp Kiw Kca
 cases hq:(u.all fun x=>le s n x g) with
 | true =>
  rw [hq] at e
  simp [Kix,Kiy,e,e2,h,show ¬ (40 < (y1.fty.length:Int)) by omega,show ¬ (40 < y1.fty.length) by omega]
 | false =>
  rw [hq] at e
  simp [Kix,Kiy,e]
theorem Kjb {g m:Nat} (hg:g < n) (hm:m < n) {p:List Int} (hty:y0.fty=(19 + (m:Int)) :: p) {u:List Nat} {us':List Int} (hu:Kgu n u) (hul:u.length ≤ 1000000) (ha:Kgu n a) (hb:Kgu n b) (hl:a.length ≤ 1000000) (hab:a.length=b.length) (h1:y1.fty.length ≤ 40) :
  Kcq (⟨s⟩,⟨[],z,[y0,y1],0,[]⟩,ctx,⟨12,(g:Int),ty,ks⟩,[Kge a,Kge b],[us',Kge u])=some (if (u.all fun x=>le s n x (ti s n g m))=true then Kiw y1.fty (Kgr s n (Kgs s n g a) b) [y0,y1] else (9,⟨[],z,[y0,y1],0,[]⟩)):=by
 have hn:=hs.tab.hi
 have e0:=Kd9 hs.tab hg hm
 have e:=Khf hs (ti s n g m) (Kd2 hs.tab hg hm) u hu (by omega)
 have e2:=Khd hs g hg a ha (by omega)
 have hlj:(Kgs s n g a).length=a.length:=by unfold Kgs; rw [List.length_map]
 have h:=Kh9 hs (Kgs s n g a) b (Kgy hs hg ha) hb (by omega) (by omega)
 have hsh:Ke2 (19 + (m:Int))=(4,(m:Int)):=by
  rcases Ke4 (19 + (m:Int)) with h | h | h | h | h | h | h | h <;> first | omega | (obtain ⟨_,e⟩:=h; rw [e]; congr 1; omega)
 have i0:idx y0.fty 0=some (19 + (m:Int)):=by rw [hty]; rfl
 unfold Kcq Kcp Kiw Kca
 cases hq:(u.all fun x=>le s n x (ti s n g m)) with
 | true =>
  rw [hq] at e
  simp [Kix,Kiy,i0,Ke3,hsh,e0,e,e2,h,show ¬ (40 < (y1.fty.length:Int)) by omega,show ¬ (40 < y1.fty.length) by omega]
 | false =>
  rw [hq] at e
  simp [Kix,Kiy,i0,Ke3,hsh,e0,e]
theorem Kjc {g:Nat} (hg:g < n) {u v:List Nat} {us':List Int} (hu:Kgu n u) (hul:u.length ≤ 1000000) (hv:Kgu n v) (hvl:v.length ≤ 1000000) (ha:Kgu n a) (hb:Kgu n b) (hd:Kgu n d) (hl:a.length ≤ 1000000) (hab:a.length=b.length) (had:a.length=d.length) (h2:y2.fty.length ≤ 1000) (h1:y1.fty.length ≤ 40) :
  Kcq (⟨s⟩,⟨[],z,[y0,y1,y2],0,[]⟩,ctx,⟨8,(g:Int),ty,ks⟩,[Kge a,Kge b,Kge d],[us',Kge u,Kge v]) =
   some (if y1.fty=y2.fty then (if (u.all fun x=>le s n x g)=true∧(v.all fun x=>le s n x g)=true then Kiw y1.fty (Kgr s n (Kgs s n g a) (Kgt s n b d)) [y0,y1,y2] else (9,⟨[],z,[y0,y1,y2],0,[]⟩)) else (3,⟨[],z,[y0,y1,y2],0,[]⟩)):=by
 have e:=Khf hs g hg u hu (by omega)
 have e':=Khf hs g hg v hv (by omega)
 have e2:=Khd hs g hg a ha (by omega)
 have hj:=Khb hs b d hb hd (by omega) (by omega)
 have hlj:(Kgt s n b d).length=a.length:=by unfold Kgt; rw [List.length_zipWith]; omega
 have hls:(Kgs s n g a).length=a.length:=by unfold Kgs; rw [List.length_map]
 have h:=Kh9 hs (Kgs s n g a) (Kgt s n b d) (Kgy hs hg ha) (Kgz hs hb hd) (by omega) (by omega)
 have he:=Kg6 y1.fty y2.fty (by omega)
 unfold Kcq Kcp Kiw Kca
 by_cases hq:y1.fty=y2.fty
 ·rw [show (y1.fty == y2.fty)=true from beq_iff_eq.2 hq] at he
  rw [if_pos hq]
  cases hu':(u.all fun x=>le s n x g) with
  | false =>
   rw [hu'] at e
   simp [Kix,Kiy,Kiz,he,e]
  | true =>
   rw [hu'] at e
   cases hv':(v.all fun x=>le s n x g) with
   | false =>
    rw [hv'] at e'
    simp [Kix,Kiy,Kiz,he,e,e']
   | true =>
    rw [hv'] at e'
    simp [Kix,Kiy,Kiz,he,e,e',e2,hj,h,show ¬ (40 < (y1.fty.length:Int)) by omega,show ¬ (40 < y1.fty.length) by omega]
 ·rw [show (y1.fty == y2.fty)=false from beq_eq_false_iff_ne.2 hq] at he
  rw [if_neg hq]
  simp [Kix,Kiy,Kiz,he]
end
def Kjd (t:Kaw) (i:Nat) (kids:List Kbl):List (List Int):=(Kc1 (t,(i:Int),(match kids with | []=>[] | y :: _=>y.fty))).getD []
structure Kje (s:K00) (ctx:List (List Int)) (t:Kaw) (kids:List Kbl) (i:Nat) (k:Kaw) (y:Kbl):Prop where
 im:Kcr (⟨s⟩,Kjd t i kids ++ ctx,k)=some y
 fa:y.ffault=0
 ty:∀ q ∈ Kjd t i kids,TyS s q
 ln:(Kjd t i kids).length=Keo t.fOp i
structure Kjf (s:K00) (n:Nat) (ctx:List (List Int)) (t:Kaw) (x:Kbk) (y:Kbl):Prop where
 sp:Kbx (s,ctx,t)=some x
 im:Kcr (⟨s⟩,ctx,t)=some y
 ty:y.fty=x.fty
 ne:y.fneeds=x.fneeds
 fa:y.ffault=x.ffault
 pa:y.fpath=x.fpath
 pl:x.fpath.length + 1 ≤ tsz t
 bd:x.ffault ≠ 0→x.fty=[]∧x.fneeds=[]
 gd:x.ffault=0→TyS s x.fty∧x.fpath=[]∧∃ ns:List Nat,x.fneeds=Kge ns∧ns.length=ctx.length∧Kgu n ns
 kd:x.ffault=0→y.fkids.length=t.fKids.length∧∀ (i:Nat) (k:Kaw),t.fKids[i]?=some k→∃ yk,y.fkids[i]?=some yk∧Kje s ctx t y.fkids i k yk
section
variable {s:K00} {n:Nat} {ctx:List (List Int)} {t:Kaw}
theorem Kjf.bad {f:Int} {p:List Int} (sp:Kbx (s,ctx,t)=some ⟨[],[],f,p⟩) (im:Kcr (⟨s⟩,ctx,t)=some ⟨[],[],[],f,p⟩) (hf:f ≠ 0) (hp:p.length + 1 ≤ tsz t):∃ x y,Kjf s n ctx t x y :=
 ⟨_,_,{ sp:=sp,im:=im,ty:=rfl,ne:=rfl,fa:=rfl,pa:=rfl,pl:=hp,bd:=fun _=>⟨rfl,rfl⟩,gd:=fun h=>absurd h hf,kd:=fun h=>absurd h hf }⟩
theorem Kjf.good {q:List Int} {ns:List Nat} {kids:List Kbl} (sp:Kbx (s,ctx,t)=some ⟨q,Kge ns,0,[]⟩) (im:Kcr (⟨s⟩,ctx,t)=some ⟨q,Kge ns,kids,0,[]⟩) (hp:1 ≤ tsz t) (hq:TyS s q) (hl:ns.length=ctx.length) (hb:Kgu n ns)
  (kl:kids.length=t.fKids.length) (kd:∀ (i:Nat) (k:Kaw),t.fKids[i]?=some k→∃ yk,kids[i]?=some yk∧Kje s ctx t kids i k yk):∃ x y,Kjf s n ctx t x y :=
 ⟨_,_,{ sp:=sp,im:=im,ty:=rfl,ne:=rfl,fa:=rfl,pa:=rfl,pl:=by simpa using hp,bd:=fun h=>absurd rfl h,gd:=fun _=>⟨hq,rfl,ns,rfl,hl,hb⟩,kd:=fun _=>⟨kl,kd⟩ }⟩
theorem Kjf.done {q:List Int} {ns:List Nat} {kids:List Kbl} (sp:Kbx (s,ctx,t)=Kbu (q,Kge ns)) (im:Kcr (⟨s⟩,ctx,t)=some (if (Kiw q ns kids).1=0 then ⟨(Kiw q ns kids).2.fty,(Kiw q ns kids).2.fneeds,(Kiw q ns kids).2.fkids,0,(Kiw q ns kids).2.fpath⟩ else ⟨[],[],[],(Kiw q ns kids).1,[]⟩)) (hp:1 ≤ tsz t)
  (hq:q.length ≤ 40→TyS s q) (hl:ns.length=ctx.length) (hb:Kgu n ns) (kl:kids.length=t.fKids.length) (kd:∀ (i:Nat) (k:Kaw),t.fKids[i]?=some k→∃ yk,kids[i]?=some yk∧Kje s ctx t kids i k yk):∃ x y,Kjf s n ctx t x y:=by
 unfold Kbu Kbp at sp
 simp only at sp
 unfold Kiw at im
 by_cases h:q.length > 40
 ·rw [decide_eq_true (by omega),if_pos rfl,bs] at sp
  rw [if_pos h,if_neg (by simp)] at im
  exact Kjf.bad sp im (by decide) (by simpa using hp)
 ·rw [decide_eq_false (by omega),if_neg (by decide)] at sp
  rw [if_neg h,if_pos rfl] at im
  exact Kjf.good sp im hp (hq (by omega)) hl hb kl kd
theorem Kjg {i:Nat} {k:Kaw} {x:Kbk} {y:Kbl} {c:List (List Int)} (hk:t.fKids[i]?=some k) (h:Kjf s n c k x y) (hf:x.ffault=0):Kbz (s,c,t,(i:Int))=some x:=by
 obtain ⟨h1,h2⟩:=List.getElem?_eq_some_iff.1 hk
 rw [Kbz.eq_def]
 simp only
 rw [Kcu h1,h2,bs,h.sp,bs,if_neg (by simp [hf]),bs]
theorem Kjh {i:Nat} {k:Kaw} {x:Kbk} {y:Kbl} {c:List (List Int)} (hk:t.fKids[i]?=some k) (h:Kjf s n c k x y) (hz:tsz k ≤ 1000000) (hf:x.ffault ≠ 0):Kbz (s,c,t,(i:Int))=some ⟨[],[],x.ffault,(i:Int) :: x.fpath⟩:=by
 obtain ⟨h1,h2⟩:=List.getElem?_eq_some_iff.1 hk
 have hp:=h.pl
 obtain ⟨q1,q2⟩:=h.bd hf
 rw [Kbz.eq_def]
 simp only
 rw [Kcu h1,h2,bs,h.sp,bs,if_pos (bne_iff_ne.2 hf),Key (by simp; omega),bs,bs,q1,q2]
 rfl
variable {out:List Kbl} {nd us:List (List Int)} {w:Nat} {k:Kaw} {m:List (List Int)} {x:Kbk} {y:Kbl}
theorem Kji (hk:t.fKids[w]?=some k) (hm:Kia t out w=some m) (r:Kjf s n (m ++ ctx) k x y) (hz:tsz k ≤ 1000000) (hc:ctx.length + m.length ≤ 1000000) (hf:x.ffault ≠ 0) :
  Kcs (⟨s⟩,ctx,t,out,nd,us,(w:Int))=some (.inr ⟨[],[],[],x.ffault,(w:Int) :: x.fpath⟩):=by
 obtain ⟨h1,h2⟩:=List.getElem?_eq_some_iff.1 hk
 have hp:=r.pl
 rw [Kic h1 (by rw [Kcu h1,h2]) hm hc r.im,Kih (by rw [r.fa]; exact hf) (by rw [r.pa]; omega),r.fa,r.pa]
theorem Kjj {f:Int} (hk:t.fKids[w]?=some k) (hm:Kia t out w=some m) (r:Kjf s n (m ++ ctx) k x y) (hc:ctx.length + m.length ≤ 1000000) (hf:x.ffault=0) (h:Kc6 (⟨s⟩,t,(w:Int),x.fty)=some f) (hf0:f ≠ 0) :
  Kcs (⟨s⟩,ctx,t,out,nd,us,(w:Int))=some (.inr ⟨[],[],[],f,[]⟩):=by
 obtain ⟨h1,h2⟩:=List.getElem?_eq_some_iff.1 hk
 rw [Kic h1 (by rw [Kcu h1,h2]) hm hc r.im,Kii (by rw [r.fa]; exact hf) (by rw [r.ty]; exact h) hf0]
theorem Kjk (hk:t.fKids[w]?=some k) (hm:Kia t out w=some m) (r:Kjf s n (m ++ ctx) k x y) (hc:ctx.length + m.length ≤ 1000000) (hf:x.ffault=0) (h:Kc6 (⟨s⟩,t,(w:Int),x.fty)=some 0) (ha:Kig t out w y=some true) :
  Kcs (⟨s⟩,ctx,t,out,nd,us,(w:Int))=some (.inr ⟨[],[],[],3,[]⟩):=by
 obtain ⟨h1,h2⟩:=List.getElem?_eq_some_iff.1 hk
 rw [Kic h1 (by rw [Kcu h1,h2]) hm hc r.im,Kij (by rw [r.fa]; exact hf) (by rw [r.ty]; exact h) ha]
theorem Kjl {ns:List Nat} (hk:t.fKids[w]?=some k) (hm:Kia t out w=some m) (r:Kjf s n (m ++ ctx) k x y) (hc:ctx.length + m.length ≤ 1000000) (hf:x.ffault=0) (h:Kc6 (⟨s⟩,t,(w:Int),x.fty)=some 0) (ha:Kig t out w y=some false)
  (hn:x.fneeds=Kge ns) (hl:m.length ≤ ns.length) (h1':out.length ≤ 1000000) (h2':nd.length ≤ 1000000) (h3':us.length ≤ 1000000) (h4':w ≤ 1000000) :
  Kcs (⟨s⟩,ctx,t,out,nd,us,(w:Int))=Kcs (⟨s⟩,ctx,t,(out ++ [y]),(nd ++ [Kge (ns.drop m.length)]),(us ++ [Kge (ns.take m.length)]),((w + 1:Nat):Int)):=by
 obtain ⟨h1,h2⟩:=List.getElem?_eq_some_iff.1 hk
 rw [Kic h1 (by rw [Kcu h1,h2]) hm hc r.im,Kik (by rw [r.fa]; exact hf) (by rw [r.ty]; exact h) ha (by rw [r.ne]; exact hn) hl h1' h2' h3' h4']
end
theorem Kjm {op N:Int} {ty:List Int} {ks:List Kaw} {i:Nat} {q:List Int} (h9:op ≠ 9) (h:Keo op (i:Int)=0):Kc1 (⟨op,N,ty,ks⟩,(i:Int),q)=some []:=by
 unfold Kc1
 simp only
 rw [if_neg (by simpa using h9),Keq,bs,h]
 rfl
theorem Kjn {N:Int} {ty:List Int} {ks:List Kaw} {i:Nat} {q:List Int}:Kc1 (⟨9,N,ty,ks⟩,(i:Int),q)=some [ty]:=by
 unfold Kc1
 simp only
 rw [if_pos (by decide)]
theorem Kjo {s:K00} {N:Int} {ty:List Int} {ks:List Kaw} {p q:List Int} (h:Khv s 1 p q):Kc1 (⟨5,N,ty,ks⟩,((1:Nat):Int),1 :: (p ++ q))=some [q,p]:=by
 unfold Kc1
 simp only
 rw [if_neg (by decide),Keq,bs,show Keo 5 ((1:Nat):Int)=2 from rfl,if_neg (by decide),h.pp,bs,if_pos (by decide)]
 rfl
theorem Kjp {s:K00} {N:Int} {ty:List Int} {ks:List Kaw} {p q:List Int} (h:Khv s 2 p q):Kc1 (⟨8,N,ty,ks⟩,((1:Nat):Int),2 :: (p ++ q))=some [p]:=by
 unfold Kc1
 simp only
 rw [if_neg (by decide),Keq,bs,show Keo 8 ((1:Nat):Int)=1 from rfl,if_neg (by decide),h.pp,bs,if_neg (by decide),if_pos (by decide)]
 rfl
theorem Kjq {s:K00} {N:Int} {ty:List Int} {ks:List Kaw} {p q:List Int} (h:Khv s 2 p q):Kc1 (⟨8,N,ty,ks⟩,((2:Nat):Int),2 :: (p ++ q))=some [q]:=by
 unfold Kc1
 simp only
 rw [if_neg (by decide),Keq,bs,show Keo 8 ((2:Nat):Int)=1 from rfl,if_neg (by decide),h.pp,bs,if_neg (by decide),if_pos (by decide)]
 rfl
theorem Kjr {s:K00} {N c:Int} {ty:List Int} {ks:List Kaw} {p:List Int} (h:Khw s c p):Kc1 (⟨12,N,ty,ks⟩,((1:Nat):Int),c :: p)=some [p]:=by
 unfold Kc1
 simp only
 rw [if_neg (by decide),Keq,bs,show Keo 12 ((1:Nat):Int)=1 from rfl,if_neg (by decide),h.pp,bs,if_neg (by decide),if_neg (by decide)]
theorem Kjs {op N:Int} {ty:List Int} {ks:List Kaw} (h9:op ≠ 9):Kia ⟨op,N,ty,ks⟩ [] 0=some []:=by
 unfold Kia
 simp [h9]
theorem Kjt {N:Int} {ty:List Int} {ks:List Kaw}:Kia ⟨9,N,ty,ks⟩ [] 0=some [ty]:=by
 unfold Kia
 have:=@Kjn N ty ks 0 []
 simp at this ⊢
 rw [this]
theorem Kju {t:Kaw} {w:Nat} {y0:Kbl} {l:List Kbl} {m:List (List Int)} (hw:0 < w) (h:Kc1 (t,(w:Int),y0.fty)=some m):Kia t (y0 :: l) w=some m:=by
 unfold Kia
 rw [show decide ((w:Int) > 0)=true from decide_eq_true (by omega),if_pos rfl,bs,if_pos rfl,if_pos rfl,Kix,bs,bs,h,bs]
theorem Kjv {t:Kaw} {i:Nat} {y0:Kbl} {l:List Kbl} {m:List (List Int)} (h:Kc1 (t,(i:Int),y0.fty)=some m):Kjd t i (y0 :: l)=m:=by
 unfold Kjd
 simp only
 rw [h]; rfl
theorem kd1 {s:K00} {ctx:List (List Int)} {op N:Int} {ty:List Int} {k0:Kaw} {y0:Kbl} (h0:Kje s ctx ⟨op,N,ty,[k0]⟩ [y0] 0 k0 y0) :
  ∀ (i:Nat) (k:Kaw),(⟨op,N,ty,[k0]⟩:Kaw).fKids[i]?=some k→∃ yk,[y0][i]?=some yk∧Kje s ctx ⟨op,N,ty,[k0]⟩ [y0] i k yk:=by
 intro i k hk
 match i,hk with
 | 0,hk=>cases hk; exact ⟨y0,rfl,h0⟩
 | i + 1,hk=>simp at hk
theorem kd2 {s:K00} {ctx:List (List Int)} {op N:Int} {ty:List Int} {k0 k1:Kaw} {y0 y1:Kbl} (h0:Kje s ctx ⟨op,N,ty,[k0,k1]⟩ [y0,y1] 0 k0 y0) (h1:Kje s ctx ⟨op,N,ty,[k0,k1]⟩ [y0,y1] 1 k1 y1) :
  ∀ (i:Nat) (k:Kaw),(⟨op,N,ty,[k0,k1]⟩:Kaw).fKids[i]?=some k→∃ yk,[y0,y1][i]?=some yk∧Kje s ctx ⟨op,N,ty,[k0,k1]⟩ [y0,y1] i k yk:=by
 intro i k hk
 match i,hk with
 | 0,hk=>cases hk; exact ⟨y0,rfl,h0⟩
 | 1,hk=>cases hk; exact ⟨y1,rfl,h1⟩
 | i + 2,hk=>simp at hk
theorem kd3 {s:K00} {ctx:List (List Int)} {op N:Int} {ty:List Int} {k0 k1 k2:Kaw} {y0 y1 y2:Kbl} (h0:Kje s ctx ⟨op,N,ty,[k0,k1,k2]⟩ [y0,y1,y2] 0 k0 y0) (h1:Kje s ctx ⟨op,N,ty,[k0,k1,k2]⟩ [y0,y1,y2] 1 k1 y1) (h2:Kje s ctx ⟨op,N,ty,[k0,k1,k2]⟩ [y0,y1,y2] 2 k2 y2) :
  ∀ (i:Nat) (k:Kaw),(⟨op,N,ty,[k0,k1,k2]⟩:Kaw).fKids[i]?=some k→∃ yk,[y0,y1,y2][i]?=some yk∧Kje s ctx ⟨op,N,ty,[k0,k1,k2]⟩ [y0,y1,y2] i k yk:=by
 intro i k hk
 match i,hk with
 | 0,hk=>cases hk; exact ⟨y0,rfl,h0⟩
 | 1,hk=>cases hk; exact ⟨y1,rfl,h1⟩
 | 2,hk=>cases hk; exact ⟨y2,rfl,h2⟩
 | i + 3,hk=>simp at hk
theorem Kje.mk' {s:K00} {n:Nat} {ctx m:List (List Int)} {t k:Kaw} {y0:Kbl} {l:List Kbl} {i:Nat} {x:Kbk} {y:Kbl} (ha:Kc1 (t,(i:Int),y0.fty)=some m) (r:Kjf s n (m ++ ctx) k x y) (hf:x.ffault=0) (hm:∀ q ∈ m,TyS s q) (hl:m.length=Keo t.fOp i):Kje s ctx t (y0 :: l) i k y:=by
 have e:=Kjv (l:=l) ha
 exact ⟨by rw [e]; exact r.im,by rw [r.fa]; exact hf,by rw [e]; exact hm,by rw [e]; exact hl⟩
end Go.Am
