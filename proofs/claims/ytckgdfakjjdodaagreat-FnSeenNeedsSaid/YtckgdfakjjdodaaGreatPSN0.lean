/- Plain laws of the printed functions. -/
import Derived.Test.YtckgdfakjjdodaaGreatPSNx
set_option linter.unusedSimpArgs false
set_option linter.unusedVariables false
namespace Go.Am
theorem Ksp {x:Int} (h1:-9223372036854775808 ≤ x) (h2:x ≤ 9223372036854775807):wr x=x:=by
 unfold wr IntKind.wrap
 simp [IntKind.bits,IntKind.signed]
 omega
theorem Ksq {α:Type} {l:List α} {n:Nat} (h:n < l.length):idx l (n:Int)=some l[n]:=by
 unfold idx
 rw [if_pos (by omega)]
 simp [h]
theorem bs {α β:Type} (a:α) (f:α→Option β):(some a >>= f)=f a:=rfl
theorem Ksr {n:Nat} (h:n < 9223372036854775807):wr ((n:Int) + 1)=((n + 1:Nat):Int):=by
 rw [Ksp (by omega) (by omega)]; omega
theorem Kss {n m:Nat} (h:n < m):decide ((n:Int) < (m:Int))=true:=decide_eq_true (by omega)
theorem Kst {n m:Nat} (h:m ≤ n):decide ((n:Int) < (m:Int))=false:=decide_eq_false (by omega)
theorem Ksu {a:Int}:(a != a)=false:=by simp
structure Tab (s:K00) (n:Nat):Prop where
 size:s.fSize=(n:Int)
 lo:2 ≤ n
 hi:n ≤ 16
 lp:s.fPlus.length=n * n
 lt:s.fTimes.length=n * n
 lb:s.fBelow.length=n * n
 rp:∀ i (h:i < s.fPlus.length),0 ≤ s.fPlus[i]∧s.fPlus[i] < (n:Int)
 rt:∀ i (h:i < s.fTimes.length),0 ≤ s.fTimes[i]∧s.fTimes[i] < (n:Int)
def pl (s:K00) (n a b:Nat):Nat:=(s.fPlus.getD (a * n + b) 0).toNat
def ti (s:K00) (n a b:Nat):Nat:=(s.fTimes.getD (a * n + b) 0).toNat
def le (s:K00) (n a b:Nat):Bool:=s.fBelow.getD (a * n + b) false
theorem Ksv {n a b:Nat} (ha:a < n) (hb:b < n):a * n + b < n * n:=by
 have:(a + 1) * n ≤ n * n:=Nat.mul_le_mul_right _ (by omega)
 rw [Nat.add_mul,Nat.one_mul] at this
 omega
theorem Ksw {n a b:Nat} (hn:n ≤ 16) (ha:a < n) (hb:b < n):wr ((wr ((a:Int) * (n:Int))) + (b:Int))=((a * n + b:Nat):Int):=by
 have h1:a * n ≤ 256:=Nat.le_trans (Nat.mul_le_mul (by omega:a ≤ 16) hn) (by decide)
 have e:(a:Int) * (n:Int)=((a * n:Nat):Int):=by simp
 rw [e]
 generalize a * n=m at h1
 rw [Ksp (x:=(m:Int)) (by omega) (by omega),Ksp (by omega) (by omega)]
 omega
section
variable {s:K00} {n:Nat} (h:Tab s n)
include h
theorem Ksx {a b:Nat} (ha:a < n) (hb:b < n):pl s n a b < n:=by
 have hl:a * n + b < s.fPlus.length:=by rw [h.lp]; exact Ksv ha hb
 unfold pl
 rw [List.getD_eq_getElem?_getD,List.getElem?_eq_getElem hl]
 have:=h.rp _ hl
 simp only [Option.getD_some]
 omega
theorem Ksy {a b:Nat} (ha:a < n) (hb:b < n):ti s n a b < n:=by
 have hl:a * n + b < s.fTimes.length:=by rw [h.lt]; exact Ksv ha hb
 unfold ti
 rw [List.getD_eq_getElem?_getD,List.getElem?_eq_getElem hl]
 have:=h.rt _ hl
 simp only [Option.getD_some]
 omega
theorem Ksz {a b:Nat} (ha:a < n) (hb:b < n):idx s.fPlus ((a * n + b:Nat):Int)=some ((pl s n a b:Nat):Int):=by
 have hl:a * n + b < s.fPlus.length:=by rw [h.lp]; exact Ksv ha hb
 rw [Ksq hl]
 unfold pl
 rw [List.getD_eq_getElem?_getD,List.getElem?_eq_getElem hl]
 have:=h.rp _ hl
 simp only [Option.getD_some]
 congr 1
 omega
theorem Kt0 {a b:Nat} (ha:a < n) (hb:b < n):idx s.fTimes ((a * n + b:Nat):Int)=some ((ti s n a b:Nat):Int):=by
 have hl:a * n + b < s.fTimes.length:=by rw [h.lt]; exact Ksv ha hb
 rw [Ksq hl]
 unfold ti
 rw [List.getD_eq_getElem?_getD,List.getElem?_eq_getElem hl]
 have:=h.rt _ hl
 simp only [Option.getD_some]
 congr 1
 omega
theorem Kt1 {a b:Nat} (ha:a < n) (hb:b < n):idx s.fBelow ((a * n + b:Nat):Int)=some (le s n a b):=by
 have hl:a * n + b < s.fBelow.length:=by rw [h.lb]; exact Ksv ha hb
 rw [Ksq hl]
 unfold le
 rw [List.getD_eq_getElem?_getD,List.getElem?_eq_getElem hl]
 rfl
theorem Kt2 {a b:Nat} (ha:a < n) (hb:b < n):Kbo (s,(a:Int),(b:Int))=some ((pl s n a b:Nat):Int):=by
 unfold Kbo
 simp only
 rw [h.size,Ksw h.hi ha hb,Ksz h ha hb,bs]
theorem Kt3 {a b:Nat} (ha:a < n) (hb:b < n):Kbr (s,(a:Int),(b:Int))=some ((ti s n a b:Nat):Int):=by
 unfold Kbr
 simp only
 rw [h.size,Ksw h.hi ha hb,Kt0 h ha hb,bs]
theorem sLe {a b:Nat} (ha:a < n) (hb:b < n):Kbu (s,(a:Int),(b:Int))=some (le s n a b):=by
 unfold Kbu
 simp only
 rw [h.size,Ksw h.hi ha hb,Kt1 h ha hb,bs]
theorem Kt4 {a b:Nat} (ha:a < n) (hb:b < n):Kkc (s,(a:Int),(b:Int))=some ((pl s n a b:Nat):Int):=by
 unfold Kkc
 simp only
 rw [h.size,Ksw h.hi ha hb,Ksz h ha hb,bs]
theorem Kt5 {a b:Nat} (ha:a < n) (hb:b < n):Kkf (s,(a:Int),(b:Int))=some ((ti s n a b:Nat):Int):=by
 unfold Kkf
 simp only
 rw [h.size,Ksw h.hi ha hb,Kt0 h ha hb,bs]
theorem iLe {a b:Nat} (ha:a < n) (hb:b < n):Kki (s,(a:Int),(b:Int))=some (le s n a b):=by
 unfold Kki
 simp only
 rw [h.size,Ksw h.hi ha hb,Kt1 h ha hb,bs]
end
theorem Kt6 (x y:Nat):(((x:Nat):Int) == ((y:Nat):Int))=(x == y):=by
 cases hb:(x == y) with
 | true=>have:=eq_of_beq hb; subst this; simp
 | false=>simp at hb ⊢; omega
theorem Kt7 (x y:Nat):(((x:Nat):Int) != ((y:Nat):Int))=(x != y):=by
 simp only [bne,Kt6]
def Kt8 (s:K00) (n a:Nat):Bool:=(pl s n 0 a == a) && (ti s n 1 a == a) && (ti s n a 1 == a) && (ti s n 0 a == 0) && (ti s n a 0 == 0) && le s n a a
def Kt9 (s:K00) (n a b c:Nat):Bool :=
 (pl s n (pl s n a b) c == pl s n a (pl s n b c)) && (ti s n (ti s n a b) c == ti s n a (ti s n b c)) &&
 (ti s n a (pl s n b c) == pl s n (ti s n a b) (ti s n a c)) && (ti s n (pl s n a b) c == pl s n (ti s n a c) (ti s n b c)) &&
 (!(le s n a b) || ((!(le s n b c) || le s n a c) && le s n (pl s n a c) (pl s n b c) && le s n (ti s n a c) (ti s n b c) && le s n (ti s n c a) (ti s n c b)))
section
variable {s:K00} {n:Nat} (h:Tab s n)
include h
theorem Kta {a:Nat} (ha:a < n):Kbx (s,(a:Int))=some (Kt8 s n a):=by
 have l0:(0:Nat) < n:=by have:=h.lo; omega
 have l1:(1:Nat) < n:=by have:=h.lo; omega
 have e0:(0:Int)=((0:Nat):Int):=rfl
 have e1:(1:Int)=((1:Nat):Int):=rfl
 unfold Kbx Kt8
 simp only
 rw [e0,e1]
 simp only [Kt2 h l0 ha,Kt3 h l1 ha,Kt3 h ha l1,Kt3 h l0 ha,Kt3 h ha l0,sLe h ha ha,bs,Kt6]
 generalize (pl s n 0 a == a)=b1
 generalize (ti s n 1 a == a)=b2
 generalize (ti s n a 1 == a)=b3
 generalize (ti s n 0 a == 0)=b4
 generalize (ti s n a 0 == 0)=b5
 generalize le s n a a=b6
 cases b1 <;> cases b2 <;> cases b3 <;> cases b4 <;> cases b5 <;> cases b6 <;> rfl
theorem Ktb {a b c:Nat} (ha:a < n) (hb:b < n) (hc:c < n):Kce (s,(a:Int),(b:Int),(c:Int))=some (Kt9 s n a b c):=by
 unfold Kce Kt9
 simp only
 simp only [Kt2 h,Kt3 h,sLe h,Ksx h,Ksy h,ha,hb,hc,bs,Kt7]
 generalize e1:pl s n (pl s n a b) c=x1
 generalize e2:pl s n a (pl s n b c)=x2
 generalize e3:ti s n (ti s n a b) c=x3
 generalize e4:ti s n a (ti s n b c)=x4
 generalize ti s n a (pl s n b c)=x5
 generalize pl s n (ti s n a b) (ti s n a c)=x6
 generalize ti s n (pl s n a b) c=x7
 generalize pl s n (ti s n a c) (ti s n b c)=x8
 generalize le s n (pl s n a c) (pl s n b c)=y1
 generalize le s n (ti s n a c) (ti s n b c)=y2
 generalize le s n (ti s n c a) (ti s n c b)=y3
 generalize le s n a b=y4
 generalize le s n b c=y5
 generalize le s n a c=y6
 simp only [bne]
 generalize (x1 == x2)=b1
 generalize (x3 == x4)=b2
 generalize (x5 == x6)=b3
 generalize (x7 == x8)=b4
 cases b1 <;> cases b2 <;> cases b3 <;> cases b4 <;> first | rfl | (cases y4 <;> cases y5 <;> cases y6 <;> cases y1 <;> cases y2 <;> cases y3 <;> rfl)
theorem Ktc {a b c:Nat} (ha:a < n) (hb:b < n) (hc:c < n):Kl1 (s,(a:Int),(b:Int),(c:Int))=some (Kt9 s n a b c):=by
 unfold Kl1 Kt9
 simp only
 simp only [Kt4 h,Kt5 h,iLe h,Ksx h,Ksy h,ha,hb,hc,bs,Kt7]
 generalize e1:pl s n (pl s n a b) c=x1
 generalize e2:pl s n a (pl s n b c)=x2
 generalize e3:ti s n (ti s n a b) c=x3
 generalize e4:ti s n a (ti s n b c)=x4
 generalize ti s n a (pl s n b c)=x5
 generalize pl s n (ti s n a b) (ti s n a c)=x6
 generalize ti s n (pl s n a b) c=x7
 generalize pl s n (ti s n a c) (ti s n b c)=x8
 generalize le s n (pl s n a c) (pl s n b c)=y1
 generalize le s n (ti s n a c) (ti s n b c)=y2
 generalize le s n (ti s n c a) (ti s n c b)=y3
 generalize le s n a b=y4
 generalize le s n b c=y5
 generalize le s n a c=y6
 simp only [bne]
 generalize (x1 == x2)=b1
 generalize (x3 == x4)=b2
 generalize (x5 == x6)=b3
 generalize (x7 == x8)=b4
 cases b1 <;> cases b2 <;> cases b3 <;> cases b4 <;> first | rfl | (cases y4 <;> cases y5 <;> cases y6 <;> cases y1 <;> cases y2 <;> cases y3 <;> rfl)
end
def Ktd (s:K00) (n a b g h:Nat):Bool:=!le s n a h || !le s n b h || le s n g h
def jok (s:K00) (n a b g:Nat):Bool:=le s n a g && le s n b g && (List.range' 0 n).all (Ktd s n a b g)
def Kte (s:K00) (n a b:Nat):Int:=match (List.range' 0 n).find? (jok s n a b) with | some g=>(g:Int) | none=>-1
section
variable {s:K00} {n:Nat} (h:Tab s n)
include h
theorem Ktf {a b g:Nat} (ha:a < n) (hb:b < n) (hg:g < n):∀ (k m:Nat) (ok:Bool),m + k=n→Kc1 (s,(a:Int),(b:Int),(g:Int),ok,(m:Int))=some (ok && (List.range' m k).all (Ktd s n a b g)):=by
 have hhi:=h.hi
 intro k
 induction k with
 | zero =>
  intro m ok hm
  rw [Kc1.eq_def]
  simp only
  rw [h.size,Kst (by omega)]
  simp [bs]
 | succ k ih =>
  intro m ok hm
  rw [Kc1.eq_def]
  simp only
  rw [h.size,Kss (by omega),if_pos rfl,bs,sLe h ha (by omega),sLe h hb (by omega),sLe h hg (by omega)]
  cases ok with
  | false=>rfl
  | true =>
   rw [if_pos rfl]
   rw [List.range'_succ,List.all_cons]
   have ih:∀ ok,_:=fun ok=>ih (m + 1) ok (by omega)
   rw [Ksr (by omega)]
   generalize ((m + 1:Nat):Int)=M at ih ⊢
   simp only [bs,Ktd]
   cases le s n a m <;> cases le s n b m <;> cases le s n g m <;> simp [bs,ih,Ktd]
theorem Ktg {a b g:Nat} (ha:a < n) (hb:b < n) (hg:g < n):∀ (k m:Nat) (ok:Bool),m + k=n→Kkq (s,(a:Int),(b:Int),(g:Int),ok,(m:Int))=some (ok && (List.range' m k).all (Ktd s n a b g)):=by
 have hhi:=h.hi
 intro k
 induction k with
 | zero =>
  intro m ok hm
  rw [Kkq.eq_def]
  simp only
  rw [h.size,Kst (by omega)]
  simp [bs]
 | succ k ih =>
  intro m ok hm
  rw [Kkq.eq_def]
  simp only
  rw [h.size,Kss (by omega),if_pos rfl,iLe h ha (by omega),iLe h hb (by omega),iLe h hg (by omega)]
  rw [List.range'_succ,List.all_cons]
  have ih:∀ ok,_:=fun ok=>ih (m + 1) ok (by omega)
  rw [Ksr (by omega)]
  generalize ((m + 1:Nat):Int)=M at ih ⊢
  simp only [bs,Ktd]
  cases ok <;> cases le s n a m <;> cases le s n b m <;> cases le s n g m <;> simp [bs,ih,Ktd]
theorem Kth {a b:Nat} (ha:a < n) (hb:b < n):∀ (k g:Nat),g + k=n→Kc5 (s,(a:Int),(b:Int),(g:Int))=some (match (List.range' g k).find? (jok s n a b) with | some g=>.inr (g:Int) | none=>.inl ()):=by
 have hhi:=h.hi
 intro k
 induction k with
 | zero =>
  intro g hm
  rw [Kc5.eq_def]
  simp only
  rw [h.size,Kst (by omega)]
  rfl
 | succ k ih =>
  intro g hm
  rw [Kc5.eq_def]
  simp only
  rw [h.size,Kss (by omega),if_pos rfl,sLe h ha (by omega),sLe h hb (by omega)]
  have ih:=ih (g + 1) (by omega)
  rw [Ksr (by omega),List.range'_succ,List.find?_cons]
  have hl:=fun ok=>Ktf h ha hb (g:=g) (by omega) n 0 ok (by omega)
  rw [show ((0:Nat):Int)=0 from rfl] at hl
  generalize ((g + 1:Nat):Int)=M at ih ⊢
  have hj:jok s n a b g=(le s n a g && le s n b g && (List.range' 0 n).all (Ktd s n a b g)):=rfl
  rw [hj]
  cases le s n a g <;> cases le s n b g <;> cases hq:(List.range' 0 n).all (Ktd s n a b g) <;> simp [bs,hl,hq,ih]
theorem Kti {a b:Nat} (ha:a < n) (hb:b < n):∀ (k g:Nat),g + k=n→Kkv (s,(a:Int),(b:Int),(g:Int))=some (match (List.range' g k).find? (jok s n a b) with | some g=>.inr (g:Int) | none=>.inl ()):=by
 have hhi:=h.hi
 intro k
 induction k with
 | zero =>
  intro g hm
  rw [Kkv.eq_def]
  simp only
  rw [h.size,Kst (by omega)]
  rfl
 | succ k ih =>
  intro g hm
  rw [Kkv.eq_def]
  simp only
  rw [h.size,Kss (by omega),if_pos rfl,iLe h ha (by omega),iLe h hb (by omega)]
  have ih:=ih (g + 1) (by omega)
  rw [Ksr (by omega),List.range'_succ,List.find?_cons]
  have hl:=fun ok=>Ktg h ha hb (g:=g) (by omega) n 0 ok (by omega)
  rw [show ((0:Nat):Int)=0 from rfl] at hl
  generalize ((g + 1:Nat):Int)=M at ih ⊢
  have hj:jok s n a b g=(le s n a g && le s n b g && (List.range' 0 n).all (Ktd s n a b g)):=rfl
  rw [hj]
  cases le s n a g <;> cases le s n b g <;> cases hq:(List.range' 0 n).all (Ktd s n a b g) <;> simp [bs,hl,hq,ih]
theorem Ktj {a b:Nat} (ha:a < n) (hb:b < n):Kc8 (s,(a:Int),(b:Int))=some (Kte s n a b):=by
 unfold Kc8 Kte
 simp only
 have:=Kth h ha hb n 0 (by omega)
 rw [show ((0:Nat):Int)=0 from rfl] at this
 rw [this,bs]
 cases (List.range' 0 n).find? (jok s n a b) <;> rfl
theorem Ktk {a b:Nat} (ha:a < n) (hb:b < n):Kky (s,(a:Int),(b:Int))=some (Kte s n a b):=by
 unfold Kky Kte
 simp only
 have:=Kti h ha hb n 0 (by omega)
 rw [show ((0:Nat):Int)=0 from rfl] at this
 rw [this,bs]
 cases (List.range' 0 n).find? (jok s n a b) <;> rfl
def Ktl (s:K00) (n a b:Nat):Bool:=(pl s n a b == pl s n b a) && ((a == b) || !le s n a b || !le s n b a) && decide (Kte s n a b ≥ 0)
omit h in
theorem Ktm (x:Int):decide (x < 0)=!decide (x ≥ 0):=by
 by_cases h:x < 0
 ·rw [decide_eq_true h,decide_eq_false (by omega)]; rfl
 ·rw [decide_eq_false h,decide_eq_true (by omega)]; rfl
theorem Ktn {a b:Nat} (ha:a < n) (hb:b < n):Kcb (s,(a:Int),(b:Int))=some (Ktl s n a b):=by
 unfold Kcb Ktl
 simp only
 rw [Kt2 h ha hb,Kt2 h hb ha,sLe h ha hb,sLe h hb ha,Ktj h ha hb]
 simp only [bs,Kt6]
 generalize (pl s n a b == pl s n b a)=b1
 generalize (a == b)=b2
 cases b1 <;> cases b2 <;> cases le s n a b <;> cases le s n b a <;> simp [bs]
end
def inB (x lo hi:Int):Bool:=decide (x ≥ lo) && decide (x ≤ hi)
theorem sIn (x lo hi:Int):Kaf (x,lo,hi)=some (inB x lo hi):=by
 unfold Kaf inB
 simp only
 cases decide (x ≥ lo) <;> simp [bs]
theorem iIn (x lo hi:Int):Kk6 (x,lo,hi)=some (inB x lo hi):=by
 unfold Kk6 inB
 simp only
 cases decide (x ≥ lo) <;> simp [bs]
def Kto (s:K00) (n:Nat):Bool:=(List.range' 0 n).all fun a=>Kt8 s n a && (List.range' 0 n).all fun b=>Ktl s n a b && (List.range' 0 n).all fun c=>Kt9 s n a b c
section
variable {s:K00} {n:Nat} (h:Tab s n)
include h
theorem Ktp {a b:Nat} (ha:a < n) (hb:b < n):∀ (k c:Nat),c + k=n→Kci (s,(a:Int),(b:Int),(c:Int))=some (if (List.range' c k).all (fun c=>Kt9 s n a b c) then .inl () else .inr false):=by
 have hhi:=h.hi
 intro k
 induction k with
 | zero =>
  intro c hm
  rw [Kci.eq_def]
  simp only
  rw [h.size,Kst (by omega)]
  rfl
 | succ k ih =>
  intro c hm
  rw [Kci.eq_def]
  simp only
  rw [h.size,Kss (by omega),if_pos rfl,Ktb h ha hb (by omega),bs]
  have ih:=ih (c + 1) (by omega)
  rw [Ksr (by omega),List.range'_succ,List.all_cons]
  generalize ((c + 1:Nat):Int)=M at ih ⊢
  generalize (List.range' (c + 1) k).all (fun c=>Kt9 s n a b c)=r at ih ⊢
  cases Kt9 s n a b c <;> cases r <;> simp [ih]
theorem Ktq {a b:Nat} (ha:a < n) (hb:b < n):∀ (k c:Nat),c + k=n→Kl9 (s,(a:Int),(b:Int),(c:Int))=some (if (List.range' c k).all (fun c=>Kt9 s n a b c) then .inl () else .inr false):=by
 have hhi:=h.hi
 intro k
 induction k with
 | zero =>
  intro c hm
  rw [Kl9.eq_def]
  simp only
  rw [h.size,Kst (by omega)]
  rfl
 | succ k ih =>
  intro c hm
  rw [Kl9.eq_def]
  simp only
  rw [h.size,Kss (by omega),if_pos rfl,Ktc h ha hb (by omega),bs]
  have ih:=ih (c + 1) (by omega)
  rw [Ksr (by omega),List.range'_succ,List.all_cons]
  generalize ((c + 1:Nat):Int)=M at ih ⊢
  generalize (List.range' (c + 1) k).all (fun c=>Kt9 s n a b c)=r at ih ⊢
  cases Kt9 s n a b c <;> cases r <;> simp [ih]
theorem Ktr {a:Nat} (ha:a < n):∀ (k b:Nat),b + k=n→Kco (s,(a:Int),(b:Int))=some (if (List.range' b k).all (fun b=>Ktl s n a b && (List.range' 0 n).all fun c=>Kt9 s n a b c) then .inl () else .inr false):=by
 have hhi:=h.hi
 intro k
 induction k with
 | zero =>
  intro c hm
  rw [Kco.eq_def]
  simp only
  rw [h.size,Kst (by omega)]
  rfl
 | succ k ih =>
  intro b hm
  rw [Kco.eq_def]
  simp only
  have hl:=Ktp h ha (b:=b) (by omega) n 0 (by omega)
  rw [show ((0:Nat):Int)=0 from rfl] at hl
  rw [h.size,Kss (by omega),if_pos rfl,Ktn h ha (by omega),bs,hl]
  have ih:=ih (b + 1) (by omega)
  rw [Ksr (by omega),List.range'_succ,List.all_cons]
  generalize ((b + 1:Nat):Int)=M at ih ⊢
  generalize (List.range' (b + 1) k).all (fun b=>Ktl s n a b && (List.range' 0 n).all fun c=>Kt9 s n a b c)=r at ih ⊢
  cases Ktl s n a b <;> cases (List.range' 0 n).all (fun c=>Kt9 s n a b c) <;> cases r <;> simp [ih,bs]
theorem Kts {a:Nat} (ha:a < n):∀ (k b:Nat),b + k=n→Kle (s,(a:Int),(b:Int))=some (if (List.range' b k).all (fun b=>Ktl s n a b && (List.range' 0 n).all fun c=>Kt9 s n a b c) then .inl () else .inr false):=by
 have hhi:=h.hi
 intro k
 induction k with
 | zero =>
  intro c hm
  rw [Kle.eq_def]
  simp only
  rw [h.size,Kst (by omega)]
  rfl
 | succ k ih =>
  intro b hm
  have hb:b < n:=by omega
  rw [Kle.eq_def]
  simp only
  have hl:=Ktq h ha (b:=b) (by omega) n 0 (by omega)
  rw [show ((0:Nat):Int)=0 from rfl] at hl
  rw [h.size,Kss (by omega),if_pos rfl,Kt4 h ha hb,Kt4 h hb ha,iLe h ha hb,iLe h hb ha,Ktk h ha hb,hl]
  have ih:=ih (b + 1) (by omega)
  rw [Ksr (by omega),List.range'_succ,List.all_cons]
  generalize ((b + 1:Nat):Int)=M at ih ⊢
  generalize (List.range' (b + 1) k).all (fun b=>Ktl s n a b && (List.range' 0 n).all fun c=>Kt9 s n a b c)=r at ih ⊢
  simp only [bs,Kt7,Ktm]
  cases h1:(pl s n a b == pl s n b a) <;> cases h2:(a == b) <;> cases h3:decide (Kte s n a b ≥ 0) <;> cases h4:le s n a b <;> cases h5:le s n b a <;> cases h6:(List.range' 0 n).all (fun c=>Kt9 s n a b c) <;> cases r <;> simp only [Ktl,bne,h1,h2,h3,h4,h5,h6,ih,bs,Bool.not_true,Bool.not_false,Bool.true_and,Bool.false_and,Bool.and_true,Bool.and_false,Bool.true_or,Bool.false_or,Bool.or_true,Bool.or_false,if_true,if_false,Bool.false_eq_true]
theorem Ktt:∀ (k a:Nat),a + k=n→Kcs (s,(a:Int))=some (if (List.range' a k).all (fun a=>Kt8 s n a && (List.range' 0 n).all fun b=>Ktl s n a b && (List.range' 0 n).all fun c=>Kt9 s n a b c) then .inl () else .inr false):=by
 have hhi:=h.hi
 intro k
 induction k with
 | zero =>
  intro c hm
  rw [Kcs.eq_def]
  simp only
  rw [h.size,Kst (by omega)]
  rfl
 | succ k ih =>
  intro a hm
  have ha:a < n:=by omega
  rw [Kcs.eq_def]
  simp only
  have hl:=Ktr h ha n 0 (by omega)
  rw [show ((0:Nat):Int)=0 from rfl] at hl
  rw [h.size,Kss (by omega),if_pos rfl,Kta h ha,bs,hl]
  have ih:=ih (a + 1) (by omega)
  rw [Ksr (by omega),List.range'_succ,List.all_cons]
  generalize ((a + 1:Nat):Int)=M at ih ⊢
  generalize (List.range' (a + 1) k).all (fun a=>Kt8 s n a && (List.range' 0 n).all fun b=>Ktl s n a b && (List.range' 0 n).all fun c=>Kt9 s n a b c)=r at ih ⊢
  cases Kt8 s n a <;> cases (List.range' 0 n).all (fun b=>Ktl s n a b && (List.range' 0 n).all fun c=>Kt9 s n a b c) <;> cases r <;> simp [ih,bs]
theorem Ktu:∀ (k a:Nat),a + k=n→Kli (s,(a:Int))=some (if (List.range' a k).all (fun a=>Kt8 s n a && (List.range' 0 n).all fun b=>Ktl s n a b && (List.range' 0 n).all fun c=>Kt9 s n a b c) then .inl () else .inr false):=by
 have hhi:=h.hi
 have l0:(0:Nat) < n:=by have:=h.lo; omega
 have l1:(1:Nat) < n:=by have:=h.lo; omega
 intro k
 induction k with
 | zero =>
  intro c hm
  rw [Kli.eq_def]
  simp only
  rw [h.size,Kst (by omega)]
  rfl
 | succ k ih =>
  intro a hm
  have ha:a < n:=by omega
  rw [Kli.eq_def]
  simp only
  have hl:=Kts h ha n 0 (by omega)
  have q1:Kkc (s,0,(a:Int))=_:=Kt4 h l0 ha
  have q2:Kkf (s,1,(a:Int))=_:=Kt5 h l1 ha
  have q3:Kkf (s,(a:Int),1)=_:=Kt5 h ha l1
  have q4:Kkf (s,0,(a:Int))=_:=Kt5 h l0 ha
  have q5:Kkf (s,(a:Int),0)=_:=Kt5 h ha l0
  have z1:(((ti s n 0 a:Nat):Int) != 0)=(ti s n 0 a != 0):=Kt7 _ 0
  have z2:(((ti s n a 0:Nat):Int) != 0)=(ti s n a 0 != 0):=Kt7 _ 0
  rw [show ((0:Nat):Int)=0 from rfl] at hl
  rw [h.size,Kss (by omega),if_pos rfl,q1,q2,q3,q4,q5,iLe h ha ha,hl]
  have ih:=ih (a + 1) (by omega)
  rw [Ksr (by omega),List.range'_succ,List.all_cons]
  generalize ((a + 1:Nat):Int)=M at ih ⊢
  generalize (List.range' (a + 1) k).all (fun a=>Kt8 s n a && (List.range' 0 n).all fun b=>Ktl s n a b && (List.range' 0 n).all fun c=>Kt9 s n a b c)=r at ih ⊢
  simp only [bs,Kt7,z1,z2]
  cases h1:(pl s n 0 a == a) <;> cases h2:(ti s n 1 a == a) <;> cases h3:(ti s n a 1 == a) <;> cases h4:(ti s n 0 a == 0) <;> cases h5:(ti s n a 0 == 0) <;> cases h6:le s n a a <;> cases h7:(List.range' 0 n).all (fun b=>Ktl s n a b && (List.range' 0 n).all fun c=>Kt9 s n a b c) <;> cases r <;> simp only [Kt8,bne,h1,h2,h3,h4,h5,h6,h7,ih,bs,Bool.not_true,Bool.not_false,Bool.true_and,Bool.false_and,Bool.and_true,Bool.and_false,if_true,if_false,Bool.false_eq_true]
end
theorem Ktv {α:Type} {l r:List α} {x:α} {i:Nat} (h:l.drop i=x :: r):i < l.length∧idx l (i:Int)=some x∧l.drop (i + 1)=r:=by
 have hi:i < l.length:=by
  rcases Nat.lt_or_ge i l.length with h' | h'
  ·exact h'
  ·rw [List.drop_eq_nil_of_le h'] at h; cases h
 have e:=List.drop_eq_getElem_cons hi
 rw [h] at e
 obtain ⟨e1,e2⟩:=List.cons.inj e
 exact ⟨hi,by rw [Ksq hi,e1],e2.symm⟩
theorem Ktw {α:Type} {l:List α} {i:Nat} (h:l.drop i=[]):l.length ≤ i:=by
 rcases Nat.lt_or_ge i l.length with h' | h'
 ·rw [List.drop_eq_getElem_cons h'] at h; cases h
 ·exact h'
def Ktx (c:Int):Bool:=inB c 3 18 || c == 35
def Kty (c:Int):Bool:=inB c 19 34 || c == 36
def Ktz (c:Int):Int:=if c == 0 then 0 else if c == 1 || c == 2 || Ktx c then 2 else if Kty c then 1 else -1
theorem Ku0 (c:Int):Kef c=some (Ktx c):=by
 unfold Kef Ktx
 simp only [sIn,bs]
 cases inB c 3 18 <;> rfl
theorem Ku1 (c:Int):Kei c=some (Kty c):=by
 unfold Kei Kty
 simp only [sIn,bs]
 cases inB c 19 34 <;> rfl
theorem Ku2 (c:Int):Kel c=some (Ktz c):=by
 unfold Kel Ktz
 simp only [Ku0,Ku1,bs]
 cases c == 0 <;> cases c == 1 <;> cases c == 2 <;> cases Ktx c <;> cases Kty c <;> rfl
theorem Ku3 (c:Int):(c=0∧Ktz c=0)∨((c=1∨c=2∨(3 ≤ c∧c ≤ 18)∨c=35)∧Ktz c=2)∨(((19 ≤ c∧c ≤ 34)∨c=36)∧Ktz c=1)∨((c < 0∨36 < c)∧Ktz c=-1):=by
 unfold Ktz Ktx Kty inB
 by_cases h0:c=0
 ·left; subst h0; exact ⟨rfl,rfl⟩
 ·right
  have e0:(c == 0)=false:=by simpa using h0
  by_cases h1:c=1∨c=2∨(3 ≤ c∧c ≤ 18)∨c=35
  ·left
   refine ⟨h1,?_⟩
   have:(c == 1 || c == 2 || (decide (c ≥ 3) && decide (c ≤ 18) || c == 35))=true:=by
    simp only [Bool.or_eq_true,Bool.and_eq_true,beq_iff_eq,decide_eq_true_eq]; omega
   rw [e0,this]; rfl
  ·right
   have q:(c == 1 || c == 2 || (decide (c ≥ 3) && decide (c ≤ 18) || c == 35))=false:=by
    rw [Bool.eq_false_iff]; intro h
    simp only [Bool.or_eq_true,Bool.and_eq_true,beq_iff_eq,decide_eq_true_eq] at h; omega
   rw [e0,q]
   by_cases h2:(19 ≤ c∧c ≤ 34)∨c=36
   ·left
    refine ⟨h2,?_⟩
    have:(decide (c ≥ 19) && decide (c ≤ 34) || c == 36)=true:=by
     simp only [Bool.or_eq_true,Bool.and_eq_true,beq_iff_eq,decide_eq_true_eq]; omega
    rw [this]; rfl
   ·right
    refine ⟨by omega,?_⟩
    have:(decide (c ≥ 19) && decide (c ≤ 34) || c == 36)=false:=by
     rw [Bool.eq_false_iff]; intro h
     simp only [Bool.or_eq_true,Bool.and_eq_true,beq_iff_eq,decide_eq_true_eq] at h; omega
    rw [this]; rfl
def Ku4 (c:Int):Int × Int :=
 if inB c 0 2 then (c,-1) else if inB c 3 18 then (3,c - 3) else if inB c 19 34 then (4,c - 19) else if c == 35 then (3,-1) else if c == 36 then (4,-1) else (5,-1)
theorem Ku5 (c:Int):Klo c=some (Ku4 c):=by
 unfold Klo Ku4
 simp only [iIn,bs]
 cases h1:inB c 0 2
 ·cases h2:inB c 3 18
  ·cases h3:inB c 19 34
   ·cases c == 35 <;> cases c == 36 <;> rfl
   ·simp only [inB,Bool.and_eq_true,decide_eq_true_eq] at h3
    simp only [Bool.false_eq_true,if_false,if_true]
    rw [Ksp (by omega) (by omega)]
  ·simp only [inB,Bool.and_eq_true,decide_eq_true_eq] at h2
   simp only [Bool.false_eq_true,if_false,if_true]
   rw [Ksp (by omega) (by omega)]
 ·rfl
theorem Ku6 (c:Int):(c=0∧Ku4 c=(0,-1))∨(c=1∧Ku4 c=(1,-1))∨(c=2∧Ku4 c=(2,-1))∨((3 ≤ c∧c ≤ 18)∧Ku4 c=(3,c - 3))∨(c=35∧Ku4 c=(3,-1)) ∨
  ((19 ≤ c∧c ≤ 34)∧Ku4 c=(4,c - 19))∨(c=36∧Ku4 c=(4,-1))∨((c < 0∨36 < c)∧Ku4 c=(5,-1)):=by
 have inT:∀ lo hi,lo ≤ c→c ≤ hi→inB c lo hi=true:=fun lo hi h1 h2=>by simp only [inB,Bool.and_eq_true,decide_eq_true_eq]; omega
 have inF:∀ lo hi,(c < lo∨hi < c)→inB c lo hi=false:=fun lo hi h=>by rw [Bool.eq_false_iff]; intro h'; simp only [inB,Bool.and_eq_true,decide_eq_true_eq] at h'; omega
 unfold Ku4
 by_cases h0:0 ≤ c∧c ≤ 2
 ·rw [inT 0 2 h0.1 h0.2]
  have:c=0∨c=1∨c=2:=by omega
  rcases this with rfl | rfl | rfl <;> simp
 ·rw [inF 0 2 (by omega)]
  by_cases h1:3 ≤ c∧c ≤ 18
  ·rw [inT 3 18 h1.1 h1.2]
   exact .inr (.inr (.inr (.inl ⟨h1,rfl⟩)))
  ·rw [inF 3 18 (by omega)]
   by_cases h2:19 ≤ c∧c ≤ 34
   ·rw [inT 19 34 h2.1 h2.2]
    exact .inr (.inr (.inr (.inr (.inr (.inl ⟨h2,rfl⟩)))))
   ·rw [inF 19 34 (by omega)]
    by_cases h3:c=35
    ·subst h3; simp
    ·by_cases h4:c=36
     ·subst h4; simp
     ·have e3:(c == 35)=false:=by simpa using h3
      have e4:(c == 36)=false:=by simpa using h4
      rw [e3,e4]
      refine .inr (.inr (.inr (.inr (.inr (.inr (.inr ⟨by omega,rfl⟩))))))
def skip:Nat→List Int→Option (List Int)
 | 0,l=>some l
 | _ + 1,[]=>none
 | m + 1,c :: l=>if Ktz c=-1 then none else skip (m + (Ktz c).toNat) l
theorem Ku7 (l:List Int):skip 0 l=some l:=by cases l <;> rfl
theorem Ku8 (m:Nat):skip (m + 1) []=none:=rfl
theorem Ku9 (m:Nat) (c:Int) (l:List Int):skip (m + 1) (c :: l)=if Ktz c=-1 then none else skip (m + (Ktz c).toNat) l:=rfl
theorem Kua (l:List Int):∀ (m k:Nat),skip (m + k) l=(skip m l).bind (skip k):=by
 induction l with
 | nil =>
  intro m k
  cases m with
  | zero=>rw [Nat.zero_add,Ku7]; rfl
  | succ m=>rw [show m + 1 + k=(m + k) + 1 by omega,Ku8,Ku8]; rfl
 | cons c l ih =>
  intro m k
  cases m with
  | zero=>rw [Nat.zero_add,Ku7]; rfl
  | succ m =>
   rw [show m + 1 + k=(m + k) + 1 by omega,Ku9,Ku9]
   by_cases h:Ktz c=-1
   ·rw [if_pos h,if_pos h]; rfl
   ·rw [if_neg h,if_neg h,← ih]; congr 1; omega
theorem Kub (l:List Int):∀ (m:Nat) (r:List Int),skip m l=some r→∃ p,l=p ++ r∧m ≤ p.length:=by
 induction l with
 | nil =>
  intro m r h
  cases m with
  | zero=>rw [Ku7] at h; cases h; exact ⟨[],rfl,Nat.le_refl _⟩
  | succ m=>rw [Ku8] at h; cases h
 | cons c l ih =>
  intro m r h
  cases m with
  | zero=>rw [Ku7] at h; cases h; exact ⟨[],rfl,Nat.le_refl _⟩
  | succ m =>
   rw [Ku9] at h
   by_cases hk:Ktz c=-1
   ·rw [if_pos hk] at h; cases h
   ·rw [if_neg hk] at h
    obtain ⟨p,e,hp⟩:=ih _ _ h
    exact ⟨c :: p,by rw [e]; rfl,by simp; omega⟩
def Kuc (ty:List Int) (m i:Nat):Int:=match skip m (ty.drop i) with | some r=>((ty.length - r.length:Nat):Int) | none=>-1
theorem Kud (ty:List Int) (hty:ty.length ≤ 1099511627776):∀ (l:List Int) (i m:Nat),ty.drop i=l→m ≤ 1099511627776 + 2 * i→∃ x,Kep (ty,((m + 1:Nat):Int),(i:Int))=some x∧(match x with | .inl ()=>-1 | .inr r=>r)=Kuc ty (m + 1) i:=by
 intro l
 induction l with
 | nil =>
  intro i m hl hm
  rw [Kep.eq_def]
  simp only
  rw [Kst (Ktw hl)]
  exact ⟨.inl (),rfl,by unfold Kuc; rw [hl,Ku8]⟩
 | cons c l ih =>
  intro i m hl hm
  obtain ⟨hi,hx,hd⟩:=Ktv hl
  have hi2:(i:Int) < 1099511627776:=by omega
  rw [Kep.eq_def]
  simp only
  rw [Kss hi,if_pos rfl,hx,bs,Ku2,bs]
  have he:Kuc ty (m + 1) i=(match (if Ktz c=-1 then none else skip (m + (Ktz c).toNat) l) with | some r=>((ty.length - r.length:Nat):Int) | none=>-1):=by
   unfold Kuc; rw [hl,Ku9]
  rw [he]
  by_cases hk:Ktz c=-1
  ·rw [if_pos hk,hk]
   exact ⟨.inr (-1),rfl,rfl⟩
  ·rw [if_neg hk]
   have hk0:0 ≤ Ktz c∧Ktz c ≤ 2:=by rcases Ku3 c with h | h | h | h <;> omega
   obtain ⟨k,hkk⟩:∃ k:Nat,Ktz c=(k:Int):=⟨(Ktz c).toNat,by omega⟩
   rw [decide_eq_false (by omega),if_neg (by decide),hkk,Int.toNat_natCast]
   rw [Ksp (x:=((m + 1:Nat):Int) - 1) (by omega) (by omega),show ((m + 1:Nat):Int) - 1=(m:Int) by omega,Ksp (x:=(m:Int) + (k:Int)) (by omega) (by omega),Ksr (by omega)]
   by_cases h0:m + k=0
   ·rw [show ((m:Int) + (k:Int) == 0)=true by simp; omega,if_pos rfl,h0,Ku7]
    refine ⟨_,rfl,?_⟩
    have:l.length=ty.length - (i + 1):=by rw [← hd,List.length_drop]
    simp only
    omega
   ·rw [show ((m:Int) + (k:Int) == 0)=false by simp; omega,if_neg (by decide)]
    obtain ⟨q,hq⟩:∃ q,m + k=q + 1:=⟨m + k - 1,by omega⟩
    have:=ih (i + 1) q hd (by omega)
    rw [show (m:Int) + (k:Int)=((q + 1:Nat):Int) by omega]
    obtain ⟨x,h1,h2⟩:=this
    exact ⟨x,h1,by rw [h2,hq]; unfold Kuc; rw [hd]⟩
theorem Kue (ty:List Int) (hty:ty.length ≤ 1099511627776) (i:Nat) (hi:i ≤ ty.length):Kes (ty,(i:Int))=some (Kuc ty 1 i):=by
 unfold Kes
 obtain ⟨x,h1,h2⟩:=Kud ty hty _ i 0 rfl (by omega)
 simp only
 rw [show (1:Int)=((0 + 1:Nat):Int) from rfl,h1,bs]
 rw [← h2]
 cases x <;> rfl
theorem Kuf (ty:List Int) (i:Nat) (hi:i ≤ ty.length):Kuc ty 2 i=(if Kuc ty 1 i=-1 then -1 else Kuc ty 1 (Kuc ty 1 i).toNat):=by
 unfold Kuc
 rw [show 2=1 + 1 from rfl,Kua]
 cases h:skip 1 (ty.drop i) with
 | none=>simp
 | some r =>
  obtain ⟨p,hp,hl⟩:=Kub _ _ _ h
  have hlen:ty.length - i=p.length + r.length:=by rw [← List.length_drop,hp,List.length_append]
  have:ty.drop (ty.length - r.length)=r:=by
   have e:ty.drop (ty.length - r.length)=(ty.drop i).drop p.length:=by rw [List.drop_drop]; congr 1; omega
   rw [e,hp,List.drop_left]
  simp only [Option.bind_some]
  rw [if_neg (by omega),Int.toNat_natCast,this]
theorem Kug (ty:List Int) (hty:ty.length ≤ 1099511627776):∀ (d i:Nat),ty.length - i=d→Klr (ty,(i:Int))=some (Kuc ty 1 i):=by
 intro d
 induction d using Nat.strongRecOn with
 | ind d ih =>
  intro i hd
  rw [Klr.eq_def]
  simp only
  rw [decide_eq_false (by omega:¬ (i:Int) < 0)]
  simp only [Bool.false_eq_true,if_false,bs]
  by_cases hi:i < ty.length
  ·rw [decide_eq_false (by omega),if_neg (by decide),Ksq hi,bs,Ku5,bs]
   have hdr:=List.drop_eq_getElem_cons hi
   have he:∀ k:Nat,Ktz ty[i]=(k:Int)→Kuc ty 1 i=Kuc ty k (i + 1):=fun k hk=>by
    unfold Kuc
    rw [hdr,show 1=0 + 1 from rfl,Ku9,hk,if_neg (by omega),Int.toNat_natCast,Nat.zero_add]
   have hn:Ktz ty[i]=-1→Kuc ty 1 i=-1:=fun hk=>by
    unfold Kuc
    rw [hdr,show 1=0 + 1 from rfl,Ku9,if_pos hk]
   have i1:=ih (ty.length - (i + 1)) (by omega) (i + 1) rfl
   have hz:∀ i:Nat,i ≤ ty.length→Kuc ty 0 i=(i:Int):=fun i hi=>by unfold Kuc; rw [Ku7]; simp only [List.length_drop]; omega
   rw [Ksr (by omega)]
   have two:Ktz ty[i]=2→((Klr (ty,((i + 1:Nat):Int))) >>= fun r_11_4=>(Klr (ty,r_11_4)) >>= fun r_11_5=>some r_11_5)=some (Kuc ty 1 i):=fun hk=>by
    rw [i1,bs,he 2 hk,Kuf ty (i + 1) (by omega)]
    by_cases h1:Kuc ty 1 (i + 1)=-1
    ·rw [h1,if_pos rfl,Klr.eq_def]; rfl
    ·rw [if_neg h1]
     obtain ⟨e,hee,hlo⟩:∃ e:Nat,Kuc ty 1 (i + 1)=(e:Int)∧i + 1 < e:=by
      unfold Kuc at h1 ⊢
      cases hs:skip 1 (ty.drop (i + 1)) with
      | none=>rw [hs] at h1; exact absurd rfl h1
      | some r =>
       obtain ⟨p,hp,hl⟩:=Kub _ _ _ hs
       have hlen:ty.length - (i + 1)=p.length + r.length:=by rw [← List.length_drop,hp,List.length_append]
       exact ⟨_,rfl,by omega⟩
     rw [hee,Int.toNat_natCast,ih (ty.length - e) (by omega) e rfl,bs]
   rcases Ku6 ty[i] with ⟨h,e⟩ | ⟨h,e⟩ | ⟨h,e⟩ | ⟨h,e⟩ | ⟨h,e⟩ | ⟨h,e⟩ | ⟨h,e⟩ | ⟨h,e⟩ <;> rw [e] <;> simp only []
   ·have hk:Ktz ty[i]=0:=by rcases Ku3 ty[i] with h | h | h | h <;> omega
    rw [if_pos (by rfl),he 0 hk,hz _ (by omega)]
   ·have hk:Ktz ty[i]=2:=by rcases Ku3 ty[i] with h | h | h | h <;> omega
    exact two hk
   ·have hk:Ktz ty[i]=2:=by rcases Ku3 ty[i] with h | h | h | h <;> omega
    exact two hk
   ·have hk:Ktz ty[i]=2:=by rcases Ku3 ty[i] with h | h | h | h <;> omega
    exact two hk
   ·have hk:Ktz ty[i]=2:=by rcases Ku3 ty[i] with h | h | h | h <;> omega
    exact two hk
   ·have hk:Ktz ty[i]=1:=by rcases Ku3 ty[i] with h | h | h | h <;> omega
    rw [he 1 hk,if_neg (by decide),if_pos (by rfl),i1,bs]
   ·have hk:Ktz ty[i]=1:=by rcases Ku3 ty[i] with h | h | h | h <;> omega
    rw [he 1 hk,if_neg (by decide),if_pos (by rfl),i1,bs]
   ·have hk:Ktz ty[i]=-1:=by rcases Ku3 ty[i] with h | h | h | h <;> omega
    rw [hn hk]; rfl
  ·rw [decide_eq_true (by omega),if_pos rfl]
   unfold Kuc
   rw [List.drop_eq_nil_of_le (by omega),Ku8]
def wtB (ty:List Int):Bool:=decide (ty.length ≤ 40) && (skip 1 ty == some [])
theorem Kuh (ty:List Int):(Kuc ty 1 0 == (ty.length:Int))=(skip 1 ty == some []):=by
 unfold Kuc
 rw [List.drop_zero]
 cases h:skip 1 ty with
 | none=>simp
 | some r =>
  obtain ⟨p,hp,hl⟩:=Kub _ _ _ h
  have hlen:ty.length=p.length + r.length:=by rw [hp,List.length_append]
  cases r with
  | nil=>simp
  | cons x xs =>
   simp only [List.length_cons] at hlen ⊢
   simp
   omega
theorem Kui (ty:List Int) (hty:ty.length ≤ 1099511627776):Kse ty=some (wtB ty):=by
 unfold Kse wtB
 by_cases h:ty.length ≤ 40
 ·rw [decide_eq_true (by omega:(ty.length:Int) ≤ 40),if_pos rfl,show (0:Int)=((0:Nat):Int) from rfl,Kue ty hty 0 (by omega),bs,Kuh,decide_eq_true h]
  cases hs:skip 1 ty == some [] with
  | false=>rfl
  | true =>
   have:0 < ty.length:=by
    rcases ty with _ | ⟨c,l⟩
    ·rw [show skip 1 []=none from rfl] at hs; cases hs
    ·simp
   rw [if_pos rfl,decide_eq_true (by omega:(ty.length:Int) > ((0:Nat):Int))]; rfl
 ·rw [decide_eq_false (by omega:¬ (ty.length:Int) ≤ 40),decide_eq_false h]; rfl
theorem Kuj (ty:List Int) (hty:ty.length ≤ 1099511627776):Klu ty=some (wtB ty):=by
 unfold Klu wtB
 rw [iIn,bs]
 by_cases h:ty.length ≤ 40
 ·rw [decide_eq_true h]
  by_cases h1:1 ≤ ty.length
  ·have:inB (ty.length:Int) 1 40=true:=by simp only [inB,Bool.and_eq_true,decide_eq_true_eq]; omega
   rw [this,if_pos rfl,show (0:Int)=((0:Nat):Int) from rfl,Kug ty hty _ 0 rfl,bs,Kuh]; rfl
  ·have:inB (ty.length:Int) 1 40=false:=by rw [Bool.eq_false_iff]; intro h'; simp only [inB,Bool.and_eq_true,decide_eq_true_eq] at h'; omega
   have e:ty=[]:=List.length_eq_zero_iff.1 (by omega)
   rw [this,e]; rfl
 ·have:inB (ty.length:Int) 1 40=false:=by rw [Bool.eq_false_iff]; intro h'; simp only [inB,Bool.and_eq_true,decide_eq_true_eq] at h'; omega
  rw [this,decide_eq_false h]; rfl
def Kuk (c:Int):Int:=if 35 ≤ c then -1 else if 19 ≤ c then c - 19 else c - 3
def Kul (size:Int) (closed:Bool) (c:Int):Bool:=!(decide (Ktz c > 0) && decide (c > 2) && (decide (Kuk c ≥ size) || closed && decide (Kuk c < 0)))
theorem Kum {c:Int} (h:Ktz c > 0):Kf1 c=some (Kuk c):=by
 have:0 ≤ c∧c ≤ 36:=by rcases Ku3 c with h | h | h | h <;> omega
 unfold Kf1 Kuk
 by_cases h1:35 ≤ c
 ·rw [decide_eq_true (by omega:c ≥ 35),if_pos rfl,if_pos h1]
 ·rw [decide_eq_false (by omega:¬ c ≥ 35),if_neg (by decide),if_neg h1]
  by_cases h2:19 ≤ c
  ·rw [decide_eq_true (by omega:c ≥ 19),if_pos rfl,if_pos h2,Ksp (by omega) (by omega)]
  ·rw [decide_eq_false (by omega:¬ c ≥ 19),if_neg (by decide),if_neg h2,Ksp (by omega) (by omega)]
theorem Kun (ty:List Int) (hty:ty.length ≤ 1099511627776) (size:Int) (cl:Bool):∀ (l:List Int) (i:Nat),ty.drop i=l→Ksf (ty,size,cl,(i:Int))=some (if l.all (Kul size cl) then .inl () else .inr false):=by
 intro l
 induction l with
 | nil =>
  intro i hl
  rw [Ksf.eq_def]
  simp only
  rw [Kst (Ktw hl)]; rfl
 | cons c l ih =>
  intro i hl
  obtain ⟨hi,hx,hd⟩:=Ktv hl
  rw [Ksf.eq_def]
  simp only
  rw [Kss hi,if_pos rfl,hx,bs,bs,Ku2,bs,Ksr (by omega)]
  have ih:=ih (i + 1) hd
  generalize ((i + 1:Nat):Int)=M at ih ⊢
  rw [List.all_cons]
  unfold Kul at ih ⊢
  by_cases hk:Ktz c > 0
  ·simp only [bs,Kum hk]
   rw [decide_eq_true hk]
   generalize Kuk c=g at ih ⊢
   cases decide (c > 2) <;> cases decide (g ≥ size) <;> cases cl <;> cases decide (g < 0) <;> simp [bs,ih]
  ·rw [decide_eq_false hk]; simp [bs,ih]
theorem Kuo (ty:List Int) (hty:ty.length ≤ 1099511627776) (size:Int) (cl:Bool):Ksg (ty,size,cl)=some (ty.all (Kul size cl)):=by
 unfold Ksg
 simp only
 rw [show (0:Int)=((0:Nat):Int) from rfl,Kun ty hty size cl _ 0 rfl,List.drop_zero,bs]
 cases ty.all (Kul size cl) <;> rfl
theorem Kup {α β:Type} {a:Option α} {f:α→Option β} {x:α} (h:a=some x):(a >>= f)=f x:=by rw [h]; rfl
mutual
def tsz:K01→Nat
 | ⟨_,_,_,ks⟩=>1 + Kuq ks
def Kuq:List K01→Nat
 | []=>0
 | k :: ks=>tsz k + Kuq ks
end
mutual
def tms:K01→Nat
 | ⟨_,_,ty,ks⟩=>ty.length + ks.length + Kur ks
def Kur:List K01→Nat
 | []=>0
 | k :: ks=>tms k + Kur ks
end
theorem Kus (t:K01):tms t=t.fType.length + t.fKids.length + Kur t.fKids:=by cases t; rw [tms]
theorem Kut (t:K01):tsz t=1 + Kuq t.fKids:=by cases t; rw [tsz]
def Kuu (left n:Nat):Int:=if n ≤ left then ((left - n:Nat):Int) else -1
theorem Kuv {left n:Nat} (h:n ≤ left):Kuu left n=((left - n:Nat):Int):=if_pos h
theorem Kuw {left n:Nat} (h:¬ n ≤ left):Kuu left n=-1:=if_neg h
theorem Kux (t:K01) (i:Int):Khp (t,-1,i)=some (-1):=by
 rw [Khp.eq_def]
 simp only
 cases decide (i < (t.fKids.length:Int)) <;> rfl
mutual
theorem Kuy:∀ (t:K01) (left:Nat),tms t ≤ 1099511627776→left ≤ 1048576→Kho (t,(left:Int))=some (Kuu left (tsz t))
 | ⟨op,N,ty,ks⟩,left,ht,hl=>by
  rw [tms] at ht
  rw [Kho.eq_def,tsz]
  simp only
  rcases left with _ | l
  ·rw [show wr (((0:Nat):Int) - 1)=-1 from Ksp (by omega) (by omega),Kux,bs,Kuw (by omega)]
  ·have h:=Kuz ks ⟨op,N,ty,ks⟩ 0 l rfl (by simp only; omega) (by omega) (by omega)
   rw [Ksp (by omega) (by omega),show ((l + 1:Nat):Int) - 1=(l:Int) by omega,show (0:Int)=((0:Nat):Int) from rfl,h,bs]
   unfold Kuu
   by_cases q:Kuq ks ≤ l
   ·rw [if_pos q,if_pos (by omega),show l + 1 - (1 + Kuq ks)=l - Kuq ks by omega]
   ·rw [if_neg q,if_neg (by omega)]
theorem Kuz:∀ (ks:List K01) (t:K01) (i left:Nat),t.fKids.drop i=ks→t.fKids.length ≤ 1099511627776→Kur ks ≤ 1099511627776→left ≤ 1048576→Khp (t,(left:Int),(i:Int))=some (Kuu left (Kuq ks))
 | [],t,i,left,hd,hk,ht,hl=>by
  rw [Khp.eq_def,Kuq]
  simp only
  rw [Kst (Ktw hd)]
  simp [bs,Kuu]
 | k :: ks,t,i,left,hd,hk,ht,hl=>by
  obtain ⟨hi,hx,hd'⟩:=Ktv hd
  rw [Kur] at ht
  rw [Khp.eq_def,Kuq]
  simp only
  rw [Kss hi,if_pos rfl,bs,decide_eq_true (by omega:((left:Nat):Int) ≥ 0),if_pos rfl,hx,bs,Kuy k left (by omega) hl,bs,Ksr (by omega)]
  by_cases q:tsz k ≤ left
  ·rw [Kuv q,Kuz ks t (i + 1) (left - tsz k) hd' hk (by omega) (by omega)]
   unfold Kuu
   by_cases q2:Kuq ks ≤ left - tsz k
   ·rw [if_pos q2,if_pos (by omega)]; congr 2; omega
   ·rw [if_neg q2,if_neg (by omega)]
  ·rw [Kuw q,Kux,Kuw (by omega)]
end
def Kv0 (op:Int):Int:=if inB op 0 12 then ([0,0,2,3,2,2,1,1,3,1,2,1,2]:List Int).getD op.toNat 0 else -1
def Kv1 (op:Int):Bool:=op == 5 || op == 8 || op == 9 || op == 11 || op == 12
def Kv2 (op:Int):Bool:=op == 6 || op == 7 || op == 9
def Kv3 (op:Int):ByteArray:=([ByteArray.mk #[120],ByteArray.empty,ByteArray.mk #[97,100,100],ByteArray.mk #[105,102],ByteArray.mk #[112,97,105,114],ByteArray.mk #[115,112,108,105,116],ByteArray.mk #[108,101,102,116],
 ByteArray.mk #[114,105,103,104,116],ByteArray.mk #[99,97,115,101],ByteArray.mk #[102,117,110],ByteArray.mk #[97,112,112],ByteArray.mk #[98,111,120],ByteArray.mk #[111,112,101,110]]:List ByteArray).getD op.toNat ByteArray.empty
theorem Kv4 {op:Int} (h:inB op 0 12=true):op=0∨op=1∨op=2∨op=3∨op=4∨op=5∨op=6∨op=7∨op=8∨op=9∨op=10∨op=11∨op=12:=by
 simp only [inB,Bool.and_eq_true,decide_eq_true_eq] at h
 omega
theorem Kv5 (op:Int):Ksb op=some (Kv0 op):=by
 unfold Ksb Kv0
 rw [sIn,bs]
 cases h:inB op 0 12
 ·rfl
 ·rcases Kv4 h with rfl | rfl | rfl | rfl | rfl | rfl | rfl | rfl | rfl | rfl | rfl | rfl | rfl <;> rfl
theorem Kv6 (op:Int):Ksc op=some (Kv1 op):=by
 unfold Ksc Kv1
 cases op == 5 <;> cases op == 8 <;> cases op == 9 <;> cases op == 11 <;> rfl
theorem Kv7 (op:Int):Ksd op=some (Kv2 op):=by
 unfold Ksd Kv2
 cases op == 6 <;> cases op == 7 <;> rfl
def Kv8 (op:Int):K05 × Bool:=if inB op 0 12 then (K05.mk (Kv3 op) (Kv0 op) (Kv1 op) (Kv2 op),true) else (K05.mk ByteArray.empty 0 false false,false)
theorem Kv9 (op:Int):Kmk op=some (Kv8 op):=by
 unfold Kmk Kv8
 rw [iIn,bs]
 cases h:inB op 0 12
 ·rfl
 ·rcases Kv4 h with rfl | rfl | rfl | rfl | rfl | rfl | rfl | rfl | rfl | rfl | rfl | rfl | rfl <;> rfl
def Kva (op kid:Int):Nat:=if op == 5 && kid == 1 then 2 else if (op == 8 && decide (kid > 0)) || op == 9 || (op == 12 && kid == 1) then 1 else 0
theorem Kvb (op kid:Int):Kva op kid ≤ 2:=by unfold Kva; split <;> (try split) <;> omega
theorem Kvc (op kid:Int):Kgn (op,kid)=some ((Kva op kid:Nat):Int):=by
 unfold Kgn Kva
 simp only
 generalize (op == 5)=b1
 generalize (op == 8)=b2
 generalize (op == 9)=b3
 generalize (op == 12)=b4
 generalize (kid == 1)=b5
 generalize decide (kid > 0)=b6
 cases b1 <;> cases b2 <;> cases b3 <;> cases b4 <;> cases b5 <;> cases b6 <;> rfl
theorem Kvd (op kid:Int):Kmq (op,kid)=some ((Kva op kid:Nat):Int):=by
 unfold Kmq Kva
 simp only
 generalize (op == 5)=b1
 generalize (op == 8)=b2
 generalize (op == 9)=b3
 generalize (op == 12)=b4
 generalize (kid == 1)=b5
 generalize decide (kid > 0)=b6
 cases b1 <;> cases b2 <;> cases b3 <;> cases b4 <;> cases b5 <;> cases b6 <;> rfl
def Kve (g:Int→Bool) (n:Int) (t:K01):Bool:=if t.fOp == 0 then inB t.fN 0 (n - 1) else if t.fOp == 1 then inB t.fN 0 2 else if Kv1 t.fOp then g t.fN else t.fN == 0
def Kvf (y:List Int→Bool) (t:K01):Bool:=if Kv2 t.fOp then y t.fType else (t.fType.length:Int) == 0
def Kvg (g:Int→Bool) (y:List Int→Bool) (n:Int) (t:K01):Bool:=inB t.fOp 0 12 && ((t.fKids.length:Int) == Kv0 t.fOp) && Kve g n t && Kvf y t
mutual
def tOk (g:Int→Bool) (y:List Int→Bool):Nat→K01→Bool
 | n,⟨op,N,ty,ks⟩=>Kvg g y (n:Int) ⟨op,N,ty,ks⟩ && Kvh g y op n 0 ks
def Kvh (g:Int→Bool) (y:List Int→Bool):Int→Nat→Nat→List K01→Bool
 | _,_,_,[]=>true
 | op,n,i,k :: ks=>tOk g y (n + Kva op (i:Int)) k && Kvh g y op n (i + 1) ks
end
theorem Kvi (g:Int→Bool) (y:List Int→Bool) (n:Nat) (t:K01):tOk g y n t=(Kvg g y (n:Int) t && Kvh g y t.fOp n 0 t.fKids):=by cases t; rw [tOk]
def gN (size:Int) (cl:Bool) (x:Int):Bool:=!(decide (x ≥ size) || decide (x < -1) || cl && decide (x < 0))
def yN (size:Int) (cl:Bool) (ty:List Int):Bool:=wtB ty && ty.all (Kul size cl)
theorem Kvj (t:K01) (n:Nat) (size:Int) (cl:Bool) (hty:t.fType.length ≤ 1099511627776) (hn:n ≤ 35184372088832):Ksh (t,(n:Int),size,cl)=some (Kvg (gN size cl) (yN size cl) (n:Int) t):=by
 unfold Ksh Kvg
 simp only
 rw [Kv5,bs]
 by_cases hk:(t.fKids.length:Int)=Kv0 t.fOp
 ·have hop:inB t.fOp 0 12=true:=by
   cases h:inB t.fOp 0 12
   ·unfold Kv0 at hk; rw [h] at hk; simp at hk
   ·rfl
  rw [show ((t.fKids.length:Int) != Kv0 t.fOp)=false by rw [hk]; exact Ksu,if_neg (by decide),show ((t.fKids.length:Int) == Kv0 t.fOp)=true by rw [hk]; simp,hop]
  refine (Kup (x:=if Kve (gN size cl) (n:Int) t then .inl () else .inr false) ?_).trans ?_
  ·unfold Kve gN
   rw [sIn,Ksp (by omega) (by omega),sIn,Kv6]
   simp only [bs]
   generalize inB t.fN 0 ((n:Int) - 1)=b1
   generalize inB t.fN 0 2=b2
   generalize Kv1 t.fOp=b3
   rw [show (t.fN != 0)=!(t.fN == 0) from rfl]
   generalize (t.fN == 0)=b4
   generalize decide (t.fN ≥ size)=b5
   generalize decide (t.fN < -1)=b6
   generalize decide (t.fN < 0)=b7
   generalize (t.fOp == 0)=b8
   generalize (t.fOp == 1)=b9
   cases b8
   ·cases b9
    ·cases b3
     ·cases b4 <;> rfl
     ·cases b5 <;> cases b6 <;> cases cl <;> cases b7 <;> rfl
    ·cases b2 <;> rfl
   ·cases b1 <;> rfl
  ·cases Kve (gN size cl) (n:Int) t
   ·simp
   ·unfold Kvf yN
    simp only [if_true]
    rw [Kv7,bs]
    cases Kv2 t.fOp
    ·simp
    ·simp only [if_true]
     rw [Kui _ hty,Kuo _ hty]
     cases wtB t.fType <;> simp [bs]
 ·rw [show ((t.fKids.length:Int) != Kv0 t.fOp)=true by simpa using hk,if_pos rfl,show ((t.fKids.length:Int) == Kv0 t.fOp)=false by simpa using hk]
  simp
mutual
theorem Kvk (size:Int) (cl:Bool):∀ (t:K01) (n:Nat),tms t ≤ 1099511627776→n + 2 * tms t ≤ 35184372088832→Ksi (t,(n:Int),size,cl)=some (tOk (gN size cl) (yN size cl) n t)
 | ⟨op,N,ty,ks⟩,n,ht,hn=>by
  rw [tms] at ht hn
  rw [Ksi.eq_def,tOk]
  simp only
  rw [Kvj _ n size cl (by simp only; omega) (by omega),bs]
  cases hb:Kvg (gN size cl) (yN size cl) (n:Int) ⟨op,N,ty,ks⟩
  ·rfl
  ·have h:=Kvl size cl ks ⟨op,N,ty,ks⟩ n 0 rfl (by simp only; omega) (by omega) (by omega)
   rw [if_pos rfl,show (0:Int)=((0:Nat):Int) from rfl,h,bs]
   simp only
   cases Kvh (gN size cl) (yN size cl) op n 0 ks <;> rfl
theorem Kvl (size:Int) (cl:Bool):∀ (ks:List K01) (t:K01) (n i:Nat),t.fKids.drop i=ks→t.fKids.length ≤ 1099511627776→Kur ks ≤ 1099511627776→n + 2 * (ks.length + Kur ks) ≤ 35184372088832 →
  Ksj (t,(n:Int),size,cl,(i:Int))=some (if Kvh (gN size cl) (yN size cl) t.fOp n i ks then .inl () else .inr false)
 | [],t,n,i,hd,hk,ht,hn=>by
  rw [Ksj.eq_def,Kvh]
  simp only
  rw [Kst (Ktw hd)]; rfl
 | k :: ks,t,n,i,hd,hk,ht,hn=>by
  obtain ⟨hi,hx,hd'⟩:=Ktv hd
  rw [Kur] at ht hn
  rw [List.length_cons] at hn
  have ha:=Kvb t.fOp (i:Int)
  rw [Ksj.eq_def,Kvh]
  simp only
  rw [Kss hi,if_pos rfl,hx,bs,Kvc,bs,Ksp (by omega) (by omega),show (n:Int) + ((Kva t.fOp (i:Int):Nat):Int)=((n + Kva t.fOp (i:Int):Nat):Int) by omega]
  rw [Kvk size cl k (n + Kva t.fOp (i:Int)) (by omega) (by omega),bs,Ksr (by omega)]
  cases tOk (gN size cl) (yN size cl) (n + Kva t.fOp (i:Int)) k
  ·rfl
  ·rw [if_pos rfl,Kvl size cl ks t n (i + 1) hd' hk (by omega) (by omega),Bool.true_and]
end
def Kvm (ok:Bool) (nodes sz:Nat):Int:=if ok && decide (nodes + sz ≤ 400) then ((nodes + sz:Nat):Int) else 401
mutual
def tln:K01→Prop
 | ⟨_,N,ty,ks⟩=>ty.length ≤ 9223372036854775807∧ks.length ≤ 9223372036854775807∧Kvn ks∧(-9223372036854775808 ≤ N∧N ≤ 9223372036854775807)
def Kvn:List K01→Prop
 | []=>True
 | k :: ks=>tln k∧Kvn ks
end
theorem Kvo (l:List Int):∀ (m:Nat),skip m l=some []→∀ c ∈ l,0 ≤ c∧c ≤ 36:=by
 induction l with
 | nil=>intro m h c hc; cases hc
 | cons x l ih =>
  intro m h c hc
  cases m with
  | zero=>rw [Ku7] at h; cases h
  | succ m =>
   rw [Ku9] at h
   by_cases hk:Ktz x=-1
   ·rw [if_pos hk] at h; cases h
   ·rw [if_neg hk] at h
    rcases List.mem_cons.1 hc with rfl | hc
    ·rcases Ku3 c with q | q | q | q <;> omega
    ·exact ih _ h c hc
theorem Kvp {ty:List Int} (h:wtB ty=true):∀ c ∈ ty,0 ≤ c∧c ≤ 36:=by
 unfold wtB at h
 rw [Bool.and_eq_true,beq_iff_eq] at h
 exact Kvo ty 1 h.2
theorem Kvq {ty:List Int} (h:wtB ty=true):ty.length ≤ 40:=by
 unfold wtB at h
 rw [Bool.and_eq_true,decide_eq_true_eq] at h
 exact h.1
theorem Kvr {g:Int→Bool} {y:List Int→Bool} {n:Nat} {t:K01} (h:tOk g y n t=true):Kvg g y (n:Int) t=true∧Kvh g y t.fOp n 0 t.fKids=true:=by
 rw [Kvi,Bool.and_eq_true] at h; exact h
theorem Kvs {g:Int→Bool} {n:Int} {t:K01} (h:Kvg g wtB n t=true):(∀ c ∈ t.fType,0 ≤ c∧c ≤ 36)∧t.fType.length ≤ 40:=by
 unfold Kvg Kvf at h
 rw [Bool.and_eq_true] at h
 have h:=h.2
 cases hq:Kv2 t.fOp
 ·rw [hq] at h
  simp at h
  rw [h]; simp
 ·rw [hq,if_pos rfl] at h
  exact ⟨Kvp h,Kvq h⟩
theorem Kvt {n b:Nat} (h:n * b ≤ 140737488355328):Qe6 n b=some ():=by unfold Qe6 chk; rw [if_pos h]
theorem Kvu {g:Int→Bool} {y:List Int→Bool} {n:Int} {t:K01} (h:Kvg g y n t=true):inB t.fOp 0 12=true∧(t.fKids.length:Int)=Kv0 t.fOp:=by
 unfold Kvg at h
 simp only [Bool.and_eq_true,beq_iff_eq] at h
 exact ⟨h.1.1.1,h.1.1.2⟩
theorem Kvv (l:List Int) (h:l.length ≤ 1099511627776):Kev l=some l:=by
 unfold Kev
 rw [Kvt (by simp only [List.length_nil]; omega),bs]
theorem Kvw (l:List Int) (h:l.length ≤ 1099511627776):Ko3 l=some l:=by
 unfold Ko3
 rw [Kvt (by simp only [List.length_nil]; omega),bs]
structure Kvx (s:K00) (n:Nat):Prop where
 size:s.fSize=(n:Int)
 lo:2 ≤ n
 hi:n ≤ 16
 lp:s.fPlus.length=n * n
 lt:s.fTimes.length=n * n
 lb:s.fBelow.length=n * n
def Kvy (s:K00) (n i:Nat):Bool:=inB (s.fPlus.getD i 0) 0 ((n:Int) - 1) && inB (s.fTimes.getD i 0) 0 ((n:Int) - 1)
section
variable {s:K00} {n:Nat} (h:Kvx s n)
include h
theorem nn:n * n ≤ 256:=Nat.le_trans (Nat.mul_le_mul h.hi h.hi) (by decide)
theorem Kvz {i:Nat} (hi:i < n * n):idx s.fPlus (i:Int)=some (s.fPlus.getD i 0):=by
 have hl:i < s.fPlus.length:=by rw [h.lp]; exact hi
 rw [Ksq hl,List.getD_eq_getElem?_getD,List.getElem?_eq_getElem hl]; rfl
theorem Kw0 {i:Nat} (hi:i < n * n):idx s.fTimes (i:Int)=some (s.fTimes.getD i 0):=by
 have hl:i < s.fTimes.length:=by rw [h.lt]; exact hi
 rw [Ksq hl,List.getD_eq_getElem?_getD,List.getElem?_eq_getElem hl]; rfl
theorem Kw1:wr (s.fSize - 1)=(n:Int) - 1:=by
 have:=h.lo; have:=h.hi
 rw [h.size,Ksp (by omega) (by omega)]
theorem Kw2:∀ (k i:Nat),i + k=n * n→Kbe (s,(i:Int))=some (if (List.range' i k).all (Kvy s n) then .inl () else .inr false):=by
 have hn:=nn h
 intro k
 induction k with
 | zero =>
  intro i hm
  rw [Kbe.eq_def]
  simp only
  rw [h.lp,Kst (by omega)]
  rfl
 | succ k ih =>
  intro i hm
  rw [Kbe.eq_def]
  simp only
  rw [h.lp,Kss (by omega),if_pos rfl,Kvz h (by omega),Kw0 h (by omega),Kw1 h]
  have ih:=ih (i + 1) (by omega)
  rw [Ksr (by omega),List.range'_succ,List.all_cons]
  generalize ((i + 1:Nat):Int)=M at ih ⊢
  generalize (List.range' (i + 1) k).all (Kvy s n)=r at ih ⊢
  simp only [bs,sIn]
  cases h1:inB (s.fPlus.getD i 0) 0 ((n:Int) - 1) <;> cases h2:inB (s.fTimes.getD i 0) 0 ((n:Int) - 1) <;> cases r <;> simp only [Kvy,h1,h2,ih,bs,Bool.not_true,Bool.not_false,Bool.true_and,Bool.false_and,Bool.and_true,Bool.and_false,if_true,if_false,Bool.false_eq_true]
theorem Kw3:∀ (k i:Nat),i + k=n * n→Kl5 (s,(i:Int))=some (if (List.range' i k).all (Kvy s n) then .inl () else .inr false):=by
 have hn:=nn h
 intro k
 induction k with
 | zero =>
  intro i hm
  rw [Kl5.eq_def]
  simp only
  rw [h.lp,Kst (by omega)]
  rfl
 | succ k ih =>
  intro i hm
  rw [Kl5.eq_def]
  simp only
  rw [h.lp,Kss (by omega),if_pos rfl,Kvz h (by omega),Kw0 h (by omega)]
  have ih:=ih (i + 1) (by omega)
  rw [Ksr (by omega),List.range'_succ,List.all_cons]
  generalize ((i + 1:Nat):Int)=M at ih ⊢
  generalize (List.range' (i + 1) k).all (Kvy s n)=r at ih ⊢
  have hh:∀ x,Kk9 (s,x)=some (inB x 0 ((n:Int) - 1)):=fun x=>by
   unfold Kk9
   simp only
   rw [Kw1 h,iIn,bs]
  simp only [bs,hh]
  cases h1:inB (s.fPlus.getD i 0) 0 ((n:Int) - 1) <;> cases h2:inB (s.fTimes.getD i 0) 0 ((n:Int) - 1) <;> cases r <;> simp only [Kvy,h1,h2,ih,bs,Bool.not_true,Bool.not_false,Bool.true_and,Bool.false_and,Bool.and_true,Bool.and_false,if_true,if_false,Bool.false_eq_true]
theorem Kw4 (he:(List.range' 0 (n * n)).all (Kvy s n)=true):Tab s n:=by
 rw [List.all_eq_true] at he
 have hent:∀ i,i < n * n→Kvy s n i=true:=fun i hi=>he i (by rw [List.mem_range'_1]; omega)
 refine ⟨h.size,h.lo,h.hi,h.lp,h.lt,h.lb,fun i hi=>?_,fun i hi=>?_⟩
 ·have:=hent i (by rw [← h.lp]; exact hi)
  simp only [Kvy,inB,Bool.and_eq_true,decide_eq_true_eq,List.getD_eq_getElem?_getD,List.getElem?_eq_getElem hi,Option.getD_some] at this
  omega
 ·have:=hent i (by rw [← h.lt]; exact hi)
  simp only [Kvy,inB,Bool.and_eq_true,decide_eq_true_eq,List.getD_eq_getElem?_getD,List.getElem?_eq_getElem hi,Option.getD_some] at this
  omega
end
def Kw5 (s:K00):Bool:=inB s.fSize 2 16 && !((s.fPlus.length:Int) != (wr (s.fSize * s.fSize))) && !((s.fTimes.length:Int) != (wr (s.fSize * s.fSize))) && !((s.fBelow.length:Int) != (wr (s.fSize * s.fSize)))
theorem Kw6 {s:K00} (h:Kw5 s=true):Kvx s s.fSize.toNat:=by
 unfold Kw5 at h
 simp only [Bool.and_eq_true,Bool.not_eq_true',inB,decide_eq_true_eq,bne_eq_false_iff_eq] at h
 obtain ⟨⟨⟨⟨h1,h2⟩,h3⟩,h4⟩,h5⟩:=h
 obtain ⟨n,hn⟩:∃ n:Nat,s.fSize=(n:Int):=⟨s.fSize.toNat,by omega⟩
 rw [hn] at h1 h2 h3 h4 h5 ⊢
 have h256:n * n ≤ 256:=Nat.le_trans (Nat.mul_le_mul (by omega:n ≤ 16) (by omega:n ≤ 16)) (by decide)
 have e:(n:Int) * (n:Int)=((n * n:Nat):Int):=by simp
 rw [e] at h3 h4 h5
 generalize hm:n * n=m at *
 rw [Ksp (by omega) (by omega)] at h3 h4 h5
 rw [Int.toNat_natCast]
 exact ⟨hn,by omega,by omega,by omega,by omega,by omega⟩
def Kw7 (s:K00):Bool:=Kw5 s && (List.range' 0 (s.fSize.toNat * s.fSize.toNat)).all (Kvy s s.fSize.toNat) && Kto s s.fSize.toNat
theorem Kw8 {s:K00} (h:Kw7 s=true):Tab s s.fSize.toNat:=by
 unfold Kw7 at h
 simp only [Bool.and_eq_true] at h
 exact Kw4 (Kw6 h.1.1) h.1.2
theorem Kw9 (s:K00):Kcv s=some (Kw7 s):=by
 unfold Kcv Kbh Kw7
 rw [sIn]
 cases hf:Kw5 s with
 | false =>
  unfold Kw5 at hf
  cases h1:inB s.fSize 2 16 <;> cases h2:((s.fPlus.length:Int) != (wr (s.fSize * s.fSize))) <;> cases h3:((s.fTimes.length:Int) != (wr (s.fSize * s.fSize))) <;> cases h4:((s.fBelow.length:Int) != (wr (s.fSize * s.fSize))) <;> simp_all [bs]
 | true =>
  have F:=Kw6 hf
  have hl:=Kw2 F (s.fSize.toNat * s.fSize.toNat) 0 (by omega)
  rw [show ((0:Nat):Int)=0 from rfl] at hl
  unfold Kw5 at hf
  simp only [Bool.and_eq_true,Bool.not_eq_true'] at hf
  obtain ⟨⟨⟨h1,h2⟩,h3⟩,h4⟩:=hf
  cases he:(List.range' 0 (s.fSize.toNat * s.fSize.toNat)).all (Kvy s s.fSize.toNat) with
  | false=>rw [he] at hl; simp [bs,h1,h2,h3,h4,hl]
  | true =>
   have T:=Kw4 F he
   have hl2:=Ktt T s.fSize.toNat 0 (by omega)
   rw [show ((0:Nat):Int)=0 from rfl] at hl2
   rw [he] at hl
   have hm:(List.range' 0 s.fSize.toNat).all (fun a=>Kt8 s s.fSize.toNat a && (List.range' 0 s.fSize.toNat).all fun b=>Ktl s s.fSize.toNat a b && (List.range' 0 s.fSize.toNat).all fun c=>Kt9 s s.fSize.toNat a b c)=Kto s s.fSize.toNat:=rfl
   rw [hm] at hl2
   cases hs:Kto s s.fSize.toNat <;> rw [hs] at hl2 <;> simp [bs,h1,h2,h3,h4,hl,hl2]
theorem Kwa (s:K00):Kll s=some (Kw7 s):=by
 unfold Kll Kw7
 rw [iIn]
 cases hf:Kw5 s with
 | false =>
  unfold Kw5 at hf
  cases h1:inB s.fSize 2 16 <;> cases h2:((s.fPlus.length:Int) != (wr (s.fSize * s.fSize))) <;> cases h3:((s.fTimes.length:Int) != (wr (s.fSize * s.fSize))) <;> cases h4:((s.fBelow.length:Int) != (wr (s.fSize * s.fSize))) <;> simp_all [bs]
 | true =>
  have F:=Kw6 hf
  have hl:=Kw3 F (s.fSize.toNat * s.fSize.toNat) 0 (by omega)
  rw [show ((0:Nat):Int)=0 from rfl] at hl
  unfold Kw5 at hf
  simp only [Bool.and_eq_true,Bool.not_eq_true'] at hf
  obtain ⟨⟨⟨h1,h2⟩,h3⟩,h4⟩:=hf
  cases he:(List.range' 0 (s.fSize.toNat * s.fSize.toNat)).all (Kvy s s.fSize.toNat) with
  | false=>rw [he] at hl; simp [bs,h1,h2,h3,h4,hl]
  | true =>
   have T:=Kw4 F he
   have hl2:=Ktu T s.fSize.toNat 0 (by omega)
   rw [show ((0:Nat):Int)=0 from rfl] at hl2
   rw [he] at hl
   have hm:(List.range' 0 s.fSize.toNat).all (fun a=>Kt8 s s.fSize.toNat a && (List.range' 0 s.fSize.toNat).all fun b=>Ktl s s.fSize.toNat a b && (List.range' 0 s.fSize.toNat).all fun c=>Kt9 s s.fSize.toNat a b c)=Kto s s.fSize.toNat:=rfl
   rw [hm] at hl2
   cases hs:Kto s s.fSize.toNat <;> rw [hs] at hl2 <;> simp [bs,h1,h2,h3,h4,hl,hl2]
theorem Kwb {x:Int} {n:Nat} (h:inB x 0 ((n:Int) - 1)=true):x=((x.toNat:Nat):Int)∧x.toNat < n:=by
 simp only [inB,Bool.and_eq_true,decide_eq_true_eq] at h
 omega
section
variable {s:K00} {n:Nat} (h:Tab s n)
include h
theorem Kwc:wr (s.fSize - 1)=(n:Int) - 1:=by
 have:=h.lo; have:=h.hi
 rw [h.size,Ksp (by omega) (by omega)]
end
inductive Ty where
 | num
 | bin (c:Int) (a b:Ty)
 | un (c:Int) (a:Ty)
namespace Ty
def code:Ty→List Int
 | num=>[0]
 | bin c a b=>c :: (a.code ++ b.code)
 | un c a=>c :: a.code
def ok:Ty→Prop
 | num=>True
 | bin c a b=>Ktz c=2∧a.ok∧b.ok
 | un c a=>Ktz c=1∧a.ok
def kids:Ty→List Ty
 | num=>[]
 | bin _ a b=>[a,b]
 | un _ a=>[a]
def hd:Ty→Int
 | num=>0
 | bin c _ _=>c
 | un c _=>c
end Ty
def Kwd:List Ty→List Int
 | []=>[]
 | t :: l=>t.code ++ Kwd l
theorem Kwe (T:Ty):T.code=T.hd :: Kwd T.kids:=by cases T <;> simp [Ty.code,Ty.hd,Ty.kids,Kwd]
theorem Kwf (T:Ty):1 ≤ T.code.length:=by rw [Kwe]; simp
theorem Kwg (T:Ty):∀ (m:Nat) (l:List Int),T.ok→skip (m + 1) (T.code ++ l)=skip m l:=by
 induction T with
 | num =>
  intro m l _
  rw [Ty.code,List.singleton_append,Ku9,show Ktz 0=0 from rfl,if_neg (by decide)]; rfl
 | bin c a b iha ihb =>
  intro m l h
  rw [Ty.code,List.cons_append,Ku9,h.1,if_neg (by decide),List.append_assoc,show m + (2:Int).toNat=(m + 1) + 1 from rfl,iha _ _ h.2.1,ihb _ _ h.2.2]
 | un c a ih =>
  intro m l h
  rw [Ty.code,List.cons_append,Ku9,h.1,if_neg (by decide),show m + (1:Int).toNat=m + 1 from rfl,ih _ _ h.2]
theorem Kwh (l:List Int):∀ (m:Nat) (r:List Int),skip m l=some r→∃ Ts:List Ty,Ts.length=m∧(∀ T ∈ Ts,T.ok)∧l=Kwd Ts ++ r:=by
 induction l with
 | nil =>
  intro m r h
  cases m with
  | zero=>rw [Ku7] at h; cases h; exact ⟨[],rfl,fun _ h=>(by cases h),rfl⟩
  | succ m=>rw [Ku8] at h; cases h
 | cons c l ih =>
  intro m r h
  cases m with
  | zero=>rw [Ku7] at h; cases h; exact ⟨[],rfl,fun _ h=>(by cases h),rfl⟩
  | succ m =>
   rw [Ku9] at h
   by_cases hk:Ktz c=-1
   ·rw [if_pos hk] at h; cases h
   ·rw [if_neg hk] at h
    obtain ⟨Ts,h1,h2,h3⟩:=ih _ _ h
    rcases Ku3 c with ⟨q,e⟩ | ⟨q,e⟩ | ⟨q,e⟩ | ⟨q,e⟩
    ·subst q
     rw [e] at h1
     exact ⟨.num :: Ts,by simpa using h1,fun T hT=>by rcases List.mem_cons.1 hT with rfl | hT; exact trivial; exact h2 T hT,by rw [h3]; rfl⟩
    ·rw [e] at h1
     match Ts,h1 with
     | a :: b :: Ts,h1 =>
      refine ⟨.bin c a b :: Ts,by simpa using h1,fun T hT=>?_,by rw [h3]; simp [Kwd,Ty.code]⟩
      rcases List.mem_cons.1 hT with rfl | hT
      ·exact ⟨e,h2 a List.mem_cons_self,h2 b (List.mem_cons_of_mem _ List.mem_cons_self)⟩
      ·exact h2 T (List.mem_cons_of_mem _ (List.mem_cons_of_mem _ hT))
     | [_],h1=>exact absurd h1 (by simp)
     | [],h1=>exact absurd h1 (by simp)
    ·rw [e] at h1
     match Ts,h1 with
     | a :: Ts,h1 =>
      refine ⟨.un c a :: Ts,by simpa using h1,fun T hT=>?_,by rw [h3]; simp [Kwd,Ty.code]⟩
      rcases List.mem_cons.1 hT with rfl | hT
      ·exact ⟨e,h2 a List.mem_cons_self⟩
      ·exact h2 T (List.mem_cons_of_mem _ hT)
     | [],h1=>exact absurd h1 (by simp)
    ·exact absurd e hk
theorem Kwi {ty:List Int} (h:wtB ty=true):∃ T:Ty,T.ok∧ty=T.code∧ty.length ≤ 40:=by
 have hl:=Kvq h
 unfold wtB at h
 rw [Bool.and_eq_true,beq_iff_eq] at h
 obtain ⟨Ts,h1,h2,h3⟩:=Kwh _ _ _ h.2
 match Ts,h1 with
 | [T],_=>exact ⟨T,h2 T List.mem_cons_self,by rw [h3]; simp [Kwd],hl⟩
theorem Kwj {T:Ty} (h:T.ok) (hl:T.code.length ≤ 40):wtB T.code=true:=by
 unfold wtB
 have:=Kwg T 0 [] h
 rw [List.append_nil,Ku7] at this
 rw [decide_eq_true hl,show (1:Nat)=0 + 1 from rfl,this]; rfl
theorem Kwk {T:Ty} (h:T.ok):∀ K ∈ T.kids,K.ok:=by
 intro K hK
 cases T with
 | num=>cases hK
 | bin c a b=>rcases List.mem_cons.1 hK with rfl | hK; exact h.2.1; rw [List.mem_singleton.1 hK]; exact h.2.2
 | un c a=>rw [List.mem_singleton.1 hK]; exact h.2
theorem Kwl {pre:List Int} {T:Ty} {post:List Int} (h:T.ok):Kuc (pre ++ (T.code ++ post)) 1 pre.length=((pre.length + T.code.length:Nat):Int):=by
 unfold Kuc
 rw [List.drop_left,show (1:Nat)=0 + 1 from rfl,Kwg T 0 post h,Ku7]
 simp only [List.length_append]
 omega
theorem Kwm {α:Type} (p m q:List α) (mx:Option Int) (hmx:mx=none∨mx=some ((p.length + m.length:Nat):Int)):cut (p ++ (m ++ q)) (some (p.length:Int)) (some ((p.length + m.length:Nat):Int)) mx=some m:=by
 unfold cut
 have e:((p ++ (m ++ q)).take (p.length + m.length)).drop p.length=m:=by
  rw [← List.append_assoc,← List.length_append,List.take_left,List.drop_left]
 rw [if_pos]
 ·simp only [Option.getD_some,Int.toNat_natCast,e]
 ·rcases hmx with rfl | rfl <;> simp only [Option.getD_some,Option.getD_none,List.length_append] <;> omega
theorem Kwn {α:Type} (p q:List α):cut (p ++ q) (some (p.length:Int)) none none=some q:=by
 unfold cut
 rw [if_pos]
 ·simp only [Option.getD_some,Option.getD_none,Int.toNat_natCast,List.take_length,List.drop_left]
 ·simp only [Option.getD_some,Option.getD_none,List.length_append]; omega
theorem Kwo (Ks:List Ty):∀ (pre:List Int) (out:List (List Int)),(∀ K ∈ Ks,K.ok)→(pre ++ Kwd Ks).length ≤ 1099511627776→out.length + Ks.length ≤ 1099511627776→Kn5 (pre ++ Kwd Ks,out,(pre.length:Int))=some (out ++ Ks.map Ty.code):=by
 induction Ks with
 | nil =>
  intro pre out hk hl ho
  rw [show Kwd []=[] from rfl,List.append_nil,Kn5.eq_def]
  simp only
  rw [Kst (Nat.le_refl _)]; simp
 | cons K Ks ih =>
  intro pre out hk hl ho
  have hK:=hk K List.mem_cons_self
  have hp:=Kwf K
  rw [show Kwd (K :: Ks)=K.code ++ Kwd Ks from rfl] at hl ⊢
  rw [List.length_cons] at ho
  rw [Kn5.eq_def]
  simp only
  rw [Kss (by simp only [List.length_append]; omega),if_pos rfl,Kug _ hl _ pre.length rfl,Kwl hK,bs,Kwm _ _ _ _ (.inr rfl),bs,Kvt (by simp only [List.length_singleton]; omega),bs]
  have:=ih (pre ++ K.code) (out ++ [K.code]) (fun K hK=>hk K (List.mem_cons_of_mem _ hK)) (by rw [List.append_assoc]; exact hl) (by simp; omega)
  rw [List.append_assoc,List.length_append] at this
  rw [this,List.map_cons,List.append_assoc]; rfl
theorem Kwp {T:Ty} (h:T.ok) (hl:T.code.length ≤ 1048576):Kn8 T.code=some (T.kids.map Ty.code):=by
 unfold Kn8
 have hk:T.kids.length ≤ 2:=by cases T <;> simp [Ty.kids]
 have e:[T.hd] ++ Kwd T.kids=T.code:=(Kwe T).symm
 have:=Kwo T.kids [T.hd] [] (Kwk h) (by rw [e]; omega) (by simp only [List.length_nil]; omega)
 rw [e] at this
 rw [show (1:Int)=(([T.hd].length:Nat):Int) from rfl,this,bs]; rfl
theorem Kwq {c:Int} {a:Ty} {r:List Int} (ha:a.ok) (hl:(c :: (a.code ++ r)).length ≤ 1099511627776):Key (c :: (a.code ++ r),0)=some a.code:=by
 unfold Key
 simp only
 have e:=Kwl (pre:=[c]) (post:=r) ha
 have h1:=Kue (c :: (a.code ++ r)) hl 1 (by simp)
 rw [show (((1:Nat)):Int)=1 from rfl] at h1
 rw [List.length_singleton] at e
 have e':Kuc (c :: (a.code ++ r)) 1 1=((1 + a.code.length:Nat):Int):=e
 rw [h1,bs,e',if_pos (by rfl)]
 have h2:=Kwm [c] a.code r none (.inl rfl)
 rw [List.length_singleton] at h2
 have h2':cut (c :: (a.code ++ r)) (some 1) (some ((1 + a.code.length:Nat):Int)) none=some a.code:=h2
 simp only [List.length_cons,List.length_append] at hl
 rw [h2',bs,Kvv _ (by omega),bs]
theorem Kwr {c:Int} {a:Ty} {r:List Int} (ha:a.ok) (hl:(c :: (a.code ++ r)).length ≤ 1099511627776):Key (c :: (a.code ++ r),1)=some r:=by
 unfold Key
 simp only
 have e:=Kwl (pre:=[c]) (post:=r) ha
 have h1:=Kue (c :: (a.code ++ r)) hl 1 (by simp)
 rw [show (((1:Nat)):Int)=1 from rfl] at h1
 rw [List.length_singleton] at e
 have e':Kuc (c :: (a.code ++ r)) 1 1=((1 + a.code.length:Nat):Int):=e
 rw [h1,bs,e',if_neg (by decide)]
 have h2:=Kwn (c :: a.code) r
 rw [List.length_cons,List.cons_append,Nat.add_comm] at h2
 simp only [List.length_cons,List.length_append] at hl
 rw [h2,bs,Kvv _ (by omega),bs]
def Kws (s:K00) (g:Int):Bool:=inB g 0 (wr (s.fSize - 1))
theorem Kwt (s:K00) (g:Int):Kk9 (s,g)=some (Kws s g):=by
 unfold Kk9 Kws
 simp only
 rw [iIn,bs]
def Kwu (s:K00) (c:Int):Bool:=!(((Ku4 c).1 == 3 || (Ku4 c).1 == 4) && !Kws s (Ku4 c).2)
def Kwv (s:K00) (ty:List Int):Bool:=wtB ty && ty.all (Kwu s)
theorem Kww (s:K00) (ty:List Int) (hty:ty.length ≤ 1099511627776):∀ (l:List Int) (i:Nat),ty.drop i=l→Kly (s,ty,(i:Int))=some (if l.all (Kwu s) then .inl () else .inr false):=by
 intro l
 induction l with
 | nil =>
  intro i hd
  rw [Kly.eq_def]
  simp only
  rw [Kst (Ktw hd)]; rfl
 | cons c l ih =>
  intro i hd
  obtain ⟨hi,hx,hd'⟩:=Ktv hd
  rw [Kly.eq_def]
  simp only
  rw [Kss hi,if_pos rfl,hx,bs,Ku5,bs,Ksr (by omega),ih (i + 1) hd',List.all_cons]
  unfold Kwu
  rcases Ku4 c with ⟨a,b⟩
  simp only [Kwt,bs]
  cases a == 3 <;> cases a == 4 <;> cases Kws s b <;> simp [bs]
theorem Kwx (s:K00) (ty:List Int) (hty:ty.length ≤ 1099511627776):Km1 (s,ty)=some (Kwv s ty):=by
 unfold Km1 Kwv
 simp only
 rw [Kuj ty hty,bs]
 cases wtB ty
 ·rfl
 ·rw [if_pos rfl,show (0:Int)=((0:Nat):Int) from rfl,Kww s ty hty _ 0 rfl,List.drop_zero,bs]
  cases ty.all (Kwu s) <;> rfl
theorem Kwy {s:K00} {n:Nat} (h:Tab s n) (g:Int):Kws s g=inB g 0 ((n:Int) - 1):=by
 unfold Kws; rw [Kwc h]
theorem Kwz {s:K00} {n:Nat} (h:Tab s n) {c:Int}:Kwu s c=Kul s.fSize true c:=by
 unfold Kwu Kul Kuk
 have hn:=h.lo
 rw [Kwy h,h.size]
 rcases Ku6 c with ⟨q,e⟩ | ⟨q,e⟩ | ⟨q,e⟩ | ⟨q,e⟩ | ⟨q,e⟩ | ⟨q,e⟩ | ⟨q,e⟩ | ⟨q,e⟩ <;> rw [e]
 ·subst q; rfl
 ·subst q; rfl
 ·subst q; rfl
 ·have hk:Ktz c=2:=by rcases Ku3 c with h | h | h | h <;> omega
  rw [hk,if_neg (by omega),if_neg (by omega),decide_eq_true (by omega:c > 2)]
  unfold inB
  rw [decide_eq_true (by omega:c - 3 ≥ 0),decide_eq_false (by omega:¬ c - 3 < 0)]
  by_cases hc:c - 3 ≤ (n:Int) - 1
  ·rw [decide_eq_true hc,decide_eq_false (by omega:¬ c - 3 ≥ (n:Int))]; rfl
  ·rw [decide_eq_false hc,decide_eq_true (by omega:c - 3 ≥ (n:Int))]; rfl
 ·subst q; unfold inB; simp [Ktz,Ktx,Kty,inB]
 ·have hk:Ktz c=1:=by rcases Ku3 c with h | h | h | h <;> omega
  rw [hk,if_neg (by omega),if_pos (by omega),decide_eq_true (by omega:c > 2)]
  unfold inB
  rw [decide_eq_true (by omega:c - 19 ≥ 0),decide_eq_false (by omega:¬ c - 19 < 0)]
  by_cases hc:c - 19 ≤ (n:Int) - 1
  ·rw [decide_eq_true hc,decide_eq_false (by omega:¬ c - 19 ≥ (n:Int))]; rfl
  ·rw [decide_eq_false hc,decide_eq_true (by omega:c - 19 ≥ (n:Int))]; rfl
 ·subst q; unfold inB; simp [Ktz,Ktx,Kty,inB]
 ·have hk:Ktz c=-1:=by rcases Ku3 c with h | h | h | h <;> omega
  rw [hk]; simp
theorem Kx0 {s:K00} {n:Nat} (h:Tab s n) (ty:List Int):Kwv s ty=yN s.fSize true ty:=by
 unfold Kwv yN
 rw [show Kwu s=Kul s.fSize true from funext fun c=>Kwz h]
theorem Kx1 {α:Type} (x:α) (l:List α):idx (x :: l) 0=some x:=rfl
theorem Kx2 {a b:Nat} (ha:a ≤ 1099511627776) (hb:b ≤ 1099511627776):wr ((a:Int) + (b:Int))=((a + b:Nat):Int):=by rw [Ksp (by omega) (by omega)]; omega
theorem Kx3 (a b:Nat):Ka0 ((a:Int),(b:Int))=some ((min a b:Nat):Int):=by
 unfold Ka0
 simp only
 by_cases h:a < b
 ·rw [decide_eq_true (by omega:(a:Int) < (b:Int)),if_pos rfl,Nat.min_eq_left (by omega)]
 ·rw [decide_eq_false (by omega:¬ (a:Int) < (b:Int)),if_neg (by decide),Nat.min_eq_right (by omega)]
def sms (s:K00):Nat:=s.fPlus.length + s.fTimes.length + s.fBelow.length
theorem Kx4 (a b:List K01):Kur (a ++ b)=Kur a + Kur b:=by
 induction a with
 | nil=>simp [Kur]
 | cons x l ih=>rw [List.cons_append,Kur,Kur,ih]; omega
theorem Kx5 {l:List K01} {t:K01} (h:t ∈ l):tms t + l.length ≤ Kur l + l.length:=by
 induction l with
 | nil=>cases h
 | cons x l ih =>
  rw [Kur]
  rcases List.mem_cons.1 h with rfl | h
  ·omega
  ·have:=ih h; omega
theorem Kx6 {l:List K01} {t:K01} (h:t ∈ l):tsz t ≤ Kuq l:=by
 induction l with
 | nil=>cases h
 | cons x l ih =>
  rw [Kuq]
  rcases List.mem_cons.1 h with rfl | h
  ·omega
  ·have:=ih h; omega
theorem Kx7 {t k:K01} (h:k ∈ t.fKids):tsz k + 1 ≤ tsz t:=by
 rw [Kut t]
 have:=Kx6 h
 omega
mutual
def tNb (hi:Int):K01→Prop
 | ⟨op,N,_,ks⟩=>(op=0→-9223372036854775808 ≤ N∧N ≤ hi)∧Kx8 hi ks
def Kx8 (hi:Int):List K01→Prop
 | []=>True
 | k :: ks=>tNb hi k∧Kx8 hi ks
end
mutual
def shf (by_:Int):Int→K01→K01
 | from_,⟨op,N,ty,ks⟩=>⟨op,if op == 0 && decide (N ≥ from_) then N + by_ else N,ty,Kx9 by_ op from_ 0 ks⟩
def Kx9 (by_:Int):Int→Int→Nat→List K01→List K01
 | _,_,_,[]=>[]
 | op,from_,i,k :: ks=>shf by_ (from_ + ((Kva op (i:Int):Nat):Int)) k :: Kx9 by_ op from_ (i + 1) ks
end
mutual
theorem Kxa:∀ (t:K01) (fr:Int),shf 0 fr t=t
 | ⟨op,N,ty,ks⟩,fr=>by
  rw [shf,Kxb ks]
  simp
theorem Kxb:∀ (ks:List K01) (op fr:Int) (i:Nat),Kx9 0 op fr i ks=ks
 | [],op,fr,i=>by rw [Kx9]
 | k :: ks,op,fr,i=>by rw [Kx9,Kxa k,Kxb ks]
end
theorem Kxc (by_:Int):∀ (ks:List K01) (op fr:Int) (i:Nat),(Kx9 by_ op fr i ks).length=ks.length
 | [],op,fr,i=>by rw [Kx9]
 | k :: ks,op,fr,i=>by rw [Kx9,List.length_cons,List.length_cons,Kxc by_ ks]
mutual
theorem Kxd (b hi:Int) (hb:0 ≤ b) (hh:hi + b ≤ 9223372036854775807):∀ (t:K01) (fr:Int),tNb hi t→tms t ≤ 1099511627776→-35184372088832 ≤ fr→fr + 2 * tms t ≤ 35184372088832→Kgr (t,b,fr)=some (shf b fr t)
 | ⟨op,N,ty,ks⟩,fr,hn,hm,h1,h2=>by
  rw [tms] at hm h2
  rw [tNb] at hn
  rw [Kgr.eq_def,shf]
  simp only
  rw [Kvv ty (by omega),bs]
  refine (Kup (x:=op == 0 && decide (N ≥ fr)) ?_).trans ?_
  ·cases op == 0 <;> rfl
  refine (Kup (x:=if op == 0 && decide (N ≥ fr) then N + b else N) ?_).trans ?_
  ·cases h:op == 0 && decide (N ≥ fr)
   ·rfl
   ·rw [Bool.and_eq_true] at h
    have:=hn.1 (eq_of_beq h.1)
    rw [if_pos rfl,Ksp (by omega) (by omega)]; rfl
  rw [show (0:Int)=((0:Nat):Int) from rfl,Kxe b hi hb hh ks ⟨op,N,ty,ks⟩ fr 0 ty _ [] rfl (by simp only; omega) hn.2 (by omega) h1 (by omega) (by simp),bs]
  rfl
theorem Kxe (b hi:Int) (hb:0 ≤ b) (hh:hi + b ≤ 9223372036854775807):∀ (ks:List K01) (t:K01) (fr:Int) (i:Nat) (r:List Int) (o:Int) (out:List K01),t.fKids.drop i=ks→t.fKids.length ≤ 1099511627776→Kx8 hi ks→Kur ks ≤ 1099511627776→-35184372088832 ≤ fr →
  fr + 2 * (ks.length + Kur ks) ≤ 35184372088832→out.length=i→Kgs (t,b,fr,r,o,out,(i:Int))=some (out ++ Kx9 b t.fOp fr i ks)
 | [],t,fr,i,r,o,out,hd,hk,hn,hm,h1,h2,ho=>by
  rw [Kgs.eq_def,Kx9]
  simp only
  rw [Kst (Ktw hd),List.append_nil]; rfl
 | k :: ks,t,fr,i,r,o,out,hd,hk,hn,hm,h1,h2,ho=>by
  obtain ⟨hi',hx,hd'⟩:=Ktv hd
  rw [Kur] at hm h2
  rw [List.length_cons] at h2
  rw [Kx8] at hn
  have ha:=Kvb t.fOp (i:Int)
  rw [Kgs.eq_def,Kx9]
  simp only
  rw [Kss hi',if_pos rfl,hx,bs,Kvc,bs,Ksp (by omega) (by omega),Kxd b hi hb hh k _ hn.1 (by omega) (by omega) (by omega),bs,Kvt (by simp only [List.length_singleton]; omega),bs,Ksr (by omega)]
  rw [Kxe b hi hb hh ks t fr (i + 1) r o _ hd' hk hn.2 (by omega) h1 (by omega) (by simp [ho]),List.append_assoc]
  rfl
end
mutual
theorem Kxf {a b:Int} (h:a ≤ b):∀ (t:K01),tNb a t→tNb b t
 | ⟨op,N,ty,ks⟩,hn=>by
  rw [tNb] at hn ⊢
  exact ⟨fun e=>by have:=hn.1 e; omega,Kxg h ks hn.2⟩
theorem Kxg {a b:Int} (h:a ≤ b):∀ (ks:List K01),Kx8 a ks→Kx8 b ks
 | [],_=>by rw [Kx8]; trivial
 | k :: ks,hn=>by rw [Kx8] at hn ⊢; exact ⟨Kxf h k hn.1,Kxg h ks hn.2⟩
end
mutual
theorem Kxh (g:Int→Bool) (y:List Int→Bool):∀ (t:K01) (n:Nat),tOk g y n t=true→tNb ((n:Int) + 2 * tsz t) t
 | ⟨op,N,ty,ks⟩,n,h=>by
  obtain ⟨h1,h2⟩:=Kvr h
  rw [tNb]
  refine ⟨fun e=>?_,?_⟩
  ·subst e
   unfold Kvg Kve at h1
   simp only [Bool.and_eq_true] at h1
   have h3:=h1.1.2
   rw [show ((0:Int) == 0)=true from rfl,if_pos rfl] at h3
   unfold inB at h3
   simp only [Bool.and_eq_true,decide_eq_true_eq] at h3
   omega
  ·rw [tsz]
   exact Kxg (by omega) ks (Kxi g y ks op n 0 h2)
theorem Kxi (g:Int→Bool) (y:List Int→Bool):∀ (ks:List K01) (op:Int) (n i:Nat),Kvh g y op n i ks=true→Kx8 ((n:Int) + 2 * Kuq ks + 2) ks
 | [],op,n,i,h=>by rw [Kx8]; trivial
 | k :: ks,op,n,i,h=>by
  rw [Kvh,Bool.and_eq_true] at h
  have ha:=Kvb op (i:Int)
  rw [Kx8,Kuq]
  exact ⟨Kxf (by omega) k (Kxh g y k _ h.1),Kxg (by omega) ks (Kxi g y ks op n (i + 1) h.2)⟩
end
theorem Kxj {t:K01} (hn:tNb 9223372036854775807 t) (hm:tms t ≤ 1099511627776):Kgr (t,0,0)=some t:=by
 rw [Kxd 0 9223372036854775807 (by omega) (by omega) t 0 hn hm (by omega) (by omega),Kxa]
mutual
theorem Kxk:∀ (t:K01),tln t→tNb 9223372036854775807 t
 | ⟨op,N,ty,ks⟩,h=>by rw [tln] at h; rw [tNb]; exact ⟨fun _=>h.2.2.2,Kxl ks h.2.2.1⟩
theorem Kxl:∀ (ks:List K01),Kvn ks→Kx8 9223372036854775807 ks
 | [],h=>by rw [Kx8]; trivial
 | k :: ks,h=>by rw [Kvn] at h; rw [Kx8]; exact ⟨Kxk k h.1,Kxl ks h.2⟩
end
def lct:List (List Int)→Nat
 | []=>0
 | x :: l=>x.length + lct l
theorem Kxm {l:List (List Int)} {x:List Int} (h:x ∈ l):x.length ≤ lct l:=by
 induction l with
 | nil=>cases h
 | cons y l ih =>
  rw [lct]
  rcases List.mem_cons.1 h with rfl | h
  ·omega
  ·have:=ih h; omega
theorem Kxn {l:List K01} {i:Nat} (hi:i < l.length) (u:K01):Kur (l.set i u) + tms l[i]=Kur l + tms u:=by
 induction l generalizing i with
 | nil=>simp at hi
 | cons x l ih =>
  cases i with
  | zero=>simp only [List.set_cons_zero,Kur,List.getElem_cons_zero]; omega
  | succ i =>
   have:=ih (i:=i) (by simpa using hi)
   simp only [List.set_cons_succ,Kur,List.getElem_cons_succ]; omega
theorem Kxo {α:Type} (x:α) (l:List α):cut (x :: l) (some 1) none none=some l:=Kwn [x] l
theorem Kxp {g:Int→Bool} {y:List Int→Bool}:∀ (ks:List K01) (op:Int) (n i j:Nat) (hj:j < ks.length),Kvh g y op n i ks=true→tOk g y (n + Kva op ((i + j:Nat):Int)) ks[j]=true
 | k :: ks,op,n,i,j,hj,ht=>by
  rw [Kvh,Bool.and_eq_true] at ht
  cases j with
  | zero=>exact ht.1
  | succ j =>
   have:=Kxp ks op n (i + 1) j (by simpa using hj) ht.2
   rw [show i + 1 + j=i + (j + 1) by omega] at this
   exact this
structure Kxq (c:Int) (a b:Ty):Prop where
 p0:Key (c :: (a.code ++ b.code),0)=some a.code
 p1:Key (c :: (a.code ++ b.code),1)=some b.code
 pp:Kn8 (c :: (a.code ++ b.code))=some [a.code,b.code]
 ok:a.ok∧b.ok
 la:a.code.length + b.code.length + 1 ≤ 1048576
theorem Kxr {c:Int} {a b:Ty} (h:(Ty.bin c a b).ok) (hl:(Ty.bin c a b).code.length ≤ 1048576):Kxq c a b:=by
 have hl':=hl
 rw [Ty.code] at hl'
 have h3:=Kwp h hl
 rw [Ty.kids,List.map_cons,List.map_cons,List.map_nil,Ty.code] at h3
 refine ⟨Kwq h.2.1 (by omega),Kwr h.2.1 (by omega),h3,h.2,?_⟩
 rw [List.length_cons,List.length_append] at hl'
 omega
structure UnP (c:Int) (a:Ty):Prop where
 p0:Key (c :: a.code,0)=some a.code
 pp:Kn8 (c :: a.code)=some [a.code]
 ok:a.ok
 la:a.code.length + 1 ≤ 1048576
theorem unP {c:Int} {a:Ty} (h:(Ty.un c a).ok) (hl:(Ty.un c a).code.length ≤ 1048576):UnP c a:=by
 have hl':=hl
 rw [Ty.code] at hl'
 have h3:=Kwp h hl
 rw [Ty.kids,List.map_cons,List.map_nil,Ty.code] at h3
 have h4:=Kwq (c:=c) (r:=[]) h.2 (by rw [List.append_nil]; omega)
 rw [List.append_nil] at h4
 refine ⟨h4,h3,h.2,?_⟩
 rw [List.length_cons] at hl'
 omega
theorem Kxs {p:Prop} [Decidable p] (h:p):chk p=some ():=by unfold chk; rw [if_pos h]
def inG (b:List Bool) (a:Nat):Bool:=b.getD a false
def vwC (s:K00) (n:Nat) (b:List Bool) (x y:Nat):Bool :=
 (inG b (pl s n x y) == (inG b x || inG b y)) && (inG b (ti s n x y) == (inG b x && inG b y)) && !(inG b x && le s n x y && !inG b y)
def vwI (s:K00) (n:Nat) (b:List Bool):Bool:=!inG b 0 && inG b 1 && (List.range' 0 n).all fun x=>(List.range' 0 n).all fun y=>vwC s n b x y
theorem Kxt {b:List Bool} {n a:Nat} (hb:b.length=n) (ha:a < n):idx b (a:Int)=some (inG b a):=by
 rw [Ksq (by omega)]; unfold inG; rw [List.getD_eq_getElem?_getD,List.getElem?_eq_getElem (by omega)]; rfl
def Kxu (n:Nat):Option Int→List Int→Bool
 | _,[]=>true
 | p,g :: l=>inB g 0 ((n:Int) - 1) && (match p with | none=>true | some q=>!decide (g ≤ q)) && Kxu n (some g) l
theorem Kxv (n:Nat) (p:Option Int) (g:Int) (l:List Int):Kxu n p (g :: l)=(inB g 0 ((n:Int) - 1) && (match p with | none=>true | some q=>!decide (g ≤ q)) && Kxu n (some g) l):=by
 cases p <;> rfl
def vIn:List Int→List Bool→List Bool
 | [],b=>b
 | g :: l,b=>vIn l (b.set g.toNat true)
theorem Kxw (l:List Int):∀ b,(vIn l b).length=b.length:=by
 induction l with
 | nil=>intro b; rfl
 | cons g l ih=>intro b; rw [vIn,ih,List.length_set]
section
variable {s:K00} {n:Nat} (h:Tab s n)
include h
theorem Kxx {b:List Bool} (hb:b.length=n) {x:Nat} (hx:x < n):∀ (k y:Nat),y + k=n→Kii (s,b,(x:Int),(y:Int))=some (if (List.range' y k).all (fun y=>vwC s n b x y) then .inl () else .inr false):=by
 have hhi:=h.hi
 intro k
 induction k with
 | zero =>
  intro y hm
  rw [Kii.eq_def]
  simp only
  rw [h.size,Kst (by omega)]
  rfl
 | succ k ih =>
  intro y hm
  have hy:y < n:=by omega
  have ih:=ih (y + 1) (by omega)
  rw [Kii.eq_def]
  simp only
  rw [h.size,Kss (by omega),if_pos rfl,Ksr (by omega),List.range'_succ,List.all_cons,ih]
  refine (Kup (x:=!vwC s n b x y) ?_).trans ?_
  ·rw [Kt2 h hx hy]
   simp only [bs]
   rw [Kxt hb (Ksx h hx hy),Kxt hb hx,Kxt hb hy]
   simp only [bs,Kt3 h hx hy,sLe h hx hy]
   rw [Kxt hb (Ksy h hx hy)]
   simp only [bs]
   unfold vwC
   generalize inG b (pl s n x y)=p
   generalize inG b (ti s n x y)=q
   generalize inG b x=u
   generalize inG b y=v
   generalize le s n x y=w
   cases u <;> cases v <;> cases p <;> cases q <;> cases w <;> rfl
  ·cases vwC s n b x y <;> rfl
theorem Kxy {b:List Bool} (hb:b.length=n):∀ (k x:Nat),x + k=n→Kin (s,b,(x:Int))=some (if (List.range' x k).all (fun x=>(List.range' 0 n).all fun y=>vwC s n b x y) then .inl () else .inr false):=by
 have hhi:=h.hi
 intro k
 induction k with
 | zero =>
  intro x hm
  rw [Kin.eq_def]
  simp only
  rw [h.size,Kst (by omega)]
  rfl
 | succ k ih =>
  intro x hm
  have ih:=ih (x + 1) (by omega)
  have hl:=Kxx h hb (x:=x) (by omega) n 0 (by omega)
  rw [show ((0:Nat):Int)=0 from rfl] at hl
  rw [Kin.eq_def]
  simp only
  rw [h.size,Kss (by omega),if_pos rfl,Ksr (by omega),List.range'_succ,List.all_cons,hl,bs,ih]
  cases (List.range' 0 n).all (fun y=>vwC s n b x y) <;> rfl
theorem Kxz {b:List Bool} (hb:b.length=n):Kiq (s,b)=some (vwI s n b):=by
 have hlo:=h.lo
 unfold Kiq vwI
 simp only
 have hl:=Kxy h hb n 0 (by omega)
 rw [show ((0:Nat):Int)=0 from rfl] at hl
 have h0:=Kxt hb (a:=0) (by omega)
 have h1:=Kxt hb (a:=1) (by omega)
 rw [show ((0:Nat):Int)=0 from rfl] at h0
 rw [show ((1:Nat):Int)=1 from rfl] at h1
 rw [h0,h1,hl]
 cases inG b 0 <;> cases inG b 1 <;> cases (List.range' 0 n).all (fun x=>(List.range' 0 n).all fun y=>vwC s n b x y) <;> rfl
end
section
variable {s:K00} {n:Nat} (h:Tab s n)
include h
theorem Ky0 {b:List Bool} (hb:b.length=n) {x:Nat} (hx:x < n):∀ (k y:Nat),y + k=n→Kqy (s,b,(x:Int),(y:Int))=some (if (List.range' y k).all (fun y=>vwC s n b x y) then .inl () else .inr false):=by
 have hhi:=h.hi
 intro k
 induction k with
 | zero =>
  intro y hm
  rw [Kqy.eq_def]
  simp only
  rw [h.size,Kst (by omega)]
  rfl
 | succ k ih =>
  intro y hm
  have hy:y < n:=by omega
  have ih:=ih (y + 1) (by omega)
  rw [Kqy.eq_def]
  simp only
  rw [h.size,Kss (by omega),if_pos rfl,Ksr (by omega),List.range'_succ,List.all_cons,ih]
  refine (Kup (x:=!vwC s n b x y) ?_).trans ?_
  ·rw [Kt4 h hx hy]
   simp only [bs]
   rw [Kxt hb (Ksx h hx hy),Kxt hb hx,Kxt hb hy]
   simp only [bs,Kt5 h hx hy,iLe h hx hy]
   rw [Kxt hb (Ksy h hx hy)]
   simp only [bs]
   unfold vwC
   generalize inG b (pl s n x y)=p
   generalize inG b (ti s n x y)=q
   generalize inG b x=u
   generalize inG b y=v
   generalize le s n x y=w
   cases u <;> cases v <;> cases p <;> cases q <;> cases w <;> rfl
  ·cases vwC s n b x y <;> rfl
theorem Ky1 {b:List Bool} (hb:b.length=n):∀ (k x:Nat),x + k=n→Kr2 (s,b,(x:Int))=some (if (List.range' x k).all (fun x=>(List.range' 0 n).all fun y=>vwC s n b x y) then .inl () else .inr false):=by
 have hhi:=h.hi
 intro k
 induction k with
 | zero =>
  intro x hm
  rw [Kr2.eq_def]
  simp only
  rw [h.size,Kst (by omega)]
  rfl
 | succ k ih =>
  intro x hm
  have ih:=ih (x + 1) (by omega)
  have hl:=Ky0 h hb (x:=x) (by omega) n 0 (by omega)
  rw [show ((0:Nat):Int)=0 from rfl] at hl
  rw [Kr2.eq_def]
  simp only
  rw [h.size,Kss (by omega),if_pos rfl,Ksr (by omega),List.range'_succ,List.all_cons,hl,bs,ih]
  cases (List.range' 0 n).all (fun y=>vwC s n b x y) <;> rfl
theorem Ky2 {b:List Bool} (hb:b.length=n):Kr5 (s,b)=some (vwI s n b):=by
 have hlo:=h.lo
 unfold Kr5 vwI
 simp only
 have hl:=Ky1 h hb n 0 (by omega)
 rw [show ((0:Nat):Int)=0 from rfl] at hl
 have h0:=Kxt hb (a:=0) (by omega)
 have h1:=Kxt hb (a:=1) (by omega)
 rw [show ((0:Nat):Int)=0 from rfl] at h0
 rw [show ((1:Nat):Int)=1 from rfl] at h1
 rw [h0,h1,hl]
 cases inG b 0 <;> cases inG b 1 <;> cases (List.range' 0 n).all (fun x=>(List.range' 0 n).all fun y=>vwC s n b x y) <;> rfl
theorem Ky3 (v:List Int) (hv:v.length ≤ 1099511627776):∀ (l:List Int) (i:Nat) (b:List Bool),v.drop i=l→b.length=n →
  Kr9 (s,v,b,(i:Int))=some (if Kxu n (if i=0 then none else v[i - 1]?) l then .inl (vIn l b) else .inr false):=by
 have hhi:=h.hi
 intro l
 induction l with
 | nil =>
  intro i b hd hb
  rw [Kr9.eq_def]
  simp only
  rw [Kst (Ktw hd)]; simp [Kxu,vIn]
 | cons g l ih =>
  intro i b hd hb
  obtain ⟨hi,hx,hd'⟩:=Ktv hd
  have hg:v[i]?=some g:=by rw [Ksq hi] at hx; rw [List.getElem?_eq_getElem hi]; exact hx
  rw [Kr9.eq_def]
  simp only
  rw [Kss hi,if_pos rfl,hx]
  simp only [bs]
  refine (Kup (x:=!(inB g 0 ((n:Int) - 1) && (match (if i=0 then none else v[i - 1]?) with | none=>true | some q=>!decide (g ≤ q)))) ?_).trans ?_
  ·rw [Kwt,Kwy h,bs]
   cases inB g 0 ((n:Int) - 1)
   ·rfl
   ·by_cases h0:i=0
    ·subst h0; rfl
    ·have hp:i - 1 < v.length:=by omega
     rw [if_pos rfl,decide_eq_true (by omega:(i:Int) > 0),if_pos rfl,Ksp (by omega) (by omega),show (i:Int) - 1=((i - 1:Nat):Int) by omega,Ksq hp,bs,if_neg h0,List.getElem?_eq_getElem hp]
     simp
  ·rw [Kxv]
   cases hc:(inB g 0 ((n:Int) - 1) && (match (if i=0 then none else v[i - 1]?) with | none=>true | some q=>!decide (g ≤ q)))
   ·rfl
   ·rw [Bool.and_eq_true] at hc
    obtain ⟨e1,l1⟩:=Kwb hc.1
    rw [Bool.not_true,if_neg (by decide),Bool.true_and]
    have hidx:idx b g=some (inG b g.toNat):=by rw [e1,Kxt hb l1,Int.toNat_natCast]
    rw [hidx,bs]
    rw [Ksr (by omega),ih (i + 1) _ hd' (by simpa using hb),if_neg (by omega:¬ i + 1=0),Nat.add_sub_cancel,hg,vIn]
end
theorem Ky4 (s:K00) (v:List Int) (hv:v.length ≤ 1099511627776):Krc (s,v)=some (Kw7 s && Kxu s.fSize.toNat none v && vwI s s.fSize.toNat (vIn v (List.replicate s.fSize.toNat false))):=by
 unfold Krc
 simp only
 rw [Kwa,bs]
 cases hs:Kw7 s
 ·rfl
 ·have T:=Kw8 hs
  have hsz:=T.size
  have hhi:=T.hi
  rw [if_pos rfl,Kxs (by omega),bs]
  have hl:=Ky3 T v hv v 0 (List.replicate s.fSize.toNat false) rfl (by simp)
  rw [show ((0:Nat):Int)=0 from rfl,if_pos rfl] at hl
  rw [hl,bs]
  cases Kxu s.fSize.toNat none v
  ·rfl
  ·simp only [if_true]
   rw [Ky2 T (by rw [Kxw]; simp),bs]; rfl
def vwB (s:K00) (v:List Int):Bool:=Kw7 s && Kxu s.fSize.toNat none v && vwI s s.fSize.toNat (vIn v (List.replicate s.fSize.toNat false))
theorem iVw (s:K00) (v:List Int) (hv:v.length ≤ 1099511627776):Krc (s,v)=some (vwB s v):=Ky4 s v hv
theorem Ky5 (l:List Int) (n:Int) (hl:l.length ≤ 1099511627776):∀ (m:List Int) (i:Nat),l.drop i=m→∃ r,Krg (l,n,(i:Int))=some r∧(match r with | .inl _=>m.contains n=false | .inr k=>m.contains n=true∧0 ≤ k):=by
 intro m
 induction m with
 | nil =>
  intro i hd
  rw [Krg.eq_def]
  simp only
  rw [Kst (Ktw hd)]
  exact ⟨_,rfl,rfl⟩
 | cons x m ih =>
  intro i hd
  obtain ⟨hi,hx,hd'⟩:=Ktv hd
  rw [Krg.eq_def]
  simp only
  rw [Kss hi,if_pos rfl,hx,bs,Ksr (by omega),List.contains_cons]
  cases n == x
  ·obtain ⟨r,h1,h2⟩:=ih (i + 1) hd'
   exact ⟨r,by rw [if_neg (by decide)]; exact h1,by simpa using h2⟩
  ·exact ⟨.inr (i:Int),rfl,by simp⟩
theorem Ky6 (l:List Int) (n:Int) (hl:l.length ≤ 1099511627776):Krm (l,n)=some (l.contains n):=by
 unfold Krm Krj
 simp only
 obtain ⟨r,h1,h2⟩:=Ky5 l n hl l 0 rfl
 rw [show (0:Int)=((0:Nat):Int) from rfl,h1,bs]
 cases r with
 | inl u=>simp only at h2; rw [h2]; rfl
 | inr m=>simp only at h2; rw [h2.1]; simp [bs,h2.2]
theorem Ky7 (x y:Int) (l r:List Int):(x :: l == y :: r)=(x == y && l == r):=rfl
theorem Ky8 (a b:List Int) (ha:a.length ≤ 1099511627776) (hab:a.length=b.length):∀ (l r:List Int) (i:Nat),a.drop i=l→b.drop i=r→Ke6 (a,b,(i:Int))=some (if l == r then .inl () else .inr false):=by
 intro l
 induction l with
 | nil =>
  intro r i h1 h2
  have hi:=Ktw h1
  rw [Ke6.eq_def]
  simp only
  rw [Kst hi]
  have:r=[]:=by rw [← h2]; exact List.drop_eq_nil_of_le (by omega)
  subst this; rfl
 | cons x l ih =>
  intro r i h1 h2
  obtain ⟨hi,hx,hd⟩:=Ktv h1
  cases r with
  | nil=>have:=Ktw h2; omega
  | cons y r =>
   obtain ⟨_,hy,hd2⟩:=Ktv h2
   rw [Ke6.eq_def]
   simp only
   rw [Kss hi,if_pos rfl,hx,hy,bs,bs,Ksr (by omega),ih r (i + 1) hd hd2,Ky7]
   by_cases e:x=y
   ·subst e; simp
   ·rw [bne_iff_ne.2 e,if_pos rfl,beq_eq_false_iff_ne.2 e]; rfl
theorem Ky9 (a b:List Int) (hb:b.length ≤ 1099511627776):Ke9 (a,b)=some (a == b):=by
 unfold Ke9
 simp only
 by_cases h:a.length=b.length
 ·rw [h,Ksu,if_neg (by decide)]
  have:=Ky8 a b (by omega) h a b 0 rfl rfl
  rw [show ((0:Nat):Int)=0 from rfl] at this
  rw [this]
  cases a == b <;> rfl
 ·rw [bne_iff_ne.2 (by omega),if_pos rfl]
  have:a ≠ b:=fun e=>h (by rw [e])
  rw [beq_eq_false_iff_ne.2 this]
theorem Kya (a b:List Int) (ha:a.length ≤ 1099511627776) (hab:a.length=b.length):∀ (l r:List Int) (i:Nat),a.drop i=l→b.drop i=r→Knx (a,b,(i:Int))=some (if l == r then .inl () else .inr false):=by
 intro l
 induction l with
 | nil =>
  intro r i h1 h2
  have hi:=Ktw h1
  rw [Knx.eq_def]
  simp only
  rw [Kst hi]
  have:r=[]:=by rw [← h2]; exact List.drop_eq_nil_of_le (by omega)
  subst this; rfl
 | cons x l ih =>
  intro r i h1 h2
  obtain ⟨hi,hx,hd⟩:=Ktv h1
  cases r with
  | nil=>have:=Ktw h2; omega
  | cons y r =>
   obtain ⟨_,hy,hd2⟩:=Ktv h2
   rw [Knx.eq_def]
   simp only
   rw [Kss hi,if_pos rfl,hx,hy,bs,bs,Ksr (by omega),ih r (i + 1) hd hd2,Ky7]
   by_cases e:x=y
   ·subst e; simp
   ·rw [bne_iff_ne.2 e,if_pos rfl,beq_eq_false_iff_ne.2 e]; rfl
theorem Kyb (a b:List Int) (hb:b.length ≤ 1099511627776):Ko0 (a,b)=some (a == b):=by
 unfold Ko0
 simp only
 by_cases h:a.length=b.length
 ·rw [h,Ksu,if_neg (by decide)]
  have:=Kya a b (by omega) h a b 0 rfl rfl
  rw [show ((0:Nat):Int)=0 from rfl] at this
  rw [this]
  cases a == b <;> rfl
 ·rw [bne_iff_ne.2 (by omega),if_pos rfl]
  have:a ≠ b:=fun e=>h (by rw [e])
  rw [beq_eq_false_iff_ne.2 this]
theorem Kyc {α:Type} {l:List α} (h:((l.length:Int) == 0)=true):l=[]:=by
 rw [beq_iff_eq] at h; exact List.length_eq_zero_iff.1 (by omega)
theorem Kyd (g:Int→Bool) (y:List Int→Bool) (n:Nat) (op N:Int) (ty:List Int) (ks:List K01):tOk g y n ⟨op,N,ty,ks⟩=(Kvg g y (n:Int) ⟨op,N,ty,ks⟩ && Kvh g y op n 0 ks):=Kvi ..
theorem Kye (g:Int→Bool) (y:List Int→Bool) (op:Int) (n i:Nat) (k:K01) (ks:List K01):Kvh g y op n i (k :: ks)=(tOk g y (n + Kva op i) k && Kvh g y op n (i + 1) ks):=by rw [Kvh]
theorem Kyf (g:Int→Bool) (y:List Int→Bool) (op:Int) (n i:Nat):Kvh g y op n i []=true:=by rw [Kvh]
theorem Kyg {l:List K01} (h:((l.length:Int) == 1)=true):∃ k,l=[k]:=by
 rw [beq_iff_eq] at h; match l,h with | [k],_=>exact ⟨k,rfl⟩ | [],h=>exact absurd h (by simp) | _ :: _ :: _,h=>exact absurd h (by simp only [List.length_cons]; omega)
theorem Kyh {l:List K01} (h:((l.length:Int) == 2)=true):∃ k m,l=[k,m]:=by
 rw [beq_iff_eq] at h; match l,h with | [k,m],_=>exact ⟨k,m,rfl⟩ | [],h=>exact absurd h (by simp) | [_],h=>exact absurd h (by simp) | _ :: _ :: _ :: _,h=>exact absurd h (by simp only [List.length_cons]; omega)
def Kyi (s:K00) (t:K01) (n:Nat):Bool:=Kw7 s && decide (tsz t ≤ 400) && tOk (gN s.fSize true) (yN s.fSize true) n t
theorem Kyj (s:K00) (t:K01) (n:Nat) (hn:n ≤ 8) (ht:tms t ≤ 1099511627776):Ksk (s,t,(n:Int))=some (Kyi s t n):=by
 unfold Ksk Kyi
 simp only
 rw [Kw9,bs]
 cases Kw7 s
 ·rfl
 ·rw [if_pos rfl,sIn,bs]
  have:inB (n:Int) 0 8=true:=by unfold inB; rw [decide_eq_true (by omega),decide_eq_true (by omega)]; rfl
  have hl:=Kuy t 400 ht (by decide)
  rw [show ((400:Nat):Int)=400 from rfl] at hl
  rw [this,if_pos rfl,hl,bs]
  by_cases h:tsz t ≤ 400
  ·rw [Kuv h,decide_eq_true (by omega),decide_eq_true h,if_pos rfl,Kvk _ _ t n ht (by omega)]
   cases tOk (gN s.fSize true) (yN s.fSize true) n t <;> rfl
  ·rw [Kuw h,decide_eq_false h]; rfl
theorem Kyk {g:Int→Bool} {y:List Int→Bool} {n:Nat} {op N:Int} {ty:List Int} {ks:List K01} (h:tOk g y n ⟨op,N,ty,ks⟩=true) (h0:op=0):ks=[]∧ty=[]∧0 ≤ N∧N < n:=by
 subst h0
 rw [Kyd,Bool.and_eq_true] at h
 have h1:=h.1
 simp only [Kvg,Kve,Kvf,Bool.and_eq_true,show Kv0 0=0 from rfl,show Kv2 0=false from rfl,show ((0:Int) == 0)=true from rfl,if_true,Bool.false_eq_true,if_false] at h1
 have h2:=h1.1.2
 unfold inB at h2
 simp only [Bool.and_eq_true,decide_eq_true_eq] at h2
 exact ⟨Kyc h1.1.1.2,Kyc h1.2,by omega,by omega⟩
mutual
theorem Kyl (b:Int):∀ (t:K01) (f:Int),tsz (shf b f t)=tsz t
 | ⟨op,N,ty,ks⟩,f=>by rw [shf,tsz,tsz,Kym b ks]
theorem Kym (b:Int):∀ (ks:List K01) (op f:Int) (i:Nat),Kuq (Kx9 b op f i ks)=Kuq ks
 | [],op,f,i=>by rw [Kx9]
 | k :: ks,op,f,i=>by rw [Kx9,Kuq,Kuq,Kyl b k,Kym b ks]
end
theorem Kyn (g:Int→Bool) (y:List Int→Bool) (n m:Int) (op N:Int) (ty:List Int) (ks js:List K01) (h0:(op == 0)=false) (hl:ks.length=js.length):Kvg g y n ⟨op,N,ty,ks⟩=Kvg g y m ⟨op,N,ty,js⟩:=by
 unfold Kvg Kve Kvf
 simp only [h0,hl]
 rfl
theorem Kyo (g:Int→Bool) (y:List Int→Bool) (n:Nat) (N:Int) (h:0 ≤ N∧N < n):tOk g y n ⟨0,N,[],[]⟩=true:=by
 rw [Kyd,Kyf]
 unfold Kvg Kve Kvf
 simp only [show inB 0 0 12=true from rfl,show Kv0 0=0 from rfl,show Kv2 0=false from rfl,show ((0:Int) == 0)=true from rfl,if_true,Bool.false_eq_true,if_false]
 unfold inB
 rw [decide_eq_true (by omega:N ≥ 0),decide_eq_true (by omega:N ≤ (n:Int) - 1)]
 rfl
mutual
theorem Kyp (g:Int→Bool) (y:List Int→Bool) (b:Nat):∀ (t:K01) (n:Nat) (f:Int),tOk g y n t=true→tOk g y (n + b) (shf (b:Int) f t)=true
 | ⟨op,N,ty,ks⟩,n,f,h=>by
  rw [shf]
  cases h0:op == 0
  ·rw [Kyd,Bool.and_eq_true] at h
   rw [Kyd,Bool.false_and,if_neg (by decide),Kyn g y _ (n:Int) op N ty _ ks h0 (Kxc (b:Int) ks op f 0),h.1,Kyq g y b ks op n 0 f h.2]; rfl
  ·have h0:=eq_of_beq h0
   obtain ⟨rfl,rfl,h1,h2⟩:=Kyk h h0
   subst h0
   rw [Kx9]
   refine Kyo g y _ _ ?_
   split <;> omega
theorem Kyq (g:Int→Bool) (y:List Int→Bool) (b:Nat):∀ (ks:List K01) (op:Int) (n i:Nat) (f:Int),Kvh g y op n i ks=true→Kvh g y op (n + b) i (Kx9 (b:Int) op f i ks)=true
 | [],op,n,i,f,h=>by rw [Kx9,Kyf]
 | k :: ks,op,n,i,f,h=>by
  rw [Kye,Bool.and_eq_true] at h
  rw [Kx9,Kye,Kyq g y b ks op n (i + 1) f h.2,show n + b + Kva op (i:Int)=n + Kva op (i:Int) + b by omega,Kyp g y b k _ _ h.1]; rfl
end
mutual
theorem Kyr {g:Int→Bool}:∀ (t:K01) (n:Nat),tOk g wtB n t=true→tms t + 3 ≤ 43 * tsz t + 3∧t.fKids.length ≤ 3
 | ⟨op,N,ty,ks⟩,n,h=>by
  obtain ⟨h1,h2⟩:=Kvr h
  have h3:=(Kvs h1).2
  have h4:=Kvu h1
  have h5:=Kys ks op n 0 h2
  have h6:Kv0 op ≤ 3:=by rcases Kv4 h4.1 with h | h | h | h | h | h | h | h | h | h | h | h | h <;> (simp only at h; subst h; decide)
  have h7:=h4.2
  simp only at h3 h7 ⊢
  rw [tms,tsz]; omega
theorem Kys {g:Int→Bool}:∀ (ks:List K01) (op:Int) (n i:Nat),Kvh g wtB op n i ks=true→Kur ks ≤ 43 * Kuq ks
 | [],op,n,i,h=>by rw [Kur]; omega
 | k :: ks,op,n,i,h=>by
  rw [Kye,Bool.and_eq_true] at h
  have h1:=(Kyr k _ h.1).1
  have h2:=Kys ks op n (i + 1) h.2
  rw [Kur,Kuq]; omega
end
theorem Kyt (op N:Int) (ty:List Int) (a:K01):tsz ⟨op,N,ty,[a]⟩=1 + tsz a:=by simp [tsz,Kuq]
theorem Kyu (op N:Int) (ty:List Int) (a b:K01):tsz ⟨op,N,ty,[a,b]⟩=1 + (tsz a + tsz b):=by simp [tsz,Kuq]
theorem Kyv (op N:Int) (ty:List Int) (a b c:K01):tsz ⟨op,N,ty,[a,b,c]⟩=1 + (tsz a + (tsz b + tsz c)):=by simp [tsz,Kuq]
theorem Kyw {l:List K01} (h:(l.length:Int)=3):∃ a b c,l=[a,b,c]:=by
 match l,h with | [a,b,c],_=>exact ⟨a,b,c,rfl⟩ | [],h=>exact absurd h (by simp) | [_],h=>exact absurd h (by simp) | [_,_],h=>exact absurd h (by simp) | _ :: _ :: _ :: _ :: _,h=>exact absurd h (by simp only [List.length_cons]; omega)
def lms (l:List (List Int)):Nat:=l.length + lct l
def Kyx (l:List Nat):List Int:=l.map fun x:Nat=>(x:Int)
theorem Kyy (l:List Nat):(Kyx l).length=l.length:=List.length_map ..
theorem Kyz (l:List Nat) (i:Nat):(Kyx l).drop i=Kyx (l.drop i):=(List.map_drop ..).symm
theorem Kz0 (l:List Nat) (i:Nat):(Kyx l).take i=Kyx (l.take i):=(List.map_take ..).symm
theorem Kz1 {l r:List Nat} {x i:Nat} (h:l.drop i=x :: r):i < l.length∧idx (Kyx l) (i:Int)=some (x:Int)∧l.drop (i + 1)=r:=by
 have h2:(Kyx l).drop i=(x:Int) :: Kyx r:=by rw [Kyz,h]; rfl
 obtain ⟨q1,q2,q3⟩:=Ktv h2
 rw [Kyy] at q1
 refine ⟨q1,q2,?_⟩
 rw [← List.drop_drop,h]
 rfl
structure Kz2 (s:K00) (n:Nat):Prop where
 tab:Tab s n
 one:∀ a,a < n→Kt8 s n a=true
 two:∀ a b,a < n→b < n→Ktl s n a b=true
theorem Kz3 {s:K00} (h:Kw7 s=true):Kz2 s s.fSize.toNat:=by
 have ht:=Kw8 h
 unfold Kw7 at h
 simp only [Bool.and_eq_true] at h
 have hm:=h.2
 unfold Kto at hm
 rw [List.all_eq_true] at hm
 refine ⟨ht,fun a ha=>?_,fun a b ha hb=>?_⟩
 ·have:=hm a (by rw [List.mem_range'_1]; omega)
  simp only [Bool.and_eq_true] at this
  exact this.1
 ·have:=hm a (by rw [List.mem_range'_1]; omega)
  simp only [Bool.and_eq_true,List.all_eq_true] at this
  exact (this.2 b (by rw [List.mem_range'_1]; omega)).1
section
variable {s:K00} {n:Nat} (hs:Kz2 s n)
include hs
theorem Kz4:1 < n:=by have:=hs.tab.lo; omega
theorem Kz5:0 < n:=by have:=hs.tab.lo; omega
theorem Kz6 {a:Nat} (ha:a < n):pl s n 0 a=a:=by
 have:=hs.one a ha
 simp only [Kt8,Bool.and_eq_true,beq_iff_eq] at this
 exact this.1.1.1.1.1
theorem Kz7 {a:Nat} (ha:a < n):ti s n 1 a=a:=by
 have:=hs.one a ha
 simp only [Kt8,Bool.and_eq_true,beq_iff_eq] at this
 exact this.1.1.1.1.2
def Kz8 (s:K00) (n a b:Nat):Nat:=(Kte s n a b).toNat
theorem Kz9 {a b:Nat} (ha:a < n) (hb:b < n):Kte s n a b=((Kz8 s n a b:Nat):Int)∧Kz8 s n a b < n:=by
 have h:=hs.two a b ha hb
 simp only [Ktl,Bool.and_eq_true,decide_eq_true_eq] at h
 have h0:=h.2
 unfold Kz8
 refine ⟨by omega,?_⟩
 unfold Kte at h0 ⊢
 cases hf:(List.range' 0 n).find? (jok s n a b) with
 | none=>rw [hf] at h0; exact absurd h0 (by decide)
 | some g =>
  have:=List.mem_of_find?_eq_some hf
  rw [List.mem_range'_1] at this
  simp only [Int.toNat_natCast]
  omega
end
def Kza (s:K00) (n:Nat) (a b:List Nat):List Nat:=List.zipWith (pl s n) a b
def Kzb (s:K00) (n g:Nat) (a:List Nat):List Nat:=a.map (ti s n g)
def Kzc (s:K00) (n:Nat) (a b:List Nat):List Nat:=List.zipWith (Kz8 s n) a b
def Kzd (n:Nat) (l:List Nat):Prop:=∀ x ∈ l,x < n
theorem Kze {n x:Nat} {l:List Nat} (h:Kzd n (x :: l)):x < n∧Kzd n l:=⟨h x List.mem_cons_self,fun y hy=>h y (List.mem_cons_of_mem _ hy)⟩
theorem Kzf {n:Nat} {l:List Nat} (h:Kzd n l) (i:Nat):Kzd n (l.drop i):=fun x hx=>h x (List.mem_of_mem_drop hx)
section
variable {s:K00} {n:Nat} (hs:Kz2 s n)
include hs
theorem Kzg:∀ {a b:List Nat},Kzd n a→Kzd n b→Kzd n (Kza s n a b)
 | [],_,_,_=>fun x hx=>by cases hx
 | _ :: _,[],_,_=>fun x hx=>by cases hx
 | x :: a,y :: b,ha,hb=>fun z hz=>by
  obtain ⟨h1,h2⟩:=Kze ha
  obtain ⟨h3,h4⟩:=Kze hb
  rcases List.mem_cons.1 hz with rfl | hz
  ·exact Ksx hs.tab h1 h3
  ·exact Kzg h2 h4 z hz
theorem Kzh {g:Nat} (hg:g < n) {a:List Nat} (ha:Kzd n a):Kzd n (Kzb s n g a):=fun x hx=>by
 obtain ⟨y,hy,rfl⟩:=List.mem_map.1 hx
 exact Ksy hs.tab hg (ha y hy)
theorem Kzi:∀ {a b:List Nat},Kzd n a→Kzd n b→Kzd n (Kzc s n a b)
 | [],_,_,_=>fun x hx=>by cases hx
 | _ :: _,[],_,_=>fun x hx=>by cases hx
 | x :: a,y :: b,ha,hb=>fun z hz=>by
  obtain ⟨h1,h2⟩:=Kze ha
  obtain ⟨h3,h4⟩:=Kze hb
  rcases List.mem_cons.1 hz with rfl | hz
  ·exact (Kz9 hs h1 h3).2
  ·exact Kzi h2 h4 z hz
theorem Kzj {a:List Nat} (ha:Kzd n a):Kzb s n 1 a=a:=by
 induction a with
 | nil=>rfl
 | cons x a ih =>
  obtain ⟨h1,h2⟩:=Kze ha
  show ti s n 1 x :: Kzb s n 1 a=_
  rw [Kz7 hs h1,ih h2]
theorem Kzk {a:List Nat} (ha:Kzd n a):Kza s n (List.replicate a.length 0) a=a:=by
 induction a with
 | nil=>rfl
 | cons x a ih =>
  obtain ⟨h1,h2⟩:=Kze ha
  show pl s n 0 x :: Kza s n (List.replicate a.length 0) a=_
  rw [Kz6 hs h1,ih h2]
theorem Kzl (g:Nat) (hg:g < n) (a b:List Nat) (ha:Kzd n a) (hb:Kzd n b) (hl:a.length ≤ 1099511627776):∀ (al bl:List Nat) (i:Nat) (out:List Int),a.drop i=al→b.drop i=bl→al.length=bl.length→out.length + al.length ≤ 1099511627776 →
  Kfe (s,Kyx a,(g:Int),Kyx b,out,(i:Int))=some (out ++ Kyx (Kza s n al (Kzb s n g bl))):=by
 intro al
 induction al with
 | nil =>
  intro bl i out hd _ _ _
  rw [Kfe.eq_def]
  simp only
  rw [Kyy,Kst (Ktw hd)]
  simp [Kza,Kyx]
 | cons x al ih =>
  intro bl i out hd hd2 hll ho
  cases bl with
  | nil=>simp at hll
  | cons y bl =>
   obtain ⟨h1,h2,h3⟩:=Kz1 hd
   obtain ⟨k1,k2,k3⟩:=Kz1 hd2
   have hx:x < n:=Kzf ha i x (by rw [hd]; exact List.mem_cons_self)
   have hy:y < n:=Kzf hb i y (by rw [hd2]; exact List.mem_cons_self)
   rw [Kfe.eq_def]
   simp only
   simp only [List.length_cons] at ho hll
   rw [Kyy,Kss h1,if_pos rfl,h2,bs,k2,bs,Kt3 hs.tab hg hy,bs,Kt2 hs.tab hx (Ksy hs.tab hg hy),bs,Kvt (by simp; omega),bs,Ksr (by omega),ih bl (i + 1) _ h3 k3 (by omega) (by simp; omega)]
   rw [List.append_assoc]
   rfl
theorem Kzm (g:Nat) (hg:g < n) (a b:List Nat) (ha:Kzd n a) (hb:Kzd n b) (hl:a.length ≤ 1048576) (hab:a.length=b.length):Kfh (s,Kyx a,(g:Int),Kyx b)=some (Kyx (Kza s n a (Kzb s n g b))):=by
 unfold Kfh
 simp only
 rw [show (0:Int)=((0:Nat):Int) from rfl,Kzl hs g hg a b ha hb (by omega) a b 0 [] rfl rfl hab (by simp; omega)]
 rfl
theorem Kzn (a b:List Nat) (ha:Kzd n a) (hb:Kzd n b) (hl:a.length ≤ 1048576) (hab:a.length=b.length):Kfh (s,Kyx a,1,Kyx b)=some (Kyx (Kza s n a b)):=by
 have:=Kzm hs 1 (Kz4 hs) a b ha hb hl hab
 rw [Kzj hs hb] at this
 exact this
theorem Kzo (a b:List Nat) (ha:Kzd n a) (hb:Kzd n b) (hl:a.length ≤ 1099511627776):∀ (al bl:List Nat) (i:Nat) (out:List Int),a.drop i=al→b.drop i=bl→al.length=bl.length→out.length + al.length ≤ 1099511627776 →
  Kfo (s,Kyx a,Kyx b,out,(i:Int))=some (out ++ Kyx (Kzc s n al bl)):=by
 intro al
 induction al with
 | nil =>
  intro bl i out hd _ _ _
  rw [Kfo.eq_def]
  simp only
  rw [Kyy,Kst (Ktw hd)]
  simp [Kzc,Kyx]
 | cons x al ih =>
  intro bl i out hd hd2 hll ho
  cases bl with
  | nil=>simp at hll
  | cons y bl =>
   obtain ⟨h1,h2,h3⟩:=Kz1 hd
   obtain ⟨k1,k2,k3⟩:=Kz1 hd2
   have hx:x < n:=Kzf ha i x (by rw [hd]; exact List.mem_cons_self)
   have hy:y < n:=Kzf hb i y (by rw [hd2]; exact List.mem_cons_self)
   rw [Kfo.eq_def]
   simp only
   simp only [List.length_cons] at ho hll
   rw [Kyy,Kss h1,if_pos rfl,h2,bs,k2,bs,Ktj hs.tab hx hy,bs,(Kz9 hs hx hy).1,Kvt (by simp; omega),bs,Ksr (by omega),ih bl (i + 1) _ h3 k3 (by omega) (by simp; omega)]
   rw [List.append_assoc]
   rfl
theorem Kzp (a b:List Nat) (ha:Kzd n a) (hb:Kzd n b) (hl:a.length ≤ 1048576) (hab:a.length=b.length):Kfr (s,Kyx a,Kyx b)=some (Kyx (Kzc s n a b)):=by
 unfold Kfr
 simp only
 rw [show (0:Int)=((0:Nat):Int) from rfl,Kzo hs a b ha hb (by omega) a b 0 [] rfl rfl hab (by simp; omega)]
 rfl
end
theorem Kzq {α:Type} {out:List α} {i:Nat} (h:i < out.length) (x:α):(out.set i x).take (i + 1)=out.take i ++ [x]:=by
 rw [List.take_set,List.take_succ_eq_append_getElem h,List.set_append_right _ _ (by simp; omega)]
 simp [Nat.min_eq_left (Nat.le_of_lt h)]
section
variable {s:K00} {n:Nat} (hs:Kz2 s n)
include hs
theorem Kzr (a b:List Nat) (ha:Kzd n a) (hb:Kzd n b) (hl:a.length ≤ 1099511627776):∀ (al bl:List Nat) (i:Nat) (out:List Int),a.drop i=al→b.drop i=bl→al.length=bl.length→out.length=a.length →
  Ko7 (s,Kyx a,Kyx b,out,(i:Int))=some (out.take i ++ Kyx (Kza s n al bl)):=by
 intro al
 induction al with
 | nil =>
  intro bl i out hd _ _ ho
  rw [Ko7.eq_def]
  simp only
  have:=Ktw hd
  rw [Kyy,Kst this]
  simp [Kza,Kyx,List.take_of_length_le (show out.length ≤ i by omega)]
 | cons x al ih =>
  intro bl i out hd hd2 hll ho
  cases bl with
  | nil=>simp at hll
  | cons y bl =>
   obtain ⟨h1,h2,h3⟩:=Kz1 hd
   obtain ⟨k1,k2,k3⟩:=Kz1 hd2
   have hx:x < n:=Kzf ha i x (by rw [hd]; exact List.mem_cons_self)
   have hy:y < n:=Kzf hb i y (by rw [hd2]; exact List.mem_cons_self)
   rw [Ko7.eq_def]
   simp only
   simp only [List.length_cons] at hll
   have hio:i < out.length:=by omega
   rw [Kyy,Kss h1,if_pos rfl,h2,bs,k2,bs,Kt4 hs.tab hx hy,bs,Ksq hio,bs,Ksr (by omega),Int.toNat_natCast,ih bl (i + 1) _ h3 k3 (by omega) (by rw [List.length_set]; exact ho)]
   rw [Kzq hio,List.append_assoc]
   rfl
theorem Kzs (a b:List Nat) (ha:Kzd n a) (hb:Kzd n b) (hl:a.length ≤ 1048576) (hab:a.length=b.length):Kod (⟨s⟩,Kyx a,Kyx b)=some (Kyx (Kza s n a b)):=by
 unfold Kod Koa
 simp only
 rw [Kyy,Kxs (by simp; omega),bs,Int.toNat_natCast,show (0:Int)=((0:Nat):Int) from rfl]
 rw [show (List.replicate a.length (((0:Nat):Int)))=List.replicate a.length (0:Int) from rfl,Kzr hs a b ha hb (by omega) a b 0 _ rfl rfl hab (by simp)]
 rfl
theorem Kzt (a b:List Nat) (ha:Kzd n a) (hb:Kzd n b) (hl:a.length ≤ 1099511627776):∀ (al bl:List Nat) (i:Nat) (out:List Int),a.drop i=al→b.drop i=bl→al.length=bl.length→out.length=a.length →
  Kok (s,Kyx a,Kyx b,out,(i:Int))=some (out.take i ++ Kyx (Kzc s n al bl)):=by
 intro al
 induction al with
 | nil =>
  intro bl i out hd _ _ ho
  rw [Kok.eq_def]
  simp only
  have:=Ktw hd
  rw [Kyy,Kst this]
  simp [Kzc,Kyx,List.take_of_length_le (show out.length ≤ i by omega)]
 | cons x al ih =>
  intro bl i out hd hd2 hll ho
  cases bl with
  | nil=>simp at hll
  | cons y bl =>
   obtain ⟨h1,h2,h3⟩:=Kz1 hd
   obtain ⟨k1,k2,k3⟩:=Kz1 hd2
   have hx:x < n:=Kzf ha i x (by rw [hd]; exact List.mem_cons_self)
   have hy:y < n:=Kzf hb i y (by rw [hd2]; exact List.mem_cons_self)
   rw [Kok.eq_def]
   simp only
   simp only [List.length_cons] at hll
   have hio:i < out.length:=by omega
   rw [Kyy,Kss h1,if_pos rfl,h2,bs,k2,bs,Ktk hs.tab hx hy,bs,(Kz9 hs hx hy).1,Ksq hio,bs,Ksr (by omega),Int.toNat_natCast,ih bl (i + 1) _ h3 k3 (by omega) (by rw [List.length_set]; exact ho)]
   rw [Kzq hio,List.append_assoc]
   rfl
theorem Kzu (a b:List Nat) (ha:Kzd n a) (hb:Kzd n b) (hl:a.length ≤ 1048576) (hab:a.length=b.length):Koq (⟨s⟩,Kyx a,Kyx b)=some (Kyx (Kzc s n a b)):=by
 unfold Koq Kon
 simp only
 rw [Kyy,Kxs (by simp; omega),bs,Int.toNat_natCast,show (0:Int)=((0:Nat):Int) from rfl]
 rw [show (List.replicate a.length (((0:Nat):Int)))=List.replicate a.length (0:Int) from rfl,Kzt hs a b ha hb (by omega) a b 0 _ rfl rfl hab (by simp)]
 rfl
theorem Kzv (g:Nat) (hg:g < n) (a:List Nat) (ha:Kzd n a) (hl:a.length ≤ 1099511627776):∀ (al:List Nat) (i:Nat) (out:List Int),a.drop i=al→out.length=a.length →
  Kpo (⟨s⟩,(g:Int),Kyx a,out,(i:Int))=some (out.take i ++ Kyx (Kzb s n g al)):=by
 intro al
 induction al with
 | nil =>
  intro i out hd ho
  rw [Kpo.eq_def]
  simp only
  have:=Ktw hd
  rw [Kyy,Kst this]
  simp [Kzb,Kyx,List.take_of_length_le (show out.length ≤ i by omega)]
 | cons x al ih =>
  intro i out hd ho
  obtain ⟨h1,h2,h3⟩:=Kz1 hd
  have hx:x < n:=Kzf ha i x (by rw [hd]; exact List.mem_cons_self)
  rw [Kpo.eq_def]
  simp only
  have hio:i < out.length:=by omega
  rw [Kyy,Kss h1,if_pos rfl,h2,bs,Kt5 hs.tab hg hx,bs,Ksq hio,bs,Ksr (by omega),Int.toNat_natCast,ih (i + 1) _ h3 (by rw [List.length_set]; exact ho)]
  rw [Kzq hio,List.append_assoc]
  rfl
theorem Kzw (g:Nat) (hg:g < n) (a:List Nat) (ha:Kzd n a) (hl:a.length ≤ 1048576):Kpr (⟨s⟩,(g:Int),Kyx a)=some (Kyx (Kzb s n g a)):=by
 unfold Kpr
 simp only
 rw [Kyy,Kxs (by simp; omega),bs,Int.toNat_natCast,show (0:Int)=((0:Nat):Int) from rfl]
 rw [show (List.replicate a.length (((0:Nat):Int)))=List.replicate a.length (0:Int) from rfl,Kzv hs g hg a ha (by omega) a 0 _ rfl (by simp)]
 rfl
theorem Kzx (g:Nat) (hg:g < n) (a:List Nat) (ha:Kzd n a) (hl:a.length ≤ 1099511627776):∀ (al:List Nat) (i:Nat),a.drop i=al →
  ∃ r,Kpb (Kyx a,⟨s⟩,(g:Int),(i:Int))=some r∧(match r with | .inl _=>(al.all fun x=>le s n x g)=true | .inr j=>(al.all fun x=>le s n x g)=false∧0 ≤ j):=by
 intro al
 induction al with
 | nil =>
  intro i hd
  rw [Kpb.eq_def]
  simp only
  rw [Kyy,Kst (Ktw hd)]
  exact ⟨_,rfl,rfl⟩
 | cons x al ih =>
  intro i hd
  obtain ⟨h1,h2,h3⟩:=Kz1 hd
  have hx:x < n:=Kzf ha i x (by rw [hd]; exact List.mem_cons_self)
  rw [Kpb.eq_def]
  simp only
  rw [Kyy,Kss h1,if_pos rfl,h2,bs]
  unfold Kp7
  simp only
  rw [iLe hs.tab hx hg]
  simp only [bs]
  cases hle:le s n x g with
  | true =>
   obtain ⟨r,hr,hm⟩:=ih (i + 1) h3
   refine ⟨r,?_,?_⟩
   ·rw [if_neg (by simp),Ksr (by omega)]; exact hr
   ·rw [List.all_cons,hle,Bool.true_and]; exact hm
  | false =>
   exact ⟨_,if_pos rfl,by simp [List.all_cons,hle]⟩
theorem Kzy (g:Nat) (hg:g < n) (a:List Nat) (ha:Kzd n a) (hl:a.length ≤ 1048576):Kpk (⟨s⟩,Kyx a,(g:Int))=some (a.all fun x=>le s n x g):=by
 obtain ⟨r,hr,hm⟩:=Kzx hs g hg a ha (by omega) a 0 rfl
 unfold Kpk Kph Kpe
 simp only
 rw [show (0:Int)=((0:Nat):Int) from rfl,hr]
 cases r with
 | inl _=>simp only [bs] at hm ⊢; rw [hm]; rfl
 | inr j =>
  simp only [bs] at hm ⊢
  rw [hm.1,decide_eq_true (by omega)]; rfl
end
end Go.Am
