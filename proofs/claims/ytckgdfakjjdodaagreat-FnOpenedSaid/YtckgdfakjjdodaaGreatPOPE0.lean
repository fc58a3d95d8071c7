/- Plain laws of the printed functions. -/
import Derived.Test.YtckgdfakjjdodaaGreatPOPEx
set_option linter.unusedSimpArgs false
set_option linter.unusedVariables false
namespace Go.Am
theorem Kmi {x:Int} (h1:-9223372036854775808 ≤ x) (h2:x ≤ 9223372036854775807):wr x=x:=by
 unfold wr IntKind.wrap
 simp [IntKind.bits,IntKind.signed]
 omega
theorem Kmj {α:Type} {l:List α} {n:Nat} (h:n < l.length):idx l (n:Int)=some l[n]:=by
 unfold idx
 rw [if_pos (by omega)]
 simp [h]
theorem bs {α β:Type} (a:α) (f:α→Option β):(some a >>= f)=f a:=rfl
theorem Kmk {n:Nat} (h:n < 9223372036854775807):wr ((n:Int) + 1)=((n + 1:Nat):Int):=by
 rw [Kmi (by omega) (by omega)]; omega
theorem Kml {n m:Nat} (h:n < m):decide ((n:Int) < (m:Int))=true:=decide_eq_true (by omega)
theorem Kmm {n m:Nat} (h:m ≤ n):decide ((n:Int) < (m:Int))=false:=decide_eq_false (by omega)
theorem Kmn {a:Int}:(a != a)=false:=by simp
structure Tab (s:K02) (n:Nat):Prop where
 size:s.fSize=(n:Int)
 lo:2 ≤ n
 hi:n ≤ 16
 lp:s.fPlus.length=n * n
 lt:s.fTimes.length=n * n
 lb:s.fBelow.length=n * n
 rp:∀ i (h:i < s.fPlus.length),0 ≤ s.fPlus[i]∧s.fPlus[i] < (n:Int)
 rt:∀ i (h:i < s.fTimes.length),0 ≤ s.fTimes[i]∧s.fTimes[i] < (n:Int)
def pl (s:K02) (n a b:Nat):Nat:=(s.fPlus.getD (a * n + b) 0).toNat
def ti (s:K02) (n a b:Nat):Nat:=(s.fTimes.getD (a * n + b) 0).toNat
def le (s:K02) (n a b:Nat):Bool:=s.fBelow.getD (a * n + b) false
theorem Kmo {n a b:Nat} (ha:a < n) (hb:b < n):a * n + b < n * n:=by
 have:(a + 1) * n ≤ n * n:=Nat.mul_le_mul_right _ (by omega)
 rw [Nat.add_mul,Nat.one_mul] at this
 omega
theorem Kmp {n a b:Nat} (hn:n ≤ 16) (ha:a < n) (hb:b < n):wr ((wr ((a:Int) * (n:Int))) + (b:Int))=((a * n + b:Nat):Int):=by
 have h1:a * n ≤ 256:=Nat.le_trans (Nat.mul_le_mul (by omega:a ≤ 16) hn) (by decide)
 have e:(a:Int) * (n:Int)=((a * n:Nat):Int):=by simp
 rw [e]
 generalize a * n=m at h1
 rw [Kmi (x:=(m:Int)) (by omega) (by omega),Kmi (by omega) (by omega)]
 omega
section
variable {s:K02} {n:Nat} (h:Tab s n)
include h
theorem Kmq {a b:Nat} (ha:a < n) (hb:b < n):pl s n a b < n:=by
 have hl:a * n + b < s.fPlus.length:=by rw [h.lp]; exact Kmo ha hb
 unfold pl
 rw [List.getD_eq_getElem?_getD,List.getElem?_eq_getElem hl]
 have:=h.rp _ hl
 simp only [Option.getD_some]
 omega
theorem Kmr {a b:Nat} (ha:a < n) (hb:b < n):ti s n a b < n:=by
 have hl:a * n + b < s.fTimes.length:=by rw [h.lt]; exact Kmo ha hb
 unfold ti
 rw [List.getD_eq_getElem?_getD,List.getElem?_eq_getElem hl]
 have:=h.rt _ hl
 simp only [Option.getD_some]
 omega
theorem Kms {a b:Nat} (ha:a < n) (hb:b < n):idx s.fPlus ((a * n + b:Nat):Int)=some ((pl s n a b:Nat):Int):=by
 have hl:a * n + b < s.fPlus.length:=by rw [h.lp]; exact Kmo ha hb
 rw [Kmj hl]
 unfold pl
 rw [List.getD_eq_getElem?_getD,List.getElem?_eq_getElem hl]
 have:=h.rp _ hl
 simp only [Option.getD_some]
 congr 1
 omega
theorem Kmt {a b:Nat} (ha:a < n) (hb:b < n):idx s.fTimes ((a * n + b:Nat):Int)=some ((ti s n a b:Nat):Int):=by
 have hl:a * n + b < s.fTimes.length:=by rw [h.lt]; exact Kmo ha hb
 rw [Kmj hl]
 unfold ti
 rw [List.getD_eq_getElem?_getD,List.getElem?_eq_getElem hl]
 have:=h.rt _ hl
 simp only [Option.getD_some]
 congr 1
 omega
theorem Kmu {a b:Nat} (ha:a < n) (hb:b < n):idx s.fBelow ((a * n + b:Nat):Int)=some (le s n a b):=by
 have hl:a * n + b < s.fBelow.length:=by rw [h.lb]; exact Kmo ha hb
 rw [Kmj hl]
 unfold le
 rw [List.getD_eq_getElem?_getD,List.getElem?_eq_getElem hl]
 rfl
theorem Kmv {a b:Nat} (ha:a < n) (hb:b < n):K9a (s,(a:Int),(b:Int))=some ((pl s n a b:Nat):Int):=by
 unfold K9a
 simp only
 rw [h.size,Kmp h.hi ha hb,Kms h ha hb,bs]
theorem Kmw {a b:Nat} (ha:a < n) (hb:b < n):K9d (s,(a:Int),(b:Int))=some ((ti s n a b:Nat):Int):=by
 unfold K9d
 simp only
 rw [h.size,Kmp h.hi ha hb,Kmt h ha hb,bs]
theorem sLe {a b:Nat} (ha:a < n) (hb:b < n):K9g (s,(a:Int),(b:Int))=some (le s n a b):=by
 unfold K9g
 simp only
 rw [h.size,Kmp h.hi ha hb,Kmu h ha hb,bs]
theorem Kmx {a b:Nat} (ha:a < n) (hb:b < n):Klc (s,(a:Int),(b:Int))=some ((pl s n a b:Nat):Int):=by
 unfold Klc
 simp only
 rw [h.size,Kmp h.hi ha hb,Kms h ha hb,bs]
theorem Kmy {a b:Nat} (ha:a < n) (hb:b < n):Kld (s,(a:Int),(b:Int))=some ((ti s n a b:Nat):Int):=by
 unfold Kld
 simp only
 rw [h.size,Kmp h.hi ha hb,Kmt h ha hb,bs]
theorem iLe {a b:Nat} (ha:a < n) (hb:b < n):Kle (s,(a:Int),(b:Int))=some (le s n a b):=by
 unfold Kle
 simp only
 rw [h.size,Kmp h.hi ha hb,Kmu h ha hb,bs]
end
theorem Kmz (x y:Nat):(((x:Nat):Int) == ((y:Nat):Int))=(x == y):=by
 cases hb:(x == y) with
 | true=>have:=eq_of_beq hb; subst this; simp
 | false=>simp at hb ⊢; omega
theorem Kn0 (x y:Nat):(((x:Nat):Int) != ((y:Nat):Int))=(x != y):=by
 simp only [bne,Kmz]
def Kn1 (s:K02) (n a:Nat):Bool:=(pl s n 0 a == a) && (ti s n 1 a == a) && (ti s n a 1 == a) && (ti s n 0 a == 0) && (ti s n a 0 == 0) && le s n a a
def Kn2 (s:K02) (n a b c:Nat):Bool :=
 (pl s n (pl s n a b) c == pl s n a (pl s n b c)) && (ti s n (ti s n a b) c == ti s n a (ti s n b c)) &&
 (ti s n a (pl s n b c) == pl s n (ti s n a b) (ti s n a c)) && (ti s n (pl s n a b) c == pl s n (ti s n a c) (ti s n b c)) &&
 (!(le s n a b) || ((!(le s n b c) || le s n a c) && le s n (pl s n a c) (pl s n b c) && le s n (ti s n a c) (ti s n b c) && le s n (ti s n c a) (ti s n c b)))
section
variable {s:K02} {n:Nat} (h:Tab s n)
include h
theorem Kn3 {a:Nat} (ha:a < n):K9j (s,(a:Int))=some (Kn1 s n a):=by
 have l0:(0:Nat) < n:=by have:=h.lo; omega
 have l1:(1:Nat) < n:=by have:=h.lo; omega
 have e0:(0:Int)=((0:Nat):Int):=rfl
 have e1:(1:Int)=((1:Nat):Int):=rfl
 unfold K9j Kn1
 simp only
 rw [e0,e1]
 simp only [Kmv h l0 ha,Kmw h l1 ha,Kmw h ha l1,Kmw h l0 ha,Kmw h ha l0,sLe h ha ha,bs,Kmz]
 generalize (pl s n 0 a == a)=b1
 generalize (ti s n 1 a == a)=b2
 generalize (ti s n a 1 == a)=b3
 generalize (ti s n 0 a == 0)=b4
 generalize (ti s n a 0 == 0)=b5
 generalize le s n a a=b6
 cases b1 <;> cases b2 <;> cases b3 <;> cases b4 <;> cases b5 <;> cases b6 <;> rfl
theorem Kn4 {a b c:Nat} (ha:a < n) (hb:b < n) (hc:c < n):Ka0 (s,(a:Int),(b:Int),(c:Int))=some (Kn2 s n a b c):=by
 unfold Ka0 Kn2
 simp only
 simp only [Kmv h,Kmw h,sLe h,Kmq h,Kmr h,ha,hb,hc,bs,Kn0]
 generalize e1:pl s n (pl s n a b) c=x1
 generalize e2:pl s n a (pl s n b c)=x2
 generalize e3:ti s n (ti s n a b) c=x3
 generalize e4:ti s n a (ti s n b c)=x4
 generalize ti s n a (pl s n b c)=x5
 generalize pl s n (ti s n a b) (ti s n a c)=x6
 generalize ti s n (pl s n a b) c=x7
 generalize pl s n (ti s n a c) (ti s n b c)=x8
 generalize le s n (pl s n a c) (pl s n b c)=y1
 generalize le s n (ti s n a c) (ti s n b c)=y2
 generalize le s n (ti s n c a) (ti s n c b)=y3
 generalize le s n a b=y4
 generalize le s n b c=y5
 generalize le s n a c=y6
 simp only [bne]
 generalize (x1 == x2)=b1
 generalize (x3 == x4)=b2
 generalize (x5 == x6)=b3
 generalize (x7 == x8)=b4
 cases b1 <;> cases b2 <;> cases b3 <;> cases b4 <;> first | rfl | (cases y4 <;> cases y5 <;> cases y6 <;> cases y1 <;> cases y2 <;> cases y3 <;> rfl)
end
def Kn5 (s:K02) (n a b g h:Nat):Bool:=!le s n a h || !le s n b h || le s n g h
def jok (s:K02) (n a b g:Nat):Bool:=le s n a g && le s n b g && (List.range' 0 n).all (Kn5 s n a b g)
def Kn6 (s:K02) (n a b:Nat):Int:=match (List.range' 0 n).find? (jok s n a b) with | some g=>(g:Int) | none=>-1
section
variable {s:K02} {n:Nat} (h:Tab s n)
include h
theorem Kn7 {a b g:Nat} (ha:a < n) (hb:b < n) (hg:g < n):∀ (k m:Nat) (ok:Bool),m + k=n→K9n (s,(a:Int),(b:Int),(g:Int),ok,(m:Int))=some (ok && (List.range' m k).all (Kn5 s n a b g)):=by
 have hhi:=h.hi
 intro k
 induction k with
 | zero =>
  intro m ok hm
  rw [K9n.eq_def]
  simp only
  rw [h.size,Kmm (by omega)]
  simp [bs]
 | succ k ih =>
  intro m ok hm
  rw [K9n.eq_def]
  simp only
  rw [h.size,Kml (by omega),if_pos rfl,bs,sLe h ha (by omega),sLe h hb (by omega),sLe h hg (by omega)]
  cases ok with
  | false=>rfl
  | true =>
   rw [if_pos rfl]
   rw [List.range'_succ,List.all_cons]
   have ih:∀ ok,_:=fun ok=>ih (m + 1) ok (by omega)
   rw [Kmk (by omega)]
   generalize ((m + 1:Nat):Int)=M at ih ⊢
   simp only [bs,Kn5]
   cases le s n a m <;> cases le s n b m <;> cases le s n g m <;> simp [bs,ih,Kn5]
theorem Kn8 {a b g:Nat} (ha:a < n) (hb:b < n) (hg:g < n):∀ (k m:Nat) (ok:Bool),m + k=n→Klf (s,(a:Int),(b:Int),(g:Int),ok,(m:Int))=some (ok && (List.range' m k).all (Kn5 s n a b g)):=by
 have hhi:=h.hi
 intro k
 induction k with
 | zero =>
  intro m ok hm
  rw [Klf.eq_def]
  simp only
  rw [h.size,Kmm (by omega)]
  simp [bs]
 | succ k ih =>
  intro m ok hm
  rw [Klf.eq_def]
  simp only
  rw [h.size,Kml (by omega),if_pos rfl,iLe h ha (by omega),iLe h hb (by omega),iLe h hg (by omega)]
  rw [List.range'_succ,List.all_cons]
  have ih:∀ ok,_:=fun ok=>ih (m + 1) ok (by omega)
  rw [Kmk (by omega)]
  generalize ((m + 1:Nat):Int)=M at ih ⊢
  simp only [bs,Kn5]
  cases ok <;> cases le s n a m <;> cases le s n b m <;> cases le s n g m <;> simp [bs,ih,Kn5]
theorem Kn9 {a b:Nat} (ha:a < n) (hb:b < n):∀ (k g:Nat),g + k=n→K9r (s,(a:Int),(b:Int),(g:Int))=some (match (List.range' g k).find? (jok s n a b) with | some g=>.inr (g:Int) | none=>.inl ()):=by
 have hhi:=h.hi
 intro k
 induction k with
 | zero =>
  intro g hm
  rw [K9r.eq_def]
  simp only
  rw [h.size,Kmm (by omega)]
  rfl
 | succ k ih =>
  intro g hm
  rw [K9r.eq_def]
  simp only
  rw [h.size,Kml (by omega),if_pos rfl,sLe h ha (by omega),sLe h hb (by omega)]
  have ih:=ih (g + 1) (by omega)
  rw [Kmk (by omega),List.range'_succ,List.find?_cons]
  have hl:=fun ok=>Kn7 h ha hb (g:=g) (by omega) n 0 ok (by omega)
  rw [show ((0:Nat):Int)=0 from rfl] at hl
  generalize ((g + 1:Nat):Int)=M at ih ⊢
  have hj:jok s n a b g=(le s n a g && le s n b g && (List.range' 0 n).all (Kn5 s n a b g)):=rfl
  rw [hj]
  cases le s n a g <;> cases le s n b g <;> cases hq:(List.range' 0 n).all (Kn5 s n a b g) <;> simp [bs,hl,hq,ih]
theorem Kna {a b:Nat} (ha:a < n) (hb:b < n):∀ (k g:Nat),g + k=n→Klg (s,(a:Int),(b:Int),(g:Int))=some (match (List.range' g k).find? (jok s n a b) with | some g=>.inr (g:Int) | none=>.inl ()):=by
 have hhi:=h.hi
 intro k
 induction k with
 | zero =>
  intro g hm
  rw [Klg.eq_def]
  simp only
  rw [h.size,Kmm (by omega)]
  rfl
 | succ k ih =>
  intro g hm
  rw [Klg.eq_def]
  simp only
  rw [h.size,Kml (by omega),if_pos rfl,iLe h ha (by omega),iLe h hb (by omega)]
  have ih:=ih (g + 1) (by omega)
  rw [Kmk (by omega),List.range'_succ,List.find?_cons]
  have hl:=fun ok=>Kn8 h ha hb (g:=g) (by omega) n 0 ok (by omega)
  rw [show ((0:Nat):Int)=0 from rfl] at hl
  generalize ((g + 1:Nat):Int)=M at ih ⊢
  have hj:jok s n a b g=(le s n a g && le s n b g && (List.range' 0 n).all (Kn5 s n a b g)):=rfl
  rw [hj]
  cases le s n a g <;> cases le s n b g <;> cases hq:(List.range' 0 n).all (Kn5 s n a b g) <;> simp [bs,hl,hq,ih]
theorem Knb {a b:Nat} (ha:a < n) (hb:b < n):K9u (s,(a:Int),(b:Int))=some (Kn6 s n a b):=by
 unfold K9u Kn6
 simp only
 have:=Kn9 h ha hb n 0 (by omega)
 rw [show ((0:Nat):Int)=0 from rfl] at this
 rw [this,bs]
 cases (List.range' 0 n).find? (jok s n a b) <;> rfl
theorem Knc {a b:Nat} (ha:a < n) (hb:b < n):Klh (s,(a:Int),(b:Int))=some (Kn6 s n a b):=by
 unfold Klh Kn6
 simp only
 have:=Kna h ha hb n 0 (by omega)
 rw [show ((0:Nat):Int)=0 from rfl] at this
 rw [this,bs]
 cases (List.range' 0 n).find? (jok s n a b) <;> rfl
def Knd (s:K02) (n a b:Nat):Bool:=(pl s n a b == pl s n b a) && ((a == b) || !le s n a b || !le s n b a) && decide (Kn6 s n a b ≥ 0)
theorem Kne {a b:Nat} (ha:a < n) (hb:b < n):K9x (s,(a:Int),(b:Int))=some (Knd s n a b):=by
 unfold K9x Knd
 simp only
 rw [Kmv h ha hb,Kmv h hb ha,sLe h ha hb,sLe h hb ha,Knb h ha hb]
 simp only [bs,Kmz]
 generalize (pl s n a b == pl s n b a)=b1
 generalize (a == b)=b2
 cases b1 <;> cases b2 <;> cases le s n a b <;> cases le s n b a <;> simp [bs]
end
def inB (x lo hi:Int):Bool:=decide (x ≥ lo) && decide (x ≤ hi)
theorem sIn (x lo hi:Int):K81 (x,lo,hi)=some (inB x lo hi):=by
 unfold K81 inB
 simp only
 cases decide (x ≥ lo) <;> simp [bs]
theorem iIn (x lo hi:Int):Kgq (x,lo,hi)=some (inB x lo hi):=by
 unfold Kgq inB
 simp only
 cases decide (x ≥ lo) <;> simp [bs]
def Knf (s:K02) (n:Nat):Bool:=(List.range' 0 n).all fun a=>Kn1 s n a && (List.range' 0 n).all fun b=>Knd s n a b && (List.range' 0 n).all fun c=>Kn2 s n a b c
section
variable {s:K02} {n:Nat} (h:Tab s n)
include h
theorem Kng {a b:Nat} (ha:a < n) (hb:b < n):∀ (k c:Nat),c + k=n→Ka4 (s,(a:Int),(b:Int),(c:Int))=some (if (List.range' c k).all (fun c=>Kn2 s n a b c) then .inl () else .inr false):=by
 have hhi:=h.hi
 intro k
 induction k with
 | zero =>
  intro c hm
  rw [Ka4.eq_def]
  simp only
  rw [h.size,Kmm (by omega)]
  rfl
 | succ k ih =>
  intro c hm
  rw [Ka4.eq_def]
  simp only
  rw [h.size,Kml (by omega),if_pos rfl,Kn4 h ha hb (by omega),bs]
  have ih:=ih (c + 1) (by omega)
  rw [Kmk (by omega),List.range'_succ,List.all_cons]
  generalize ((c + 1:Nat):Int)=M at ih ⊢
  generalize (List.range' (c + 1) k).all (fun c=>Kn2 s n a b c)=r at ih ⊢
  cases Kn2 s n a b c <;> cases r <;> simp [ih]
theorem Knh {a:Nat} (ha:a < n):∀ (k b:Nat),b + k=n→Kaa (s,(a:Int),(b:Int))=some (if (List.range' b k).all (fun b=>Knd s n a b && (List.range' 0 n).all fun c=>Kn2 s n a b c) then .inl () else .inr false):=by
 have hhi:=h.hi
 intro k
 induction k with
 | zero =>
  intro c hm
  rw [Kaa.eq_def]
  simp only
  rw [h.size,Kmm (by omega)]
  rfl
 | succ k ih =>
  intro b hm
  rw [Kaa.eq_def]
  simp only
  have hl:=Kng h ha (b:=b) (by omega) n 0 (by omega)
  rw [show ((0:Nat):Int)=0 from rfl] at hl
  rw [h.size,Kml (by omega),if_pos rfl,Kne h ha (by omega),bs,hl]
  have ih:=ih (b + 1) (by omega)
  rw [Kmk (by omega),List.range'_succ,List.all_cons]
  generalize ((b + 1:Nat):Int)=M at ih ⊢
  generalize (List.range' (b + 1) k).all (fun b=>Knd s n a b && (List.range' 0 n).all fun c=>Kn2 s n a b c)=r at ih ⊢
  cases Knd s n a b <;> cases (List.range' 0 n).all (fun c=>Kn2 s n a b c) <;> cases r <;> simp [ih,bs]
theorem Kni:∀ (k a:Nat),a + k=n→Kae (s,(a:Int))=some (if (List.range' a k).all (fun a=>Kn1 s n a && (List.range' 0 n).all fun b=>Knd s n a b && (List.range' 0 n).all fun c=>Kn2 s n a b c) then .inl () else .inr false):=by
 have hhi:=h.hi
 intro k
 induction k with
 | zero =>
  intro c hm
  rw [Kae.eq_def]
  simp only
  rw [h.size,Kmm (by omega)]
  rfl
 | succ k ih =>
  intro a hm
  have ha:a < n:=by omega
  rw [Kae.eq_def]
  simp only
  have hl:=Knh h ha n 0 (by omega)
  rw [show ((0:Nat):Int)=0 from rfl] at hl
  rw [h.size,Kml (by omega),if_pos rfl,Kn3 h ha,bs,hl]
  have ih:=ih (a + 1) (by omega)
  rw [Kmk (by omega),List.range'_succ,List.all_cons]
  generalize ((a + 1:Nat):Int)=M at ih ⊢
  generalize (List.range' (a + 1) k).all (fun a=>Kn1 s n a && (List.range' 0 n).all fun b=>Knd s n a b && (List.range' 0 n).all fun c=>Kn2 s n a b c)=r at ih ⊢
  cases Kn1 s n a <;> cases (List.range' 0 n).all (fun b=>Knd s n a b && (List.range' 0 n).all fun c=>Kn2 s n a b c) <;> cases r <;> simp [ih,bs]
end
theorem Knj {α:Type} {l r:List α} {x:α} {i:Nat} (h:l.drop i=x :: r):i < l.length∧idx l (i:Int)=some x∧l.drop (i + 1)=r:=by
 have hi:i < l.length:=by
  rcases Nat.lt_or_ge i l.length with h' | h'
  ·exact h'
  ·rw [List.drop_eq_nil_of_le h'] at h; cases h
 have e:=List.drop_eq_getElem_cons hi
 rw [h] at e
 obtain ⟨e1,e2⟩:=List.cons.inj e
 exact ⟨hi,by rw [Kmj hi,e1],e2.symm⟩
theorem Knk {α:Type} {l:List α} {i:Nat} (h:l.drop i=[]):l.length ≤ i:=by
 rcases Nat.lt_or_ge i l.length with h' | h'
 ·rw [List.drop_eq_getElem_cons h'] at h; cases h
 ·exact h'
def Knl (c:Int):Bool:=inB c 3 18 || c == 35
def Knm (c:Int):Bool:=inB c 19 34 || c == 36
def Knn (c:Int):Int:=if c == 0 then 0 else if c == 1 || c == 2 || Knl c then 2 else if Knm c then 1 else -1
theorem Kno (c:Int):Kc1 c=some (Knl c):=by
 unfold Kc1 Knl
 simp only [sIn,bs]
 cases inB c 3 18 <;> rfl
theorem Knp (c:Int):Kc4 c=some (Knm c):=by
 unfold Kc4 Knm
 simp only [sIn,bs]
 cases inB c 19 34 <;> rfl
theorem Knq (c:Int):Kc7 c=some (Knn c):=by
 unfold Kc7 Knn
 simp only [Kno,Knp,bs]
 cases c == 0 <;> cases c == 1 <;> cases c == 2 <;> cases Knl c <;> cases Knm c <;> rfl
theorem Knr (c:Int):(c=0∧Knn c=0)∨((c=1∨c=2∨(3 ≤ c∧c ≤ 18)∨c=35)∧Knn c=2)∨(((19 ≤ c∧c ≤ 34)∨c=36)∧Knn c=1)∨((c < 0∨36 < c)∧Knn c=-1):=by
 unfold Knn Knl Knm inB
 by_cases h0:c=0
 ·left; subst h0; exact ⟨rfl,rfl⟩
 ·right
  have e0:(c == 0)=false:=by simpa using h0
  by_cases h1:c=1∨c=2∨(3 ≤ c∧c ≤ 18)∨c=35
  ·left
   refine ⟨h1,?_⟩
   have:(c == 1 || c == 2 || (decide (c ≥ 3) && decide (c ≤ 18) || c == 35))=true:=by
    simp only [Bool.or_eq_true,Bool.and_eq_true,beq_iff_eq,decide_eq_true_eq]; omega
   rw [e0,this]; rfl
  ·right
   have q:(c == 1 || c == 2 || (decide (c ≥ 3) && decide (c ≤ 18) || c == 35))=false:=by
    rw [Bool.eq_false_iff]; intro h
    simp only [Bool.or_eq_true,Bool.and_eq_true,beq_iff_eq,decide_eq_true_eq] at h; omega
   rw [e0,q]
   by_cases h2:(19 ≤ c∧c ≤ 34)∨c=36
   ·left
    refine ⟨h2,?_⟩
    have:(decide (c ≥ 19) && decide (c ≤ 34) || c == 36)=true:=by
     simp only [Bool.or_eq_true,Bool.and_eq_true,beq_iff_eq,decide_eq_true_eq]; omega
    rw [this]; rfl
   ·right
    refine ⟨by omega,?_⟩
    have:(decide (c ≥ 19) && decide (c ≤ 34) || c == 36)=false:=by
     rw [Bool.eq_false_iff]; intro h
     simp only [Bool.or_eq_true,Bool.and_eq_true,beq_iff_eq,decide_eq_true_eq] at h; omega
    rw [this]; rfl
def Kns (c:Int):Int × Int :=
 if inB c 0 2 then (c,-1) else if inB c 3 18 then (3,c - 3) else if inB c 19 34 then (4,c - 19) else if c == 35 then (3,-1) else if c == 36 then (4,-1) else (5,-1)
theorem Knt (c:Int):Kgz c=some (Kns c):=by
 unfold Kgz Kns
 simp only [iIn,bs]
 cases h1:inB c 0 2
 ·cases h2:inB c 3 18
  ·cases h3:inB c 19 34
   ·cases c == 35 <;> cases c == 36 <;> rfl
   ·simp only [inB,Bool.and_eq_true,decide_eq_true_eq] at h3
    simp only [Bool.false_eq_true,if_false,if_true]
    rw [Kmi (by omega) (by omega)]
  ·simp only [inB,Bool.and_eq_true,decide_eq_true_eq] at h2
   simp only [Bool.false_eq_true,if_false,if_true]
   rw [Kmi (by omega) (by omega)]
 ·rfl
theorem Knu (c:Int):(c=0∧Kns c=(0,-1))∨(c=1∧Kns c=(1,-1))∨(c=2∧Kns c=(2,-1))∨((3 ≤ c∧c ≤ 18)∧Kns c=(3,c - 3))∨(c=35∧Kns c=(3,-1)) ∨
  ((19 ≤ c∧c ≤ 34)∧Kns c=(4,c - 19))∨(c=36∧Kns c=(4,-1))∨((c < 0∨36 < c)∧Kns c=(5,-1)):=by
 have inT:∀ lo hi,lo ≤ c→c ≤ hi→inB c lo hi=true:=fun lo hi h1 h2=>by simp only [inB,Bool.and_eq_true,decide_eq_true_eq]; omega
 have inF:∀ lo hi,(c < lo∨hi < c)→inB c lo hi=false:=fun lo hi h=>by rw [Bool.eq_false_iff]; intro h'; simp only [inB,Bool.and_eq_true,decide_eq_true_eq] at h'; omega
 unfold Kns
 by_cases h0:0 ≤ c∧c ≤ 2
 ·rw [inT 0 2 h0.1 h0.2]
  have:c=0∨c=1∨c=2:=by omega
  rcases this with rfl | rfl | rfl <;> simp
 ·rw [inF 0 2 (by omega)]
  by_cases h1:3 ≤ c∧c ≤ 18
  ·rw [inT 3 18 h1.1 h1.2]
   exact .inr (.inr (.inr (.inl ⟨h1,rfl⟩)))
  ·rw [inF 3 18 (by omega)]
   by_cases h2:19 ≤ c∧c ≤ 34
   ·rw [inT 19 34 h2.1 h2.2]
    exact .inr (.inr (.inr (.inr (.inr (.inl ⟨h2,rfl⟩)))))
   ·rw [inF 19 34 (by omega)]
    by_cases h3:c=35
    ·subst h3; simp
    ·by_cases h4:c=36
     ·subst h4; simp
     ·have e3:(c == 35)=false:=by simpa using h3
      have e4:(c == 36)=false:=by simpa using h4
      rw [e3,e4]
      refine .inr (.inr (.inr (.inr (.inr (.inr (.inr ⟨by omega,rfl⟩))))))
def skip:Nat→List Int→Option (List Int)
 | 0,l=>some l
 | _ + 1,[]=>none
 | m + 1,c :: l=>if Knn c=-1 then none else skip (m + (Knn c).toNat) l
theorem Knv (l:List Int):skip 0 l=some l:=by cases l <;> rfl
theorem Knw (m:Nat):skip (m + 1) []=none:=rfl
theorem Knx (m:Nat) (c:Int) (l:List Int):skip (m + 1) (c :: l)=if Knn c=-1 then none else skip (m + (Knn c).toNat) l:=rfl
theorem Kny (l:List Int):∀ (m k:Nat),skip (m + k) l=(skip m l).bind (skip k):=by
 induction l with
 | nil =>
  intro m k
  cases m with
  | zero=>rw [Nat.zero_add,Knv]; rfl
  | succ m=>rw [show m + 1 + k=(m + k) + 1 by omega,Knw,Knw]; rfl
 | cons c l ih =>
  intro m k
  cases m with
  | zero=>rw [Nat.zero_add,Knv]; rfl
  | succ m =>
   rw [show m + 1 + k=(m + k) + 1 by omega,Knx,Knx]
   by_cases h:Knn c=-1
   ·rw [if_pos h,if_pos h]; rfl
   ·rw [if_neg h,if_neg h,← ih]; congr 1; omega
theorem Knz (l:List Int):∀ (m:Nat) (r:List Int),skip m l=some r→∃ p,l=p ++ r∧m ≤ p.length:=by
 induction l with
 | nil =>
  intro m r h
  cases m with
  | zero=>rw [Knv] at h; cases h; exact ⟨[],rfl,Nat.le_refl _⟩
  | succ m=>rw [Knw] at h; cases h
 | cons c l ih =>
  intro m r h
  cases m with
  | zero=>rw [Knv] at h; cases h; exact ⟨[],rfl,Nat.le_refl _⟩
  | succ m =>
   rw [Knx] at h
   by_cases hk:Knn c=-1
   ·rw [if_pos hk] at h; cases h
   ·rw [if_neg hk] at h
    obtain ⟨p,e,hp⟩:=ih _ _ h
    exact ⟨c :: p,by rw [e]; rfl,by simp; omega⟩
def Ko0 (ty:List Int) (m i:Nat):Int:=match skip m (ty.drop i) with | some r=>((ty.length - r.length:Nat):Int) | none=>-1
theorem Ko1 (ty:List Int) (hty:ty.length ≤ 1099511627776):∀ (l:List Int) (i m:Nat),ty.drop i=l→m ≤ 1099511627776 + 2 * i→∃ x,Kcb (ty,((m + 1:Nat):Int),(i:Int))=some x∧(match x with | .inl ()=>-1 | .inr r=>r)=Ko0 ty (m + 1) i:=by
 intro l
 induction l with
 | nil =>
  intro i m hl hm
  rw [Kcb.eq_def]
  simp only
  rw [Kmm (Knk hl)]
  exact ⟨.inl (),rfl,by unfold Ko0; rw [hl,Knw]⟩
 | cons c l ih =>
  intro i m hl hm
  obtain ⟨hi,hx,hd⟩:=Knj hl
  have hi2:(i:Int) < 1099511627776:=by omega
  rw [Kcb.eq_def]
  simp only
  rw [Kml hi,if_pos rfl,hx,bs,Knq,bs]
  have he:Ko0 ty (m + 1) i=(match (if Knn c=-1 then none else skip (m + (Knn c).toNat) l) with | some r=>((ty.length - r.length:Nat):Int) | none=>-1):=by
   unfold Ko0; rw [hl,Knx]
  rw [he]
  by_cases hk:Knn c=-1
  ·rw [if_pos hk,hk]
   exact ⟨.inr (-1),rfl,rfl⟩
  ·rw [if_neg hk]
   have hk0:0 ≤ Knn c∧Knn c ≤ 2:=by rcases Knr c with h | h | h | h <;> omega
   obtain ⟨k,hkk⟩:∃ k:Nat,Knn c=(k:Int):=⟨(Knn c).toNat,by omega⟩
   rw [decide_eq_false (by omega),if_neg (by decide),hkk,Int.toNat_natCast]
   rw [Kmi (x:=((m + 1:Nat):Int) - 1) (by omega) (by omega),show ((m + 1:Nat):Int) - 1=(m:Int) by omega,Kmi (x:=(m:Int) + (k:Int)) (by omega) (by omega),Kmk (by omega)]
   by_cases h0:m + k=0
   ·rw [show ((m:Int) + (k:Int) == 0)=true by simp; omega,if_pos rfl,h0,Knv]
    refine ⟨_,rfl,?_⟩
    have:l.length=ty.length - (i + 1):=by rw [← hd,List.length_drop]
    simp only
    omega
   ·rw [show ((m:Int) + (k:Int) == 0)=false by simp; omega,if_neg (by decide)]
    obtain ⟨q,hq⟩:∃ q,m + k=q + 1:=⟨m + k - 1,by omega⟩
    have:=ih (i + 1) q hd (by omega)
    rw [show (m:Int) + (k:Int)=((q + 1:Nat):Int) by omega]
    obtain ⟨x,h1,h2⟩:=this
    exact ⟨x,h1,by rw [h2,hq]; unfold Ko0; rw [hd]⟩
theorem Ko2 (ty:List Int) (hty:ty.length ≤ 1099511627776) (i:Nat) (hi:i ≤ ty.length):Kce (ty,(i:Int))=some (Ko0 ty 1 i):=by
 unfold Kce
 obtain ⟨x,h1,h2⟩:=Ko1 ty hty _ i 0 rfl (by omega)
 simp only
 rw [show (1:Int)=((0 + 1:Nat):Int) from rfl,h1,bs]
 rw [← h2]
 cases x <;> rfl
theorem Ko3 (ty:List Int) (i:Nat) (hi:i ≤ ty.length):Ko0 ty 2 i=(if Ko0 ty 1 i=-1 then -1 else Ko0 ty 1 (Ko0 ty 1 i).toNat):=by
 unfold Ko0
 rw [show 2=1 + 1 from rfl,Kny]
 cases h:skip 1 (ty.drop i) with
 | none=>simp
 | some r =>
  obtain ⟨p,hp,hl⟩:=Knz _ _ _ h
  have hlen:ty.length - i=p.length + r.length:=by rw [← List.length_drop,hp,List.length_append]
  have:ty.drop (ty.length - r.length)=r:=by
   have e:ty.drop (ty.length - r.length)=(ty.drop i).drop p.length:=by rw [List.drop_drop]; congr 1; omega
   rw [e,hp,List.drop_left]
  simp only [Option.bind_some]
  rw [if_neg (by omega),Int.toNat_natCast,this]
theorem Ko4 (ty:List Int) (hty:ty.length ≤ 1099511627776):∀ (d i:Nat),ty.length - i=d→Kh2 (ty,(i:Int))=some (Ko0 ty 1 i):=by
 intro d
 induction d using Nat.strongRecOn with
 | ind d ih =>
  intro i hd
  rw [Kh2.eq_def]
  simp only
  rw [decide_eq_false (by omega:¬ (i:Int) < 0)]
  simp only [Bool.false_eq_true,if_false,bs]
  by_cases hi:i < ty.length
  ·rw [decide_eq_false (by omega),if_neg (by decide),Kmj hi,bs,Knt,bs]
   have hdr:=List.drop_eq_getElem_cons hi
   have he:∀ k:Nat,Knn ty[i]=(k:Int)→Ko0 ty 1 i=Ko0 ty k (i + 1):=fun k hk=>by
    unfold Ko0
    rw [hdr,show 1=0 + 1 from rfl,Knx,hk,if_neg (by omega),Int.toNat_natCast,Nat.zero_add]
   have hn:Knn ty[i]=-1→Ko0 ty 1 i=-1:=fun hk=>by
    unfold Ko0
    rw [hdr,show 1=0 + 1 from rfl,Knx,if_pos hk]
   have i1:=ih (ty.length - (i + 1)) (by omega) (i + 1) rfl
   have hz:∀ i:Nat,i ≤ ty.length→Ko0 ty 0 i=(i:Int):=fun i hi=>by unfold Ko0; rw [Knv]; simp only [List.length_drop]; omega
   rw [Kmk (by omega)]
   have two:Knn ty[i]=2→((Kh2 (ty,((i + 1:Nat):Int))) >>= fun r_11_4=>(Kh2 (ty,r_11_4)) >>= fun r_11_5=>some r_11_5)=some (Ko0 ty 1 i):=fun hk=>by
    rw [i1,bs,he 2 hk,Ko3 ty (i + 1) (by omega)]
    by_cases h1:Ko0 ty 1 (i + 1)=-1
    ·rw [h1,if_pos rfl,Kh2.eq_def]; rfl
    ·rw [if_neg h1]
     obtain ⟨e,hee,hlo⟩:∃ e:Nat,Ko0 ty 1 (i + 1)=(e:Int)∧i + 1 < e:=by
      unfold Ko0 at h1 ⊢
      cases hs:skip 1 (ty.drop (i + 1)) with
      | none=>rw [hs] at h1; exact absurd rfl h1
      | some r =>
       obtain ⟨p,hp,hl⟩:=Knz _ _ _ hs
       have hlen:ty.length - (i + 1)=p.length + r.length:=by rw [← List.length_drop,hp,List.length_append]
       exact ⟨_,rfl,by omega⟩
     rw [hee,Int.toNat_natCast,ih (ty.length - e) (by omega) e rfl,bs]
   rcases Knu ty[i] with ⟨h,e⟩ | ⟨h,e⟩ | ⟨h,e⟩ | ⟨h,e⟩ | ⟨h,e⟩ | ⟨h,e⟩ | ⟨h,e⟩ | ⟨h,e⟩ <;> rw [e] <;> simp only []
   ·have hk:Knn ty[i]=0:=by rcases Knr ty[i] with h | h | h | h <;> omega
    rw [if_pos (by rfl),he 0 hk,hz _ (by omega)]
   ·have hk:Knn ty[i]=2:=by rcases Knr ty[i] with h | h | h | h <;> omega
    exact two hk
   ·have hk:Knn ty[i]=2:=by rcases Knr ty[i] with h | h | h | h <;> omega
    exact two hk
   ·have hk:Knn ty[i]=2:=by rcases Knr ty[i] with h | h | h | h <;> omega
    exact two hk
   ·have hk:Knn ty[i]=2:=by rcases Knr ty[i] with h | h | h | h <;> omega
    exact two hk
   ·have hk:Knn ty[i]=1:=by rcases Knr ty[i] with h | h | h | h <;> omega
    rw [he 1 hk,if_neg (by decide),if_pos (by rfl),i1,bs]
   ·have hk:Knn ty[i]=1:=by rcases Knr ty[i] with h | h | h | h <;> omega
    rw [he 1 hk,if_neg (by decide),if_pos (by rfl),i1,bs]
   ·have hk:Knn ty[i]=-1:=by rcases Knr ty[i] with h | h | h | h <;> omega
    rw [hn hk]; rfl
  ·rw [decide_eq_true (by omega),if_pos rfl]
   unfold Ko0
   rw [List.drop_eq_nil_of_le (by omega),Knw]
def wtB (ty:List Int):Bool:=decide (ty.length ≤ 40) && (skip 1 ty == some [])
theorem Ko5 (ty:List Int):(Ko0 ty 1 0 == (ty.length:Int))=(skip 1 ty == some []):=by
 unfold Ko0
 rw [List.drop_zero]
 cases h:skip 1 ty with
 | none=>simp
 | some r =>
  obtain ⟨p,hp,hl⟩:=Knz _ _ _ h
  have hlen:ty.length=p.length + r.length:=by rw [hp,List.length_append]
  cases r with
  | nil=>simp
  | cons x xs =>
   simp only [List.length_cons] at hlen ⊢
   simp
   omega
theorem Ko6 (ty:List Int) (hty:ty.length ≤ 1099511627776):Kkc ty=some (wtB ty):=by
 unfold Kkc wtB
 by_cases h:ty.length ≤ 40
 ·rw [decide_eq_true (by omega:(ty.length:Int) ≤ 40),if_pos rfl,show (0:Int)=((0:Nat):Int) from rfl,Ko2 ty hty 0 (by omega),bs,Ko5,decide_eq_true h]
  cases hs:skip 1 ty == some [] with
  | false=>rfl
  | true =>
   have:0 < ty.length:=by
    rcases ty with _ | ⟨c,l⟩
    ·rw [show skip 1 []=none from rfl] at hs; cases hs
    ·simp
   rw [if_pos rfl,decide_eq_true (by omega:(ty.length:Int) > ((0:Nat):Int))]; rfl
 ·rw [decide_eq_false (by omega:¬ (ty.length:Int) ≤ 40),decide_eq_false h]; rfl
theorem Ko7 (ty:List Int) (hty:ty.length ≤ 1099511627776):Kh5 ty=some (wtB ty):=by
 unfold Kh5 wtB
 rw [iIn,bs]
 by_cases h:ty.length ≤ 40
 ·rw [decide_eq_true h]
  by_cases h1:1 ≤ ty.length
  ·have:inB (ty.length:Int) 1 40=true:=by simp only [inB,Bool.and_eq_true,decide_eq_true_eq]; omega
   rw [this,if_pos rfl,show (0:Int)=((0:Nat):Int) from rfl,Ko4 ty hty _ 0 rfl,bs,Ko5]; rfl
  ·have:inB (ty.length:Int) 1 40=false:=by rw [Bool.eq_false_iff]; intro h'; simp only [inB,Bool.and_eq_true,decide_eq_true_eq] at h'; omega
   have e:ty=[]:=List.length_eq_zero_iff.1 (by omega)
   rw [this,e]; rfl
 ·have:inB (ty.length:Int) 1 40=false:=by rw [Bool.eq_false_iff]; intro h'; simp only [inB,Bool.and_eq_true,decide_eq_true_eq] at h'; omega
  rw [this,decide_eq_false h]; rfl
def Ko8 (c:Int):Int:=if 35 ≤ c then -1 else if 19 ≤ c then c - 19 else c - 3
def Ko9 (size:Int) (closed:Bool) (c:Int):Bool:=!(decide (Knn c > 0) && decide (c > 2) && (decide (Ko8 c ≥ size) || closed && decide (Ko8 c < 0)))
theorem Koa {c:Int} (h:Knn c > 0):Kcn c=some (Ko8 c):=by
 have:0 ≤ c∧c ≤ 36:=by rcases Knr c with h | h | h | h <;> omega
 unfold Kcn Ko8
 by_cases h1:35 ≤ c
 ·rw [decide_eq_true (by omega:c ≥ 35),if_pos rfl,if_pos h1]
 ·rw [decide_eq_false (by omega:¬ c ≥ 35),if_neg (by decide),if_neg h1]
  by_cases h2:19 ≤ c
  ·rw [decide_eq_true (by omega:c ≥ 19),if_pos rfl,if_pos h2,Kmi (by omega) (by omega)]
  ·rw [decide_eq_false (by omega:¬ c ≥ 19),if_neg (by decide),if_neg h2,Kmi (by omega) (by omega)]
theorem Kob (ty:List Int) (hty:ty.length ≤ 1099511627776) (size:Int) (cl:Bool):∀ (l:List Int) (i:Nat),ty.drop i=l→Kkh (ty,size,cl,(i:Int))=some (if l.all (Ko9 size cl) then .inl () else .inr false):=by
 intro l
 induction l with
 | nil =>
  intro i hl
  rw [Kkh.eq_def]
  simp only
  rw [Kmm (Knk hl)]; rfl
 | cons c l ih =>
  intro i hl
  obtain ⟨hi,hx,hd⟩:=Knj hl
  rw [Kkh.eq_def]
  simp only
  rw [Kml hi,if_pos rfl,hx,bs,bs,Knq,bs,Kmk (by omega)]
  have ih:=ih (i + 1) hd
  generalize ((i + 1:Nat):Int)=M at ih ⊢
  rw [List.all_cons]
  unfold Ko9 at ih ⊢
  by_cases hk:Knn c > 0
  ·simp only [bs,Koa hk]
   rw [decide_eq_true hk]
   generalize Ko8 c=g at ih ⊢
   cases decide (c > 2) <;> cases decide (g ≥ size) <;> cases cl <;> cases decide (g < 0) <;> simp [bs,ih]
  ·rw [decide_eq_false hk]; simp [bs,ih]
theorem Koc (ty:List Int) (hty:ty.length ≤ 1099511627776) (size:Int) (cl:Bool):Kkk (ty,size,cl)=some (ty.all (Ko9 size cl)):=by
 unfold Kkk
 simp only
 rw [show (0:Int)=((0:Nat):Int) from rfl,Kob ty hty size cl _ 0 rfl,List.drop_zero,bs]
 cases ty.all (Ko9 size cl) <;> rfl
theorem Kod (c:Int):Ko9 16 false c=true:=by
 unfold Ko9 Ko8
 rcases Knr c with ⟨h,e⟩ | ⟨h,e⟩ | ⟨h,e⟩ | ⟨h,e⟩ <;> rw [e] <;> simp <;> split <;> (try split) <;> omega
theorem Koe {α β:Type} {a:Option α} {f:α→Option β} {x:α} (h:a=some x):(a >>= f)=f x:=by rw [h]; rfl
mutual
def tsz:K00→Nat
 | ⟨_,_,_,ks⟩=>1 + Kof ks
def Kof:List K00→Nat
 | []=>0
 | k :: ks=>tsz k + Kof ks
end
mutual
def tms:K00→Nat
 | ⟨_,_,ty,ks⟩=>ty.length + ks.length + Kog ks
def Kog:List K00→Nat
 | []=>0
 | k :: ks=>tms k + Kog ks
end
theorem Koh (t:K00):tms t=t.fType.length + t.fKids.length + Kog t.fKids:=by cases t; rw [tms]
theorem Koi (t:K00):tsz t=1 + Kof t.fKids:=by cases t; rw [tsz]
def Koj (left n:Nat):Int:=if n ≤ left then ((left - n:Nat):Int) else -1
theorem Kok {left n:Nat} (h:n ≤ left):Koj left n=((left - n:Nat):Int):=if_pos h
theorem Kol {left n:Nat} (h:¬ n ≤ left):Koj left n=-1:=if_neg h
theorem Kom (t:K00) (i:Int):Kfb (t,-1,i)=some (-1):=by
 rw [Kfb.eq_def]
 simp only
 cases decide (i < (t.fKids.length:Int)) <;> rfl
mutual
theorem Kon:∀ (t:K00) (left:Nat),tms t ≤ 1099511627776→left ≤ 1048576→Kfa (t,(left:Int))=some (Koj left (tsz t))
 | ⟨op,N,ty,ks⟩,left,ht,hl=>by
  rw [tms] at ht
  rw [Kfa.eq_def,tsz]
  simp only
  rcases left with _ | l
  ·rw [show wr (((0:Nat):Int) - 1)=-1 from Kmi (by omega) (by omega),Kom,bs,Kol (by omega)]
  ·have h:=Koo ks ⟨op,N,ty,ks⟩ 0 l rfl (by simp only; omega) (by omega) (by omega)
   rw [Kmi (by omega) (by omega),show ((l + 1:Nat):Int) - 1=(l:Int) by omega,show (0:Int)=((0:Nat):Int) from rfl,h,bs]
   unfold Koj
   by_cases q:Kof ks ≤ l
   ·rw [if_pos q,if_pos (by omega),show l + 1 - (1 + Kof ks)=l - Kof ks by omega]
   ·rw [if_neg q,if_neg (by omega)]
theorem Koo:∀ (ks:List K00) (t:K00) (i left:Nat),t.fKids.drop i=ks→t.fKids.length ≤ 1099511627776→Kog ks ≤ 1099511627776→left ≤ 1048576→Kfb (t,(left:Int),(i:Int))=some (Koj left (Kof ks))
 | [],t,i,left,hd,hk,ht,hl=>by
  rw [Kfb.eq_def,Kof]
  simp only
  rw [Kmm (Knk hd)]
  simp [bs,Koj]
 | k :: ks,t,i,left,hd,hk,ht,hl=>by
  obtain ⟨hi,hx,hd'⟩:=Knj hd
  rw [Kog] at ht
  rw [Kfb.eq_def,Kof]
  simp only
  rw [Kml hi,if_pos rfl,bs,decide_eq_true (by omega:((left:Nat):Int) ≥ 0),if_pos rfl,hx,bs,Kon k left (by omega) hl,bs,Kmk (by omega)]
  by_cases q:tsz k ≤ left
  ·rw [Kok q,Koo ks t (i + 1) (left - tsz k) hd' hk (by omega) (by omega)]
   unfold Koj
   by_cases q2:Kof ks ≤ left - tsz k
   ·rw [if_pos q2,if_pos (by omega)]; congr 2; omega
   ·rw [if_neg q2,if_neg (by omega)]
  ·rw [Kol q,Kom,Kol (by omega)]
end
def Kop (op:Int):Int:=if inB op 0 12 then ([0,0,2,3,2,2,1,1,3,1,2,1,2]:List Int).getD op.toNat 0 else -1
def Koq (op:Int):Bool:=op == 5 || op == 8 || op == 9 || op == 11 || op == 12
def Kor (op:Int):Bool:=op == 6 || op == 7 || op == 9
def Kos (op:Int):ByteArray:=([ByteArray.mk #[120],ByteArray.empty,ByteArray.mk #[97,100,100],ByteArray.mk #[105,102],ByteArray.mk #[112,97,105,114],ByteArray.mk #[115,112,108,105,116],ByteArray.mk #[108,101,102,116],
 ByteArray.mk #[114,105,103,104,116],ByteArray.mk #[99,97,115,101],ByteArray.mk #[102,117,110],ByteArray.mk #[97,112,112],ByteArray.mk #[98,111,120],ByteArray.mk #[111,112,101,110]]:List ByteArray).getD op.toNat ByteArray.empty
theorem Kot {op:Int} (h:inB op 0 12=true):op=0∨op=1∨op=2∨op=3∨op=4∨op=5∨op=6∨op=7∨op=8∨op=9∨op=10∨op=11∨op=12:=by
 simp only [inB,Bool.and_eq_true,decide_eq_true_eq] at h
 omega
theorem Kou (op:Int):Kk6 op=some (Kop op):=by
 unfold Kk6 Kop
 rw [sIn,bs]
 cases h:inB op 0 12
 ·rfl
 ·rcases Kot h with rfl | rfl | rfl | rfl | rfl | rfl | rfl | rfl | rfl | rfl | rfl | rfl | rfl <;> rfl
theorem Kov (op:Int):Kfr op=some (Koq op):=by
 unfold Kfr Koq
 cases op == 5 <;> cases op == 8 <;> cases op == 9 <;> cases op == 11 <;> rfl
theorem Kow (op:Int):Kk9 op=some (Kor op):=by
 unfold Kk9 Kor
 cases op == 6 <;> cases op == 7 <;> rfl
def Kox (op:Int):K04 × Bool:=if inB op 0 12 then (K04.mk (Kos op) (Kop op) (Koq op) (Kor op),true) else (K04.mk ByteArray.empty 0 false false,false)
theorem Koy (op:Int):Kgt op=some (Kox op):=by
 unfold Kgt Kox
 rw [iIn,bs]
 cases h:inB op 0 12
 ·rfl
 ·rcases Kot h with rfl | rfl | rfl | rfl | rfl | rfl | rfl | rfl | rfl | rfl | rfl | rfl | rfl <;> rfl
def Koz (op kid:Int):Nat:=if op == 5 && kid == 1 then 2 else if (op == 8 && decide (kid > 0)) || op == 9 || (op == 12 && kid == 1) then 1 else 0
theorem Kp0 (op kid:Int):Koz op kid ≤ 2:=by unfold Koz; split <;> (try split) <;> omega
theorem Kp1 (op kid:Int):Ke9 (op,kid)=some ((Koz op kid:Nat):Int):=by
 unfold Ke9 Koz
 simp only
 generalize (op == 5)=b1
 generalize (op == 8)=b2
 generalize (op == 9)=b3
 generalize (op == 12)=b4
 generalize (kid == 1)=b5
 generalize decide (kid > 0)=b6
 cases b1 <;> cases b2 <;> cases b3 <;> cases b4 <;> cases b5 <;> cases b6 <;> rfl
theorem Kp2 (op kid:Int):Kh8 (op,kid)=some ((Koz op kid:Nat):Int):=by
 unfold Kh8 Koz
 simp only
 generalize (op == 5)=b1
 generalize (op == 8)=b2
 generalize (op == 9)=b3
 generalize (op == 12)=b4
 generalize (kid == 1)=b5
 generalize decide (kid > 0)=b6
 cases b1 <;> cases b2 <;> cases b3 <;> cases b4 <;> cases b5 <;> cases b6 <;> rfl
def Kp3 (g:Int→Bool) (n:Int) (t:K00):Bool:=if t.fOp == 0 then inB t.fN 0 (n - 1) else if t.fOp == 1 then inB t.fN 0 2 else if Koq t.fOp then g t.fN else t.fN == 0
def Kp4 (y:List Int→Bool) (t:K00):Bool:=if Kor t.fOp then y t.fType else (t.fType.length:Int) == 0
def Kp5 (g:Int→Bool) (y:List Int→Bool) (n:Int) (t:K00):Bool:=inB t.fOp 0 12 && ((t.fKids.length:Int) == Kop t.fOp) && Kp3 g n t && Kp4 y t
mutual
def tOk (g:Int→Bool) (y:List Int→Bool):Nat→K00→Bool
 | n,⟨op,N,ty,ks⟩=>Kp5 g y (n:Int) ⟨op,N,ty,ks⟩ && Kp6 g y op n 0 ks
def Kp6 (g:Int→Bool) (y:List Int→Bool):Int→Nat→Nat→List K00→Bool
 | _,_,_,[]=>true
 | op,n,i,k :: ks=>tOk g y (n + Koz op (i:Int)) k && Kp6 g y op n (i + 1) ks
end
theorem Kp7 (g:Int→Bool) (y:List Int→Bool) (n:Nat) (t:K00):tOk g y n t=(Kp5 g y (n:Int) t && Kp6 g y t.fOp n 0 t.fKids):=by cases t; rw [tOk]
def gN (size:Int) (cl:Bool) (x:Int):Bool:=!(decide (x ≥ size) || decide (x < -1) || cl && decide (x < 0))
def yN (size:Int) (cl:Bool) (ty:List Int):Bool:=wtB ty && ty.all (Ko9 size cl)
theorem Kp8 (t:K00) (n:Nat) (size:Int) (cl:Bool) (hty:t.fType.length ≤ 1099511627776) (hn:n ≤ 35184372088832):Kkr (t,(n:Int),size,cl)=some (Kp5 (gN size cl) (yN size cl) (n:Int) t):=by
 unfold Kkr Kp5
 simp only
 rw [Kou,bs]
 by_cases hk:(t.fKids.length:Int)=Kop t.fOp
 ·have hop:inB t.fOp 0 12=true:=by
   cases h:inB t.fOp 0 12
   ·unfold Kop at hk; rw [h] at hk; simp at hk
   ·rfl
  rw [show ((t.fKids.length:Int) != Kop t.fOp)=false by rw [hk]; exact Kmn,if_neg (by decide),show ((t.fKids.length:Int) == Kop t.fOp)=true by rw [hk]; simp,hop]
  refine (Koe (x:=if Kp3 (gN size cl) (n:Int) t then .inl () else .inr false) ?_).trans ?_
  ·unfold Kp3 gN
   rw [sIn,Kmi (by omega) (by omega),sIn,Kov]
   simp only [bs]
   generalize inB t.fN 0 ((n:Int) - 1)=b1
   generalize inB t.fN 0 2=b2
   generalize Koq t.fOp=b3
   rw [show (t.fN != 0)=!(t.fN == 0) from rfl]
   generalize (t.fN == 0)=b4
   generalize decide (t.fN ≥ size)=b5
   generalize decide (t.fN < -1)=b6
   generalize decide (t.fN < 0)=b7
   generalize (t.fOp == 0)=b8
   generalize (t.fOp == 1)=b9
   cases b8
   ·cases b9
    ·cases b3
     ·cases b4 <;> rfl
     ·cases b5 <;> cases b6 <;> cases cl <;> cases b7 <;> rfl
    ·cases b2 <;> rfl
   ·cases b1 <;> rfl
  ·cases Kp3 (gN size cl) (n:Int) t
   ·simp
   ·unfold Kp4 yN
    simp only [if_true]
    rw [Kow,bs]
    cases Kor t.fOp
    ·simp
    ·simp only [if_true]
     rw [Ko6 _ hty,Koc _ hty]
     cases wtB t.fType <;> simp [bs]
 ·rw [show ((t.fKids.length:Int) != Kop t.fOp)=true by simpa using hk,if_pos rfl,show ((t.fKids.length:Int) == Kop t.fOp)=false by simpa using hk]
  simp
mutual
theorem Kp9 (size:Int) (cl:Bool):∀ (t:K00) (n:Nat),tms t ≤ 1099511627776→n + 2 * tms t ≤ 35184372088832→Kkv (t,(n:Int),size,cl)=some (tOk (gN size cl) (yN size cl) n t)
 | ⟨op,N,ty,ks⟩,n,ht,hn=>by
  rw [tms] at ht hn
  rw [Kkv.eq_def,tOk]
  simp only
  rw [Kp8 _ n size cl (by simp only; omega) (by omega),bs]
  cases hb:Kp5 (gN size cl) (yN size cl) (n:Int) ⟨op,N,ty,ks⟩
  ·rfl
  ·have h:=Kpa size cl ks ⟨op,N,ty,ks⟩ n 0 rfl (by simp only; omega) (by omega) (by omega)
   rw [if_pos rfl,show (0:Int)=((0:Nat):Int) from rfl,h,bs]
   simp only
   cases Kp6 (gN size cl) (yN size cl) op n 0 ks <;> rfl
theorem Kpa (size:Int) (cl:Bool):∀ (ks:List K00) (t:K00) (n i:Nat),t.fKids.drop i=ks→t.fKids.length ≤ 1099511627776→Kog ks ≤ 1099511627776→n + 2 * (ks.length + Kog ks) ≤ 35184372088832 →
  Kkw (t,(n:Int),size,cl,(i:Int))=some (if Kp6 (gN size cl) (yN size cl) t.fOp n i ks then .inl () else .inr false)
 | [],t,n,i,hd,hk,ht,hn=>by
  rw [Kkw.eq_def,Kp6]
  simp only
  rw [Kmm (Knk hd)]; rfl
 | k :: ks,t,n,i,hd,hk,ht,hn=>by
  obtain ⟨hi,hx,hd'⟩:=Knj hd
  rw [Kog] at ht hn
  rw [List.length_cons] at hn
  have ha:=Kp0 t.fOp (i:Int)
  rw [Kkw.eq_def,Kp6]
  simp only
  rw [Kml hi,if_pos rfl,hx,bs,Kp1,bs,Kmi (by omega) (by omega),show (n:Int) + ((Koz t.fOp (i:Int):Nat):Int)=((n + Koz t.fOp (i:Int):Nat):Int) by omega]
  rw [Kp9 size cl k (n + Koz t.fOp (i:Int)) (by omega) (by omega),bs,Kmk (by omega)]
  cases tOk (gN size cl) (yN size cl) (n + Koz t.fOp (i:Int)) k
  ·rfl
  ·rw [if_pos rfl,Kpa size cl ks t n (i + 1) hd' hk (by omega) (by omega),Bool.true_and]
end
def Kpb (ok:Bool) (nodes sz:Nat):Int:=if ok && decide (nodes + sz ≤ 400) then ((nodes + sz:Nat):Int) else 401
theorem iWs (x:Int):Kgw x=some (gN 16 false x):=by
 unfold Kgw
 rw [iIn,bs]
 congr 1
 unfold gN inB
 by_cases h1:x ≥ 16 <;> by_cases h2:x < -1 <;> simp [h1,h2] <;> omega
mutual
theorem Kpc:∀ (t:K00) (n nodes:Nat),tms t ≤ 1099511627776→n + 2 * tms t ≤ 35184372088832→nodes ≤ 400→Khc (t,(n:Int),(nodes:Int))=some (Kpb (tOk (gN 16 false) wtB n t) nodes (tsz t))
 | ⟨op,N,ty,ks⟩,n,nodes,ht,hn,hd=>by
  rw [tms] at ht hn
  rw [Khc.eq_def,tOk,tsz]
  simp only
  rw [Koy,bs]
  unfold Kox
  cases hop:inB op 0 12
  ·simp [Kp5,hop,Kpb]
  ·simp only [if_true]
   rw [Kmk (by omega)]
   by_cases h4:nodes + 1 ≤ 400
   ·rw [decide_eq_false (by omega:¬ ((nodes + 1:Nat):Int) > 400)]
    by_cases hk:(ks.length:Int)=Kop op
    ·rw [show ((ks.length:Int) != Kop op)=false by rw [hk]; exact Kmn]
     simp only [Bool.false_eq_true,if_false,bs]
     refine (Koe (x:=Kp3 (gN 16 false) (n:Int) ⟨op,N,ty,ks⟩) ?_).trans ?_
     ·unfold Kp3
      simp only [iIn,Kmi (x:=(n:Int) - 1) (by omega) (by omega),iWs,bs]
      cases op == 0 <;> cases op == 1 <;> cases Koq op <;> rfl
     refine (Koe (x:=Kp3 (gN 16 false) (n:Int) ⟨op,N,ty,ks⟩ && Kp4 wtB ⟨op,N,ty,ks⟩) ?_).trans ?_
     ·unfold Kp4
      simp only [Ko7 ty (by omega),bs]
      cases Kor op <;> cases Kp3 (gN 16 false) (n:Int) ⟨op,N,ty,ks⟩ <;> rfl
     have e:Kp5 (gN 16 false) wtB (n:Int) ⟨op,N,ty,ks⟩=(Kp3 (gN 16 false) (n:Int) ⟨op,N,ty,ks⟩ && Kp4 wtB ⟨op,N,ty,ks⟩):=by
      unfold Kp5
      simp only
      rw [hop,hk]; simp
     rw [e]
     cases Kp3 (gN 16 false) (n:Int) ⟨op,N,ty,ks⟩ && Kp4 wtB ⟨op,N,ty,ks⟩
     ·simp [Kpb]
     ·have h:=Kpd ks ⟨op,N,ty,ks⟩ n (nodes + 1) 0 rfl (by simp only; omega) (by omega) (by omega) h4
      rw [if_pos rfl,show (0:Int)=((0:Nat):Int) from rfl,h]
      simp only [Bool.true_and]
      unfold Kpb
      rw [show nodes + (1 + Kof ks)=nodes + 1 + Kof ks by omega]
      cases Kp6 (gN 16 false) wtB op n 0 ks && decide (nodes + 1 + Kof ks ≤ 400) <;> rfl
    ·rw [show ((ks.length:Int) != Kop op)=true by simpa using hk]
     have e:Kp5 (gN 16 false) wtB (n:Int) ⟨op,N,ty,ks⟩=false:=by
      unfold Kp5
      simp only
      rw [show ((ks.length:Int) == Kop op)=false by simpa using hk]; simp
     simp [e,Kpb]
   ·rw [decide_eq_true (by omega:((nodes + 1:Nat):Int) > 400)]
    have:¬ nodes + (1 + Kof ks) ≤ 400:=by omega
    simp [Kpb,this]
theorem Kpd:∀ (ks:List K00) (t:K00) (n nodes i:Nat),t.fKids.drop i=ks→t.fKids.length ≤ 1099511627776→Kog ks ≤ 1099511627776→n + 2 * (ks.length + Kog ks) ≤ 35184372088832→nodes ≤ 400 →
  Khd (t,(n:Int),(nodes:Int),(i:Int))=some (if Kp6 (gN 16 false) wtB t.fOp n i ks && decide (nodes + Kof ks ≤ 400) then .inl ((nodes + Kof ks:Nat):Int) else .inr 401)
 | [],t,n,nodes,i,hd,hk,ht,hn,h4=>by
  rw [Khd.eq_def,Kp6,Kof]
  simp only
  rw [Kmm (Knk hd)]
  simp [h4]
 | k :: ks,t,n,nodes,i,hd,hk,ht,hn,h4=>by
  obtain ⟨hi,hx,hd'⟩:=Knj hd
  rw [Kog] at ht hn
  rw [List.length_cons] at hn
  have ha:=Kp0 t.fOp (i:Int)
  rw [Khd.eq_def,Kp6,Kof]
  simp only
  rw [Kml hi,if_pos rfl,hx,bs,Kp2,bs,Kmi (by omega) (by omega),show (n:Int) + ((Koz t.fOp (i:Int):Nat):Int)=((n + Koz t.fOp (i:Int):Nat):Int) by omega]
  rw [Kpc k (n + Koz t.fOp (i:Int)) nodes (by omega) (by omega) h4,bs,Kmk (by omega)]
  unfold Kpb
  cases tOk (gN 16 false) wtB (n + Koz t.fOp (i:Int)) k
  ·rfl
  ·by_cases q:nodes + tsz k ≤ 400
   ·rw [decide_eq_true q,Bool.true_and,if_pos rfl,decide_eq_false (by omega:¬ ((nodes + tsz k:Nat):Int) > 400),if_neg (by decide),Kpd ks t n (nodes + tsz k) (i + 1) hd' hk (by omega) (by omega) q,Nat.add_assoc,Bool.true_and]
   ·rw [decide_eq_false q,decide_eq_false (by omega:¬ nodes + (tsz k + Kof ks) ≤ 400)]
    simp
end
theorem Kpe (ty:List Int):yN 16 false ty=wtB ty:=by
 unfold yN
 have:ty.all (Ko9 16 false)=true:=by rw [List.all_eq_true]; intro x _; exact Kod x
 rw [this,Bool.and_true]
def wB (t:K00):Bool:=tOk (gN 16 false) wtB 8 t && decide (tsz t ≤ 400)
theorem Kpf (t:K00) (ht:tms t ≤ 1099511627776):Khj t=some (Kpb (tOk (gN 16 false) wtB 8 t) 0 (tsz t)):=by
 unfold Khj
 have:=Kpc t 8 0 ht (by omega) (by omega)
 rw [show ((8:Nat):Int)=8 from rfl,show ((0:Nat):Int)=0 from rfl] at this
 rw [this,bs]
theorem Kpg (t:K00) (ht:tms t ≤ 1099511627776):Khm t=some (wB t):=by
 unfold Khm
 rw [Kpf t ht,bs]
 unfold Kpb wB
 rw [Nat.zero_add]
 congr 1
 cases h:tOk (gN 16 false) wtB 8 t && decide (tsz t ≤ 400)
 ·rfl
 ·simp only [Bool.and_eq_true,decide_eq_true_eq] at h
  rw [if_pos rfl,decide_eq_true (by omega)]
theorem Kph (t:K00) (ht:tms t ≤ 1099511627776):Kl2 t=some (wB t):=by
 unfold Kl2 wB
 have h1:=Kon t 400 ht (by omega)
 have h2:=Kp9 16 false t 8 ht (by omega)
 rw [show ((400:Nat):Int)=400 from rfl] at h1
 rw [show ((8:Nat):Int)=8 from rfl,show yN 16 false=wtB from funext Kpe] at h2
 rw [h1,bs,h2]
 unfold Koj
 by_cases q:tsz t ≤ 400
 ·rw [if_pos q,decide_eq_true (by omega:(((400 - tsz t:Nat)):Int) ≥ 0),decide_eq_true q,Bool.and_true]; rfl
 ·rw [if_neg q,decide_eq_false q,Bool.and_false]; rfl
mutual
def tln:K00→Prop
 | ⟨_,N,ty,ks⟩=>ty.length ≤ 9223372036854775807∧ks.length ≤ 9223372036854775807∧Kpi ks∧(-9223372036854775808 ≤ N∧N ≤ 9223372036854775807)
def Kpi:List K00→Prop
 | []=>True
 | k :: ks=>tln k∧Kpi ks
end
theorem Kpj (l:List Int):∀ (m:Nat),skip m l=some []→∀ c ∈ l,0 ≤ c∧c ≤ 36:=by
 induction l with
 | nil=>intro m h c hc; cases hc
 | cons x l ih =>
  intro m h c hc
  cases m with
  | zero=>rw [Knv] at h; cases h
  | succ m =>
   rw [Knx] at h
   by_cases hk:Knn x=-1
   ·rw [if_pos hk] at h; cases h
   ·rw [if_neg hk] at h
    rcases List.mem_cons.1 hc with rfl | hc
    ·rcases Knr c with q | q | q | q <;> omega
    ·exact ih _ h c hc
theorem Kpk {ty:List Int} (h:wtB ty=true):∀ c ∈ ty,0 ≤ c∧c ≤ 36:=by
 unfold wtB at h
 rw [Bool.and_eq_true,beq_iff_eq] at h
 exact Kpj ty 1 h.2
theorem Kpl {ty:List Int} (h:wtB ty=true):ty.length ≤ 40:=by
 unfold wtB at h
 rw [Bool.and_eq_true,decide_eq_true_eq] at h
 exact h.1
def Kpm:List Int→Nat
 | []=>0
 | c :: l=>(if 35 ≤ c then 1 else 0) + Kpm l
theorem Kpn (l:List Int):Kpm l ≤ l.length:=by
 induction l with
 | nil=>simp [Kpm]
 | cons c l ih=>rw [Kpm,List.length_cons]; split <;> omega
mutual
def opn:K00→Nat
 | ⟨op,N,ty,ks⟩=>(if Koq op && decide (N < 0) then 1 else 0) + Kpm ty + Kpo ks
def Kpo:List K00→Nat
 | []=>0
 | k :: ks=>opn k + Kpo ks
end
mutual
theorem Kpp:∀ (t:K00),opn t ≤ 1 + tms t
 | ⟨op,N,ty,ks⟩=>by
  rw [opn,tms]
  have:=Kpn ty
  have:=Kpq ks
  split <;> omega
theorem Kpq:∀ (ks:List K00),Kpo ks ≤ ks.length + Kog ks
 | []=>by simp [Kpo]
 | k :: ks=>by
  rw [Kpo,Kog,List.length_cons]
  have:=Kpp k
  have:=Kpq ks
  omega
end
theorem Kpr (c:Int) (h:c ≤ 36):Ki7 c=some (decide (35 ≤ c)):=by
 unfold Ki7
 by_cases h1:c=35
 ·subst h1; rfl
 ·by_cases h2:c=36
  ·subst h2; rfl
  ·rw [show (c == 35)=false by simpa using h1,show (c == 36)=false by simpa using h2,decide_eq_false (by omega)]; rfl
theorem Kps (t:K00) (hty:t.fType.length ≤ 1099511627776):∀ (l:List Int) (i n:Nat),t.fType.drop i=l→(∀ c ∈ l,c ≤ 36)→n ≤ 1 + i→Kic (t,(n:Int),(i:Int))=some (((n + Kpm l:Nat)):Int):=by
 intro l
 induction l with
 | nil =>
  intro i n hd hc hn
  rw [Kic.eq_def,Kpm]
  simp only
  rw [Kmm (Knk hd)]; rfl
 | cons c l ih =>
  intro i n hd hc hn
  obtain ⟨hi,hx,hd'⟩:=Knj hd
  rw [Kic.eq_def,Kpm]
  simp only
  rw [Kml hi,if_pos rfl,hx,bs,Kpr c (hc c List.mem_cons_self),bs,Kmk (n:=n) (by omega),Kmk (n:=i) (by omega)]
  have hc':∀ c ∈ l,c ≤ 36:=fun x hx=>hc x (List.mem_cons_of_mem _ hx)
  by_cases h:35 ≤ c
  ·rw [decide_eq_true h,if_pos rfl,bs,ih (i + 1) (n + 1) hd' hc' (by omega),if_pos h,show n + 1 + Kpm l=n + (1 + Kpm l) by omega]
  ·rw [decide_eq_false h,if_neg (by decide),bs,ih (i + 1) n hd' hc' (by omega),if_neg h,show n + Kpm l=n + (0 + Kpm l) by omega]
theorem Kpt {g:Int→Bool} {y:List Int→Bool} {n:Nat} {t:K00} (h:tOk g y n t=true):Kp5 g y (n:Int) t=true∧Kp6 g y t.fOp n 0 t.fKids=true:=by
 rw [Kp7,Bool.and_eq_true] at h; exact h
theorem Kpu {g:Int→Bool} {n:Int} {t:K00} (h:Kp5 g wtB n t=true):(∀ c ∈ t.fType,0 ≤ c∧c ≤ 36)∧t.fType.length ≤ 40:=by
 unfold Kp5 Kp4 at h
 rw [Bool.and_eq_true] at h
 have h:=h.2
 cases hq:Kor t.fOp
 ·rw [hq] at h
  simp at h
  rw [h]; simp
 ·rw [hq,if_pos rfl] at h
  exact ⟨Kpk h,Kpl h⟩
mutual
theorem Kpv (g:Int→Bool):∀ (t:K00) (m:Nat),tms t ≤ 1099511627776→tOk g wtB m t=true→Kif t=some ((opn t:Nat):Int)
 | ⟨op,N,ty,ks⟩,m,ht,hw=>by
  obtain ⟨hw1,hw2⟩:=Kpt hw
  have hty:=(Kpu hw1).1
  rw [tms] at ht
  rw [Kif.eq_def,opn]
  simp only
  have hc:=Kpn ty
  have ho:=Kpq ks
  have hf:∃ f,Kgt op=some f∧f.1.fgrade=Koq op:=by
   refine ⟨_,Koy op,?_⟩
   unfold Kox
   have:inB op 0 12=true:=by unfold Kp5 at hw1; simp only [Bool.and_eq_true] at hw1; exact hw1.1.1.1
   rw [this]; rfl
  obtain ⟨⟨f1,f2⟩,hf,hfg⟩:=hf
  rw [hf,bs]
  simp only at hfg ⊢
  refine (Koe (x:=Koq op && decide (N < 0)) ?_).trans ?_
  ·rw [hfg]; cases Koq op <;> rfl
  generalize (Koq op && decide (N < 0))=b
  refine (Koe (x:=(((if b then 1 else 0):Nat):Int)) ?_).trans ?_
  ·cases b <;> rfl
  have h1:=Kps ⟨op,N,ty,ks⟩ (by simp only; omega) ty 0 (if b then 1 else 0) rfl (fun c hc=>(hty c hc).2) (by split <;> omega)
  have h2:=Kpw g ks ⟨op,N,ty,ks⟩ 0 ((if b then 1 else 0) + Kpm ty) m rfl (by simp only; omega) (by omega) (by split <;> omega) hw2
  rw [show (0:Int)=((0:Nat):Int) from rfl,h1,bs,h2,bs]
theorem Kpw (g:Int→Bool):∀ (ks:List K00) (t:K00) (i n m:Nat),t.fKids.drop i=ks→t.fKids.length ≤ 1099511627776→ks.length + Kog ks ≤ 1099511627776→n + ks.length + Kog ks ≤ 35184372088832→Kp6 g wtB t.fOp m i ks=true →
  Kig (t,(n:Int),(i:Int))=some (((n + Kpo ks:Nat)):Int)
 | [],t,i,n,m,hd,hk,ht,hn,hw=>by
  rw [Kig.eq_def,Kpo]
  simp only
  rw [Kmm (Knk hd)]; rfl
 | k :: ks,t,i,n,m,hd,hk,ht,hn,hw=>by
  obtain ⟨hi,hx,hd'⟩:=Knj hd
  rw [Kog,List.length_cons] at ht hn
  rw [Kp6,Bool.and_eq_true] at hw
  have ho:=Kpp k
  rw [Kig.eq_def,Kpo]
  simp only
  rw [Kml hi,if_pos rfl,hx,bs,Kpv g k _ (by omega) hw.1,bs,Kmk (by omega),Kmi (by omega) (by omega),show (n:Int) + ((opn k:Nat):Int)=((n + opn k:Nat):Int) by omega,Kpw g ks t (i + 1) (n + opn k) m hd' hk (by omega) (by omega) hw.2,Nat.add_assoc]
end
theorem Kpx {n b:Nat} (h:n * b ≤ 140737488355328):Qdw n b=some ():=by unfold Qdw chk; rw [if_pos h]
theorem Kpy {g:Int→Bool} {y:List Int→Bool} {n:Int} {t:K00} (h:Kp5 g y n t=true):inB t.fOp 0 12=true∧(t.fKids.length:Int)=Kop t.fOp:=by
 unfold Kp5 at h
 simp only [Bool.and_eq_true,beq_iff_eq] at h
 exact ⟨h.1.1.1,h.1.1.2⟩
theorem Kpz (l:List Int) (h:l.length ≤ 1099511627776):Kch l=some l:=by
 unfold Kch
 rw [Kpx (by simp only [List.length_nil]; omega),bs]
theorem Kq0 (l:List Int) (h:l.length ≤ 1099511627776):Khp l=some l:=by
 unfold Khp
 rw [Kpx (by simp only [List.length_nil]; omega),bs]
structure Kq1 (s:K02) (n:Nat):Prop where
 size:s.fSize=(n:Int)
 lo:2 ≤ n
 hi:n ≤ 16
 lp:s.fPlus.length=n * n
 lt:s.fTimes.length=n * n
 lb:s.fBelow.length=n * n
def Kq2 (s:K02) (n i:Nat):Bool:=inB (s.fPlus.getD i 0) 0 ((n:Int) - 1) && inB (s.fTimes.getD i 0) 0 ((n:Int) - 1)
section
variable {s:K02} {n:Nat} (h:Kq1 s n)
include h
theorem nn:n * n ≤ 256:=Nat.le_trans (Nat.mul_le_mul h.hi h.hi) (by decide)
theorem Kq3 {i:Nat} (hi:i < n * n):idx s.fPlus (i:Int)=some (s.fPlus.getD i 0):=by
 have hl:i < s.fPlus.length:=by rw [h.lp]; exact hi
 rw [Kmj hl,List.getD_eq_getElem?_getD,List.getElem?_eq_getElem hl]; rfl
theorem Kq4 {i:Nat} (hi:i < n * n):idx s.fTimes (i:Int)=some (s.fTimes.getD i 0):=by
 have hl:i < s.fTimes.length:=by rw [h.lt]; exact hi
 rw [Kmj hl,List.getD_eq_getElem?_getD,List.getElem?_eq_getElem hl]; rfl
theorem Kq5:wr (s.fSize - 1)=(n:Int) - 1:=by
 have:=h.lo; have:=h.hi
 rw [h.size,Kmi (by omega) (by omega)]
theorem Kq6:∀ (k i:Nat),i + k=n * n→K90 (s,(i:Int))=some (if (List.range' i k).all (Kq2 s n) then .inl () else .inr false):=by
 have hn:=nn h
 intro k
 induction k with
 | zero =>
  intro i hm
  rw [K90.eq_def]
  simp only
  rw [h.lp,Kmm (by omega)]
  rfl
 | succ k ih =>
  intro i hm
  rw [K90.eq_def]
  simp only
  rw [h.lp,Kml (by omega),if_pos rfl,Kq3 h (by omega),Kq4 h (by omega),Kq5 h]
  have ih:=ih (i + 1) (by omega)
  rw [Kmk (by omega),List.range'_succ,List.all_cons]
  generalize ((i + 1:Nat):Int)=M at ih ⊢
  generalize (List.range' (i + 1) k).all (Kq2 s n)=r at ih ⊢
  simp only [bs,sIn]
  cases h1:inB (s.fPlus.getD i 0) 0 ((n:Int) - 1) <;> cases h2:inB (s.fTimes.getD i 0) 0 ((n:Int) - 1) <;> cases r <;> simp only [Kq2,h1,h2,ih,bs,Bool.not_true,Bool.not_false,Bool.true_and,Bool.false_and,Bool.and_true,Bool.and_false,if_true,if_false,Bool.false_eq_true]
theorem Kq7 (he:(List.range' 0 (n * n)).all (Kq2 s n)=true):Tab s n:=by
 rw [List.all_eq_true] at he
 have hent:∀ i,i < n * n→Kq2 s n i=true:=fun i hi=>he i (by rw [List.mem_range'_1]; omega)
 refine ⟨h.size,h.lo,h.hi,h.lp,h.lt,h.lb,fun i hi=>?_,fun i hi=>?_⟩
 ·have:=hent i (by rw [← h.lp]; exact hi)
  simp only [Kq2,inB,Bool.and_eq_true,decide_eq_true_eq,List.getD_eq_getElem?_getD,List.getElem?_eq_getElem hi,Option.getD_some] at this
  omega
 ·have:=hent i (by rw [← h.lt]; exact hi)
  simp only [Kq2,inB,Bool.and_eq_true,decide_eq_true_eq,List.getD_eq_getElem?_getD,List.getElem?_eq_getElem hi,Option.getD_some] at this
  omega
end
def Kq8 (s:K02):Bool:=inB s.fSize 2 16 && !((s.fPlus.length:Int) != (wr (s.fSize * s.fSize))) && !((s.fTimes.length:Int) != (wr (s.fSize * s.fSize))) && !((s.fBelow.length:Int) != (wr (s.fSize * s.fSize)))
theorem Kq9 {s:K02} (h:Kq8 s=true):Kq1 s s.fSize.toNat:=by
 unfold Kq8 at h
 simp only [Bool.and_eq_true,Bool.not_eq_true',inB,decide_eq_true_eq,bne_eq_false_iff_eq] at h
 obtain ⟨⟨⟨⟨h1,h2⟩,h3⟩,h4⟩,h5⟩:=h
 obtain ⟨n,hn⟩:∃ n:Nat,s.fSize=(n:Int):=⟨s.fSize.toNat,by omega⟩
 rw [hn] at h1 h2 h3 h4 h5 ⊢
 have h256:n * n ≤ 256:=Nat.le_trans (Nat.mul_le_mul (by omega:n ≤ 16) (by omega:n ≤ 16)) (by decide)
 have e:(n:Int) * (n:Int)=((n * n:Nat):Int):=by simp
 rw [e] at h3 h4 h5
 generalize hm:n * n=m at *
 rw [Kmi (by omega) (by omega)] at h3 h4 h5
 rw [Int.toNat_natCast]
 exact ⟨hn,by omega,by omega,by omega,by omega,by omega⟩
def Kqa (s:K02):Bool:=Kq8 s && (List.range' 0 (s.fSize.toNat * s.fSize.toNat)).all (Kq2 s s.fSize.toNat) && Knf s s.fSize.toNat
theorem Kqb {s:K02} (h:Kqa s=true):Tab s s.fSize.toNat:=by
 unfold Kqa at h
 simp only [Bool.and_eq_true] at h
 exact Kq7 (Kq9 h.1.1) h.1.2
theorem Kqc (s:K02):Kah s=some (Kqa s):=by
 unfold Kah K93 Kqa
 rw [sIn]
 cases hf:Kq8 s with
 | false =>
  unfold Kq8 at hf
  cases h1:inB s.fSize 2 16 <;> cases h2:((s.fPlus.length:Int) != (wr (s.fSize * s.fSize))) <;> cases h3:((s.fTimes.length:Int) != (wr (s.fSize * s.fSize))) <;> cases h4:((s.fBelow.length:Int) != (wr (s.fSize * s.fSize))) <;> simp_all [bs]
 | true =>
  have F:=Kq9 hf
  have hl:=Kq6 F (s.fSize.toNat * s.fSize.toNat) 0 (by omega)
  rw [show ((0:Nat):Int)=0 from rfl] at hl
  unfold Kq8 at hf
  simp only [Bool.and_eq_true,Bool.not_eq_true'] at hf
  obtain ⟨⟨⟨h1,h2⟩,h3⟩,h4⟩:=hf
  cases he:(List.range' 0 (s.fSize.toNat * s.fSize.toNat)).all (Kq2 s s.fSize.toNat) with
  | false=>rw [he] at hl; simp [bs,h1,h2,h3,h4,hl]
  | true =>
   have T:=Kq7 F he
   have hl2:=Kni T s.fSize.toNat 0 (by omega)
   rw [show ((0:Nat):Int)=0 from rfl] at hl2
   rw [he] at hl
   have hm:(List.range' 0 s.fSize.toNat).all (fun a=>Kn1 s s.fSize.toNat a && (List.range' 0 s.fSize.toNat).all fun b=>Knd s s.fSize.toNat a b && (List.range' 0 s.fSize.toNat).all fun c=>Kn2 s s.fSize.toNat a b c)=Knf s s.fSize.toNat:=rfl
   rw [hm] at hl2
   cases hs:Knf s s.fSize.toNat <;> rw [hs] at hl2 <;> simp [bs,h1,h2,h3,h4,hl,hl2]
inductive Ty where
 | num
 | bin (c:Int) (a b:Ty)
 | un (c:Int) (a:Ty)
namespace Ty
def code:Ty→List Int
 | num=>[0]
 | bin c a b=>c :: (a.code ++ b.code)
 | un c a=>c :: a.code
def ok:Ty→Prop
 | num=>True
 | bin c a b=>Knn c=2∧a.ok∧b.ok
 | un c a=>Knn c=1∧a.ok
def kids:Ty→List Ty
 | num=>[]
 | bin _ a b=>[a,b]
 | un _ a=>[a]
def hd:Ty→Int
 | num=>0
 | bin c _ _=>c
 | un c _=>c
end Ty
def Kqd:List Ty→List Int
 | []=>[]
 | t :: l=>t.code ++ Kqd l
theorem Kqe (T:Ty):T.code=T.hd :: Kqd T.kids:=by cases T <;> simp [Ty.code,Ty.hd,Ty.kids,Kqd]
theorem Kqf (T:Ty):1 ≤ T.code.length:=by rw [Kqe]; simp
theorem Kqg (T:Ty):∀ (m:Nat) (l:List Int),T.ok→skip (m + 1) (T.code ++ l)=skip m l:=by
 induction T with
 | num =>
  intro m l _
  rw [Ty.code,List.singleton_append,Knx,show Knn 0=0 from rfl,if_neg (by decide)]; rfl
 | bin c a b iha ihb =>
  intro m l h
  rw [Ty.code,List.cons_append,Knx,h.1,if_neg (by decide),List.append_assoc,show m + (2:Int).toNat=(m + 1) + 1 from rfl,iha _ _ h.2.1,ihb _ _ h.2.2]
 | un c a ih =>
  intro m l h
  rw [Ty.code,List.cons_append,Knx,h.1,if_neg (by decide),show m + (1:Int).toNat=m + 1 from rfl,ih _ _ h.2]
theorem Kqh (l:List Int):∀ (m:Nat) (r:List Int),skip m l=some r→∃ Ts:List Ty,Ts.length=m∧(∀ T ∈ Ts,T.ok)∧l=Kqd Ts ++ r:=by
 induction l with
 | nil =>
  intro m r h
  cases m with
  | zero=>rw [Knv] at h; cases h; exact ⟨[],rfl,fun _ h=>(by cases h),rfl⟩
  | succ m=>rw [Knw] at h; cases h
 | cons c l ih =>
  intro m r h
  cases m with
  | zero=>rw [Knv] at h; cases h; exact ⟨[],rfl,fun _ h=>(by cases h),rfl⟩
  | succ m =>
   rw [Knx] at h
   by_cases hk:Knn c=-1
   ·rw [if_pos hk] at h; cases h
   ·rw [if_neg hk] at h
    obtain ⟨Ts,h1,h2,h3⟩:=ih _ _ h
    rcases Knr c with ⟨q,e⟩ | ⟨q,e⟩ | ⟨q,e⟩ | ⟨q,e⟩
    ·subst q
     rw [e] at h1
     exact ⟨.num :: Ts,by simpa using h1,fun T hT=>by rcases List.mem_cons.1 hT with rfl | hT; exact trivial; exact h2 T hT,by rw [h3]; rfl⟩
    ·rw [e] at h1
     match Ts,h1 with
     | a :: b :: Ts,h1 =>
      refine ⟨.bin c a b :: Ts,by simpa using h1,fun T hT=>?_,by rw [h3]; simp [Kqd,Ty.code]⟩
      rcases List.mem_cons.1 hT with rfl | hT
      ·exact ⟨e,h2 a List.mem_cons_self,h2 b (List.mem_cons_of_mem _ List.mem_cons_self)⟩
      ·exact h2 T (List.mem_cons_of_mem _ (List.mem_cons_of_mem _ hT))
     | [_],h1=>exact absurd h1 (by simp)
     | [],h1=>exact absurd h1 (by simp)
    ·rw [e] at h1
     match Ts,h1 with
     | a :: Ts,h1 =>
      refine ⟨.un c a :: Ts,by simpa using h1,fun T hT=>?_,by rw [h3]; simp [Kqd,Ty.code]⟩
      rcases List.mem_cons.1 hT with rfl | hT
      ·exact ⟨e,h2 a List.mem_cons_self⟩
      ·exact h2 T (List.mem_cons_of_mem _ hT)
     | [],h1=>exact absurd h1 (by simp)
    ·exact absurd e hk
theorem Kqi {ty:List Int} (h:wtB ty=true):∃ T:Ty,T.ok∧ty=T.code∧ty.length ≤ 40:=by
 have hl:=Kpl h
 unfold wtB at h
 rw [Bool.and_eq_true,beq_iff_eq] at h
 obtain ⟨Ts,h1,h2,h3⟩:=Kqh _ _ _ h.2
 match Ts,h1 with
 | [T],_=>exact ⟨T,h2 T List.mem_cons_self,by rw [h3]; simp [Kqd],hl⟩
theorem Kqj {T:Ty} (h:T.ok) (hl:T.code.length ≤ 40):wtB T.code=true:=by
 unfold wtB
 have:=Kqg T 0 [] h
 rw [List.append_nil,Knv] at this
 rw [decide_eq_true hl,show (1:Nat)=0 + 1 from rfl,this]; rfl
theorem Kqk {T:Ty} (h:T.ok):∀ K ∈ T.kids,K.ok:=by
 intro K hK
 cases T with
 | num=>cases hK
 | bin c a b=>rcases List.mem_cons.1 hK with rfl | hK; exact h.2.1; rw [List.mem_singleton.1 hK]; exact h.2.2
 | un c a=>rw [List.mem_singleton.1 hK]; exact h.2
theorem Kql {pre:List Int} {T:Ty} {post:List Int} (h:T.ok):Ko0 (pre ++ (T.code ++ post)) 1 pre.length=((pre.length + T.code.length:Nat):Int):=by
 unfold Ko0
 rw [List.drop_left,show (1:Nat)=0 + 1 from rfl,Kqg T 0 post h,Knv]
 simp only [List.length_append]
 omega
theorem Kqm {α:Type} (p m q:List α) (mx:Option Int) (hmx:mx=none∨mx=some ((p.length + m.length:Nat):Int)):cut (p ++ (m ++ q)) (some (p.length:Int)) (some ((p.length + m.length:Nat):Int)) mx=some m:=by
 unfold cut
 have e:((p ++ (m ++ q)).take (p.length + m.length)).drop p.length=m:=by
  rw [← List.append_assoc,← List.length_append,List.take_left,List.drop_left]
 rw [if_pos]
 ·simp only [Option.getD_some,Int.toNat_natCast,e]
 ·rcases hmx with rfl | rfl <;> simp only [Option.getD_some,Option.getD_none,List.length_append] <;> omega
theorem Kqn {α:Type} (p q:List α):cut (p ++ q) (some (p.length:Int)) none none=some q:=by
 unfold cut
 rw [if_pos]
 ·simp only [Option.getD_some,Option.getD_none,Int.toNat_natCast,List.take_length,List.drop_left]
 ·simp only [Option.getD_some,Option.getD_none,List.length_append]; omega
theorem Kqo (Ks:List Ty):∀ (pre:List Int) (out:List (List Int)),(∀ K ∈ Ks,K.ok)→(pre ++ Kqd Ks).length ≤ 1099511627776→out.length + Ks.length ≤ 1099511627776→Kli (pre ++ Kqd Ks,out,(pre.length:Int))=some (out ++ Ks.map Ty.code):=by
 induction Ks with
 | nil =>
  intro pre out hk hl ho
  rw [show Kqd []=[] from rfl,List.append_nil,Kli.eq_def]
  simp only
  rw [Kmm (Nat.le_refl _)]; simp
 | cons K Ks ih =>
  intro pre out hk hl ho
  have hK:=hk K List.mem_cons_self
  have hp:=Kqf K
  rw [show Kqd (K :: Ks)=K.code ++ Kqd Ks from rfl] at hl ⊢
  rw [List.length_cons] at ho
  rw [Kli.eq_def]
  simp only
  rw [Kml (by simp only [List.length_append]; omega),if_pos rfl,Ko4 _ hl _ pre.length rfl,Kql hK,bs,Kqm _ _ _ _ (.inr rfl),bs,Kpx (by simp only [List.length_singleton]; omega),bs]
  have:=ih (pre ++ K.code) (out ++ [K.code]) (fun K hK=>hk K (List.mem_cons_of_mem _ hK)) (by rw [List.append_assoc]; exact hl) (by simp; omega)
  rw [List.append_assoc,List.length_append] at this
  rw [this,List.map_cons,List.append_assoc]; rfl
theorem Kqp {T:Ty} (h:T.ok) (hl:T.code.length ≤ 1048576):Klj T.code=some (T.kids.map Ty.code):=by
 unfold Klj
 have hk:T.kids.length ≤ 2:=by cases T <;> simp [Ty.kids]
 have e:[T.hd] ++ Kqd T.kids=T.code:=(Kqe T).symm
 have:=Kqo T.kids [T.hd] [] (Kqk h) (by rw [e]; omega) (by simp only [List.length_nil]; omega)
 rw [e] at this
 rw [show (1:Int)=(([T.hd].length:Nat):Int) from rfl,this,bs]; rfl
theorem Kqq {c:Int} {a:Ty} {r:List Int} (ha:a.ok) (hl:(c :: (a.code ++ r)).length ≤ 1099511627776):Kck (c :: (a.code ++ r),0)=some a.code:=by
 unfold Kck
 simp only
 have e:=Kql (pre:=[c]) (post:=r) ha
 have h1:=Ko2 (c :: (a.code ++ r)) hl 1 (by simp)
 rw [show (((1:Nat)):Int)=1 from rfl] at h1
 rw [List.length_singleton] at e
 have e':Ko0 (c :: (a.code ++ r)) 1 1=((1 + a.code.length:Nat):Int):=e
 rw [h1,bs,e',if_pos (by rfl)]
 have h2:=Kqm [c] a.code r none (.inl rfl)
 rw [List.length_singleton] at h2
 have h2':cut (c :: (a.code ++ r)) (some 1) (some ((1 + a.code.length:Nat):Int)) none=some a.code:=h2
 simp only [List.length_cons,List.length_append] at hl
 rw [h2',bs,Kpz _ (by omega),bs]
theorem Kqr {c:Int} {a:Ty} {r:List Int} (ha:a.ok) (hl:(c :: (a.code ++ r)).length ≤ 1099511627776):Kck (c :: (a.code ++ r),1)=some r:=by
 unfold Kck
 simp only
 have e:=Kql (pre:=[c]) (post:=r) ha
 have h1:=Ko2 (c :: (a.code ++ r)) hl 1 (by simp)
 rw [show (((1:Nat)):Int)=1 from rfl] at h1
 rw [List.length_singleton] at e
 have e':Ko0 (c :: (a.code ++ r)) 1 1=((1 + a.code.length:Nat):Int):=e
 rw [h1,bs,e',if_neg (by decide)]
 have h2:=Kqn (c :: a.code) r
 rw [List.length_cons,List.cons_append,Nat.add_comm] at h2
 simp only [List.length_cons,List.length_append] at hl
 rw [h2,bs,Kpz _ (by omega),bs]
theorem Kqs (c:Int):((Kns c).1 == 3)=Knl c:=by
 unfold Knl inB
 rcases Knu c with ⟨h,e⟩ | ⟨h,e⟩ | ⟨h,e⟩ | ⟨h,e⟩ | ⟨h,e⟩ | ⟨h,e⟩ | ⟨h,e⟩ | ⟨h,e⟩ <;> rw [e] <;> (first | (subst h; rfl) | skip)
 ·rw [decide_eq_true (by omega:c ≥ 3),decide_eq_true (by omega:c ≤ 18)]; rfl
 ·rw [decide_eq_false (by omega:¬ c ≤ 18),beq_eq_false_iff_ne.2 (by omega:c ≠ 35)]; simp
 ·have:¬ (c ≥ 3∧c ≤ 18):=by omega
  rw [beq_eq_false_iff_ne.2 (by omega:c ≠ 35)]
  by_cases h3:c ≥ 3
  ·rw [decide_eq_false (by omega:¬ c ≤ 18)]; simp
  ·rw [decide_eq_false h3]; simp
theorem Kqt {α:Type} (x:α) (l:List α):idx (x :: l) 0=some x:=rfl
theorem Kqu {a b:Nat} (ha:a ≤ 1099511627776) (hb:b ≤ 1099511627776):wr ((a:Int) + (b:Int))=((a + b:Nat):Int):=by rw [Kmi (by omega) (by omega)]; omega
theorem Kqv (a b:Nat):K7m ((a:Int),(b:Int))=some ((min a b:Nat):Int):=by
 unfold K7m
 simp only
 by_cases h:a < b
 ·rw [decide_eq_true (by omega:(a:Int) < (b:Int)),if_pos rfl,Nat.min_eq_left (by omega)]
 ·rw [decide_eq_false (by omega:¬ (a:Int) < (b:Int)),if_neg (by decide),Nat.min_eq_right (by omega)]
def sms (s:K02):Nat:=s.fPlus.length + s.fTimes.length + s.fBelow.length
theorem Kqw (a b:List K00):Kog (a ++ b)=Kog a + Kog b:=by
 induction a with
 | nil=>simp [Kog]
 | cons x l ih=>rw [List.cons_append,Kog,Kog,ih]; omega
theorem Kqx {l:List K00} {t:K00} (h:t ∈ l):tms t + l.length ≤ Kog l + l.length:=by
 induction l with
 | nil=>cases h
 | cons x l ih =>
  rw [Kog]
  rcases List.mem_cons.1 h with rfl | h
  ·omega
  ·have:=ih h; omega
theorem Kqy {l:List K00} {t:K00} (h:t ∈ l):tsz t ≤ Kof l:=by
 induction l with
 | nil=>cases h
 | cons x l ih =>
  rw [Kof]
  rcases List.mem_cons.1 h with rfl | h
  ·omega
  ·have:=ih h; omega
theorem Kqz {t k:K00} (h:k ∈ t.fKids):tsz k + 1 ≤ tsz t:=by
 rw [Koi t]
 have:=Kqy h
 omega
mutual
def tNb (hi:Int):K00→Prop
 | ⟨op,N,_,ks⟩=>(op=0→-9223372036854775808 ≤ N∧N ≤ hi)∧Kr0 hi ks
def Kr0 (hi:Int):List K00→Prop
 | []=>True
 | k :: ks=>tNb hi k∧Kr0 hi ks
end
mutual
def shf (by_:Int):Int→K00→K00
 | from_,⟨op,N,ty,ks⟩=>⟨op,if op == 0 && decide (N ≥ from_) then N + by_ else N,ty,Kr1 by_ op from_ 0 ks⟩
def Kr1 (by_:Int):Int→Int→Nat→List K00→List K00
 | _,_,_,[]=>[]
 | op,from_,i,k :: ks=>shf by_ (from_ + ((Koz op (i:Int):Nat):Int)) k :: Kr1 by_ op from_ (i + 1) ks
end
mutual
theorem Kr2:∀ (t:K00) (fr:Int),shf 0 fr t=t
 | ⟨op,N,ty,ks⟩,fr=>by
  rw [shf,Kr3 ks]
  simp
theorem Kr3:∀ (ks:List K00) (op fr:Int) (i:Nat),Kr1 0 op fr i ks=ks
 | [],op,fr,i=>by rw [Kr1]
 | k :: ks,op,fr,i=>by rw [Kr1,Kr2 k,Kr3 ks]
end
theorem Kr4 (by_:Int):∀ (ks:List K00) (op fr:Int) (i:Nat),(Kr1 by_ op fr i ks).length=ks.length
 | [],op,fr,i=>by rw [Kr1]
 | k :: ks,op,fr,i=>by rw [Kr1,List.length_cons,List.length_cons,Kr4 by_ ks]
mutual
theorem Kr5 (b hi:Int) (hb:0 ≤ b) (hh:hi + b ≤ 9223372036854775807):∀ (t:K00) (fr:Int),tNb hi t→tms t ≤ 1099511627776→-35184372088832 ≤ fr→fr + 2 * tms t ≤ 35184372088832→Ked (t,b,fr)=some (shf b fr t)
 | ⟨op,N,ty,ks⟩,fr,hn,hm,h1,h2=>by
  rw [tms] at hm h2
  rw [tNb] at hn
  rw [Ked.eq_def,shf]
  simp only
  rw [Kpz ty (by omega),bs]
  refine (Koe (x:=op == 0 && decide (N ≥ fr)) ?_).trans ?_
  ·cases op == 0 <;> rfl
  refine (Koe (x:=if op == 0 && decide (N ≥ fr) then N + b else N) ?_).trans ?_
  ·cases h:op == 0 && decide (N ≥ fr)
   ·rfl
   ·rw [Bool.and_eq_true] at h
    have:=hn.1 (eq_of_beq h.1)
    rw [if_pos rfl,Kmi (by omega) (by omega)]; rfl
  rw [show (0:Int)=((0:Nat):Int) from rfl,Kr6 b hi hb hh ks ⟨op,N,ty,ks⟩ fr 0 ty _ [] rfl (by simp only; omega) hn.2 (by omega) h1 (by omega) (by simp),bs]
  rfl
theorem Kr6 (b hi:Int) (hb:0 ≤ b) (hh:hi + b ≤ 9223372036854775807):∀ (ks:List K00) (t:K00) (fr:Int) (i:Nat) (r:List Int) (o:Int) (out:List K00),t.fKids.drop i=ks→t.fKids.length ≤ 1099511627776→Kr0 hi ks→Kog ks ≤ 1099511627776→-35184372088832 ≤ fr →
  fr + 2 * (ks.length + Kog ks) ≤ 35184372088832→out.length=i→Kee (t,b,fr,r,o,out,(i:Int))=some (out ++ Kr1 b t.fOp fr i ks)
 | [],t,fr,i,r,o,out,hd,hk,hn,hm,h1,h2,ho=>by
  rw [Kee.eq_def,Kr1]
  simp only
  rw [Kmm (Knk hd),List.append_nil]; rfl
 | k :: ks,t,fr,i,r,o,out,hd,hk,hn,hm,h1,h2,ho=>by
  obtain ⟨hi',hx,hd'⟩:=Knj hd
  rw [Kog] at hm h2
  rw [List.length_cons] at h2
  rw [Kr0] at hn
  have ha:=Kp0 t.fOp (i:Int)
  rw [Kee.eq_def,Kr1]
  simp only
  rw [Kml hi',if_pos rfl,hx,bs,Kp1,bs,Kmi (by omega) (by omega),Kr5 b hi hb hh k _ hn.1 (by omega) (by omega) (by omega),bs,Kpx (by simp only [List.length_singleton]; omega),bs,Kmk (by omega)]
  rw [Kr6 b hi hb hh ks t fr (i + 1) r o _ hd' hk hn.2 (by omega) h1 (by omega) (by simp [ho]),List.append_assoc]
  rfl
end
mutual
theorem Kr7 {a b:Int} (h:a ≤ b):∀ (t:K00),tNb a t→tNb b t
 | ⟨op,N,ty,ks⟩,hn=>by
  rw [tNb] at hn ⊢
  exact ⟨fun e=>by have:=hn.1 e; omega,Kr8 h ks hn.2⟩
theorem Kr8 {a b:Int} (h:a ≤ b):∀ (ks:List K00),Kr0 a ks→Kr0 b ks
 | [],_=>by rw [Kr0]; trivial
 | k :: ks,hn=>by rw [Kr0] at hn ⊢; exact ⟨Kr7 h k hn.1,Kr8 h ks hn.2⟩
end
mutual
theorem Kr9 (g:Int→Bool) (y:List Int→Bool):∀ (t:K00) (n:Nat),tOk g y n t=true→tNb ((n:Int) + 2 * tsz t) t
 | ⟨op,N,ty,ks⟩,n,h=>by
  obtain ⟨h1,h2⟩:=Kpt h
  rw [tNb]
  refine ⟨fun e=>?_,?_⟩
  ·subst e
   unfold Kp5 Kp3 at h1
   simp only [Bool.and_eq_true] at h1
   have h3:=h1.1.2
   rw [show ((0:Int) == 0)=true from rfl,if_pos rfl] at h3
   unfold inB at h3
   simp only [Bool.and_eq_true,decide_eq_true_eq] at h3
   omega
  ·rw [tsz]
   exact Kr8 (by omega) ks (Kra g y ks op n 0 h2)
theorem Kra (g:Int→Bool) (y:List Int→Bool):∀ (ks:List K00) (op:Int) (n i:Nat),Kp6 g y op n i ks=true→Kr0 ((n:Int) + 2 * Kof ks + 2) ks
 | [],op,n,i,h=>by rw [Kr0]; trivial
 | k :: ks,op,n,i,h=>by
  rw [Kp6,Bool.and_eq_true] at h
  have ha:=Kp0 op (i:Int)
  rw [Kr0,Kof]
  exact ⟨Kr7 (by omega) k (Kr9 g y k _ h.1),Kr8 (by omega) ks (Kra g y ks op n (i + 1) h.2)⟩
end
theorem Krb {t:K00} (h:wB t=true):tOk (gN 16 false) wtB 8 t=true∧tsz t ≤ 400:=by
 unfold wB at h
 rw [Bool.and_eq_true,decide_eq_true_eq] at h
 exact h
theorem Krc {t:K00} (hn:tNb 9223372036854775807 t) (hm:tms t ≤ 1099511627776):Ked (t,0,0)=some t:=by
 rw [Kr5 0 9223372036854775807 (by omega) (by omega) t 0 hn hm (by omega) (by omega),Kr2]
mutual
theorem Krd:∀ (t:K00),tln t→tNb 9223372036854775807 t
 | ⟨op,N,ty,ks⟩,h=>by rw [tln] at h; rw [tNb]; exact ⟨fun _=>h.2.2.2,Kre ks h.2.2.1⟩
theorem Kre:∀ (ks:List K00),Kpi ks→Kr0 9223372036854775807 ks
 | [],h=>by rw [Kr0]; trivial
 | k :: ks,h=>by rw [Kpi] at h; rw [Kr0]; exact ⟨Krd k h.1,Kre ks h.2⟩
end
def noT:K00:=⟨0,0,[],[]⟩
def okT (o:Option K00):K00 × Bool:=match o with | some u=>(u,true) | none=>(noT,false)
def Krf (c:Int):Int:=if Knl c then 35 else if Knm c then 36 else c
theorem Krg (c:Int):(decide (Knn c > 0) && decide (c > 2))=(Knl c || Knm c):=by
 unfold Knl Knm inB
 rcases Knr c with ⟨h,e⟩ | ⟨h,e⟩ | ⟨h,e⟩ | ⟨h,e⟩ <;> rw [e,Bool.eq_iff_iff] <;> simp <;> omega
theorem Krh (c:Int):(if (Kns c).1 == 3 then 35 else if (Kns c).1 == 4 then 36 else c)=Krf c:=by
 unfold Krf
 rw [Kqs c]
 cases ha:Knl c
 ·have:((Kns c).1 == 4)=Knm c:=by
   unfold Knl inB at ha
   unfold Knm inB
   rcases Knu c with ⟨h,e⟩ | ⟨h,e⟩ | ⟨h,e⟩ | ⟨h,e⟩ | ⟨h,e⟩ | ⟨h,e⟩ | ⟨h,e⟩ | ⟨h,e⟩ <;> rw [e,Bool.eq_iff_iff] <;> simp at ha ⊢ <;> omega
  rw [this]
 ·rfl
theorem Kri (b:Bool):Kfu (b,-1)=some (if b then 35 else 36):=by cases b <;> rfl
mutual
def Krj:K00→K00
 | ⟨op,N,ty,ks⟩=>⟨op,if op == 12 then 1 else if Koq op then -1 else N,ty.map Krf,Krk ks⟩
def Krk:List K00→List K00
 | []=>[]
 | k :: ks=>Krj k :: Krk ks
end
theorem Krl (t:K00) (o:Int) (hty:t.fType.length ≤ 1099511627776):∀ (l:List Int) (i:Nat) (out:List Int),t.fType.drop i=l→out.length=i→Klk (t,o,out,(i:Int))=some (out ++ l.map Krf):=by
 intro l
 induction l with
 | nil =>
  intro i out hd ho
  rw [Klk.eq_def]
  simp only
  rw [Kmm (Knk hd)]; simp
 | cons c l ih =>
  intro i out hd ho
  obtain ⟨hi,hx,hd'⟩:=Knj hd
  rw [Klk.eq_def]
  simp only
  rw [Kml hi,if_pos rfl,hx,bs]
  refine (Koe (x:=Knl c || Knm c) ?_).trans ?_
  ·rw [Knq,bs,← Krg]; cases decide (Knn c > 0) <;> rfl
  refine (Koe (x:=Krf c) ?_).trans ?_
  ·rw [Kno,bs,Kri,bs]; unfold Krf; cases Knl c <;> cases Knm c <;> rfl
  rw [Kpx (by simp only [List.length_singleton]; omega),bs,Kmk (by omega),ih (i + 1) _ hd' (by simp [ho]),List.append_assoc,List.map_cons]; rfl
theorem Krm (t:K00) (o:Int) (r:List Int) (hr:r.length ≤ 1099511627776):∀ (l:List Int) (i:Nat) (out:List Int),out.drop i=l→out.length=r.length→Khu (t,r,o,out,(i:Int))=some (out.take i ++ l.map Krf):=by
 intro l
 induction l with
 | nil =>
  intro i out hd ho
  have:=Knk hd
  rw [Khu.eq_def]
  simp only
  rw [Kmm (by omega),List.take_of_length_le this]; simp
 | cons c l ih =>
  intro i out hd ho
  obtain ⟨hi,hx,hd'⟩:=Knj hd
  rw [Khu.eq_def]
  simp only
  rw [Kml (by omega),if_pos rfl,hx,bs,Knt,bs]
  have hs:=Krh c
  refine (Koe (x:=out.set i (Krf c)) ?_).trans ?_
  ·have same:out.set i c=out:=by
    apply List.ext_getElem?
    intro j
    rw [List.getElem?_set]
    split
    ·rename_i e; subst e
     have:=Kmj hi
     rw [hx] at this
     rw [List.getElem?_eq_getElem hi]; exact this
    ·rfl
   revert hs
   rcases Kns c with ⟨a,b⟩
   intro hs
   simp only at hs ⊢
   simp only [bs,Int.toNat_natCast]
   rw [← hs]
   cases a == 3
   ·cases a == 4
    ·rw [if_neg (by decide),if_neg (by decide),if_neg (by decide),if_neg (by decide),same]; rfl
    ·rfl
   ·rfl
  have hlen:i < (out.set i (Krf c)).length:=by simpa using hi
  rw [Kmk (by omega),ih (i + 1) _ (by rw [List.drop_set_of_lt (by omega)]; exact hd') (by simpa using ho)]
  congr 1
  rw [List.take_succ_eq_append_getElem hlen,List.getElem_set_self,List.take_set_of_le (Nat.le_refl i),List.append_assoc,List.map_cons]; rfl
mutual
theorem Krn:∀ (t:K00),tms t ≤ 1099511627776→Kll t=some (Krj t)
 | ⟨op,N,ty,ks⟩,h=>by
  rw [tms] at h
  rw [Kll.eq_def,Krj]
  simp only
  rw [Kov,bs]
  refine (Koe (x:=if Koq op then -1 else N) ?_).trans ?_
  ·cases Koq op <;> rfl
  refine (Koe (x:=if op == 12 then 1 else if Koq op then -1 else N) ?_).trans ?_
  ·cases op == 12 <;> rfl
  generalize (if (op == 12)=true then (1:Int) else if Koq op=true then -1 else N)=o
  rw [show (0:Int)=((0:Nat):Int) from rfl,Krl ⟨op,N,ty,ks⟩ o (by simp only; omega) ty 0 [] rfl rfl,bs,Kro ks ⟨op,N,ty,ks⟩ o _ 0 [] rfl (by simp only; omega) (by omega) rfl,bs]
  rfl
theorem Kro:∀ (ks:List K00) (t:K00) (o:Int) (r:List Int) (i:Nat) (out:List K00),t.fKids.drop i=ks→t.fKids.length ≤ 1099511627776→Kog ks ≤ 1099511627776→out.length=i→Klm (t,o,r,out,(i:Int))=some (out ++ Krk ks)
 | [],t,o,r,i,out,hd,hk,hm,ho=>by
  rw [Klm.eq_def,Krk]
  simp only
  rw [Kmm (Knk hd),List.append_nil]; rfl
 | k :: ks,t,o,r,i,out,hd,hk,hm,ho=>by
  obtain ⟨hi,hx,hd'⟩:=Knj hd
  rw [Kog] at hm
  rw [Klm.eq_def,Krk]
  simp only
  rw [Kml hi,if_pos rfl,hx,bs,Krn k (by omega),bs,Kpx (by simp only [List.length_singleton]; omega),bs,Kmk (by omega),Kro ks t o r (i + 1) _ hd' hk (by omega) (by simp [ho]),List.append_assoc]; rfl
end
mutual
theorem Krp (g:Int→Bool) (y:List Int→Bool):∀ (t:K00) (n:Nat),tOk g y n t=true→tms t ≤ 1099511627776→Khx t=some (Krj t)
 | ⟨op,N,ty,ks⟩,n,hw,h=>by
  obtain ⟨hw1,hw2⟩:=Kpt hw
  have hop:=(Kpy hw1).1
  rw [tms] at h
  rw [Khx.eq_def,Krj]
  simp only
  rw [Kq0 ty (by omega),bs,Koy,bs]
  unfold Kox
  simp only at hop
  rw [hop]
  simp only [if_true]
  refine (Koe (x:=if op == 12 then 1 else if Koq op then -1 else N) ?_).trans ?_
  ·cases h12:op == 12
   ·cases Koq op <;> rfl
   ·rw [eq_of_beq h12]; rfl
  generalize (if (op == 12)=true then (1:Int) else if Koq op=true then -1 else N)=o
  rw [show (0:Int)=((0:Nat):Int) from rfl,Krm ⟨op,N,ty,ks⟩ o ty (by omega) ty 0 ty rfl rfl,bs,Krq g y ks ⟨op,N,ty,ks⟩ n o _ 0 [] rfl hw2 (by simp only; omega) (by omega) rfl,bs]
  rfl
theorem Krq (g:Int→Bool) (y:List Int→Bool):∀ (ks:List K00) (t:K00) (n:Nat) (o:Int) (r:List Int) (i:Nat) (out:List K00),t.fKids.drop i=ks→Kp6 g y t.fOp n i ks=true→t.fKids.length ≤ 1099511627776→Kog ks ≤ 1099511627776→out.length=i→Khy (t,o,r,out,(i:Int))=some (out ++ Krk ks)
 | [],t,n,o,r,i,out,hd,hw,hk,hm,ho=>by
  rw [Khy.eq_def,Krk]
  simp only
  rw [Kmm (Knk hd),List.append_nil]; rfl
 | k :: ks,t,n,o,r,i,out,hd,hw,hk,hm,ho=>by
  obtain ⟨hi,hx,hd'⟩:=Knj hd
  rw [Kog] at hm
  rw [Kp6,Bool.and_eq_true] at hw
  rw [Khy.eq_def,Krk]
  simp only
  rw [Kml hi,if_pos rfl,hx,bs,Krp g y k _ hw.1 (by omega),bs,Kpx (by simp only [List.length_singleton]; omega),bs,Kmk (by omega),Krq g y ks t n o r (i + 1) _ hd' hw.2 hk (by omega) (by simp [ho]),List.append_assoc]; rfl
end
theorem Krr (t:K00) (ht:tms t ≤ 1099511627776):Kln t=some (okT (if wB t then some (Krj t) else none))∧Ki4 t=some (okT (if wB t then some (Krj t) else none)):=by
 unfold Kln Ki4
 rw [Kph t ht,Kpg t ht]
 cases h:wB t
 ·exact ⟨rfl,rfl⟩
 ·refine ⟨?_,?_⟩
  ·rw [bs,if_pos rfl,Krn t ht]; rfl
  ·rw [bs,if_pos rfl,Krp _ _ t 8 (Krb h).1 ht]; rfl
theorem Krs {l:List K00} {i:Nat} (hi:i < l.length) (u:K00):Kog (l.set i u) + tms l[i]=Kog l + tms u:=by
 induction l generalizing i with
 | nil=>simp at hi
 | cons x l ih =>
  cases i with
  | zero=>simp only [List.set_cons_zero,Kog,List.getElem_cons_zero]; omega
  | succ i =>
   have:=ih (i:=i) (by simpa using hi)
   simp only [List.set_cons_succ,Kog,List.getElem_cons_succ]; omega
theorem Krt {α:Type} (x:α) (l:List α):cut (x :: l) (some 1) none none=some l:=Kqn [x] l
theorem Kru {g:Int→Bool} {y:List Int→Bool}:∀ (ks:List K00) (op:Int) (n i j:Nat) (hj:j < ks.length),Kp6 g y op n i ks=true→tOk g y (n + Koz op ((i + j:Nat):Int)) ks[j]=true
 | k :: ks,op,n,i,j,hj,ht=>by
  rw [Kp6,Bool.and_eq_true] at ht
  cases j with
  | zero=>exact ht.1
  | succ j =>
   have:=Kru ks op n (i + 1) j (by simpa using hj) ht.2
   rw [show i + 1 + j=i + (j + 1) by omega] at this
   exact this
structure Krv (c:Int) (a b:Ty):Prop where
 p0:Kck (c :: (a.code ++ b.code),0)=some a.code
 p1:Kck (c :: (a.code ++ b.code),1)=some b.code
 pp:Klj (c :: (a.code ++ b.code))=some [a.code,b.code]
 ok:a.ok∧b.ok
 la:a.code.length + b.code.length + 1 ≤ 1048576
theorem Krw {c:Int} {a b:Ty} (h:(Ty.bin c a b).ok) (hl:(Ty.bin c a b).code.length ≤ 1048576):Krv c a b:=by
 have hl':=hl
 rw [Ty.code] at hl'
 have h3:=Kqp h hl
 rw [Ty.kids,List.map_cons,List.map_cons,List.map_nil,Ty.code] at h3
 refine ⟨Kqq h.2.1 (by omega),Kqr h.2.1 (by omega),h3,h.2,?_⟩
 rw [List.length_cons,List.length_append] at hl'
 omega
structure UnP (c:Int) (a:Ty):Prop where
 p0:Kck (c :: a.code,0)=some a.code
 pp:Klj (c :: a.code)=some [a.code]
 ok:a.ok
 la:a.code.length + 1 ≤ 1048576
theorem unP {c:Int} {a:Ty} (h:(Ty.un c a).ok) (hl:(Ty.un c a).code.length ≤ 1048576):UnP c a:=by
 have hl':=hl
 rw [Ty.code] at hl'
 have h3:=Kqp h hl
 rw [Ty.kids,List.map_cons,List.map_nil,Ty.code] at h3
 have h4:=Kqq (c:=c) (r:=[]) h.2 (by rw [List.append_nil]; omega)
 rw [List.append_nil] at h4
 refine ⟨h4,h3,h.2,?_⟩
 rw [List.length_cons] at hl'
 omega
theorem Krx {p:Prop} [Decidable p] (h:p):chk p=some ():=by unfold chk; rw [if_pos h]
theorem Kry (x y:Int) (l r:List Int):(x :: l == y :: r)=(x == y && l == r):=rfl
theorem Krz (a b:List Int) (ha:a.length ≤ 1099511627776) (hab:a.length=b.length):∀ (l r:List Int) (i:Nat),a.drop i=l→b.drop i=r→Kbs (a,b,(i:Int))=some (if l == r then .inl () else .inr false):=by
 intro l
 induction l with
 | nil =>
  intro r i h1 h2
  have hi:=Knk h1
  rw [Kbs.eq_def]
  simp only
  rw [Kmm hi]
  have:r=[]:=by rw [← h2]; exact List.drop_eq_nil_of_le (by omega)
  subst this; rfl
 | cons x l ih =>
  intro r i h1 h2
  obtain ⟨hi,hx,hd⟩:=Knj h1
  cases r with
  | nil=>have:=Knk h2; omega
  | cons y r =>
   obtain ⟨_,hy,hd2⟩:=Knj h2
   rw [Kbs.eq_def]
   simp only
   rw [Kml hi,if_pos rfl,hx,hy,bs,bs,Kmk (by omega),ih r (i + 1) hd hd2,Kry]
   by_cases e:x=y
   ·subst e; simp
   ·rw [bne_iff_ne.2 e,if_pos rfl,beq_eq_false_iff_ne.2 e]; rfl
theorem Ks0 (a b:List Int) (hb:b.length ≤ 1099511627776):Kbv (a,b)=some (a == b):=by
 unfold Kbv
 simp only
 by_cases h:a.length=b.length
 ·rw [h,Kmn,if_neg (by decide)]
  have:=Krz a b (by omega) h a b 0 rfl rfl
  rw [show ((0:Nat):Int)=0 from rfl] at this
  rw [this]
  cases a == b <;> rfl
 ·rw [bne_iff_ne.2 (by omega),if_pos rfl]
  have:a ≠ b:=fun e=>h (by rw [e])
  rw [beq_eq_false_iff_ne.2 this]
theorem Ks1 (a b:List Int) (ha:a.length ≤ 1099511627776) (hab:a.length=b.length):∀ (l r:List Int) (i:Nat),a.drop i=l→b.drop i=r→Kjj (a,b,(i:Int))=some (if l == r then .inl () else .inr false):=by
 intro l
 induction l with
 | nil =>
  intro r i h1 h2
  have hi:=Knk h1
  rw [Kjj.eq_def]
  simp only
  rw [Kmm hi]
  have:r=[]:=by rw [← h2]; exact List.drop_eq_nil_of_le (by omega)
  subst this; rfl
 | cons x l ih =>
  intro r i h1 h2
  obtain ⟨hi,hx,hd⟩:=Knj h1
  cases r with
  | nil=>have:=Knk h2; omega
  | cons y r =>
   obtain ⟨_,hy,hd2⟩:=Knj h2
   rw [Kjj.eq_def]
   simp only
   rw [Kml hi,if_pos rfl,hx,hy,bs,bs,Kmk (by omega),ih r (i + 1) hd hd2,Kry]
   by_cases e:x=y
   ·subst e; simp
   ·rw [bne_iff_ne.2 e,if_pos rfl,beq_eq_false_iff_ne.2 e]; rfl
theorem Ks2 (a b:List Int) (hb:b.length ≤ 1099511627776):Kjm (a,b)=some (a == b):=by
 unfold Kjm
 simp only
 by_cases h:a.length=b.length
 ·rw [h,Kmn,if_neg (by decide)]
  have:=Ks1 a b (by omega) h a b 0 rfl rfl
  rw [show ((0:Nat):Int)=0 from rfl] at this
  rw [this]
  cases a == b <;> rfl
 ·rw [bne_iff_ne.2 (by omega),if_pos rfl]
  have:a ≠ b:=fun e=>h (by rw [e])
  rw [beq_eq_false_iff_ne.2 this]
theorem Ks3 {α:Type} {l:List α} (h:((l.length:Int) == 0)=true):l=[]:=by
 rw [beq_iff_eq] at h; exact List.length_eq_zero_iff.1 (by omega)
theorem Ks4 (g:Int→Bool) (y:List Int→Bool) (n:Nat) (op N:Int) (ty:List Int) (ks:List K00):tOk g y n ⟨op,N,ty,ks⟩=(Kp5 g y (n:Int) ⟨op,N,ty,ks⟩ && Kp6 g y op n 0 ks):=Kp7 ..
theorem Ks5 (g:Int→Bool) (y:List Int→Bool) (op:Int) (n i:Nat) (k:K00) (ks:List K00):Kp6 g y op n i (k :: ks)=(tOk g y (n + Koz op i) k && Kp6 g y op n (i + 1) ks):=by rw [Kp6]
theorem Ks6 (g:Int→Bool) (y:List Int→Bool) (op:Int) (n i:Nat):Kp6 g y op n i []=true:=by rw [Kp6]
theorem Ks7 {l:List K00} (h:((l.length:Int) == 1)=true):∃ k,l=[k]:=by
 rw [beq_iff_eq] at h; match l,h with | [k],_=>exact ⟨k,rfl⟩ | [],h=>exact absurd h (by simp) | _ :: _ :: _,h=>exact absurd h (by simp only [List.length_cons]; omega)
theorem Ks8 {l:List K00} (h:((l.length:Int) == 2)=true):∃ k m,l=[k,m]:=by
 rw [beq_iff_eq] at h; match l,h with | [k,m],_=>exact ⟨k,m,rfl⟩ | [],h=>exact absurd h (by simp) | [_],h=>exact absurd h (by simp) | _ :: _ :: _ :: _,h=>exact absurd h (by simp only [List.length_cons]; omega)
def fc:List Int→List Int→List Int
 | [],_=>[]
 | c :: cs,l=>if 35 ≤ c then (if c=35 then 3 + l.headD 0 else 19 + l.headD 0) :: fc cs (l.drop 1) else c :: fc cs l
mutual
def fil:K00→List Int→K00
 | ⟨op,N,ty,ks⟩,l=>⟨op,if Koq op && decide (N < 0) then l.headD 0 else N,fc ty (l.drop (if Koq op && decide (N < 0) then 1 else 0)),Ks9 ks (l.drop ((if Koq op && decide (N < 0) then 1 else 0) + Kpm ty))⟩
def Ks9:List K00→List Int→List K00
 | [],_=>[]
 | k :: ks,l=>fil k l :: Ks9 ks (l.drop (opn k))
end
def g15 (l:List Int):Prop:=∀ g ∈ l,0 ≤ g∧g ≤ 15
theorem Ksa {l:List Int} (h:g15 l) (n:Nat):g15 (l.drop n):=fun g hg=>h g (List.mem_of_mem_drop hg)
theorem Ksb (t:K00) (o:Int) (r:List Int) (hr:r.length ≤ 1099511627776):∀ (cs:List Int) (i:Nat) (l out:List Int),out.drop i=cs→(∀ c ∈ cs,c ≤ 36)→Kpm cs ≤ l.length→g15 l→out.length=r.length →
  Kj5 (t,r,o,l,out,(i:Int))=some (l.drop (Kpm cs),out.take i ++ fc cs l):=by
 intro cs
 induction cs with
 | nil =>
  intro i l out hd hc hl hg ho
  have:=Knk hd
  rw [Kj5.eq_def,Kpm,fc]
  simp only
  rw [Kmm (by omega),List.take_of_length_le this]; simp
 | cons c cs ih =>
  intro i l out hd hc hl hg ho
  obtain ⟨hi,hx,hd'⟩:=Knj hd
  have hc':∀ c ∈ cs,c ≤ 36:=fun x hx=>hc x (List.mem_cons_of_mem _ hx)
  have hcc:=hc c List.mem_cons_self
  rw [Kpm] at hl
  rw [Kj5.eq_def,Kpm,fc]
  simp only
  rw [Kml (by omega),if_pos rfl,hx,bs]
  by_cases h:35 ≤ c
  ·rw [if_pos h] at hl
   match l,hl,hg with
   | g :: l,hl,hg =>
    rw [List.length_cons] at hl
    have hg0:=hg g List.mem_cons_self
    have hgl:g15 l:=fun x hx=>hg x (List.mem_cons_of_mem _ hx)
    rw [if_pos h,if_pos h]
    have hlen:i < (out.set i (if c=35 then 3 + g else 19 + g)).length:=by simpa using hi
    refine (Koe (x:=(l,out.set i (if c=35 then 3 + g else 19 + g))) ?_).trans ?_
    ·by_cases h35:c=35
     ·subst h35
      simp only [bs,Kqt,Krt,hx,Int.toNat_natCast]
      rw [Kmi (by omega) (by omega)]; rfl
     ·have h36:c=36:=by omega
      subst h36
      simp only [bs,Kqt,Krt,hx,Int.toNat_natCast]
      rw [Kmi (x:=19 + g) (by omega) (by omega)]; rfl
    ·simp only
     rw [Kmk (by omega),ih (i + 1) l _ (by rw [List.drop_set_of_lt (by omega)]; exact hd') hc' (by omega) hgl (by simpa using ho),List.take_succ_eq_append_getElem hlen,List.getElem_set_self,List.take_set_of_le (Nat.le_refl i),List.append_assoc]
     simp [Nat.add_comm 1]
   | [],hl,hg=>simp only [List.length_nil] at hl; omega
  ·rw [if_neg h] at hl
   rw [if_neg h,if_neg h]
   refine (Koe (x:=(l,out)) ?_).trans ?_
   ·rw [beq_eq_false_iff_ne.2 (by omega:c ≠ 35),beq_eq_false_iff_ne.2 (by omega:c ≠ 36)]; rfl
   ·simp only
    have hg':out[i]=c:=by rw [Kmj hi] at hx; exact Option.some.inj hx
    rw [Kmk (by omega),ih (i + 1) l _ hd' hc' (by omega) hg ho,List.take_succ_eq_append_getElem hi,hg',List.append_assoc,Nat.zero_add]; rfl
mutual
theorem Ksc (g:Int→Bool):∀ (t:K00) (m:Nat) (l:List Int),tOk g wtB m t=true→tms t ≤ 1099511627776→opn t ≤ l.length→g15 l→Kj8 (t,l)=some (fil t l,l.drop (opn t))
 | ⟨op,N,ty,ks⟩,m,l,hw,ht,hl,hg=>by
  obtain ⟨hw1,hw2⟩:=Kpt hw
  obtain ⟨hty,hty40⟩:=Kpu hw1
  have hop:=(Kpy hw1).1
  rw [tms] at ht
  rw [opn] at hl
  rw [Kj8.eq_def,fil,opn]
  simp only
  rw [Kq0 ty (by simp only at hty40; omega),bs,Koy,bs]
  unfold Kox
  simp only at hop
  rw [hop]
  simp only [if_true]
  refine (Koe (x:=Koq op && decide (N < 0)) ?_).trans ?_
  ·cases Koq op <;> rfl
  generalize hb:(Koq op && decide (N < 0))=b at hl ⊢
  have hB:∃ B:Nat,(if b=true then 1 else 0)=B∧B ≤ 1:=⟨_,rfl,by split <;> omega⟩
  obtain ⟨B,hB,hB1⟩:=hB
  rw [hB] at hl
  refine (Koe (x:=(l.drop B,if b=true then l.headD 0 else N)) ?_).trans ?_
  ·cases b
   ·subst hB; rfl
   ·subst hB
    match l,hl with
    | g :: l,hl=>rw [if_pos rfl,Kqt,bs,Krt]; rfl
    | [],hl=>simp at hl
  rw [hB]
  generalize (if b=true then l.headD 0 else N)=o
  obtain ⟨l',hl'⟩:∃ l',l.drop B=l':=⟨_,rfl⟩
  have hll:l'.length=l.length - B:=by rw [← hl',List.length_drop]
  have h1:Kj5 (⟨op,N,ty,ks⟩,ty,o,l',ty,((0:Nat):Int))=some (l'.drop (Kpm ty),fc ty l'):=by
   have hgl:g15 l':=hl' ▸ Ksa hg _
   have:=Ksb ⟨op,N,ty,ks⟩ o ty (by omega) ty 0 l' ty rfl (fun c hc=>(hty c hc).2) (by omega) hgl rfl
   simpa using this
  have h2:=Ksd g ks ⟨op,N,ty,ks⟩ 0 m o (fc ty l') (l'.drop (Kpm ty)) [] rfl hw2 (by simp only; omega) (by omega) (by rw [List.length_drop]; omega) (Ksa (hl' ▸ Ksa hg _) _) rfl
  simp only
  rw [show (0:Int)=((0:Nat):Int) from rfl,hl',h1,bs]
  simp only
  rw [h2,bs,← hl']
  simp only [List.drop_drop,List.nil_append,Nat.add_assoc]
theorem Ksd (g:Int→Bool):∀ (ks:List K00) (t:K00) (i m:Nat) (o:Int) (r l:List Int) (out:List K00),t.fKids.drop i=ks→Kp6 g wtB t.fOp m i ks=true→t.fKids.length ≤ 1099511627776→Kog ks ≤ 1099511627776→Kpo ks ≤ l.length→g15 l→out.length=i →
  Kj9 (t,o,r,l,out,(i:Int))=some (l.drop (Kpo ks),out ++ Ks9 ks l)
 | [],t,i,m,o,r,l,out,hd,hw,hk,ht,hl,hg,ho=>by
  rw [Kj9.eq_def,Kpo,Ks9]
  simp only
  rw [Kmm (Knk hd)]; simp
 | k :: ks,t,i,m,o,r,l,out,hd,hw,hk,ht,hl,hg,ho=>by
  obtain ⟨hi,hx,hd'⟩:=Knj hd
  rw [Kog] at ht
  rw [Kpo] at hl
  rw [Kp6,Bool.and_eq_true] at hw
  rw [Kj9.eq_def,Kpo,Ks9]
  simp only
  rw [Kml hi,if_pos rfl,hx,bs,Ksc g k _ l hw.1 (by omega) (by omega) hg,bs]
  simp only
  rw [Kpx (by simp only [List.length_singleton]; omega),bs,Kmk (by omega),Ksd g ks t (i + 1) m o r (l.drop (opn k)) _ hd' hw.2 hk (by omega) (by rw [List.length_drop]; omega) (Ksa hg _) (by simp [ho]),List.append_assoc,List.drop_drop]; rfl
end
theorem Kse (a:List Int) (ha:a.length ≤ 1099511627776):∀ (l:List Int) (i:Nat),a.drop i=l→∃ r,Kit (a,(i:Int))=some r∧(match r with | .inl _=>l.all (fun g=>inB g 0 15)=true | .inr m=>l.all (fun g=>inB g 0 15)=false∧0 ≤ m):=by
 intro l
 induction l with
 | nil =>
  intro i hd
  rw [Kit.eq_def]
  simp only
  rw [Kmm (Knk hd)]
  exact ⟨_,rfl,rfl⟩
 | cons g l ih =>
  intro i hd
  obtain ⟨hi,hx,hd'⟩:=Knj hd
  rw [Kit.eq_def]
  simp only
  rw [Kml hi,if_pos rfl,hx,bs,Kip,iIn,bs,bs,Kmk (by omega),List.all_cons]
  cases inB g 0 15
  ·exact ⟨.inr (i:Int),rfl,by simp⟩
  ·obtain ⟨r,h1,h2⟩:=ih (i + 1) hd'
   exact ⟨r,h1,by simpa using h2⟩
theorem Ksf (a:List Int) (ha:a.length ≤ 1099511627776):Kiz a=some (!(a.all fun g=>inB g 0 15)):=by
 unfold Kiz Kiw
 obtain ⟨r,h1,h2⟩:=Kse a ha _ 0 rfl
 rw [List.drop_zero] at h2
 rw [show ((0:Nat):Int)=0 from rfl] at h1
 rw [h1,bs]
 cases r with
 | inl u=>simp only at h2; rw [h2]; rfl
 | inr m=>simp only at h2; rw [h2.1]; simp [bs,h2.2]
theorem Ksg {g:Int→Bool} {y:List Int→Bool} {n:Nat} {op N:Int} {ty:List Int} {ks:List K00} (h:tOk g y n ⟨op,N,ty,ks⟩=true) (h0:op=0):ks=[]∧ty=[]∧0 ≤ N∧N < n:=by
 subst h0
 rw [Ks4,Bool.and_eq_true] at h
 have h1:=h.1
 simp only [Kp5,Kp3,Kp4,Bool.and_eq_true,show Kop 0=0 from rfl,show Kor 0=false from rfl,show ((0:Int) == 0)=true from rfl,if_true,Bool.false_eq_true,if_false] at h1
 have h2:=h1.1.2
 unfold inB at h2
 simp only [Bool.and_eq_true,decide_eq_true_eq] at h2
 exact ⟨Ks3 h1.1.1.2,Ks3 h1.2,by omega,by omega⟩
mutual
theorem Ksh (b:Int):∀ (t:K00) (f:Int),tsz (shf b f t)=tsz t
 | ⟨op,N,ty,ks⟩,f=>by rw [shf,tsz,tsz,Ksi b ks]
theorem Ksi (b:Int):∀ (ks:List K00) (op f:Int) (i:Nat),Kof (Kr1 b op f i ks)=Kof ks
 | [],op,f,i=>by rw [Kr1]
 | k :: ks,op,f,i=>by rw [Kr1,Kof,Kof,Ksh b k,Ksi b ks]
end
theorem Ksj (g:Int→Bool) (y:List Int→Bool) (n m:Int) (op N:Int) (ty:List Int) (ks js:List K00) (h0:(op == 0)=false) (hl:ks.length=js.length):Kp5 g y n ⟨op,N,ty,ks⟩=Kp5 g y m ⟨op,N,ty,js⟩:=by
 unfold Kp5 Kp3 Kp4
 simp only [h0,hl]
 rfl
theorem Ksk (g:Int→Bool) (y:List Int→Bool) (n:Nat) (N:Int) (h:0 ≤ N∧N < n):tOk g y n ⟨0,N,[],[]⟩=true:=by
 rw [Ks4,Ks6]
 unfold Kp5 Kp3 Kp4
 simp only [show inB 0 0 12=true from rfl,show Kop 0=0 from rfl,show Kor 0=false from rfl,show ((0:Int) == 0)=true from rfl,if_true,Bool.false_eq_true,if_false]
 unfold inB
 rw [decide_eq_true (by omega:N ≥ 0),decide_eq_true (by omega:N ≤ (n:Int) - 1)]
 rfl
mutual
theorem Ksl (g:Int→Bool) (y:List Int→Bool) (b:Nat):∀ (t:K00) (n:Nat) (f:Int),tOk g y n t=true→tOk g y (n + b) (shf (b:Int) f t)=true
 | ⟨op,N,ty,ks⟩,n,f,h=>by
  rw [shf]
  cases h0:op == 0
  ·rw [Ks4,Bool.and_eq_true] at h
   rw [Ks4,Bool.false_and,if_neg (by decide),Ksj g y _ (n:Int) op N ty _ ks h0 (Kr4 (b:Int) ks op f 0),h.1,Ksm g y b ks op n 0 f h.2]; rfl
  ·have h0:=eq_of_beq h0
   obtain ⟨rfl,rfl,h1,h2⟩:=Ksg h h0
   subst h0
   rw [Kr1]
   refine Ksk g y _ _ ?_
   split <;> omega
theorem Ksm (g:Int→Bool) (y:List Int→Bool) (b:Nat):∀ (ks:List K00) (op:Int) (n i:Nat) (f:Int),Kp6 g y op n i ks=true→Kp6 g y op (n + b) i (Kr1 (b:Int) op f i ks)=true
 | [],op,n,i,f,h=>by rw [Kr1,Ks6]
 | k :: ks,op,n,i,f,h=>by
  rw [Ks5,Bool.and_eq_true] at h
  rw [Kr1,Ks5,Ksm g y b ks op n (i + 1) f h.2,show n + b + Koz op (i:Int)=n + Koz op (i:Int) + b by omega,Ksl g y b k _ _ h.1]; rfl
end
mutual
theorem Ksn {g:Int→Bool}:∀ (t:K00) (n:Nat),tOk g wtB n t=true→tms t + 3 ≤ 43 * tsz t + 3∧t.fKids.length ≤ 3
 | ⟨op,N,ty,ks⟩,n,h=>by
  obtain ⟨h1,h2⟩:=Kpt h
  have h3:=(Kpu h1).2
  have h4:=Kpy h1
  have h5:=Kso ks op n 0 h2
  have h6:Kop op ≤ 3:=by rcases Kot h4.1 with h | h | h | h | h | h | h | h | h | h | h | h | h <;> (simp only at h; subst h; decide)
  have h7:=h4.2
  simp only at h3 h7 ⊢
  rw [tms,tsz]; omega
theorem Kso {g:Int→Bool}:∀ (ks:List K00) (op:Int) (n i:Nat),Kp6 g wtB op n i ks=true→Kog ks ≤ 43 * Kof ks
 | [],op,n,i,h=>by rw [Kog]; omega
 | k :: ks,op,n,i,h=>by
  rw [Ks5,Bool.and_eq_true] at h
  have h1:=(Ksn k _ h.1).1
  have h2:=Kso ks op n (i + 1) h.2
  rw [Kog,Kof]; omega
end
theorem Ksp (op N:Int) (ty:List Int) (a:K00):tsz ⟨op,N,ty,[a]⟩=1 + tsz a:=by simp [tsz,Kof]
theorem Ksq (op N:Int) (ty:List Int) (a b:K00):tsz ⟨op,N,ty,[a,b]⟩=1 + (tsz a + tsz b):=by simp [tsz,Kof]
theorem Ksr (op N:Int) (ty:List Int) (a b c:K00):tsz ⟨op,N,ty,[a,b,c]⟩=1 + (tsz a + (tsz b + tsz c)):=by simp [tsz,Kof]
theorem Kss {l:List K00} (h:(l.length:Int)=3):∃ a b c,l=[a,b,c]:=by
 match l,h with | [a,b,c],_=>exact ⟨a,b,c,rfl⟩ | [],h=>exact absurd h (by simp) | [_],h=>exact absurd h (by simp) | [_,_],h=>exact absurd h (by simp) | _ :: _ :: _ :: _ :: _,h=>exact absurd h (by simp only [List.length_cons]; omega)
mutual
def tEq:K00→K00→Bool
 | ⟨o,N,t,k⟩,⟨o',N',t',k'⟩=>o == o' && N == N' && t == t' && (k.length == k'.length) && Kst k k'
def Kst:List K00→List K00→Bool
 | [],_=>true
 | _ :: _,[]=>false
 | a :: k,b :: k'=>tEq a b && Kst k k'
end
mutual
theorem Ksu:∀ (a:K00),tEq a a=true
 | ⟨o,N,t,k⟩=>by rw [tEq,Ksv k]; simp
theorem Ksv:∀ (k:List K00),Kst k k=true
 | []=>by rw [Kst]
 | a :: k=>by rw [Kst,Ksu a,Ksv k]; rfl
end
def Ksw (l:List Nat):List Int:=l.map fun x:Nat=>(x:Int)
theorem Ksx (l:List Nat):(Ksw l).length=l.length:=List.length_map ..
theorem Ksy (l:List Nat) (i:Nat):(Ksw l).drop i=Ksw (l.drop i):=(List.map_drop ..).symm
theorem Ksz (l:List Nat) (i:Nat):(Ksw l).take i=Ksw (l.take i):=(List.map_take ..).symm
theorem Kt0 {l r:List Nat} {x i:Nat} (h:l.drop i=x :: r):i < l.length∧idx (Ksw l) (i:Int)=some (x:Int)∧l.drop (i + 1)=r:=by
 have h2:(Ksw l).drop i=(x:Int) :: Ksw r:=by rw [Ksy,h]; rfl
 obtain ⟨q1,q2,q3⟩:=Knj h2
 rw [Ksx] at q1
 refine ⟨q1,q2,?_⟩
 rw [← List.drop_drop,h]
 rfl
structure Kt1 (s:K02) (n:Nat):Prop where
 tab:Tab s n
 one:∀ a,a < n→Kn1 s n a=true
 two:∀ a b,a < n→b < n→Knd s n a b=true
theorem Kt2 {s:K02} (h:Kqa s=true):Kt1 s s.fSize.toNat:=by
 have ht:=Kqb h
 unfold Kqa at h
 simp only [Bool.and_eq_true] at h
 have hm:=h.2
 unfold Knf at hm
 rw [List.all_eq_true] at hm
 refine ⟨ht,fun a ha=>?_,fun a b ha hb=>?_⟩
 ·have:=hm a (by rw [List.mem_range'_1]; omega)
  simp only [Bool.and_eq_true] at this
  exact this.1
 ·have:=hm a (by rw [List.mem_range'_1]; omega)
  simp only [Bool.and_eq_true,List.all_eq_true] at this
  exact (this.2 b (by rw [List.mem_range'_1]; omega)).1
section
variable {s:K02} {n:Nat} (hs:Kt1 s n)
include hs
theorem Kt3:1 < n:=by have:=hs.tab.lo; omega
theorem Kt4:0 < n:=by have:=hs.tab.lo; omega
theorem Kt5 {a:Nat} (ha:a < n):pl s n 0 a=a:=by
 have:=hs.one a ha
 simp only [Kn1,Bool.and_eq_true,beq_iff_eq] at this
 exact this.1.1.1.1.1
theorem Kt6 {a:Nat} (ha:a < n):ti s n 1 a=a:=by
 have:=hs.one a ha
 simp only [Kn1,Bool.and_eq_true,beq_iff_eq] at this
 exact this.1.1.1.1.2
def Kt7 (s:K02) (n a b:Nat):Nat:=(Kn6 s n a b).toNat
theorem Kt8 {a b:Nat} (ha:a < n) (hb:b < n):Kn6 s n a b=((Kt7 s n a b:Nat):Int)∧Kt7 s n a b < n:=by
 have h:=hs.two a b ha hb
 simp only [Knd,Bool.and_eq_true,decide_eq_true_eq] at h
 have h0:=h.2
 unfold Kt7
 refine ⟨by omega,?_⟩
 unfold Kn6 at h0 ⊢
 cases hf:(List.range' 0 n).find? (jok s n a b) with
 | none=>rw [hf] at h0; exact absurd h0 (by decide)
 | some g =>
  have:=List.mem_of_find?_eq_some hf
  rw [List.mem_range'_1] at this
  simp only [Int.toNat_natCast]
  omega
end
def Kt9 (s:K02) (n:Nat) (a b:List Nat):List Nat:=List.zipWith (pl s n) a b
def Kta (s:K02) (n g:Nat) (a:List Nat):List Nat:=a.map (ti s n g)
def Ktb (s:K02) (n:Nat) (a b:List Nat):List Nat:=List.zipWith (Kt7 s n) a b
def Ktc (n:Nat) (l:List Nat):Prop:=∀ x ∈ l,x < n
theorem Ktd {n x:Nat} {l:List Nat} (h:Ktc n (x :: l)):x < n∧Ktc n l:=⟨h x List.mem_cons_self,fun y hy=>h y (List.mem_cons_of_mem _ hy)⟩
theorem Kte {n:Nat} {l:List Nat} (h:Ktc n l) (i:Nat):Ktc n (l.drop i):=fun x hx=>h x (List.mem_of_mem_drop hx)
section
variable {s:K02} {n:Nat} (hs:Kt1 s n)
include hs
theorem Ktf:∀ {a b:List Nat},Ktc n a→Ktc n b→Ktc n (Kt9 s n a b)
 | [],_,_,_=>fun x hx=>by cases hx
 | _ :: _,[],_,_=>fun x hx=>by cases hx
 | x :: a,y :: b,ha,hb=>fun z hz=>by
  obtain ⟨h1,h2⟩:=Ktd ha
  obtain ⟨h3,h4⟩:=Ktd hb
  rcases List.mem_cons.1 hz with rfl | hz
  ·exact Kmq hs.tab h1 h3
  ·exact Ktf h2 h4 z hz
theorem Ktg {g:Nat} (hg:g < n) {a:List Nat} (ha:Ktc n a):Ktc n (Kta s n g a):=fun x hx=>by
 obtain ⟨y,hy,rfl⟩:=List.mem_map.1 hx
 exact Kmr hs.tab hg (ha y hy)
theorem Kth:∀ {a b:List Nat},Ktc n a→Ktc n b→Ktc n (Ktb s n a b)
 | [],_,_,_=>fun x hx=>by cases hx
 | _ :: _,[],_,_=>fun x hx=>by cases hx
 | x :: a,y :: b,ha,hb=>fun z hz=>by
  obtain ⟨h1,h2⟩:=Ktd ha
  obtain ⟨h3,h4⟩:=Ktd hb
  rcases List.mem_cons.1 hz with rfl | hz
  ·exact (Kt8 hs h1 h3).2
  ·exact Kth h2 h4 z hz
theorem Kti {a:List Nat} (ha:Ktc n a):Kta s n 1 a=a:=by
 induction a with
 | nil=>rfl
 | cons x a ih =>
  obtain ⟨h1,h2⟩:=Ktd ha
  show ti s n 1 x :: Kta s n 1 a=_
  rw [Kt6 hs h1,ih h2]
theorem Ktj {a:List Nat} (ha:Ktc n a):Kt9 s n (List.replicate a.length 0) a=a:=by
 induction a with
 | nil=>rfl
 | cons x a ih =>
  obtain ⟨h1,h2⟩:=Ktd ha
  show pl s n 0 x :: Kt9 s n (List.replicate a.length 0) a=_
  rw [Kt5 hs h1,ih h2]
theorem Ktk (g:Nat) (hg:g < n) (a b:List Nat) (ha:Ktc n a) (hb:Ktc n b) (hl:a.length ≤ 1099511627776):∀ (al bl:List Nat) (i:Nat) (out:List Int),a.drop i=al→b.drop i=bl→al.length=bl.length→out.length + al.length ≤ 1099511627776 →
  Kd0 (s,Ksw a,(g:Int),Ksw b,out,(i:Int))=some (out ++ Ksw (Kt9 s n al (Kta s n g bl))):=by
 intro al
 induction al with
 | nil =>
  intro bl i out hd _ _ _
  rw [Kd0.eq_def]
  simp only
  rw [Ksx,Kmm (Knk hd)]
  simp [Kt9,Ksw]
 | cons x al ih =>
  intro bl i out hd hd2 hll ho
  cases bl with
  | nil=>simp at hll
  | cons y bl =>
   obtain ⟨h1,h2,h3⟩:=Kt0 hd
   obtain ⟨k1,k2,k3⟩:=Kt0 hd2
   have hx:x < n:=Kte ha i x (by rw [hd]; exact List.mem_cons_self)
   have hy:y < n:=Kte hb i y (by rw [hd2]; exact List.mem_cons_self)
   rw [Kd0.eq_def]
   simp only
   simp only [List.length_cons] at ho hll
   rw [Ksx,Kml h1,if_pos rfl,h2,bs,k2,bs,Kmw hs.tab hg hy,bs,Kmv hs.tab hx (Kmr hs.tab hg hy),bs,Kpx (by simp; omega),bs,Kmk (by omega),ih bl (i + 1) _ h3 k3 (by omega) (by simp; omega)]
   rw [List.append_assoc]
   rfl
theorem Ktl (g:Nat) (hg:g < n) (a b:List Nat) (ha:Ktc n a) (hb:Ktc n b) (hl:a.length ≤ 1048576) (hab:a.length=b.length):Kd3 (s,Ksw a,(g:Int),Ksw b)=some (Ksw (Kt9 s n a (Kta s n g b))):=by
 unfold Kd3
 simp only
 rw [show (0:Int)=((0:Nat):Int) from rfl,Ktk hs g hg a b ha hb (by omega) a b 0 [] rfl rfl hab (by simp; omega)]
 rfl
theorem Ktm (a b:List Nat) (ha:Ktc n a) (hb:Ktc n b) (hl:a.length ≤ 1048576) (hab:a.length=b.length):Kd3 (s,Ksw a,1,Ksw b)=some (Ksw (Kt9 s n a b)):=by
 have:=Ktl hs 1 (Kt3 hs) a b ha hb hl hab
 rw [Kti hs hb] at this
 exact this
theorem Ktn (a b:List Nat) (ha:Ktc n a) (hb:Ktc n b) (hl:a.length ≤ 1099511627776):∀ (al bl:List Nat) (i:Nat) (out:List Int),a.drop i=al→b.drop i=bl→al.length=bl.length→out.length + al.length ≤ 1099511627776 →
  Kda (s,Ksw a,Ksw b,out,(i:Int))=some (out ++ Ksw (Ktb s n al bl)):=by
 intro al
 induction al with
 | nil =>
  intro bl i out hd _ _ _
  rw [Kda.eq_def]
  simp only
  rw [Ksx,Kmm (Knk hd)]
  simp [Ktb,Ksw]
 | cons x al ih =>
  intro bl i out hd hd2 hll ho
  cases bl with
  | nil=>simp at hll
  | cons y bl =>
   obtain ⟨h1,h2,h3⟩:=Kt0 hd
   obtain ⟨k1,k2,k3⟩:=Kt0 hd2
   have hx:x < n:=Kte ha i x (by rw [hd]; exact List.mem_cons_self)
   have hy:y < n:=Kte hb i y (by rw [hd2]; exact List.mem_cons_self)
   rw [Kda.eq_def]
   simp only
   simp only [List.length_cons] at ho hll
   rw [Ksx,Kml h1,if_pos rfl,h2,bs,k2,bs,Knb hs.tab hx hy,bs,(Kt8 hs hx hy).1,Kpx (by simp; omega),bs,Kmk (by omega),ih bl (i + 1) _ h3 k3 (by omega) (by simp; omega)]
   rw [List.append_assoc]
   rfl
theorem Kto (a b:List Nat) (ha:Ktc n a) (hb:Ktc n b) (hl:a.length ≤ 1048576) (hab:a.length=b.length):Kdd (s,Ksw a,Ksw b)=some (Ksw (Ktb s n a b)):=by
 unfold Kdd
 simp only
 rw [show (0:Int)=((0:Nat):Int) from rfl,Ktn hs a b ha hb (by omega) a b 0 [] rfl rfl hab (by simp; omega)]
 rfl
end
theorem Ktp {α:Type} {out:List α} {i:Nat} (h:i < out.length) (x:α):(out.set i x).take (i + 1)=out.take i ++ [x]:=by
 rw [List.take_set,List.take_succ_eq_append_getElem h,List.set_append_right _ _ (by simp; omega)]
 simp [Nat.min_eq_left (Nat.le_of_lt h)]
section
variable {s:K02} {n:Nat} (hs:Kt1 s n)
include hs
theorem Ktq (a b:List Nat) (ha:Ktc n a) (hb:Ktc n b) (hl:a.length ≤ 1099511627776):∀ (al bl:List Nat) (i:Nat) (out:List Int),a.drop i=al→b.drop i=bl→al.length=bl.length→out.length=a.length →
  Klw (s,Ksw a,Ksw b,out,(i:Int))=some (out.take i ++ Ksw (Kt9 s n al bl)):=by
 intro al
 induction al with
 | nil =>
  intro bl i out hd _ _ ho
  rw [Klw.eq_def]
  simp only
  have:=Knk hd
  rw [Ksx,Kmm this]
  simp [Kt9,Ksw,List.take_of_length_le (show out.length ≤ i by omega)]
 | cons x al ih =>
  intro bl i out hd hd2 hll ho
  cases bl with
  | nil=>simp at hll
  | cons y bl =>
   obtain ⟨h1,h2,h3⟩:=Kt0 hd
   obtain ⟨k1,k2,k3⟩:=Kt0 hd2
   have hx:x < n:=Kte ha i x (by rw [hd]; exact List.mem_cons_self)
   have hy:y < n:=Kte hb i y (by rw [hd2]; exact List.mem_cons_self)
   rw [Klw.eq_def]
   simp only
   simp only [List.length_cons] at hll
   have hio:i < out.length:=by omega
   rw [Ksx,Kml h1,if_pos rfl,h2,bs,k2,bs,Kmx hs.tab hx hy,bs,Kmj hio,bs,Kmk (by omega),Int.toNat_natCast,ih bl (i + 1) _ h3 k3 (by omega) (by rw [List.length_set]; exact ho)]
   rw [Ktp hio,List.append_assoc]
   rfl
theorem Ktr (a b:List Nat) (ha:Ktc n a) (hb:Ktc n b) (hl:a.length ≤ 1048576) (hab:a.length=b.length):Kly (⟨s⟩,Ksw a,Ksw b)=some (Ksw (Kt9 s n a b)):=by
 unfold Kly Klx
 simp only
 rw [Ksx,Krx (by simp; omega),bs,Int.toNat_natCast,show (0:Int)=((0:Nat):Int) from rfl]
 rw [show (List.replicate a.length (((0:Nat):Int)))=List.replicate a.length (0:Int) from rfl,Ktq hs a b ha hb (by omega) a b 0 _ rfl rfl hab (by simp)]
 rfl
theorem Kts (a b:List Nat) (ha:Ktc n a) (hb:Ktc n b) (hl:a.length ≤ 1099511627776):∀ (al bl:List Nat) (i:Nat) (out:List Int),a.drop i=al→b.drop i=bl→al.length=bl.length→out.length=a.length →
  Km0 (s,Ksw a,Ksw b,out,(i:Int))=some (out.take i ++ Ksw (Ktb s n al bl)):=by
 intro al
 induction al with
 | nil =>
  intro bl i out hd _ _ ho
  rw [Km0.eq_def]
  simp only
  have:=Knk hd
  rw [Ksx,Kmm this]
  simp [Ktb,Ksw,List.take_of_length_le (show out.length ≤ i by omega)]
 | cons x al ih =>
  intro bl i out hd hd2 hll ho
  cases bl with
  | nil=>simp at hll
  | cons y bl =>
   obtain ⟨h1,h2,h3⟩:=Kt0 hd
   obtain ⟨k1,k2,k3⟩:=Kt0 hd2
   have hx:x < n:=Kte ha i x (by rw [hd]; exact List.mem_cons_self)
   have hy:y < n:=Kte hb i y (by rw [hd2]; exact List.mem_cons_self)
   rw [Km0.eq_def]
   simp only
   simp only [List.length_cons] at hll
   have hio:i < out.length:=by omega
   rw [Ksx,Kml h1,if_pos rfl,h2,bs,k2,bs,Knc hs.tab hx hy,bs,(Kt8 hs hx hy).1,Kmj hio,bs,Kmk (by omega),Int.toNat_natCast,ih bl (i + 1) _ h3 k3 (by omega) (by rw [List.length_set]; exact ho)]
   rw [Ktp hio,List.append_assoc]
   rfl
theorem Ktt (a b:List Nat) (ha:Ktc n a) (hb:Ktc n b) (hl:a.length ≤ 1048576) (hab:a.length=b.length):Km2 (⟨s⟩,Ksw a,Ksw b)=some (Ksw (Ktb s n a b)):=by
 unfold Km2 Km1
 simp only
 rw [Ksx,Krx (by simp; omega),bs,Int.toNat_natCast,show (0:Int)=((0:Nat):Int) from rfl]
 rw [show (List.replicate a.length (((0:Nat):Int)))=List.replicate a.length (0:Int) from rfl,Kts hs a b ha hb (by omega) a b 0 _ rfl rfl hab (by simp)]
 rfl
theorem Ktu (g:Nat) (hg:g < n) (a:List Nat) (ha:Ktc n a) (hl:a.length ≤ 1099511627776):∀ (al:List Nat) (i:Nat) (out:List Int),a.drop i=al→out.length=a.length →
  Kmc (⟨s⟩,(g:Int),Ksw a,out,(i:Int))=some (out.take i ++ Ksw (Kta s n g al)):=by
 intro al
 induction al with
 | nil =>
  intro i out hd ho
  rw [Kmc.eq_def]
  simp only
  have:=Knk hd
  rw [Ksx,Kmm this]
  simp [Kta,Ksw,List.take_of_length_le (show out.length ≤ i by omega)]
 | cons x al ih =>
  intro i out hd ho
  obtain ⟨h1,h2,h3⟩:=Kt0 hd
  have hx:x < n:=Kte ha i x (by rw [hd]; exact List.mem_cons_self)
  rw [Kmc.eq_def]
  simp only
  have hio:i < out.length:=by omega
  rw [Ksx,Kml h1,if_pos rfl,h2,bs,Kmy hs.tab hg hx,bs,Kmj hio,bs,Kmk (by omega),Int.toNat_natCast,ih (i + 1) _ h3 (by rw [List.length_set]; exact ho)]
  rw [Ktp hio,List.append_assoc]
  rfl
theorem Ktv (g:Nat) (hg:g < n) (a:List Nat) (ha:Ktc n a) (hl:a.length ≤ 1048576):Kmd (⟨s⟩,(g:Int),Ksw a)=some (Ksw (Kta s n g a)):=by
 unfold Kmd
 simp only
 rw [Ksx,Krx (by simp; omega),bs,Int.toNat_natCast,show (0:Int)=((0:Nat):Int) from rfl]
 rw [show (List.replicate a.length (((0:Nat):Int)))=List.replicate a.length (0:Int) from rfl,Ktu hs g hg a ha (by omega) a 0 _ rfl (by simp)]
 rfl
theorem Ktw (g:Nat) (hg:g < n) (a:List Nat) (ha:Ktc n a) (hl:a.length ≤ 1099511627776):∀ (al:List Nat) (i:Nat),a.drop i=al →
  ∃ r,Km8 (Ksw a,⟨s⟩,(g:Int),(i:Int))=some r∧(match r with | .inl _=>(al.all fun x=>le s n x g)=true | .inr j=>(al.all fun x=>le s n x g)=false∧0 ≤ j):=by
 intro al
 induction al with
 | nil =>
  intro i hd
  rw [Km8.eq_def]
  simp only
  rw [Ksx,Kmm (Knk hd)]
  exact ⟨_,rfl,rfl⟩
 | cons x al ih =>
  intro i hd
  obtain ⟨h1,h2,h3⟩:=Kt0 hd
  have hx:x < n:=Kte ha i x (by rw [hd]; exact List.mem_cons_self)
  rw [Km8.eq_def]
  simp only
  rw [Ksx,Kml h1,if_pos rfl,h2,bs]
  unfold Km7
  simp only
  rw [iLe hs.tab hx hg]
  simp only [bs]
  cases hle:le s n x g with
  | true =>
   obtain ⟨r,hr,hm⟩:=ih (i + 1) h3
   refine ⟨r,?_,?_⟩
   ·rw [if_neg (by simp),Kmk (by omega)]; exact hr
   ·rw [List.all_cons,hle,Bool.true_and]; exact hm
  | false =>
   exact ⟨_,if_pos rfl,by simp [List.all_cons,hle]⟩
theorem Ktx (g:Nat) (hg:g < n) (a:List Nat) (ha:Ktc n a) (hl:a.length ≤ 1048576):Kmb (⟨s⟩,Ksw a,(g:Int))=some (a.all fun x=>le s n x g):=by
 obtain ⟨r,hr,hm⟩:=Ktw hs g hg a ha (by omega) a 0 rfl
 unfold Kmb Kma Km9
 simp only
 rw [show (0:Int)=((0:Nat):Int) from rfl,hr]
 cases r with
 | inl _=>simp only [bs] at hm ⊢; rw [hm]; rfl
 | inr j =>
  simp only [bs] at hm ⊢
  rw [hm.1,decide_eq_true (by omega)]; rfl
end
theorem Kty (k:Nat) (h:k ≤ 1048576):Kct (k:Int)=some (Ksw (List.replicate k 0)):=by
 unfold Kct
 rw [Int.toNat_natCast,Krx (by constructor <;> omega),bs]
 unfold Ksw
 rw [List.map_replicate]
 rfl
theorem Ktz (ctx front:List (List Int)) (h:ctx.length + front.length ≤ 1048576):Kcq (ctx,front)=some (front ++ ctx):=by
 unfold Kcq
 simp only
 rw [Kpx (by simp; omega),bs,Kpx (by omega),bs]
theorem Ku0 (ps:List (List Int)) (hp:ps.length ≤ 1099511627776):∀ (l:List (List Int)) (i:Nat) (out:List Int),ps.drop i=l→out.length + l.flatten.length ≤ 1099511627776→Kbb (ps,out,(i:Int))=some (out ++ l.flatten):=by
 intro l
 induction l with
 | nil =>
  intro i out hd _
  rw [Kbb.eq_def]
  simp only
  rw [Kmm (Knk hd)]
  simp
 | cons x l ih =>
  intro i out hd ho
  obtain ⟨h1,h2,h3⟩:=Knj hd
  rw [List.flatten_cons,List.length_append] at ho
  rw [Kbb.eq_def]
  simp only
  rw [Kml h1,if_pos rfl,h2,bs,Kpx (by omega),bs,Kmk (by omega),ih (i + 1) _ h3 (by rw [List.length_append]; omega),List.flatten_cons,List.append_assoc]
theorem Ku1 (c:Int) (ps:List (List Int)) (hp:ps.length ≤ 1048576) (h:ps.flatten.length ≤ 1048576):Kbe (c,ps)=some (c :: ps.flatten):=by
 unfold Kbe
 simp only
 rw [show (0:Int)=((0:Nat):Int) from rfl,Ku0 ps (by omega) ps 0 [c] rfl (by rw [List.length_singleton]; omega)]
 rfl
theorem Ku2 (ps:List (List (Int))) (hp:ps.length ≤ 1099511627776):∀ (l:List (List (Int))) (i sz:Nat),ps.drop i=l→sz + l.flatten.length ≤ 1099511627776→Km4 (ps,(sz:Int),(i:Int))=some (((sz + l.flatten.length:Nat)):Int):=by
 intro l
 induction l with
 | nil =>
  intro i sz hd _
  rw [Km4.eq_def]
  simp only
  rw [Kmm (Knk hd)]
  simp
 | cons x l ih =>
  intro i sz hd ho
  obtain ⟨h1,h2,h3⟩:=Knj hd
  rw [List.flatten_cons,List.length_append] at ho
  have e:wr ((sz:Int) + (x.length:Int))=((sz + x.length:Nat):Int):=Kqu (by omega) (by omega)
  rw [Km4.eq_def]
  simp only
  rw [Kml h1,if_pos rfl,h2,bs,e,decide_eq_false (by omega),if_neg (by decide),bs,Kmk (by omega),ih (i + 1) _ h3 (by omega),List.flatten_cons,List.length_append,Nat.add_assoc]
theorem Ku3 (ps:List (List (Int))) (hp:ps.length ≤ 1099511627776):∀ (l:List (List (Int))) (i:Nat) (out:List (Int)),ps.drop i=l→out.length + l.flatten.length ≤ 1099511627776→Km5 (ps,out,(i:Int))=some (out ++ l.flatten):=by
 intro l
 induction l with
 | nil =>
  intro i out hd _
  rw [Km5.eq_def]
  simp only
  rw [Kmm (Knk hd)]
  simp
 | cons x l ih =>
  intro i out hd ho
  obtain ⟨h1,h2,h3⟩:=Knj hd
  rw [List.flatten_cons,List.length_append] at ho
  rw [Km5.eq_def]
  simp only
  rw [Kml h1,if_pos rfl,h2,bs,Kpx (by omega),bs,Kmk (by omega),ih (i + 1) _ h3 (by rw [List.length_append]; omega),List.flatten_cons,List.append_assoc]
theorem Ku4 (k:Nat) (h:k ≤ 1048576):Km3 (k:Int)=some ():=by
 unfold Km3
 have e:wr ((k:Int) - wr (0 - 0))=(k:Int):=by rw [Kmi (x:=0 - 0) (by decide) (by decide),Kmi (by omega) (by omega)]; omega
 rw [decide_eq_false (by omega),if_neg (by decide),e]
 by_cases hk:k=0
 ·subst hk; rfl
 ·rw [decide_eq_true (by omega),if_pos rfl,Int.toNat_natCast,Krx (by constructor <;> omega),bs]
theorem Ku5 (ps:List (List (Int))) (hp:ps.length ≤ 1048576) (h:ps.flatten.length ≤ 1048576):Km6 ps=some ps.flatten:=by
 unfold Km6
 have h0:=Ku2 ps (by omega) ps 0 0 rfl (by omega)
 rw [Nat.zero_add] at h0
 rw [show (0:Int)=((0:Nat):Int) from rfl,h0,bs,Ku4 _ h,bs,Ku3 ps (by omega) ps 0 [] rfl (by rw [List.length_nil]; omega)]
 rfl
theorem Ku6 (ps:List (List (List Int))) (hp:ps.length ≤ 1099511627776):∀ (l:List (List (List Int))) (i sz:Nat),ps.drop i=l→sz + l.flatten.length ≤ 1099511627776→Kls (ps,(sz:Int),(i:Int))=some (((sz + l.flatten.length:Nat)):Int):=by
 intro l
 induction l with
 | nil =>
  intro i sz hd _
  rw [Kls.eq_def]
  simp only
  rw [Kmm (Knk hd)]
  simp
 | cons x l ih =>
  intro i sz hd ho
  obtain ⟨h1,h2,h3⟩:=Knj hd
  rw [List.flatten_cons,List.length_append] at ho
  have e:wr ((sz:Int) + (x.length:Int))=((sz + x.length:Nat):Int):=Kqu (by omega) (by omega)
  rw [Kls.eq_def]
  simp only
  rw [Kml h1,if_pos rfl,h2,bs,e,decide_eq_false (by omega),if_neg (by decide),bs,Kmk (by omega),ih (i + 1) _ h3 (by omega),List.flatten_cons,List.length_append,Nat.add_assoc]
theorem Ku7 (ps:List (List (List Int))) (hp:ps.length ≤ 1099511627776):∀ (l:List (List (List Int))) (i:Nat) (out:List (List Int)),ps.drop i=l→out.length + l.flatten.length ≤ 1099511627776→Klt (ps,out,(i:Int))=some (out ++ l.flatten):=by
 intro l
 induction l with
 | nil =>
  intro i out hd _
  rw [Klt.eq_def]
  simp only
  rw [Kmm (Knk hd)]
  simp
 | cons x l ih =>
  intro i out hd ho
  obtain ⟨h1,h2,h3⟩:=Knj hd
  rw [List.flatten_cons,List.length_append] at ho
  rw [Klt.eq_def]
  simp only
  rw [Kml h1,if_pos rfl,h2,bs,Kpx (by omega),bs,Kmk (by omega),ih (i + 1) _ h3 (by rw [List.length_append]; omega),List.flatten_cons,List.append_assoc]
theorem Ku8 (k:Nat) (h:k ≤ 1048576):Klr (k:Int)=some ():=by
 unfold Klr
 have e:wr ((k:Int) - wr (0 - 0))=(k:Int):=by rw [Kmi (x:=0 - 0) (by decide) (by decide),Kmi (by omega) (by omega)]; omega
 rw [decide_eq_false (by omega),if_neg (by decide),e]
 by_cases hk:k=0
 ·subst hk; rfl
 ·rw [decide_eq_true (by omega),if_pos rfl,Int.toNat_natCast,Krx (by constructor <;> omega),bs]
theorem Ku9 (ps:List (List (List Int))) (hp:ps.length ≤ 1048576) (h:ps.flatten.length ≤ 1048576):Klu ps=some ps.flatten:=by
 unfold Klu
 have h0:=Ku6 ps (by omega) ps 0 0 rfl (by omega)
 rw [Nat.zero_add] at h0
 rw [show (0:Int)=((0:Nat):Int) from rfl,h0,bs,Ku8 _ h,bs,Ku7 ps (by omega) ps 0 [] rfl (by rw [List.length_nil]; omega)]
 rfl
end Go.Am
