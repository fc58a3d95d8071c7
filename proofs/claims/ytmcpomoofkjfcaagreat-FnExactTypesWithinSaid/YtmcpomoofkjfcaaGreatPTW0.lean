/- Plain laws of the printed functions. -/
import Derived.Test.YtmcpomoofkjfcaaGreatGTWF13
set_option linter.unusedSimpArgs false
set_option linter.unusedVariables false
namespace Go.Am
theorem Kpg {x:Int} (h1:-9223372036854775808 ≤ x) (h2:x ≤ 9223372036854775807):wr x=x:=by
 unfold wr IntKind.wrap
 simp [IntKind.bits,IntKind.signed]
 omega
theorem Kph {α:Type} {l:List α} {n:Nat} (h:n < l.length):idx l (n:Int)=some l[n]:=by
 unfold idx
 rw [if_pos (by omega)]
 simp [h]
theorem bs {α β:Type} (a:α) (f:α→Option β):(some a >>= f)=f a:=rfl
theorem Kpi {n:Nat} (h:n < 9223372036854775807):wr ((n:Int) + 1)=((n + 1:Nat):Int):=by
 rw [Kpg (by omega) (by omega)]; omega
theorem Kpj {n m:Nat} (h:n < m):decide ((n:Int) < (m:Int))=true:=decide_eq_true (by omega)
theorem Kpk {n m:Nat} (h:m ≤ n):decide ((n:Int) < (m:Int))=false:=decide_eq_false (by omega)
theorem Kpl {α:Type} {l a:List α} {n:Nat} (hl:l.length=a.length) (hn:n < a.length) (h:l.take n=a.take n):(l.set n a[n]).take (n + 1)=a.take (n + 1):=by
 apply List.ext_getElem?
 intro i
 rw [List.getElem?_take,List.getElem?_take]
 by_cases hi:i < n + 1
 ·rw [if_pos hi,if_pos hi,List.getElem?_set]
  by_cases e:n=i
  ·subst e
   rw [if_pos rfl,if_pos (by omega),List.getElem?_eq_getElem hn]
  ·rw [if_neg e]
   have:=congrArg (fun l=>l[i]?) h
   simp only [List.getElem?_take] at this
   rw [if_pos (by omega),if_pos (by omega)] at this
   exact this
 ·rw [if_neg hi,if_neg hi]
theorem Kpm (a:List Int) (ha:a.length ≤ 1099511627776):∀ (k n:Nat) (out:List Int),n + k=a.length→out.length=a.length→out.take n=a.take n→K93 (a,out,(n:Int))=some a:=by
 intro k
 induction k with
 | zero =>
  intro n out hn hl ht
  rw [K93.eq_def]
  simp only
  rw [Kpk (by omega)]
  have h1:out.take n=out:=List.take_of_length_le (by omega)
  have h2:a.take n=a:=List.take_of_length_le (by omega)
  rw [h1,h2] at ht
  simp [ht]
 | succ k ih =>
  intro n out hn hl ht
  rw [K93.eq_def]
  simp only
  rw [Kpj (by omega),if_pos rfl,Kph (by omega),bs,Kph (by omega),bs,Kpi (by omega),Int.toNat_natCast]
  exact ih (n + 1) _ (by omega) (by simpa using hl) (Kpl hl (by omega) ht)
theorem Kpn (a:List Int) (ha:a.length ≤ 1099511627776):K96 a=some a:=by
 unfold K96
 have:chk (0 ≤ (a.length:Int)∧(Int.toNat (a.length:Int)) * 8 ≤ 140737488355328)=some ():=by
  unfold chk; rw [if_pos]; refine ⟨by omega,?_⟩; rw [Int.toNat_natCast]; omega
 rw [this,bs,Int.toNat_natCast]
 have:=Kpm a ha a.length 0 (List.replicate a.length 0) (by omega) (by simp) rfl
 rw [show ((0:Nat):Int)=0 from rfl] at this
 rw [this,bs]
theorem Kpo (a:List Bool) (ha:a.length ≤ 1099511627776):∀ (k n:Nat) (out:List Bool),n + k=a.length→out.length=a.length→out.take n=a.take n→K9a (a,out,(n:Int))=some a:=by
 intro k
 induction k with
 | zero =>
  intro n out hn hl ht
  rw [K9a.eq_def]
  simp only
  rw [Kpk (by omega)]
  have h1:out.take n=out:=List.take_of_length_le (by omega)
  have h2:a.take n=a:=List.take_of_length_le (by omega)
  rw [h1,h2] at ht
  simp [ht]
 | succ k ih =>
  intro n out hn hl ht
  rw [K9a.eq_def]
  simp only
  rw [Kpj (by omega),if_pos rfl,Kph (by omega),bs,Kph (by omega),bs,Kpi (by omega),Int.toNat_natCast]
  exact ih (n + 1) _ (by omega) (by simpa using hl) (Kpl hl (by omega) ht)
theorem Kpp (a:List Bool) (ha:a.length ≤ 1099511627776):K9d a=some a:=by
 unfold K9d
 have:chk (0 ≤ (a.length:Int)∧(Int.toNat (a.length:Int)) * 1 ≤ 140737488355328)=some ():=by
  unfold chk; rw [if_pos]; refine ⟨by omega,?_⟩; rw [Int.toNat_natCast]; omega
 rw [this,bs,Int.toNat_natCast]
 have:=Kpo a ha a.length 0 (List.replicate a.length false) (by omega) (by simp) rfl
 rw [show ((0:Nat):Int)=0 from rfl] at this
 rw [this,bs]
theorem Kpq {a:Int}:(a != a)=false:=by simp
theorem Kpr (a:List Int) (ha:a.length ≤ 1099511627776):∀ (k n:Nat),n + k=a.length→Kn0 (a,a,(n:Int))=some (.inl ()):=by
 intro k
 induction k with
 | zero =>
  intro n hn
  rw [Kn0.eq_def]
  simp only
  rw [Kpk (by omega)]
  rfl
 | succ k ih =>
  intro n hn
  rw [Kn0.eq_def]
  simp only
  rw [Kpj (by omega),if_pos rfl,Kph (by omega),bs,bs,Kpq,if_neg (by decide),Kpi (by omega)]
  exact ih (n + 1) (by omega)
theorem Kps (a:List Int) (ha:a.length ≤ 1099511627776):Kn3 (a,a)=some true:=by
 unfold Kn3
 simp only
 have:=Kpr a ha a.length 0 (by omega)
 rw [show ((0:Nat):Int)=0 from rfl] at this
 rw [Kpq,if_neg (by decide),this]
 rfl
theorem Kpt (a:List Bool) (ha:a.length ≤ 1099511627776):∀ (k n:Nat),n + k=a.length→Kne (a,a,(n:Int))=some (.inl ()):=by
 intro k
 induction k with
 | zero =>
  intro n hn
  rw [Kne.eq_def]
  simp only
  rw [Kpk (by omega)]
  rfl
 | succ k ih =>
  intro n hn
  rw [Kne.eq_def]
  simp only
  rw [Kpj (by omega),if_pos rfl,Kph (by omega),bs,bs,show ∀ b:Bool,(b == b)=true from by decide,if_pos rfl,Kpi (by omega)]
  exact ih (n + 1) (by omega)
theorem Kpu (a:List Bool) (ha:a.length ≤ 1099511627776):Knh (a,a)=some true:=by
 unfold Knh
 simp only
 have:=Kpt a ha a.length 0 (by omega)
 rw [show ((0:Nat):Int)=0 from rfl] at this
 rw [Kpq,if_neg (by decide),this]
 rfl
theorem Kpv (s:K00) (h1:s.fPlus.length ≤ 1099511627776) (h2:s.fTimes.length ≤ 1099511627776) (h3:s.fBelow.length ≤ 1099511627776):K9g s=some s:=by
 unfold K9g
 rw [Kpn _ h1,bs,Kpn _ h2,bs,Kpp _ h3,bs]
theorem Kpw (s:K00) (h1:s.fPlus.length ≤ 1099511627776) (h2:s.fTimes.length ≤ 1099511627776) (h3:s.fBelow.length ≤ 1099511627776):Knk (s,s)=some true:=by
 unfold Knk
 simp only
 rw [Kpq,if_neg (by decide),Kps _ h1,bs,if_pos rfl,Kps _ h2,bs,if_pos rfl,Kpu _ h3,bs,if_pos rfl]
structure Tab (s:K00) (n:Nat):Prop where
 size:s.fSize=(n:Int)
 lo:2 ≤ n
 hi:n ≤ 16
 lp:s.fPlus.length=n * n
 lt:s.fTimes.length=n * n
 lb:s.fBelow.length=n * n
 rp:∀ i (h:i < s.fPlus.length),0 ≤ s.fPlus[i]∧s.fPlus[i] < (n:Int)
 rt:∀ i (h:i < s.fTimes.length),0 ≤ s.fTimes[i]∧s.fTimes[i] < (n:Int)
def pl (s:K00) (n a b:Nat):Nat:=(s.fPlus.getD (a * n + b) 0).toNat
def ti (s:K00) (n a b:Nat):Nat:=(s.fTimes.getD (a * n + b) 0).toNat
def le (s:K00) (n a b:Nat):Bool:=s.fBelow.getD (a * n + b) false
theorem Kpx {n a b:Nat} (ha:a < n) (hb:b < n):a * n + b < n * n:=by
 have:(a + 1) * n ≤ n * n:=Nat.mul_le_mul_right _ (by omega)
 rw [Nat.add_mul,Nat.one_mul] at this
 omega
theorem Kpy {n a b:Nat} (hn:n ≤ 16) (ha:a < n) (hb:b < n):wr ((wr ((a:Int) * (n:Int))) + (b:Int))=((a * n + b:Nat):Int):=by
 have h1:a * n ≤ 256:=Nat.le_trans (Nat.mul_le_mul (by omega:a ≤ 16) hn) (by decide)
 have e:(a:Int) * (n:Int)=((a * n:Nat):Int):=by simp
 rw [e]
 generalize a * n=m at h1
 rw [Kpg (x:=(m:Int)) (by omega) (by omega),Kpg (by omega) (by omega)]
 omega
section
variable {s:K00} {n:Nat} (h:Tab s n)
include h
theorem Kpz {a b:Nat} (ha:a < n) (hb:b < n):pl s n a b < n:=by
 have hl:a * n + b < s.fPlus.length:=by rw [h.lp]; exact Kpx ha hb
 unfold pl
 rw [List.getD_eq_getElem?_getD,List.getElem?_eq_getElem hl]
 have:=h.rp _ hl
 simp only [Option.getD_some]
 omega
theorem Kq0 {a b:Nat} (ha:a < n) (hb:b < n):ti s n a b < n:=by
 have hl:a * n + b < s.fTimes.length:=by rw [h.lt]; exact Kpx ha hb
 unfold ti
 rw [List.getD_eq_getElem?_getD,List.getElem?_eq_getElem hl]
 have:=h.rt _ hl
 simp only [Option.getD_some]
 omega
theorem Kq1 {a b:Nat} (ha:a < n) (hb:b < n):idx s.fPlus ((a * n + b:Nat):Int)=some ((pl s n a b:Nat):Int):=by
 have hl:a * n + b < s.fPlus.length:=by rw [h.lp]; exact Kpx ha hb
 rw [Kph hl]
 unfold pl
 rw [List.getD_eq_getElem?_getD,List.getElem?_eq_getElem hl]
 have:=h.rp _ hl
 simp only [Option.getD_some]
 congr 1
 omega
theorem Kq2 {a b:Nat} (ha:a < n) (hb:b < n):idx s.fTimes ((a * n + b:Nat):Int)=some ((ti s n a b:Nat):Int):=by
 have hl:a * n + b < s.fTimes.length:=by rw [h.lt]; exact Kpx ha hb
 rw [Kph hl]
 unfold ti
 rw [List.getD_eq_getElem?_getD,List.getElem?_eq_getElem hl]
 have:=h.rt _ hl
 simp only [Option.getD_some]
 congr 1
 omega
theorem Kq3 {a b:Nat} (ha:a < n) (hb:b < n):idx s.fBelow ((a * n + b:Nat):Int)=some (le s n a b):=by
 have hl:a * n + b < s.fBelow.length:=by rw [h.lb]; exact Kpx ha hb
 rw [Kph hl]
 unfold le
 rw [List.getD_eq_getElem?_getD,List.getElem?_eq_getElem hl]
 rfl
theorem Kq4 {a b:Nat} (ha:a < n) (hb:b < n):Kab (s,(a:Int),(b:Int))=some ((pl s n a b:Nat):Int):=by
 unfold Kab
 simp only
 rw [h.size,Kpy h.hi ha hb,Kq1 h ha hb,bs]
theorem Kq5 {a b:Nat} (ha:a < n) (hb:b < n):Kae (s,(a:Int),(b:Int))=some ((ti s n a b:Nat):Int):=by
 unfold Kae
 simp only
 rw [h.size,Kpy h.hi ha hb,Kq2 h ha hb,bs]
theorem sLe {a b:Nat} (ha:a < n) (hb:b < n):Kah (s,(a:Int),(b:Int))=some (le s n a b):=by
 unfold Kah
 simp only
 rw [h.size,Kpy h.hi ha hb,Kq3 h ha hb,bs]
theorem Kq6 {a b:Nat} (ha:a < n) (hb:b < n):Kg6 (s,(a:Int),(b:Int))=some ((pl s n a b:Nat):Int):=by
 unfold Kg6
 simp only
 rw [h.size,Kpy h.hi ha hb,Kq1 h ha hb,bs]
theorem Kq7 {a b:Nat} (ha:a < n) (hb:b < n):Kg9 (s,(a:Int),(b:Int))=some ((ti s n a b:Nat):Int):=by
 unfold Kg9
 simp only
 rw [h.size,Kpy h.hi ha hb,Kq2 h ha hb,bs]
theorem iLe {a b:Nat} (ha:a < n) (hb:b < n):Kgc (s,(a:Int),(b:Int))=some (le s n a b):=by
 unfold Kgc
 simp only
 rw [h.size,Kpy h.hi ha hb,Kq3 h ha hb,bs]
end
theorem Kq8 (x y:Nat):(((x:Nat):Int) == ((y:Nat):Int))=(x == y):=by
 cases hb:(x == y) with
 | true=>have:=eq_of_beq hb; subst this; simp
 | false=>simp at hb ⊢; omega
theorem Kq9 (x y:Nat):(((x:Nat):Int) != ((y:Nat):Int))=(x != y):=by
 simp only [bne,Kq8]
def Kqa (s:K00) (n a:Nat):Bool:=(pl s n 0 a == a) && (ti s n 1 a == a) && (ti s n a 1 == a) && (ti s n 0 a == 0) && (ti s n a 0 == 0) && le s n a a
def Kqb (s:K00) (n a b c:Nat):Bool :=
 (pl s n (pl s n a b) c == pl s n a (pl s n b c)) && (ti s n (ti s n a b) c == ti s n a (ti s n b c)) &&
 (ti s n a (pl s n b c) == pl s n (ti s n a b) (ti s n a c)) && (ti s n (pl s n a b) c == pl s n (ti s n a c) (ti s n b c)) &&
 (!(le s n a b) || ((!(le s n b c) || le s n a c) && le s n (pl s n a c) (pl s n b c) && le s n (ti s n a c) (ti s n b c) && le s n (ti s n c a) (ti s n c b)))
section
variable {s:K00} {n:Nat} (h:Tab s n)
include h
theorem Kqc {a:Nat} (ha:a < n):Kao (s,(a:Int))=some (Kqa s n a):=by
 have l0:(0:Nat) < n:=by have:=h.lo; omega
 have l1:(1:Nat) < n:=by have:=h.lo; omega
 have e0:(0:Int)=((0:Nat):Int):=rfl
 have e1:(1:Int)=((1:Nat):Int):=rfl
 unfold Kao Kqa
 simp only
 rw [e0,e1]
 simp only [Kq4 h l0 ha,Kq5 h l1 ha,Kq5 h ha l1,Kq5 h l0 ha,Kq5 h ha l0,sLe h ha ha,bs,Kq8]
 generalize (pl s n 0 a == a)=b1
 generalize (ti s n 1 a == a)=b2
 generalize (ti s n a 1 == a)=b3
 generalize (ti s n 0 a == 0)=b4
 generalize (ti s n a 0 == 0)=b5
 generalize le s n a a=b6
 cases b1 <;> cases b2 <;> cases b3 <;> cases b4 <;> cases b5 <;> cases b6 <;> rfl
theorem Kqd {a b c:Nat} (ha:a < n) (hb:b < n) (hc:c < n):Kb5 (s,(a:Int),(b:Int),(c:Int))=some (Kqb s n a b c):=by
 unfold Kb5 Kqb
 simp only
 simp only [Kq4 h,Kq5 h,sLe h,Kpz h,Kq0 h,ha,hb,hc,bs,Kq9]
 generalize e1:pl s n (pl s n a b) c=x1
 generalize e2:pl s n a (pl s n b c)=x2
 generalize e3:ti s n (ti s n a b) c=x3
 generalize e4:ti s n a (ti s n b c)=x4
 generalize ti s n a (pl s n b c)=x5
 generalize pl s n (ti s n a b) (ti s n a c)=x6
 generalize ti s n (pl s n a b) c=x7
 generalize pl s n (ti s n a c) (ti s n b c)=x8
 generalize le s n (pl s n a c) (pl s n b c)=y1
 generalize le s n (ti s n a c) (ti s n b c)=y2
 generalize le s n (ti s n c a) (ti s n c b)=y3
 generalize le s n a b=y4
 generalize le s n b c=y5
 generalize le s n a c=y6
 simp only [bne]
 generalize (x1 == x2)=b1
 generalize (x3 == x4)=b2
 generalize (x5 == x6)=b3
 generalize (x7 == x8)=b4
 cases b1 <;> cases b2 <;> cases b3 <;> cases b4 <;> first | rfl | (cases y4 <;> cases y5 <;> cases y6 <;> cases y1 <;> cases y2 <;> cases y3 <;> rfl)
theorem Kqe {a b c:Nat} (ha:a < n) (hb:b < n) (hc:c < n):Kgw (s,(a:Int),(b:Int),(c:Int))=some (Kqb s n a b c):=by
 unfold Kgw Kqb
 simp only
 simp only [Kq6 h,Kq7 h,iLe h,Kpz h,Kq0 h,ha,hb,hc,bs,Kq9]
 generalize e1:pl s n (pl s n a b) c=x1
 generalize e2:pl s n a (pl s n b c)=x2
 generalize e3:ti s n (ti s n a b) c=x3
 generalize e4:ti s n a (ti s n b c)=x4
 generalize ti s n a (pl s n b c)=x5
 generalize pl s n (ti s n a b) (ti s n a c)=x6
 generalize ti s n (pl s n a b) c=x7
 generalize pl s n (ti s n a c) (ti s n b c)=x8
 generalize le s n (pl s n a c) (pl s n b c)=y1
 generalize le s n (ti s n a c) (ti s n b c)=y2
 generalize le s n (ti s n c a) (ti s n c b)=y3
 generalize le s n a b=y4
 generalize le s n b c=y5
 generalize le s n a c=y6
 simp only [bne]
 generalize (x1 == x2)=b1
 generalize (x3 == x4)=b2
 generalize (x5 == x6)=b3
 generalize (x7 == x8)=b4
 cases b1 <;> cases b2 <;> cases b3 <;> cases b4 <;> first | rfl | (cases y4 <;> cases y5 <;> cases y6 <;> cases y1 <;> cases y2 <;> cases y3 <;> rfl)
end
def Kqf (s:K00) (n a b g h:Nat):Bool:=!le s n a h || !le s n b h || le s n g h
def jok (s:K00) (n a b g:Nat):Bool:=le s n a g && le s n b g && (List.range' 0 n).all (Kqf s n a b g)
def Kqg (s:K00) (n a b:Nat):Int:=match (List.range' 0 n).find? (jok s n a b) with | some g=>(g:Int) | none=>-1
section
variable {s:K00} {n:Nat} (h:Tab s n)
include h
theorem Kqh {a b g:Nat} (ha:a < n) (hb:b < n) (hg:g < n):∀ (k m:Nat) (ok:Bool),m + k=n→Kas (s,(a:Int),(b:Int),(g:Int),ok,(m:Int))=some (ok && (List.range' m k).all (Kqf s n a b g)):=by
 have hhi:=h.hi
 intro k
 induction k with
 | zero =>
  intro m ok hm
  rw [Kas.eq_def]
  simp only
  rw [h.size,Kpk (by omega)]
  simp [bs]
 | succ k ih =>
  intro m ok hm
  rw [Kas.eq_def]
  simp only
  rw [h.size,Kpj (by omega),if_pos rfl,bs,sLe h ha (by omega),sLe h hb (by omega),sLe h hg (by omega)]
  cases ok with
  | false=>rfl
  | true =>
   rw [if_pos rfl]
   rw [List.range'_succ,List.all_cons]
   have ih:∀ ok,_:=fun ok=>ih (m + 1) ok (by omega)
   rw [Kpi (by omega)]
   generalize ((m + 1:Nat):Int)=M at ih ⊢
   simp only [bs,Kqf]
   cases le s n a m <;> cases le s n b m <;> cases le s n g m <;> simp [bs,ih,Kqf]
theorem Kqi {a b g:Nat} (ha:a < n) (hb:b < n) (hg:g < n):∀ (k m:Nat) (ok:Bool),m + k=n→Kgg (s,(a:Int),(b:Int),(g:Int),ok,(m:Int))=some (ok && (List.range' m k).all (Kqf s n a b g)):=by
 have hhi:=h.hi
 intro k
 induction k with
 | zero =>
  intro m ok hm
  rw [Kgg.eq_def]
  simp only
  rw [h.size,Kpk (by omega)]
  simp [bs]
 | succ k ih =>
  intro m ok hm
  rw [Kgg.eq_def]
  simp only
  rw [h.size,Kpj (by omega),if_pos rfl,iLe h ha (by omega),iLe h hb (by omega),iLe h hg (by omega)]
  rw [List.range'_succ,List.all_cons]
  have ih:∀ ok,_:=fun ok=>ih (m + 1) ok (by omega)
  rw [Kpi (by omega)]
  generalize ((m + 1:Nat):Int)=M at ih ⊢
  simp only [bs,Kqf]
  cases ok <;> cases le s n a m <;> cases le s n b m <;> cases le s n g m <;> simp [bs,ih,Kqf]
theorem Kqj {a b:Nat} (ha:a < n) (hb:b < n):∀ (k g:Nat),g + k=n→Kaw (s,(a:Int),(b:Int),(g:Int))=some (match (List.range' g k).find? (jok s n a b) with | some g=>.inr (g:Int) | none=>.inl ()):=by
 have hhi:=h.hi
 intro k
 induction k with
 | zero =>
  intro g hm
  rw [Kaw.eq_def]
  simp only
  rw [h.size,Kpk (by omega)]
  rfl
 | succ k ih =>
  intro g hm
  rw [Kaw.eq_def]
  simp only
  rw [h.size,Kpj (by omega),if_pos rfl,sLe h ha (by omega),sLe h hb (by omega)]
  have ih:=ih (g + 1) (by omega)
  rw [Kpi (by omega),List.range'_succ,List.find?_cons]
  have hl:=fun ok=>Kqh h ha hb (g:=g) (by omega) n 0 ok (by omega)
  rw [show ((0:Nat):Int)=0 from rfl] at hl
  generalize ((g + 1:Nat):Int)=M at ih ⊢
  have hj:jok s n a b g=(le s n a g && le s n b g && (List.range' 0 n).all (Kqf s n a b g)):=rfl
  rw [hj]
  cases le s n a g <;> cases le s n b g <;> cases hq:(List.range' 0 n).all (Kqf s n a b g) <;> simp [bs,hl,hq,ih]
theorem Kqk {a b:Nat} (ha:a < n) (hb:b < n):∀ (k g:Nat),g + k=n→Kgl (s,(a:Int),(b:Int),(g:Int))=some (match (List.range' g k).find? (jok s n a b) with | some g=>.inr (g:Int) | none=>.inl ()):=by
 have hhi:=h.hi
 intro k
 induction k with
 | zero =>
  intro g hm
  rw [Kgl.eq_def]
  simp only
  rw [h.size,Kpk (by omega)]
  rfl
 | succ k ih =>
  intro g hm
  rw [Kgl.eq_def]
  simp only
  rw [h.size,Kpj (by omega),if_pos rfl,iLe h ha (by omega),iLe h hb (by omega)]
  have ih:=ih (g + 1) (by omega)
  rw [Kpi (by omega),List.range'_succ,List.find?_cons]
  have hl:=fun ok=>Kqi h ha hb (g:=g) (by omega) n 0 ok (by omega)
  rw [show ((0:Nat):Int)=0 from rfl] at hl
  generalize ((g + 1:Nat):Int)=M at ih ⊢
  have hj:jok s n a b g=(le s n a g && le s n b g && (List.range' 0 n).all (Kqf s n a b g)):=rfl
  rw [hj]
  cases le s n a g <;> cases le s n b g <;> cases hq:(List.range' 0 n).all (Kqf s n a b g) <;> simp [bs,hl,hq,ih]
theorem Kql {a b:Nat} (ha:a < n) (hb:b < n):Kaz (s,(a:Int),(b:Int))=some (Kqg s n a b):=by
 unfold Kaz Kqg
 simp only
 have:=Kqj h ha hb n 0 (by omega)
 rw [show ((0:Nat):Int)=0 from rfl] at this
 rw [this,bs]
 cases (List.range' 0 n).find? (jok s n a b) <;> rfl
theorem Kqm {a b:Nat} (ha:a < n) (hb:b < n):Kgo (s,(a:Int),(b:Int))=some (Kqg s n a b):=by
 unfold Kgo Kqg
 simp only
 have:=Kqk h ha hb n 0 (by omega)
 rw [show ((0:Nat):Int)=0 from rfl] at this
 rw [this,bs]
 cases (List.range' 0 n).find? (jok s n a b) <;> rfl
def Kqn (s:K00) (n a b:Nat):Bool:=(pl s n a b == pl s n b a) && ((a == b) || !le s n a b || !le s n b a) && decide (Kqg s n a b ≥ 0)
omit h in
theorem Kqo (x:Int):decide (x < 0)=!decide (x ≥ 0):=by
 by_cases h:x < 0
 ·rw [decide_eq_true h,decide_eq_false (by omega)]; rfl
 ·rw [decide_eq_false h,decide_eq_true (by omega)]; rfl
theorem Kqp {a b:Nat} (ha:a < n) (hb:b < n):Kb2 (s,(a:Int),(b:Int))=some (Kqn s n a b):=by
 unfold Kb2 Kqn
 simp only
 rw [Kq4 h ha hb,Kq4 h hb ha,sLe h ha hb,sLe h hb ha,Kql h ha hb]
 simp only [bs,Kq8]
 generalize (pl s n a b == pl s n b a)=b1
 generalize (a == b)=b2
 cases b1 <;> cases b2 <;> cases le s n a b <;> cases le s n b a <;> simp [bs]
end
def inB (x lo hi:Int):Bool:=decide (x ≥ lo) && decide (x ≤ hi)
theorem sIn (x lo hi:Int):Ka1 (x,lo,hi)=some (inB x lo hi):=by
 unfold Ka1 inB
 simp only
 cases decide (x ≥ lo) <;> simp [bs]
theorem iIn (x lo hi:Int):Kg0 (x,lo,hi)=some (inB x lo hi):=by
 unfold Kg0 inB
 simp only
 cases decide (x ≥ lo) <;> simp [bs]
def Kqq (s:K00) (n:Nat):Bool:=(List.range' 0 n).all fun a=>Kqa s n a && (List.range' 0 n).all fun b=>Kqn s n a b && (List.range' 0 n).all fun c=>Kqb s n a b c
section
variable {s:K00} {n:Nat} (h:Tab s n)
include h
theorem Kqr {a b:Nat} (ha:a < n) (hb:b < n):∀ (k c:Nat),c + k=n→Kb9 (s,(a:Int),(b:Int),(c:Int))=some (if (List.range' c k).all (fun c=>Kqb s n a b c) then .inl () else .inr false):=by
 have hhi:=h.hi
 intro k
 induction k with
 | zero =>
  intro c hm
  rw [Kb9.eq_def]
  simp only
  rw [h.size,Kpk (by omega)]
  rfl
 | succ k ih =>
  intro c hm
  rw [Kb9.eq_def]
  simp only
  rw [h.size,Kpj (by omega),if_pos rfl,Kqd h ha hb (by omega),bs]
  have ih:=ih (c + 1) (by omega)
  rw [Kpi (by omega),List.range'_succ,List.all_cons]
  generalize ((c + 1:Nat):Int)=M at ih ⊢
  generalize (List.range' (c + 1) k).all (fun c=>Kqb s n a b c)=r at ih ⊢
  cases Kqb s n a b c <;> cases r <;> simp [ih]
theorem Kqs {a b:Nat} (ha:a < n) (hb:b < n):∀ (k c:Nat),c + k=n→Kh4 (s,(a:Int),(b:Int),(c:Int))=some (if (List.range' c k).all (fun c=>Kqb s n a b c) then .inl () else .inr false):=by
 have hhi:=h.hi
 intro k
 induction k with
 | zero =>
  intro c hm
  rw [Kh4.eq_def]
  simp only
  rw [h.size,Kpk (by omega)]
  rfl
 | succ k ih =>
  intro c hm
  rw [Kh4.eq_def]
  simp only
  rw [h.size,Kpj (by omega),if_pos rfl,Kqe h ha hb (by omega),bs]
  have ih:=ih (c + 1) (by omega)
  rw [Kpi (by omega),List.range'_succ,List.all_cons]
  generalize ((c + 1:Nat):Int)=M at ih ⊢
  generalize (List.range' (c + 1) k).all (fun c=>Kqb s n a b c)=r at ih ⊢
  cases Kqb s n a b c <;> cases r <;> simp [ih]
theorem Kqt {a:Nat} (ha:a < n):∀ (k b:Nat),b + k=n→Kbd (s,(a:Int),(b:Int))=some (if (List.range' b k).all (fun b=>Kqn s n a b && (List.range' 0 n).all fun c=>Kqb s n a b c) then .inl () else .inr false):=by
 have hhi:=h.hi
 intro k
 induction k with
 | zero =>
  intro c hm
  rw [Kbd.eq_def]
  simp only
  rw [h.size,Kpk (by omega)]
  rfl
 | succ k ih =>
  intro b hm
  rw [Kbd.eq_def]
  simp only
  have hl:=Kqr h ha (b:=b) (by omega) n 0 (by omega)
  rw [show ((0:Nat):Int)=0 from rfl] at hl
  rw [h.size,Kpj (by omega),if_pos rfl,Kqp h ha (by omega),bs,hl]
  have ih:=ih (b + 1) (by omega)
  rw [Kpi (by omega),List.range'_succ,List.all_cons]
  generalize ((b + 1:Nat):Int)=M at ih ⊢
  generalize (List.range' (b + 1) k).all (fun b=>Kqn s n a b && (List.range' 0 n).all fun c=>Kqb s n a b c)=r at ih ⊢
  cases Kqn s n a b <;> cases (List.range' 0 n).all (fun c=>Kqb s n a b c) <;> cases r <;> simp [ih,bs]
theorem Kqu {a:Nat} (ha:a < n):∀ (k b:Nat),b + k=n→Kh8 (s,(a:Int),(b:Int))=some (if (List.range' b k).all (fun b=>Kqn s n a b && (List.range' 0 n).all fun c=>Kqb s n a b c) then .inl () else .inr false):=by
 have hhi:=h.hi
 intro k
 induction k with
 | zero =>
  intro c hm
  rw [Kh8.eq_def]
  simp only
  rw [h.size,Kpk (by omega)]
  rfl
 | succ k ih =>
  intro b hm
  have hb:b < n:=by omega
  rw [Kh8.eq_def]
  simp only
  have hl:=Kqs h ha (b:=b) (by omega) n 0 (by omega)
  rw [show ((0:Nat):Int)=0 from rfl] at hl
  rw [h.size,Kpj (by omega),if_pos rfl,Kq6 h ha hb,Kq6 h hb ha,iLe h ha hb,iLe h hb ha,Kqm h ha hb,hl]
  have ih:=ih (b + 1) (by omega)
  rw [Kpi (by omega),List.range'_succ,List.all_cons]
  generalize ((b + 1:Nat):Int)=M at ih ⊢
  generalize (List.range' (b + 1) k).all (fun b=>Kqn s n a b && (List.range' 0 n).all fun c=>Kqb s n a b c)=r at ih ⊢
  simp only [bs,Kq9,Kqo]
  cases h1:(pl s n a b == pl s n b a) <;> cases h2:(a == b) <;> cases h3:decide (Kqg s n a b ≥ 0) <;> cases h4:le s n a b <;> cases h5:le s n b a <;> cases h6:(List.range' 0 n).all (fun c=>Kqb s n a b c) <;> cases r <;> simp only [Kqn,bne,h1,h2,h3,h4,h5,h6,ih,bs,Bool.not_true,Bool.not_false,Bool.true_and,Bool.false_and,Bool.and_true,Bool.and_false,Bool.true_or,Bool.false_or,Bool.or_true,Bool.or_false,if_true,if_false,Bool.false_eq_true]
theorem Kqv:∀ (k a:Nat),a + k=n→Kbi (s,(a:Int))=some (if (List.range' a k).all (fun a=>Kqa s n a && (List.range' 0 n).all fun b=>Kqn s n a b && (List.range' 0 n).all fun c=>Kqb s n a b c) then .inl () else .inr false):=by
 have hhi:=h.hi
 intro k
 induction k with
 | zero =>
  intro c hm
  rw [Kbi.eq_def]
  simp only
  rw [h.size,Kpk (by omega)]
  rfl
 | succ k ih =>
  intro a hm
  have ha:a < n:=by omega
  rw [Kbi.eq_def]
  simp only
  have hl:=Kqt h ha n 0 (by omega)
  rw [show ((0:Nat):Int)=0 from rfl] at hl
  rw [h.size,Kpj (by omega),if_pos rfl,Kqc h ha,bs,hl]
  have ih:=ih (a + 1) (by omega)
  rw [Kpi (by omega),List.range'_succ,List.all_cons]
  generalize ((a + 1:Nat):Int)=M at ih ⊢
  generalize (List.range' (a + 1) k).all (fun a=>Kqa s n a && (List.range' 0 n).all fun b=>Kqn s n a b && (List.range' 0 n).all fun c=>Kqb s n a b c)=r at ih ⊢
  cases Kqa s n a <;> cases (List.range' 0 n).all (fun b=>Kqn s n a b && (List.range' 0 n).all fun c=>Kqb s n a b c) <;> cases r <;> simp [ih,bs]
theorem Kqw:∀ (k a:Nat),a + k=n→Khc (s,(a:Int))=some (if (List.range' a k).all (fun a=>Kqa s n a && (List.range' 0 n).all fun b=>Kqn s n a b && (List.range' 0 n).all fun c=>Kqb s n a b c) then .inl () else .inr false):=by
 have hhi:=h.hi
 have l0:(0:Nat) < n:=by have:=h.lo; omega
 have l1:(1:Nat) < n:=by have:=h.lo; omega
 intro k
 induction k with
 | zero =>
  intro c hm
  rw [Khc.eq_def]
  simp only
  rw [h.size,Kpk (by omega)]
  rfl
 | succ k ih =>
  intro a hm
  have ha:a < n:=by omega
  rw [Khc.eq_def]
  simp only
  have hl:=Kqu h ha n 0 (by omega)
  have q1:Kg6 (s,0,(a:Int))=_:=Kq6 h l0 ha
  have q2:Kg9 (s,1,(a:Int))=_:=Kq7 h l1 ha
  have q3:Kg9 (s,(a:Int),1)=_:=Kq7 h ha l1
  have q4:Kg9 (s,0,(a:Int))=_:=Kq7 h l0 ha
  have q5:Kg9 (s,(a:Int),0)=_:=Kq7 h ha l0
  have z1:(((ti s n 0 a:Nat):Int) != 0)=(ti s n 0 a != 0):=Kq9 _ 0
  have z2:(((ti s n a 0:Nat):Int) != 0)=(ti s n a 0 != 0):=Kq9 _ 0
  rw [show ((0:Nat):Int)=0 from rfl] at hl
  rw [h.size,Kpj (by omega),if_pos rfl,q1,q2,q3,q4,q5,iLe h ha ha,hl]
  have ih:=ih (a + 1) (by omega)
  rw [Kpi (by omega),List.range'_succ,List.all_cons]
  generalize ((a + 1:Nat):Int)=M at ih ⊢
  generalize (List.range' (a + 1) k).all (fun a=>Kqa s n a && (List.range' 0 n).all fun b=>Kqn s n a b && (List.range' 0 n).all fun c=>Kqb s n a b c)=r at ih ⊢
  simp only [bs,Kq9,z1,z2]
  cases h1:(pl s n 0 a == a) <;> cases h2:(ti s n 1 a == a) <;> cases h3:(ti s n a 1 == a) <;> cases h4:(ti s n 0 a == 0) <;> cases h5:(ti s n a 0 == 0) <;> cases h6:le s n a a <;> cases h7:(List.range' 0 n).all (fun b=>Kqn s n a b && (List.range' 0 n).all fun c=>Kqb s n a b c) <;> cases r <;> simp only [Kqa,bne,h1,h2,h3,h4,h5,h6,h7,ih,bs,Bool.not_true,Bool.not_false,Bool.true_and,Bool.false_and,Bool.and_true,Bool.and_false,if_true,if_false,Bool.false_eq_true]
end
theorem Kqx {α:Type} {l r:List α} {x:α} {i:Nat} (h:l.drop i=x :: r):i < l.length∧idx l (i:Int)=some x∧l.drop (i + 1)=r:=by
 have hi:i < l.length:=by
  rcases Nat.lt_or_ge i l.length with h' | h'
  ·exact h'
  ·rw [List.drop_eq_nil_of_le h'] at h; cases h
 have e:=List.drop_eq_getElem_cons hi
 rw [h] at e
 obtain ⟨e1,e2⟩:=List.cons.inj e
 exact ⟨hi,by rw [Kph hi,e1],e2.symm⟩
theorem Kqy {α:Type} {l:List α} {i:Nat} (h:l.drop i=[]):l.length ≤ i:=by
 rcases Nat.lt_or_ge i l.length with h' | h'
 ·rw [List.drop_eq_getElem_cons h'] at h; cases h
 ·exact h'
def Kqz (c:Int):Bool:=inB c 3 18 || c == 35
def Kr0 (c:Int):Bool:=inB c 19 34 || c == 36
def Kr1 (c:Int):Int:=if c == 0 then 0 else if c == 1 || c == 2 || Kqz c then 2 else if Kr0 c then 1 else -1
theorem Kr2 (c:Int):Kbo c=some (Kqz c):=by
 unfold Kbo Kqz
 simp only [sIn,bs]
 cases inB c 3 18 <;> rfl
theorem Kr3 (c:Int):Kbr c=some (Kr0 c):=by
 unfold Kbr Kr0
 simp only [sIn,bs]
 cases inB c 19 34 <;> rfl
theorem Kr4 (c:Int):Kbu c=some (Kr1 c):=by
 unfold Kbu Kr1
 simp only [Kr2,Kr3,bs]
 cases c == 0 <;> cases c == 1 <;> cases c == 2 <;> cases Kqz c <;> cases Kr0 c <;> rfl
theorem Kr5 (c:Int):(c=0∧Kr1 c=0)∨((c=1∨c=2∨(3 ≤ c∧c ≤ 18)∨c=35)∧Kr1 c=2)∨(((19 ≤ c∧c ≤ 34)∨c=36)∧Kr1 c=1)∨((c < 0∨36 < c)∧Kr1 c=-1):=by
 unfold Kr1 Kqz Kr0 inB
 by_cases h0:c=0
 ·left; subst h0; exact ⟨rfl,rfl⟩
 ·right
  have e0:(c == 0)=false:=by simpa using h0
  by_cases h1:c=1∨c=2∨(3 ≤ c∧c ≤ 18)∨c=35
  ·left
   refine ⟨h1,?_⟩
   have:(c == 1 || c == 2 || (decide (c ≥ 3) && decide (c ≤ 18) || c == 35))=true:=by
    simp only [Bool.or_eq_true,Bool.and_eq_true,beq_iff_eq,decide_eq_true_eq]; omega
   rw [e0,this]; rfl
  ·right
   have q:(c == 1 || c == 2 || (decide (c ≥ 3) && decide (c ≤ 18) || c == 35))=false:=by
    rw [Bool.eq_false_iff]; intro h
    simp only [Bool.or_eq_true,Bool.and_eq_true,beq_iff_eq,decide_eq_true_eq] at h; omega
   rw [e0,q]
   by_cases h2:(19 ≤ c∧c ≤ 34)∨c=36
   ·left
    refine ⟨h2,?_⟩
    have:(decide (c ≥ 19) && decide (c ≤ 34) || c == 36)=true:=by
     simp only [Bool.or_eq_true,Bool.and_eq_true,beq_iff_eq,decide_eq_true_eq]; omega
    rw [this]; rfl
   ·right
    refine ⟨by omega,?_⟩
    have:(decide (c ≥ 19) && decide (c ≤ 34) || c == 36)=false:=by
     rw [Bool.eq_false_iff]; intro h
     simp only [Bool.or_eq_true,Bool.and_eq_true,beq_iff_eq,decide_eq_true_eq] at h; omega
    rw [this]; rfl
def Kr6 (c:Int):Int × Int :=
 if inB c 0 2 then (c,-1) else if inB c 3 18 then (3,c - 3) else if inB c 19 34 then (4,c - 19) else if c == 35 then (3,-1) else if c == 36 then (4,-1) else (5,-1)
theorem Kr7 (c:Int):Khi c=some (Kr6 c):=by
 unfold Khi Kr6
 simp only [iIn,bs]
 cases h1:inB c 0 2
 ·cases h2:inB c 3 18
  ·cases h3:inB c 19 34
   ·cases c == 35 <;> cases c == 36 <;> rfl
   ·simp only [inB,Bool.and_eq_true,decide_eq_true_eq] at h3
    simp only [Bool.false_eq_true,if_false,if_true]
    rw [Kpg (by omega) (by omega)]
  ·simp only [inB,Bool.and_eq_true,decide_eq_true_eq] at h2
   simp only [Bool.false_eq_true,if_false,if_true]
   rw [Kpg (by omega) (by omega)]
 ·rfl
theorem Kr8 (c:Int):(c=0∧Kr6 c=(0,-1))∨(c=1∧Kr6 c=(1,-1))∨(c=2∧Kr6 c=(2,-1))∨((3 ≤ c∧c ≤ 18)∧Kr6 c=(3,c - 3))∨(c=35∧Kr6 c=(3,-1)) ∨
  ((19 ≤ c∧c ≤ 34)∧Kr6 c=(4,c - 19))∨(c=36∧Kr6 c=(4,-1))∨((c < 0∨36 < c)∧Kr6 c=(5,-1)):=by
 have inT:∀ lo hi,lo ≤ c→c ≤ hi→inB c lo hi=true:=fun lo hi h1 h2=>by simp only [inB,Bool.and_eq_true,decide_eq_true_eq]; omega
 have inF:∀ lo hi,(c < lo∨hi < c)→inB c lo hi=false:=fun lo hi h=>by rw [Bool.eq_false_iff]; intro h'; simp only [inB,Bool.and_eq_true,decide_eq_true_eq] at h'; omega
 unfold Kr6
 by_cases h0:0 ≤ c∧c ≤ 2
 ·rw [inT 0 2 h0.1 h0.2]
  have:c=0∨c=1∨c=2:=by omega
  rcases this with rfl | rfl | rfl <;> simp
 ·rw [inF 0 2 (by omega)]
  by_cases h1:3 ≤ c∧c ≤ 18
  ·rw [inT 3 18 h1.1 h1.2]
   exact .inr (.inr (.inr (.inl ⟨h1,rfl⟩)))
  ·rw [inF 3 18 (by omega)]
   by_cases h2:19 ≤ c∧c ≤ 34
   ·rw [inT 19 34 h2.1 h2.2]
    exact .inr (.inr (.inr (.inr (.inr (.inl ⟨h2,rfl⟩)))))
   ·rw [inF 19 34 (by omega)]
    by_cases h3:c=35
    ·subst h3; simp
    ·by_cases h4:c=36
     ·subst h4; simp
     ·have e3:(c == 35)=false:=by simpa using h3
      have e4:(c == 36)=false:=by simpa using h4
      rw [e3,e4]
      refine .inr (.inr (.inr (.inr (.inr (.inr (.inr ⟨by omega,rfl⟩))))))
def skip:Nat→List Int→Option (List Int)
 | 0,l=>some l
 | _ + 1,[]=>none
 | m + 1,c :: l=>if Kr1 c=-1 then none else skip (m + (Kr1 c).toNat) l
theorem Kr9 (l:List Int):skip 0 l=some l:=by cases l <;> rfl
theorem Kra (m:Nat):skip (m + 1) []=none:=rfl
theorem Krb (m:Nat) (c:Int) (l:List Int):skip (m + 1) (c :: l)=if Kr1 c=-1 then none else skip (m + (Kr1 c).toNat) l:=rfl
theorem Krc (l:List Int):∀ (m k:Nat),skip (m + k) l=(skip m l).bind (skip k):=by
 induction l with
 | nil =>
  intro m k
  cases m with
  | zero=>rw [Nat.zero_add,Kr9]; rfl
  | succ m=>rw [show m + 1 + k=(m + k) + 1 by omega,Kra,Kra]; rfl
 | cons c l ih =>
  intro m k
  cases m with
  | zero=>rw [Nat.zero_add,Kr9]; rfl
  | succ m =>
   rw [show m + 1 + k=(m + k) + 1 by omega,Krb,Krb]
   by_cases h:Kr1 c=-1
   ·rw [if_pos h,if_pos h]; rfl
   ·rw [if_neg h,if_neg h,← ih]; congr 1; omega
theorem Krd (l:List Int):∀ (m:Nat) (r:List Int),skip m l=some r→∃ p,l=p ++ r∧m ≤ p.length:=by
 induction l with
 | nil =>
  intro m r h
  cases m with
  | zero=>rw [Kr9] at h; cases h; exact ⟨[],rfl,Nat.le_refl _⟩
  | succ m=>rw [Kra] at h; cases h
 | cons c l ih =>
  intro m r h
  cases m with
  | zero=>rw [Kr9] at h; cases h; exact ⟨[],rfl,Nat.le_refl _⟩
  | succ m =>
   rw [Krb] at h
   by_cases hk:Kr1 c=-1
   ·rw [if_pos hk] at h; cases h
   ·rw [if_neg hk] at h
    obtain ⟨p,e,hp⟩:=ih _ _ h
    exact ⟨c :: p,by rw [e]; rfl,by simp; omega⟩
def Kre (ty:List Int) (m i:Nat):Int:=match skip m (ty.drop i) with | some r=>((ty.length - r.length:Nat):Int) | none=>-1
theorem Krf (ty:List Int) (hty:ty.length ≤ 1099511627776):∀ (l:List Int) (i m:Nat),ty.drop i=l→m ≤ 1099511627776 + 2 * i→∃ x,Kby (ty,((m + 1:Nat):Int),(i:Int))=some x∧(match x with | .inl ()=>-1 | .inr r=>r)=Kre ty (m + 1) i:=by
 intro l
 induction l with
 | nil =>
  intro i m hl hm
  rw [Kby.eq_def]
  simp only
  rw [Kpk (Kqy hl)]
  exact ⟨.inl (),rfl,by unfold Kre; rw [hl,Kra]⟩
 | cons c l ih =>
  intro i m hl hm
  obtain ⟨hi,hx,hd⟩:=Kqx hl
  have hi2:(i:Int) < 1099511627776:=by omega
  rw [Kby.eq_def]
  simp only
  rw [Kpj hi,if_pos rfl,hx,bs,Kr4,bs]
  have he:Kre ty (m + 1) i=(match (if Kr1 c=-1 then none else skip (m + (Kr1 c).toNat) l) with | some r=>((ty.length - r.length:Nat):Int) | none=>-1):=by
   unfold Kre; rw [hl,Krb]
  rw [he]
  by_cases hk:Kr1 c=-1
  ·rw [if_pos hk,hk]
   exact ⟨.inr (-1),rfl,rfl⟩
  ·rw [if_neg hk]
   have hk0:0 ≤ Kr1 c∧Kr1 c ≤ 2:=by rcases Kr5 c with h | h | h | h <;> omega
   obtain ⟨k,hkk⟩:∃ k:Nat,Kr1 c=(k:Int):=⟨(Kr1 c).toNat,by omega⟩
   rw [decide_eq_false (by omega),if_neg (by decide),hkk,Int.toNat_natCast]
   rw [Kpg (x:=((m + 1:Nat):Int) - 1) (by omega) (by omega),show ((m + 1:Nat):Int) - 1=(m:Int) by omega,Kpg (x:=(m:Int) + (k:Int)) (by omega) (by omega),Kpi (by omega)]
   by_cases h0:m + k=0
   ·rw [show ((m:Int) + (k:Int) == 0)=true by simp; omega,if_pos rfl,h0,Kr9]
    refine ⟨_,rfl,?_⟩
    have:l.length=ty.length - (i + 1):=by rw [← hd,List.length_drop]
    simp only
    omega
   ·rw [show ((m:Int) + (k:Int) == 0)=false by simp; omega,if_neg (by decide)]
    obtain ⟨q,hq⟩:∃ q,m + k=q + 1:=⟨m + k - 1,by omega⟩
    have:=ih (i + 1) q hd (by omega)
    rw [show (m:Int) + (k:Int)=((q + 1:Nat):Int) by omega]
    obtain ⟨x,h1,h2⟩:=this
    exact ⟨x,h1,by rw [h2,hq]; unfold Kre; rw [hd]⟩
theorem Krg (ty:List Int) (hty:ty.length ≤ 1099511627776) (i:Nat) (hi:i ≤ ty.length):Kc1 (ty,(i:Int))=some (Kre ty 1 i):=by
 unfold Kc1
 obtain ⟨x,h1,h2⟩:=Krf ty hty _ i 0 rfl (by omega)
 simp only
 rw [show (1:Int)=((0 + 1:Nat):Int) from rfl,h1,bs]
 rw [← h2]
 cases x <;> rfl
theorem Krh (ty:List Int) (i:Nat) (hi:i ≤ ty.length):Kre ty 2 i=(if Kre ty 1 i=-1 then -1 else Kre ty 1 (Kre ty 1 i).toNat):=by
 unfold Kre
 rw [show 2=1 + 1 from rfl,Krc]
 cases h:skip 1 (ty.drop i) with
 | none=>simp
 | some r =>
  obtain ⟨p,hp,hl⟩:=Krd _ _ _ h
  have hlen:ty.length - i=p.length + r.length:=by rw [← List.length_drop,hp,List.length_append]
  have:ty.drop (ty.length - r.length)=r:=by
   have e:ty.drop (ty.length - r.length)=(ty.drop i).drop p.length:=by rw [List.drop_drop]; congr 1; omega
   rw [e,hp,List.drop_left]
  simp only [Option.bind_some]
  rw [if_neg (by omega),Int.toNat_natCast,this]
theorem Kri (ty:List Int) (hty:ty.length ≤ 1099511627776):∀ (d i:Nat),ty.length - i=d→Khl (ty,(i:Int))=some (Kre ty 1 i):=by
 intro d
 induction d using Nat.strongRecOn with
 | ind d ih =>
  intro i hd
  rw [Khl.eq_def]
  simp only
  rw [decide_eq_false (by omega:¬ (i:Int) < 0)]
  simp only [Bool.false_eq_true,if_false,bs]
  by_cases hi:i < ty.length
  ·rw [decide_eq_false (by omega),if_neg (by decide),Kph hi,bs,Kr7,bs]
   have hdr:=List.drop_eq_getElem_cons hi
   have he:∀ k:Nat,Kr1 ty[i]=(k:Int)→Kre ty 1 i=Kre ty k (i + 1):=fun k hk=>by
    unfold Kre
    rw [hdr,show 1=0 + 1 from rfl,Krb,hk,if_neg (by omega),Int.toNat_natCast,Nat.zero_add]
   have hn:Kr1 ty[i]=-1→Kre ty 1 i=-1:=fun hk=>by
    unfold Kre
    rw [hdr,show 1=0 + 1 from rfl,Krb,if_pos hk]
   have i1:=ih (ty.length - (i + 1)) (by omega) (i + 1) rfl
   have hz:∀ i:Nat,i ≤ ty.length→Kre ty 0 i=(i:Int):=fun i hi=>by unfold Kre; rw [Kr9]; simp only [List.length_drop]; omega
   rw [Kpi (by omega)]
   have two:Kr1 ty[i]=2→((Khl (ty,((i + 1:Nat):Int))) >>= fun r_11_4=>(Khl (ty,r_11_4)) >>= fun r_11_5=>some r_11_5)=some (Kre ty 1 i):=fun hk=>by
    rw [i1,bs,he 2 hk,Krh ty (i + 1) (by omega)]
    by_cases h1:Kre ty 1 (i + 1)=-1
    ·rw [h1,if_pos rfl,Khl.eq_def]; rfl
    ·rw [if_neg h1]
     obtain ⟨e,hee,hlo⟩:∃ e:Nat,Kre ty 1 (i + 1)=(e:Int)∧i + 1 < e:=by
      unfold Kre at h1 ⊢
      cases hs:skip 1 (ty.drop (i + 1)) with
      | none=>rw [hs] at h1; exact absurd rfl h1
      | some r =>
       obtain ⟨p,hp,hl⟩:=Krd _ _ _ hs
       have hlen:ty.length - (i + 1)=p.length + r.length:=by rw [← List.length_drop,hp,List.length_append]
       exact ⟨_,rfl,by omega⟩
     rw [hee,Int.toNat_natCast,ih (ty.length - e) (by omega) e rfl,bs]
   rcases Kr8 ty[i] with ⟨h,e⟩ | ⟨h,e⟩ | ⟨h,e⟩ | ⟨h,e⟩ | ⟨h,e⟩ | ⟨h,e⟩ | ⟨h,e⟩ | ⟨h,e⟩ <;> rw [e] <;> simp only []
   ·have hk:Kr1 ty[i]=0:=by rcases Kr5 ty[i] with h | h | h | h <;> omega
    rw [if_pos (by rfl),he 0 hk,hz _ (by omega)]
   ·have hk:Kr1 ty[i]=2:=by rcases Kr5 ty[i] with h | h | h | h <;> omega
    exact two hk
   ·have hk:Kr1 ty[i]=2:=by rcases Kr5 ty[i] with h | h | h | h <;> omega
    exact two hk
   ·have hk:Kr1 ty[i]=2:=by rcases Kr5 ty[i] with h | h | h | h <;> omega
    exact two hk
   ·have hk:Kr1 ty[i]=2:=by rcases Kr5 ty[i] with h | h | h | h <;> omega
    exact two hk
   ·have hk:Kr1 ty[i]=1:=by rcases Kr5 ty[i] with h | h | h | h <;> omega
    rw [he 1 hk,if_neg (by decide),if_pos (by rfl),i1,bs]
   ·have hk:Kr1 ty[i]=1:=by rcases Kr5 ty[i] with h | h | h | h <;> omega
    rw [he 1 hk,if_neg (by decide),if_pos (by rfl),i1,bs]
   ·have hk:Kr1 ty[i]=-1:=by rcases Kr5 ty[i] with h | h | h | h <;> omega
    rw [hn hk]; rfl
  ·rw [decide_eq_true (by omega),if_pos rfl]
   unfold Kre
   rw [List.drop_eq_nil_of_le (by omega),Kra]
def wtB (ty:List Int):Bool:=decide (ty.length ≤ 40) && (skip 1 ty == some [])
theorem Krj (ty:List Int):(Kre ty 1 0 == (ty.length:Int))=(skip 1 ty == some []):=by
 unfold Kre
 rw [List.drop_zero]
 cases h:skip 1 ty with
 | none=>simp
 | some r =>
  obtain ⟨p,hp,hl⟩:=Krd _ _ _ h
  have hlen:ty.length=p.length + r.length:=by rw [hp,List.length_append]
  cases r with
  | nil=>simp
  | cons x xs =>
   simp only [List.length_cons] at hlen ⊢
   simp
   omega
theorem Krk (ty:List Int) (hty:ty.length ≤ 1099511627776):Kc4 ty=some (wtB ty):=by
 unfold Kc4 wtB
 by_cases h:ty.length ≤ 40
 ·rw [decide_eq_true (by omega:(ty.length:Int) ≤ 40),if_pos rfl,show (0:Int)=((0:Nat):Int) from rfl,Krg ty hty 0 (by omega),bs,Krj,decide_eq_true h]
  cases hs:skip 1 ty == some [] with
  | false=>rfl
  | true =>
   have:0 < ty.length:=by
    rcases ty with _ | ⟨c,l⟩
    ·rw [show skip 1 []=none from rfl] at hs; cases hs
    ·simp
   rw [if_pos rfl,decide_eq_true (by omega:(ty.length:Int) > ((0:Nat):Int))]; rfl
 ·rw [decide_eq_false (by omega:¬ (ty.length:Int) ≤ 40),decide_eq_false h]; rfl
theorem Krl (ty:List Int) (hty:ty.length ≤ 1099511627776):Kho ty=some (wtB ty):=by
 unfold Kho wtB
 rw [iIn,bs]
 by_cases h:ty.length ≤ 40
 ·rw [decide_eq_true h]
  by_cases h1:1 ≤ ty.length
  ·have:inB (ty.length:Int) 1 40=true:=by simp only [inB,Bool.and_eq_true,decide_eq_true_eq]; omega
   rw [this,if_pos rfl,show (0:Int)=((0:Nat):Int) from rfl,Kri ty hty _ 0 rfl,bs,Krj]; rfl
  ·have:inB (ty.length:Int) 1 40=false:=by rw [Bool.eq_false_iff]; intro h'; simp only [inB,Bool.and_eq_true,decide_eq_true_eq] at h'; omega
   have e:ty=[]:=List.length_eq_zero_iff.1 (by omega)
   rw [this,e]; rfl
 ·have:inB (ty.length:Int) 1 40=false:=by rw [Bool.eq_false_iff]; intro h'; simp only [inB,Bool.and_eq_true,decide_eq_true_eq] at h'; omega
  rw [this,decide_eq_false h]; rfl
def Krm (c:Int):Int:=if 35 ≤ c then -1 else if 19 ≤ c then c - 19 else c - 3
def Krn (size:Int) (closed:Bool) (c:Int):Bool:=!(decide (Kr1 c > 0) && decide (c > 2) && (decide (Krm c ≥ size) || closed && decide (Krm c < 0)))
theorem Kro {c:Int} (h:Kr1 c > 0):Kc7 c=some (Krm c):=by
 have:0 ≤ c∧c ≤ 36:=by rcases Kr5 c with h | h | h | h <;> omega
 unfold Kc7 Krm
 by_cases h1:35 ≤ c
 ·rw [decide_eq_true (by omega:c ≥ 35),if_pos rfl,if_pos h1]
 ·rw [decide_eq_false (by omega:¬ c ≥ 35),if_neg (by decide),if_neg h1]
  by_cases h2:19 ≤ c
  ·rw [decide_eq_true (by omega:c ≥ 19),if_pos rfl,if_pos h2,Kpg (by omega) (by omega)]
  ·rw [decide_eq_false (by omega:¬ c ≥ 19),if_neg (by decide),if_neg h2,Kpg (by omega) (by omega)]
theorem Krp (ty:List Int) (hty:ty.length ≤ 1099511627776) (size:Int) (cl:Bool):∀ (l:List Int) (i:Nat),ty.drop i=l→Kcc (ty,size,cl,(i:Int))=some (if l.all (Krn size cl) then .inl () else .inr false):=by
 intro l
 induction l with
 | nil =>
  intro i hl
  rw [Kcc.eq_def]
  simp only
  rw [Kpk (Kqy hl)]; rfl
 | cons c l ih =>
  intro i hl
  obtain ⟨hi,hx,hd⟩:=Kqx hl
  rw [Kcc.eq_def]
  simp only
  rw [Kpj hi,if_pos rfl,hx,bs,bs,Kr4,bs,Kpi (by omega)]
  have ih:=ih (i + 1) hd
  generalize ((i + 1:Nat):Int)=M at ih ⊢
  rw [List.all_cons]
  unfold Krn at ih ⊢
  by_cases hk:Kr1 c > 0
  ·simp only [bs,Kro hk]
   rw [decide_eq_true hk]
   generalize Krm c=g at ih ⊢
   cases decide (c > 2) <;> cases decide (g ≥ size) <;> cases cl <;> cases decide (g < 0) <;> simp [bs,ih]
  ·rw [decide_eq_false hk]; simp [bs,ih]
theorem Krq (ty:List Int) (hty:ty.length ≤ 1099511627776) (size:Int) (cl:Bool):Kcf (ty,size,cl)=some (ty.all (Krn size cl)):=by
 unfold Kcf
 simp only
 rw [show (0:Int)=((0:Nat):Int) from rfl,Krp ty hty size cl _ 0 rfl,List.drop_zero,bs]
 cases ty.all (Krn size cl) <;> rfl
theorem Krr {α β:Type} {a:Option α} {f:α→Option β} {x:α} (h:a=some x):(a >>= f)=f x:=by rw [h]; rfl
mutual
def tsz:K01→Nat
 | ⟨_,_,_,ks⟩=>1 + Krs ks
def Krs:List K01→Nat
 | []=>0
 | k :: ks=>tsz k + Krs ks
end
mutual
def tms:K01→Nat
 | ⟨_,_,ty,ks⟩=>ty.length + ks.length + Krt ks
def Krt:List K01→Nat
 | []=>0
 | k :: ks=>tms k + Krt ks
end
theorem Kru (t:K01):tms t=t.fType.length + t.fKids.length + Krt t.fKids:=by cases t; rw [tms]
theorem Krv (t:K01):tsz t=1 + Krs t.fKids:=by cases t; rw [tsz]
def Krw (left n:Nat):Int:=if n ≤ left then ((left - n:Nat):Int) else -1
theorem Krx {left n:Nat} (h:n ≤ left):Krw left n=((left - n:Nat):Int):=if_pos h
theorem Kry {left n:Nat} (h:¬ n ≤ left):Krw left n=-1:=if_neg h
theorem Krz (t:K01) (i:Int):Kcr (t,-1,i)=some (-1):=by
 rw [Kcr.eq_def]
 simp only
 cases decide (i < (t.fKids.length:Int)) <;> rfl
mutual
theorem Ks0:∀ (t:K01) (left:Nat),tms t ≤ 1099511627776→left ≤ 1048576→Kcq (t,(left:Int))=some (Krw left (tsz t))
 | ⟨op,N,ty,ks⟩,left,ht,hl=>by
  rw [tms] at ht
  rw [Kcq.eq_def,tsz]
  simp only
  rcases left with _ | l
  ·rw [show wr (((0:Nat):Int) - 1)=-1 from Kpg (by omega) (by omega),Krz,bs,Kry (by omega)]
  ·have h:=Ks1 ks ⟨op,N,ty,ks⟩ 0 l rfl (by simp only; omega) (by omega) (by omega)
   rw [Kpg (by omega) (by omega),show ((l + 1:Nat):Int) - 1=(l:Int) by omega,show (0:Int)=((0:Nat):Int) from rfl,h,bs]
   unfold Krw
   by_cases q:Krs ks ≤ l
   ·rw [if_pos q,if_pos (by omega),show l + 1 - (1 + Krs ks)=l - Krs ks by omega]
   ·rw [if_neg q,if_neg (by omega)]
theorem Ks1:∀ (ks:List K01) (t:K01) (i left:Nat),t.fKids.drop i=ks→t.fKids.length ≤ 1099511627776→Krt ks ≤ 1099511627776→left ≤ 1048576→Kcr (t,(left:Int),(i:Int))=some (Krw left (Krs ks))
 | [],t,i,left,hd,hk,ht,hl=>by
  rw [Kcr.eq_def,Krs]
  simp only
  rw [Kpk (Kqy hd)]
  simp [bs,Krw]
 | k :: ks,t,i,left,hd,hk,ht,hl=>by
  obtain ⟨hi,hx,hd'⟩:=Kqx hd
  rw [Krt] at ht
  rw [Kcr.eq_def,Krs]
  simp only
  rw [Kpj hi,if_pos rfl,bs,decide_eq_true (by omega:((left:Nat):Int) ≥ 0),if_pos rfl,hx,bs,Ks0 k left (by omega) hl,bs,Kpi (by omega)]
  by_cases q:tsz k ≤ left
  ·rw [Krx q,Ks1 ks t (i + 1) (left - tsz k) hd' hk (by omega) (by omega)]
   unfold Krw
   by_cases q2:Krs ks ≤ left - tsz k
   ·rw [if_pos q2,if_pos (by omega)]; congr 2; omega
   ·rw [if_neg q2,if_neg (by omega)]
  ·rw [Kry q,Krz,Kry (by omega)]
end
def Ks2 (op:Int):Int:=if inB op 0 12 then ([0,0,2,3,2,2,1,1,3,1,2,1,2]:List Int).getD op.toNat 0 else -1
def Ks3 (op:Int):Bool:=op == 5 || op == 8 || op == 9 || op == 11 || op == 12
def Ks4 (op:Int):Bool:=op == 6 || op == 7 || op == 9
def Ks5 (op:Int):ByteArray:=([ByteArray.mk #[120],ByteArray.empty,ByteArray.mk #[97,100,100],ByteArray.mk #[105,102],ByteArray.mk #[112,97,105,114],ByteArray.mk #[115,112,108,105,116],ByteArray.mk #[108,101,102,116],
 ByteArray.mk #[114,105,103,104,116],ByteArray.mk #[99,97,115,101],ByteArray.mk #[102,117,110],ByteArray.mk #[97,112,112],ByteArray.mk #[98,111,120],ByteArray.mk #[111,112,101,110]]:List ByteArray).getD op.toNat ByteArray.empty
theorem Ks6 {op:Int} (h:inB op 0 12=true):op=0∨op=1∨op=2∨op=3∨op=4∨op=5∨op=6∨op=7∨op=8∨op=9∨op=10∨op=11∨op=12:=by
 simp only [inB,Bool.and_eq_true,decide_eq_true_eq] at h
 omega
theorem Ks7 (op:Int):Kcx op=some (Ks2 op):=by
 unfold Kcx Ks2
 rw [sIn,bs]
 cases h:inB op 0 12
 ·rfl
 ·rcases Ks6 h with rfl | rfl | rfl | rfl | rfl | rfl | rfl | rfl | rfl | rfl | rfl | rfl | rfl <;> rfl
theorem Ks8 (op:Int):Kd0 op=some (Ks3 op):=by
 unfold Kd0 Ks3
 cases op == 5 <;> cases op == 8 <;> cases op == 9 <;> cases op == 11 <;> rfl
theorem Ks9 (op:Int):Kd3 op=some (Ks4 op):=by
 unfold Kd3 Ks4
 cases op == 6 <;> cases op == 7 <;> rfl
def Ksa (op:Int):K04 × Bool:=if inB op 0 12 then (K04.mk (Ks5 op) (Ks2 op) (Ks3 op) (Ks4 op),true) else (K04.mk ByteArray.empty 0 false false,false)
theorem Ksb (op:Int):Kie op=some (Ksa op):=by
 unfold Kie Ksa
 rw [iIn,bs]
 cases h:inB op 0 12
 ·rfl
 ·rcases Ks6 h with rfl | rfl | rfl | rfl | rfl | rfl | rfl | rfl | rfl | rfl | rfl | rfl | rfl <;> rfl
def Ksc (op kid:Int):Nat:=if op == 5 && kid == 1 then 2 else if (op == 8 && decide (kid > 0)) || op == 9 || (op == 12 && kid == 1) then 1 else 0
theorem Ksd (op kid:Int):Ksc op kid ≤ 2:=by unfold Ksc; split <;> (try split) <;> omega
theorem Kse (op kid:Int):Kdc (op,kid)=some ((Ksc op kid:Nat):Int):=by
 unfold Kdc Ksc
 simp only
 generalize (op == 5)=b1
 generalize (op == 8)=b2
 generalize (op == 9)=b3
 generalize (op == 12)=b4
 generalize (kid == 1)=b5
 generalize decide (kid > 0)=b6
 cases b1 <;> cases b2 <;> cases b3 <;> cases b4 <;> cases b5 <;> cases b6 <;> rfl
theorem Ksf (op kid:Int):Kik (op,kid)=some ((Ksc op kid:Nat):Int):=by
 unfold Kik Ksc
 simp only
 generalize (op == 5)=b1
 generalize (op == 8)=b2
 generalize (op == 9)=b3
 generalize (op == 12)=b4
 generalize (kid == 1)=b5
 generalize decide (kid > 0)=b6
 cases b1 <;> cases b2 <;> cases b3 <;> cases b4 <;> cases b5 <;> cases b6 <;> rfl
def Ksg (g:Int→Bool) (n:Int) (t:K01):Bool:=if t.fOp == 0 then inB t.fN 0 (n - 1) else if t.fOp == 1 then inB t.fN 0 2 else if Ks3 t.fOp then g t.fN else t.fN == 0
def Ksh (y:List Int→Bool) (t:K01):Bool:=if Ks4 t.fOp then y t.fType else (t.fType.length:Int) == 0
def Ksi (g:Int→Bool) (y:List Int→Bool) (n:Int) (t:K01):Bool:=inB t.fOp 0 12 && ((t.fKids.length:Int) == Ks2 t.fOp) && Ksg g n t && Ksh y t
mutual
def tOk (g:Int→Bool) (y:List Int→Bool):Nat→K01→Bool
 | n,⟨op,N,ty,ks⟩=>Ksi g y (n:Int) ⟨op,N,ty,ks⟩ && Ksj g y op n 0 ks
def Ksj (g:Int→Bool) (y:List Int→Bool):Int→Nat→Nat→List K01→Bool
 | _,_,_,[]=>true
 | op,n,i,k :: ks=>tOk g y (n + Ksc op (i:Int)) k && Ksj g y op n (i + 1) ks
end
theorem Ksk (g:Int→Bool) (y:List Int→Bool) (n:Nat) (t:K01):tOk g y n t=(Ksi g y (n:Int) t && Ksj g y t.fOp n 0 t.fKids):=by cases t; rw [tOk]
def gN (size:Int) (cl:Bool) (x:Int):Bool:=!(decide (x ≥ size) || decide (x < -1) || cl && decide (x < 0))
def yN (size:Int) (cl:Bool) (ty:List Int):Bool:=wtB ty && ty.all (Krn size cl)
theorem Ksl (t:K01) (n:Nat) (size:Int) (cl:Bool) (hty:t.fType.length ≤ 1099511627776) (hn:n ≤ 35184372088832):Kd9 (t,(n:Int),size,cl)=some (Ksi (gN size cl) (yN size cl) (n:Int) t):=by
 unfold Kd9 Ksi
 simp only
 rw [Ks7,bs]
 by_cases hk:(t.fKids.length:Int)=Ks2 t.fOp
 ·have hop:inB t.fOp 0 12=true:=by
   cases h:inB t.fOp 0 12
   ·unfold Ks2 at hk; rw [h] at hk; simp at hk
   ·rfl
  rw [show ((t.fKids.length:Int) != Ks2 t.fOp)=false by rw [hk]; exact Kpq,if_neg (by decide),show ((t.fKids.length:Int) == Ks2 t.fOp)=true by rw [hk]; simp,hop]
  refine (Krr (x:=if Ksg (gN size cl) (n:Int) t then .inl () else .inr false) ?_).trans ?_
  ·unfold Ksg gN
   rw [sIn,Kpg (by omega) (by omega),sIn,Ks8]
   simp only [bs]
   generalize inB t.fN 0 ((n:Int) - 1)=b1
   generalize inB t.fN 0 2=b2
   generalize Ks3 t.fOp=b3
   rw [show (t.fN != 0)=!(t.fN == 0) from rfl]
   generalize (t.fN == 0)=b4
   generalize decide (t.fN ≥ size)=b5
   generalize decide (t.fN < -1)=b6
   generalize decide (t.fN < 0)=b7
   generalize (t.fOp == 0)=b8
   generalize (t.fOp == 1)=b9
   cases b8
   ·cases b9
    ·cases b3
     ·cases b4 <;> rfl
     ·cases b5 <;> cases b6 <;> cases cl <;> cases b7 <;> rfl
    ·cases b2 <;> rfl
   ·cases b1 <;> rfl
  ·cases Ksg (gN size cl) (n:Int) t
   ·simp
   ·unfold Ksh yN
    simp only [if_true]
    rw [Ks9,bs]
    cases Ks4 t.fOp
    ·simp
    ·simp only [if_true]
     rw [Krk _ hty,Krq _ hty]
     cases wtB t.fType <;> simp [bs]
 ·rw [show ((t.fKids.length:Int) != Ks2 t.fOp)=true by simpa using hk,if_pos rfl,show ((t.fKids.length:Int) == Ks2 t.fOp)=false by simpa using hk]
  simp
mutual
theorem Ksm (size:Int) (cl:Bool):∀ (t:K01) (n:Nat),tms t ≤ 1099511627776→n + 2 * tms t ≤ 35184372088832→Kdg (t,(n:Int),size,cl)=some (tOk (gN size cl) (yN size cl) n t)
 | ⟨op,N,ty,ks⟩,n,ht,hn=>by
  rw [tms] at ht hn
  rw [Kdg.eq_def,tOk]
  simp only
  rw [Ksl _ n size cl (by simp only; omega) (by omega),bs]
  cases hb:Ksi (gN size cl) (yN size cl) (n:Int) ⟨op,N,ty,ks⟩
  ·rfl
  ·have h:=Ksn size cl ks ⟨op,N,ty,ks⟩ n 0 rfl (by simp only; omega) (by omega) (by omega)
   rw [if_pos rfl,show (0:Int)=((0:Nat):Int) from rfl,h,bs]
   simp only
   cases Ksj (gN size cl) (yN size cl) op n 0 ks <;> rfl
theorem Ksn (size:Int) (cl:Bool):∀ (ks:List K01) (t:K01) (n i:Nat),t.fKids.drop i=ks→t.fKids.length ≤ 1099511627776→Krt ks ≤ 1099511627776→n + 2 * (ks.length + Krt ks) ≤ 35184372088832 →
  Kdh (t,(n:Int),size,cl,(i:Int))=some (if Ksj (gN size cl) (yN size cl) t.fOp n i ks then .inl () else .inr false)
 | [],t,n,i,hd,hk,ht,hn=>by
  rw [Kdh.eq_def,Ksj]
  simp only
  rw [Kpk (Kqy hd)]; rfl
 | k :: ks,t,n,i,hd,hk,ht,hn=>by
  obtain ⟨hi,hx,hd'⟩:=Kqx hd
  rw [Krt] at ht hn
  rw [List.length_cons] at hn
  have ha:=Ksd t.fOp (i:Int)
  rw [Kdh.eq_def,Ksj]
  simp only
  rw [Kpj hi,if_pos rfl,hx,bs,Kse,bs,Kpg (by omega) (by omega),show (n:Int) + ((Ksc t.fOp (i:Int):Nat):Int)=((n + Ksc t.fOp (i:Int):Nat):Int) by omega]
  rw [Ksm size cl k (n + Ksc t.fOp (i:Int)) (by omega) (by omega),bs,Kpi (by omega)]
  cases tOk (gN size cl) (yN size cl) (n + Ksc t.fOp (i:Int)) k
  ·rfl
  ·rw [if_pos rfl,Ksn size cl ks t n (i + 1) hd' hk (by omega) (by omega),Bool.true_and]
end
def Kso (ok:Bool) (nodes sz:Nat):Int:=if ok && decide (nodes + sz ≤ 400) then ((nodes + sz:Nat):Int) else 401
def szB (left:Int) (n:Nat):Int:=if left - (n:Int) < 0 then -1 else left - (n:Int)
theorem Ksp (left:Int) (n:Nat):(szB left n=-1∧left < n)∨(szB left n=left - n∧(n:Int) ≤ left):=by
 unfold szB
 by_cases h:left - (n:Int) < 0
 ·rw [if_pos h]; left; omega
 ·rw [if_neg h]; right; omega
theorem Ksq (a:List Int) (left:Int) (h1:0 ≤ left) (h2:left ≤ 1048576) (ha:a.length ≤ 9223372036854775807):K8b (a,left)=some (szB left a.length):=by
 unfold K8b szB
 simp only
 rw [Kpg (by omega) (by omega)]
 by_cases h:left - (a.length:Int) < 0
 ·rw [decide_eq_true h,if_pos rfl,if_pos h]
 ·rw [decide_eq_false h,if_neg (by decide),if_neg h]
mutual
def tln:K01→Prop
 | ⟨_,N,ty,ks⟩=>ty.length ≤ 9223372036854775807∧ks.length ≤ 9223372036854775807∧Ksr ks∧(-9223372036854775808 ≤ N∧N ≤ 9223372036854775807)
def Ksr:List K01→Prop
 | []=>True
 | k :: ks=>tln k∧Ksr ks
end
mutual
theorem Kss:∀ (t:K01) (left:Int),tln t→0 ≤ left→left ≤ 1048576→K8s (t,left)=some (szB left (tms t))
 | ⟨op,N,ty,ks⟩,left,hl,h1,h2=>by
  rw [tln] at hl
  rw [K8s.eq_def,tms]
  simp only
  rw [Ksq ty left h1 h2 hl.1,bs]
  rcases Ksp left ty.length with ⟨e,h⟩ | ⟨e,h⟩
  ·rw [e,decide_eq_true (by decide),if_pos rfl]
   unfold szB; rw [if_pos (by omega)]
  ·rw [e,decide_eq_false (by omega),if_neg (by decide),K8t.eq_def]
   simp only
   rw [Kpg (by omega) (by omega)]
   by_cases h3:left - (ty.length:Int) - (ks.length:Int) < 0
   ·rw [decide_eq_true h3,if_pos rfl,bs,decide_eq_true (by decide),if_pos rfl]
    unfold szB; rw [if_pos (by omega)]
   ·obtain ⟨m,hm⟩:∃ m:Nat,left - (ty.length:Int) - (ks.length:Int)=(m:Int):=⟨(left - (ty.length:Int) - (ks.length:Int)).toNat,by omega⟩
    rw [decide_eq_false h3,if_neg (by decide),hm,show (0:Int)=((0:Nat):Int) from rfl,Kst ks ks 0 m rfl hl.2.1 hl.2.2.1 (by omega),bs]
    unfold szB
    by_cases q:m < Krt ks
    ·rw [if_pos q,if_pos (by omega)]; rfl
    ·rw [if_neg q,if_neg (by omega)]
     simp only [bs]
     rw [decide_eq_false (by omega),if_neg (by decide)]; congr 1; omega
theorem Kst:∀ (ks a:List K01) (i left:Nat),a.drop i=ks→a.length ≤ 9223372036854775807→Ksr ks→left ≤ 1048576→K8u (a,(left:Int),(i:Int))=some (if left < Krt ks then .inr (-1) else .inl ((left - Krt ks:Nat):Int))
 | [],a,i,left,hd,ha,hl,h=>by
  rw [K8u.eq_def,Krt]
  simp only
  rw [Kpk (Kqy hd)]
  simp
 | k :: ks,a,i,left,hd,ha,hl,h=>by
  obtain ⟨hi,hx,hd'⟩:=Kqx hd
  rw [Ksr] at hl
  rw [K8u.eq_def,Krt]
  simp only
  rw [Kpj hi,if_pos rfl,hx,bs,Kss k left hl.1 (by omega) (by omega),bs,Kpi (by omega)]
  rcases Ksp left (tms k) with ⟨e,q⟩ | ⟨e,q⟩
  ·rw [e,decide_eq_true (by decide),if_pos rfl,if_pos (by omega)]
  ·rw [e,decide_eq_false (by omega),if_neg (by decide),show (left:Int) - ((tms k:Nat):Int)=((left - tms k:Nat):Int) by omega,Kst ks a (i + 1) (left - tms k) hd' ha hl.2 (by omega)]
   by_cases q2:left - tms k < Krt ks
   ·rw [if_pos q2,if_pos (by omega)]
   ·rw [if_neg q2,if_neg (by omega)]; congr 3; omega
end
mutual
theorem Ksu:∀ (t:K01),tms t ≤ 1099511627776→K9r t=some t
 | ⟨op,N,ty,ks⟩,h=>by
  rw [tms] at h
  rw [K9r.eq_def]
  simp only
  rw [Kpn ty (by omega),bs,K9s.eq_def]
  have:chk (0 ≤ (ks.length:Int)∧(Int.toNat (ks.length:Int)) * 64 ≤ 140737488355328)=some ():=by
   unfold chk; rw [if_pos]; refine ⟨by omega,?_⟩; rw [Int.toNat_natCast]; omega
  rw [this,bs,Int.toNat_natCast,show (0:Int)=((0:Nat):Int) from rfl,Ksv ks ks (List.replicate ks.length (K01.mk ((0:Nat):Int) ((0:Nat):Int) [] [])) 0 rfl (by omega) (by omega) (by simp) rfl]
  rfl
theorem Ksv:∀ (ks a out:List K01) (i:Nat),a.drop i=ks→a.length ≤ 1099511627776→Krt ks ≤ 1099511627776→out.length=a.length→out.take i=a.take i→K9t (a,out,(i:Int))=some a
 | [],a,out,i,hd,ha,hl,ho,ht=>by
  rw [K9t.eq_def]
  simp only
  have hle:=Kqy hd
  rw [Kpk hle]
  rw [List.take_of_length_le (by omega),List.take_of_length_le (by omega)] at ht
  simp [ht]
 | k :: ks,a,out,i,hd,ha,hl,ho,ht=>by
  obtain ⟨hi,hx,hd'⟩:=Kqx hd
  have hk:a[i]=k:=by rw [Kph hi] at hx; exact Option.some.inj hx
  rw [Krt] at hl
  rw [K9t.eq_def]
  simp only
  rw [Kpj hi,if_pos rfl,hx,bs,Ksu k (by omega),bs,Kph (by omega),bs,Kpi (by omega),Int.toNat_natCast]
  exact Ksv ks a _ (i + 1) hd' ha (by omega) (by simpa using ho) (by rw [← hk]; exact Kpl ho hi ht)
end
mutual
theorem Ksw:∀ (t:K01),tms t ≤ 1099511627776→Kno (t,t)=some true
 | ⟨op,N,ty,ks⟩,h=>by
  rw [tms] at h
  rw [Kno.eq_def]
  simp only
  rw [Kpq,if_neg (by decide),Kpq,if_neg (by decide),Kps ty (by omega),bs,if_pos rfl,Knp.eq_def]
  simp only
  rw [Kpq,if_neg (by decide),show (0:Int)=((0:Nat):Int) from rfl,Ksx ks ks 0 rfl (by omega) (by omega)]
  rfl
theorem Ksx:∀ (ks a:List K01) (i:Nat),a.drop i=ks→a.length ≤ 1099511627776→Krt ks ≤ 1099511627776→Knq (a,a,(i:Int))=some (.inl ())
 | [],a,i,hd,ha,hl=>by
  rw [Knq.eq_def]
  simp only
  rw [Kpk (Kqy hd)]
  rfl
 | k :: ks,a,i,hd,ha,hl=>by
  obtain ⟨hi,hx,hd'⟩:=Kqx hd
  rw [Krt] at hl
  rw [Knq.eq_def]
  simp only
  rw [Kpj hi,if_pos rfl,hx,bs,bs,Ksw k (by omega),bs,if_pos rfl,Kpi (by omega)]
  exact Ksx ks a (i + 1) hd' ha (by omega)
end
theorem Ksy {ty:List Int} (h:wtB ty=true):ty.length ≤ 40:=by
 unfold wtB at h
 rw [Bool.and_eq_true,decide_eq_true_eq] at h
 exact h.1
theorem Ksz {g:Int→Bool} {y:List Int→Bool} {n:Nat} {t:K01} (h:tOk g y n t=true):Ksi g y (n:Int) t=true∧Ksj g y t.fOp n 0 t.fKids=true:=by
 rw [Ksk,Bool.and_eq_true] at h; exact h
theorem Kt0 {n b:Nat} (h:n * b ≤ 140737488355328):Qd6 n b=some ():=by unfold Qd6 chk; rw [if_pos h]
theorem Kt1 {g:Int→Bool} {y:List Int→Bool} {n:Int} {t:K01} (h:Ksi g y n t=true):inB t.fOp 0 12=true∧(t.fKids.length:Int)=Ks2 t.fOp:=by
 unfold Ksi at h
 simp only [Bool.and_eq_true,beq_iff_eq] at h
 exact ⟨h.1.1.1,h.1.1.2⟩
theorem Kt2 (l:List Int) (h:l.length ≤ 1099511627776):Kdw l=some l:=by
 unfold Kdw
 rw [Kt0 (by simp only [List.length_nil]; omega),bs]
theorem Kt3 (l:List Int) (h:l.length ≤ 1099511627776):Kjx l=some l:=by
 unfold Kjx
 rw [Kt0 (by simp only [List.length_nil]; omega),bs]
structure Kt4 (s:K00) (n:Nat):Prop where
 size:s.fSize=(n:Int)
 lo:2 ≤ n
 hi:n ≤ 16
 lp:s.fPlus.length=n * n
 lt:s.fTimes.length=n * n
 lb:s.fBelow.length=n * n
def Kt5 (s:K00) (n i:Nat):Bool:=inB (s.fPlus.getD i 0) 0 ((n:Int) - 1) && inB (s.fTimes.getD i 0) 0 ((n:Int) - 1)
section
variable {s:K00} {n:Nat} (h:Kt4 s n)
include h
theorem nn:n * n ≤ 256:=Nat.le_trans (Nat.mul_le_mul h.hi h.hi) (by decide)
theorem Kt6 {i:Nat} (hi:i < n * n):idx s.fPlus (i:Int)=some (s.fPlus.getD i 0):=by
 have hl:i < s.fPlus.length:=by rw [h.lp]; exact hi
 rw [Kph hl,List.getD_eq_getElem?_getD,List.getElem?_eq_getElem hl]; rfl
theorem Kt7 {i:Nat} (hi:i < n * n):idx s.fTimes (i:Int)=some (s.fTimes.getD i 0):=by
 have hl:i < s.fTimes.length:=by rw [h.lt]; exact hi
 rw [Kph hl,List.getD_eq_getElem?_getD,List.getElem?_eq_getElem hl]; rfl
theorem Kt8:wr (s.fSize - 1)=(n:Int) - 1:=by
 have:=h.lo; have:=h.hi
 rw [h.size,Kpg (by omega) (by omega)]
theorem Kt9:∀ (k i:Nat),i + k=n * n→Ka5 (s,(i:Int))=some (if (List.range' i k).all (Kt5 s n) then .inl () else .inr false):=by
 have hn:=nn h
 intro k
 induction k with
 | zero =>
  intro i hm
  rw [Ka5.eq_def]
  simp only
  rw [h.lp,Kpk (by omega)]
  rfl
 | succ k ih =>
  intro i hm
  rw [Ka5.eq_def]
  simp only
  rw [h.lp,Kpj (by omega),if_pos rfl,Kt6 h (by omega),Kt7 h (by omega),Kt8 h]
  have ih:=ih (i + 1) (by omega)
  rw [Kpi (by omega),List.range'_succ,List.all_cons]
  generalize ((i + 1:Nat):Int)=M at ih ⊢
  generalize (List.range' (i + 1) k).all (Kt5 s n)=r at ih ⊢
  simp only [bs,sIn]
  cases h1:inB (s.fPlus.getD i 0) 0 ((n:Int) - 1) <;> cases h2:inB (s.fTimes.getD i 0) 0 ((n:Int) - 1) <;> cases r <;> simp only [Kt5,h1,h2,ih,bs,Bool.not_true,Bool.not_false,Bool.true_and,Bool.false_and,Bool.and_true,Bool.and_false,if_true,if_false,Bool.false_eq_true]
theorem Kta:∀ (k i:Nat),i + k=n * n→Kh0 (s,(i:Int))=some (if (List.range' i k).all (Kt5 s n) then .inl () else .inr false):=by
 have hn:=nn h
 intro k
 induction k with
 | zero =>
  intro i hm
  rw [Kh0.eq_def]
  simp only
  rw [h.lp,Kpk (by omega)]
  rfl
 | succ k ih =>
  intro i hm
  rw [Kh0.eq_def]
  simp only
  rw [h.lp,Kpj (by omega),if_pos rfl,Kt6 h (by omega),Kt7 h (by omega)]
  have ih:=ih (i + 1) (by omega)
  rw [Kpi (by omega),List.range'_succ,List.all_cons]
  generalize ((i + 1:Nat):Int)=M at ih ⊢
  generalize (List.range' (i + 1) k).all (Kt5 s n)=r at ih ⊢
  have hh:∀ x,Kg3 (s,x)=some (inB x 0 ((n:Int) - 1)):=fun x=>by
   unfold Kg3
   simp only
   rw [Kt8 h,iIn,bs]
  simp only [bs,hh]
  cases h1:inB (s.fPlus.getD i 0) 0 ((n:Int) - 1) <;> cases h2:inB (s.fTimes.getD i 0) 0 ((n:Int) - 1) <;> cases r <;> simp only [Kt5,h1,h2,ih,bs,Bool.not_true,Bool.not_false,Bool.true_and,Bool.false_and,Bool.and_true,Bool.and_false,if_true,if_false,Bool.false_eq_true]
theorem Ktb (he:(List.range' 0 (n * n)).all (Kt5 s n)=true):Tab s n:=by
 rw [List.all_eq_true] at he
 have hent:∀ i,i < n * n→Kt5 s n i=true:=fun i hi=>he i (by rw [List.mem_range'_1]; omega)
 refine ⟨h.size,h.lo,h.hi,h.lp,h.lt,h.lb,fun i hi=>?_,fun i hi=>?_⟩
 ·have:=hent i (by rw [← h.lp]; exact hi)
  simp only [Kt5,inB,Bool.and_eq_true,decide_eq_true_eq,List.getD_eq_getElem?_getD,List.getElem?_eq_getElem hi,Option.getD_some] at this
  omega
 ·have:=hent i (by rw [← h.lt]; exact hi)
  simp only [Kt5,inB,Bool.and_eq_true,decide_eq_true_eq,List.getD_eq_getElem?_getD,List.getElem?_eq_getElem hi,Option.getD_some] at this
  omega
end
def Ktc (s:K00):Bool:=inB s.fSize 2 16 && !((s.fPlus.length:Int) != (wr (s.fSize * s.fSize))) && !((s.fTimes.length:Int) != (wr (s.fSize * s.fSize))) && !((s.fBelow.length:Int) != (wr (s.fSize * s.fSize)))
theorem Ktd {s:K00} (h:Ktc s=true):Kt4 s s.fSize.toNat:=by
 unfold Ktc at h
 simp only [Bool.and_eq_true,Bool.not_eq_true',inB,decide_eq_true_eq,bne_eq_false_iff_eq] at h
 obtain ⟨⟨⟨⟨h1,h2⟩,h3⟩,h4⟩,h5⟩:=h
 obtain ⟨n,hn⟩:∃ n:Nat,s.fSize=(n:Int):=⟨s.fSize.toNat,by omega⟩
 rw [hn] at h1 h2 h3 h4 h5 ⊢
 have h256:n * n ≤ 256:=Nat.le_trans (Nat.mul_le_mul (by omega:n ≤ 16) (by omega:n ≤ 16)) (by decide)
 have e:(n:Int) * (n:Int)=((n * n:Nat):Int):=by simp
 rw [e] at h3 h4 h5
 generalize hm:n * n=m at *
 rw [Kpg (by omega) (by omega)] at h3 h4 h5
 rw [Int.toNat_natCast]
 exact ⟨hn,by omega,by omega,by omega,by omega,by omega⟩
def Kte (s:K00):Bool:=Ktc s && (List.range' 0 (s.fSize.toNat * s.fSize.toNat)).all (Kt5 s s.fSize.toNat) && Kqq s s.fSize.toNat
theorem Ktf {s:K00} (h:Kte s=true):Tab s s.fSize.toNat:=by
 unfold Kte at h
 simp only [Bool.and_eq_true] at h
 exact Ktb (Ktd h.1.1) h.1.2
theorem Ktg (s:K00):Kbl s=some (Kte s):=by
 unfold Kbl Ka8 Kte
 rw [sIn]
 cases hf:Ktc s with
 | false =>
  unfold Ktc at hf
  cases h1:inB s.fSize 2 16 <;> cases h2:((s.fPlus.length:Int) != (wr (s.fSize * s.fSize))) <;> cases h3:((s.fTimes.length:Int) != (wr (s.fSize * s.fSize))) <;> cases h4:((s.fBelow.length:Int) != (wr (s.fSize * s.fSize))) <;> simp_all [bs]
 | true =>
  have F:=Ktd hf
  have hl:=Kt9 F (s.fSize.toNat * s.fSize.toNat) 0 (by omega)
  rw [show ((0:Nat):Int)=0 from rfl] at hl
  unfold Ktc at hf
  simp only [Bool.and_eq_true,Bool.not_eq_true'] at hf
  obtain ⟨⟨⟨h1,h2⟩,h3⟩,h4⟩:=hf
  cases he:(List.range' 0 (s.fSize.toNat * s.fSize.toNat)).all (Kt5 s s.fSize.toNat) with
  | false=>rw [he] at hl; simp [bs,h1,h2,h3,h4,hl]
  | true =>
   have T:=Ktb F he
   have hl2:=Kqv T s.fSize.toNat 0 (by omega)
   rw [show ((0:Nat):Int)=0 from rfl] at hl2
   rw [he] at hl
   have hm:(List.range' 0 s.fSize.toNat).all (fun a=>Kqa s s.fSize.toNat a && (List.range' 0 s.fSize.toNat).all fun b=>Kqn s s.fSize.toNat a b && (List.range' 0 s.fSize.toNat).all fun c=>Kqb s s.fSize.toNat a b c)=Kqq s s.fSize.toNat:=rfl
   rw [hm] at hl2
   cases hs:Kqq s s.fSize.toNat <;> rw [hs] at hl2 <;> simp [bs,h1,h2,h3,h4,hl,hl2]
theorem Kth (s:K00):Khf s=some (Kte s):=by
 unfold Khf Kte
 rw [iIn]
 cases hf:Ktc s with
 | false =>
  unfold Ktc at hf
  cases h1:inB s.fSize 2 16 <;> cases h2:((s.fPlus.length:Int) != (wr (s.fSize * s.fSize))) <;> cases h3:((s.fTimes.length:Int) != (wr (s.fSize * s.fSize))) <;> cases h4:((s.fBelow.length:Int) != (wr (s.fSize * s.fSize))) <;> simp_all [bs]
 | true =>
  have F:=Ktd hf
  have hl:=Kta F (s.fSize.toNat * s.fSize.toNat) 0 (by omega)
  rw [show ((0:Nat):Int)=0 from rfl] at hl
  unfold Ktc at hf
  simp only [Bool.and_eq_true,Bool.not_eq_true'] at hf
  obtain ⟨⟨⟨h1,h2⟩,h3⟩,h4⟩:=hf
  cases he:(List.range' 0 (s.fSize.toNat * s.fSize.toNat)).all (Kt5 s s.fSize.toNat) with
  | false=>rw [he] at hl; simp [bs,h1,h2,h3,h4,hl]
  | true =>
   have T:=Ktb F he
   have hl2:=Kqw T s.fSize.toNat 0 (by omega)
   rw [show ((0:Nat):Int)=0 from rfl] at hl2
   rw [he] at hl
   have hm:(List.range' 0 s.fSize.toNat).all (fun a=>Kqa s s.fSize.toNat a && (List.range' 0 s.fSize.toNat).all fun b=>Kqn s s.fSize.toNat a b && (List.range' 0 s.fSize.toNat).all fun c=>Kqb s s.fSize.toNat a b c)=Kqq s s.fSize.toNat:=rfl
   rw [hm] at hl2
   cases hs:Kqq s s.fSize.toNat <;> rw [hs] at hl2 <;> simp [bs,h1,h2,h3,h4,hl,hl2]
section
variable {s:K00} {n:Nat} (h:Tab s n)
include h
theorem Kti:wr (s.fSize - 1)=(n:Int) - 1:=by
 have:=h.lo; have:=h.hi
 rw [h.size,Kpg (by omega) (by omega)]
end
inductive Ty where
 | num
 | bin (c:Int) (a b:Ty)
 | un (c:Int) (a:Ty)
namespace Ty
def code:Ty→List Int
 | num=>[0]
 | bin c a b=>c :: (a.code ++ b.code)
 | un c a=>c :: a.code
def ok:Ty→Prop
 | num=>True
 | bin c a b=>Kr1 c=2∧a.ok∧b.ok
 | un c a=>Kr1 c=1∧a.ok
def kids:Ty→List Ty
 | num=>[]
 | bin _ a b=>[a,b]
 | un _ a=>[a]
def hd:Ty→Int
 | num=>0
 | bin c _ _=>c
 | un c _=>c
end Ty
def Ktj:List Ty→List Int
 | []=>[]
 | t :: l=>t.code ++ Ktj l
theorem Ktk (T:Ty):T.code=T.hd :: Ktj T.kids:=by cases T <;> simp [Ty.code,Ty.hd,Ty.kids,Ktj]
theorem Ktl (T:Ty):1 ≤ T.code.length:=by rw [Ktk]; simp
theorem Ktm (T:Ty):∀ (m:Nat) (l:List Int),T.ok→skip (m + 1) (T.code ++ l)=skip m l:=by
 induction T with
 | num =>
  intro m l _
  rw [Ty.code,List.singleton_append,Krb,show Kr1 0=0 from rfl,if_neg (by decide)]; rfl
 | bin c a b iha ihb =>
  intro m l h
  rw [Ty.code,List.cons_append,Krb,h.1,if_neg (by decide),List.append_assoc,show m + (2:Int).toNat=(m + 1) + 1 from rfl,iha _ _ h.2.1,ihb _ _ h.2.2]
 | un c a ih =>
  intro m l h
  rw [Ty.code,List.cons_append,Krb,h.1,if_neg (by decide),show m + (1:Int).toNat=m + 1 from rfl,ih _ _ h.2]
theorem Ktn (l:List Int):∀ (m:Nat) (r:List Int),skip m l=some r→∃ Ts:List Ty,Ts.length=m∧(∀ T ∈ Ts,T.ok)∧l=Ktj Ts ++ r:=by
 induction l with
 | nil =>
  intro m r h
  cases m with
  | zero=>rw [Kr9] at h; cases h; exact ⟨[],rfl,fun _ h=>(by cases h),rfl⟩
  | succ m=>rw [Kra] at h; cases h
 | cons c l ih =>
  intro m r h
  cases m with
  | zero=>rw [Kr9] at h; cases h; exact ⟨[],rfl,fun _ h=>(by cases h),rfl⟩
  | succ m =>
   rw [Krb] at h
   by_cases hk:Kr1 c=-1
   ·rw [if_pos hk] at h; cases h
   ·rw [if_neg hk] at h
    obtain ⟨Ts,h1,h2,h3⟩:=ih _ _ h
    rcases Kr5 c with ⟨q,e⟩ | ⟨q,e⟩ | ⟨q,e⟩ | ⟨q,e⟩
    ·subst q
     rw [e] at h1
     exact ⟨.num :: Ts,by simpa using h1,fun T hT=>by rcases List.mem_cons.1 hT with rfl | hT; exact trivial; exact h2 T hT,by rw [h3]; rfl⟩
    ·rw [e] at h1
     match Ts,h1 with
     | a :: b :: Ts,h1 =>
      refine ⟨.bin c a b :: Ts,by simpa using h1,fun T hT=>?_,by rw [h3]; simp [Ktj,Ty.code]⟩
      rcases List.mem_cons.1 hT with rfl | hT
      ·exact ⟨e,h2 a List.mem_cons_self,h2 b (List.mem_cons_of_mem _ List.mem_cons_self)⟩
      ·exact h2 T (List.mem_cons_of_mem _ (List.mem_cons_of_mem _ hT))
     | [_],h1=>exact absurd h1 (by simp)
     | [],h1=>exact absurd h1 (by simp)
    ·rw [e] at h1
     match Ts,h1 with
     | a :: Ts,h1 =>
      refine ⟨.un c a :: Ts,by simpa using h1,fun T hT=>?_,by rw [h3]; simp [Ktj,Ty.code]⟩
      rcases List.mem_cons.1 hT with rfl | hT
      ·exact ⟨e,h2 a List.mem_cons_self⟩
      ·exact h2 T (List.mem_cons_of_mem _ hT)
     | [],h1=>exact absurd h1 (by simp)
    ·exact absurd e hk
theorem Kto {ty:List Int} (h:wtB ty=true):∃ T:Ty,T.ok∧ty=T.code∧ty.length ≤ 40:=by
 have hl:=Ksy h
 unfold wtB at h
 rw [Bool.and_eq_true,beq_iff_eq] at h
 obtain ⟨Ts,h1,h2,h3⟩:=Ktn _ _ _ h.2
 match Ts,h1 with
 | [T],_=>exact ⟨T,h2 T List.mem_cons_self,by rw [h3]; simp [Ktj],hl⟩
theorem Ktp {T:Ty} (h:T.ok) (hl:T.code.length ≤ 40):wtB T.code=true:=by
 unfold wtB
 have:=Ktm T 0 [] h
 rw [List.append_nil,Kr9] at this
 rw [decide_eq_true hl,show (1:Nat)=0 + 1 from rfl,this]; rfl
theorem Ktq {T:Ty} (h:T.ok):∀ K ∈ T.kids,K.ok:=by
 intro K hK
 cases T with
 | num=>cases hK
 | bin c a b=>rcases List.mem_cons.1 hK with rfl | hK; exact h.2.1; rw [List.mem_singleton.1 hK]; exact h.2.2
 | un c a=>rw [List.mem_singleton.1 hK]; exact h.2
theorem Ktr {pre:List Int} {T:Ty} {post:List Int} (h:T.ok):Kre (pre ++ (T.code ++ post)) 1 pre.length=((pre.length + T.code.length:Nat):Int):=by
 unfold Kre
 rw [List.drop_left,show (1:Nat)=0 + 1 from rfl,Ktm T 0 post h,Kr9]
 simp only [List.length_append]
 omega
theorem Kts {α:Type} (p m q:List α) (mx:Option Int) (hmx:mx=none∨mx=some ((p.length + m.length:Nat):Int)):cut (p ++ (m ++ q)) (some (p.length:Int)) (some ((p.length + m.length:Nat):Int)) mx=some m:=by
 unfold cut
 have e:((p ++ (m ++ q)).take (p.length + m.length)).drop p.length=m:=by
  rw [← List.append_assoc,← List.length_append,List.take_left,List.drop_left]
 rw [if_pos]
 ·simp only [Option.getD_some,Int.toNat_natCast,e]
 ·rcases hmx with rfl | rfl <;> simp only [Option.getD_some,Option.getD_none,List.length_append] <;> omega
theorem Ktt {α:Type} (p q:List α):cut (p ++ q) (some (p.length:Int)) none none=some q:=by
 unfold cut
 rw [if_pos]
 ·simp only [Option.getD_some,Option.getD_none,Int.toNat_natCast,List.take_length,List.drop_left]
 ·simp only [Option.getD_some,Option.getD_none,List.length_append]; omega
theorem Ktu (Ks:List Ty):∀ (pre:List Int) (out:List (List Int)),(∀ K ∈ Ks,K.ok)→(pre ++ Ktj Ks).length ≤ 1099511627776→out.length + Ks.length ≤ 1099511627776→Kiz (pre ++ Ktj Ks,out,(pre.length:Int))=some (out ++ Ks.map Ty.code):=by
 induction Ks with
 | nil =>
  intro pre out hk hl ho
  rw [show Ktj []=[] from rfl,List.append_nil,Kiz.eq_def]
  simp only
  rw [Kpk (Nat.le_refl _)]; simp
 | cons K Ks ih =>
  intro pre out hk hl ho
  have hK:=hk K List.mem_cons_self
  have hp:=Ktl K
  rw [show Ktj (K :: Ks)=K.code ++ Ktj Ks from rfl] at hl ⊢
  rw [List.length_cons] at ho
  rw [Kiz.eq_def]
  simp only
  rw [Kpj (by simp only [List.length_append]; omega),if_pos rfl,Kri _ hl _ pre.length rfl,Ktr hK,bs,Kts _ _ _ _ (.inr rfl),bs,Kt0 (by simp only [List.length_singleton]; omega),bs]
  have:=ih (pre ++ K.code) (out ++ [K.code]) (fun K hK=>hk K (List.mem_cons_of_mem _ hK)) (by rw [List.append_assoc]; exact hl) (by simp; omega)
  rw [List.append_assoc,List.length_append] at this
  rw [this,List.map_cons,List.append_assoc]; rfl
theorem Ktv {T:Ty} (h:T.ok) (hl:T.code.length ≤ 1048576):Kj2 T.code=some (T.kids.map Ty.code):=by
 unfold Kj2
 have hk:T.kids.length ≤ 2:=by cases T <;> simp [Ty.kids]
 have e:[T.hd] ++ Ktj T.kids=T.code:=(Ktk T).symm
 have:=Ktu T.kids [T.hd] [] (Ktq h) (by rw [e]; omega) (by simp only [List.length_nil]; omega)
 rw [e] at this
 rw [show (1:Int)=(([T.hd].length:Nat):Int) from rfl,this,bs]; rfl
theorem Ktw {c:Int} {a:Ty} {r:List Int} (ha:a.ok) (hl:(c :: (a.code ++ r)).length ≤ 1099511627776):Kem (c :: (a.code ++ r),0)=some a.code:=by
 unfold Kem
 simp only
 have e:=Ktr (pre:=[c]) (post:=r) ha
 have h1:=Krg (c :: (a.code ++ r)) hl 1 (by simp)
 rw [show (((1:Nat)):Int)=1 from rfl] at h1
 rw [List.length_singleton] at e
 have e':Kre (c :: (a.code ++ r)) 1 1=((1 + a.code.length:Nat):Int):=e
 rw [h1,bs,e',if_pos (by rfl)]
 have h2:=Kts [c] a.code r none (.inl rfl)
 rw [List.length_singleton] at h2
 have h2':cut (c :: (a.code ++ r)) (some 1) (some ((1 + a.code.length:Nat):Int)) none=some a.code:=h2
 simp only [List.length_cons,List.length_append] at hl
 rw [h2',bs,Kt2 _ (by omega),bs]
theorem Ktx {c:Int} {a:Ty} {r:List Int} (ha:a.ok) (hl:(c :: (a.code ++ r)).length ≤ 1099511627776):Kem (c :: (a.code ++ r),1)=some r:=by
 unfold Kem
 simp only
 have e:=Ktr (pre:=[c]) (post:=r) ha
 have h1:=Krg (c :: (a.code ++ r)) hl 1 (by simp)
 rw [show (((1:Nat)):Int)=1 from rfl] at h1
 rw [List.length_singleton] at e
 have e':Kre (c :: (a.code ++ r)) 1 1=((1 + a.code.length:Nat):Int):=e
 rw [h1,bs,e',if_neg (by decide)]
 have h2:=Ktt (c :: a.code) r
 rw [List.length_cons,List.cons_append,Nat.add_comm] at h2
 simp only [List.length_cons,List.length_append] at hl
 rw [h2,bs,Kt2 _ (by omega),bs]
def Kty (s:K00) (g:Int):Bool:=inB g 0 (wr (s.fSize - 1))
theorem Ktz (s:K00) (g:Int):Kg3 (s,g)=some (Kty s g):=by
 unfold Kg3 Kty
 simp only
 rw [iIn,bs]
def Ku0 (s:K00) (c:Int):Bool:=!(((Kr6 c).1 == 3 || (Kr6 c).1 == 4) && !Kty s (Kr6 c).2)
def Ku1 (s:K00) (ty:List Int):Bool:=wtB ty && ty.all (Ku0 s)
theorem Ku2 (s:K00) (ty:List Int) (hty:ty.length ≤ 1099511627776):∀ (l:List Int) (i:Nat),ty.drop i=l→Khs (s,ty,(i:Int))=some (if l.all (Ku0 s) then .inl () else .inr false):=by
 intro l
 induction l with
 | nil =>
  intro i hd
  rw [Khs.eq_def]
  simp only
  rw [Kpk (Kqy hd)]; rfl
 | cons c l ih =>
  intro i hd
  obtain ⟨hi,hx,hd'⟩:=Kqx hd
  rw [Khs.eq_def]
  simp only
  rw [Kpj hi,if_pos rfl,hx,bs,Kr7,bs,Kpi (by omega),ih (i + 1) hd',List.all_cons]
  unfold Ku0
  rcases Kr6 c with ⟨a,b⟩
  simp only [Ktz,bs]
  cases a == 3 <;> cases a == 4 <;> cases Kty s b <;> simp [bs]
theorem Ku3 (s:K00) (ty:List Int) (hty:ty.length ≤ 1099511627776):Khv (s,ty)=some (Ku1 s ty):=by
 unfold Khv Ku1
 simp only
 rw [Krl ty hty,bs]
 cases wtB ty
 ·rfl
 ·rw [if_pos rfl,show (0:Int)=((0:Nat):Int) from rfl,Ku2 s ty hty _ 0 rfl,List.drop_zero,bs]
  cases ty.all (Ku0 s) <;> rfl
theorem Ku4 {s:K00} {n:Nat} (h:Tab s n) (g:Int):Kty s g=inB g 0 ((n:Int) - 1):=by
 unfold Kty; rw [Kti h]
theorem Ku5 {s:K00} {n:Nat} (h:Tab s n) {c:Int}:Ku0 s c=Krn s.fSize true c:=by
 unfold Ku0 Krn Krm
 have hn:=h.lo
 rw [Ku4 h,h.size]
 rcases Kr8 c with ⟨q,e⟩ | ⟨q,e⟩ | ⟨q,e⟩ | ⟨q,e⟩ | ⟨q,e⟩ | ⟨q,e⟩ | ⟨q,e⟩ | ⟨q,e⟩ <;> rw [e]
 ·subst q; rfl
 ·subst q; rfl
 ·subst q; rfl
 ·have hk:Kr1 c=2:=by rcases Kr5 c with h | h | h | h <;> omega
  rw [hk,if_neg (by omega),if_neg (by omega),decide_eq_true (by omega:c > 2)]
  unfold inB
  rw [decide_eq_true (by omega:c - 3 ≥ 0),decide_eq_false (by omega:¬ c - 3 < 0)]
  by_cases hc:c - 3 ≤ (n:Int) - 1
  ·rw [decide_eq_true hc,decide_eq_false (by omega:¬ c - 3 ≥ (n:Int))]; rfl
  ·rw [decide_eq_false hc,decide_eq_true (by omega:c - 3 ≥ (n:Int))]; rfl
 ·subst q; unfold inB; simp [Kr1,Kqz,Kr0,inB]
 ·have hk:Kr1 c=1:=by rcases Kr5 c with h | h | h | h <;> omega
  rw [hk,if_neg (by omega),if_pos (by omega),decide_eq_true (by omega:c > 2)]
  unfold inB
  rw [decide_eq_true (by omega:c - 19 ≥ 0),decide_eq_false (by omega:¬ c - 19 < 0)]
  by_cases hc:c - 19 ≤ (n:Int) - 1
  ·rw [decide_eq_true hc,decide_eq_false (by omega:¬ c - 19 ≥ (n:Int))]; rfl
  ·rw [decide_eq_false hc,decide_eq_true (by omega:c - 19 ≥ (n:Int))]; rfl
 ·subst q; unfold inB; simp [Kr1,Kqz,Kr0,inB]
 ·have hk:Kr1 c=-1:=by rcases Kr5 c with h | h | h | h <;> omega
  rw [hk]; simp
theorem Ku6 {s:K00} {n:Nat} (h:Tab s n) (ty:List Int):Ku1 s ty=yN s.fSize true ty:=by
 unfold Ku1 yN
 rw [show Ku0 s=Krn s.fSize true from funext fun c=>Ku5 h]
theorem Ku7 {α:Type} (x:α) (l:List α):idx (x :: l) 0=some x:=rfl
theorem Ku8 {a b:Nat} (ha:a ≤ 1099511627776) (hb:b ≤ 1099511627776):wr ((a:Int) + (b:Int))=((a + b:Nat):Int):=by rw [Kpg (by omega) (by omega)]; omega
theorem Ku9 (a:List Bool) (left:Int) (h1:0 ≤ left) (h2:left ≤ 1048576) (ha:a.length ≤ 9223372036854775807):K8e (a,left)=some (szB left a.length):=by
 unfold K8e szB
 simp only
 rw [Kpg (by omega) (by omega)]
 by_cases h:left - (a.length:Int) < 0
 ·rw [decide_eq_true h,if_pos rfl,if_pos h]
 ·rw [decide_eq_false h,if_neg (by decide),if_neg h]
def sln (s:K00):Prop:=s.fPlus.length ≤ 9223372036854775807∧s.fTimes.length ≤ 9223372036854775807∧s.fBelow.length ≤ 9223372036854775807
def sms (s:K00):Nat:=s.fPlus.length + s.fTimes.length + s.fBelow.length
theorem Kua (s:K00) (left:Int) (hs:sln s) (h1:0 ≤ left) (h2:left ≤ 1048576):K8h (s,left)=some (szB left (sms s)):=by
 obtain ⟨l1,l2,l3⟩:=hs
 unfold K8h sms
 simp only
 rw [Ksq _ _ h1 h2 l1,bs]
 rcases Ksp left s.fPlus.length with ⟨e,hl⟩ | ⟨e,hl⟩
 ·rw [e,decide_eq_true (by decide),if_pos rfl]; unfold szB; rw [if_pos (by omega)]
 ·rw [e,decide_eq_false (by omega),if_neg (by decide),Ksq _ _ (by omega) (by omega) l2,bs]
  rcases Ksp (left - (s.fPlus.length:Int)) s.fTimes.length with ⟨e2,hl2⟩ | ⟨e2,hl2⟩
  ·rw [e2,decide_eq_true (by decide),if_pos rfl]; unfold szB; rw [if_pos (by omega)]
  ·rw [e2,decide_eq_false (by omega),if_neg (by decide),Ku9 _ _ (by omega) (by omega) l3,bs]
   rcases Ksp (left - (s.fPlus.length:Int) - (s.fTimes.length:Int)) s.fBelow.length with ⟨e3,hl3⟩ | ⟨e3,hl3⟩
   ·rw [e3,decide_eq_true (by decide),if_pos rfl]; unfold szB; rw [if_pos (by omega)]
   ·rw [e3,decide_eq_false (by omega),if_neg (by decide)]; unfold szB; rw [if_neg (by omega)]; congr 1; omega
theorem Kub {s:K00} (h:sms s ≤ 1048576):K9g s=some s:=by unfold sms at h; exact Kpv s (by omega) (by omega) (by omega)
theorem Kuc {s:K00} (h:sms s ≤ 1048576):Knk (s,s)=some true:=by unfold sms at h; exact Kpw s (by omega) (by omega) (by omega)
theorem Kud {l:List K01} {t:K01} (h:t ∈ l):tsz t ≤ Krs l:=by
 induction l with
 | nil=>cases h
 | cons x l ih =>
  rw [Krs]
  rcases List.mem_cons.1 h with rfl | h
  ·omega
  ·have:=ih h; omega
theorem Kue {t k:K01} (h:k ∈ t.fKids):tsz k + 1 ≤ tsz t:=by
 rw [Krv t]
 have:=Kud h
 omega
theorem Kuf:∀ (l a:List Int) (i k:Nat),a.drop i=l→a.length ≤ 1099511627776→k + l.length ≤ 1152921504606846976 + 1099511627776 →
  ∃ M,Knz (a,(k:Int),(i:Int))=some (((k + l.length:Nat):Int),M)∧M.length=a.length∧M.take i=a.take i∧M.drop i=(List.range' k l.length).map (fun n:Nat=>(n:Int)):=by
 intro l
 induction l with
 | nil =>
  intro a i k hd ha hk
  rw [Knz.eq_def]
  simp only
  rw [Kpk (Kqy hd)]
  exact ⟨a,by simp,rfl,rfl,by rw [hd]; rfl⟩
 | cons x l ih =>
  intro a i k hd ha hk
  obtain ⟨hi,hx,hd'⟩:=Kqx hd
  have hl:(x :: l).length ≤ 1099511627776:=by rw [← hd,List.length_drop]; omega
  rw [List.length_cons] at hl hk
  rw [Knz.eq_def]
  simp only
  rw [Kpj hi,if_pos rfl,hx,bs,Int.toNat_natCast,Kpi (by omega),Kpi (by omega)]
  obtain ⟨M,h1,h2,h3,h4⟩:=ih (a.set i (k:Int)) (i + 1) (k + 1) (by rw [List.drop_set_of_lt (by omega)]; exact hd') (by simpa using ha) (by omega)
  have hMl:i < M.length:=by rw [h2,List.length_set]; exact hi
  have hMi:M[i]=(k:Int):=by
   have:=congrArg (fun l=>l[i]?) h3
   simp only [List.getElem?_take] at this
   rw [if_pos (by omega),if_pos (by omega),List.getElem?_eq_getElem hMl,List.getElem?_set_self hi] at this
   exact Option.some.inj this
  refine ⟨M,by rw [h1,List.length_cons]; congr 3; omega,by simpa using h2,?_,?_⟩
  ·have:=congrArg (List.take i) h3
   rw [List.take_take,List.take_take,Nat.min_eq_left (by omega),List.take_set_of_le (Nat.le_refl i)] at this
   exact this
  ·rw [List.drop_eq_getElem_cons hMl,h4,hMi,List.length_cons,List.range'_succ,List.map_cons]
theorem Kug (a:List Int) (k:Nat) (ha:a.length ≤ 1099511627776) (hk:k ≤ 1152921504606846976) :
  Ko2 (a,(k:Int))=some (((k + a.length:Nat):Int),(List.range' k a.length).map (fun n:Nat=>(n:Int))):=by
 unfold Ko2
 simp only
 obtain ⟨M,h1,h2,h3,h4⟩:=Kuf a a 0 k rfl ha (by omega)
 rw [List.drop_zero] at h4
 rw [show (0:Int)=((0:Nat):Int) from rfl,h1,bs,h4]
theorem Kuh (m:Nat):∀ (n k i:Nat) (a:List Int),a.length ≤ 1099511627776→a.drop i=(List.range' k n).map (fun n:Nat=>(n:Int))→k + n ≤ 1152921504606846976 + 1099511627776→Koy (a,(k:Int),(i:Int))=some (.inl ((k + n:Nat):Int)):=by
 intro n
 induction n with
 | zero =>
  intro k i a ha hd hk
  rw [Koy.eq_def]
  simp only
  rw [Kpk (Kqy hd)]; rfl
 | succ n ih =>
  intro k i a ha hd hk
  rw [List.range'_succ,List.map_cons] at hd
  obtain ⟨hi,hx,hd'⟩:=Kqx hd
  rw [Koy.eq_def]
  simp only
  rw [Kpj hi,if_pos rfl,hx,bs,Kpq,if_neg (by decide),Kpi (by omega),Kpi (by omega),ih (k + 1) (i + 1) a ha hd' (by omega)]
  congr 3; omega
theorem Kui (n k:Nat) (hn:n ≤ 1099511627776) (hk:k ≤ 1152921504606846976):Kp1 ((List.range' k n).map (fun n:Nat=>(n:Int)),(k:Int))=some ((k + n:Nat):Int):=by
 unfold Kp1
 simp only
 rw [show (0:Int)=((0:Nat):Int) from rfl,Kuh 0 n k 0 _ (by simpa using hn) (by rw [List.drop_zero]) (by omega),bs]
mutual
def mct:K01→Nat
 | ⟨_,_,ty,ks⟩=>ty.length + Kuj ks
def Kuj:List K01→Nat
 | []=>0
 | k :: ks=>2 + mct k + Kuj ks
end
mutual
theorem Kuk:∀ (t:K01),mct t ≤ 2 * tms t
 | ⟨op,N,ty,ks⟩=>by rw [mct,tms]; have:=Kul ks; omega
theorem Kul:∀ (ks:List K01),Kuj ks ≤ 2 * (ks.length + Krt ks)
 | []=>by simp [Kuj]
 | k :: ks=>by rw [Kuj,Krt,List.length_cons]; have:=Kuk k; have:=Kul ks; omega
end
theorem Kum {α:Type} (l:List α) (i:Nat) (a b:α):(l.set i a).set i b=l.set i b:=List.set_set ..
theorem Kun {α:Type} {l:List α} {i:Nat} (h:i < l.length) (a:α):idx (l.set i a) (i:Int)=some a:=by
 rw [Kph (by simpa using h)]; simp
mutual
theorem Kuo:∀ (t:K01) (k:Nat),tms t ≤ 1099511627776→k + mct t ≤ 1152921504606846976→∃ ks,Kon (t.fKids,((k + t.fType.length:Nat):Int))=some (((k + mct t:Nat):Int),ks)
 | ⟨op,N,ty,ks⟩,k,hm,hk=>by
  rw [tms] at hm
  rw [mct] at hk ⊢
  simp only
  obtain ⟨M,h1⟩:=Kup ks ks 0 (k + ty.length) rfl (by omega) (by omega) (by omega)
  refine ⟨M,?_⟩
  rw [Kon.eq_def]
  simp only
  rw [show (0:Int)=((0:Nat):Int) from rfl,h1,bs,Nat.add_assoc]
theorem Kup:∀ (ks a:List K01) (i k:Nat),a.drop i=ks→a.length ≤ 1099511627776→Krt ks ≤ 1099511627776→k + Kuj ks ≤ 1152921504606846976 →
  ∃ M,Koo (a,(k:Int),(i:Int))=some (((k + Kuj ks:Nat):Int),M)
 | [],a,i,k,hd,ha,hm,hk=>by
  rw [Koo.eq_def,Kuj]
  simp only
  rw [Kpk (Kqy hd)]
  exact ⟨a,rfl⟩
 | x :: ks,a,i,k,hd,ha,hm,hk=>by
  obtain ⟨hi,hx,hd'⟩:=Kqx hd
  rw [Krt] at hm
  rw [Kuj] at hk ⊢
  rw [Koo.eq_def]
  simp only
  rw [Kpj hi,if_pos rfl,hx,bs,Kpi (n:=k) (by omega),Kpi (n:=k + 1) (by omega),Int.toNat_natCast]
  obtain ⟨kk,m2⟩:=Kuo x (k + 1 + 1) (by omega) (by omega)
  have m1:=Kug x.fType (k + 1 + 1) (by have:=Kru x; omega) (by omega)
  simp only [Kum,Kun hi,bs,m1,m2]
  rw [Kpi (by omega)]
  obtain ⟨M,h1⟩:=Kup ks (a.set i ⟨(k:Int),((k + 1:Nat):Int),(List.range' (k + 1 + 1) x.fType.length).map (fun n:Nat=>(n:Int)),kk⟩) (i + 1) (k + 1 + 1 + mct x) (by rw [List.drop_set_of_lt (by omega)]; exact hd') (by simpa using ha) (by omega) (by omega)
  exact ⟨M,by rw [h1]; congr 3; omega⟩
end
theorem Kuq (t:K01) (k:Nat) (hm:tms t ≤ 1099511627776) (hk:k ≤ 1000000000000000000):∃ M,Kou (t,(k:Int))=some (((k + mct t:Nat):Int),M):=by
 have hc:=Kuk t
 obtain ⟨ks,m2⟩:=Kuo t k hm (by omega)
 unfold Kou
 simp only
 rw [Kug t.fType k (by have:=Kru t; omega) (by omega),bs]
 simp only
 rw [m2,bs]
 exact ⟨_,rfl⟩
theorem Kur (b:Bool):(!(b == b))=false:=by cases b <;> rfl
def lct:List (List Int)→Nat
 | []=>0
 | x :: l=>x.length + lct l
def lok (l:List (List Int)):Prop:=l.length ≤ 1099511627776∧lct l ≤ 1099511627776
theorem Kus {l:List (List Int)} {x:List Int} (h:x ∈ l):x.length ≤ lct l:=by
 induction l with
 | nil=>cases h
 | cons y l ih =>
  rw [lct]
  rcases List.mem_cons.1 h with rfl | h
  ·omega
  ·have:=ih h; omega
theorem Kut (a:List (List Int)) (ha:a.length ≤ 1099511627776):∀ (l:List (List Int)) (i:Nat),a.drop i=l→lct l ≤ 1099511627776→Kn7 (a,a,(i:Int))=some (.inl ()):=by
 intro l
 induction l with
 | nil =>
  intro i hd _
  rw [Kn7.eq_def]
  simp only
  rw [Kpk (Kqy hd)]; rfl
 | cons x l ih =>
  intro i hd hl
  obtain ⟨hi,hx,hd'⟩:=Kqx hd
  rw [lct] at hl
  rw [Kn7.eq_def]
  simp only
  rw [Kpj hi,if_pos rfl,hx,bs,bs,Kps x (by omega),bs,if_pos rfl,Kpi (by omega),ih (i + 1) hd' (by omega)]
theorem Kuu (a:List (List Int)) (h:lok a):Kna (a,a)=some true:=by
 unfold Kna
 simp only
 rw [Kpq,if_neg (by decide),show (0:Int)=((0:Nat):Int) from rfl,Kut a h.1 a 0 rfl h.2]; rfl
theorem Kuv:∀ (l a:List (List Int)) (i k:Nat),a.drop i=l→a.length ≤ 1099511627776→lct l ≤ 1099511627776→k + lct l ≤ 1152921504606846976 →
  ∃ M,Kog (a,(k:Int),(i:Int))=some (((k + lct l:Nat):Int),M)∧M.length=a.length∧M.take i=a.take i∧∀ A:List (List Int),A.length=a.length→A.drop i=M.drop i→Kp5 (A,(k:Int),(i:Int))=some (.inl ((k + lct l:Nat):Int)):=by
 intro l
 induction l with
 | nil =>
  intro a i k hd ha hl hk
  rw [Kog.eq_def,lct]
  simp only
  rw [Kpk (Kqy hd)]
  refine ⟨a,rfl,rfl,rfl,fun A hA _=>?_⟩
  rw [Kp5.eq_def]
  simp only
  have:=Kqy hd
  rw [Kpk (by omega)]; rfl
 | cons x l ih =>
  intro a i k hd ha hl hk
  obtain ⟨hi,hx,hd'⟩:=Kqx hd
  rw [lct] at hl hk ⊢
  rw [Kog.eq_def]
  simp only
  rw [Kpj hi,if_pos rfl,hx,bs,Kug x k (by omega) (by omega),bs,Kpi (by omega),Int.toNat_natCast]
  simp only
  obtain ⟨M,h1,h2,h3,h4⟩:=ih (a.set i ((List.range' k x.length).map (fun n:Nat=>(n:Int)))) (i + 1) (k + x.length) (by rw [List.drop_set_of_lt (by omega)]; exact hd') (by simpa using ha) (by omega) (by omega)
  have hMl:i < M.length:=by rw [h2,List.length_set]; exact hi
  have hMi:M[i]=(List.range' k x.length).map (fun n:Nat=>(n:Int)):=by
   have:=congrArg (fun l=>l[i]?) h3
   simp only [List.getElem?_take] at this
   rw [if_pos (by omega),if_pos (by omega),List.getElem?_eq_getElem hMl,List.getElem?_set_self hi] at this
   exact Option.some.inj this
  refine ⟨M,by rw [h1]; congr 3; omega,by simpa using h2,?_,fun A hA hAd=>?_⟩
  ·have:=congrArg (List.take i) h3
   rw [List.take_take,List.take_take,Nat.min_eq_left (by omega),List.take_set_of_le (Nat.le_refl i)] at this
   exact this
  ·rw [List.drop_eq_getElem_cons hMl,hMi] at hAd
   obtain ⟨qi,qx,qd⟩:=Kqx hAd
   rw [Kp5.eq_def]
   simp only
   rw [Kpj qi,if_pos rfl,qx,bs,Kui x.length k (by omega) (by omega),bs,decide_eq_false (by omega),if_neg (by decide),Kpi (by omega),h4 A (by simpa using hA) qd]
   congr 3; omega
theorem Kuw (a:List (List Int)) (k:Nat) (h:lok a) (hk:k ≤ 1000000000000000000):∃ M,Koj (a,(k:Int))=some (((k + lct a:Nat):Int),M)∧Kp8 (M,(k:Int))=some ((k + lct a:Nat):Int):=by
 have:=h.2
 obtain ⟨M,h1,h2,h3,h4⟩:=Kuv a a 0 k rfl h.1 h.2 (by omega)
 refine ⟨M,?_,?_⟩
 ·unfold Koj
  simp only
  rw [show (0:Int)=((0:Nat):Int) from rfl,h1,bs]
 ·unfold Kp8
  simp only
  rw [show (0:Int)=((0:Nat):Int) from rfl,h4 M h2 rfl,bs]
theorem Kux:∀ (l a:List (List Int)) (i k:Nat),a.drop i=l→a.length ≤ 1099511627776→lct l ≤ 1099511627776→k + lct l ≤ 1152921504606846976→∃ M,Kog (a,(k:Int),(i:Int))=some (((k + lct l:Nat):Int),M):=by
 intro l
 induction l with
 | nil =>
  intro a i k hd ha hl hk
  rw [Kog.eq_def,lct]
  simp only
  rw [Kpk (Kqy hd)]
  exact ⟨a,rfl⟩
 | cons x l ih =>
  intro a i k hd ha hl hk
  obtain ⟨hi,hx,hd'⟩:=Kqx hd
  rw [lct] at hl hk ⊢
  rw [Kog.eq_def]
  simp only
  rw [Kpj hi,if_pos rfl,hx,bs,Kug x k (by omega) (by omega),bs,Kpi (by omega),Int.toNat_natCast]
  simp only
  obtain ⟨M,h1⟩:=ih (a.set i ((List.range' k x.length).map (fun n:Nat=>(n:Int)))) (i + 1) (k + x.length) (by rw [List.drop_set_of_lt (by omega)]; exact hd') (by simpa using ha) (by omega) (by omega)
  exact ⟨M,by rw [h1]; congr 3; omega⟩
theorem Kuy (a:List (List Int)) (k:Nat) (h:lok a) (hk:k ≤ 1000000000000000000):∃ M,Koj (a,(k:Int))=some (((k + lct a:Nat):Int),M):=by
 have:=h.2
 obtain ⟨M,h1⟩:=Kux a a 0 k rfl h.1 h.2 (by omega)
 refine ⟨M,?_⟩
 unfold Koj
 simp only
 rw [show (0:Int)=((0:Nat):Int) from rfl,h1,bs]
theorem Kuz {α:Type} (x:α) (l:List α):cut (x :: l) (some 1) none none=some l:=Ktt [x] l
theorem Kv0 {g:Int→Bool} {y:List Int→Bool}:∀ (ks:List K01) (op:Int) (n i j:Nat) (hj:j < ks.length),Ksj g y op n i ks=true→tOk g y (n + Ksc op ((i + j:Nat):Int)) ks[j]=true
 | k :: ks,op,n,i,j,hj,ht=>by
  rw [Ksj,Bool.and_eq_true] at ht
  cases j with
  | zero=>exact ht.1
  | succ j =>
   have:=Kv0 ks op n (i + 1) j (by simpa using hj) ht.2
   rw [show i + 1 + j=i + (j + 1) by omega] at this
   exact this
theorem Kv1 {a:Int}:(a == a)=true:=by simp
structure Kv2 (c:Int) (a b:Ty):Prop where
 p0:Kem (c :: (a.code ++ b.code),0)=some a.code
 p1:Kem (c :: (a.code ++ b.code),1)=some b.code
 pp:Kj2 (c :: (a.code ++ b.code))=some [a.code,b.code]
 ok:a.ok∧b.ok
 la:a.code.length + b.code.length + 1 ≤ 1048576
theorem Kv3 {c:Int} {a b:Ty} (h:(Ty.bin c a b).ok) (hl:(Ty.bin c a b).code.length ≤ 1048576):Kv2 c a b:=by
 have hl':=hl
 rw [Ty.code] at hl'
 have h3:=Ktv h hl
 rw [Ty.kids,List.map_cons,List.map_cons,List.map_nil,Ty.code] at h3
 refine ⟨Ktw h.2.1 (by omega),Ktx h.2.1 (by omega),h3,h.2,?_⟩
 rw [List.length_cons,List.length_append] at hl'
 omega
structure UnP (c:Int) (a:Ty):Prop where
 p0:Kem (c :: a.code,0)=some a.code
 pp:Kj2 (c :: a.code)=some [a.code]
 ok:a.ok
 la:a.code.length + 1 ≤ 1048576
theorem unP {c:Int} {a:Ty} (h:(Ty.un c a).ok) (hl:(Ty.un c a).code.length ≤ 1048576):UnP c a:=by
 have hl':=hl
 rw [Ty.code] at hl'
 have h3:=Ktv h hl
 rw [Ty.kids,List.map_cons,List.map_nil,Ty.code] at h3
 have h4:=Ktw (c:=c) (r:=[]) h.2 (by rw [List.append_nil]; omega)
 rw [List.append_nil] at h4
 refine ⟨h4,h3,h.2,?_⟩
 rw [List.length_cons] at hl'
 omega
theorem Kv4:Kj2 [0]=some []:=Ktv (T:=.num) trivial (by simp [Ty.code])
theorem Kv5:∀ (l a:List Bool) (i k:Nat),a.drop i=l→a.length ≤ 1099511627776→k + l.length ≤ 1152921504606846976 + 1099511627776→∃ M,Ko6 (a,(k:Int),(i:Int))=some (((k + l.length:Nat):Int),M):=by
 intro l
 induction l with
 | nil =>
  intro a i k hd ha hk
  rw [Ko6.eq_def]
  simp only
  rw [Kpk (Kqy hd)]
  exact ⟨a,rfl⟩
 | cons x l ih =>
  intro a i k hd ha hk
  obtain ⟨hi,hx,hd'⟩:=Kqx hd
  have hl:(x :: l).length ≤ 1099511627776:=by rw [← hd,List.length_drop]; omega
  rw [List.length_cons] at hl hk
  rw [Ko6.eq_def]
  simp only
  rw [Kpj hi,if_pos rfl,hx,bs,Int.toNat_natCast,Kpi (by omega),Kpi (by omega)]
  obtain ⟨M,h1⟩:=ih (a.set i (Int.tmod (k:Int) 3 == 0)) (i + 1) (k + 1) (by rw [List.drop_set_of_lt (by omega)]; exact hd') (by simpa using ha) (by omega)
  exact ⟨M,by rw [h1,List.length_cons]; congr 3; omega⟩
theorem Kv6 (s:K00) (k:Nat) (hs:sms s ≤ 1099511627776) (hk:k ≤ 1000000000000000000):∃ M,Koc (s,(k:Int))=some (((k + sms s:Nat):Int),M):=by
 unfold sms at hs ⊢
 unfold Koc
 simp only
 rw [Kug s.fPlus k (by omega) (by omega),bs]
 simp only
 rw [Kug s.fTimes _ (by omega) (by omega),bs]
 simp only
 obtain ⟨M,h⟩:=Kv5 s.fBelow s.fBelow 0 (k + s.fPlus.length + s.fTimes.length) rfl (by omega) (by omega)
 unfold Ko9
 simp only
 rw [show (0:Int)=((0:Nat):Int) from rfl,h,bs,bs]
 exact ⟨_,by congr 3; omega⟩
theorem Kv7 {p:Prop} [Decidable p] (h:p):chk p=some ():=by unfold chk; rw [if_pos h]
theorem Kv8 (x y:Int) (l r:List Int):(x :: l == y :: r)=(x == y && l == r):=rfl
theorem Kv9 (a b:List Int) (ha:a.length ≤ 1099511627776) (hab:a.length=b.length):∀ (l r:List Int) (i:Nat),a.drop i=l→b.drop i=r→Keq (a,b,(i:Int))=some (if l == r then .inl () else .inr false):=by
 intro l
 induction l with
 | nil =>
  intro r i h1 h2
  have hi:=Kqy h1
  rw [Keq.eq_def]
  simp only
  rw [Kpk hi]
  have:r=[]:=by rw [← h2]; exact List.drop_eq_nil_of_le (by omega)
  subst this; rfl
 | cons x l ih =>
  intro r i h1 h2
  obtain ⟨hi,hx,hd⟩:=Kqx h1
  cases r with
  | nil=>have:=Kqy h2; omega
  | cons y r =>
   obtain ⟨_,hy,hd2⟩:=Kqx h2
   rw [Keq.eq_def]
   simp only
   rw [Kpj hi,if_pos rfl,hx,hy,bs,bs,Kpi (by omega),ih r (i + 1) hd hd2,Kv8]
   by_cases e:x=y
   ·subst e; simp
   ·rw [bne_iff_ne.2 e,if_pos rfl,beq_eq_false_iff_ne.2 e]; rfl
theorem Kva (a b:List Int) (hb:b.length ≤ 1099511627776):Ket (a,b)=some (a == b):=by
 unfold Ket
 simp only
 by_cases h:a.length=b.length
 ·rw [h,Kpq,if_neg (by decide)]
  have:=Kv9 a b (by omega) h a b 0 rfl rfl
  rw [show ((0:Nat):Int)=0 from rfl] at this
  rw [this]
  cases a == b <;> rfl
 ·rw [bne_iff_ne.2 (by omega),if_pos rfl]
  have:a ≠ b:=fun e=>h (by rw [e])
  rw [beq_eq_false_iff_ne.2 this]
theorem Kvb (a b:List Int) (ha:a.length ≤ 1099511627776) (hab:a.length=b.length):∀ (l r:List Int) (i:Nat),a.drop i=l→b.drop i=r→Kjr (a,b,(i:Int))=some (if l == r then .inl () else .inr false):=by
 intro l
 induction l with
 | nil =>
  intro r i h1 h2
  have hi:=Kqy h1
  rw [Kjr.eq_def]
  simp only
  rw [Kpk hi]
  have:r=[]:=by rw [← h2]; exact List.drop_eq_nil_of_le (by omega)
  subst this; rfl
 | cons x l ih =>
  intro r i h1 h2
  obtain ⟨hi,hx,hd⟩:=Kqx h1
  cases r with
  | nil=>have:=Kqy h2; omega
  | cons y r =>
   obtain ⟨_,hy,hd2⟩:=Kqx h2
   rw [Kjr.eq_def]
   simp only
   rw [Kpj hi,if_pos rfl,hx,hy,bs,bs,Kpi (by omega),ih r (i + 1) hd hd2,Kv8]
   by_cases e:x=y
   ·subst e; simp
   ·rw [bne_iff_ne.2 e,if_pos rfl,beq_eq_false_iff_ne.2 e]; rfl
theorem Kvc (a b:List Int) (hb:b.length ≤ 1099511627776):Kju (a,b)=some (a == b):=by
 unfold Kju
 simp only
 by_cases h:a.length=b.length
 ·rw [h,Kpq,if_neg (by decide)]
  have:=Kvb a b (by omega) h a b 0 rfl rfl
  rw [show ((0:Nat):Int)=0 from rfl] at this
  rw [this]
  cases a == b <;> rfl
 ·rw [bne_iff_ne.2 (by omega),if_pos rfl]
  have:a ≠ b:=fun e=>h (by rw [e])
  rw [beq_eq_false_iff_ne.2 this]
theorem Kvd (g:Int→Bool) (y:List Int→Bool) (op:Int) (n i:Nat) (k:K01) (ks:List K01):Ksj g y op n i (k :: ks)=(tOk g y (n + Ksc op i) k && Ksj g y op n (i + 1) ks):=by rw [Ksj]
theorem Kve {l:List K01} (h:((l.length:Int) == 1)=true):∃ k,l=[k]:=by
 rw [beq_iff_eq] at h; match l,h with | [k],_=>exact ⟨k,rfl⟩ | [],h=>exact absurd h (by simp) | _ :: _ :: _,h=>exact absurd h (by simp only [List.length_cons]; omega)
theorem Kvf {l:List K01} (h:((l.length:Int) == 2)=true):∃ k m,l=[k,m]:=by
 rw [beq_iff_eq] at h; match l,h with | [k,m],_=>exact ⟨k,m,rfl⟩ | [],h=>exact absurd h (by simp) | [_],h=>exact absurd h (by simp) | _ :: _ :: _ :: _,h=>exact absurd h (by simp only [List.length_cons]; omega)
def Kvg (s:K00) (t:K01) (n:Nat):Bool:=Kte s && decide (tsz t ≤ 400) && tOk (gN s.fSize true) (yN s.fSize true) n t
theorem Kvh (s:K00) (t:K01) (n:Nat) (hn:n ≤ 8) (ht:tms t ≤ 1099511627776):Kdn (s,t,(n:Int))=some (Kvg s t n):=by
 unfold Kdn Kvg
 simp only
 rw [Ktg,bs]
 cases Kte s
 ·rfl
 ·rw [if_pos rfl,sIn,bs]
  have:inB (n:Int) 0 8=true:=by unfold inB; rw [decide_eq_true (by omega),decide_eq_true (by omega)]; rfl
  have hl:=Ks0 t 400 ht (by decide)
  rw [show ((400:Nat):Int)=400 from rfl] at hl
  rw [this,if_pos rfl,hl,bs]
  by_cases h:tsz t ≤ 400
  ·rw [Krx h,decide_eq_true (by omega),decide_eq_true h,if_pos rfl,Ksm _ _ t n ht (by omega)]
   cases tOk (gN s.fSize true) (yN s.fSize true) n t <;> rfl
  ·rw [Kry h,decide_eq_false h]; rfl
theorem Kvi (op N:Int) (ty:List Int) (a:K01):tsz ⟨op,N,ty,[a]⟩=1 + tsz a:=by simp [tsz,Krs]
theorem Kvj (op N:Int) (ty:List Int) (a b:K01):tsz ⟨op,N,ty,[a,b]⟩=1 + (tsz a + tsz b):=by simp [tsz,Krs]
theorem Kvk (op N:Int) (ty:List Int) (a b c:K01):tsz ⟨op,N,ty,[a,b,c]⟩=1 + (tsz a + (tsz b + tsz c)):=by simp [tsz,Krs]
theorem Kvl {l:List K01} (h:(l.length:Int)=3):∃ a b c,l=[a,b,c]:=by
 match l,h with | [a,b,c],_=>exact ⟨a,b,c,rfl⟩ | [],h=>exact absurd h (by simp) | [_],h=>exact absurd h (by simp) | [_,_],h=>exact absurd h (by simp) | _ :: _ :: _ :: _ :: _,h=>exact absurd h (by simp only [List.length_cons]; omega)
def lms (l:List (List Int)):Nat:=l.length + lct l
theorem Kvm {l:List (List Int)} (h:lms l ≤ 1099511627776):lok l:=by unfold lms at h; exact ⟨by omega,by omega⟩
def lln (l:List (List Int)):Prop:=l.length ≤ 9223372036854775807∧∀ v ∈ l,v.length ≤ 9223372036854775807
theorem Kvn:∀ (l a:List (List Int)) (i left:Nat),a.drop i=l→a.length ≤ 9223372036854775807→(∀ v ∈ l,v.length ≤ 9223372036854775807)→left ≤ 1048576→K8l (a,(left:Int),(i:Int))=some (if left < lct l then .inr (-1) else .inl ((left - lct l:Nat):Int)):=by
 intro l
 induction l with
 | nil =>
  intro a i left hd ha hl h
  rw [K8l.eq_def,lct]
  simp only
  rw [Kpk (Kqy hd)]; simp
 | cons x l ih =>
  intro a i left hd ha hl h
  obtain ⟨hi,hx,hd'⟩:=Kqx hd
  rw [K8l.eq_def,lct]
  simp only
  rw [Kpj hi,if_pos rfl,hx,bs,Ksq x left (by omega) (by omega) (hl x List.mem_cons_self),bs,Kpi (by omega)]
  rcases Ksp left x.length with ⟨e,q⟩ | ⟨e,q⟩
  ·rw [e,decide_eq_true (by decide),if_pos rfl,if_pos (by omega)]
  ·rw [e,decide_eq_false (by omega),if_neg (by decide),show (left:Int) - (x.length:Int)=((left - x.length:Nat):Int) by omega,ih a (i + 1) (left - x.length) hd' ha (fun v hv=>hl v (List.mem_cons_of_mem _ hv)) (by omega)]
   by_cases q2:left - x.length < lct l
   ·rw [if_pos q2,if_pos (by omega)]
   ·rw [if_neg q2,if_neg (by omega)]; congr 3; omega
theorem Kvo (a:List (List Int)) (left:Int) (ha:lln a) (h1:0 ≤ left) (h2:left ≤ 1048576):K8o (a,left)=some (szB left (lms a)):=by
 have hl:=ha.1
 unfold K8o lms
 simp only
 rw [Kpg (by omega) (by omega)]
 by_cases h3:left - (a.length:Int) < 0
 ·rw [decide_eq_true h3,if_pos rfl]; unfold szB; rw [if_pos (by omega)]
 ·obtain ⟨m,hm⟩:∃ m:Nat,left - (a.length:Int)=(m:Int):=⟨(left - (a.length:Int)).toNat,by omega⟩
  have h:=Kvn a a 0 m rfl hl ha.2 (by omega)
  rw [show ((0:Nat):Int)=0 from rfl] at h
  rw [decide_eq_false h3,if_neg (by decide),hm,h,bs]
  unfold szB
  by_cases q:m < lct a
  ·rw [if_pos q,if_pos (by omega)]
  ·rw [if_neg q,if_neg (by omega)]; simp only; congr 1; omega
theorem Kvp:∀ (l a out:List (List Int)) (i:Nat),a.drop i=l→a.length ≤ 1099511627776→lct l ≤ 1099511627776→out.length=a.length→out.take i=a.take i→K9k (a,out,(i:Int))=some a:=by
 intro l
 induction l with
 | nil =>
  intro a out i hd ha hl ho ht
  rw [K9k.eq_def]
  simp only
  have hle:=Kqy hd
  rw [Kpk hle]
  rw [List.take_of_length_le (by omega),List.take_of_length_le (by omega)] at ht
  simp [ht]
 | cons x l ih =>
  intro a out i hd ha hl ho ht
  obtain ⟨hi,hx,hd'⟩:=Kqx hd
  have hk:a[i]=x:=by rw [Kph hi] at hx; exact Option.some.inj hx
  rw [lct] at hl
  rw [K9k.eq_def]
  simp only
  rw [Kpj hi,if_pos rfl,hx,bs,Kpn x (by omega),bs,Kph (by omega),bs,Kpi (by omega),Int.toNat_natCast]
  exact ih a _ (i + 1) hd' ha (by omega) (by simpa using ho) (by rw [← hk]; exact Kpl ho hi ht)
theorem Kvq (a:List (List Int)) (h:lms a ≤ 1099511627776):K9n a=some a:=by
 unfold lms at h
 unfold K9n
 have:chk (0 ≤ (a.length:Int)∧(Int.toNat (a.length:Int)) * 24 ≤ 140737488355328)=some ():=by
  unfold chk; rw [if_pos]; refine ⟨by omega,?_⟩; rw [Int.toNat_natCast]; omega
 have h0:=Kvp a a (List.replicate a.length []) 0 rfl (by omega) (by omega) (by simp) rfl
 rw [show ((0:Nat):Int)=0 from rfl] at h0
 rw [this,bs,Int.toNat_natCast,h0,bs]
def Kvr (l:List Nat):List Int:=l.map fun x:Nat=>(x:Int)
theorem Kvs (l:List Nat):(Kvr l).length=l.length:=List.length_map ..
theorem Kvt (l:List Nat) (i:Nat):(Kvr l).drop i=Kvr (l.drop i):=(List.map_drop ..).symm
theorem Kvu (l:List Nat) (i:Nat):(Kvr l).take i=Kvr (l.take i):=(List.map_take ..).symm
theorem Kvv {l r:List Nat} {x i:Nat} (h:l.drop i=x :: r):i < l.length∧idx (Kvr l) (i:Int)=some (x:Int)∧l.drop (i + 1)=r:=by
 have h2:(Kvr l).drop i=(x:Int) :: Kvr r:=by rw [Kvt,h]; rfl
 obtain ⟨q1,q2,q3⟩:=Kqx h2
 rw [Kvs] at q1
 refine ⟨q1,q2,?_⟩
 rw [← List.drop_drop,h]
 rfl
structure Kvw (s:K00) (n:Nat):Prop where
 tab:Tab s n
 one:∀ a,a < n→Kqa s n a=true
 two:∀ a b,a < n→b < n→Kqn s n a b=true
theorem Kvx {s:K00} (h:Kte s=true):Kvw s s.fSize.toNat:=by
 have ht:=Ktf h
 unfold Kte at h
 simp only [Bool.and_eq_true] at h
 have hm:=h.2
 unfold Kqq at hm
 rw [List.all_eq_true] at hm
 refine ⟨ht,fun a ha=>?_,fun a b ha hb=>?_⟩
 ·have:=hm a (by rw [List.mem_range'_1]; omega)
  simp only [Bool.and_eq_true] at this
  exact this.1
 ·have:=hm a (by rw [List.mem_range'_1]; omega)
  simp only [Bool.and_eq_true,List.all_eq_true] at this
  exact (this.2 b (by rw [List.mem_range'_1]; omega)).1
section
variable {s:K00} {n:Nat} (hs:Kvw s n)
include hs
theorem Kvy:1 < n:=by have:=hs.tab.lo; omega
theorem Kvz:0 < n:=by have:=hs.tab.lo; omega
theorem Kw0 {a:Nat} (ha:a < n):pl s n 0 a=a:=by
 have:=hs.one a ha
 simp only [Kqa,Bool.and_eq_true,beq_iff_eq] at this
 exact this.1.1.1.1.1
theorem Kw1 {a:Nat} (ha:a < n):ti s n 1 a=a:=by
 have:=hs.one a ha
 simp only [Kqa,Bool.and_eq_true,beq_iff_eq] at this
 exact this.1.1.1.1.2
def Kw2 (s:K00) (n a b:Nat):Nat:=(Kqg s n a b).toNat
theorem Kw3 {a b:Nat} (ha:a < n) (hb:b < n):Kqg s n a b=((Kw2 s n a b:Nat):Int)∧Kw2 s n a b < n:=by
 have h:=hs.two a b ha hb
 simp only [Kqn,Bool.and_eq_true,decide_eq_true_eq] at h
 have h0:=h.2
 unfold Kw2
 refine ⟨by omega,?_⟩
 unfold Kqg at h0 ⊢
 cases hf:(List.range' 0 n).find? (jok s n a b) with
 | none=>rw [hf] at h0; exact absurd h0 (by decide)
 | some g =>
  have:=List.mem_of_find?_eq_some hf
  rw [List.mem_range'_1] at this
  simp only [Int.toNat_natCast]
  omega
end
def Kw4 (s:K00) (n:Nat) (a b:List Nat):List Nat:=List.zipWith (pl s n) a b
def Kw5 (s:K00) (n g:Nat) (a:List Nat):List Nat:=a.map (ti s n g)
def Kw6 (s:K00) (n:Nat) (a b:List Nat):List Nat:=List.zipWith (Kw2 s n) a b
def Kw7 (n:Nat) (l:List Nat):Prop:=∀ x ∈ l,x < n
theorem Kw8 {n x:Nat} {l:List Nat} (h:Kw7 n (x :: l)):x < n∧Kw7 n l:=⟨h x List.mem_cons_self,fun y hy=>h y (List.mem_cons_of_mem _ hy)⟩
theorem Kw9 {n:Nat} {l:List Nat} (h:Kw7 n l) (i:Nat):Kw7 n (l.drop i):=fun x hx=>h x (List.mem_of_mem_drop hx)
section
variable {s:K00} {n:Nat} (hs:Kvw s n)
include hs
theorem Kwa:∀ {a b:List Nat},Kw7 n a→Kw7 n b→Kw7 n (Kw4 s n a b)
 | [],_,_,_=>fun x hx=>by cases hx
 | _ :: _,[],_,_=>fun x hx=>by cases hx
 | x :: a,y :: b,ha,hb=>fun z hz=>by
  obtain ⟨h1,h2⟩:=Kw8 ha
  obtain ⟨h3,h4⟩:=Kw8 hb
  rcases List.mem_cons.1 hz with rfl | hz
  ·exact Kpz hs.tab h1 h3
  ·exact Kwa h2 h4 z hz
theorem Kwb {g:Nat} (hg:g < n) {a:List Nat} (ha:Kw7 n a):Kw7 n (Kw5 s n g a):=fun x hx=>by
 obtain ⟨y,hy,rfl⟩:=List.mem_map.1 hx
 exact Kq0 hs.tab hg (ha y hy)
theorem Kwc:∀ {a b:List Nat},Kw7 n a→Kw7 n b→Kw7 n (Kw6 s n a b)
 | [],_,_,_=>fun x hx=>by cases hx
 | _ :: _,[],_,_=>fun x hx=>by cases hx
 | x :: a,y :: b,ha,hb=>fun z hz=>by
  obtain ⟨h1,h2⟩:=Kw8 ha
  obtain ⟨h3,h4⟩:=Kw8 hb
  rcases List.mem_cons.1 hz with rfl | hz
  ·exact (Kw3 hs h1 h3).2
  ·exact Kwc h2 h4 z hz
theorem Kwd {a:List Nat} (ha:Kw7 n a):Kw5 s n 1 a=a:=by
 induction a with
 | nil=>rfl
 | cons x a ih =>
  obtain ⟨h1,h2⟩:=Kw8 ha
  show ti s n 1 x :: Kw5 s n 1 a=_
  rw [Kw1 hs h1,ih h2]
theorem Kwe {a:List Nat} (ha:Kw7 n a):Kw4 s n (List.replicate a.length 0) a=a:=by
 induction a with
 | nil=>rfl
 | cons x a ih =>
  obtain ⟨h1,h2⟩:=Kw8 ha
  show pl s n 0 x :: Kw4 s n (List.replicate a.length 0) a=_
  rw [Kw0 hs h1,ih h2]
theorem Kwf (g:Nat) (hg:g < n) (a b:List Nat) (ha:Kw7 n a) (hb:Kw7 n b) (hl:a.length ≤ 1099511627776):∀ (al bl:List Nat) (i:Nat) (out:List Int),a.drop i=al→b.drop i=bl→al.length=bl.length→out.length + al.length ≤ 1099511627776 →
  Ked (s,Kvr a,(g:Int),Kvr b,out,(i:Int))=some (out ++ Kvr (Kw4 s n al (Kw5 s n g bl))):=by
 intro al
 induction al with
 | nil =>
  intro bl i out hd _ _ _
  rw [Ked.eq_def]
  simp only
  rw [Kvs,Kpk (Kqy hd)]
  simp [Kw4,Kvr]
 | cons x al ih =>
  intro bl i out hd hd2 hll ho
  cases bl with
  | nil=>simp at hll
  | cons y bl =>
   obtain ⟨h1,h2,h3⟩:=Kvv hd
   obtain ⟨k1,k2,k3⟩:=Kvv hd2
   have hx:x < n:=Kw9 ha i x (by rw [hd]; exact List.mem_cons_self)
   have hy:y < n:=Kw9 hb i y (by rw [hd2]; exact List.mem_cons_self)
   rw [Ked.eq_def]
   simp only
   simp only [List.length_cons] at ho hll
   rw [Kvs,Kpj h1,if_pos rfl,h2,bs,k2,bs,Kq5 hs.tab hg hy,bs,Kq4 hs.tab hx (Kq0 hs.tab hg hy),bs,Kt0 (by simp; omega),bs,Kpi (by omega),ih bl (i + 1) _ h3 k3 (by omega) (by simp; omega)]
   rw [List.append_assoc]
   rfl
theorem Kwg (g:Nat) (hg:g < n) (a b:List Nat) (ha:Kw7 n a) (hb:Kw7 n b) (hl:a.length ≤ 1048576) (hab:a.length=b.length):Keg (s,Kvr a,(g:Int),Kvr b)=some (Kvr (Kw4 s n a (Kw5 s n g b))):=by
 unfold Keg
 simp only
 rw [show (0:Int)=((0:Nat):Int) from rfl,Kwf hs g hg a b ha hb (by omega) a b 0 [] rfl rfl hab (by simp; omega)]
 rfl
theorem Kwh (a b:List Nat) (ha:Kw7 n a) (hb:Kw7 n b) (hl:a.length ≤ 1048576) (hab:a.length=b.length):Keg (s,Kvr a,1,Kvr b)=some (Kvr (Kw4 s n a b)):=by
 have:=Kwg hs 1 (Kvy hs) a b ha hb hl hab
 rw [Kwd hs hb] at this
 exact this
theorem Kwi (a b:List Nat) (ha:Kw7 n a) (hb:Kw7 n b) (hl:a.length ≤ 1099511627776):∀ (al bl:List Nat) (i:Nat) (out:List Int),a.drop i=al→b.drop i=bl→al.length=bl.length→out.length + al.length ≤ 1099511627776 →
  Kex (s,Kvr a,Kvr b,out,(i:Int))=some (out ++ Kvr (Kw6 s n al bl)):=by
 intro al
 induction al with
 | nil =>
  intro bl i out hd _ _ _
  rw [Kex.eq_def]
  simp only
  rw [Kvs,Kpk (Kqy hd)]
  simp [Kw6,Kvr]
 | cons x al ih =>
  intro bl i out hd hd2 hll ho
  cases bl with
  | nil=>simp at hll
  | cons y bl =>
   obtain ⟨h1,h2,h3⟩:=Kvv hd
   obtain ⟨k1,k2,k3⟩:=Kvv hd2
   have hx:x < n:=Kw9 ha i x (by rw [hd]; exact List.mem_cons_self)
   have hy:y < n:=Kw9 hb i y (by rw [hd2]; exact List.mem_cons_self)
   rw [Kex.eq_def]
   simp only
   simp only [List.length_cons] at ho hll
   rw [Kvs,Kpj h1,if_pos rfl,h2,bs,k2,bs,Kql hs.tab hx hy,bs,(Kw3 hs hx hy).1,Kt0 (by simp; omega),bs,Kpi (by omega),ih bl (i + 1) _ h3 k3 (by omega) (by simp; omega)]
   rw [List.append_assoc]
   rfl
theorem Kwj (a b:List Nat) (ha:Kw7 n a) (hb:Kw7 n b) (hl:a.length ≤ 1048576) (hab:a.length=b.length):Kf0 (s,Kvr a,Kvr b)=some (Kvr (Kw6 s n a b)):=by
 unfold Kf0
 simp only
 rw [show (0:Int)=((0:Nat):Int) from rfl,Kwi hs a b ha hb (by omega) a b 0 [] rfl rfl hab (by simp; omega)]
 rfl
end
theorem Kwk {α:Type} {out:List α} {i:Nat} (h:i < out.length) (x:α):(out.set i x).take (i + 1)=out.take i ++ [x]:=by
 rw [List.take_set,List.take_succ_eq_append_getElem h,List.set_append_right _ _ (by simp; omega)]
 simp [Nat.min_eq_left (Nat.le_of_lt h)]
section
variable {s:K00} {n:Nat} (hs:Kvw s n)
include hs
theorem Kwl (a b:List Nat) (ha:Kw7 n a) (hb:Kw7 n b) (hl:a.length ≤ 1099511627776):∀ (al bl:List Nat) (i:Nat) (out:List Int),a.drop i=al→b.drop i=bl→al.length=bl.length→out.length=a.length →
  Kk1 (s,Kvr a,Kvr b,out,(i:Int))=some (out.take i ++ Kvr (Kw4 s n al bl)):=by
 intro al
 induction al with
 | nil =>
  intro bl i out hd _ _ ho
  rw [Kk1.eq_def]
  simp only
  have:=Kqy hd
  rw [Kvs,Kpk this]
  simp [Kw4,Kvr,List.take_of_length_le (show out.length ≤ i by omega)]
 | cons x al ih =>
  intro bl i out hd hd2 hll ho
  cases bl with
  | nil=>simp at hll
  | cons y bl =>
   obtain ⟨h1,h2,h3⟩:=Kvv hd
   obtain ⟨k1,k2,k3⟩:=Kvv hd2
   have hx:x < n:=Kw9 ha i x (by rw [hd]; exact List.mem_cons_self)
   have hy:y < n:=Kw9 hb i y (by rw [hd2]; exact List.mem_cons_self)
   rw [Kk1.eq_def]
   simp only
   simp only [List.length_cons] at hll
   have hio:i < out.length:=by omega
   rw [Kvs,Kpj h1,if_pos rfl,h2,bs,k2,bs,Kq6 hs.tab hx hy,bs,Kph hio,bs,Kpi (by omega),Int.toNat_natCast,ih bl (i + 1) _ h3 k3 (by omega) (by rw [List.length_set]; exact ho)]
   rw [Kwk hio,List.append_assoc]
   rfl
theorem Kwm (a b:List Nat) (ha:Kw7 n a) (hb:Kw7 n b) (hl:a.length ≤ 1048576) (hab:a.length=b.length):Kk7 (⟨s⟩,Kvr a,Kvr b)=some (Kvr (Kw4 s n a b)):=by
 unfold Kk7 Kk4
 simp only
 rw [Kvs,Kv7 (by simp; omega),bs,Int.toNat_natCast,show (0:Int)=((0:Nat):Int) from rfl]
 rw [show (List.replicate a.length (((0:Nat):Int)))=List.replicate a.length (0:Int) from rfl,Kwl hs a b ha hb (by omega) a b 0 _ rfl rfl hab (by simp)]
 rfl
theorem Kwn (a b:List Nat) (ha:Kw7 n a) (hb:Kw7 n b) (hl:a.length ≤ 1099511627776):∀ (al bl:List Nat) (i:Nat) (out:List Int),a.drop i=al→b.drop i=bl→al.length=bl.length→out.length=a.length →
  Kke (s,Kvr a,Kvr b,out,(i:Int))=some (out.take i ++ Kvr (Kw6 s n al bl)):=by
 intro al
 induction al with
 | nil =>
  intro bl i out hd _ _ ho
  rw [Kke.eq_def]
  simp only
  have:=Kqy hd
  rw [Kvs,Kpk this]
  simp [Kw6,Kvr,List.take_of_length_le (show out.length ≤ i by omega)]
 | cons x al ih =>
  intro bl i out hd hd2 hll ho
  cases bl with
  | nil=>simp at hll
  | cons y bl =>
   obtain ⟨h1,h2,h3⟩:=Kvv hd
   obtain ⟨k1,k2,k3⟩:=Kvv hd2
   have hx:x < n:=Kw9 ha i x (by rw [hd]; exact List.mem_cons_self)
   have hy:y < n:=Kw9 hb i y (by rw [hd2]; exact List.mem_cons_self)
   rw [Kke.eq_def]
   simp only
   simp only [List.length_cons] at hll
   have hio:i < out.length:=by omega
   rw [Kvs,Kpj h1,if_pos rfl,h2,bs,k2,bs,Kqm hs.tab hx hy,bs,(Kw3 hs hx hy).1,Kph hio,bs,Kpi (by omega),Int.toNat_natCast,ih bl (i + 1) _ h3 k3 (by omega) (by rw [List.length_set]; exact ho)]
   rw [Kwk hio,List.append_assoc]
   rfl
theorem Kwo (a b:List Nat) (ha:Kw7 n a) (hb:Kw7 n b) (hl:a.length ≤ 1048576) (hab:a.length=b.length):Kkk (⟨s⟩,Kvr a,Kvr b)=some (Kvr (Kw6 s n a b)):=by
 unfold Kkk Kkh
 simp only
 rw [Kvs,Kv7 (by simp; omega),bs,Int.toNat_natCast,show (0:Int)=((0:Nat):Int) from rfl]
 rw [show (List.replicate a.length (((0:Nat):Int)))=List.replicate a.length (0:Int) from rfl,Kwn hs a b ha hb (by omega) a b 0 _ rfl rfl hab (by simp)]
 rfl
theorem Kwp (g:Nat) (hg:g < n) (a:List Nat) (ha:Kw7 n a) (hl:a.length ≤ 1099511627776):∀ (al:List Nat) (i:Nat) (out:List Int),a.drop i=al→out.length=a.length →
  Kli (⟨s⟩,(g:Int),Kvr a,out,(i:Int))=some (out.take i ++ Kvr (Kw5 s n g al)):=by
 intro al
 induction al with
 | nil =>
  intro i out hd ho
  rw [Kli.eq_def]
  simp only
  have:=Kqy hd
  rw [Kvs,Kpk this]
  simp [Kw5,Kvr,List.take_of_length_le (show out.length ≤ i by omega)]
 | cons x al ih =>
  intro i out hd ho
  obtain ⟨h1,h2,h3⟩:=Kvv hd
  have hx:x < n:=Kw9 ha i x (by rw [hd]; exact List.mem_cons_self)
  rw [Kli.eq_def]
  simp only
  have hio:i < out.length:=by omega
  rw [Kvs,Kpj h1,if_pos rfl,h2,bs,Kq7 hs.tab hg hx,bs,Kph hio,bs,Kpi (by omega),Int.toNat_natCast,ih (i + 1) _ h3 (by rw [List.length_set]; exact ho)]
  rw [Kwk hio,List.append_assoc]
  rfl
theorem Kwq (g:Nat) (hg:g < n) (a:List Nat) (ha:Kw7 n a) (hl:a.length ≤ 1048576):Kll (⟨s⟩,(g:Int),Kvr a)=some (Kvr (Kw5 s n g a)):=by
 unfold Kll
 simp only
 rw [Kvs,Kv7 (by simp; omega),bs,Int.toNat_natCast,show (0:Int)=((0:Nat):Int) from rfl]
 rw [show (List.replicate a.length (((0:Nat):Int)))=List.replicate a.length (0:Int) from rfl,Kwp hs g hg a ha (by omega) a 0 _ rfl (by simp)]
 rfl
theorem Kwr (g:Nat) (hg:g < n) (a:List Nat) (ha:Kw7 n a) (hl:a.length ≤ 1099511627776):∀ (al:List Nat) (i:Nat),a.drop i=al →
  ∃ r,Kl5 (Kvr a,⟨s⟩,(g:Int),(i:Int))=some r∧(match r with | .inl _=>(al.all fun x=>le s n x g)=true | .inr j=>(al.all fun x=>le s n x g)=false∧0 ≤ j):=by
 intro al
 induction al with
 | nil =>
  intro i hd
  rw [Kl5.eq_def]
  simp only
  rw [Kvs,Kpk (Kqy hd)]
  exact ⟨_,rfl,rfl⟩
 | cons x al ih =>
  intro i hd
  obtain ⟨h1,h2,h3⟩:=Kvv hd
  have hx:x < n:=Kw9 ha i x (by rw [hd]; exact List.mem_cons_self)
  rw [Kl5.eq_def]
  simp only
  rw [Kvs,Kpj h1,if_pos rfl,h2,bs]
  unfold Kl1
  simp only
  rw [iLe hs.tab hx hg]
  simp only [bs]
  cases hle:le s n x g with
  | true =>
   obtain ⟨r,hr,hm⟩:=ih (i + 1) h3
   refine ⟨r,?_,?_⟩
   ·rw [if_neg (by simp),Kpi (by omega)]; exact hr
   ·rw [List.all_cons,hle,Bool.true_and]; exact hm
  | false =>
   exact ⟨_,if_pos rfl,by simp [List.all_cons,hle]⟩
theorem Kws (g:Nat) (hg:g < n) (a:List Nat) (ha:Kw7 n a) (hl:a.length ≤ 1048576):Kle (⟨s⟩,Kvr a,(g:Int))=some (a.all fun x=>le s n x g):=by
 obtain ⟨r,hr,hm⟩:=Kwr hs g hg a ha (by omega) a 0 rfl
 unfold Kle Klb Kl8
 simp only
 rw [show (0:Int)=((0:Nat):Int) from rfl,hr]
 cases r with
 | inl _=>simp only [bs] at hm ⊢; rw [hm]; rfl
 | inr j =>
  simp only [bs] at hm ⊢
  rw [hm.1,decide_eq_true (by omega)]; rfl
end
end Go.Am
