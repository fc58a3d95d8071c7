/- Plain laws of the printed functions. -/
import Derived.Test.YtmcpomoofkjfcaaGreatGETF19
set_option linter.unusedSimpArgs false
set_option linter.unusedVariables false
namespace Go.Am
theorem Ks6 {x:Int} (h1:-9223372036854775808 ≤ x) (h2:x ≤ 9223372036854775807):wr x=x:=by
 unfold wr IntKind.wrap
 simp [IntKind.bits,IntKind.signed]
 omega
theorem Ks7 {α:Type} {l:List α} {n:Nat} (h:n < l.length):idx l (n:Int)=some l[n]:=by
 unfold idx
 rw [if_pos (by omega)]
 simp [h]
theorem bs {α β:Type} (a:α) (f:α→Option β):(some a >>= f)=f a:=rfl
theorem Ks8 {n:Nat} (h:n < 9223372036854775807):wr ((n:Int) + 1)=((n + 1:Nat):Int):=by
 rw [Ks6 (by omega) (by omega)]; omega
theorem Ks9 {n m:Nat} (h:n < m):decide ((n:Int) < (m:Int))=true:=decide_eq_true (by omega)
theorem Ksa {n m:Nat} (h:m ≤ n):decide ((n:Int) < (m:Int))=false:=decide_eq_false (by omega)
theorem Ksb {α:Type} {l a:List α} {n:Nat} (hl:l.length=a.length) (hn:n < a.length) (h:l.take n=a.take n):(l.set n a[n]).take (n + 1)=a.take (n + 1):=by
 apply List.ext_getElem?
 intro i
 rw [List.getElem?_take,List.getElem?_take]
 by_cases hi:i < n + 1
 ·rw [if_pos hi,if_pos hi,List.getElem?_set]
  by_cases e:n=i
  ·subst e
   rw [if_pos rfl,if_pos (by omega),List.getElem?_eq_getElem hn]
  ·rw [if_neg e]
   have:=congrArg (fun l=>l[i]?) h
   simp only [List.getElem?_take] at this
   rw [if_pos (by omega),if_pos (by omega)] at this
   exact this
 ·rw [if_neg hi,if_neg hi]
theorem Ksc (a:List Int) (ha:a.length ≤ 1099511627776):∀ (k n:Nat) (out:List Int),n + k=a.length→out.length=a.length→out.take n=a.take n→K9m (a,out,(n:Int))=some a:=by
 intro k
 induction k with
 | zero =>
  intro n out hn hl ht
  rw [K9m.eq_def]
  simp only
  rw [Ksa (by omega)]
  have h1:out.take n=out:=List.take_of_length_le (by omega)
  have h2:a.take n=a:=List.take_of_length_le (by omega)
  rw [h1,h2] at ht
  simp [ht]
 | succ k ih =>
  intro n out hn hl ht
  rw [K9m.eq_def]
  simp only
  rw [Ks9 (by omega),if_pos rfl,Ks7 (by omega),bs,Ks7 (by omega),bs,Ks8 (by omega),Int.toNat_natCast]
  exact ih (n + 1) _ (by omega) (by simpa using hl) (Ksb hl (by omega) ht)
theorem Ksd (a:List Int) (ha:a.length ≤ 1099511627776):K9p a=some a:=by
 unfold K9p
 have:chk (0 ≤ (a.length:Int)∧(Int.toNat (a.length:Int)) * 8 ≤ 140737488355328)=some ():=by
  unfold chk; rw [if_pos]; refine ⟨by omega,?_⟩; rw [Int.toNat_natCast]; omega
 rw [this,bs,Int.toNat_natCast]
 have:=Ksc a ha a.length 0 (List.replicate a.length 0) (by omega) (by simp) rfl
 rw [show ((0:Nat):Int)=0 from rfl] at this
 rw [this,bs]
theorem Kse (a:List Bool) (ha:a.length ≤ 1099511627776):∀ (k n:Nat) (out:List Bool),n + k=a.length→out.length=a.length→out.take n=a.take n→K9t (a,out,(n:Int))=some a:=by
 intro k
 induction k with
 | zero =>
  intro n out hn hl ht
  rw [K9t.eq_def]
  simp only
  rw [Ksa (by omega)]
  have h1:out.take n=out:=List.take_of_length_le (by omega)
  have h2:a.take n=a:=List.take_of_length_le (by omega)
  rw [h1,h2] at ht
  simp [ht]
 | succ k ih =>
  intro n out hn hl ht
  rw [K9t.eq_def]
  simp only
  rw [Ks9 (by omega),if_pos rfl,Ks7 (by omega),bs,Ks7 (by omega),bs,Ks8 (by omega),Int.toNat_natCast]
  exact ih (n + 1) _ (by omega) (by simpa using hl) (Ksb hl (by omega) ht)
theorem Ksf (a:List Bool) (ha:a.length ≤ 1099511627776):K9w a=some a:=by
 unfold K9w
 have:chk (0 ≤ (a.length:Int)∧(Int.toNat (a.length:Int)) * 1 ≤ 140737488355328)=some ():=by
  unfold chk; rw [if_pos]; refine ⟨by omega,?_⟩; rw [Int.toNat_natCast]; omega
 rw [this,bs,Int.toNat_natCast]
 have:=Kse a ha a.length 0 (List.replicate a.length false) (by omega) (by simp) rfl
 rw [show ((0:Nat):Int)=0 from rfl] at this
 rw [this,bs]
theorem Ksg {a:Int}:(a != a)=false:=by simp
theorem Ksh (a:List Int) (ha:a.length ≤ 1099511627776):∀ (k n:Nat),n + k=a.length→Kpm (a,a,(n:Int))=some (.inl ()):=by
 intro k
 induction k with
 | zero =>
  intro n hn
  rw [Kpm.eq_def]
  simp only
  rw [Ksa (by omega)]
  rfl
 | succ k ih =>
  intro n hn
  rw [Kpm.eq_def]
  simp only
  rw [Ks9 (by omega),if_pos rfl,Ks7 (by omega),bs,bs,Ksg,if_neg (by decide),Ks8 (by omega)]
  exact ih (n + 1) (by omega)
theorem Ksi (a:List Int) (ha:a.length ≤ 1099511627776):Kpp (a,a)=some true:=by
 unfold Kpp
 simp only
 have:=Ksh a ha a.length 0 (by omega)
 rw [show ((0:Nat):Int)=0 from rfl] at this
 rw [Ksg,if_neg (by decide),this]
 rfl
theorem Ksj (a:List Bool) (ha:a.length ≤ 1099511627776):∀ (k n:Nat),n + k=a.length→Kq4 (a,a,(n:Int))=some (.inl ()):=by
 intro k
 induction k with
 | zero =>
  intro n hn
  rw [Kq4.eq_def]
  simp only
  rw [Ksa (by omega)]
  rfl
 | succ k ih =>
  intro n hn
  rw [Kq4.eq_def]
  simp only
  rw [Ks9 (by omega),if_pos rfl,Ks7 (by omega),bs,bs,show ∀ b:Bool,(b == b)=true from by decide,if_pos rfl,Ks8 (by omega)]
  exact ih (n + 1) (by omega)
theorem Ksk (a:List Bool) (ha:a.length ≤ 1099511627776):Kq7 (a,a)=some true:=by
 unfold Kq7
 simp only
 have:=Ksj a ha a.length 0 (by omega)
 rw [show ((0:Nat):Int)=0 from rfl] at this
 rw [Ksg,if_neg (by decide),this]
 rfl
theorem Ksl (s:K00) (h1:s.fPlus.length ≤ 1099511627776) (h2:s.fTimes.length ≤ 1099511627776) (h3:s.fBelow.length ≤ 1099511627776):K9z s=some s:=by
 unfold K9z
 rw [Ksd _ h1,bs,Ksd _ h2,bs,Ksf _ h3,bs]
theorem Ksm (s:K00) (h1:s.fPlus.length ≤ 1099511627776) (h2:s.fTimes.length ≤ 1099511627776) (h3:s.fBelow.length ≤ 1099511627776):Kqa (s,s)=some true:=by
 unfold Kqa
 simp only
 rw [Ksg,if_neg (by decide),Ksi _ h1,bs,if_pos rfl,Ksi _ h2,bs,if_pos rfl,Ksk _ h3,bs,if_pos rfl]
structure Tab (s:K00) (n:Nat):Prop where
 size:s.fSize=(n:Int)
 lo:2 ≤ n
 hi:n ≤ 16
 lp:s.fPlus.length=n * n
 lt:s.fTimes.length=n * n
 lb:s.fBelow.length=n * n
 rp:∀ i (h:i < s.fPlus.length),0 ≤ s.fPlus[i]∧s.fPlus[i] < (n:Int)
 rt:∀ i (h:i < s.fTimes.length),0 ≤ s.fTimes[i]∧s.fTimes[i] < (n:Int)
def pl (s:K00) (n a b:Nat):Nat:=(s.fPlus.getD (a * n + b) 0).toNat
def ti (s:K00) (n a b:Nat):Nat:=(s.fTimes.getD (a * n + b) 0).toNat
def le (s:K00) (n a b:Nat):Bool:=s.fBelow.getD (a * n + b) false
theorem Ksn {n a b:Nat} (ha:a < n) (hb:b < n):a * n + b < n * n:=by
 have:(a + 1) * n ≤ n * n:=Nat.mul_le_mul_right _ (by omega)
 rw [Nat.add_mul,Nat.one_mul] at this
 omega
theorem Kso {n a b:Nat} (hn:n ≤ 16) (ha:a < n) (hb:b < n):wr ((wr ((a:Int) * (n:Int))) + (b:Int))=((a * n + b:Nat):Int):=by
 have h1:a * n ≤ 256:=Nat.le_trans (Nat.mul_le_mul (by omega:a ≤ 16) hn) (by decide)
 have e:(a:Int) * (n:Int)=((a * n:Nat):Int):=by simp
 rw [e]
 generalize a * n=m at h1
 rw [Ks6 (x:=(m:Int)) (by omega) (by omega),Ks6 (by omega) (by omega)]
 omega
section
variable {s:K00} {n:Nat} (h:Tab s n)
include h
theorem Ksp {a b:Nat} (ha:a < n) (hb:b < n):pl s n a b < n:=by
 have hl:a * n + b < s.fPlus.length:=by rw [h.lp]; exact Ksn ha hb
 unfold pl
 rw [List.getD_eq_getElem?_getD,List.getElem?_eq_getElem hl]
 have:=h.rp _ hl
 simp only [Option.getD_some]
 omega
theorem Ksq {a b:Nat} (ha:a < n) (hb:b < n):ti s n a b < n:=by
 have hl:a * n + b < s.fTimes.length:=by rw [h.lt]; exact Ksn ha hb
 unfold ti
 rw [List.getD_eq_getElem?_getD,List.getElem?_eq_getElem hl]
 have:=h.rt _ hl
 simp only [Option.getD_some]
 omega
theorem Ksr {a b:Nat} (ha:a < n) (hb:b < n):idx s.fPlus ((a * n + b:Nat):Int)=some ((pl s n a b:Nat):Int):=by
 have hl:a * n + b < s.fPlus.length:=by rw [h.lp]; exact Ksn ha hb
 rw [Ks7 hl]
 unfold pl
 rw [List.getD_eq_getElem?_getD,List.getElem?_eq_getElem hl]
 have:=h.rp _ hl
 simp only [Option.getD_some]
 congr 1
 omega
theorem Kss {a b:Nat} (ha:a < n) (hb:b < n):idx s.fTimes ((a * n + b:Nat):Int)=some ((ti s n a b:Nat):Int):=by
 have hl:a * n + b < s.fTimes.length:=by rw [h.lt]; exact Ksn ha hb
 rw [Ks7 hl]
 unfold ti
 rw [List.getD_eq_getElem?_getD,List.getElem?_eq_getElem hl]
 have:=h.rt _ hl
 simp only [Option.getD_some]
 congr 1
 omega
theorem Kst {a b:Nat} (ha:a < n) (hb:b < n):idx s.fBelow ((a * n + b:Nat):Int)=some (le s n a b):=by
 have hl:a * n + b < s.fBelow.length:=by rw [h.lb]; exact Ksn ha hb
 rw [Ks7 hl]
 unfold le
 rw [List.getD_eq_getElem?_getD,List.getElem?_eq_getElem hl]
 rfl
theorem Ksu {a b:Nat} (ha:a < n) (hb:b < n):Kau (s,(a:Int),(b:Int))=some ((pl s n a b:Nat):Int):=by
 unfold Kau
 simp only
 rw [h.size,Kso h.hi ha hb,Ksr h ha hb,bs]
theorem Ksv {a b:Nat} (ha:a < n) (hb:b < n):Kax (s,(a:Int),(b:Int))=some ((ti s n a b:Nat):Int):=by
 unfold Kax
 simp only
 rw [h.size,Kso h.hi ha hb,Kss h ha hb,bs]
theorem sLe {a b:Nat} (ha:a < n) (hb:b < n):Kb0 (s,(a:Int),(b:Int))=some (le s n a b):=by
 unfold Kb0
 simp only
 rw [h.size,Kso h.hi ha hb,Kst h ha hb,bs]
theorem Ksw {a b:Nat} (ha:a < n) (hb:b < n):Khm (s,(a:Int),(b:Int))=some ((pl s n a b:Nat):Int):=by
 unfold Khm
 simp only
 rw [h.size,Kso h.hi ha hb,Ksr h ha hb,bs]
theorem Ksx {a b:Nat} (ha:a < n) (hb:b < n):Khp (s,(a:Int),(b:Int))=some ((ti s n a b:Nat):Int):=by
 unfold Khp
 simp only
 rw [h.size,Kso h.hi ha hb,Kss h ha hb,bs]
theorem iLe {a b:Nat} (ha:a < n) (hb:b < n):Khw (s,(a:Int),(b:Int))=some (le s n a b):=by
 unfold Khw
 simp only
 rw [h.size,Kso h.hi ha hb,Kst h ha hb,bs]
end
theorem Ksy (x y:Nat):(((x:Nat):Int) == ((y:Nat):Int))=(x == y):=by
 cases hb:(x == y) with
 | true=>have:=eq_of_beq hb; subst this; simp
 | false=>simp at hb ⊢; omega
theorem Ksz (x y:Nat):(((x:Nat):Int) != ((y:Nat):Int))=(x != y):=by
 simp only [bne,Ksy]
def Kt0 (s:K00) (n a:Nat):Bool:=(pl s n 0 a == a) && (ti s n 1 a == a) && (ti s n a 1 == a) && (ti s n 0 a == 0) && (ti s n a 0 == 0) && le s n a a
def Kt1 (s:K00) (n a b c:Nat):Bool :=
 (pl s n (pl s n a b) c == pl s n a (pl s n b c)) && (ti s n (ti s n a b) c == ti s n a (ti s n b c)) &&
 (ti s n a (pl s n b c) == pl s n (ti s n a b) (ti s n a c)) && (ti s n (pl s n a b) c == pl s n (ti s n a c) (ti s n b c)) &&
 (!(le s n a b) || ((!(le s n b c) || le s n a c) && le s n (pl s n a c) (pl s n b c) && le s n (ti s n a c) (ti s n b c) && le s n (ti s n c a) (ti s n c b)))
section
variable {s:K00} {n:Nat} (h:Tab s n)
include h
theorem Kt2 {a:Nat} (ha:a < n):Kb7 (s,(a:Int))=some (Kt0 s n a):=by
 have l0:(0:Nat) < n:=by have:=h.lo; omega
 have l1:(1:Nat) < n:=by have:=h.lo; omega
 have e0:(0:Int)=((0:Nat):Int):=rfl
 have e1:(1:Int)=((1:Nat):Int):=rfl
 unfold Kb7 Kt0
 simp only
 rw [e0,e1]
 simp only [Ksu h l0 ha,Ksv h l1 ha,Ksv h ha l1,Ksv h l0 ha,Ksv h ha l0,sLe h ha ha,bs,Ksy]
 generalize (pl s n 0 a == a)=b1
 generalize (ti s n 1 a == a)=b2
 generalize (ti s n a 1 == a)=b3
 generalize (ti s n 0 a == 0)=b4
 generalize (ti s n a 0 == 0)=b5
 generalize le s n a a=b6
 cases b1 <;> cases b2 <;> cases b3 <;> cases b4 <;> cases b5 <;> cases b6 <;> rfl
theorem Kt3 {a b c:Nat} (ha:a < n) (hb:b < n) (hc:c < n):Kbo (s,(a:Int),(b:Int),(c:Int))=some (Kt1 s n a b c):=by
 unfold Kbo Kt1
 simp only
 simp only [Ksu h,Ksv h,sLe h,Ksp h,Ksq h,ha,hb,hc,bs,Ksz]
 generalize e1:pl s n (pl s n a b) c=x1
 generalize e2:pl s n a (pl s n b c)=x2
 generalize e3:ti s n (ti s n a b) c=x3
 generalize e4:ti s n a (ti s n b c)=x4
 generalize ti s n a (pl s n b c)=x5
 generalize pl s n (ti s n a b) (ti s n a c)=x6
 generalize ti s n (pl s n a b) c=x7
 generalize pl s n (ti s n a c) (ti s n b c)=x8
 generalize le s n (pl s n a c) (pl s n b c)=y1
 generalize le s n (ti s n a c) (ti s n b c)=y2
 generalize le s n (ti s n c a) (ti s n c b)=y3
 generalize le s n a b=y4
 generalize le s n b c=y5
 generalize le s n a c=y6
 simp only [bne]
 generalize (x1 == x2)=b1
 generalize (x3 == x4)=b2
 generalize (x5 == x6)=b3
 generalize (x7 == x8)=b4
 cases b1 <;> cases b2 <;> cases b3 <;> cases b4 <;> first | rfl | (cases y4 <;> cases y5 <;> cases y6 <;> cases y1 <;> cases y2 <;> cases y3 <;> rfl)
theorem Kt4 {a b c:Nat} (ha:a < n) (hb:b < n) (hc:c < n):Kib (s,(a:Int),(b:Int),(c:Int))=some (Kt1 s n a b c):=by
 unfold Kib Kt1
 simp only
 simp only [Ksw h,Ksx h,iLe h,Ksp h,Ksq h,ha,hb,hc,bs,Ksz]
 generalize e1:pl s n (pl s n a b) c=x1
 generalize e2:pl s n a (pl s n b c)=x2
 generalize e3:ti s n (ti s n a b) c=x3
 generalize e4:ti s n a (ti s n b c)=x4
 generalize ti s n a (pl s n b c)=x5
 generalize pl s n (ti s n a b) (ti s n a c)=x6
 generalize ti s n (pl s n a b) c=x7
 generalize pl s n (ti s n a c) (ti s n b c)=x8
 generalize le s n (pl s n a c) (pl s n b c)=y1
 generalize le s n (ti s n a c) (ti s n b c)=y2
 generalize le s n (ti s n c a) (ti s n c b)=y3
 generalize le s n a b=y4
 generalize le s n b c=y5
 generalize le s n a c=y6
 simp only [bne]
 generalize (x1 == x2)=b1
 generalize (x3 == x4)=b2
 generalize (x5 == x6)=b3
 generalize (x7 == x8)=b4
 cases b1 <;> cases b2 <;> cases b3 <;> cases b4 <;> first | rfl | (cases y4 <;> cases y5 <;> cases y6 <;> cases y1 <;> cases y2 <;> cases y3 <;> rfl)
end
def Kt5 (s:K00) (n a b g h:Nat):Bool:=!le s n a h || !le s n b h || le s n g h
def jok (s:K00) (n a b g:Nat):Bool:=le s n a g && le s n b g && (List.range' 0 n).all (Kt5 s n a b g)
def Kt6 (s:K00) (n a b:Nat):Int:=match (List.range' 0 n).find? (jok s n a b) with | some g=>(g:Int) | none=>-1
section
variable {s:K00} {n:Nat} (h:Tab s n)
include h
theorem Kt7 {a b g:Nat} (ha:a < n) (hb:b < n) (hg:g < n):∀ (k m:Nat) (ok:Bool),m + k=n→Kbb (s,(a:Int),(b:Int),(g:Int),ok,(m:Int))=some (ok && (List.range' m k).all (Kt5 s n a b g)):=by
 have hhi:=h.hi
 intro k
 induction k with
 | zero =>
  intro m ok hm
  rw [Kbb.eq_def]
  simp only
  rw [h.size,Ksa (by omega)]
  simp [bs]
 | succ k ih =>
  intro m ok hm
  rw [Kbb.eq_def]
  simp only
  rw [h.size,Ks9 (by omega),if_pos rfl,bs,sLe h ha (by omega),sLe h hb (by omega),sLe h hg (by omega)]
  cases ok with
  | false=>rfl
  | true =>
   rw [if_pos rfl]
   rw [List.range'_succ,List.all_cons]
   have ih:∀ ok,_:=fun ok=>ih (m + 1) ok (by omega)
   rw [Ks8 (by omega)]
   generalize ((m + 1:Nat):Int)=M at ih ⊢
   simp only [bs,Kt5]
   cases le s n a m <;> cases le s n b m <;> cases le s n g m <;> simp [bs,ih,Kt5]
theorem Kt8 {a b g:Nat} (ha:a < n) (hb:b < n) (hg:g < n):∀ (k m:Nat) (ok:Bool),m + k=n→Ki0 (s,(a:Int),(b:Int),(g:Int),ok,(m:Int))=some (ok && (List.range' m k).all (Kt5 s n a b g)):=by
 have hhi:=h.hi
 intro k
 induction k with
 | zero =>
  intro m ok hm
  rw [Ki0.eq_def]
  simp only
  rw [h.size,Ksa (by omega)]
  simp [bs]
 | succ k ih =>
  intro m ok hm
  rw [Ki0.eq_def]
  simp only
  rw [h.size,Ks9 (by omega),if_pos rfl,iLe h ha (by omega),iLe h hb (by omega),iLe h hg (by omega)]
  rw [List.range'_succ,List.all_cons]
  have ih:∀ ok,_:=fun ok=>ih (m + 1) ok (by omega)
  rw [Ks8 (by omega)]
  generalize ((m + 1:Nat):Int)=M at ih ⊢
  simp only [bs,Kt5]
  cases ok <;> cases le s n a m <;> cases le s n b m <;> cases le s n g m <;> simp [bs,ih,Kt5]
theorem Kt9 {a b:Nat} (ha:a < n) (hb:b < n):∀ (k g:Nat),g + k=n→Kbf (s,(a:Int),(b:Int),(g:Int))=some (match (List.range' g k).find? (jok s n a b) with | some g=>.inr (g:Int) | none=>.inl ()):=by
 have hhi:=h.hi
 intro k
 induction k with
 | zero =>
  intro g hm
  rw [Kbf.eq_def]
  simp only
  rw [h.size,Ksa (by omega)]
  rfl
 | succ k ih =>
  intro g hm
  rw [Kbf.eq_def]
  simp only
  rw [h.size,Ks9 (by omega),if_pos rfl,sLe h ha (by omega),sLe h hb (by omega)]
  have ih:=ih (g + 1) (by omega)
  rw [Ks8 (by omega),List.range'_succ,List.find?_cons]
  have hl:=fun ok=>Kt7 h ha hb (g:=g) (by omega) n 0 ok (by omega)
  rw [show ((0:Nat):Int)=0 from rfl] at hl
  generalize ((g + 1:Nat):Int)=M at ih ⊢
  have hj:jok s n a b g=(le s n a g && le s n b g && (List.range' 0 n).all (Kt5 s n a b g)):=rfl
  rw [hj]
  cases le s n a g <;> cases le s n b g <;> cases hq:(List.range' 0 n).all (Kt5 s n a b g) <;> simp [bs,hl,hq,ih]
theorem Kta {a b:Nat} (ha:a < n) (hb:b < n):∀ (k g:Nat),g + k=n→Ki5 (s,(a:Int),(b:Int),(g:Int))=some (match (List.range' g k).find? (jok s n a b) with | some g=>.inr (g:Int) | none=>.inl ()):=by
 have hhi:=h.hi
 intro k
 induction k with
 | zero =>
  intro g hm
  rw [Ki5.eq_def]
  simp only
  rw [h.size,Ksa (by omega)]
  rfl
 | succ k ih =>
  intro g hm
  rw [Ki5.eq_def]
  simp only
  rw [h.size,Ks9 (by omega),if_pos rfl,iLe h ha (by omega),iLe h hb (by omega)]
  have ih:=ih (g + 1) (by omega)
  rw [Ks8 (by omega),List.range'_succ,List.find?_cons]
  have hl:=fun ok=>Kt8 h ha hb (g:=g) (by omega) n 0 ok (by omega)
  rw [show ((0:Nat):Int)=0 from rfl] at hl
  generalize ((g + 1:Nat):Int)=M at ih ⊢
  have hj:jok s n a b g=(le s n a g && le s n b g && (List.range' 0 n).all (Kt5 s n a b g)):=rfl
  rw [hj]
  cases le s n a g <;> cases le s n b g <;> cases hq:(List.range' 0 n).all (Kt5 s n a b g) <;> simp [bs,hl,hq,ih]
theorem Ktb {a b:Nat} (ha:a < n) (hb:b < n):Kbi (s,(a:Int),(b:Int))=some (Kt6 s n a b):=by
 unfold Kbi Kt6
 simp only
 have:=Kt9 h ha hb n 0 (by omega)
 rw [show ((0:Nat):Int)=0 from rfl] at this
 rw [this,bs]
 cases (List.range' 0 n).find? (jok s n a b) <;> rfl
theorem Ktc {a b:Nat} (ha:a < n) (hb:b < n):Ki8 (s,(a:Int),(b:Int))=some (Kt6 s n a b):=by
 unfold Ki8 Kt6
 simp only
 have:=Kta h ha hb n 0 (by omega)
 rw [show ((0:Nat):Int)=0 from rfl] at this
 rw [this,bs]
 cases (List.range' 0 n).find? (jok s n a b) <;> rfl
def Ktd (s:K00) (n a b:Nat):Bool:=(pl s n a b == pl s n b a) && ((a == b) || !le s n a b || !le s n b a) && decide (Kt6 s n a b ≥ 0)
omit h in
theorem Kte (x:Int):decide (x < 0)=!decide (x ≥ 0):=by
 by_cases h:x < 0
 ·rw [decide_eq_true h,decide_eq_false (by omega)]; rfl
 ·rw [decide_eq_false h,decide_eq_true (by omega)]; rfl
theorem Ktf {a b:Nat} (ha:a < n) (hb:b < n):Kbl (s,(a:Int),(b:Int))=some (Ktd s n a b):=by
 unfold Kbl Ktd
 simp only
 rw [Ksu h ha hb,Ksu h hb ha,sLe h ha hb,sLe h hb ha,Ktb h ha hb]
 simp only [bs,Ksy]
 generalize (pl s n a b == pl s n b a)=b1
 generalize (a == b)=b2
 cases b1 <;> cases b2 <;> cases le s n a b <;> cases le s n b a <;> simp [bs]
end
def inB (x lo hi:Int):Bool:=decide (x ≥ lo) && decide (x ≤ hi)
theorem sIn (x lo hi:Int):Kak (x,lo,hi)=some (inB x lo hi):=by
 unfold Kak inB
 simp only
 cases decide (x ≥ lo) <;> simp [bs]
theorem iIn (x lo hi:Int):Khg (x,lo,hi)=some (inB x lo hi):=by
 unfold Khg inB
 simp only
 cases decide (x ≥ lo) <;> simp [bs]
def Ktg (s:K00) (n:Nat):Bool:=(List.range' 0 n).all fun a=>Kt0 s n a && (List.range' 0 n).all fun b=>Ktd s n a b && (List.range' 0 n).all fun c=>Kt1 s n a b c
section
variable {s:K00} {n:Nat} (h:Tab s n)
include h
theorem Kth {a b:Nat} (ha:a < n) (hb:b < n):∀ (k c:Nat),c + k=n→Kbs (s,(a:Int),(b:Int),(c:Int))=some (if (List.range' c k).all (fun c=>Kt1 s n a b c) then .inl () else .inr false):=by
 have hhi:=h.hi
 intro k
 induction k with
 | zero =>
  intro c hm
  rw [Kbs.eq_def]
  simp only
  rw [h.size,Ksa (by omega)]
  rfl
 | succ k ih =>
  intro c hm
  rw [Kbs.eq_def]
  simp only
  rw [h.size,Ks9 (by omega),if_pos rfl,Kt3 h ha hb (by omega),bs]
  have ih:=ih (c + 1) (by omega)
  rw [Ks8 (by omega),List.range'_succ,List.all_cons]
  generalize ((c + 1:Nat):Int)=M at ih ⊢
  generalize (List.range' (c + 1) k).all (fun c=>Kt1 s n a b c)=r at ih ⊢
  cases Kt1 s n a b c <;> cases r <;> simp [ih]
theorem Kti {a b:Nat} (ha:a < n) (hb:b < n):∀ (k c:Nat),c + k=n→Kij (s,(a:Int),(b:Int),(c:Int))=some (if (List.range' c k).all (fun c=>Kt1 s n a b c) then .inl () else .inr false):=by
 have hhi:=h.hi
 intro k
 induction k with
 | zero =>
  intro c hm
  rw [Kij.eq_def]
  simp only
  rw [h.size,Ksa (by omega)]
  rfl
 | succ k ih =>
  intro c hm
  rw [Kij.eq_def]
  simp only
  rw [h.size,Ks9 (by omega),if_pos rfl,Kt4 h ha hb (by omega),bs]
  have ih:=ih (c + 1) (by omega)
  rw [Ks8 (by omega),List.range'_succ,List.all_cons]
  generalize ((c + 1:Nat):Int)=M at ih ⊢
  generalize (List.range' (c + 1) k).all (fun c=>Kt1 s n a b c)=r at ih ⊢
  cases Kt1 s n a b c <;> cases r <;> simp [ih]
theorem Ktj {a:Nat} (ha:a < n):∀ (k b:Nat),b + k=n→Kbw (s,(a:Int),(b:Int))=some (if (List.range' b k).all (fun b=>Ktd s n a b && (List.range' 0 n).all fun c=>Kt1 s n a b c) then .inl () else .inr false):=by
 have hhi:=h.hi
 intro k
 induction k with
 | zero =>
  intro c hm
  rw [Kbw.eq_def]
  simp only
  rw [h.size,Ksa (by omega)]
  rfl
 | succ k ih =>
  intro b hm
  rw [Kbw.eq_def]
  simp only
  have hl:=Kth h ha (b:=b) (by omega) n 0 (by omega)
  rw [show ((0:Nat):Int)=0 from rfl] at hl
  rw [h.size,Ks9 (by omega),if_pos rfl,Ktf h ha (by omega),bs,hl]
  have ih:=ih (b + 1) (by omega)
  rw [Ks8 (by omega),List.range'_succ,List.all_cons]
  generalize ((b + 1:Nat):Int)=M at ih ⊢
  generalize (List.range' (b + 1) k).all (fun b=>Ktd s n a b && (List.range' 0 n).all fun c=>Kt1 s n a b c)=r at ih ⊢
  cases Ktd s n a b <;> cases (List.range' 0 n).all (fun c=>Kt1 s n a b c) <;> cases r <;> simp [ih,bs]
theorem Ktk {a:Nat} (ha:a < n):∀ (k b:Nat),b + k=n→Kio (s,(a:Int),(b:Int))=some (if (List.range' b k).all (fun b=>Ktd s n a b && (List.range' 0 n).all fun c=>Kt1 s n a b c) then .inl () else .inr false):=by
 have hhi:=h.hi
 intro k
 induction k with
 | zero =>
  intro c hm
  rw [Kio.eq_def]
  simp only
  rw [h.size,Ksa (by omega)]
  rfl
 | succ k ih =>
  intro b hm
  have hb:b < n:=by omega
  rw [Kio.eq_def]
  simp only
  have hl:=Kti h ha (b:=b) (by omega) n 0 (by omega)
  rw [show ((0:Nat):Int)=0 from rfl] at hl
  rw [h.size,Ks9 (by omega),if_pos rfl,Ksw h ha hb,Ksw h hb ha,iLe h ha hb,iLe h hb ha,Ktc h ha hb,hl]
  have ih:=ih (b + 1) (by omega)
  rw [Ks8 (by omega),List.range'_succ,List.all_cons]
  generalize ((b + 1:Nat):Int)=M at ih ⊢
  generalize (List.range' (b + 1) k).all (fun b=>Ktd s n a b && (List.range' 0 n).all fun c=>Kt1 s n a b c)=r at ih ⊢
  simp only [bs,Ksz,Kte]
  cases h1:(pl s n a b == pl s n b a) <;> cases h2:(a == b) <;> cases h3:decide (Kt6 s n a b ≥ 0) <;> cases h4:le s n a b <;> cases h5:le s n b a <;> cases h6:(List.range' 0 n).all (fun c=>Kt1 s n a b c) <;> cases r <;> simp only [Ktd,bne,h1,h2,h3,h4,h5,h6,ih,bs,Bool.not_true,Bool.not_false,Bool.true_and,Bool.false_and,Bool.and_true,Bool.and_false,Bool.true_or,Bool.false_or,Bool.or_true,Bool.or_false,if_true,if_false,Bool.false_eq_true]
theorem Ktl:∀ (k a:Nat),a + k=n→Kc1 (s,(a:Int))=some (if (List.range' a k).all (fun a=>Kt0 s n a && (List.range' 0 n).all fun b=>Ktd s n a b && (List.range' 0 n).all fun c=>Kt1 s n a b c) then .inl () else .inr false):=by
 have hhi:=h.hi
 intro k
 induction k with
 | zero =>
  intro c hm
  rw [Kc1.eq_def]
  simp only
  rw [h.size,Ksa (by omega)]
  rfl
 | succ k ih =>
  intro a hm
  have ha:a < n:=by omega
  rw [Kc1.eq_def]
  simp only
  have hl:=Ktj h ha n 0 (by omega)
  rw [show ((0:Nat):Int)=0 from rfl] at hl
  rw [h.size,Ks9 (by omega),if_pos rfl,Kt2 h ha,bs,hl]
  have ih:=ih (a + 1) (by omega)
  rw [Ks8 (by omega),List.range'_succ,List.all_cons]
  generalize ((a + 1:Nat):Int)=M at ih ⊢
  generalize (List.range' (a + 1) k).all (fun a=>Kt0 s n a && (List.range' 0 n).all fun b=>Ktd s n a b && (List.range' 0 n).all fun c=>Kt1 s n a b c)=r at ih ⊢
  cases Kt0 s n a <;> cases (List.range' 0 n).all (fun b=>Ktd s n a b && (List.range' 0 n).all fun c=>Kt1 s n a b c) <;> cases r <;> simp [ih,bs]
theorem Ktm:∀ (k a:Nat),a + k=n→Kis (s,(a:Int))=some (if (List.range' a k).all (fun a=>Kt0 s n a && (List.range' 0 n).all fun b=>Ktd s n a b && (List.range' 0 n).all fun c=>Kt1 s n a b c) then .inl () else .inr false):=by
 have hhi:=h.hi
 have l0:(0:Nat) < n:=by have:=h.lo; omega
 have l1:(1:Nat) < n:=by have:=h.lo; omega
 intro k
 induction k with
 | zero =>
  intro c hm
  rw [Kis.eq_def]
  simp only
  rw [h.size,Ksa (by omega)]
  rfl
 | succ k ih =>
  intro a hm
  have ha:a < n:=by omega
  rw [Kis.eq_def]
  simp only
  have hl:=Ktk h ha n 0 (by omega)
  have q1:Khm (s,0,(a:Int))=_:=Ksw h l0 ha
  have q2:Khp (s,1,(a:Int))=_:=Ksx h l1 ha
  have q3:Khp (s,(a:Int),1)=_:=Ksx h ha l1
  have q4:Khp (s,0,(a:Int))=_:=Ksx h l0 ha
  have q5:Khp (s,(a:Int),0)=_:=Ksx h ha l0
  have z1:(((ti s n 0 a:Nat):Int) != 0)=(ti s n 0 a != 0):=Ksz _ 0
  have z2:(((ti s n a 0:Nat):Int) != 0)=(ti s n a 0 != 0):=Ksz _ 0
  rw [show ((0:Nat):Int)=0 from rfl] at hl
  rw [h.size,Ks9 (by omega),if_pos rfl,q1,q2,q3,q4,q5,iLe h ha ha,hl]
  have ih:=ih (a + 1) (by omega)
  rw [Ks8 (by omega),List.range'_succ,List.all_cons]
  generalize ((a + 1:Nat):Int)=M at ih ⊢
  generalize (List.range' (a + 1) k).all (fun a=>Kt0 s n a && (List.range' 0 n).all fun b=>Ktd s n a b && (List.range' 0 n).all fun c=>Kt1 s n a b c)=r at ih ⊢
  simp only [bs,Ksz,z1,z2]
  cases h1:(pl s n 0 a == a) <;> cases h2:(ti s n 1 a == a) <;> cases h3:(ti s n a 1 == a) <;> cases h4:(ti s n 0 a == 0) <;> cases h5:(ti s n a 0 == 0) <;> cases h6:le s n a a <;> cases h7:(List.range' 0 n).all (fun b=>Ktd s n a b && (List.range' 0 n).all fun c=>Kt1 s n a b c) <;> cases r <;> simp only [Kt0,bne,h1,h2,h3,h4,h5,h6,h7,ih,bs,Bool.not_true,Bool.not_false,Bool.true_and,Bool.false_and,Bool.and_true,Bool.and_false,if_true,if_false,Bool.false_eq_true]
end
theorem Ktn {α:Type} {l r:List α} {x:α} {i:Nat} (h:l.drop i=x :: r):i < l.length∧idx l (i:Int)=some x∧l.drop (i + 1)=r:=by
 have hi:i < l.length:=by
  rcases Nat.lt_or_ge i l.length with h' | h'
  ·exact h'
  ·rw [List.drop_eq_nil_of_le h'] at h; cases h
 have e:=List.drop_eq_getElem_cons hi
 rw [h] at e
 obtain ⟨e1,e2⟩:=List.cons.inj e
 exact ⟨hi,by rw [Ks7 hi,e1],e2.symm⟩
theorem Kto {α:Type} {l:List α} {i:Nat} (h:l.drop i=[]):l.length ≤ i:=by
 rcases Nat.lt_or_ge i l.length with h' | h'
 ·rw [List.drop_eq_getElem_cons h'] at h; cases h
 ·exact h'
def Ktp (c:Int):Bool:=inB c 3 18 || c == 35
def Ktq (c:Int):Bool:=inB c 19 34 || c == 36
def Ktr (c:Int):Int:=if c == 0 then 0 else if c == 1 || c == 2 || Ktp c then 2 else if Ktq c then 1 else -1
theorem Kts (c:Int):Kc7 c=some (Ktp c):=by
 unfold Kc7 Ktp
 simp only [sIn,bs]
 cases inB c 3 18 <;> rfl
theorem Ktt (c:Int):Kca c=some (Ktq c):=by
 unfold Kca Ktq
 simp only [sIn,bs]
 cases inB c 19 34 <;> rfl
theorem Ktu (c:Int):Kcd c=some (Ktr c):=by
 unfold Kcd Ktr
 simp only [Kts,Ktt,bs]
 cases c == 0 <;> cases c == 1 <;> cases c == 2 <;> cases Ktp c <;> cases Ktq c <;> rfl
theorem Ktv (c:Int):(c=0∧Ktr c=0)∨((c=1∨c=2∨(3 ≤ c∧c ≤ 18)∨c=35)∧Ktr c=2)∨(((19 ≤ c∧c ≤ 34)∨c=36)∧Ktr c=1)∨((c < 0∨36 < c)∧Ktr c=-1):=by
 unfold Ktr Ktp Ktq inB
 by_cases h0:c=0
 ·left; subst h0; exact ⟨rfl,rfl⟩
 ·right
  have e0:(c == 0)=false:=by simpa using h0
  by_cases h1:c=1∨c=2∨(3 ≤ c∧c ≤ 18)∨c=35
  ·left
   refine ⟨h1,?_⟩
   have:(c == 1 || c == 2 || (decide (c ≥ 3) && decide (c ≤ 18) || c == 35))=true:=by
    simp only [Bool.or_eq_true,Bool.and_eq_true,beq_iff_eq,decide_eq_true_eq]; omega
   rw [e0,this]; rfl
  ·right
   have q:(c == 1 || c == 2 || (decide (c ≥ 3) && decide (c ≤ 18) || c == 35))=false:=by
    rw [Bool.eq_false_iff]; intro h
    simp only [Bool.or_eq_true,Bool.and_eq_true,beq_iff_eq,decide_eq_true_eq] at h; omega
   rw [e0,q]
   by_cases h2:(19 ≤ c∧c ≤ 34)∨c=36
   ·left
    refine ⟨h2,?_⟩
    have:(decide (c ≥ 19) && decide (c ≤ 34) || c == 36)=true:=by
     simp only [Bool.or_eq_true,Bool.and_eq_true,beq_iff_eq,decide_eq_true_eq]; omega
    rw [this]; rfl
   ·right
    refine ⟨by omega,?_⟩
    have:(decide (c ≥ 19) && decide (c ≤ 34) || c == 36)=false:=by
     rw [Bool.eq_false_iff]; intro h
     simp only [Bool.or_eq_true,Bool.and_eq_true,beq_iff_eq,decide_eq_true_eq] at h; omega
    rw [this]; rfl
def Ktw (c:Int):Int × Int :=
 if inB c 0 2 then (c,-1) else if inB c 3 18 then (3,c - 3) else if inB c 19 34 then (4,c - 19) else if c == 35 then (3,-1) else if c == 36 then (4,-1) else (5,-1)
theorem Ktx (c:Int):Kiy c=some (Ktw c):=by
 unfold Kiy Ktw
 simp only [iIn,bs]
 cases h1:inB c 0 2
 ·cases h2:inB c 3 18
  ·cases h3:inB c 19 34
   ·cases c == 35 <;> cases c == 36 <;> rfl
   ·simp only [inB,Bool.and_eq_true,decide_eq_true_eq] at h3
    simp only [Bool.false_eq_true,if_false,if_true]
    rw [Ks6 (by omega) (by omega)]
  ·simp only [inB,Bool.and_eq_true,decide_eq_true_eq] at h2
   simp only [Bool.false_eq_true,if_false,if_true]
   rw [Ks6 (by omega) (by omega)]
 ·rfl
theorem Kty (c:Int):(c=0∧Ktw c=(0,-1))∨(c=1∧Ktw c=(1,-1))∨(c=2∧Ktw c=(2,-1))∨((3 ≤ c∧c ≤ 18)∧Ktw c=(3,c - 3))∨(c=35∧Ktw c=(3,-1)) ∨
  ((19 ≤ c∧c ≤ 34)∧Ktw c=(4,c - 19))∨(c=36∧Ktw c=(4,-1))∨((c < 0∨36 < c)∧Ktw c=(5,-1)):=by
 have inT:∀ lo hi,lo ≤ c→c ≤ hi→inB c lo hi=true:=fun lo hi h1 h2=>by simp only [inB,Bool.and_eq_true,decide_eq_true_eq]; omega
 have inF:∀ lo hi,(c < lo∨hi < c)→inB c lo hi=false:=fun lo hi h=>by rw [Bool.eq_false_iff]; intro h'; simp only [inB,Bool.and_eq_true,decide_eq_true_eq] at h'; omega
 unfold Ktw
 by_cases h0:0 ≤ c∧c ≤ 2
 ·rw [inT 0 2 h0.1 h0.2]
  have:c=0∨c=1∨c=2:=by omega
  rcases this with rfl | rfl | rfl <;> simp
 ·rw [inF 0 2 (by omega)]
  by_cases h1:3 ≤ c∧c ≤ 18
  ·rw [inT 3 18 h1.1 h1.2]
   exact .inr (.inr (.inr (.inl ⟨h1,rfl⟩)))
  ·rw [inF 3 18 (by omega)]
   by_cases h2:19 ≤ c∧c ≤ 34
   ·rw [inT 19 34 h2.1 h2.2]
    exact .inr (.inr (.inr (.inr (.inr (.inl ⟨h2,rfl⟩)))))
   ·rw [inF 19 34 (by omega)]
    by_cases h3:c=35
    ·subst h3; simp
    ·by_cases h4:c=36
     ·subst h4; simp
     ·have e3:(c == 35)=false:=by simpa using h3
      have e4:(c == 36)=false:=by simpa using h4
      rw [e3,e4]
      refine .inr (.inr (.inr (.inr (.inr (.inr (.inr ⟨by omega,rfl⟩))))))
def skip:Nat→List Int→Option (List Int)
 | 0,l=>some l
 | _ + 1,[]=>none
 | m + 1,c :: l=>if Ktr c=-1 then none else skip (m + (Ktr c).toNat) l
theorem Ktz (l:List Int):skip 0 l=some l:=by cases l <;> rfl
theorem Ku0 (m:Nat):skip (m + 1) []=none:=rfl
theorem Ku1 (m:Nat) (c:Int) (l:List Int):skip (m + 1) (c :: l)=if Ktr c=-1 then none else skip (m + (Ktr c).toNat) l:=rfl
theorem Ku2 (l:List Int):∀ (m k:Nat),skip (m + k) l=(skip m l).bind (skip k):=by
 induction l with
 | nil =>
  intro m k
  cases m with
  | zero=>rw [Nat.zero_add,Ktz]; rfl
  | succ m=>rw [show m + 1 + k=(m + k) + 1 by omega,Ku0,Ku0]; rfl
 | cons c l ih =>
  intro m k
  cases m with
  | zero=>rw [Nat.zero_add,Ktz]; rfl
  | succ m =>
   rw [show m + 1 + k=(m + k) + 1 by omega,Ku1,Ku1]
   by_cases h:Ktr c=-1
   ·rw [if_pos h,if_pos h]; rfl
   ·rw [if_neg h,if_neg h,← ih]; congr 1; omega
theorem Ku3 (l:List Int):∀ (m:Nat) (r:List Int),skip m l=some r→∃ p,l=p ++ r∧m ≤ p.length:=by
 induction l with
 | nil =>
  intro m r h
  cases m with
  | zero=>rw [Ktz] at h; cases h; exact ⟨[],rfl,Nat.le_refl _⟩
  | succ m=>rw [Ku0] at h; cases h
 | cons c l ih =>
  intro m r h
  cases m with
  | zero=>rw [Ktz] at h; cases h; exact ⟨[],rfl,Nat.le_refl _⟩
  | succ m =>
   rw [Ku1] at h
   by_cases hk:Ktr c=-1
   ·rw [if_pos hk] at h; cases h
   ·rw [if_neg hk] at h
    obtain ⟨p,e,hp⟩:=ih _ _ h
    exact ⟨c :: p,by rw [e]; rfl,by simp; omega⟩
def Ku4 (ty:List Int) (m i:Nat):Int:=match skip m (ty.drop i) with | some r=>((ty.length - r.length:Nat):Int) | none=>-1
theorem Ku5 (ty:List Int) (hty:ty.length ≤ 1099511627776):∀ (l:List Int) (i m:Nat),ty.drop i=l→m ≤ 1099511627776 + 2 * i→∃ x,Kch (ty,((m + 1:Nat):Int),(i:Int))=some x∧(match x with | .inl ()=>-1 | .inr r=>r)=Ku4 ty (m + 1) i:=by
 intro l
 induction l with
 | nil =>
  intro i m hl hm
  rw [Kch.eq_def]
  simp only
  rw [Ksa (Kto hl)]
  exact ⟨.inl (),rfl,by unfold Ku4; rw [hl,Ku0]⟩
 | cons c l ih =>
  intro i m hl hm
  obtain ⟨hi,hx,hd⟩:=Ktn hl
  have hi2:(i:Int) < 1099511627776:=by omega
  rw [Kch.eq_def]
  simp only
  rw [Ks9 hi,if_pos rfl,hx,bs,Ktu,bs]
  have he:Ku4 ty (m + 1) i=(match (if Ktr c=-1 then none else skip (m + (Ktr c).toNat) l) with | some r=>((ty.length - r.length:Nat):Int) | none=>-1):=by
   unfold Ku4; rw [hl,Ku1]
  rw [he]
  by_cases hk:Ktr c=-1
  ·rw [if_pos hk,hk]
   exact ⟨.inr (-1),rfl,rfl⟩
  ·rw [if_neg hk]
   have hk0:0 ≤ Ktr c∧Ktr c ≤ 2:=by rcases Ktv c with h | h | h | h <;> omega
   obtain ⟨k,hkk⟩:∃ k:Nat,Ktr c=(k:Int):=⟨(Ktr c).toNat,by omega⟩
   rw [decide_eq_false (by omega),if_neg (by decide),hkk,Int.toNat_natCast]
   rw [Ks6 (x:=((m + 1:Nat):Int) - 1) (by omega) (by omega),show ((m + 1:Nat):Int) - 1=(m:Int) by omega,Ks6 (x:=(m:Int) + (k:Int)) (by omega) (by omega),Ks8 (by omega)]
   by_cases h0:m + k=0
   ·rw [show ((m:Int) + (k:Int) == 0)=true by simp; omega,if_pos rfl,h0,Ktz]
    refine ⟨_,rfl,?_⟩
    have:l.length=ty.length - (i + 1):=by rw [← hd,List.length_drop]
    simp only
    omega
   ·rw [show ((m:Int) + (k:Int) == 0)=false by simp; omega,if_neg (by decide)]
    obtain ⟨q,hq⟩:∃ q,m + k=q + 1:=⟨m + k - 1,by omega⟩
    have:=ih (i + 1) q hd (by omega)
    rw [show (m:Int) + (k:Int)=((q + 1:Nat):Int) by omega]
    obtain ⟨x,h1,h2⟩:=this
    exact ⟨x,h1,by rw [h2,hq]; unfold Ku4; rw [hd]⟩
theorem Ku6 (ty:List Int) (hty:ty.length ≤ 1099511627776) (i:Nat) (hi:i ≤ ty.length):Kck (ty,(i:Int))=some (Ku4 ty 1 i):=by
 unfold Kck
 obtain ⟨x,h1,h2⟩:=Ku5 ty hty _ i 0 rfl (by omega)
 simp only
 rw [show (1:Int)=((0 + 1:Nat):Int) from rfl,h1,bs]
 rw [← h2]
 cases x <;> rfl
theorem Ku7 (ty:List Int) (i:Nat) (hi:i ≤ ty.length):Ku4 ty 2 i=(if Ku4 ty 1 i=-1 then -1 else Ku4 ty 1 (Ku4 ty 1 i).toNat):=by
 unfold Ku4
 rw [show 2=1 + 1 from rfl,Ku2]
 cases h:skip 1 (ty.drop i) with
 | none=>simp
 | some r =>
  obtain ⟨p,hp,hl⟩:=Ku3 _ _ _ h
  have hlen:ty.length - i=p.length + r.length:=by rw [← List.length_drop,hp,List.length_append]
  have:ty.drop (ty.length - r.length)=r:=by
   have e:ty.drop (ty.length - r.length)=(ty.drop i).drop p.length:=by rw [List.drop_drop]; congr 1; omega
   rw [e,hp,List.drop_left]
  simp only [Option.bind_some]
  rw [if_neg (by omega),Int.toNat_natCast,this]
theorem Ku8 (ty:List Int) (hty:ty.length ≤ 1099511627776):∀ (d i:Nat),ty.length - i=d→Kj1 (ty,(i:Int))=some (Ku4 ty 1 i):=by
 intro d
 induction d using Nat.strongRecOn with
 | ind d ih =>
  intro i hd
  rw [Kj1.eq_def]
  simp only
  rw [decide_eq_false (by omega:¬ (i:Int) < 0)]
  simp only [Bool.false_eq_true,if_false,bs]
  by_cases hi:i < ty.length
  ·rw [decide_eq_false (by omega),if_neg (by decide),Ks7 hi,bs,Ktx,bs]
   have hdr:=List.drop_eq_getElem_cons hi
   have he:∀ k:Nat,Ktr ty[i]=(k:Int)→Ku4 ty 1 i=Ku4 ty k (i + 1):=fun k hk=>by
    unfold Ku4
    rw [hdr,show 1=0 + 1 from rfl,Ku1,hk,if_neg (by omega),Int.toNat_natCast,Nat.zero_add]
   have hn:Ktr ty[i]=-1→Ku4 ty 1 i=-1:=fun hk=>by
    unfold Ku4
    rw [hdr,show 1=0 + 1 from rfl,Ku1,if_pos hk]
   have i1:=ih (ty.length - (i + 1)) (by omega) (i + 1) rfl
   have hz:∀ i:Nat,i ≤ ty.length→Ku4 ty 0 i=(i:Int):=fun i hi=>by unfold Ku4; rw [Ktz]; simp only [List.length_drop]; omega
   rw [Ks8 (by omega)]
   have two:Ktr ty[i]=2→((Kj1 (ty,((i + 1:Nat):Int))) >>= fun r_11_4=>(Kj1 (ty,r_11_4)) >>= fun r_11_5=>some r_11_5)=some (Ku4 ty 1 i):=fun hk=>by
    rw [i1,bs,he 2 hk,Ku7 ty (i + 1) (by omega)]
    by_cases h1:Ku4 ty 1 (i + 1)=-1
    ·rw [h1,if_pos rfl,Kj1.eq_def]; rfl
    ·rw [if_neg h1]
     obtain ⟨e,hee,hlo⟩:∃ e:Nat,Ku4 ty 1 (i + 1)=(e:Int)∧i + 1 < e:=by
      unfold Ku4 at h1 ⊢
      cases hs:skip 1 (ty.drop (i + 1)) with
      | none=>rw [hs] at h1; exact absurd rfl h1
      | some r =>
       obtain ⟨p,hp,hl⟩:=Ku3 _ _ _ hs
       have hlen:ty.length - (i + 1)=p.length + r.length:=by rw [← List.length_drop,hp,List.length_append]
       exact ⟨_,rfl,by omega⟩
     rw [hee,Int.toNat_natCast,ih (ty.length - e) (by omega) e rfl,bs]
   rcases Kty ty[i] with ⟨h,e⟩ | ⟨h,e⟩ | ⟨h,e⟩ | ⟨h,e⟩ | ⟨h,e⟩ | ⟨h,e⟩ | ⟨h,e⟩ | ⟨h,e⟩ <;> rw [e] <;> simp only []
   ·have hk:Ktr ty[i]=0:=by rcases Ktv ty[i] with h | h | h | h <;> omega
    rw [if_pos (by rfl),he 0 hk,hz _ (by omega)]
   ·have hk:Ktr ty[i]=2:=by rcases Ktv ty[i] with h | h | h | h <;> omega
    exact two hk
   ·have hk:Ktr ty[i]=2:=by rcases Ktv ty[i] with h | h | h | h <;> omega
    exact two hk
   ·have hk:Ktr ty[i]=2:=by rcases Ktv ty[i] with h | h | h | h <;> omega
    exact two hk
   ·have hk:Ktr ty[i]=2:=by rcases Ktv ty[i] with h | h | h | h <;> omega
    exact two hk
   ·have hk:Ktr ty[i]=1:=by rcases Ktv ty[i] with h | h | h | h <;> omega
    rw [he 1 hk,if_neg (by decide),if_pos (by rfl),i1,bs]
   ·have hk:Ktr ty[i]=1:=by rcases Ktv ty[i] with h | h | h | h <;> omega
    rw [he 1 hk,if_neg (by decide),if_pos (by rfl),i1,bs]
   ·have hk:Ktr ty[i]=-1:=by rcases Ktv ty[i] with h | h | h | h <;> omega
    rw [hn hk]; rfl
  ·rw [decide_eq_true (by omega),if_pos rfl]
   unfold Ku4
   rw [List.drop_eq_nil_of_le (by omega),Ku0]
def wtB (ty:List Int):Bool:=decide (ty.length ≤ 40) && (skip 1 ty == some [])
theorem Ku9 (ty:List Int):(Ku4 ty 1 0 == (ty.length:Int))=(skip 1 ty == some []):=by
 unfold Ku4
 rw [List.drop_zero]
 cases h:skip 1 ty with
 | none=>simp
 | some r =>
  obtain ⟨p,hp,hl⟩:=Ku3 _ _ _ h
  have hlen:ty.length=p.length + r.length:=by rw [hp,List.length_append]
  cases r with
  | nil=>simp
  | cons x xs =>
   simp only [List.length_cons] at hlen ⊢
   simp
   omega
theorem Kua (ty:List Int) (hty:ty.length ≤ 1099511627776):Kcn ty=some (wtB ty):=by
 unfold Kcn wtB
 by_cases h:ty.length ≤ 40
 ·rw [decide_eq_true (by omega:(ty.length:Int) ≤ 40),if_pos rfl,show (0:Int)=((0:Nat):Int) from rfl,Ku6 ty hty 0 (by omega),bs,Ku9,decide_eq_true h]
  cases hs:skip 1 ty == some [] with
  | false=>rfl
  | true =>
   have:0 < ty.length:=by
    rcases ty with _ | ⟨c,l⟩
    ·rw [show skip 1 []=none from rfl] at hs; cases hs
    ·simp
   rw [if_pos rfl,decide_eq_true (by omega:(ty.length:Int) > ((0:Nat):Int))]; rfl
 ·rw [decide_eq_false (by omega:¬ (ty.length:Int) ≤ 40),decide_eq_false h]; rfl
theorem Kub (ty:List Int) (hty:ty.length ≤ 1099511627776):Kj4 ty=some (wtB ty):=by
 unfold Kj4 wtB
 rw [iIn,bs]
 by_cases h:ty.length ≤ 40
 ·rw [decide_eq_true h]
  by_cases h1:1 ≤ ty.length
  ·have:inB (ty.length:Int) 1 40=true:=by simp only [inB,Bool.and_eq_true,decide_eq_true_eq]; omega
   rw [this,if_pos rfl,show (0:Int)=((0:Nat):Int) from rfl,Ku8 ty hty _ 0 rfl,bs,Ku9]; rfl
  ·have:inB (ty.length:Int) 1 40=false:=by rw [Bool.eq_false_iff]; intro h'; simp only [inB,Bool.and_eq_true,decide_eq_true_eq] at h'; omega
   have e:ty=[]:=List.length_eq_zero_iff.1 (by omega)
   rw [this,e]; rfl
 ·have:inB (ty.length:Int) 1 40=false:=by rw [Bool.eq_false_iff]; intro h'; simp only [inB,Bool.and_eq_true,decide_eq_true_eq] at h'; omega
  rw [this,decide_eq_false h]; rfl
def Kuc (c:Int):Int:=if 35 ≤ c then -1 else if 19 ≤ c then c - 19 else c - 3
def Kud (size:Int) (closed:Bool) (c:Int):Bool:=!(decide (Ktr c > 0) && decide (c > 2) && (decide (Kuc c ≥ size) || closed && decide (Kuc c < 0)))
theorem Kue {c:Int} (h:Ktr c > 0):Kcq c=some (Kuc c):=by
 have:0 ≤ c∧c ≤ 36:=by rcases Ktv c with h | h | h | h <;> omega
 unfold Kcq Kuc
 by_cases h1:35 ≤ c
 ·rw [decide_eq_true (by omega:c ≥ 35),if_pos rfl,if_pos h1]
 ·rw [decide_eq_false (by omega:¬ c ≥ 35),if_neg (by decide),if_neg h1]
  by_cases h2:19 ≤ c
  ·rw [decide_eq_true (by omega:c ≥ 19),if_pos rfl,if_pos h2,Ks6 (by omega) (by omega)]
  ·rw [decide_eq_false (by omega:¬ c ≥ 19),if_neg (by decide),if_neg h2,Ks6 (by omega) (by omega)]
theorem Kuf (ty:List Int) (hty:ty.length ≤ 1099511627776) (size:Int) (cl:Bool):∀ (l:List Int) (i:Nat),ty.drop i=l→Kcv (ty,size,cl,(i:Int))=some (if l.all (Kud size cl) then .inl () else .inr false):=by
 intro l
 induction l with
 | nil =>
  intro i hl
  rw [Kcv.eq_def]
  simp only
  rw [Ksa (Kto hl)]; rfl
 | cons c l ih =>
  intro i hl
  obtain ⟨hi,hx,hd⟩:=Ktn hl
  rw [Kcv.eq_def]
  simp only
  rw [Ks9 hi,if_pos rfl,hx,bs,bs,Ktu,bs,Ks8 (by omega)]
  have ih:=ih (i + 1) hd
  generalize ((i + 1:Nat):Int)=M at ih ⊢
  rw [List.all_cons]
  unfold Kud at ih ⊢
  by_cases hk:Ktr c > 0
  ·simp only [bs,Kue hk]
   rw [decide_eq_true hk]
   generalize Kuc c=g at ih ⊢
   cases decide (c > 2) <;> cases decide (g ≥ size) <;> cases cl <;> cases decide (g < 0) <;> simp [bs,ih]
  ·rw [decide_eq_false hk]; simp [bs,ih]
theorem Kug (ty:List Int) (hty:ty.length ≤ 1099511627776) (size:Int) (cl:Bool):Kcy (ty,size,cl)=some (ty.all (Kud size cl)):=by
 unfold Kcy
 simp only
 rw [show (0:Int)=((0:Nat):Int) from rfl,Kuf ty hty size cl _ 0 rfl,List.drop_zero,bs]
 cases ty.all (Kud size cl) <;> rfl
theorem Kuh {α β:Type} {a:Option α} {f:α→Option β} {x:α} (h:a=some x):(a >>= f)=f x:=by rw [h]; rfl
mutual
def tsz:K01→Nat
 | ⟨_,_,_,ks⟩=>1 + Kui ks
def Kui:List K01→Nat
 | []=>0
 | k :: ks=>tsz k + Kui ks
end
mutual
def tms:K01→Nat
 | ⟨_,_,ty,ks⟩=>ty.length + ks.length + Kuj ks
def Kuj:List K01→Nat
 | []=>0
 | k :: ks=>tms k + Kuj ks
end
theorem Kuk (t:K01):tms t=t.fType.length + t.fKids.length + Kuj t.fKids:=by cases t; rw [tms]
theorem Kul (t:K01):tsz t=1 + Kui t.fKids:=by cases t; rw [tsz]
def Kum (left n:Nat):Int:=if n ≤ left then ((left - n:Nat):Int) else -1
theorem Kun {left n:Nat} (h:n ≤ left):Kum left n=((left - n:Nat):Int):=if_pos h
theorem Kuo {left n:Nat} (h:¬ n ≤ left):Kum left n=-1:=if_neg h
theorem Kup (t:K01) (i:Int):Kda (t,-1,i)=some (-1):=by
 rw [Kda.eq_def]
 simp only
 cases decide (i < (t.fKids.length:Int)) <;> rfl
mutual
theorem Kuq:∀ (t:K01) (left:Nat),tms t ≤ 1099511627776→left ≤ 1048576→Kd9 (t,(left:Int))=some (Kum left (tsz t))
 | ⟨op,N,ty,ks⟩,left,ht,hl=>by
  rw [tms] at ht
  rw [Kd9.eq_def,tsz]
  simp only
  rcases left with _ | l
  ·rw [show wr (((0:Nat):Int) - 1)=-1 from Ks6 (by omega) (by omega),Kup,bs,Kuo (by omega)]
  ·have h:=Kur ks ⟨op,N,ty,ks⟩ 0 l rfl (by simp only; omega) (by omega) (by omega)
   rw [Ks6 (by omega) (by omega),show ((l + 1:Nat):Int) - 1=(l:Int) by omega,show (0:Int)=((0:Nat):Int) from rfl,h,bs]
   unfold Kum
   by_cases q:Kui ks ≤ l
   ·rw [if_pos q,if_pos (by omega),show l + 1 - (1 + Kui ks)=l - Kui ks by omega]
   ·rw [if_neg q,if_neg (by omega)]
theorem Kur:∀ (ks:List K01) (t:K01) (i left:Nat),t.fKids.drop i=ks→t.fKids.length ≤ 1099511627776→Kuj ks ≤ 1099511627776→left ≤ 1048576→Kda (t,(left:Int),(i:Int))=some (Kum left (Kui ks))
 | [],t,i,left,hd,hk,ht,hl=>by
  rw [Kda.eq_def,Kui]
  simp only
  rw [Ksa (Kto hd)]
  simp [bs,Kum]
 | k :: ks,t,i,left,hd,hk,ht,hl=>by
  obtain ⟨hi,hx,hd'⟩:=Ktn hd
  rw [Kuj] at ht
  rw [Kda.eq_def,Kui]
  simp only
  rw [Ks9 hi,if_pos rfl,bs,decide_eq_true (by omega:((left:Nat):Int) ≥ 0),if_pos rfl,hx,bs,Kuq k left (by omega) hl,bs,Ks8 (by omega)]
  by_cases q:tsz k ≤ left
  ·rw [Kun q,Kur ks t (i + 1) (left - tsz k) hd' hk (by omega) (by omega)]
   unfold Kum
   by_cases q2:Kui ks ≤ left - tsz k
   ·rw [if_pos q2,if_pos (by omega)]; congr 2; omega
   ·rw [if_neg q2,if_neg (by omega)]
  ·rw [Kuo q,Kup,Kuo (by omega)]
end
def Kus (op:Int):Int:=if inB op 0 12 then ([0,0,2,3,2,2,1,1,3,1,2,1,2]:List Int).getD op.toNat 0 else -1
def Kut (op:Int):Bool:=op == 5 || op == 8 || op == 9 || op == 11 || op == 12
def Kuu (op:Int):Bool:=op == 6 || op == 7 || op == 9
def Kuv (op:Int):ByteArray:=([ByteArray.mk #[120],ByteArray.empty,ByteArray.mk #[97,100,100],ByteArray.mk #[105,102],ByteArray.mk #[112,97,105,114],ByteArray.mk #[115,112,108,105,116],ByteArray.mk #[108,101,102,116],
 ByteArray.mk #[114,105,103,104,116],ByteArray.mk #[99,97,115,101],ByteArray.mk #[102,117,110],ByteArray.mk #[97,112,112],ByteArray.mk #[98,111,120],ByteArray.mk #[111,112,101,110]]:List ByteArray).getD op.toNat ByteArray.empty
theorem Kuw {op:Int} (h:inB op 0 12=true):op=0∨op=1∨op=2∨op=3∨op=4∨op=5∨op=6∨op=7∨op=8∨op=9∨op=10∨op=11∨op=12:=by
 simp only [inB,Bool.and_eq_true,decide_eq_true_eq] at h
 omega
theorem Kux (op:Int):Kdg op=some (Kus op):=by
 unfold Kdg Kus
 rw [sIn,bs]
 cases h:inB op 0 12
 ·rfl
 ·rcases Kuw h with rfl | rfl | rfl | rfl | rfl | rfl | rfl | rfl | rfl | rfl | rfl | rfl | rfl <;> rfl
theorem Kuy (op:Int):Kdj op=some (Kut op):=by
 unfold Kdj Kut
 cases op == 5 <;> cases op == 8 <;> cases op == 9 <;> cases op == 11 <;> rfl
theorem Kuz (op:Int):Kdm op=some (Kuu op):=by
 unfold Kdm Kuu
 cases op == 6 <;> cases op == 7 <;> rfl
def Kv0 (op:Int):K04 × Bool:=if inB op 0 12 then (K04.mk (Kuv op) (Kus op) (Kut op) (Kuu op),true) else (K04.mk ByteArray.empty 0 false false,false)
theorem Kv1 (op:Int):Kju op=some (Kv0 op):=by
 unfold Kju Kv0
 rw [iIn,bs]
 cases h:inB op 0 12
 ·rfl
 ·rcases Kuw h with rfl | rfl | rfl | rfl | rfl | rfl | rfl | rfl | rfl | rfl | rfl | rfl | rfl <;> rfl
def Kv2 (op kid:Int):Nat:=if op == 5 && kid == 1 then 2 else if (op == 8 && decide (kid > 0)) || op == 9 || (op == 12 && kid == 1) then 1 else 0
theorem Kv3 (op kid:Int):Kv2 op kid ≤ 2:=by unfold Kv2; split <;> (try split) <;> omega
theorem Kv4 (op kid:Int):Kdv (op,kid)=some ((Kv2 op kid:Nat):Int):=by
 unfold Kdv Kv2
 simp only
 generalize (op == 5)=b1
 generalize (op == 8)=b2
 generalize (op == 9)=b3
 generalize (op == 12)=b4
 generalize (kid == 1)=b5
 generalize decide (kid > 0)=b6
 cases b1 <;> cases b2 <;> cases b3 <;> cases b4 <;> cases b5 <;> cases b6 <;> rfl
theorem Kv5 (op kid:Int):Kk0 (op,kid)=some ((Kv2 op kid:Nat):Int):=by
 unfold Kk0 Kv2
 simp only
 generalize (op == 5)=b1
 generalize (op == 8)=b2
 generalize (op == 9)=b3
 generalize (op == 12)=b4
 generalize (kid == 1)=b5
 generalize decide (kid > 0)=b6
 cases b1 <;> cases b2 <;> cases b3 <;> cases b4 <;> cases b5 <;> cases b6 <;> rfl
def Kv6 (g:Int→Bool) (n:Int) (t:K01):Bool:=if t.fOp == 0 then inB t.fN 0 (n - 1) else if t.fOp == 1 then inB t.fN 0 2 else if Kut t.fOp then g t.fN else t.fN == 0
def Kv7 (y:List Int→Bool) (t:K01):Bool:=if Kuu t.fOp then y t.fType else (t.fType.length:Int) == 0
def Kv8 (g:Int→Bool) (y:List Int→Bool) (n:Int) (t:K01):Bool:=inB t.fOp 0 12 && ((t.fKids.length:Int) == Kus t.fOp) && Kv6 g n t && Kv7 y t
mutual
def tOk (g:Int→Bool) (y:List Int→Bool):Nat→K01→Bool
 | n,⟨op,N,ty,ks⟩=>Kv8 g y (n:Int) ⟨op,N,ty,ks⟩ && Kv9 g y op n 0 ks
def Kv9 (g:Int→Bool) (y:List Int→Bool):Int→Nat→Nat→List K01→Bool
 | _,_,_,[]=>true
 | op,n,i,k :: ks=>tOk g y (n + Kv2 op (i:Int)) k && Kv9 g y op n (i + 1) ks
end
theorem Kva (g:Int→Bool) (y:List Int→Bool) (n:Nat) (t:K01):tOk g y n t=(Kv8 g y (n:Int) t && Kv9 g y t.fOp n 0 t.fKids):=by cases t; rw [tOk]
def gN (size:Int) (cl:Bool) (x:Int):Bool:=!(decide (x ≥ size) || decide (x < -1) || cl && decide (x < 0))
def yN (size:Int) (cl:Bool) (ty:List Int):Bool:=wtB ty && ty.all (Kud size cl)
theorem Kvb (t:K01) (n:Nat) (size:Int) (cl:Bool) (hty:t.fType.length ≤ 1099511627776) (hn:n ≤ 35184372088832):Kds (t,(n:Int),size,cl)=some (Kv8 (gN size cl) (yN size cl) (n:Int) t):=by
 unfold Kds Kv8
 simp only
 rw [Kux,bs]
 by_cases hk:(t.fKids.length:Int)=Kus t.fOp
 ·have hop:inB t.fOp 0 12=true:=by
   cases h:inB t.fOp 0 12
   ·unfold Kus at hk; rw [h] at hk; simp at hk
   ·rfl
  rw [show ((t.fKids.length:Int) != Kus t.fOp)=false by rw [hk]; exact Ksg,if_neg (by decide),show ((t.fKids.length:Int) == Kus t.fOp)=true by rw [hk]; simp,hop]
  refine (Kuh (x:=if Kv6 (gN size cl) (n:Int) t then .inl () else .inr false) ?_).trans ?_
  ·unfold Kv6 gN
   rw [sIn,Ks6 (by omega) (by omega),sIn,Kuy]
   simp only [bs]
   generalize inB t.fN 0 ((n:Int) - 1)=b1
   generalize inB t.fN 0 2=b2
   generalize Kut t.fOp=b3
   rw [show (t.fN != 0)=!(t.fN == 0) from rfl]
   generalize (t.fN == 0)=b4
   generalize decide (t.fN ≥ size)=b5
   generalize decide (t.fN < -1)=b6
   generalize decide (t.fN < 0)=b7
   generalize (t.fOp == 0)=b8
   generalize (t.fOp == 1)=b9
   cases b8
   ·cases b9
    ·cases b3
     ·cases b4 <;> rfl
     ·cases b5 <;> cases b6 <;> cases cl <;> cases b7 <;> rfl
    ·cases b2 <;> rfl
   ·cases b1 <;> rfl
  ·cases Kv6 (gN size cl) (n:Int) t
   ·simp
   ·unfold Kv7 yN
    simp only [if_true]
    rw [Kuz,bs]
    cases Kuu t.fOp
    ·simp
    ·simp only [if_true]
     rw [Kua _ hty,Kug _ hty]
     cases wtB t.fType <;> simp [bs]
 ·rw [show ((t.fKids.length:Int) != Kus t.fOp)=true by simpa using hk,if_pos rfl,show ((t.fKids.length:Int) == Kus t.fOp)=false by simpa using hk]
  simp
mutual
theorem Kvc (size:Int) (cl:Bool):∀ (t:K01) (n:Nat),tms t ≤ 1099511627776→n + 2 * tms t ≤ 35184372088832→Kdz (t,(n:Int),size,cl)=some (tOk (gN size cl) (yN size cl) n t)
 | ⟨op,N,ty,ks⟩,n,ht,hn=>by
  rw [tms] at ht hn
  rw [Kdz.eq_def,tOk]
  simp only
  rw [Kvb _ n size cl (by simp only; omega) (by omega),bs]
  cases hb:Kv8 (gN size cl) (yN size cl) (n:Int) ⟨op,N,ty,ks⟩
  ·rfl
  ·have h:=Kvd size cl ks ⟨op,N,ty,ks⟩ n 0 rfl (by simp only; omega) (by omega) (by omega)
   rw [if_pos rfl,show (0:Int)=((0:Nat):Int) from rfl,h,bs]
   simp only
   cases Kv9 (gN size cl) (yN size cl) op n 0 ks <;> rfl
theorem Kvd (size:Int) (cl:Bool):∀ (ks:List K01) (t:K01) (n i:Nat),t.fKids.drop i=ks→t.fKids.length ≤ 1099511627776→Kuj ks ≤ 1099511627776→n + 2 * (ks.length + Kuj ks) ≤ 35184372088832 →
  Ke0 (t,(n:Int),size,cl,(i:Int))=some (if Kv9 (gN size cl) (yN size cl) t.fOp n i ks then .inl () else .inr false)
 | [],t,n,i,hd,hk,ht,hn=>by
  rw [Ke0.eq_def,Kv9]
  simp only
  rw [Ksa (Kto hd)]; rfl
 | k :: ks,t,n,i,hd,hk,ht,hn=>by
  obtain ⟨hi,hx,hd'⟩:=Ktn hd
  rw [Kuj] at ht hn
  rw [List.length_cons] at hn
  have ha:=Kv3 t.fOp (i:Int)
  rw [Ke0.eq_def,Kv9]
  simp only
  rw [Ks9 hi,if_pos rfl,hx,bs,Kv4,bs,Ks6 (by omega) (by omega),show (n:Int) + ((Kv2 t.fOp (i:Int):Nat):Int)=((n + Kv2 t.fOp (i:Int):Nat):Int) by omega]
  rw [Kvc size cl k (n + Kv2 t.fOp (i:Int)) (by omega) (by omega),bs,Ks8 (by omega)]
  cases tOk (gN size cl) (yN size cl) (n + Kv2 t.fOp (i:Int)) k
  ·rfl
  ·rw [if_pos rfl,Kvd size cl ks t n (i + 1) hd' hk (by omega) (by omega),Bool.true_and]
end
def Kve (ok:Bool) (nodes sz:Nat):Int:=if ok && decide (nodes + sz ≤ 400) then ((nodes + sz:Nat):Int) else 401
def szB (left:Int) (n:Nat):Int:=if left - (n:Int) < 0 then -1 else left - (n:Int)
theorem Kvf (left:Int) (n:Nat):(szB left n=-1∧left < n)∨(szB left n=left - n∧(n:Int) ≤ left):=by
 unfold szB
 by_cases h:left - (n:Int) < 0
 ·rw [if_pos h]; left; omega
 ·rw [if_neg h]; right; omega
theorem Kvg (a:List Int) (left:Int) (h1:0 ≤ left) (h2:left ≤ 1048576) (ha:a.length ≤ 9223372036854775807):K8u (a,left)=some (szB left a.length):=by
 unfold K8u szB
 simp only
 rw [Ks6 (by omega) (by omega)]
 by_cases h:left - (a.length:Int) < 0
 ·rw [decide_eq_true h,if_pos rfl,if_pos h]
 ·rw [decide_eq_false h,if_neg (by decide),if_neg h]
mutual
def tln:K01→Prop
 | ⟨_,N,ty,ks⟩=>ty.length ≤ 9223372036854775807∧ks.length ≤ 9223372036854775807∧Kvh ks∧(-9223372036854775808 ≤ N∧N ≤ 9223372036854775807)
def Kvh:List K01→Prop
 | []=>True
 | k :: ks=>tln k∧Kvh ks
end
mutual
theorem Kvi:∀ (t:K01) (left:Int),tln t→0 ≤ left→left ≤ 1048576→K9b (t,left)=some (szB left (tms t))
 | ⟨op,N,ty,ks⟩,left,hl,h1,h2=>by
  rw [tln] at hl
  rw [K9b.eq_def,tms]
  simp only
  rw [Kvg ty left h1 h2 hl.1,bs]
  rcases Kvf left ty.length with ⟨e,h⟩ | ⟨e,h⟩
  ·rw [e,decide_eq_true (by decide),if_pos rfl]
   unfold szB; rw [if_pos (by omega)]
  ·rw [e,decide_eq_false (by omega),if_neg (by decide),K9c.eq_def]
   simp only
   rw [Ks6 (by omega) (by omega)]
   by_cases h3:left - (ty.length:Int) - (ks.length:Int) < 0
   ·rw [decide_eq_true h3,if_pos rfl,bs,decide_eq_true (by decide),if_pos rfl]
    unfold szB; rw [if_pos (by omega)]
   ·obtain ⟨m,hm⟩:∃ m:Nat,left - (ty.length:Int) - (ks.length:Int)=(m:Int):=⟨(left - (ty.length:Int) - (ks.length:Int)).toNat,by omega⟩
    rw [decide_eq_false h3,if_neg (by decide),hm,show (0:Int)=((0:Nat):Int) from rfl,Kvj ks ks 0 m rfl hl.2.1 hl.2.2.1 (by omega),bs]
    unfold szB
    by_cases q:m < Kuj ks
    ·rw [if_pos q,if_pos (by omega)]; rfl
    ·rw [if_neg q,if_neg (by omega)]
     simp only [bs]
     rw [decide_eq_false (by omega),if_neg (by decide)]; congr 1; omega
theorem Kvj:∀ (ks a:List K01) (i left:Nat),a.drop i=ks→a.length ≤ 9223372036854775807→Kvh ks→left ≤ 1048576→K9d (a,(left:Int),(i:Int))=some (if left < Kuj ks then .inr (-1) else .inl ((left - Kuj ks:Nat):Int))
 | [],a,i,left,hd,ha,hl,h=>by
  rw [K9d.eq_def,Kuj]
  simp only
  rw [Ksa (Kto hd)]
  simp
 | k :: ks,a,i,left,hd,ha,hl,h=>by
  obtain ⟨hi,hx,hd'⟩:=Ktn hd
  rw [Kvh] at hl
  rw [K9d.eq_def,Kuj]
  simp only
  rw [Ks9 hi,if_pos rfl,hx,bs,Kvi k left hl.1 (by omega) (by omega),bs,Ks8 (by omega)]
  rcases Kvf left (tms k) with ⟨e,q⟩ | ⟨e,q⟩
  ·rw [e,decide_eq_true (by decide),if_pos rfl,if_pos (by omega)]
  ·rw [e,decide_eq_false (by omega),if_neg (by decide),show (left:Int) - ((tms k:Nat):Int)=((left - tms k:Nat):Int) by omega,Kvj ks a (i + 1) (left - tms k) hd' ha hl.2 (by omega)]
   by_cases q2:left - tms k < Kuj ks
   ·rw [if_pos q2,if_pos (by omega)]
   ·rw [if_neg q2,if_neg (by omega)]; congr 3; omega
end
mutual
theorem Kvk:∀ (t:K01),tms t ≤ 1099511627776→Kaa t=some t
 | ⟨op,N,ty,ks⟩,h=>by
  rw [tms] at h
  rw [Kaa.eq_def]
  simp only
  rw [Ksd ty (by omega),bs,Kab.eq_def]
  have:chk (0 ≤ (ks.length:Int)∧(Int.toNat (ks.length:Int)) * 64 ≤ 140737488355328)=some ():=by
   unfold chk; rw [if_pos]; refine ⟨by omega,?_⟩; rw [Int.toNat_natCast]; omega
  rw [this,bs,Int.toNat_natCast,show (0:Int)=((0:Nat):Int) from rfl,Kvl ks ks (List.replicate ks.length (K01.mk ((0:Nat):Int) ((0:Nat):Int) [] [])) 0 rfl (by omega) (by omega) (by simp) rfl]
  rfl
theorem Kvl:∀ (ks a out:List K01) (i:Nat),a.drop i=ks→a.length ≤ 1099511627776→Kuj ks ≤ 1099511627776→out.length=a.length→out.take i=a.take i→Kac (a,out,(i:Int))=some a
 | [],a,out,i,hd,ha,hl,ho,ht=>by
  rw [Kac.eq_def]
  simp only
  have hle:=Kto hd
  rw [Ksa hle]
  rw [List.take_of_length_le (by omega),List.take_of_length_le (by omega)] at ht
  simp [ht]
 | k :: ks,a,out,i,hd,ha,hl,ho,ht=>by
  obtain ⟨hi,hx,hd'⟩:=Ktn hd
  have hk:a[i]=k:=by rw [Ks7 hi] at hx; exact Option.some.inj hx
  rw [Kuj] at hl
  rw [Kac.eq_def]
  simp only
  rw [Ks9 hi,if_pos rfl,hx,bs,Kvk k (by omega),bs,Ks7 (by omega),bs,Ks8 (by omega),Int.toNat_natCast]
  exact Kvl ks a _ (i + 1) hd' ha (by omega) (by simpa using ho) (by rw [← hk]; exact Ksb ho hi ht)
end
mutual
theorem Kvm:∀ (t:K01),tms t ≤ 1099511627776→Kpt (t,t)=some true
 | ⟨op,N,ty,ks⟩,h=>by
  rw [tms] at h
  rw [Kpt.eq_def]
  simp only
  rw [Ksg,if_neg (by decide),Ksg,if_neg (by decide),Ksi ty (by omega),bs,if_pos rfl,Kpu.eq_def]
  simp only
  rw [Ksg,if_neg (by decide),show (0:Int)=((0:Nat):Int) from rfl,Kvn ks ks 0 rfl (by omega) (by omega)]
  rfl
theorem Kvn:∀ (ks a:List K01) (i:Nat),a.drop i=ks→a.length ≤ 1099511627776→Kuj ks ≤ 1099511627776→Kpv (a,a,(i:Int))=some (.inl ())
 | [],a,i,hd,ha,hl=>by
  rw [Kpv.eq_def]
  simp only
  rw [Ksa (Kto hd)]
  rfl
 | k :: ks,a,i,hd,ha,hl=>by
  obtain ⟨hi,hx,hd'⟩:=Ktn hd
  rw [Kuj] at hl
  rw [Kpv.eq_def]
  simp only
  rw [Ks9 hi,if_pos rfl,hx,bs,bs,Kvm k (by omega),bs,if_pos rfl,Ks8 (by omega)]
  exact Kvn ks a (i + 1) hd' ha (by omega)
end
theorem Kvo {ty:List Int} (h:wtB ty=true):ty.length ≤ 40:=by
 unfold wtB at h
 rw [Bool.and_eq_true,decide_eq_true_eq] at h
 exact h.1
theorem Kvp {g:Int→Bool} {y:List Int→Bool} {n:Nat} {t:K01} (h:tOk g y n t=true):Kv8 g y (n:Int) t=true∧Kv9 g y t.fOp n 0 t.fKids=true:=by
 rw [Kva,Bool.and_eq_true] at h; exact h
theorem Kvq {n b:Nat} (h:n * b ≤ 140737488355328):Qd6 n b=some ():=by unfold Qd6 chk; rw [if_pos h]
theorem Kvr {g:Int→Bool} {y:List Int→Bool} {n:Int} {t:K01} (h:Kv8 g y n t=true):inB t.fOp 0 12=true∧(t.fKids.length:Int)=Kus t.fOp:=by
 unfold Kv8 at h
 simp only [Bool.and_eq_true,beq_iff_eq] at h
 exact ⟨h.1.1.1,h.1.1.2⟩
theorem Kvs (l:List Int) (h:l.length ≤ 1099511627776):Kef l=some l:=by
 unfold Kef
 rw [Kvq (by simp only [List.length_nil]; omega),bs]
theorem Kvt (l:List Int) (h:l.length ≤ 1099511627776):Kld l=some l:=by
 unfold Kld
 rw [Kvq (by simp only [List.length_nil]; omega),bs]
structure Kvu (s:K00) (n:Nat):Prop where
 size:s.fSize=(n:Int)
 lo:2 ≤ n
 hi:n ≤ 16
 lp:s.fPlus.length=n * n
 lt:s.fTimes.length=n * n
 lb:s.fBelow.length=n * n
def Kvv (s:K00) (n i:Nat):Bool:=inB (s.fPlus.getD i 0) 0 ((n:Int) - 1) && inB (s.fTimes.getD i 0) 0 ((n:Int) - 1)
section
variable {s:K00} {n:Nat} (h:Kvu s n)
include h
theorem nn:n * n ≤ 256:=Nat.le_trans (Nat.mul_le_mul h.hi h.hi) (by decide)
theorem Kvw {i:Nat} (hi:i < n * n):idx s.fPlus (i:Int)=some (s.fPlus.getD i 0):=by
 have hl:i < s.fPlus.length:=by rw [h.lp]; exact hi
 rw [Ks7 hl,List.getD_eq_getElem?_getD,List.getElem?_eq_getElem hl]; rfl
theorem Kvx {i:Nat} (hi:i < n * n):idx s.fTimes (i:Int)=some (s.fTimes.getD i 0):=by
 have hl:i < s.fTimes.length:=by rw [h.lt]; exact hi
 rw [Ks7 hl,List.getD_eq_getElem?_getD,List.getElem?_eq_getElem hl]; rfl
theorem Kvy:wr (s.fSize - 1)=(n:Int) - 1:=by
 have:=h.lo; have:=h.hi
 rw [h.size,Ks6 (by omega) (by omega)]
theorem Kvz:∀ (k i:Nat),i + k=n * n→Kao (s,(i:Int))=some (if (List.range' i k).all (Kvv s n) then .inl () else .inr false):=by
 have hn:=nn h
 intro k
 induction k with
 | zero =>
  intro i hm
  rw [Kao.eq_def]
  simp only
  rw [h.lp,Ksa (by omega)]
  rfl
 | succ k ih =>
  intro i hm
  rw [Kao.eq_def]
  simp only
  rw [h.lp,Ks9 (by omega),if_pos rfl,Kvw h (by omega),Kvx h (by omega),Kvy h]
  have ih:=ih (i + 1) (by omega)
  rw [Ks8 (by omega),List.range'_succ,List.all_cons]
  generalize ((i + 1:Nat):Int)=M at ih ⊢
  generalize (List.range' (i + 1) k).all (Kvv s n)=r at ih ⊢
  simp only [bs,sIn]
  cases h1:inB (s.fPlus.getD i 0) 0 ((n:Int) - 1) <;> cases h2:inB (s.fTimes.getD i 0) 0 ((n:Int) - 1) <;> cases r <;> simp only [Kvv,h1,h2,ih,bs,Bool.not_true,Bool.not_false,Bool.true_and,Bool.false_and,Bool.and_true,Bool.and_false,if_true,if_false,Bool.false_eq_true]
theorem Kw0:∀ (k i:Nat),i + k=n * n→Kif (s,(i:Int))=some (if (List.range' i k).all (Kvv s n) then .inl () else .inr false):=by
 have hn:=nn h
 intro k
 induction k with
 | zero =>
  intro i hm
  rw [Kif.eq_def]
  simp only
  rw [h.lp,Ksa (by omega)]
  rfl
 | succ k ih =>
  intro i hm
  rw [Kif.eq_def]
  simp only
  rw [h.lp,Ks9 (by omega),if_pos rfl,Kvw h (by omega),Kvx h (by omega)]
  have ih:=ih (i + 1) (by omega)
  rw [Ks8 (by omega),List.range'_succ,List.all_cons]
  generalize ((i + 1:Nat):Int)=M at ih ⊢
  generalize (List.range' (i + 1) k).all (Kvv s n)=r at ih ⊢
  have hh:∀ x,Khj (s,x)=some (inB x 0 ((n:Int) - 1)):=fun x=>by
   unfold Khj
   simp only
   rw [Kvy h,iIn,bs]
  simp only [bs,hh]
  cases h1:inB (s.fPlus.getD i 0) 0 ((n:Int) - 1) <;> cases h2:inB (s.fTimes.getD i 0) 0 ((n:Int) - 1) <;> cases r <;> simp only [Kvv,h1,h2,ih,bs,Bool.not_true,Bool.not_false,Bool.true_and,Bool.false_and,Bool.and_true,Bool.and_false,if_true,if_false,Bool.false_eq_true]
theorem Kw1 (he:(List.range' 0 (n * n)).all (Kvv s n)=true):Tab s n:=by
 rw [List.all_eq_true] at he
 have hent:∀ i,i < n * n→Kvv s n i=true:=fun i hi=>he i (by rw [List.mem_range'_1]; omega)
 refine ⟨h.size,h.lo,h.hi,h.lp,h.lt,h.lb,fun i hi=>?_,fun i hi=>?_⟩
 ·have:=hent i (by rw [← h.lp]; exact hi)
  simp only [Kvv,inB,Bool.and_eq_true,decide_eq_true_eq,List.getD_eq_getElem?_getD,List.getElem?_eq_getElem hi,Option.getD_some] at this
  omega
 ·have:=hent i (by rw [← h.lt]; exact hi)
  simp only [Kvv,inB,Bool.and_eq_true,decide_eq_true_eq,List.getD_eq_getElem?_getD,List.getElem?_eq_getElem hi,Option.getD_some] at this
  omega
end
def Kw2 (s:K00):Bool:=inB s.fSize 2 16 && !((s.fPlus.length:Int) != (wr (s.fSize * s.fSize))) && !((s.fTimes.length:Int) != (wr (s.fSize * s.fSize))) && !((s.fBelow.length:Int) != (wr (s.fSize * s.fSize)))
theorem Kw3 {s:K00} (h:Kw2 s=true):Kvu s s.fSize.toNat:=by
 unfold Kw2 at h
 simp only [Bool.and_eq_true,Bool.not_eq_true',inB,decide_eq_true_eq,bne_eq_false_iff_eq] at h
 obtain ⟨⟨⟨⟨h1,h2⟩,h3⟩,h4⟩,h5⟩:=h
 obtain ⟨n,hn⟩:∃ n:Nat,s.fSize=(n:Int):=⟨s.fSize.toNat,by omega⟩
 rw [hn] at h1 h2 h3 h4 h5 ⊢
 have h256:n * n ≤ 256:=Nat.le_trans (Nat.mul_le_mul (by omega:n ≤ 16) (by omega:n ≤ 16)) (by decide)
 have e:(n:Int) * (n:Int)=((n * n:Nat):Int):=by simp
 rw [e] at h3 h4 h5
 generalize hm:n * n=m at *
 rw [Ks6 (by omega) (by omega)] at h3 h4 h5
 rw [Int.toNat_natCast]
 exact ⟨hn,by omega,by omega,by omega,by omega,by omega⟩
def Kw4 (s:K00):Bool:=Kw2 s && (List.range' 0 (s.fSize.toNat * s.fSize.toNat)).all (Kvv s s.fSize.toNat) && Ktg s s.fSize.toNat
theorem Kw5 {s:K00} (h:Kw4 s=true):Tab s s.fSize.toNat:=by
 unfold Kw4 at h
 simp only [Bool.and_eq_true] at h
 exact Kw1 (Kw3 h.1.1) h.1.2
theorem Kw6 (s:K00):Kc4 s=some (Kw4 s):=by
 unfold Kc4 Kar Kw4
 rw [sIn]
 cases hf:Kw2 s with
 | false =>
  unfold Kw2 at hf
  cases h1:inB s.fSize 2 16 <;> cases h2:((s.fPlus.length:Int) != (wr (s.fSize * s.fSize))) <;> cases h3:((s.fTimes.length:Int) != (wr (s.fSize * s.fSize))) <;> cases h4:((s.fBelow.length:Int) != (wr (s.fSize * s.fSize))) <;> simp_all [bs]
 | true =>
  have F:=Kw3 hf
  have hl:=Kvz F (s.fSize.toNat * s.fSize.toNat) 0 (by omega)
  rw [show ((0:Nat):Int)=0 from rfl] at hl
  unfold Kw2 at hf
  simp only [Bool.and_eq_true,Bool.not_eq_true'] at hf
  obtain ⟨⟨⟨h1,h2⟩,h3⟩,h4⟩:=hf
  cases he:(List.range' 0 (s.fSize.toNat * s.fSize.toNat)).all (Kvv s s.fSize.toNat) with
  | false=>rw [he] at hl; simp [bs,h1,h2,h3,h4,hl]
  | true =>
   have T:=Kw1 F he
   have hl2:=Ktl T s.fSize.toNat 0 (by omega)
   rw [show ((0:Nat):Int)=0 from rfl] at hl2
   rw [he] at hl
   have hm:(List.range' 0 s.fSize.toNat).all (fun a=>Kt0 s s.fSize.toNat a && (List.range' 0 s.fSize.toNat).all fun b=>Ktd s s.fSize.toNat a b && (List.range' 0 s.fSize.toNat).all fun c=>Kt1 s s.fSize.toNat a b c)=Ktg s s.fSize.toNat:=rfl
   rw [hm] at hl2
   cases hs:Ktg s s.fSize.toNat <;> rw [hs] at hl2 <;> simp [bs,h1,h2,h3,h4,hl,hl2]
theorem Kw7 (s:K00):Kiv s=some (Kw4 s):=by
 unfold Kiv Kw4
 rw [iIn]
 cases hf:Kw2 s with
 | false =>
  unfold Kw2 at hf
  cases h1:inB s.fSize 2 16 <;> cases h2:((s.fPlus.length:Int) != (wr (s.fSize * s.fSize))) <;> cases h3:((s.fTimes.length:Int) != (wr (s.fSize * s.fSize))) <;> cases h4:((s.fBelow.length:Int) != (wr (s.fSize * s.fSize))) <;> simp_all [bs]
 | true =>
  have F:=Kw3 hf
  have hl:=Kw0 F (s.fSize.toNat * s.fSize.toNat) 0 (by omega)
  rw [show ((0:Nat):Int)=0 from rfl] at hl
  unfold Kw2 at hf
  simp only [Bool.and_eq_true,Bool.not_eq_true'] at hf
  obtain ⟨⟨⟨h1,h2⟩,h3⟩,h4⟩:=hf
  cases he:(List.range' 0 (s.fSize.toNat * s.fSize.toNat)).all (Kvv s s.fSize.toNat) with
  | false=>rw [he] at hl; simp [bs,h1,h2,h3,h4,hl]
  | true =>
   have T:=Kw1 F he
   have hl2:=Ktm T s.fSize.toNat 0 (by omega)
   rw [show ((0:Nat):Int)=0 from rfl] at hl2
   rw [he] at hl
   have hm:(List.range' 0 s.fSize.toNat).all (fun a=>Kt0 s s.fSize.toNat a && (List.range' 0 s.fSize.toNat).all fun b=>Ktd s s.fSize.toNat a b && (List.range' 0 s.fSize.toNat).all fun c=>Kt1 s s.fSize.toNat a b c)=Ktg s s.fSize.toNat:=rfl
   rw [hm] at hl2
   cases hs:Ktg s s.fSize.toNat <;> rw [hs] at hl2 <;> simp [bs,h1,h2,h3,h4,hl,hl2]
theorem Kw8 {x:Int} {n:Nat} (h:inB x 0 ((n:Int) - 1)=true):x=((x.toNat:Nat):Int)∧x.toNat < n:=by
 simp only [inB,Bool.and_eq_true,decide_eq_true_eq] at h
 omega
section
variable {s:K00} {n:Nat} (h:Tab s n)
include h
theorem Kw9:wr (s.fSize - 1)=(n:Int) - 1:=by
 have:=h.lo; have:=h.hi
 rw [h.size,Ks6 (by omega) (by omega)]
end
inductive Ty where
 | num
 | bin (c:Int) (a b:Ty)
 | un (c:Int) (a:Ty)
namespace Ty
def code:Ty→List Int
 | num=>[0]
 | bin c a b=>c :: (a.code ++ b.code)
 | un c a=>c :: a.code
def ok:Ty→Prop
 | num=>True
 | bin c a b=>Ktr c=2∧a.ok∧b.ok
 | un c a=>Ktr c=1∧a.ok
def kids:Ty→List Ty
 | num=>[]
 | bin _ a b=>[a,b]
 | un _ a=>[a]
def hd:Ty→Int
 | num=>0
 | bin c _ _=>c
 | un c _=>c
end Ty
def Kwa:List Ty→List Int
 | []=>[]
 | t :: l=>t.code ++ Kwa l
theorem Kwb (T:Ty):T.code=T.hd :: Kwa T.kids:=by cases T <;> simp [Ty.code,Ty.hd,Ty.kids,Kwa]
theorem Kwc (T:Ty):1 ≤ T.code.length:=by rw [Kwb]; simp
theorem Kwd (T:Ty):∀ (m:Nat) (l:List Int),T.ok→skip (m + 1) (T.code ++ l)=skip m l:=by
 induction T with
 | num =>
  intro m l _
  rw [Ty.code,List.singleton_append,Ku1,show Ktr 0=0 from rfl,if_neg (by decide)]; rfl
 | bin c a b iha ihb =>
  intro m l h
  rw [Ty.code,List.cons_append,Ku1,h.1,if_neg (by decide),List.append_assoc,show m + (2:Int).toNat=(m + 1) + 1 from rfl,iha _ _ h.2.1,ihb _ _ h.2.2]
 | un c a ih =>
  intro m l h
  rw [Ty.code,List.cons_append,Ku1,h.1,if_neg (by decide),show m + (1:Int).toNat=m + 1 from rfl,ih _ _ h.2]
theorem Kwe (l:List Int):∀ (m:Nat) (r:List Int),skip m l=some r→∃ Ts:List Ty,Ts.length=m∧(∀ T ∈ Ts,T.ok)∧l=Kwa Ts ++ r:=by
 induction l with
 | nil =>
  intro m r h
  cases m with
  | zero=>rw [Ktz] at h; cases h; exact ⟨[],rfl,fun _ h=>(by cases h),rfl⟩
  | succ m=>rw [Ku0] at h; cases h
 | cons c l ih =>
  intro m r h
  cases m with
  | zero=>rw [Ktz] at h; cases h; exact ⟨[],rfl,fun _ h=>(by cases h),rfl⟩
  | succ m =>
   rw [Ku1] at h
   by_cases hk:Ktr c=-1
   ·rw [if_pos hk] at h; cases h
   ·rw [if_neg hk] at h
    obtain ⟨Ts,h1,h2,h3⟩:=ih _ _ h
    rcases Ktv c with ⟨q,e⟩ | ⟨q,e⟩ | ⟨q,e⟩ | ⟨q,e⟩
    ·subst q
     rw [e] at h1
     exact ⟨.num :: Ts,by simpa using h1,fun T hT=>by rcases List.mem_cons.1 hT with rfl | hT; exact trivial; exact h2 T hT,by rw [h3]; rfl⟩
    ·rw [e] at h1
     match Ts,h1 with
     | a :: b :: Ts,h1 =>
      refine ⟨.bin c a b :: Ts,by simpa using h1,fun T hT=>?_,by rw [h3]; simp [Kwa,Ty.code]⟩
      rcases List.mem_cons.1 hT with rfl | hT
      ·exact ⟨e,h2 a List.mem_cons_self,h2 b (List.mem_cons_of_mem _ List.mem_cons_self)⟩
      ·exact h2 T (List.mem_cons_of_mem _ (List.mem_cons_of_mem _ hT))
     | [_],h1=>exact absurd h1 (by simp)
     | [],h1=>exact absurd h1 (by simp)
    ·rw [e] at h1
     match Ts,h1 with
     | a :: Ts,h1 =>
      refine ⟨.un c a :: Ts,by simpa using h1,fun T hT=>?_,by rw [h3]; simp [Kwa,Ty.code]⟩
      rcases List.mem_cons.1 hT with rfl | hT
      ·exact ⟨e,h2 a List.mem_cons_self⟩
      ·exact h2 T (List.mem_cons_of_mem _ hT)
     | [],h1=>exact absurd h1 (by simp)
    ·exact absurd e hk
theorem Kwf {ty:List Int} (h:wtB ty=true):∃ T:Ty,T.ok∧ty=T.code∧ty.length ≤ 40:=by
 have hl:=Kvo h
 unfold wtB at h
 rw [Bool.and_eq_true,beq_iff_eq] at h
 obtain ⟨Ts,h1,h2,h3⟩:=Kwe _ _ _ h.2
 match Ts,h1 with
 | [T],_=>exact ⟨T,h2 T List.mem_cons_self,by rw [h3]; simp [Kwa],hl⟩
theorem Kwg {T:Ty} (h:T.ok) (hl:T.code.length ≤ 40):wtB T.code=true:=by
 unfold wtB
 have:=Kwd T 0 [] h
 rw [List.append_nil,Ktz] at this
 rw [decide_eq_true hl,show (1:Nat)=0 + 1 from rfl,this]; rfl
theorem Kwh {T:Ty} (h:T.ok):∀ K ∈ T.kids,K.ok:=by
 intro K hK
 cases T with
 | num=>cases hK
 | bin c a b=>rcases List.mem_cons.1 hK with rfl | hK; exact h.2.1; rw [List.mem_singleton.1 hK]; exact h.2.2
 | un c a=>rw [List.mem_singleton.1 hK]; exact h.2
theorem Kwi {pre:List Int} {T:Ty} {post:List Int} (h:T.ok):Ku4 (pre ++ (T.code ++ post)) 1 pre.length=((pre.length + T.code.length:Nat):Int):=by
 unfold Ku4
 rw [List.drop_left,show (1:Nat)=0 + 1 from rfl,Kwd T 0 post h,Ktz]
 simp only [List.length_append]
 omega
theorem Kwj {α:Type} (p m q:List α) (mx:Option Int) (hmx:mx=none∨mx=some ((p.length + m.length:Nat):Int)):cut (p ++ (m ++ q)) (some (p.length:Int)) (some ((p.length + m.length:Nat):Int)) mx=some m:=by
 unfold cut
 have e:((p ++ (m ++ q)).take (p.length + m.length)).drop p.length=m:=by
  rw [← List.append_assoc,← List.length_append,List.take_left,List.drop_left]
 rw [if_pos]
 ·simp only [Option.getD_some,Int.toNat_natCast,e]
 ·rcases hmx with rfl | rfl <;> simp only [Option.getD_some,Option.getD_none,List.length_append] <;> omega
theorem Kwk {α:Type} (p q:List α):cut (p ++ q) (some (p.length:Int)) none none=some q:=by
 unfold cut
 rw [if_pos]
 ·simp only [Option.getD_some,Option.getD_none,Int.toNat_natCast,List.take_length,List.drop_left]
 ·simp only [Option.getD_some,Option.getD_none,List.length_append]; omega
theorem Kwl (Ks:List Ty):∀ (pre:List Int) (out:List (List Int)),(∀ K ∈ Ks,K.ok)→(pre ++ Kwa Ks).length ≤ 1099511627776→out.length + Ks.length ≤ 1099511627776→Kkf (pre ++ Kwa Ks,out,(pre.length:Int))=some (out ++ Ks.map Ty.code):=by
 induction Ks with
 | nil =>
  intro pre out hk hl ho
  rw [show Kwa []=[] from rfl,List.append_nil,Kkf.eq_def]
  simp only
  rw [Ksa (Nat.le_refl _)]; simp
 | cons K Ks ih =>
  intro pre out hk hl ho
  have hK:=hk K List.mem_cons_self
  have hp:=Kwc K
  rw [show Kwa (K :: Ks)=K.code ++ Kwa Ks from rfl] at hl ⊢
  rw [List.length_cons] at ho
  rw [Kkf.eq_def]
  simp only
  rw [Ks9 (by simp only [List.length_append]; omega),if_pos rfl,Ku8 _ hl _ pre.length rfl,Kwi hK,bs,Kwj _ _ _ _ (.inr rfl),bs,Kvq (by simp only [List.length_singleton]; omega),bs]
  have:=ih (pre ++ K.code) (out ++ [K.code]) (fun K hK=>hk K (List.mem_cons_of_mem _ hK)) (by rw [List.append_assoc]; exact hl) (by simp; omega)
  rw [List.append_assoc,List.length_append] at this
  rw [this,List.map_cons,List.append_assoc]; rfl
theorem Kwm {T:Ty} (h:T.ok) (hl:T.code.length ≤ 1048576):Kki T.code=some (T.kids.map Ty.code):=by
 unfold Kki
 have hk:T.kids.length ≤ 2:=by cases T <;> simp [Ty.kids]
 have e:[T.hd] ++ Kwa T.kids=T.code:=(Kwb T).symm
 have:=Kwl T.kids [T.hd] [] (Kwh h) (by rw [e]; omega) (by simp only [List.length_nil]; omega)
 rw [e] at this
 rw [show (1:Int)=(([T.hd].length:Nat):Int) from rfl,this,bs]; rfl
theorem Kwn {c:Int} {a:Ty} {r:List Int} (ha:a.ok) (hl:(c :: (a.code ++ r)).length ≤ 1099511627776):Kf5 (c :: (a.code ++ r),0)=some a.code:=by
 unfold Kf5
 simp only
 have e:=Kwi (pre:=[c]) (post:=r) ha
 have h1:=Ku6 (c :: (a.code ++ r)) hl 1 (by simp)
 rw [show (((1:Nat)):Int)=1 from rfl] at h1
 rw [List.length_singleton] at e
 have e':Ku4 (c :: (a.code ++ r)) 1 1=((1 + a.code.length:Nat):Int):=e
 rw [h1,bs,e',if_pos (by rfl)]
 have h2:=Kwj [c] a.code r none (.inl rfl)
 rw [List.length_singleton] at h2
 have h2':cut (c :: (a.code ++ r)) (some 1) (some ((1 + a.code.length:Nat):Int)) none=some a.code:=h2
 simp only [List.length_cons,List.length_append] at hl
 rw [h2',bs,Kvs _ (by omega),bs]
theorem Kwo {c:Int} {a:Ty} {r:List Int} (ha:a.ok) (hl:(c :: (a.code ++ r)).length ≤ 1099511627776):Kf5 (c :: (a.code ++ r),1)=some r:=by
 unfold Kf5
 simp only
 have e:=Kwi (pre:=[c]) (post:=r) ha
 have h1:=Ku6 (c :: (a.code ++ r)) hl 1 (by simp)
 rw [show (((1:Nat)):Int)=1 from rfl] at h1
 rw [List.length_singleton] at e
 have e':Ku4 (c :: (a.code ++ r)) 1 1=((1 + a.code.length:Nat):Int):=e
 rw [h1,bs,e',if_neg (by decide)]
 have h2:=Kwk (c :: a.code) r
 rw [List.length_cons,List.cons_append,Nat.add_comm] at h2
 simp only [List.length_cons,List.length_append] at hl
 rw [h2,bs,Kvs _ (by omega),bs]
def Kwp (s:K00) (g:Int):Bool:=inB g 0 (wr (s.fSize - 1))
theorem Kwq (s:K00) (g:Int):Khj (s,g)=some (Kwp s g):=by
 unfold Khj Kwp
 simp only
 rw [iIn,bs]
def Kwr (s:K00) (c:Int):Bool:=!(((Ktw c).1 == 3 || (Ktw c).1 == 4) && !Kwp s (Ktw c).2)
def Kws (s:K00) (ty:List Int):Bool:=wtB ty && ty.all (Kwr s)
theorem Kwt (s:K00) (ty:List Int) (hty:ty.length ≤ 1099511627776):∀ (l:List Int) (i:Nat),ty.drop i=l→Kj8 (s,ty,(i:Int))=some (if l.all (Kwr s) then .inl () else .inr false):=by
 intro l
 induction l with
 | nil =>
  intro i hd
  rw [Kj8.eq_def]
  simp only
  rw [Ksa (Kto hd)]; rfl
 | cons c l ih =>
  intro i hd
  obtain ⟨hi,hx,hd'⟩:=Ktn hd
  rw [Kj8.eq_def]
  simp only
  rw [Ks9 hi,if_pos rfl,hx,bs,Ktx,bs,Ks8 (by omega),ih (i + 1) hd',List.all_cons]
  unfold Kwr
  rcases Ktw c with ⟨a,b⟩
  simp only [Kwq,bs]
  cases a == 3 <;> cases a == 4 <;> cases Kwp s b <;> simp [bs]
theorem Kwu (s:K00) (ty:List Int) (hty:ty.length ≤ 1099511627776):Kjb (s,ty)=some (Kws s ty):=by
 unfold Kjb Kws
 simp only
 rw [Kub ty hty,bs]
 cases wtB ty
 ·rfl
 ·rw [if_pos rfl,show (0:Int)=((0:Nat):Int) from rfl,Kwt s ty hty _ 0 rfl,List.drop_zero,bs]
  cases ty.all (Kwr s) <;> rfl
theorem Kwv {s:K00} {n:Nat} (h:Tab s n) (g:Int):Kwp s g=inB g 0 ((n:Int) - 1):=by
 unfold Kwp; rw [Kw9 h]
theorem Kww {s:K00} {n:Nat} (h:Tab s n) {c:Int}:Kwr s c=Kud s.fSize true c:=by
 unfold Kwr Kud Kuc
 have hn:=h.lo
 rw [Kwv h,h.size]
 rcases Kty c with ⟨q,e⟩ | ⟨q,e⟩ | ⟨q,e⟩ | ⟨q,e⟩ | ⟨q,e⟩ | ⟨q,e⟩ | ⟨q,e⟩ | ⟨q,e⟩ <;> rw [e]
 ·subst q; rfl
 ·subst q; rfl
 ·subst q; rfl
 ·have hk:Ktr c=2:=by rcases Ktv c with h | h | h | h <;> omega
  rw [hk,if_neg (by omega),if_neg (by omega),decide_eq_true (by omega:c > 2)]
  unfold inB
  rw [decide_eq_true (by omega:c - 3 ≥ 0),decide_eq_false (by omega:¬ c - 3 < 0)]
  by_cases hc:c - 3 ≤ (n:Int) - 1
  ·rw [decide_eq_true hc,decide_eq_false (by omega:¬ c - 3 ≥ (n:Int))]; rfl
  ·rw [decide_eq_false hc,decide_eq_true (by omega:c - 3 ≥ (n:Int))]; rfl
 ·subst q; unfold inB; simp [Ktr,Ktp,Ktq,inB]
 ·have hk:Ktr c=1:=by rcases Ktv c with h | h | h | h <;> omega
  rw [hk,if_neg (by omega),if_pos (by omega),decide_eq_true (by omega:c > 2)]
  unfold inB
  rw [decide_eq_true (by omega:c - 19 ≥ 0),decide_eq_false (by omega:¬ c - 19 < 0)]
  by_cases hc:c - 19 ≤ (n:Int) - 1
  ·rw [decide_eq_true hc,decide_eq_false (by omega:¬ c - 19 ≥ (n:Int))]; rfl
  ·rw [decide_eq_false hc,decide_eq_true (by omega:c - 19 ≥ (n:Int))]; rfl
 ·subst q; unfold inB; simp [Ktr,Ktp,Ktq,inB]
 ·have hk:Ktr c=-1:=by rcases Ktv c with h | h | h | h <;> omega
  rw [hk]; simp
theorem Kwx {s:K00} {n:Nat} (h:Tab s n) (ty:List Int):Kws s ty=yN s.fSize true ty:=by
 unfold Kws yN
 rw [show Kwr s=Kud s.fSize true from funext fun c=>Kww h]
theorem Kwy {α:Type} (x:α) (l:List α):idx (x :: l) 0=some x:=rfl
theorem Kwz {α:Type} (x y:α) (l:List α):idx (x :: y :: l) 1=some y:=rfl
theorem Kx0 {a b:Nat} (ha:a ≤ 1099511627776) (hb:b ≤ 1099511627776):wr ((a:Int) + (b:Int))=((a + b:Nat):Int):=by rw [Ks6 (by omega) (by omega)]; omega
theorem Kx1 (a:List Bool) (left:Int) (h1:0 ≤ left) (h2:left ≤ 1048576) (ha:a.length ≤ 9223372036854775807):K8x (a,left)=some (szB left a.length):=by
 unfold K8x szB
 simp only
 rw [Ks6 (by omega) (by omega)]
 by_cases h:left - (a.length:Int) < 0
 ·rw [decide_eq_true h,if_pos rfl,if_pos h]
 ·rw [decide_eq_false h,if_neg (by decide),if_neg h]
def sln (s:K00):Prop:=s.fPlus.length ≤ 9223372036854775807∧s.fTimes.length ≤ 9223372036854775807∧s.fBelow.length ≤ 9223372036854775807
def sms (s:K00):Nat:=s.fPlus.length + s.fTimes.length + s.fBelow.length
theorem Kx2 (s:K00) (left:Int) (hs:sln s) (h1:0 ≤ left) (h2:left ≤ 1048576):K90 (s,left)=some (szB left (sms s)):=by
 obtain ⟨l1,l2,l3⟩:=hs
 unfold K90 sms
 simp only
 rw [Kvg _ _ h1 h2 l1,bs]
 rcases Kvf left s.fPlus.length with ⟨e,hl⟩ | ⟨e,hl⟩
 ·rw [e,decide_eq_true (by decide),if_pos rfl]; unfold szB; rw [if_pos (by omega)]
 ·rw [e,decide_eq_false (by omega),if_neg (by decide),Kvg _ _ (by omega) (by omega) l2,bs]
  rcases Kvf (left - (s.fPlus.length:Int)) s.fTimes.length with ⟨e2,hl2⟩ | ⟨e2,hl2⟩
  ·rw [e2,decide_eq_true (by decide),if_pos rfl]; unfold szB; rw [if_pos (by omega)]
  ·rw [e2,decide_eq_false (by omega),if_neg (by decide),Kx1 _ _ (by omega) (by omega) l3,bs]
   rcases Kvf (left - (s.fPlus.length:Int) - (s.fTimes.length:Int)) s.fBelow.length with ⟨e3,hl3⟩ | ⟨e3,hl3⟩
   ·rw [e3,decide_eq_true (by decide),if_pos rfl]; unfold szB; rw [if_pos (by omega)]
   ·rw [e3,decide_eq_false (by omega),if_neg (by decide)]; unfold szB; rw [if_neg (by omega)]; congr 1; omega
theorem Kx3 {s:K00} (h:sms s ≤ 1048576):K9z s=some s:=by unfold sms at h; exact Ksl s (by omega) (by omega) (by omega)
theorem Kx4 {s:K00} (h:sms s ≤ 1048576):Kqa (s,s)=some true:=by unfold sms at h; exact Ksm s (by omega) (by omega) (by omega)
theorem Kx5 {l:List K01} {t:K01} (h:t ∈ l):tsz t ≤ Kui l:=by
 induction l with
 | nil=>cases h
 | cons x l ih =>
  rw [Kui]
  rcases List.mem_cons.1 h with rfl | h
  ·omega
  ·have:=ih h; omega
theorem Kx6 {t k:K01} (h:k ∈ t.fKids):tsz k + 1 ≤ tsz t:=by
 rw [Kul t]
 have:=Kx5 h
 omega
theorem Kx7:∀ (l a:List Int) (i k:Nat),a.drop i=l→a.length ≤ 1099511627776→k + l.length ≤ 1152921504606846976 + 1099511627776 →
  ∃ M,Kql (a,(k:Int),(i:Int))=some (((k + l.length:Nat):Int),M)∧M.length=a.length∧M.take i=a.take i∧M.drop i=(List.range' k l.length).map (fun n:Nat=>(n:Int)):=by
 intro l
 induction l with
 | nil =>
  intro a i k hd ha hk
  rw [Kql.eq_def]
  simp only
  rw [Ksa (Kto hd)]
  exact ⟨a,by simp,rfl,rfl,by rw [hd]; rfl⟩
 | cons x l ih =>
  intro a i k hd ha hk
  obtain ⟨hi,hx,hd'⟩:=Ktn hd
  have hl:(x :: l).length ≤ 1099511627776:=by rw [← hd,List.length_drop]; omega
  rw [List.length_cons] at hl hk
  rw [Kql.eq_def]
  simp only
  rw [Ks9 hi,if_pos rfl,hx,bs,Int.toNat_natCast,Ks8 (by omega),Ks8 (by omega)]
  obtain ⟨M,h1,h2,h3,h4⟩:=ih (a.set i (k:Int)) (i + 1) (k + 1) (by rw [List.drop_set_of_lt (by omega)]; exact hd') (by simpa using ha) (by omega)
  have hMl:i < M.length:=by rw [h2,List.length_set]; exact hi
  have hMi:M[i]=(k:Int):=by
   have:=congrArg (fun l=>l[i]?) h3
   simp only [List.getElem?_take] at this
   rw [if_pos (by omega),if_pos (by omega),List.getElem?_eq_getElem hMl,List.getElem?_set_self hi] at this
   exact Option.some.inj this
  refine ⟨M,by rw [h1,List.length_cons]; congr 3; omega,by simpa using h2,?_,?_⟩
  ·have:=congrArg (List.take i) h3
   rw [List.take_take,List.take_take,Nat.min_eq_left (by omega),List.take_set_of_le (Nat.le_refl i)] at this
   exact this
  ·rw [List.drop_eq_getElem_cons hMl,h4,hMi,List.length_cons,List.range'_succ,List.map_cons]
theorem Kx8 (a:List Int) (k:Nat) (ha:a.length ≤ 1099511627776) (hk:k ≤ 1152921504606846976) :
  Kqo (a,(k:Int))=some (((k + a.length:Nat):Int),(List.range' k a.length).map (fun n:Nat=>(n:Int))):=by
 unfold Kqo
 simp only
 obtain ⟨M,h1,h2,h3,h4⟩:=Kx7 a a 0 k rfl ha (by omega)
 rw [List.drop_zero] at h4
 rw [show (0:Int)=((0:Nat):Int) from rfl,h1,bs,h4]
theorem Kx9 (m:Nat):∀ (n k i:Nat) (a:List Int),a.length ≤ 1099511627776→a.drop i=(List.range' k n).map (fun n:Nat=>(n:Int))→k + n ≤ 1152921504606846976 + 1099511627776→Krk (a,(k:Int),(i:Int))=some (.inl ((k + n:Nat):Int)):=by
 intro n
 induction n with
 | zero =>
  intro k i a ha hd hk
  rw [Krk.eq_def]
  simp only
  rw [Ksa (Kto hd)]; rfl
 | succ n ih =>
  intro k i a ha hd hk
  rw [List.range'_succ,List.map_cons] at hd
  obtain ⟨hi,hx,hd'⟩:=Ktn hd
  rw [Krk.eq_def]
  simp only
  rw [Ks9 hi,if_pos rfl,hx,bs,Ksg,if_neg (by decide),Ks8 (by omega),Ks8 (by omega),ih (k + 1) (i + 1) a ha hd' (by omega)]
  congr 3; omega
theorem Kxa (n k:Nat) (hn:n ≤ 1099511627776) (hk:k ≤ 1152921504606846976):Krn ((List.range' k n).map (fun n:Nat=>(n:Int)),(k:Int))=some ((k + n:Nat):Int):=by
 unfold Krn
 simp only
 rw [show (0:Int)=((0:Nat):Int) from rfl,Kx9 0 n k 0 _ (by simpa using hn) (by rw [List.drop_zero]) (by omega),bs]
mutual
def mct:K01→Nat
 | ⟨_,_,ty,ks⟩=>ty.length + Kxb ks
def Kxb:List K01→Nat
 | []=>0
 | k :: ks=>2 + mct k + Kxb ks
end
mutual
theorem Kxc:∀ (t:K01),mct t ≤ 2 * tms t
 | ⟨op,N,ty,ks⟩=>by rw [mct,tms]; have:=Kxd ks; omega
theorem Kxd:∀ (ks:List K01),Kxb ks ≤ 2 * (ks.length + Kuj ks)
 | []=>by simp [Kxb]
 | k :: ks=>by rw [Kxb,Kuj,List.length_cons]; have:=Kxc k; have:=Kxd ks; omega
end
theorem Kxe {α:Type} (l:List α) (i:Nat) (a b:α):(l.set i a).set i b=l.set i b:=List.set_set ..
theorem Kxf {α:Type} {l:List α} {i:Nat} (h:i < l.length) (a:α):idx (l.set i a) (i:Int)=some a:=by
 rw [Ks7 (by simpa using h)]; simp
mutual
theorem Kxg:∀ (t:K01) (k:Nat),tms t ≤ 1099511627776→k + mct t ≤ 1152921504606846976→∃ ty ks,Kqo (t.fType,(k:Int))=some (((k + t.fType.length:Nat):Int),ty)∧Kr9 (t.fKids,((k + t.fType.length:Nat):Int))=some (((k + mct t:Nat):Int),ks) ∧
  Krn (ty,(k:Int))=some ((k + t.fType.length:Nat):Int)∧Krr (ks,((k + t.fType.length:Nat):Int))=some ((k + mct t:Nat):Int)∧ks.length=t.fKids.length
 | ⟨op,N,ty,ks⟩,k,hm,hk=>by
  rw [tms] at hm
  rw [mct] at hk ⊢
  simp only
  refine ⟨(List.range' k ty.length).map (fun n:Nat=>(n:Int)),?_⟩
  obtain ⟨M,h1,h2,h3,h4⟩:=Kxh ks ks 0 (k + ty.length) rfl (by omega) (by omega) (by omega)
  refine ⟨M,Kx8 ty k (by omega) (by omega),?_,Kxa ty.length k (by omega) (by omega),?_,h2⟩
  ·rw [Kr9.eq_def]
   simp only
   rw [show (0:Int)=((0:Nat):Int) from rfl,h1,bs,Nat.add_assoc]
  ·rw [Krr.eq_def]
   simp only
   rw [show (0:Int)=((0:Nat):Int) from rfl,h4 M h2 rfl,bs,Nat.add_assoc]
theorem Kxh:∀ (ks a:List K01) (i k:Nat),a.drop i=ks→a.length ≤ 1099511627776→Kuj ks ≤ 1099511627776→k + Kxb ks ≤ 1152921504606846976 →
  ∃ M,Kra (a,(k:Int),(i:Int))=some (((k + Kxb ks:Nat):Int),M)∧M.length=a.length∧M.take i=a.take i∧∀ A:List K01,A.length=a.length→A.drop i=M.drop i→Krs (A,(k:Int),(i:Int))=some (.inl ((k + Kxb ks:Nat):Int))
 | [],a,i,k,hd,ha,hm,hk=>by
  rw [Kra.eq_def,Kxb]
  simp only
  rw [Ksa (Kto hd)]
  refine ⟨a,rfl,rfl,rfl,fun A hA _=>?_⟩
  rw [Krs.eq_def]
  simp only
  have:=Kto hd
  rw [Ksa (by omega)]; rfl
 | x :: ks,a,i,k,hd,ha,hm,hk=>by
  obtain ⟨hi,hx,hd'⟩:=Ktn hd
  rw [Kuj] at hm
  rw [Kxb] at hk ⊢
  rw [Kra.eq_def]
  simp only
  rw [Ks9 hi,if_pos rfl,hx,bs,Ks8 (n:=k) (by omega),Ks8 (n:=k + 1) (by omega),Int.toNat_natCast]
  obtain ⟨ty,kk,m1,m2,m3,m4,m5⟩:=Kxg x (k + 1 + 1) (by omega) (by omega)
  simp only [Kxe,Kxf hi,bs,m1,m2]
  rw [Ks8 (by omega)]
  obtain ⟨M,h1,h2,h3,h4⟩:=Kxh ks (a.set i ⟨(k:Int),((k + 1:Nat):Int),ty,kk⟩) (i + 1) (k + 1 + 1 + mct x) (by rw [List.drop_set_of_lt (by omega)]; exact hd') (by simpa using ha) (by omega) (by omega)
  have hMl:i < M.length:=by rw [h2,List.length_set]; exact hi
  have hMi:M[i]=⟨(k:Int),((k + 1:Nat):Int),ty,kk⟩:=by
   have:=congrArg (fun l=>l[i]?) h3
   simp only [List.getElem?_take] at this
   rw [if_pos (by omega),if_pos (by omega),List.getElem?_eq_getElem hMl,List.getElem?_set_self hi] at this
   exact Option.some.inj this
  refine ⟨M,by rw [h1]; congr 3; omega,by simpa using h2,?_,fun A hA hAd=>?_⟩
  ·have:=congrArg (List.take i) h3
   rw [List.take_take,List.take_take,Nat.min_eq_left (by omega),List.take_set_of_le (Nat.le_refl i)] at this
   exact this
  ·rw [List.drop_eq_getElem_cons hMl,hMi] at hAd
   obtain ⟨qi,qx,qd⟩:=Ktn hAd
   rw [Krs.eq_def]
   simp only
   rw [Ks9 qi,if_pos rfl,qx,bs,Ks8 (n:=k) (by omega),Ks8 (n:=k + 1) (by omega)]
   simp only
   rw [Ksg,if_neg (by decide),bs]
   simp only
   rw [Ksg,if_neg (by decide),bs]
   simp only
   rw [m3,bs,decide_eq_false (by omega),if_neg (by decide),bs]
   simp only
   rw [m4,bs,decide_eq_false (by omega),if_neg (by decide),Ks8 (by omega),h4 A (by simpa using hA) qd]
   congr 3; omega
end
theorem Kxi (t:K01) (k:Nat) (hm:tms t ≤ 1099511627776) (hk:k ≤ 1000000000000000000):∃ M,Krg (t,(k:Int))=some (((k + mct t:Nat):Int),M)∧∀ op N,Kry (⟨op,N,M.fType,M.fKids⟩,(k:Int))=some ((k + mct t:Nat):Int):=by
 have hc:=Kxc t
 obtain ⟨ty,ks,m1,m2,m3,m4,_⟩:=Kxg t k hm (by omega)
 unfold Krg
 simp only
 rw [m1,bs]
 simp only
 rw [m2,bs]
 refine ⟨_,rfl,fun op N=>?_⟩
 unfold Kry
 simp only
 rw [m3,bs,decide_eq_false (by omega),if_neg (by decide),m4,bs,decide_eq_false (by omega),if_neg (by decide)]
mutual
theorem Kxj:∀ (t:K01) (k:Nat),tms t ≤ 1099511627776→k + mct t ≤ 1152921504606846976→∃ ks,Kr9 (t.fKids,((k + t.fType.length:Nat):Int))=some (((k + mct t:Nat):Int),ks)
 | ⟨op,N,ty,ks⟩,k,hm,hk=>by
  rw [tms] at hm
  rw [mct] at hk ⊢
  simp only
  obtain ⟨M,h1⟩:=Kxk ks ks 0 (k + ty.length) rfl (by omega) (by omega) (by omega)
  refine ⟨M,?_⟩
  rw [Kr9.eq_def]
  simp only
  rw [show (0:Int)=((0:Nat):Int) from rfl,h1,bs,Nat.add_assoc]
theorem Kxk:∀ (ks a:List K01) (i k:Nat),a.drop i=ks→a.length ≤ 1099511627776→Kuj ks ≤ 1099511627776→k + Kxb ks ≤ 1152921504606846976 →
  ∃ M,Kra (a,(k:Int),(i:Int))=some (((k + Kxb ks:Nat):Int),M)
 | [],a,i,k,hd,ha,hm,hk=>by
  rw [Kra.eq_def,Kxb]
  simp only
  rw [Ksa (Kto hd)]
  exact ⟨a,rfl⟩
 | x :: ks,a,i,k,hd,ha,hm,hk=>by
  obtain ⟨hi,hx,hd'⟩:=Ktn hd
  rw [Kuj] at hm
  rw [Kxb] at hk ⊢
  rw [Kra.eq_def]
  simp only
  rw [Ks9 hi,if_pos rfl,hx,bs,Ks8 (n:=k) (by omega),Ks8 (n:=k + 1) (by omega),Int.toNat_natCast]
  obtain ⟨kk,m2⟩:=Kxj x (k + 1 + 1) (by omega) (by omega)
  have m1:=Kx8 x.fType (k + 1 + 1) (by have:=Kuk x; omega) (by omega)
  simp only [Kxe,Kxf hi,bs,m1,m2]
  rw [Ks8 (by omega)]
  obtain ⟨M,h1⟩:=Kxk ks (a.set i ⟨(k:Int),((k + 1:Nat):Int),(List.range' (k + 1 + 1) x.fType.length).map (fun n:Nat=>(n:Int)),kk⟩) (i + 1) (k + 1 + 1 + mct x) (by rw [List.drop_set_of_lt (by omega)]; exact hd') (by simpa using ha) (by omega) (by omega)
  exact ⟨M,by rw [h1]; congr 3; omega⟩
end
theorem Kxl (t:K01) (k:Nat) (hm:tms t ≤ 1099511627776) (hk:k ≤ 1000000000000000000):∃ M,Krg (t,(k:Int))=some (((k + mct t:Nat):Int),M):=by
 have hc:=Kxc t
 obtain ⟨ks,m2⟩:=Kxj t k hm (by omega)
 unfold Krg
 simp only
 rw [Kx8 t.fType k (by have:=Kuk t; omega) (by omega),bs]
 simp only
 rw [m2,bs]
 exact ⟨_,rfl⟩
theorem Kxm (b:Bool):(!(b == b))=false:=by cases b <;> rfl
def lct:List (List Int)→Nat
 | []=>0
 | x :: l=>x.length + lct l
def lok (l:List (List Int)):Prop:=l.length ≤ 1099511627776∧lct l ≤ 1099511627776
theorem Kxn {l:List (List Int)} {x:List Int} (h:x ∈ l):x.length ≤ lct l:=by
 induction l with
 | nil=>cases h
 | cons y l ih =>
  rw [lct]
  rcases List.mem_cons.1 h with rfl | h
  ·omega
  ·have:=ih h; omega
theorem Kxo (a:List (List Int)) (ha:a.length ≤ 1099511627776):∀ (l:List (List Int)) (i:Nat),a.drop i=l→lct l ≤ 1099511627776→Kqe (a,a,(i:Int))=some (.inl ()):=by
 intro l
 induction l with
 | nil =>
  intro i hd _
  rw [Kqe.eq_def]
  simp only
  rw [Ksa (Kto hd)]; rfl
 | cons x l ih =>
  intro i hd hl
  obtain ⟨hi,hx,hd'⟩:=Ktn hd
  rw [lct] at hl
  rw [Kqe.eq_def]
  simp only
  rw [Ks9 hi,if_pos rfl,hx,bs,bs,Ksi x (by omega),bs,if_pos rfl,Ks8 (by omega),ih (i + 1) hd' (by omega)]
theorem Kxp (a:List (List Int)) (h:lok a):Kqh (a,a)=some true:=by
 unfold Kqh
 simp only
 rw [Ksg,if_neg (by decide),show (0:Int)=((0:Nat):Int) from rfl,Kxo a h.1 a 0 rfl h.2]; rfl
theorem Kxq:∀ (l a:List (List Int)) (i k:Nat),a.drop i=l→a.length ≤ 1099511627776→lct l ≤ 1099511627776→k + lct l ≤ 1152921504606846976→∃ M,Kr2 (a,(k:Int),(i:Int))=some (((k + lct l:Nat):Int),M):=by
 intro l
 induction l with
 | nil =>
  intro a i k hd ha hl hk
  rw [Kr2.eq_def,lct]
  simp only
  rw [Ksa (Kto hd)]
  exact ⟨a,rfl⟩
 | cons x l ih =>
  intro a i k hd ha hl hk
  obtain ⟨hi,hx,hd'⟩:=Ktn hd
  rw [lct] at hl hk ⊢
  rw [Kr2.eq_def]
  simp only
  rw [Ks9 hi,if_pos rfl,hx,bs,Kx8 x k (by omega) (by omega),bs,Ks8 (by omega),Int.toNat_natCast]
  simp only
  obtain ⟨M,h1⟩:=ih (a.set i ((List.range' k x.length).map (fun n:Nat=>(n:Int)))) (i + 1) (k + x.length) (by rw [List.drop_set_of_lt (by omega)]; exact hd') (by simpa using ha) (by omega) (by omega)
  exact ⟨M,by rw [h1]; congr 3; omega⟩
theorem Kxr (a:List (List Int)) (k:Nat) (h:lok a) (hk:k ≤ 1000000000000000000):∃ M,Kr5 (a,(k:Int))=some (((k + lct a:Nat):Int),M):=by
 have:=h.2
 obtain ⟨M,h1⟩:=Kxq a a 0 k rfl h.1 h.2 (by omega)
 refine ⟨M,?_⟩
 unfold Kr5
 simp only
 rw [show (0:Int)=((0:Nat):Int) from rfl,h1,bs]
theorem Kxs {α:Type} (x:α) (l:List α):cut (x :: l) (some 1) none none=some l:=Kwk [x] l
theorem Kxt {g:Int→Bool} {y:List Int→Bool}:∀ (ks:List K01) (op:Int) (n i j:Nat) (hj:j < ks.length),Kv9 g y op n i ks=true→tOk g y (n + Kv2 op ((i + j:Nat):Int)) ks[j]=true
 | k :: ks,op,n,i,j,hj,ht=>by
  rw [Kv9,Bool.and_eq_true] at ht
  cases j with
  | zero=>exact ht.1
  | succ j =>
   have:=Kxt ks op n (i + 1) j (by simpa using hj) ht.2
   rw [show i + 1 + j=i + (j + 1) by omega] at this
   exact this
theorem Kxu {a:Int}:(a == a)=true:=by simp
theorem Kxv {c:Int} (h:Ktr c=2):(c=1∧Ktw c=(1,-1))∨(c=2∧Ktw c=(2,-1))∨((c ≠ 0∧c ≠ 1∧c ≠ 2)∧Ktq c=false∧Ktp c=true∧Ktw c=(3,Kuc c)):=by
 rcases Ktv c with q | ⟨q,_⟩ | q | q
 ·omega
 ·rcases Kty c with ⟨h,e⟩ | ⟨h,e⟩ | ⟨h,e⟩ | ⟨h,e⟩ | ⟨h,e⟩ | ⟨h,e⟩ | ⟨h,e⟩ | ⟨h,e⟩
  ·omega
  ·exact .inl ⟨h,e⟩
  ·exact .inr (.inl ⟨h,e⟩)
  ·refine .inr (.inr ⟨by omega,?_,?_,?_⟩)
   ·unfold Ktq inB; rw [Bool.eq_false_iff]; simp; omega
   ·unfold Ktp inB; simp; omega
   ·rw [e]; unfold Kuc; rw [if_neg (by omega),if_neg (by omega)]
  ·subst h; exact .inr (.inr ⟨by omega,rfl,rfl,rfl⟩)
  ·omega
  ·omega
  ·omega
 ·omega
 ·omega
theorem Kxw {c:Int} (h:Ktr c=1):(c ≠ 0∧c ≠ 1∧c ≠ 2)∧Ktq c=true∧Ktp c=false∧Ktw c=(4,Kuc c):=by
 rcases Ktv c with q | q | ⟨q,_⟩ | q
 ·omega
 ·omega
 ·rcases Kty c with ⟨h,e⟩ | ⟨h,e⟩ | ⟨h,e⟩ | ⟨h,e⟩ | ⟨h,e⟩ | ⟨h,e⟩ | ⟨h,e⟩ | ⟨h,e⟩
  ·omega
  ·omega
  ·omega
  ·omega
  ·omega
  ·refine ⟨by omega,?_,?_,?_⟩
   ·unfold Ktq inB; simp; omega
   ·unfold Ktp inB; rw [Bool.eq_false_iff]; simp; omega
   ·rw [e]; unfold Kuc; rw [if_neg (by omega),if_pos (by omega)]
  ·subst h; exact ⟨by omega,rfl,rfl,rfl⟩
  ·omega
 ·omega
structure Kxx (c:Int) (a b:Ty):Prop where
 p0:Kf5 (c :: (a.code ++ b.code),0)=some a.code
 p1:Kf5 (c :: (a.code ++ b.code),1)=some b.code
 pp:Kki (c :: (a.code ++ b.code))=some [a.code,b.code]
 ok:a.ok∧b.ok
 la:a.code.length + b.code.length + 1 ≤ 1048576
theorem Kxy {c:Int} {a b:Ty} (h:(Ty.bin c a b).ok) (hl:(Ty.bin c a b).code.length ≤ 1048576):Kxx c a b:=by
 have hl':=hl
 rw [Ty.code] at hl'
 have h3:=Kwm h hl
 rw [Ty.kids,List.map_cons,List.map_cons,List.map_nil,Ty.code] at h3
 refine ⟨Kwn h.2.1 (by omega),Kwo h.2.1 (by omega),h3,h.2,?_⟩
 rw [List.length_cons,List.length_append] at hl'
 omega
structure UnP (c:Int) (a:Ty):Prop where
 p0:Kf5 (c :: a.code,0)=some a.code
 pp:Kki (c :: a.code)=some [a.code]
 ok:a.ok
 la:a.code.length + 1 ≤ 1048576
theorem unP {c:Int} {a:Ty} (h:(Ty.un c a).ok) (hl:(Ty.un c a).code.length ≤ 1048576):UnP c a:=by
 have hl':=hl
 rw [Ty.code] at hl'
 have h3:=Kwm h hl
 rw [Ty.kids,List.map_cons,List.map_nil,Ty.code] at h3
 have h4:=Kwn (c:=c) (r:=[]) h.2 (by rw [List.append_nil]; omega)
 rw [List.append_nil] at h4
 refine ⟨h4,h3,h.2,?_⟩
 rw [List.length_cons] at hl'
 omega
theorem Kxz:Kki [0]=some []:=Kwm (T:=.num) trivial (by simp [Ty.code])
def dfl:Ty→K01
 | .num=>⟨1,0,[],[]⟩
 | .bin c a b=>if c=1 then ⟨4,0,[],[dfl a,dfl b]⟩ else if c=2 then ⟨6,0,b.code,[dfl a]⟩ else ⟨9,Kuc c,a.code,[dfl b]⟩
 | .un c a=>⟨11,Kuc c,[],[dfl a]⟩
theorem Ky0 (T:Ty):tms (dfl T) ≤ 3 * T.code.length:=by
 induction T with
 | num=>simp [dfl,tms,Kuj]
 | bin c a b iha ihb =>
  rw [dfl,Ty.code,List.length_cons,List.length_append]
  split
  ·simp only [tms,Kuj,List.length_cons,List.length_nil]; omega
  ·split
   ·simp only [tms,Kuj,List.length_cons,List.length_nil]; omega
   ·simp only [tms,Kuj,List.length_cons,List.length_nil]; omega
 | un c a ih=>rw [dfl,Ty.code,List.length_cons]; simp only [tms,Kuj,List.length_cons,List.length_nil]; omega
theorem Ky1 (T:Ty):T.ok→T.code.length ≤ 1048576→Kh2 T.code=some (dfl T):=by
 induction T with
 | num=>intro _ _; rw [Kh2.eq_def]; rfl
 | bin c a b iha ihb =>
  intro h hl
  have P:=Kxy h hl
  have la:=P.la
  have ha:=iha P.ok.1 (by omega)
  have hb:=ihb P.ok.2 (by omega)
  rw [Ty.code,Kh2.eq_def,Kwy,bs,P.p0,P.p1,dfl,Ktt]
  simp only [bs,ha,hb]
  rcases Kxv h.1 with ⟨rfl,_⟩ | ⟨rfl,_⟩ | ⟨h0,h1,_,_⟩
  ·rfl
  ·rfl
  ·rw [beq_eq_false_iff_ne.2 h0.1,beq_eq_false_iff_ne.2 h0.2.1,beq_eq_false_iff_ne.2 h0.2.2,h1,if_neg h0.2.1,if_neg h0.2.2,Kue (by rw [h.1]; decide)]
   simp [bs]
 | un c a ih =>
  intro h hl
  have P:=unP h hl
  have la:=P.la
  have ha:=ih P.ok (by omega)
  obtain ⟨h0,h1,h2,h3⟩:=Kxw h.1
  rw [Ty.code,Kh2.eq_def,Kwy,bs,P.p0,dfl,Ktt]
  simp only [bs,ha]
  rw [beq_eq_false_iff_ne.2 h0.1,h1,Kue (by rw [h.1]; decide)]
  simp [bs]
theorem Ky2 (T:Ty):T.ok→T.code.length ≤ 1048576→Kox T.code=some (dfl T):=by
 induction T with
 | num=>intro _ _; rw [Kox.eq_def,Ty.code,Kxz]; rfl
 | bin c a b iha ihb =>
  intro h hl
  have P:=Kxy h hl
  have la:=P.la
  have ha:=iha P.ok.1 (by omega)
  have hb:=ihb P.ok.2 (by omega)
  rw [Ty.code,Kox.eq_def,Kwy,bs,P.pp,dfl,Ktx,bs]
  rcases Kxv h.1 with ⟨rfl,e⟩ | ⟨rfl,e⟩ | ⟨h0,h1,_,e⟩
  ·rw [e]; simp [bs,Kwy,Kwz,ha,hb]
  ·rw [e]; simp [bs,Kwy,Kwz,ha,Kvt b.code (by omega)]
  ·rw [e]; simp [bs,Kwy,Kwz,hb,Kvt a.code (by omega),h0.2.1,h0.2.2]
 | un c a ih =>
  intro h hl
  have P:=unP h hl
  have la:=P.la
  have ha:=ih P.ok (by omega)
  obtain ⟨h0,h1,h2,e⟩:=Kxw h.1
  rw [Ty.code,Kox.eq_def,Kwy,bs,P.pp,dfl,Ktx,bs,e]
  simp [bs,Kwy,ha]
theorem Ky3:∀ (l a:List Bool) (i k:Nat),a.drop i=l→a.length ≤ 1099511627776→k + l.length ≤ 1152921504606846976 + 1099511627776→∃ M,Kqs (a,(k:Int),(i:Int))=some (((k + l.length:Nat):Int),M):=by
 intro l
 induction l with
 | nil =>
  intro a i k hd ha hk
  rw [Kqs.eq_def]
  simp only
  rw [Ksa (Kto hd)]
  exact ⟨a,rfl⟩
 | cons x l ih =>
  intro a i k hd ha hk
  obtain ⟨hi,hx,hd'⟩:=Ktn hd
  have hl:(x :: l).length ≤ 1099511627776:=by rw [← hd,List.length_drop]; omega
  rw [List.length_cons] at hl hk
  rw [Kqs.eq_def]
  simp only
  rw [Ks9 hi,if_pos rfl,hx,bs,Int.toNat_natCast,Ks8 (by omega),Ks8 (by omega)]
  obtain ⟨M,h1⟩:=ih (a.set i (Int.tmod (k:Int) 3 == 0)) (i + 1) (k + 1) (by rw [List.drop_set_of_lt (by omega)]; exact hd') (by simpa using ha) (by omega)
  exact ⟨M,by rw [h1,List.length_cons]; congr 3; omega⟩
theorem Ky4 (s:K00) (k:Nat) (hs:sms s ≤ 1099511627776) (hk:k ≤ 1000000000000000000):∃ M,Kqy (s,(k:Int))=some (((k + sms s:Nat):Int),M):=by
 unfold sms at hs ⊢
 unfold Kqy
 simp only
 rw [Kx8 s.fPlus k (by omega) (by omega),bs]
 simp only
 rw [Kx8 s.fTimes _ (by omega) (by omega),bs]
 simp only
 obtain ⟨M,h⟩:=Ky3 s.fBelow s.fBelow 0 (k + s.fPlus.length + s.fTimes.length) rfl (by omega) (by omega)
 unfold Kqv
 simp only
 rw [show (0:Int)=((0:Nat):Int) from rfl,h,bs,bs]
 exact ⟨_,by congr 3; omega⟩
theorem Ky5 {p:Prop} [Decidable p] (h:p):chk p=some ():=by unfold chk; rw [if_pos h]
def inG (b:List Bool) (a:Nat):Bool:=b.getD a false
def vwC (s:K00) (n:Nat) (b:List Bool) (x y:Nat):Bool :=
 (inG b (pl s n x y) == (inG b x || inG b y)) && (inG b (ti s n x y) == (inG b x && inG b y)) && !(inG b x && le s n x y && !inG b y)
def vwI (s:K00) (n:Nat) (b:List Bool):Bool:=!inG b 0 && inG b 1 && (List.range' 0 n).all fun x=>(List.range' 0 n).all fun y=>vwC s n b x y
theorem Ky6 {b:List Bool} {n a:Nat} (hb:b.length=n) (ha:a < n):idx b (a:Int)=some (inG b a):=by
 rw [Ks7 (by omega)]; unfold inG; rw [List.getD_eq_getElem?_getD,List.getElem?_eq_getElem (by omega)]; rfl
def Ky7 (n:Nat):Option Int→List Int→Bool
 | _,[]=>true
 | p,g :: l=>inB g 0 ((n:Int) - 1) && (match p with | none=>true | some q=>!decide (g ≤ q)) && Ky7 n (some g) l
theorem Ky8 (n:Nat) (p:Option Int) (g:Int) (l:List Int):Ky7 n p (g :: l)=(inB g 0 ((n:Int) - 1) && (match p with | none=>true | some q=>!decide (g ≤ q)) && Ky7 n (some g) l):=by
 cases p <;> rfl
def vIn:List Int→List Bool→List Bool
 | [],b=>b
 | g :: l,b=>vIn l (b.set g.toNat true)
theorem Ky9 (l:List Int):∀ b,(vIn l b).length=b.length:=by
 induction l with
 | nil=>intro b; rfl
 | cons g l ih=>intro b; rw [vIn,ih,List.length_set]
section
variable {s:K00} {n:Nat} (h:Tab s n)
include h
theorem Kya {b:List Bool} (hb:b.length=n) {x:Nat} (hx:x < n):∀ (k y:Nat),y + k=n→Kga (s,b,(x:Int),(y:Int))=some (if (List.range' y k).all (fun y=>vwC s n b x y) then .inl () else .inr false):=by
 have hhi:=h.hi
 intro k
 induction k with
 | zero =>
  intro y hm
  rw [Kga.eq_def]
  simp only
  rw [h.size,Ksa (by omega)]
  rfl
 | succ k ih =>
  intro y hm
  have hy:y < n:=by omega
  have ih:=ih (y + 1) (by omega)
  rw [Kga.eq_def]
  simp only
  rw [h.size,Ks9 (by omega),if_pos rfl,Ks8 (by omega),List.range'_succ,List.all_cons,ih]
  refine (Kuh (x:=!vwC s n b x y) ?_).trans ?_
  ·rw [Ksu h hx hy]
   simp only [bs]
   rw [Ky6 hb (Ksp h hx hy),Ky6 hb hx,Ky6 hb hy]
   simp only [bs,Ksv h hx hy,sLe h hx hy]
   rw [Ky6 hb (Ksq h hx hy)]
   simp only [bs]
   unfold vwC
   generalize inG b (pl s n x y)=p
   generalize inG b (ti s n x y)=q
   generalize inG b x=u
   generalize inG b y=v
   generalize le s n x y=w
   cases u <;> cases v <;> cases p <;> cases q <;> cases w <;> rfl
  ·cases vwC s n b x y <;> rfl
theorem Kyb {b:List Bool} (hb:b.length=n):∀ (k x:Nat),x + k=n→Kgf (s,b,(x:Int))=some (if (List.range' x k).all (fun x=>(List.range' 0 n).all fun y=>vwC s n b x y) then .inl () else .inr false):=by
 have hhi:=h.hi
 intro k
 induction k with
 | zero =>
  intro x hm
  rw [Kgf.eq_def]
  simp only
  rw [h.size,Ksa (by omega)]
  rfl
 | succ k ih =>
  intro x hm
  have ih:=ih (x + 1) (by omega)
  have hl:=Kya h hb (x:=x) (by omega) n 0 (by omega)
  rw [show ((0:Nat):Int)=0 from rfl] at hl
  rw [Kgf.eq_def]
  simp only
  rw [h.size,Ks9 (by omega),if_pos rfl,Ks8 (by omega),List.range'_succ,List.all_cons,hl,bs,ih]
  cases (List.range' 0 n).all (fun y=>vwC s n b x y) <;> rfl
theorem Kyc {b:List Bool} (hb:b.length=n):Kgi (s,b)=some (vwI s n b):=by
 have hlo:=h.lo
 unfold Kgi vwI
 simp only
 have hl:=Kyb h hb n 0 (by omega)
 rw [show ((0:Nat):Int)=0 from rfl] at hl
 have h0:=Ky6 hb (a:=0) (by omega)
 have h1:=Ky6 hb (a:=1) (by omega)
 rw [show ((0:Nat):Int)=0 from rfl] at h0
 rw [show ((1:Nat):Int)=1 from rfl] at h1
 rw [h0,h1,hl]
 cases inG b 0 <;> cases inG b 1 <;> cases (List.range' 0 n).all (fun x=>(List.range' 0 n).all fun y=>vwC s n b x y) <;> rfl
theorem Kyd (v:List Int) (hv:v.length ≤ 1099511627776):∀ (l:List Int) (i:Nat) (b:List Bool),v.drop i=l→b.length=n →
  Kgm (s,v,b,(i:Int))=some (if Ky7 n (if i=0 then none else v[i - 1]?) l then .inl (vIn l b) else .inr false):=by
 have hhi:=h.hi
 intro l
 induction l with
 | nil =>
  intro i b hd hb
  rw [Kgm.eq_def]
  simp only
  rw [Ksa (Kto hd)]; simp [Ky7,vIn]
 | cons g l ih =>
  intro i b hd hb
  obtain ⟨hi,hx,hd'⟩:=Ktn hd
  have hg:v[i]?=some g:=by rw [Ks7 hi] at hx; rw [List.getElem?_eq_getElem hi]; exact hx
  rw [Kgm.eq_def]
  simp only
  rw [Ks9 hi,if_pos rfl,hx]
  simp only [bs]
  refine (Kuh (x:=!(inB g 0 ((n:Int) - 1) && (match (if i=0 then none else v[i - 1]?) with | none=>true | some q=>!decide (g ≤ q)))) ?_).trans ?_
  ·rw [Kw9 h,sIn,bs]
   cases inB g 0 ((n:Int) - 1)
   ·rfl
   ·by_cases h0:i=0
    ·subst h0; rfl
    ·have hp:i - 1 < v.length:=by omega
     rw [if_pos rfl,decide_eq_true (by omega:(i:Int) > 0),if_pos rfl,Ks6 (by omega) (by omega),show (i:Int) - 1=((i - 1:Nat):Int) by omega,Ks7 hp,bs,if_neg h0,List.getElem?_eq_getElem hp]
     simp
  ·rw [Ky8]
   cases hc:(inB g 0 ((n:Int) - 1) && (match (if i=0 then none else v[i - 1]?) with | none=>true | some q=>!decide (g ≤ q)))
   ·rfl
   ·rw [Bool.and_eq_true] at hc
    obtain ⟨e1,l1⟩:=Kw8 hc.1
    rw [Bool.not_true,if_neg (by decide),Bool.true_and]
    have hidx:idx b g=some (inG b g.toNat):=by rw [e1,Ky6 hb l1,Int.toNat_natCast]
    simp only [bs,hidx]
    rw [Ks8 (by omega),ih (i + 1) _ hd' (by simpa using hb),if_neg (by omega:¬ i + 1=0),Nat.add_sub_cancel,hg,vIn]
end
theorem Kye (s:K00) (v:List Int) (hv:v.length ≤ 1099511627776):Kgp (s,v)=some (Kw4 s && Ky7 s.fSize.toNat none v && vwI s s.fSize.toNat (vIn v (List.replicate s.fSize.toNat false))):=by
 unfold Kgp
 simp only
 rw [Kw6,bs]
 cases hs:Kw4 s
 ·rfl
 ·have T:=Kw5 hs
  have hsz:=T.size
  have hhi:=T.hi
  rw [if_pos rfl,Ky5 (by omega),bs]
  have hl:=Kyd T v hv v 0 (List.replicate s.fSize.toNat false) rfl (by simp)
  rw [show ((0:Nat):Int)=0 from rfl,if_pos rfl] at hl
  rw [hl,bs]
  cases Ky7 s.fSize.toNat none v
  ·rfl
  ·simp only [if_true]
   rw [Kyc T (by rw [Ky9]; simp),bs]; rfl
section
variable {s:K00} {n:Nat} (h:Tab s n)
include h
theorem Kyf {b:List Bool} (hb:b.length=n) {x:Nat} (hx:x < n):∀ (k y:Nat),y + k=n→Ko5 (s,b,(x:Int),(y:Int))=some (if (List.range' y k).all (fun y=>vwC s n b x y) then .inl () else .inr false):=by
 have hhi:=h.hi
 intro k
 induction k with
 | zero =>
  intro y hm
  rw [Ko5.eq_def]
  simp only
  rw [h.size,Ksa (by omega)]
  rfl
 | succ k ih =>
  intro y hm
  have hy:y < n:=by omega
  have ih:=ih (y + 1) (by omega)
  rw [Ko5.eq_def]
  simp only
  rw [h.size,Ks9 (by omega),if_pos rfl,Ks8 (by omega),List.range'_succ,List.all_cons,ih]
  refine (Kuh (x:=!vwC s n b x y) ?_).trans ?_
  ·rw [Ksw h hx hy]
   simp only [bs]
   rw [Ky6 hb (Ksp h hx hy),Ky6 hb hx,Ky6 hb hy]
   simp only [bs,Ksx h hx hy,iLe h hx hy]
   rw [Ky6 hb (Ksq h hx hy)]
   simp only [bs]
   unfold vwC
   generalize inG b (pl s n x y)=p
   generalize inG b (ti s n x y)=q
   generalize inG b x=u
   generalize inG b y=v
   generalize le s n x y=w
   cases u <;> cases v <;> cases p <;> cases q <;> cases w <;> rfl
  ·cases vwC s n b x y <;> rfl
theorem Kyg {b:List Bool} (hb:b.length=n):∀ (k x:Nat),x + k=n→Koa (s,b,(x:Int))=some (if (List.range' x k).all (fun x=>(List.range' 0 n).all fun y=>vwC s n b x y) then .inl () else .inr false):=by
 have hhi:=h.hi
 intro k
 induction k with
 | zero =>
  intro x hm
  rw [Koa.eq_def]
  simp only
  rw [h.size,Ksa (by omega)]
  rfl
 | succ k ih =>
  intro x hm
  have ih:=ih (x + 1) (by omega)
  have hl:=Kyf h hb (x:=x) (by omega) n 0 (by omega)
  rw [show ((0:Nat):Int)=0 from rfl] at hl
  rw [Koa.eq_def]
  simp only
  rw [h.size,Ks9 (by omega),if_pos rfl,Ks8 (by omega),List.range'_succ,List.all_cons,hl,bs,ih]
  cases (List.range' 0 n).all (fun y=>vwC s n b x y) <;> rfl
theorem Kyh {b:List Bool} (hb:b.length=n):Kod (s,b)=some (vwI s n b):=by
 have hlo:=h.lo
 unfold Kod vwI
 simp only
 have hl:=Kyg h hb n 0 (by omega)
 rw [show ((0:Nat):Int)=0 from rfl] at hl
 have h0:=Ky6 hb (a:=0) (by omega)
 have h1:=Ky6 hb (a:=1) (by omega)
 rw [show ((0:Nat):Int)=0 from rfl] at h0
 rw [show ((1:Nat):Int)=1 from rfl] at h1
 rw [h0,h1,hl]
 cases inG b 0 <;> cases inG b 1 <;> cases (List.range' 0 n).all (fun x=>(List.range' 0 n).all fun y=>vwC s n b x y) <;> rfl
theorem Kyi (v:List Int) (hv:v.length ≤ 1099511627776):∀ (l:List Int) (i:Nat) (b:List Bool),v.drop i=l→b.length=n →
  Koh (s,v,b,(i:Int))=some (if Ky7 n (if i=0 then none else v[i - 1]?) l then .inl (vIn l b) else .inr false):=by
 have hhi:=h.hi
 intro l
 induction l with
 | nil =>
  intro i b hd hb
  rw [Koh.eq_def]
  simp only
  rw [Ksa (Kto hd)]; simp [Ky7,vIn]
 | cons g l ih =>
  intro i b hd hb
  obtain ⟨hi,hx,hd'⟩:=Ktn hd
  have hg:v[i]?=some g:=by rw [Ks7 hi] at hx; rw [List.getElem?_eq_getElem hi]; exact hx
  rw [Koh.eq_def]
  simp only
  rw [Ks9 hi,if_pos rfl,hx]
  simp only [bs]
  refine (Kuh (x:=!(inB g 0 ((n:Int) - 1) && (match (if i=0 then none else v[i - 1]?) with | none=>true | some q=>!decide (g ≤ q)))) ?_).trans ?_
  ·rw [Kwq,Kwv h,bs]
   cases inB g 0 ((n:Int) - 1)
   ·rfl
   ·by_cases h0:i=0
    ·subst h0; rfl
    ·have hp:i - 1 < v.length:=by omega
     rw [if_pos rfl,decide_eq_true (by omega:(i:Int) > 0),if_pos rfl,Ks6 (by omega) (by omega),show (i:Int) - 1=((i - 1:Nat):Int) by omega,Ks7 hp,bs,if_neg h0,List.getElem?_eq_getElem hp]
     simp
  ·rw [Ky8]
   cases hc:(inB g 0 ((n:Int) - 1) && (match (if i=0 then none else v[i - 1]?) with | none=>true | some q=>!decide (g ≤ q)))
   ·rfl
   ·rw [Bool.and_eq_true] at hc
    obtain ⟨e1,l1⟩:=Kw8 hc.1
    rw [Bool.not_true,if_neg (by decide),Bool.true_and]
    have hidx:idx b g=some (inG b g.toNat):=by rw [e1,Ky6 hb l1,Int.toNat_natCast]
    rw [hidx,bs]
    rw [Ks8 (by omega),ih (i + 1) _ hd' (by simpa using hb),if_neg (by omega:¬ i + 1=0),Nat.add_sub_cancel,hg,vIn]
end
theorem Kyj (s:K00) (v:List Int) (hv:v.length ≤ 1099511627776):Kok (s,v)=some (Kw4 s && Ky7 s.fSize.toNat none v && vwI s s.fSize.toNat (vIn v (List.replicate s.fSize.toNat false))):=by
 unfold Kok
 simp only
 rw [Kw7,bs]
 cases hs:Kw4 s
 ·rfl
 ·have T:=Kw5 hs
  have hsz:=T.size
  have hhi:=T.hi
  rw [if_pos rfl,Ky5 (by omega),bs]
  have hl:=Kyi T v hv v 0 (List.replicate s.fSize.toNat false) rfl (by simp)
  rw [show ((0:Nat):Int)=0 from rfl,if_pos rfl] at hl
  rw [hl,bs]
  cases Ky7 s.fSize.toNat none v
  ·rfl
  ·simp only [if_true]
   rw [Kyh T (by rw [Ky9]; simp),bs]; rfl
def vwB (s:K00) (v:List Int):Bool:=Kw4 s && Ky7 s.fSize.toNat none v && vwI s s.fSize.toNat (vIn v (List.replicate s.fSize.toNat false))
theorem sVw (s:K00) (v:List Int) (hv:v.length ≤ 1099511627776):Kgp (s,v)=some (vwB s v):=Kye s v hv
theorem iVw (s:K00) (v:List Int) (hv:v.length ≤ 1099511627776):Kok (s,v)=some (vwB s v):=Kyj s v hv
theorem Kyk (l:List Int) (n:Int) (hl:l.length ≤ 1099511627776):∀ (m:List Int) (i:Nat),l.drop i=m→Kgt (l,n,(i:Int))=some (if m.contains n then .inr true else .inl ()):=by
 intro m
 induction m with
 | nil =>
  intro i hd
  rw [Kgt.eq_def]
  simp only
  rw [Ksa (Kto hd)]; rfl
 | cons x m ih =>
  intro i hd
  obtain ⟨hi,hx,hd'⟩:=Ktn hd
  rw [Kgt.eq_def]
  simp only
  rw [Ks9 hi,if_pos rfl,hx,bs,Ks8 (by omega),ih (i + 1) hd',List.contains_cons,show (n == x)=(x == n) from by rw [Bool.eq_iff_iff]; simp; exact eq_comm]
  cases x == n <;> simp
theorem Kyl (l:List Int) (n:Int) (hl:l.length ≤ 1099511627776):Kgw (l,n)=some (l.contains n):=by
 unfold Kgw
 simp only
 rw [show (0:Int)=((0:Nat):Int) from rfl,Kyk l n hl l 0 rfl,bs]
 cases l.contains n <;> rfl
theorem Kym (l:List Int) (n:Int) (hl:l.length ≤ 1099511627776):∀ (m:List Int) (i:Nat),l.drop i=m→∃ r,Koo (l,n,(i:Int))=some r∧(match r with | .inl _=>m.contains n=false | .inr k=>m.contains n=true∧0 ≤ k):=by
 intro m
 induction m with
 | nil =>
  intro i hd
  rw [Koo.eq_def]
  simp only
  rw [Ksa (Kto hd)]
  exact ⟨_,rfl,rfl⟩
 | cons x m ih =>
  intro i hd
  obtain ⟨hi,hx,hd'⟩:=Ktn hd
  rw [Koo.eq_def]
  simp only
  rw [Ks9 hi,if_pos rfl,hx,bs,Ks8 (by omega),List.contains_cons]
  cases n == x
  ·obtain ⟨r,h1,h2⟩:=ih (i + 1) hd'
   exact ⟨r,by rw [if_neg (by decide)]; exact h1,by simpa using h2⟩
  ·exact ⟨.inr (i:Int),rfl,by simp⟩
theorem Kyn (l:List Int) (n:Int) (hl:l.length ≤ 1099511627776):Kou (l,n)=some (l.contains n):=by
 unfold Kou Kor
 simp only
 obtain ⟨r,h1,h2⟩:=Kym l n hl l 0 rfl
 rw [show (0:Int)=((0:Nat):Int) from rfl,h1,bs]
 cases r with
 | inl u=>simp only at h2; rw [h2]; rfl
 | inr m=>simp only at h2; rw [h2.1]; simp [bs,h2.2]
theorem Kyo (x y:Int) (l r:List Int):(x :: l == y :: r)=(x == y && l == r):=rfl
theorem Kyp (a b:List Int) (ha:a.length ≤ 1099511627776) (hab:a.length=b.length):∀ (l r:List Int) (i:Nat),a.drop i=l→b.drop i=r→Kf9 (a,b,(i:Int))=some (if l == r then .inl () else .inr false):=by
 intro l
 induction l with
 | nil =>
  intro r i h1 h2
  have hi:=Kto h1
  rw [Kf9.eq_def]
  simp only
  rw [Ksa hi]
  have:r=[]:=by rw [← h2]; exact List.drop_eq_nil_of_le (by omega)
  subst this; rfl
 | cons x l ih =>
  intro r i h1 h2
  obtain ⟨hi,hx,hd⟩:=Ktn h1
  cases r with
  | nil=>have:=Kto h2; omega
  | cons y r =>
   obtain ⟨_,hy,hd2⟩:=Ktn h2
   rw [Kf9.eq_def]
   simp only
   rw [Ks9 hi,if_pos rfl,hx,hy,bs,bs,Ks8 (by omega),ih r (i + 1) hd hd2,Kyo]
   by_cases e:x=y
   ·subst e; simp
   ·rw [bne_iff_ne.2 e,if_pos rfl,beq_eq_false_iff_ne.2 e]; rfl
theorem Kyq (a b:List Int) (hb:b.length ≤ 1099511627776):Kfc (a,b)=some (a == b):=by
 unfold Kfc
 simp only
 by_cases h:a.length=b.length
 ·rw [h,Ksg,if_neg (by decide)]
  have:=Kyp a b (by omega) h a b 0 rfl rfl
  rw [show ((0:Nat):Int)=0 from rfl] at this
  rw [this]
  cases a == b <;> rfl
 ·rw [bne_iff_ne.2 (by omega),if_pos rfl]
  have:a ≠ b:=fun e=>h (by rw [e])
  rw [beq_eq_false_iff_ne.2 this]
theorem Kyr (a b:List Int) (ha:a.length ≤ 1099511627776) (hab:a.length=b.length):∀ (l r:List Int) (i:Nat),a.drop i=l→b.drop i=r→Kl7 (a,b,(i:Int))=some (if l == r then .inl () else .inr false):=by
 intro l
 induction l with
 | nil =>
  intro r i h1 h2
  have hi:=Kto h1
  rw [Kl7.eq_def]
  simp only
  rw [Ksa hi]
  have:r=[]:=by rw [← h2]; exact List.drop_eq_nil_of_le (by omega)
  subst this; rfl
 | cons x l ih =>
  intro r i h1 h2
  obtain ⟨hi,hx,hd⟩:=Ktn h1
  cases r with
  | nil=>have:=Kto h2; omega
  | cons y r =>
   obtain ⟨_,hy,hd2⟩:=Ktn h2
   rw [Kl7.eq_def]
   simp only
   rw [Ks9 hi,if_pos rfl,hx,hy,bs,bs,Ks8 (by omega),ih r (i + 1) hd hd2,Kyo]
   by_cases e:x=y
   ·subst e; simp
   ·rw [bne_iff_ne.2 e,if_pos rfl,beq_eq_false_iff_ne.2 e]; rfl
theorem Kys (a b:List Int) (hb:b.length ≤ 1099511627776):Kla (a,b)=some (a == b):=by
 unfold Kla
 simp only
 by_cases h:a.length=b.length
 ·rw [h,Ksg,if_neg (by decide)]
  have:=Kyr a b (by omega) h a b 0 rfl rfl
  rw [show ((0:Nat):Int)=0 from rfl] at this
  rw [this]
  cases a == b <;> rfl
 ·rw [bne_iff_ne.2 (by omega),if_pos rfl]
  have:a ≠ b:=fun e=>h (by rw [e])
  rw [beq_eq_false_iff_ne.2 this]
theorem Kyt (g:Int→Bool) (y:List Int→Bool) (op:Int) (n i:Nat) (k:K01) (ks:List K01):Kv9 g y op n i (k :: ks)=(tOk g y (n + Kv2 op i) k && Kv9 g y op n (i + 1) ks):=by rw [Kv9]
theorem Kyu {l:List K01} (h:((l.length:Int) == 1)=true):∃ k,l=[k]:=by
 rw [beq_iff_eq] at h; match l,h with | [k],_=>exact ⟨k,rfl⟩ | [],h=>exact absurd h (by simp) | _ :: _ :: _,h=>exact absurd h (by simp only [List.length_cons]; omega)
theorem Kyv {l:List K01} (h:((l.length:Int) == 2)=true):∃ k m,l=[k,m]:=by
 rw [beq_iff_eq] at h; match l,h with | [k,m],_=>exact ⟨k,m,rfl⟩ | [],h=>exact absurd h (by simp) | [_],h=>exact absurd h (by simp) | _ :: _ :: _ :: _,h=>exact absurd h (by simp only [List.length_cons]; omega)
def Kyw (s:K00) (t:K01) (n:Nat):Bool:=Kw4 s && decide (tsz t ≤ 400) && tOk (gN s.fSize true) (yN s.fSize true) n t
theorem Kyx (s:K00) (t:K01) (n:Nat) (hn:n ≤ 8) (ht:tms t ≤ 1099511627776):Ke6 (s,t,(n:Int))=some (Kyw s t n):=by
 unfold Ke6 Kyw
 simp only
 rw [Kw6,bs]
 cases Kw4 s
 ·rfl
 ·rw [if_pos rfl,sIn,bs]
  have:inB (n:Int) 0 8=true:=by unfold inB; rw [decide_eq_true (by omega),decide_eq_true (by omega)]; rfl
  have hl:=Kuq t 400 ht (by decide)
  rw [show ((400:Nat):Int)=400 from rfl] at hl
  rw [this,if_pos rfl,hl,bs]
  by_cases h:tsz t ≤ 400
  ·rw [Kun h,decide_eq_true (by omega),decide_eq_true h,if_pos rfl,Kvc _ _ t n ht (by omega)]
   cases tOk (gN s.fSize true) (yN s.fSize true) n t <;> rfl
  ·rw [Kuo h,decide_eq_false h]; rfl
theorem Kyy (op N:Int) (ty:List Int) (a:K01):tsz ⟨op,N,ty,[a]⟩=1 + tsz a:=by simp [tsz,Kui]
theorem Kyz (op N:Int) (ty:List Int) (a b:K01):tsz ⟨op,N,ty,[a,b]⟩=1 + (tsz a + tsz b):=by simp [tsz,Kui]
theorem Kz0 (op N:Int) (ty:List Int) (a b c:K01):tsz ⟨op,N,ty,[a,b,c]⟩=1 + (tsz a + (tsz b + tsz c)):=by simp [tsz,Kui]
theorem Kz1 {l:List K01} (h:(l.length:Int)=3):∃ a b c,l=[a,b,c]:=by
 match l,h with | [a,b,c],_=>exact ⟨a,b,c,rfl⟩ | [],h=>exact absurd h (by simp) | [_],h=>exact absurd h (by simp) | [_,_],h=>exact absurd h (by simp) | _ :: _ :: _ :: _ :: _,h=>exact absurd h (by simp only [List.length_cons]; omega)
def lms (l:List (List Int)):Nat:=l.length + lct l
theorem Kz2 {l:List (List Int)} (h:lms l ≤ 1099511627776):lok l:=by unfold lms at h; exact ⟨by omega,by omega⟩
def lln (l:List (List Int)):Prop:=l.length ≤ 9223372036854775807∧∀ v ∈ l,v.length ≤ 9223372036854775807
theorem Kz3:∀ (l a:List (List Int)) (i left:Nat),a.drop i=l→a.length ≤ 9223372036854775807→(∀ v ∈ l,v.length ≤ 9223372036854775807)→left ≤ 1048576→K94 (a,(left:Int),(i:Int))=some (if left < lct l then .inr (-1) else .inl ((left - lct l:Nat):Int)):=by
 intro l
 induction l with
 | nil =>
  intro a i left hd ha hl h
  rw [K94.eq_def,lct]
  simp only
  rw [Ksa (Kto hd)]; simp
 | cons x l ih =>
  intro a i left hd ha hl h
  obtain ⟨hi,hx,hd'⟩:=Ktn hd
  rw [K94.eq_def,lct]
  simp only
  rw [Ks9 hi,if_pos rfl,hx,bs,Kvg x left (by omega) (by omega) (hl x List.mem_cons_self),bs,Ks8 (by omega)]
  rcases Kvf left x.length with ⟨e,q⟩ | ⟨e,q⟩
  ·rw [e,decide_eq_true (by decide),if_pos rfl,if_pos (by omega)]
  ·rw [e,decide_eq_false (by omega),if_neg (by decide),show (left:Int) - (x.length:Int)=((left - x.length:Nat):Int) by omega,ih a (i + 1) (left - x.length) hd' ha (fun v hv=>hl v (List.mem_cons_of_mem _ hv)) (by omega)]
   by_cases q2:left - x.length < lct l
   ·rw [if_pos q2,if_pos (by omega)]
   ·rw [if_neg q2,if_neg (by omega)]; congr 3; omega
theorem Kz4 (a:List (List Int)) (left:Int) (ha:lln a) (h1:0 ≤ left) (h2:left ≤ 1048576):K97 (a,left)=some (szB left (lms a)):=by
 have hl:=ha.1
 unfold K97 lms
 simp only
 rw [Ks6 (by omega) (by omega)]
 by_cases h3:left - (a.length:Int) < 0
 ·rw [decide_eq_true h3,if_pos rfl]; unfold szB; rw [if_pos (by omega)]
 ·obtain ⟨m,hm⟩:∃ m:Nat,left - (a.length:Int)=(m:Int):=⟨(left - (a.length:Int)).toNat,by omega⟩
  have h:=Kz3 a a 0 m rfl hl ha.2 (by omega)
  rw [show ((0:Nat):Int)=0 from rfl] at h
  rw [decide_eq_false h3,if_neg (by decide),hm,h,bs]
  unfold szB
  by_cases q:m < lct a
  ·rw [if_pos q,if_pos (by omega)]
  ·rw [if_neg q,if_neg (by omega)]; simp only; congr 1; omega
theorem Kz5:∀ (l a out:List (List Int)) (i:Nat),a.drop i=l→a.length ≤ 1099511627776→lct l ≤ 1099511627776→out.length=a.length→out.take i=a.take i→Ka3 (a,out,(i:Int))=some a:=by
 intro l
 induction l with
 | nil =>
  intro a out i hd ha hl ho ht
  rw [Ka3.eq_def]
  simp only
  have hle:=Kto hd
  rw [Ksa hle]
  rw [List.take_of_length_le (by omega),List.take_of_length_le (by omega)] at ht
  simp [ht]
 | cons x l ih =>
  intro a out i hd ha hl ho ht
  obtain ⟨hi,hx,hd'⟩:=Ktn hd
  have hk:a[i]=x:=by rw [Ks7 hi] at hx; exact Option.some.inj hx
  rw [lct] at hl
  rw [Ka3.eq_def]
  simp only
  rw [Ks9 hi,if_pos rfl,hx,bs,Ksd x (by omega),bs,Ks7 (by omega),bs,Ks8 (by omega),Int.toNat_natCast]
  exact ih a _ (i + 1) hd' ha (by omega) (by simpa using ho) (by rw [← hk]; exact Ksb ho hi ht)
theorem Kz6 (a:List (List Int)) (h:lms a ≤ 1099511627776):Ka6 a=some a:=by
 unfold lms at h
 unfold Ka6
 have:chk (0 ≤ (a.length:Int)∧(Int.toNat (a.length:Int)) * 24 ≤ 140737488355328)=some ():=by
  unfold chk; rw [if_pos]; refine ⟨by omega,?_⟩; rw [Int.toNat_natCast]; omega
 have h0:=Kz5 a a (List.replicate a.length []) 0 rfl (by omega) (by omega) (by simp) rfl
 rw [show ((0:Nat):Int)=0 from rfl] at h0
 rw [this,bs,Int.toNat_natCast,h0,bs]
end Go.Am
