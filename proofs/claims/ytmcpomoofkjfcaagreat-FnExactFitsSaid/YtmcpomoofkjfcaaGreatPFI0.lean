/- Plain laws of the printed functions. -/
import Derived.Test.YtmcpomoofkjfcaaGreatGFIF12
set_option linter.unusedSimpArgs false
set_option linter.unusedVariables false
namespace Go.Am
theorem wr_id {x:Int} (h1:-9223372036854775808 ≤ x) (h2:x ≤ 9223372036854775807):wr x=x:=by
 unfold wr IntKind.wrap
 simp [IntKind.bits,IntKind.signed]
 omega
theorem idx_get {α:Type} {l:List α} {n:Nat} (h:n < l.length):idx l (n:Int)=some l[n]:=by
 unfold idx
 rw [if_pos (by omega)]
 simp [h]
theorem bs {α β:Type} (a:α) (f:α→Option β):(some a >>= f)=f a:=rfl
theorem wr_succ {n:Nat} (h:n < 9223372036854775807):wr ((n:Int) + 1)=((n + 1:Nat):Int):=by
 rw [wr_id (by omega) (by omega)]; omega
theorem lt_t {n m:Nat} (h:n < m):decide ((n:Int) < (m:Int))=true:=decide_eq_true (by omega)
theorem lt_f {n m:Nat} (h:m ≤ n):decide ((n:Int) < (m:Int))=false:=decide_eq_false (by omega)
theorem take_set_succ {α:Type} {l a:List α} {n:Nat} (hl:l.length=a.length) (hn:n < a.length) (h:l.take n=a.take n):(l.set n a[n]).take (n + 1)=a.take (n + 1):=by
 apply List.ext_getElem?
 intro i
 rw [List.getElem?_take,List.getElem?_take]
 by_cases hi:i < n + 1
 ·rw [if_pos hi,if_pos hi,List.getElem?_set]
  by_cases e:n=i
  ·subst e
   rw [if_pos rfl,if_pos (by omega),List.getElem?_eq_getElem hn]
  ·rw [if_neg e]
   have:=congrArg (fun l=>l[i]?) h
   simp only [List.getElem?_take] at this
   rw [if_pos (by omega),if_pos (by omega)] at this
   exact this
 ·rw [if_neg hi,if_neg hi]
theorem toIntS_l0 (a:List Int) (ha:a.length ≤ 1099511627776):∀ (k n:Nat) (out:List Int),n + k=a.length→out.length=a.length→out.take n=a.take n→laws_toIntS_l0 (a,out,(n:Int))=some a:=by
 intro k
 induction k with
 | zero =>
  intro n out hn hl ht
  rw [laws_toIntS_l0.eq_def]
  simp only
  rw [lt_f (by omega)]
  have h1:out.take n=out:=List.take_of_length_le (by omega)
  have h2:a.take n=a:=List.take_of_length_le (by omega)
  rw [h1,h2] at ht
  simp [ht]
 | succ k ih =>
  intro n out hn hl ht
  rw [laws_toIntS_l0.eq_def]
  simp only
  rw [lt_t (by omega),if_pos rfl,idx_get (by omega),bs,idx_get (by omega),bs,wr_succ (by omega),Int.toNat_natCast]
  exact ih (n + 1) _ (by omega) (by simpa using hl) (take_set_succ hl (by omega) ht)
theorem toIntS_id (a:List Int) (ha:a.length ≤ 1099511627776):laws_toIntS a=some a:=by
 unfold laws_toIntS
 have:chk (0 ≤ (a.length:Int)∧(Int.toNat (a.length:Int)) * 8 ≤ 140737488355328)=some ():=by
  unfold chk; rw [if_pos]; refine ⟨by omega,?_⟩; rw [Int.toNat_natCast]; omega
 rw [this,bs,Int.toNat_natCast]
 have:=toIntS_l0 a ha a.length 0 (List.replicate a.length 0) (by omega) (by simp) rfl
 rw [show ((0:Nat):Int)=0 from rfl] at this
 rw [this,bs]
theorem toBoolS_l0 (a:List Bool) (ha:a.length ≤ 1099511627776):∀ (k n:Nat) (out:List Bool),n + k=a.length→out.length=a.length→out.take n=a.take n→laws_toBoolS_l0 (a,out,(n:Int))=some a:=by
 intro k
 induction k with
 | zero =>
  intro n out hn hl ht
  rw [laws_toBoolS_l0.eq_def]
  simp only
  rw [lt_f (by omega)]
  have h1:out.take n=out:=List.take_of_length_le (by omega)
  have h2:a.take n=a:=List.take_of_length_le (by omega)
  rw [h1,h2] at ht
  simp [ht]
 | succ k ih =>
  intro n out hn hl ht
  rw [laws_toBoolS_l0.eq_def]
  simp only
  rw [lt_t (by omega),if_pos rfl,idx_get (by omega),bs,idx_get (by omega),bs,wr_succ (by omega),Int.toNat_natCast]
  exact ih (n + 1) _ (by omega) (by simpa using hl) (take_set_succ hl (by omega) ht)
theorem toBoolS_id (a:List Bool) (ha:a.length ≤ 1099511627776):laws_toBoolS a=some a:=by
 unfold laws_toBoolS
 have:chk (0 ≤ (a.length:Int)∧(Int.toNat (a.length:Int)) * 1 ≤ 140737488355328)=some ():=by
  unfold chk; rw [if_pos]; refine ⟨by omega,?_⟩; rw [Int.toNat_natCast]; omega
 rw [this,bs,Int.toNat_natCast]
 have:=toBoolS_l0 a ha a.length 0 (List.replicate a.length false) (by omega) (by simp) rfl
 rw [show ((0:Nat):Int)=0 from rfl] at this
 rw [this,bs]
theorem bne_self {a:Int}:(a != a)=false:=by simp
theorem eqIntS_l0 (a:List Int) (ha:a.length ≤ 1099511627776):∀ (k n:Nat),n + k=a.length→laws_eqIntS_l0 (a,a,(n:Int))=some (.inl ()):=by
 intro k
 induction k with
 | zero =>
  intro n hn
  rw [laws_eqIntS_l0.eq_def]
  simp only
  rw [lt_f (by omega)]
  rfl
 | succ k ih =>
  intro n hn
  rw [laws_eqIntS_l0.eq_def]
  simp only
  rw [lt_t (by omega),if_pos rfl,idx_get (by omega),bs,bs,bne_self,if_neg (by decide),wr_succ (by omega)]
  exact ih (n + 1) (by omega)
theorem eqIntS_refl (a:List Int) (ha:a.length ≤ 1099511627776):laws_eqIntS (a,a)=some true:=by
 unfold laws_eqIntS
 simp only
 have:=eqIntS_l0 a ha a.length 0 (by omega)
 rw [show ((0:Nat):Int)=0 from rfl] at this
 rw [bne_self,if_neg (by decide),this]
 rfl
theorem eqBoolS_l0 (a:List Bool) (ha:a.length ≤ 1099511627776):∀ (k n:Nat),n + k=a.length→laws_eqBoolS_l0 (a,a,(n:Int))=some (.inl ()):=by
 intro k
 induction k with
 | zero =>
  intro n hn
  rw [laws_eqBoolS_l0.eq_def]
  simp only
  rw [lt_f (by omega)]
  rfl
 | succ k ih =>
  intro n hn
  rw [laws_eqBoolS_l0.eq_def]
  simp only
  rw [lt_t (by omega),if_pos rfl,idx_get (by omega),bs,bs,show ∀ b:Bool,(b == b)=true from by decide,if_pos rfl,wr_succ (by omega)]
  exact ih (n + 1) (by omega)
theorem eqBoolS_refl (a:List Bool) (ha:a.length ≤ 1099511627776):laws_eqBoolS (a,a)=some true:=by
 unfold laws_eqBoolS
 simp only
 have:=eqBoolS_l0 a ha a.length 0 (by omega)
 rw [show ((0:Nat):Int)=0 from rfl] at this
 rw [bne_self,if_neg (by decide),this]
 rfl
theorem toSystem_id (s:GSystem) (h1:s.fPlus.length ≤ 1099511627776) (h2:s.fTimes.length ≤ 1099511627776) (h3:s.fBelow.length ≤ 1099511627776):laws_toSystem s=some s:=by
 unfold laws_toSystem
 rw [toIntS_id _ h1,bs,toIntS_id _ h2,bs,toBoolS_id _ h3,bs]
theorem eqSystem_refl (s:GSystem) (h1:s.fPlus.length ≤ 1099511627776) (h2:s.fTimes.length ≤ 1099511627776) (h3:s.fBelow.length ≤ 1099511627776):laws_eqSystem (s,s)=some true:=by
 unfold laws_eqSystem
 simp only
 rw [bne_self,if_neg (by decide),eqIntS_refl _ h1,bs,if_pos rfl,eqIntS_refl _ h2,bs,if_pos rfl,eqBoolS_refl _ h3,bs,if_pos rfl]
structure Tab (s:GSystem) (n:Nat):Prop where
 size:s.fSize=(n:Int)
 lo:2 ≤ n
 hi:n ≤ 16
 lp:s.fPlus.length=n * n
 lt:s.fTimes.length=n * n
 lb:s.fBelow.length=n * n
 rp:∀ i (h:i < s.fPlus.length),0 ≤ s.fPlus[i]∧s.fPlus[i] < (n:Int)
 rt:∀ i (h:i < s.fTimes.length),0 ≤ s.fTimes[i]∧s.fTimes[i] < (n:Int)
def pl (s:GSystem) (n a b:Nat):Nat:=(s.fPlus.getD (a * n + b) 0).toNat
def ti (s:GSystem) (n a b:Nat):Nat:=(s.fTimes.getD (a * n + b) 0).toNat
def le (s:GSystem) (n a b:Nat):Bool:=s.fBelow.getD (a * n + b) false
theorem two_lt {n a b:Nat} (ha:a < n) (hb:b < n):a * n + b < n * n:=by
 have:(a + 1) * n ≤ n * n:=Nat.mul_le_mul_right _ (by omega)
 rw [Nat.add_mul,Nat.one_mul] at this
 omega
theorem wr_at {n a b:Nat} (hn:n ≤ 16) (ha:a < n) (hb:b < n):wr ((wr ((a:Int) * (n:Int))) + (b:Int))=((a * n + b:Nat):Int):=by
 have h1:a * n ≤ 256:=Nat.le_trans (Nat.mul_le_mul (by omega:a ≤ 16) hn) (by decide)
 have e:(a:Int) * (n:Int)=((a * n:Nat):Int):=by simp
 rw [e]
 generalize a * n=m at h1
 rw [wr_id (x:=(m:Int)) (by omega) (by omega),wr_id (by omega) (by omega)]
 omega
section
variable {s:GSystem} {n:Nat} (h:Tab s n)
include h
theorem pl_lt {a b:Nat} (ha:a < n) (hb:b < n):pl s n a b < n:=by
 have hl:a * n + b < s.fPlus.length:=by rw [h.lp]; exact two_lt ha hb
 unfold pl
 rw [List.getD_eq_getElem?_getD,List.getElem?_eq_getElem hl]
 have:=h.rp _ hl
 simp only [Option.getD_some]
 omega
theorem ti_lt {a b:Nat} (ha:a < n) (hb:b < n):ti s n a b < n:=by
 have hl:a * n + b < s.fTimes.length:=by rw [h.lt]; exact two_lt ha hb
 unfold ti
 rw [List.getD_eq_getElem?_getD,List.getElem?_eq_getElem hl]
 have:=h.rt _ hl
 simp only [Option.getD_some]
 omega
theorem idx_pl {a b:Nat} (ha:a < n) (hb:b < n):idx s.fPlus ((a * n + b:Nat):Int)=some ((pl s n a b:Nat):Int):=by
 have hl:a * n + b < s.fPlus.length:=by rw [h.lp]; exact two_lt ha hb
 rw [idx_get hl]
 unfold pl
 rw [List.getD_eq_getElem?_getD,List.getElem?_eq_getElem hl]
 have:=h.rp _ hl
 simp only [Option.getD_some]
 congr 1
 omega
theorem idx_ti {a b:Nat} (ha:a < n) (hb:b < n):idx s.fTimes ((a * n + b:Nat):Int)=some ((ti s n a b:Nat):Int):=by
 have hl:a * n + b < s.fTimes.length:=by rw [h.lt]; exact two_lt ha hb
 rw [idx_get hl]
 unfold ti
 rw [List.getD_eq_getElem?_getD,List.getElem?_eq_getElem hl]
 have:=h.rt _ hl
 simp only [Option.getD_some]
 congr 1
 omega
theorem idx_le {a b:Nat} (ha:a < n) (hb:b < n):idx s.fBelow ((a * n + b:Nat):Int)=some (le s n a b):=by
 have hl:a * n + b < s.fBelow.length:=by rw [h.lb]; exact two_lt ha hb
 rw [idx_get hl]
 unfold le
 rw [List.getD_eq_getElem?_getD,List.getElem?_eq_getElem hl]
 rfl
theorem sAdd {a b:Nat} (ha:a < n) (hb:b < n):spec_l1Add (s,(a:Int),(b:Int))=some ((pl s n a b:Nat):Int):=by
 unfold spec_l1Add
 simp only
 rw [h.size,wr_at h.hi ha hb,idx_pl h ha hb,bs]
theorem sMul {a b:Nat} (ha:a < n) (hb:b < n):spec_l1Mul (s,(a:Int),(b:Int))=some ((ti s n a b:Nat):Int):=by
 unfold spec_l1Mul
 simp only
 rw [h.size,wr_at h.hi ha hb,idx_ti h ha hb,bs]
theorem sLe {a b:Nat} (ha:a < n) (hb:b < n):spec_l1Le (s,(a:Int),(b:Int))=some (le s n a b):=by
 unfold spec_l1Le
 simp only
 rw [h.size,wr_at h.hi ha hb,idx_le h ha hb,bs]
theorem iAdd {a b:Nat} (ha:a < n) (hb:b < n):impl_Systemplus (s,(a:Int),(b:Int))=some ((pl s n a b:Nat):Int):=by
 unfold impl_Systemplus
 simp only
 rw [h.size,wr_at h.hi ha hb,idx_pl h ha hb,bs]
theorem iMul {a b:Nat} (ha:a < n) (hb:b < n):impl_Systemtimes (s,(a:Int),(b:Int))=some ((ti s n a b:Nat):Int):=by
 unfold impl_Systemtimes
 simp only
 rw [h.size,wr_at h.hi ha hb,idx_ti h ha hb,bs]
theorem iLe {a b:Nat} (ha:a < n) (hb:b < n):impl_Systembelow (s,(a:Int),(b:Int))=some (le s n a b):=by
 unfold impl_Systembelow
 simp only
 rw [h.size,wr_at h.hi ha hb,idx_le h ha hb,bs]
end
theorem cast_beq (x y:Nat):(((x:Nat):Int) == ((y:Nat):Int))=(x == y):=by
 cases hb:(x == y) with
 | true=>have:=eq_of_beq hb; subst this; simp
 | false=>simp at hb ⊢; omega
theorem cast_bne (x y:Nat):(((x:Nat):Int) != ((y:Nat):Int))=(x != y):=by
 simp only [bne,cast_beq]
def oneG (s:GSystem) (n a:Nat):Bool:=(pl s n 0 a == a) && (ti s n 1 a == a) && (ti s n a 1 == a) && (ti s n 0 a == 0) && (ti s n a 0 == 0) && le s n a a
def threeG (s:GSystem) (n a b c:Nat):Bool :=
 (pl s n (pl s n a b) c == pl s n a (pl s n b c)) && (ti s n (ti s n a b) c == ti s n a (ti s n b c)) &&
 (ti s n a (pl s n b c) == pl s n (ti s n a b) (ti s n a c)) && (ti s n (pl s n a b) c == pl s n (ti s n a c) (ti s n b c)) &&
 (!(le s n a b) || ((!(le s n b c) || le s n a c) && le s n (pl s n a c) (pl s n b c) && le s n (ti s n a c) (ti s n b c) && le s n (ti s n c a) (ti s n c b)))
section
variable {s:GSystem} {n:Nat} (h:Tab s n)
include h
theorem sOne {a:Nat} (ha:a < n):spec_l1One (s,(a:Int))=some (oneG s n a):=by
 have l0:(0:Nat) < n:=by have:=h.lo; omega
 have l1:(1:Nat) < n:=by have:=h.lo; omega
 have e0:(0:Int)=((0:Nat):Int):=rfl
 have e1:(1:Int)=((1:Nat):Int):=rfl
 unfold spec_l1One oneG
 simp only
 rw [e0,e1]
 simp only [sAdd h l0 ha,sMul h l1 ha,sMul h ha l1,sMul h l0 ha,sMul h ha l0,sLe h ha ha,bs,cast_beq]
 generalize (pl s n 0 a == a)=b1
 generalize (ti s n 1 a == a)=b2
 generalize (ti s n a 1 == a)=b3
 generalize (ti s n 0 a == 0)=b4
 generalize (ti s n a 0 == 0)=b5
 generalize le s n a a=b6
 cases b1 <;> cases b2 <;> cases b3 <;> cases b4 <;> cases b5 <;> cases b6 <;> rfl
theorem sThree {a b c:Nat} (ha:a < n) (hb:b < n) (hc:c < n):spec_l1Three (s,(a:Int),(b:Int),(c:Int))=some (threeG s n a b c):=by
 unfold spec_l1Three threeG
 simp only
 simp only [sAdd h,sMul h,sLe h,pl_lt h,ti_lt h,ha,hb,hc,bs,cast_bne]
 generalize e1:pl s n (pl s n a b) c=x1
 generalize e2:pl s n a (pl s n b c)=x2
 generalize e3:ti s n (ti s n a b) c=x3
 generalize e4:ti s n a (ti s n b c)=x4
 generalize ti s n a (pl s n b c)=x5
 generalize pl s n (ti s n a b) (ti s n a c)=x6
 generalize ti s n (pl s n a b) c=x7
 generalize pl s n (ti s n a c) (ti s n b c)=x8
 generalize le s n (pl s n a c) (pl s n b c)=y1
 generalize le s n (ti s n a c) (ti s n b c)=y2
 generalize le s n (ti s n c a) (ti s n c b)=y3
 generalize le s n a b=y4
 generalize le s n b c=y5
 generalize le s n a c=y6
 simp only [bne]
 generalize (x1 == x2)=b1
 generalize (x3 == x4)=b2
 generalize (x5 == x6)=b3
 generalize (x7 == x8)=b4
 cases b1 <;> cases b2 <;> cases b3 <;> cases b4 <;> first | rfl | (cases y4 <;> cases y5 <;> cases y6 <;> cases y1 <;> cases y2 <;> cases y3 <;> rfl)
theorem iThree {a b c:Nat} (ha:a < n) (hb:b < n) (hc:c < n):impl_SystemlawsOf (s,(a:Int),(b:Int),(c:Int))=some (threeG s n a b c):=by
 unfold impl_SystemlawsOf threeG
 simp only
 simp only [iAdd h,iMul h,iLe h,pl_lt h,ti_lt h,ha,hb,hc,bs,cast_bne]
 generalize e1:pl s n (pl s n a b) c=x1
 generalize e2:pl s n a (pl s n b c)=x2
 generalize e3:ti s n (ti s n a b) c=x3
 generalize e4:ti s n a (ti s n b c)=x4
 generalize ti s n a (pl s n b c)=x5
 generalize pl s n (ti s n a b) (ti s n a c)=x6
 generalize ti s n (pl s n a b) c=x7
 generalize pl s n (ti s n a c) (ti s n b c)=x8
 generalize le s n (pl s n a c) (pl s n b c)=y1
 generalize le s n (ti s n a c) (ti s n b c)=y2
 generalize le s n (ti s n c a) (ti s n c b)=y3
 generalize le s n a b=y4
 generalize le s n b c=y5
 generalize le s n a c=y6
 simp only [bne]
 generalize (x1 == x2)=b1
 generalize (x3 == x4)=b2
 generalize (x5 == x6)=b3
 generalize (x7 == x8)=b4
 cases b1 <;> cases b2 <;> cases b3 <;> cases b4 <;> first | rfl | (cases y4 <;> cases y5 <;> cases y6 <;> cases y1 <;> cases y2 <;> cases y3 <;> rfl)
end
def lst1 (s:GSystem) (n a b g h:Nat):Bool:=!le s n a h || !le s n b h || le s n g h
def jok (s:GSystem) (n a b g:Nat):Bool:=le s n a g && le s n b g && (List.range' 0 n).all (lst1 s n a b g)
def joinI (s:GSystem) (n a b:Nat):Int:=match (List.range' 0 n).find? (jok s n a b) with | some g=>(g:Int) | none=>-1
section
variable {s:GSystem} {n:Nat} (h:Tab s n)
include h
theorem sJoin_l0 {a b g:Nat} (ha:a < n) (hb:b < n) (hg:g < n):∀ (k m:Nat) (ok:Bool),m + k=n→spec_l1Join_l0 (s,(a:Int),(b:Int),(g:Int),ok,(m:Int))=some (ok && (List.range' m k).all (lst1 s n a b g)):=by
 have hhi:=h.hi
 intro k
 induction k with
 | zero =>
  intro m ok hm
  rw [spec_l1Join_l0.eq_def]
  simp only
  rw [h.size,lt_f (by omega)]
  simp [bs]
 | succ k ih =>
  intro m ok hm
  rw [spec_l1Join_l0.eq_def]
  simp only
  rw [h.size,lt_t (by omega),if_pos rfl,bs,sLe h ha (by omega),sLe h hb (by omega),sLe h hg (by omega)]
  cases ok with
  | false=>rfl
  | true =>
   rw [if_pos rfl]
   rw [List.range'_succ,List.all_cons]
   have ih:∀ ok,_:=fun ok=>ih (m + 1) ok (by omega)
   rw [wr_succ (by omega)]
   generalize ((m + 1:Nat):Int)=M at ih ⊢
   simp only [bs,lst1]
   cases le s n a m <;> cases le s n b m <;> cases le s n g m <;> simp [bs,ih,lst1]
theorem iJoin_l0 {a b g:Nat} (ha:a < n) (hb:b < n) (hg:g < n):∀ (k m:Nat) (ok:Bool),m + k=n→impl_Systemjoin_l0 (s,(a:Int),(b:Int),(g:Int),ok,(m:Int))=some (ok && (List.range' m k).all (lst1 s n a b g)):=by
 have hhi:=h.hi
 intro k
 induction k with
 | zero =>
  intro m ok hm
  rw [impl_Systemjoin_l0.eq_def]
  simp only
  rw [h.size,lt_f (by omega)]
  simp [bs]
 | succ k ih =>
  intro m ok hm
  rw [impl_Systemjoin_l0.eq_def]
  simp only
  rw [h.size,lt_t (by omega),if_pos rfl,iLe h ha (by omega),iLe h hb (by omega),iLe h hg (by omega)]
  rw [List.range'_succ,List.all_cons]
  have ih:∀ ok,_:=fun ok=>ih (m + 1) ok (by omega)
  rw [wr_succ (by omega)]
  generalize ((m + 1:Nat):Int)=M at ih ⊢
  simp only [bs,lst1]
  cases ok <;> cases le s n a m <;> cases le s n b m <;> cases le s n g m <;> simp [bs,ih,lst1]
theorem sJoin_l1 {a b:Nat} (ha:a < n) (hb:b < n):∀ (k g:Nat),g + k=n→spec_l1Join_l1 (s,(a:Int),(b:Int),(g:Int))=some (match (List.range' g k).find? (jok s n a b) with | some g=>.inr (g:Int) | none=>.inl ()):=by
 have hhi:=h.hi
 intro k
 induction k with
 | zero =>
  intro g hm
  rw [spec_l1Join_l1.eq_def]
  simp only
  rw [h.size,lt_f (by omega)]
  rfl
 | succ k ih =>
  intro g hm
  rw [spec_l1Join_l1.eq_def]
  simp only
  rw [h.size,lt_t (by omega),if_pos rfl,sLe h ha (by omega),sLe h hb (by omega)]
  have ih:=ih (g + 1) (by omega)
  rw [wr_succ (by omega),List.range'_succ,List.find?_cons]
  have hl:=fun ok=>sJoin_l0 h ha hb (g:=g) (by omega) n 0 ok (by omega)
  rw [show ((0:Nat):Int)=0 from rfl] at hl
  generalize ((g + 1:Nat):Int)=M at ih ⊢
  have hj:jok s n a b g=(le s n a g && le s n b g && (List.range' 0 n).all (lst1 s n a b g)):=rfl
  rw [hj]
  cases le s n a g <;> cases le s n b g <;> cases hq:(List.range' 0 n).all (lst1 s n a b g) <;> simp [bs,hl,hq,ih]
theorem iJoin_l1 {a b:Nat} (ha:a < n) (hb:b < n):∀ (k g:Nat),g + k=n→impl_Systemjoin_l1 (s,(a:Int),(b:Int),(g:Int))=some (match (List.range' g k).find? (jok s n a b) with | some g=>.inr (g:Int) | none=>.inl ()):=by
 have hhi:=h.hi
 intro k
 induction k with
 | zero =>
  intro g hm
  rw [impl_Systemjoin_l1.eq_def]
  simp only
  rw [h.size,lt_f (by omega)]
  rfl
 | succ k ih =>
  intro g hm
  rw [impl_Systemjoin_l1.eq_def]
  simp only
  rw [h.size,lt_t (by omega),if_pos rfl,iLe h ha (by omega),iLe h hb (by omega)]
  have ih:=ih (g + 1) (by omega)
  rw [wr_succ (by omega),List.range'_succ,List.find?_cons]
  have hl:=fun ok=>iJoin_l0 h ha hb (g:=g) (by omega) n 0 ok (by omega)
  rw [show ((0:Nat):Int)=0 from rfl] at hl
  generalize ((g + 1:Nat):Int)=M at ih ⊢
  have hj:jok s n a b g=(le s n a g && le s n b g && (List.range' 0 n).all (lst1 s n a b g)):=rfl
  rw [hj]
  cases le s n a g <;> cases le s n b g <;> cases hq:(List.range' 0 n).all (lst1 s n a b g) <;> simp [bs,hl,hq,ih]
theorem sJoin {a b:Nat} (ha:a < n) (hb:b < n):spec_l1Join (s,(a:Int),(b:Int))=some (joinI s n a b):=by
 unfold spec_l1Join joinI
 simp only
 have:=sJoin_l1 h ha hb n 0 (by omega)
 rw [show ((0:Nat):Int)=0 from rfl] at this
 rw [this,bs]
 cases (List.range' 0 n).find? (jok s n a b) <;> rfl
theorem iJoin {a b:Nat} (ha:a < n) (hb:b < n):impl_Systemjoin (s,(a:Int),(b:Int))=some (joinI s n a b):=by
 unfold impl_Systemjoin joinI
 simp only
 have:=iJoin_l1 h ha hb n 0 (by omega)
 rw [show ((0:Nat):Int)=0 from rfl] at this
 rw [this,bs]
 cases (List.range' 0 n).find? (jok s n a b) <;> rfl
def twoG (s:GSystem) (n a b:Nat):Bool:=(pl s n a b == pl s n b a) && ((a == b) || !le s n a b || !le s n b a) && decide (joinI s n a b ≥ 0)
omit h in
theorem lt_ge (x:Int):decide (x < 0)=!decide (x ≥ 0):=by
 by_cases h:x < 0
 ·rw [decide_eq_true h,decide_eq_false (by omega)]; rfl
 ·rw [decide_eq_false h,decide_eq_true (by omega)]; rfl
theorem sTwo {a b:Nat} (ha:a < n) (hb:b < n):spec_l1Two (s,(a:Int),(b:Int))=some (twoG s n a b):=by
 unfold spec_l1Two twoG
 simp only
 rw [sAdd h ha hb,sAdd h hb ha,sLe h ha hb,sLe h hb ha,sJoin h ha hb]
 simp only [bs,cast_beq]
 generalize (pl s n a b == pl s n b a)=b1
 generalize (a == b)=b2
 cases b1 <;> cases b2 <;> cases le s n a b <;> cases le s n b a <;> simp [bs]
end
def inB (x lo hi:Int):Bool:=decide (x ≥ lo) && decide (x ≤ hi)
theorem sIn (x lo hi:Int):spec_l1In (x,lo,hi)=some (inB x lo hi):=by
 unfold spec_l1In inB
 simp only
 cases decide (x ≥ lo) <;> simp [bs]
theorem iIn (x lo hi:Int):impl_within (x,lo,hi)=some (inB x lo hi):=by
 unfold impl_within inB
 simp only
 cases decide (x ≥ lo) <;> simp [bs]
def sysM (s:GSystem) (n:Nat):Bool:=(List.range' 0 n).all fun a=>oneG s n a && (List.range' 0 n).all fun b=>twoG s n a b && (List.range' 0 n).all fun c=>threeG s n a b c
section
variable {s:GSystem} {n:Nat} (h:Tab s n)
include h
theorem sSys_l0 {a b:Nat} (ha:a < n) (hb:b < n):∀ (k c:Nat),c + k=n→spec_IsSystem_l0 (s,(a:Int),(b:Int),(c:Int))=some (if (List.range' c k).all (fun c=>threeG s n a b c) then .inl () else .inr false):=by
 have hhi:=h.hi
 intro k
 induction k with
 | zero =>
  intro c hm
  rw [spec_IsSystem_l0.eq_def]
  simp only
  rw [h.size,lt_f (by omega)]
  rfl
 | succ k ih =>
  intro c hm
  rw [spec_IsSystem_l0.eq_def]
  simp only
  rw [h.size,lt_t (by omega),if_pos rfl,sThree h ha hb (by omega),bs]
  have ih:=ih (c + 1) (by omega)
  rw [wr_succ (by omega),List.range'_succ,List.all_cons]
  generalize ((c + 1:Nat):Int)=M at ih ⊢
  generalize (List.range' (c + 1) k).all (fun c=>threeG s n a b c)=r at ih ⊢
  cases threeG s n a b c <;> cases r <;> simp [ih]
theorem iSys_l1 {a b:Nat} (ha:a < n) (hb:b < n):∀ (k c:Nat),c + k=n→impl_IsSystem_l1 (s,(a:Int),(b:Int),(c:Int))=some (if (List.range' c k).all (fun c=>threeG s n a b c) then .inl () else .inr false):=by
 have hhi:=h.hi
 intro k
 induction k with
 | zero =>
  intro c hm
  rw [impl_IsSystem_l1.eq_def]
  simp only
  rw [h.size,lt_f (by omega)]
  rfl
 | succ k ih =>
  intro c hm
  rw [impl_IsSystem_l1.eq_def]
  simp only
  rw [h.size,lt_t (by omega),if_pos rfl,iThree h ha hb (by omega),bs]
  have ih:=ih (c + 1) (by omega)
  rw [wr_succ (by omega),List.range'_succ,List.all_cons]
  generalize ((c + 1:Nat):Int)=M at ih ⊢
  generalize (List.range' (c + 1) k).all (fun c=>threeG s n a b c)=r at ih ⊢
  cases threeG s n a b c <;> cases r <;> simp [ih]
theorem sSys_l1 {a:Nat} (ha:a < n):∀ (k b:Nat),b + k=n→spec_IsSystem_l1 (s,(a:Int),(b:Int))=some (if (List.range' b k).all (fun b=>twoG s n a b && (List.range' 0 n).all fun c=>threeG s n a b c) then .inl () else .inr false):=by
 have hhi:=h.hi
 intro k
 induction k with
 | zero =>
  intro c hm
  rw [spec_IsSystem_l1.eq_def]
  simp only
  rw [h.size,lt_f (by omega)]
  rfl
 | succ k ih =>
  intro b hm
  rw [spec_IsSystem_l1.eq_def]
  simp only
  have hl:=sSys_l0 h ha (b:=b) (by omega) n 0 (by omega)
  rw [show ((0:Nat):Int)=0 from rfl] at hl
  rw [h.size,lt_t (by omega),if_pos rfl,sTwo h ha (by omega),bs,hl]
  have ih:=ih (b + 1) (by omega)
  rw [wr_succ (by omega),List.range'_succ,List.all_cons]
  generalize ((b + 1:Nat):Int)=M at ih ⊢
  generalize (List.range' (b + 1) k).all (fun b=>twoG s n a b && (List.range' 0 n).all fun c=>threeG s n a b c)=r at ih ⊢
  cases twoG s n a b <;> cases (List.range' 0 n).all (fun c=>threeG s n a b c) <;> cases r <;> simp [ih,bs]
theorem iSys_l2 {a:Nat} (ha:a < n):∀ (k b:Nat),b + k=n→impl_IsSystem_l2 (s,(a:Int),(b:Int))=some (if (List.range' b k).all (fun b=>twoG s n a b && (List.range' 0 n).all fun c=>threeG s n a b c) then .inl () else .inr false):=by
 have hhi:=h.hi
 intro k
 induction k with
 | zero =>
  intro c hm
  rw [impl_IsSystem_l2.eq_def]
  simp only
  rw [h.size,lt_f (by omega)]
  rfl
 | succ k ih =>
  intro b hm
  have hb:b < n:=by omega
  rw [impl_IsSystem_l2.eq_def]
  simp only
  have hl:=iSys_l1 h ha (b:=b) (by omega) n 0 (by omega)
  rw [show ((0:Nat):Int)=0 from rfl] at hl
  rw [h.size,lt_t (by omega),if_pos rfl,iAdd h ha hb,iAdd h hb ha,iLe h ha hb,iLe h hb ha,iJoin h ha hb,hl]
  have ih:=ih (b + 1) (by omega)
  rw [wr_succ (by omega),List.range'_succ,List.all_cons]
  generalize ((b + 1:Nat):Int)=M at ih ⊢
  generalize (List.range' (b + 1) k).all (fun b=>twoG s n a b && (List.range' 0 n).all fun c=>threeG s n a b c)=r at ih ⊢
  simp only [bs,cast_bne,lt_ge]
  cases h1:(pl s n a b == pl s n b a) <;> cases h2:(a == b) <;> cases h3:decide (joinI s n a b ≥ 0) <;> cases h4:le s n a b <;> cases h5:le s n b a <;> cases h6:(List.range' 0 n).all (fun c=>threeG s n a b c) <;> cases r <;> simp only [twoG,bne,h1,h2,h3,h4,h5,h6,ih,bs,Bool.not_true,Bool.not_false,Bool.true_and,Bool.false_and,Bool.and_true,Bool.and_false,Bool.true_or,Bool.false_or,Bool.or_true,Bool.or_false,if_true,if_false,Bool.false_eq_true]
theorem sSys_l2:∀ (k a:Nat),a + k=n→spec_IsSystem_l2 (s,(a:Int))=some (if (List.range' a k).all (fun a=>oneG s n a && (List.range' 0 n).all fun b=>twoG s n a b && (List.range' 0 n).all fun c=>threeG s n a b c) then .inl () else .inr false):=by
 have hhi:=h.hi
 intro k
 induction k with
 | zero =>
  intro c hm
  rw [spec_IsSystem_l2.eq_def]
  simp only
  rw [h.size,lt_f (by omega)]
  rfl
 | succ k ih =>
  intro a hm
  have ha:a < n:=by omega
  rw [spec_IsSystem_l2.eq_def]
  simp only
  have hl:=sSys_l1 h ha n 0 (by omega)
  rw [show ((0:Nat):Int)=0 from rfl] at hl
  rw [h.size,lt_t (by omega),if_pos rfl,sOne h ha,bs,hl]
  have ih:=ih (a + 1) (by omega)
  rw [wr_succ (by omega),List.range'_succ,List.all_cons]
  generalize ((a + 1:Nat):Int)=M at ih ⊢
  generalize (List.range' (a + 1) k).all (fun a=>oneG s n a && (List.range' 0 n).all fun b=>twoG s n a b && (List.range' 0 n).all fun c=>threeG s n a b c)=r at ih ⊢
  cases oneG s n a <;> cases (List.range' 0 n).all (fun b=>twoG s n a b && (List.range' 0 n).all fun c=>threeG s n a b c) <;> cases r <;> simp [ih,bs]
theorem iSys_l3:∀ (k a:Nat),a + k=n→impl_IsSystem_l3 (s,(a:Int))=some (if (List.range' a k).all (fun a=>oneG s n a && (List.range' 0 n).all fun b=>twoG s n a b && (List.range' 0 n).all fun c=>threeG s n a b c) then .inl () else .inr false):=by
 have hhi:=h.hi
 have l0:(0:Nat) < n:=by have:=h.lo; omega
 have l1:(1:Nat) < n:=by have:=h.lo; omega
 intro k
 induction k with
 | zero =>
  intro c hm
  rw [impl_IsSystem_l3.eq_def]
  simp only
  rw [h.size,lt_f (by omega)]
  rfl
 | succ k ih =>
  intro a hm
  have ha:a < n:=by omega
  rw [impl_IsSystem_l3.eq_def]
  simp only
  have hl:=iSys_l2 h ha n 0 (by omega)
  have q1:impl_Systemplus (s,0,(a:Int))=_:=iAdd h l0 ha
  have q2:impl_Systemtimes (s,1,(a:Int))=_:=iMul h l1 ha
  have q3:impl_Systemtimes (s,(a:Int),1)=_:=iMul h ha l1
  have q4:impl_Systemtimes (s,0,(a:Int))=_:=iMul h l0 ha
  have q5:impl_Systemtimes (s,(a:Int),0)=_:=iMul h ha l0
  have z1:(((ti s n 0 a:Nat):Int) != 0)=(ti s n 0 a != 0):=cast_bne _ 0
  have z2:(((ti s n a 0:Nat):Int) != 0)=(ti s n a 0 != 0):=cast_bne _ 0
  rw [show ((0:Nat):Int)=0 from rfl] at hl
  rw [h.size,lt_t (by omega),if_pos rfl,q1,q2,q3,q4,q5,iLe h ha ha,hl]
  have ih:=ih (a + 1) (by omega)
  rw [wr_succ (by omega),List.range'_succ,List.all_cons]
  generalize ((a + 1:Nat):Int)=M at ih ⊢
  generalize (List.range' (a + 1) k).all (fun a=>oneG s n a && (List.range' 0 n).all fun b=>twoG s n a b && (List.range' 0 n).all fun c=>threeG s n a b c)=r at ih ⊢
  simp only [bs,cast_bne,z1,z2]
  cases h1:(pl s n 0 a == a) <;> cases h2:(ti s n 1 a == a) <;> cases h3:(ti s n a 1 == a) <;> cases h4:(ti s n 0 a == 0) <;> cases h5:(ti s n a 0 == 0) <;> cases h6:le s n a a <;> cases h7:(List.range' 0 n).all (fun b=>twoG s n a b && (List.range' 0 n).all fun c=>threeG s n a b c) <;> cases r <;> simp only [oneG,bne,h1,h2,h3,h4,h5,h6,h7,ih,bs,Bool.not_true,Bool.not_false,Bool.true_and,Bool.false_and,Bool.and_true,Bool.and_false,if_true,if_false,Bool.false_eq_true]
end
theorem drop_cons_get {α:Type} {l r:List α} {x:α} {i:Nat} (h:l.drop i=x :: r):i < l.length∧idx l (i:Int)=some x∧l.drop (i + 1)=r:=by
 have hi:i < l.length:=by
  rcases Nat.lt_or_ge i l.length with h' | h'
  ·exact h'
  ·rw [List.drop_eq_nil_of_le h'] at h; cases h
 have e:=List.drop_eq_getElem_cons hi
 rw [h] at e
 obtain ⟨e1,e2⟩:=List.cons.inj e
 exact ⟨hi,by rw [idx_get hi,e1],e2.symm⟩
theorem drop_nil_le {α:Type} {l:List α} {i:Nat} (h:l.drop i=[]):l.length ≤ i:=by
 rcases Nat.lt_or_ge i l.length with h' | h'
 ·rw [List.drop_eq_getElem_cons h'] at h; cases h
 ·exact h'
def arrC (c:Int):Bool:=inB c 3 18 || c == 35
def boxC (c:Int):Bool:=inB c 19 34 || c == 36
def kidsC (c:Int):Int:=if c == 0 then 0 else if c == 1 || c == 2 || arrC c then 2 else if boxC c then 1 else -1
theorem sArrow (c:Int):spec_l2Arrow c=some (arrC c):=by
 unfold spec_l2Arrow arrC
 simp only [sIn,bs]
 cases inB c 3 18 <;> rfl
theorem sBox (c:Int):spec_l2Box c=some (boxC c):=by
 unfold spec_l2Box boxC
 simp only [sIn,bs]
 cases inB c 19 34 <;> rfl
theorem sKids (c:Int):spec_l2Kids c=some (kidsC c):=by
 unfold spec_l2Kids kidsC
 simp only [sArrow,sBox,bs]
 cases c == 0 <;> cases c == 1 <;> cases c == 2 <;> cases arrC c <;> cases boxC c <;> rfl
theorem kidsC_cases (c:Int):(c=0∧kidsC c=0)∨((c=1∨c=2∨(3 ≤ c∧c ≤ 18)∨c=35)∧kidsC c=2)∨(((19 ≤ c∧c ≤ 34)∨c=36)∧kidsC c=1)∨((c < 0∨36 < c)∧kidsC c=-1):=by
 unfold kidsC arrC boxC inB
 by_cases h0:c=0
 ·left; subst h0; exact ⟨rfl,rfl⟩
 ·right
  have e0:(c == 0)=false:=by simpa using h0
  by_cases h1:c=1∨c=2∨(3 ≤ c∧c ≤ 18)∨c=35
  ·left
   refine ⟨h1,?_⟩
   have:(c == 1 || c == 2 || (decide (c ≥ 3) && decide (c ≤ 18) || c == 35))=true:=by
    simp only [Bool.or_eq_true,Bool.and_eq_true,beq_iff_eq,decide_eq_true_eq]; omega
   rw [e0,this]; rfl
  ·right
   have q:(c == 1 || c == 2 || (decide (c ≥ 3) && decide (c ≤ 18) || c == 35))=false:=by
    rw [Bool.eq_false_iff]; intro h
    simp only [Bool.or_eq_true,Bool.and_eq_true,beq_iff_eq,decide_eq_true_eq] at h; omega
   rw [e0,q]
   by_cases h2:(19 ≤ c∧c ≤ 34)∨c=36
   ·left
    refine ⟨h2,?_⟩
    have:(decide (c ≥ 19) && decide (c ≤ 34) || c == 36)=true:=by
     simp only [Bool.or_eq_true,Bool.and_eq_true,beq_iff_eq,decide_eq_true_eq]; omega
    rw [this]; rfl
   ·right
    refine ⟨by omega,?_⟩
    have:(decide (c ≥ 19) && decide (c ≤ 34) || c == 36)=false:=by
     rw [Bool.eq_false_iff]; intro h
     simp only [Bool.or_eq_true,Bool.and_eq_true,beq_iff_eq,decide_eq_true_eq] at h; omega
    rw [this]; rfl
def shapeI (c:Int):Int × Int :=
 if inB c 0 2 then (c,-1) else if inB c 3 18 then (3,c - 3) else if inB c 19 34 then (4,c - 19) else if c == 35 then (3,-1) else if c == 36 then (4,-1) else (5,-1)
theorem iShape (c:Int):impl_shape c=some (shapeI c):=by
 unfold impl_shape shapeI
 simp only [iIn,bs]
 cases h1:inB c 0 2
 ·cases h2:inB c 3 18
  ·cases h3:inB c 19 34
   ·cases c == 35 <;> cases c == 36 <;> rfl
   ·simp only [inB,Bool.and_eq_true,decide_eq_true_eq] at h3
    simp only [Bool.false_eq_true,if_false,if_true]
    rw [wr_id (by omega) (by omega)]
  ·simp only [inB,Bool.and_eq_true,decide_eq_true_eq] at h2
   simp only [Bool.false_eq_true,if_false,if_true]
   rw [wr_id (by omega) (by omega)]
 ·rfl
theorem shapeI_cases (c:Int):(c=0∧shapeI c=(0,-1))∨(c=1∧shapeI c=(1,-1))∨(c=2∧shapeI c=(2,-1))∨((3 ≤ c∧c ≤ 18)∧shapeI c=(3,c - 3))∨(c=35∧shapeI c=(3,-1)) ∨
  ((19 ≤ c∧c ≤ 34)∧shapeI c=(4,c - 19))∨(c=36∧shapeI c=(4,-1))∨((c < 0∨36 < c)∧shapeI c=(5,-1)):=by
 have inT:∀ lo hi,lo ≤ c→c ≤ hi→inB c lo hi=true:=fun lo hi h1 h2=>by simp only [inB,Bool.and_eq_true,decide_eq_true_eq]; omega
 have inF:∀ lo hi,(c < lo∨hi < c)→inB c lo hi=false:=fun lo hi h=>by rw [Bool.eq_false_iff]; intro h'; simp only [inB,Bool.and_eq_true,decide_eq_true_eq] at h'; omega
 unfold shapeI
 by_cases h0:0 ≤ c∧c ≤ 2
 ·rw [inT 0 2 h0.1 h0.2]
  have:c=0∨c=1∨c=2:=by omega
  rcases this with rfl | rfl | rfl <;> simp
 ·rw [inF 0 2 (by omega)]
  by_cases h1:3 ≤ c∧c ≤ 18
  ·rw [inT 3 18 h1.1 h1.2]
   exact .inr (.inr (.inr (.inl ⟨h1,rfl⟩)))
  ·rw [inF 3 18 (by omega)]
   by_cases h2:19 ≤ c∧c ≤ 34
   ·rw [inT 19 34 h2.1 h2.2]
    exact .inr (.inr (.inr (.inr (.inr (.inl ⟨h2,rfl⟩)))))
   ·rw [inF 19 34 (by omega)]
    by_cases h3:c=35
    ·subst h3; simp
    ·by_cases h4:c=36
     ·subst h4; simp
     ·have e3:(c == 35)=false:=by simpa using h3
      have e4:(c == 36)=false:=by simpa using h4
      rw [e3,e4]
      refine .inr (.inr (.inr (.inr (.inr (.inr (.inr ⟨by omega,rfl⟩))))))
def skip:Nat→List Int→Option (List Int)
 | 0,l=>some l
 | _ + 1,[]=>none
 | m + 1,c :: l=>if kidsC c=-1 then none else skip (m + (kidsC c).toNat) l
theorem skip_zero (l:List Int):skip 0 l=some l:=by cases l <;> rfl
theorem skip_nil (m:Nat):skip (m + 1) []=none:=rfl
theorem skip_cons (m:Nat) (c:Int) (l:List Int):skip (m + 1) (c :: l)=if kidsC c=-1 then none else skip (m + (kidsC c).toNat) l:=rfl
theorem skip_add (l:List Int):∀ (m k:Nat),skip (m + k) l=(skip m l).bind (skip k):=by
 induction l with
 | nil =>
  intro m k
  cases m with
  | zero=>rw [Nat.zero_add,skip_zero]; rfl
  | succ m=>rw [show m + 1 + k=(m + k) + 1 by omega,skip_nil,skip_nil]; rfl
 | cons c l ih =>
  intro m k
  cases m with
  | zero=>rw [Nat.zero_add,skip_zero]; rfl
  | succ m =>
   rw [show m + 1 + k=(m + k) + 1 by omega,skip_cons,skip_cons]
   by_cases h:kidsC c=-1
   ·rw [if_pos h,if_pos h]; rfl
   ·rw [if_neg h,if_neg h,← ih]; congr 1; omega
theorem skip_suffix (l:List Int):∀ (m:Nat) (r:List Int),skip m l=some r→∃ p,l=p ++ r∧m ≤ p.length:=by
 induction l with
 | nil =>
  intro m r h
  cases m with
  | zero=>rw [skip_zero] at h; cases h; exact ⟨[],rfl,Nat.le_refl _⟩
  | succ m=>rw [skip_nil] at h; cases h
 | cons c l ih =>
  intro m r h
  cases m with
  | zero=>rw [skip_zero] at h; cases h; exact ⟨[],rfl,Nat.le_refl _⟩
  | succ m =>
   rw [skip_cons] at h
   by_cases hk:kidsC c=-1
   ·rw [if_pos hk] at h; cases h
   ·rw [if_neg hk] at h
    obtain ⟨p,e,hp⟩:=ih _ _ h
    exact ⟨c :: p,by rw [e]; rfl,by simp; omega⟩
def endI (ty:List Int) (m i:Nat):Int:=match skip m (ty.drop i) with | some r=>((ty.length - r.length:Nat):Int) | none=>-1
theorem sEnd_l0 (ty:List Int) (hty:ty.length ≤ 1099511627776):∀ (l:List Int) (i m:Nat),ty.drop i=l→m ≤ 1099511627776 + 2 * i→∃ x,spec_l2End_l0 (ty,((m + 1:Nat):Int),(i:Int))=some x∧(match x with | .inl ()=>-1 | .inr r=>r)=endI ty (m + 1) i:=by
 intro l
 induction l with
 | nil =>
  intro i m hl hm
  rw [spec_l2End_l0.eq_def]
  simp only
  rw [lt_f (drop_nil_le hl)]
  exact ⟨.inl (),rfl,by unfold endI; rw [hl,skip_nil]⟩
 | cons c l ih =>
  intro i m hl hm
  obtain ⟨hi,hx,hd⟩:=drop_cons_get hl
  have hi2:(i:Int) < 1099511627776:=by omega
  rw [spec_l2End_l0.eq_def]
  simp only
  rw [lt_t hi,if_pos rfl,hx,bs,sKids,bs]
  have he:endI ty (m + 1) i=(match (if kidsC c=-1 then none else skip (m + (kidsC c).toNat) l) with | some r=>((ty.length - r.length:Nat):Int) | none=>-1):=by
   unfold endI; rw [hl,skip_cons]
  rw [he]
  by_cases hk:kidsC c=-1
  ·rw [if_pos hk,hk]
   exact ⟨.inr (-1),rfl,rfl⟩
  ·rw [if_neg hk]
   have hk0:0 ≤ kidsC c∧kidsC c ≤ 2:=by rcases kidsC_cases c with h | h | h | h <;> omega
   obtain ⟨k,hkk⟩:∃ k:Nat,kidsC c=(k:Int):=⟨(kidsC c).toNat,by omega⟩
   rw [decide_eq_false (by omega),if_neg (by decide),hkk,Int.toNat_natCast]
   rw [wr_id (x:=((m + 1:Nat):Int) - 1) (by omega) (by omega),show ((m + 1:Nat):Int) - 1=(m:Int) by omega,wr_id (x:=(m:Int) + (k:Int)) (by omega) (by omega),wr_succ (by omega)]
   by_cases h0:m + k=0
   ·rw [show ((m:Int) + (k:Int) == 0)=true by simp; omega,if_pos rfl,h0,skip_zero]
    refine ⟨_,rfl,?_⟩
    have:l.length=ty.length - (i + 1):=by rw [← hd,List.length_drop]
    simp only
    omega
   ·rw [show ((m:Int) + (k:Int) == 0)=false by simp; omega,if_neg (by decide)]
    obtain ⟨q,hq⟩:∃ q,m + k=q + 1:=⟨m + k - 1,by omega⟩
    have:=ih (i + 1) q hd (by omega)
    rw [show (m:Int) + (k:Int)=((q + 1:Nat):Int) by omega]
    obtain ⟨x,h1,h2⟩:=this
    exact ⟨x,h1,by rw [h2,hq]; unfold endI; rw [hd]⟩
theorem sEnd (ty:List Int) (hty:ty.length ≤ 1099511627776) (i:Nat) (hi:i ≤ ty.length):spec_l2End (ty,(i:Int))=some (endI ty 1 i):=by
 unfold spec_l2End
 obtain ⟨x,h1,h2⟩:=sEnd_l0 ty hty _ i 0 rfl (by omega)
 simp only
 rw [show (1:Int)=((0 + 1:Nat):Int) from rfl,h1,bs]
 rw [← h2]
 cases x <;> rfl
theorem endI_two (ty:List Int) (i:Nat) (hi:i ≤ ty.length):endI ty 2 i=(if endI ty 1 i=-1 then -1 else endI ty 1 (endI ty 1 i).toNat):=by
 unfold endI
 rw [show 2=1 + 1 from rfl,skip_add]
 cases h:skip 1 (ty.drop i) with
 | none=>simp
 | some r =>
  obtain ⟨p,hp,hl⟩:=skip_suffix _ _ _ h
  have hlen:ty.length - i=p.length + r.length:=by rw [← List.length_drop,hp,List.length_append]
  have:ty.drop (ty.length - r.length)=r:=by
   have e:ty.drop (ty.length - r.length)=(ty.drop i).drop p.length:=by rw [List.drop_drop]; congr 1; omega
   rw [e,hp,List.drop_left]
  simp only [Option.bind_some]
  rw [if_neg (by omega),Int.toNat_natCast,this]
theorem iEnd (ty:List Int) (hty:ty.length ≤ 1099511627776):∀ (d i:Nat),ty.length - i=d→impl_typeEnd (ty,(i:Int))=some (endI ty 1 i):=by
 intro d
 induction d using Nat.strongRecOn with
 | ind d ih =>
  intro i hd
  rw [impl_typeEnd.eq_def]
  simp only
  rw [decide_eq_false (by omega:¬ (i:Int) < 0)]
  simp only [Bool.false_eq_true,if_false,bs]
  by_cases hi:i < ty.length
  ·rw [decide_eq_false (by omega),if_neg (by decide),idx_get hi,bs,iShape,bs]
   have hdr:=List.drop_eq_getElem_cons hi
   have he:∀ k:Nat,kidsC ty[i]=(k:Int)→endI ty 1 i=endI ty k (i + 1):=fun k hk=>by
    unfold endI
    rw [hdr,show 1=0 + 1 from rfl,skip_cons,hk,if_neg (by omega),Int.toNat_natCast,Nat.zero_add]
   have hn:kidsC ty[i]=-1→endI ty 1 i=-1:=fun hk=>by
    unfold endI
    rw [hdr,show 1=0 + 1 from rfl,skip_cons,if_pos hk]
   have i1:=ih (ty.length - (i + 1)) (by omega) (i + 1) rfl
   have hz:∀ i:Nat,i ≤ ty.length→endI ty 0 i=(i:Int):=fun i hi=>by unfold endI; rw [skip_zero]; simp only [List.length_drop]; omega
   rw [wr_succ (by omega)]
   have two:kidsC ty[i]=2→((impl_typeEnd (ty,((i + 1:Nat):Int))) >>= fun r_11_4=>(impl_typeEnd (ty,r_11_4)) >>= fun r_11_5=>some r_11_5)=some (endI ty 1 i):=fun hk=>by
    rw [i1,bs,he 2 hk,endI_two ty (i + 1) (by omega)]
    by_cases h1:endI ty 1 (i + 1)=-1
    ·rw [h1,if_pos rfl,impl_typeEnd.eq_def]; rfl
    ·rw [if_neg h1]
     obtain ⟨e,hee,hlo⟩:∃ e:Nat,endI ty 1 (i + 1)=(e:Int)∧i + 1 < e:=by
      unfold endI at h1 ⊢
      cases hs:skip 1 (ty.drop (i + 1)) with
      | none=>rw [hs] at h1; exact absurd rfl h1
      | some r =>
       obtain ⟨p,hp,hl⟩:=skip_suffix _ _ _ hs
       have hlen:ty.length - (i + 1)=p.length + r.length:=by rw [← List.length_drop,hp,List.length_append]
       exact ⟨_,rfl,by omega⟩
     rw [hee,Int.toNat_natCast,ih (ty.length - e) (by omega) e rfl,bs]
   rcases shapeI_cases ty[i] with ⟨h,e⟩ | ⟨h,e⟩ | ⟨h,e⟩ | ⟨h,e⟩ | ⟨h,e⟩ | ⟨h,e⟩ | ⟨h,e⟩ | ⟨h,e⟩ <;> rw [e] <;> simp only []
   ·have hk:kidsC ty[i]=0:=by rcases kidsC_cases ty[i] with h | h | h | h <;> omega
    rw [if_pos (by rfl),he 0 hk,hz _ (by omega)]
   ·have hk:kidsC ty[i]=2:=by rcases kidsC_cases ty[i] with h | h | h | h <;> omega
    exact two hk
   ·have hk:kidsC ty[i]=2:=by rcases kidsC_cases ty[i] with h | h | h | h <;> omega
    exact two hk
   ·have hk:kidsC ty[i]=2:=by rcases kidsC_cases ty[i] with h | h | h | h <;> omega
    exact two hk
   ·have hk:kidsC ty[i]=2:=by rcases kidsC_cases ty[i] with h | h | h | h <;> omega
    exact two hk
   ·have hk:kidsC ty[i]=1:=by rcases kidsC_cases ty[i] with h | h | h | h <;> omega
    rw [he 1 hk,if_neg (by decide),if_pos (by rfl),i1,bs]
   ·have hk:kidsC ty[i]=1:=by rcases kidsC_cases ty[i] with h | h | h | h <;> omega
    rw [he 1 hk,if_neg (by decide),if_pos (by rfl),i1,bs]
   ·have hk:kidsC ty[i]=-1:=by rcases kidsC_cases ty[i] with h | h | h | h <;> omega
    rw [hn hk]; rfl
  ·rw [decide_eq_true (by omega),if_pos rfl]
   unfold endI
   rw [List.drop_eq_nil_of_le (by omega),skip_nil]
def wtB (ty:List Int):Bool:=decide (ty.length ≤ 40) && (skip 1 ty == some [])
theorem endI_len (ty:List Int):(endI ty 1 0 == (ty.length:Int))=(skip 1 ty == some []):=by
 unfold endI
 rw [List.drop_zero]
 cases h:skip 1 ty with
 | none=>simp
 | some r =>
  obtain ⟨p,hp,hl⟩:=skip_suffix _ _ _ h
  have hlen:ty.length=p.length + r.length:=by rw [hp,List.length_append]
  cases r with
  | nil=>simp
  | cons x xs =>
   simp only [List.length_cons] at hlen ⊢
   simp
   omega
theorem sType (ty:List Int) (hty:ty.length ≤ 1099511627776):spec_l2Type ty=some (wtB ty):=by
 unfold spec_l2Type wtB
 by_cases h:ty.length ≤ 40
 ·rw [decide_eq_true (by omega:(ty.length:Int) ≤ 40),if_pos rfl,show (0:Int)=((0:Nat):Int) from rfl,sEnd ty hty 0 (by omega),bs,endI_len,decide_eq_true h]
  cases hs:skip 1 ty == some [] with
  | false=>rfl
  | true =>
   have:0 < ty.length:=by
    rcases ty with _ | ⟨c,l⟩
    ·rw [show skip 1 []=none from rfl] at hs; cases hs
    ·simp
   rw [if_pos rfl,decide_eq_true (by omega:(ty.length:Int) > ((0:Nat):Int))]; rfl
 ·rw [decide_eq_false (by omega:¬ (ty.length:Int) ≤ 40),decide_eq_false h]; rfl
theorem iType (ty:List Int) (hty:ty.length ≤ 1099511627776):impl_isWrittenType ty=some (wtB ty):=by
 unfold impl_isWrittenType wtB
 rw [iIn,bs]
 by_cases h:ty.length ≤ 40
 ·rw [decide_eq_true h]
  by_cases h1:1 ≤ ty.length
  ·have:inB (ty.length:Int) 1 40=true:=by simp only [inB,Bool.and_eq_true,decide_eq_true_eq]; omega
   rw [this,if_pos rfl,show (0:Int)=((0:Nat):Int) from rfl,iEnd ty hty _ 0 rfl,bs,endI_len]; rfl
  ·have:inB (ty.length:Int) 1 40=false:=by rw [Bool.eq_false_iff]; intro h'; simp only [inB,Bool.and_eq_true,decide_eq_true_eq] at h'; omega
   have e:ty=[]:=List.length_eq_zero_iff.1 (by omega)
   rw [this,e]; rfl
 ·have:inB (ty.length:Int) 1 40=false:=by rw [Bool.eq_false_iff]; intro h'; simp only [inB,Bool.and_eq_true,decide_eq_true_eq] at h'; omega
  rw [this,decide_eq_false h]; rfl
def gradeC (c:Int):Int:=if 35 ≤ c then -1 else if 19 ≤ c then c - 19 else c - 3
def gokC (size:Int) (closed:Bool) (c:Int):Bool:=!(decide (kidsC c > 0) && decide (c > 2) && (decide (gradeC c ≥ size) || closed && decide (gradeC c < 0)))
theorem sGrade {c:Int} (h:kidsC c > 0):spec_l2Grade c=some (gradeC c):=by
 have:0 ≤ c∧c ≤ 36:=by rcases kidsC_cases c with h | h | h | h <;> omega
 unfold spec_l2Grade gradeC
 by_cases h1:35 ≤ c
 ·rw [decide_eq_true (by omega:c ≥ 35),if_pos rfl,if_pos h1]
 ·rw [decide_eq_false (by omega:¬ c ≥ 35),if_neg (by decide),if_neg h1]
  by_cases h2:19 ≤ c
  ·rw [decide_eq_true (by omega:c ≥ 19),if_pos rfl,if_pos h2,wr_id (by omega) (by omega)]
  ·rw [decide_eq_false (by omega:¬ c ≥ 19),if_neg (by decide),if_neg h2,wr_id (by omega) (by omega)]
theorem sGraded_l0 (ty:List Int) (hty:ty.length ≤ 1099511627776) (size:Int) (cl:Bool):∀ (l:List Int) (i:Nat),ty.drop i=l→spec_l2Graded_l0 (ty,size,cl,(i:Int))=some (if l.all (gokC size cl) then .inl () else .inr false):=by
 intro l
 induction l with
 | nil =>
  intro i hl
  rw [spec_l2Graded_l0.eq_def]
  simp only
  rw [lt_f (drop_nil_le hl)]; rfl
 | cons c l ih =>
  intro i hl
  obtain ⟨hi,hx,hd⟩:=drop_cons_get hl
  rw [spec_l2Graded_l0.eq_def]
  simp only
  rw [lt_t hi,if_pos rfl,hx,bs,bs,sKids,bs,wr_succ (by omega)]
  have ih:=ih (i + 1) hd
  generalize ((i + 1:Nat):Int)=M at ih ⊢
  rw [List.all_cons]
  unfold gokC at ih ⊢
  by_cases hk:kidsC c > 0
  ·simp only [bs,sGrade hk]
   rw [decide_eq_true hk]
   generalize gradeC c=g at ih ⊢
   cases decide (c > 2) <;> cases decide (g ≥ size) <;> cases cl <;> cases decide (g < 0) <;> simp [bs,ih]
  ·rw [decide_eq_false hk]; simp [bs,ih]
theorem sGraded (ty:List Int) (hty:ty.length ≤ 1099511627776) (size:Int) (cl:Bool):spec_l2Graded (ty,size,cl)=some (ty.all (gokC size cl)):=by
 unfold spec_l2Graded
 simp only
 rw [show (0:Int)=((0:Nat):Int) from rfl,sGraded_l0 ty hty size cl _ 0 rfl,List.drop_zero,bs]
 cases ty.all (gokC size cl) <;> rfl
theorem bind_of {α β:Type} {a:Option α} {f:α→Option β} {x:α} (h:a=some x):(a >>= f)=f x:=by rw [h]; rfl
mutual
def tsz:GTerm→Nat
 | ⟨_,_,_,ks⟩=>1 + tszs ks
def tszs:List GTerm→Nat
 | []=>0
 | k :: ks=>tsz k + tszs ks
end
mutual
def tms:GTerm→Nat
 | ⟨_,_,ty,ks⟩=>ty.length + ks.length + tmss ks
def tmss:List GTerm→Nat
 | []=>0
 | k :: ks=>tms k + tmss ks
end
def leftI (left n:Nat):Int:=if n ≤ left then ((left - n:Nat):Int) else -1
theorem leftI_le {left n:Nat} (h:n ≤ left):leftI left n=((left - n:Nat):Int):=if_pos h
theorem leftI_gt {left n:Nat} (h:¬ n ≤ left):leftI left n=-1:=if_neg h
theorem sLeft_neg (t:GTerm) (i:Int):spec_l2Left_l0 (t,-1,i)=some (-1):=by
 rw [spec_l2Left_l0.eq_def]
 simp only
 cases decide (i < (t.fKids.length:Int)) <;> rfl
mutual
theorem sLeft:∀ (t:GTerm) (left:Nat),tms t ≤ 1099511627776→left ≤ 1048576→spec_l2Left (t,(left:Int))=some (leftI left (tsz t))
 | ⟨op,N,ty,ks⟩,left,ht,hl=>by
  rw [tms] at ht
  rw [spec_l2Left.eq_def,tsz]
  simp only
  rcases left with _ | l
  ·rw [show wr (((0:Nat):Int) - 1)=-1 from wr_id (by omega) (by omega),sLeft_neg,bs,leftI_gt (by omega)]
  ·have h:=sLeft_l0 ks ⟨op,N,ty,ks⟩ 0 l rfl (by simp only; omega) (by omega) (by omega)
   rw [wr_id (by omega) (by omega),show ((l + 1:Nat):Int) - 1=(l:Int) by omega,show (0:Int)=((0:Nat):Int) from rfl,h,bs]
   unfold leftI
   by_cases q:tszs ks ≤ l
   ·rw [if_pos q,if_pos (by omega),show l + 1 - (1 + tszs ks)=l - tszs ks by omega]
   ·rw [if_neg q,if_neg (by omega)]
theorem sLeft_l0:∀ (ks:List GTerm) (t:GTerm) (i left:Nat),t.fKids.drop i=ks→t.fKids.length ≤ 1099511627776→tmss ks ≤ 1099511627776→left ≤ 1048576→spec_l2Left_l0 (t,(left:Int),(i:Int))=some (leftI left (tszs ks))
 | [],t,i,left,hd,hk,ht,hl=>by
  rw [spec_l2Left_l0.eq_def,tszs]
  simp only
  rw [lt_f (drop_nil_le hd)]
  simp [bs,leftI]
 | k :: ks,t,i,left,hd,hk,ht,hl=>by
  obtain ⟨hi,hx,hd'⟩:=drop_cons_get hd
  rw [tmss] at ht
  rw [spec_l2Left_l0.eq_def,tszs]
  simp only
  rw [lt_t hi,if_pos rfl,bs,decide_eq_true (by omega:((left:Nat):Int) ≥ 0),if_pos rfl,hx,bs,sLeft k left (by omega) hl,bs,wr_succ (by omega)]
  by_cases q:tsz k ≤ left
  ·rw [leftI_le q,sLeft_l0 ks t (i + 1) (left - tsz k) hd' hk (by omega) (by omega)]
   unfold leftI
   by_cases q2:tszs ks ≤ left - tsz k
   ·rw [if_pos q2,if_pos (by omega)]; congr 2; omega
   ·rw [if_neg q2,if_neg (by omega)]
  ·rw [leftI_gt q,sLeft_neg,leftI_gt (by omega)]
end
def manyI (op:Int):Int:=if inB op 0 12 then ([0,0,2,3,2,2,1,1,3,1,2,1,2]:List Int).getD op.toNat 0 else -1
def hasG (op:Int):Bool:=op == 5 || op == 8 || op == 9 || op == 11 || op == 12
def typedG (op:Int):Bool:=op == 6 || op == 7 || op == 9
def wordG (op:Int):ByteArray:=([ByteArray.mk #[120],ByteArray.empty,ByteArray.mk #[97,100,100],ByteArray.mk #[105,102],ByteArray.mk #[112,97,105,114],ByteArray.mk #[115,112,108,105,116],ByteArray.mk #[108,101,102,116],
 ByteArray.mk #[114,105,103,104,116],ByteArray.mk #[99,97,115,101],ByteArray.mk #[102,117,110],ByteArray.mk #[97,112,112],ByteArray.mk #[98,111,120],ByteArray.mk #[111,112,101,110]]:List ByteArray).getD op.toNat ByteArray.empty
theorem op_cases {op:Int} (h:inB op 0 12=true):op=0∨op=1∨op=2∨op=3∨op=4∨op=5∨op=6∨op=7∨op=8∨op=9∨op=10∨op=11∨op=12:=by
 simp only [inB,Bool.and_eq_true,decide_eq_true_eq] at h
 omega
theorem sMany (op:Int):spec_l2Many op=some (manyI op):=by
 unfold spec_l2Many manyI
 rw [sIn,bs]
 cases h:inB op 0 12
 ·rfl
 ·rcases op_cases h with rfl | rfl | rfl | rfl | rfl | rfl | rfl | rfl | rfl | rfl | rfl | rfl | rfl <;> rfl
theorem sHas (op:Int):spec_l2Has op=some (hasG op):=by
 unfold spec_l2Has hasG
 cases op == 5 <;> cases op == 8 <;> cases op == 9 <;> cases op == 11 <;> rfl
theorem sTyped (op:Int):spec_l2Typed op=some (typedG op):=by
 unfold spec_l2Typed typedG
 cases op == 6 <;> cases op == 7 <;> rfl
def formG (op:Int):GForm × Bool:=if inB op 0 12 then (GForm.mk (wordG op) (manyI op) (hasG op) (typedG op),true) else (GForm.mk ByteArray.empty 0 false false,false)
theorem iForm (op:Int):impl_formOf op=some (formG op):=by
 unfold impl_formOf formG
 rw [iIn,bs]
 cases h:inB op 0 12
 ·rfl
 ·rcases op_cases h with rfl | rfl | rfl | rfl | rfl | rfl | rfl | rfl | rfl | rfl | rfl | rfl | rfl <;> rfl
def addsI (op kid:Int):Nat:=if op == 5 && kid == 1 then 2 else if (op == 8 && decide (kid > 0)) || op == 9 || (op == 12 && kid == 1) then 1 else 0
theorem addsI_le (op kid:Int):addsI op kid ≤ 2:=by unfold addsI; split <;> (try split) <;> omega
theorem sAdds (op kid:Int):spec_l2Adds (op,kid)=some ((addsI op kid:Nat):Int):=by
 unfold spec_l2Adds addsI
 simp only
 generalize (op == 5)=b1
 generalize (op == 8)=b2
 generalize (op == 9)=b3
 generalize (op == 12)=b4
 generalize (kid == 1)=b5
 generalize decide (kid > 0)=b6
 cases b1 <;> cases b2 <;> cases b3 <;> cases b4 <;> cases b5 <;> cases b6 <;> rfl
theorem iAdds (op kid:Int):impl_adds (op,kid)=some ((addsI op kid:Nat):Int):=by
 unfold impl_adds addsI
 simp only
 generalize (op == 5)=b1
 generalize (op == 8)=b2
 generalize (op == 9)=b3
 generalize (op == 12)=b4
 generalize (kid == 1)=b5
 generalize decide (kid > 0)=b6
 cases b1 <;> cases b2 <;> cases b3 <;> cases b4 <;> cases b5 <;> cases b6 <;> rfl
def nOkN (g:Int→Bool) (n:Int) (t:GTerm):Bool:=if t.fOp == 0 then inB t.fN 0 (n - 1) else if t.fOp == 1 then inB t.fN 0 2 else if hasG t.fOp then g t.fN else t.fN == 0
def nOkY (y:List Int→Bool) (t:GTerm):Bool:=if typedG t.fOp then y t.fType else (t.fType.length:Int) == 0
def nodeOk (g:Int→Bool) (y:List Int→Bool) (n:Int) (t:GTerm):Bool:=inB t.fOp 0 12 && ((t.fKids.length:Int) == manyI t.fOp) && nOkN g n t && nOkY y t
mutual
def tOk (g:Int→Bool) (y:List Int→Bool):Nat→GTerm→Bool
 | n,⟨op,N,ty,ks⟩=>nodeOk g y (n:Int) ⟨op,N,ty,ks⟩ && tOks g y op n 0 ks
def tOks (g:Int→Bool) (y:List Int→Bool):Int→Nat→Nat→List GTerm→Bool
 | _,_,_,[]=>true
 | op,n,i,k :: ks=>tOk g y (n + addsI op (i:Int)) k && tOks g y op n (i + 1) ks
end
theorem tOk_eq (g:Int→Bool) (y:List Int→Bool) (n:Nat) (t:GTerm):tOk g y n t=(nodeOk g y (n:Int) t && tOks g y t.fOp n 0 t.fKids):=by cases t; rw [tOk]
def gN (size:Int) (cl:Bool) (x:Int):Bool:=!(decide (x ≥ size) || decide (x < -1) || cl && decide (x < 0))
def yN (size:Int) (cl:Bool) (ty:List Int):Bool:=wtB ty && ty.all (gokC size cl)
theorem sNode (t:GTerm) (n:Nat) (size:Int) (cl:Bool) (hty:t.fType.length ≤ 1099511627776) (hn:n ≤ 35184372088832):spec_l2Node (t,(n:Int),size,cl)=some (nodeOk (gN size cl) (yN size cl) (n:Int) t):=by
 unfold spec_l2Node nodeOk
 simp only
 rw [sMany,bs]
 by_cases hk:(t.fKids.length:Int)=manyI t.fOp
 ·have hop:inB t.fOp 0 12=true:=by
   cases h:inB t.fOp 0 12
   ·unfold manyI at hk; rw [h] at hk; simp at hk
   ·rfl
  rw [show ((t.fKids.length:Int) != manyI t.fOp)=false by rw [hk]; exact bne_self,if_neg (by decide),show ((t.fKids.length:Int) == manyI t.fOp)=true by rw [hk]; simp,hop]
  refine (bind_of (x:=if nOkN (gN size cl) (n:Int) t then .inl () else .inr false) ?_).trans ?_
  ·unfold nOkN gN
   rw [sIn,wr_id (by omega) (by omega),sIn,sHas]
   simp only [bs]
   generalize inB t.fN 0 ((n:Int) - 1)=b1
   generalize inB t.fN 0 2=b2
   generalize hasG t.fOp=b3
   rw [show (t.fN != 0)=!(t.fN == 0) from rfl]
   generalize (t.fN == 0)=b4
   generalize decide (t.fN ≥ size)=b5
   generalize decide (t.fN < -1)=b6
   generalize decide (t.fN < 0)=b7
   generalize (t.fOp == 0)=b8
   generalize (t.fOp == 1)=b9
   cases b8
   ·cases b9
    ·cases b3
     ·cases b4 <;> rfl
     ·cases b5 <;> cases b6 <;> cases cl <;> cases b7 <;> rfl
    ·cases b2 <;> rfl
   ·cases b1 <;> rfl
  ·cases nOkN (gN size cl) (n:Int) t
   ·simp
   ·unfold nOkY yN
    simp only [if_true]
    rw [sTyped,bs]
    cases typedG t.fOp
    ·simp
    ·simp only [if_true]
     rw [sType _ hty,sGraded _ hty]
     cases wtB t.fType <;> simp [bs]
 ·rw [show ((t.fKids.length:Int) != manyI t.fOp)=true by simpa using hk,if_pos rfl,show ((t.fKids.length:Int) == manyI t.fOp)=false by simpa using hk]
  simp
mutual
theorem sTerm (size:Int) (cl:Bool):∀ (t:GTerm) (n:Nat),tms t ≤ 1099511627776→n + 2 * tms t ≤ 35184372088832→spec_l2Term (t,(n:Int),size,cl)=some (tOk (gN size cl) (yN size cl) n t)
 | ⟨op,N,ty,ks⟩,n,ht,hn=>by
  rw [tms] at ht hn
  rw [spec_l2Term.eq_def,tOk]
  simp only
  rw [sNode _ n size cl (by simp only; omega) (by omega),bs]
  cases hb:nodeOk (gN size cl) (yN size cl) (n:Int) ⟨op,N,ty,ks⟩
  ·rfl
  ·have h:=sTerm_l0 size cl ks ⟨op,N,ty,ks⟩ n 0 rfl (by simp only; omega) (by omega) (by omega)
   rw [if_pos rfl,show (0:Int)=((0:Nat):Int) from rfl,h,bs]
   simp only
   cases tOks (gN size cl) (yN size cl) op n 0 ks <;> rfl
theorem sTerm_l0 (size:Int) (cl:Bool):∀ (ks:List GTerm) (t:GTerm) (n i:Nat),t.fKids.drop i=ks→t.fKids.length ≤ 1099511627776→tmss ks ≤ 1099511627776→n + 2 * (ks.length + tmss ks) ≤ 35184372088832 →
  spec_l2Term_l0 (t,(n:Int),size,cl,(i:Int))=some (if tOks (gN size cl) (yN size cl) t.fOp n i ks then .inl () else .inr false)
 | [],t,n,i,hd,hk,ht,hn=>by
  rw [spec_l2Term_l0.eq_def,tOks]
  simp only
  rw [lt_f (drop_nil_le hd)]; rfl
 | k :: ks,t,n,i,hd,hk,ht,hn=>by
  obtain ⟨hi,hx,hd'⟩:=drop_cons_get hd
  rw [tmss] at ht hn
  rw [List.length_cons] at hn
  have ha:=addsI_le t.fOp (i:Int)
  rw [spec_l2Term_l0.eq_def,tOks]
  simp only
  rw [lt_t hi,if_pos rfl,hx,bs,sAdds,bs,wr_id (by omega) (by omega),show (n:Int) + ((addsI t.fOp (i:Int):Nat):Int)=((n + addsI t.fOp (i:Int):Nat):Int) by omega]
  rw [sTerm size cl k (n + addsI t.fOp (i:Int)) (by omega) (by omega),bs,wr_succ (by omega)]
  cases tOk (gN size cl) (yN size cl) (n + addsI t.fOp (i:Int)) k
  ·rfl
  ·rw [if_pos rfl,sTerm_l0 size cl ks t n (i + 1) hd' hk (by omega) (by omega),Bool.true_and]
end
def chkI (ok:Bool) (nodes sz:Nat):Int:=if ok && decide (nodes + sz ≤ 400) then ((nodes + sz:Nat):Int) else 401
def szB (left:Int) (n:Nat):Int:=if left - (n:Int) < 0 then -1 else left - (n:Int)
theorem szB_cases (left:Int) (n:Nat):(szB left n=-1∧left < n)∨(szB left n=left - n∧(n:Int) ≤ left):=by
 unfold szB
 by_cases h:left - (n:Int) < 0
 ·rw [if_pos h]; left; omega
 ·rw [if_neg h]; right; omega
theorem szIntS_eq (a:List Int) (left:Int) (h1:0 ≤ left) (h2:left ≤ 1048576) (ha:a.length ≤ 9223372036854775807):laws_szIntS (a,left)=some (szB left a.length):=by
 unfold laws_szIntS szB
 simp only
 rw [wr_id (by omega) (by omega)]
 by_cases h:left - (a.length:Int) < 0
 ·rw [decide_eq_true h,if_pos rfl,if_pos h]
 ·rw [decide_eq_false h,if_neg (by decide),if_neg h]
mutual
def tln:GTerm→Prop
 | ⟨_,N,ty,ks⟩=>ty.length ≤ 9223372036854775807∧ks.length ≤ 9223372036854775807∧tlns ks∧(-9223372036854775808 ≤ N∧N ≤ 9223372036854775807)
def tlns:List GTerm→Prop
 | []=>True
 | k :: ks=>tln k∧tlns ks
end
mutual
theorem szTerm_eq:∀ (t:GTerm) (left:Int),tln t→0 ≤ left→left ≤ 1048576→laws_szTerm (t,left)=some (szB left (tms t))
 | ⟨op,N,ty,ks⟩,left,hl,h1,h2=>by
  rw [tln] at hl
  rw [laws_szTerm.eq_def,tms]
  simp only
  rw [szIntS_eq ty left h1 h2 hl.1,bs]
  rcases szB_cases left ty.length with ⟨e,h⟩ | ⟨e,h⟩
  ·rw [e,decide_eq_true (by decide),if_pos rfl]
   unfold szB; rw [if_pos (by omega)]
  ·rw [e,decide_eq_false (by omega),if_neg (by decide),laws_szTermS.eq_def]
   simp only
   rw [wr_id (by omega) (by omega)]
   by_cases h3:left - (ty.length:Int) - (ks.length:Int) < 0
   ·rw [decide_eq_true h3,if_pos rfl,bs,decide_eq_true (by decide),if_pos rfl]
    unfold szB; rw [if_pos (by omega)]
   ·obtain ⟨m,hm⟩:∃ m:Nat,left - (ty.length:Int) - (ks.length:Int)=(m:Int):=⟨(left - (ty.length:Int) - (ks.length:Int)).toNat,by omega⟩
    rw [decide_eq_false h3,if_neg (by decide),hm,show (0:Int)=((0:Nat):Int) from rfl,szTermS_l0 ks ks 0 m rfl hl.2.1 hl.2.2.1 (by omega),bs]
    unfold szB
    by_cases q:m < tmss ks
    ·rw [if_pos q,if_pos (by omega)]; rfl
    ·rw [if_neg q,if_neg (by omega)]
     simp only [bs]
     rw [decide_eq_false (by omega),if_neg (by decide)]; congr 1; omega
theorem szTermS_l0:∀ (ks a:List GTerm) (i left:Nat),a.drop i=ks→a.length ≤ 9223372036854775807→tlns ks→left ≤ 1048576→laws_szTermS_l0 (a,(left:Int),(i:Int))=some (if left < tmss ks then .inr (-1) else .inl ((left - tmss ks:Nat):Int))
 | [],a,i,left,hd,ha,hl,h=>by
  rw [laws_szTermS_l0.eq_def,tmss]
  simp only
  rw [lt_f (drop_nil_le hd)]
  simp
 | k :: ks,a,i,left,hd,ha,hl,h=>by
  obtain ⟨hi,hx,hd'⟩:=drop_cons_get hd
  rw [tlns] at hl
  rw [laws_szTermS_l0.eq_def,tmss]
  simp only
  rw [lt_t hi,if_pos rfl,hx,bs,szTerm_eq k left hl.1 (by omega) (by omega),bs,wr_succ (by omega)]
  rcases szB_cases left (tms k) with ⟨e,q⟩ | ⟨e,q⟩
  ·rw [e,decide_eq_true (by decide),if_pos rfl,if_pos (by omega)]
  ·rw [e,decide_eq_false (by omega),if_neg (by decide),show (left:Int) - ((tms k:Nat):Int)=((left - tms k:Nat):Int) by omega,szTermS_l0 ks a (i + 1) (left - tms k) hd' ha hl.2 (by omega)]
   by_cases q2:left - tms k < tmss ks
   ·rw [if_pos q2,if_pos (by omega)]
   ·rw [if_neg q2,if_neg (by omega)]; congr 3; omega
end
mutual
theorem toTerm_id:∀ (t:GTerm),tms t ≤ 1099511627776→laws_toTerm t=some t
 | ⟨op,N,ty,ks⟩,h=>by
  rw [tms] at h
  rw [laws_toTerm.eq_def]
  simp only
  rw [toIntS_id ty (by omega),bs,laws_toTermS.eq_def]
  have:chk (0 ≤ (ks.length:Int)∧(Int.toNat (ks.length:Int)) * 64 ≤ 140737488355328)=some ():=by
   unfold chk; rw [if_pos]; refine ⟨by omega,?_⟩; rw [Int.toNat_natCast]; omega
  rw [this,bs,Int.toNat_natCast,show (0:Int)=((0:Nat):Int) from rfl,toTermS_l0 ks ks (List.replicate ks.length (GTerm.mk ((0:Nat):Int) ((0:Nat):Int) [] [])) 0 rfl (by omega) (by omega) (by simp) rfl]
  rfl
theorem toTermS_l0:∀ (ks a out:List GTerm) (i:Nat),a.drop i=ks→a.length ≤ 1099511627776→tmss ks ≤ 1099511627776→out.length=a.length→out.take i=a.take i→laws_toTermS_l0 (a,out,(i:Int))=some a
 | [],a,out,i,hd,ha,hl,ho,ht=>by
  rw [laws_toTermS_l0.eq_def]
  simp only
  have hle:=drop_nil_le hd
  rw [lt_f hle]
  rw [List.take_of_length_le (by omega),List.take_of_length_le (by omega)] at ht
  simp [ht]
 | k :: ks,a,out,i,hd,ha,hl,ho,ht=>by
  obtain ⟨hi,hx,hd'⟩:=drop_cons_get hd
  have hk:a[i]=k:=by rw [idx_get hi] at hx; exact Option.some.inj hx
  rw [tmss] at hl
  rw [laws_toTermS_l0.eq_def]
  simp only
  rw [lt_t hi,if_pos rfl,hx,bs,toTerm_id k (by omega),bs,idx_get (by omega),bs,wr_succ (by omega),Int.toNat_natCast]
  exact toTermS_l0 ks a _ (i + 1) hd' ha (by omega) (by simpa using ho) (by rw [← hk]; exact take_set_succ ho hi ht)
end
mutual
theorem eqTerm_refl:∀ (t:GTerm),tms t ≤ 1099511627776→laws_eqTerm (t,t)=some true
 | ⟨op,N,ty,ks⟩,h=>by
  rw [tms] at h
  rw [laws_eqTerm.eq_def]
  simp only
  rw [bne_self,if_neg (by decide),bne_self,if_neg (by decide),eqIntS_refl ty (by omega),bs,if_pos rfl,laws_eqTermS.eq_def]
  simp only
  rw [bne_self,if_neg (by decide),show (0:Int)=((0:Nat):Int) from rfl,eqTermS_l0 ks ks 0 rfl (by omega) (by omega)]
  rfl
theorem eqTermS_l0:∀ (ks a:List GTerm) (i:Nat),a.drop i=ks→a.length ≤ 1099511627776→tmss ks ≤ 1099511627776→laws_eqTermS_l0 (a,a,(i:Int))=some (.inl ())
 | [],a,i,hd,ha,hl=>by
  rw [laws_eqTermS_l0.eq_def]
  simp only
  rw [lt_f (drop_nil_le hd)]
  rfl
 | k :: ks,a,i,hd,ha,hl=>by
  obtain ⟨hi,hx,hd'⟩:=drop_cons_get hd
  rw [tmss] at hl
  rw [laws_eqTermS_l0.eq_def]
  simp only
  rw [lt_t hi,if_pos rfl,hx,bs,bs,eqTerm_refl k (by omega),bs,if_pos rfl,wr_succ (by omega)]
  exact eqTermS_l0 ks a (i + 1) hd' ha (by omega)
end
theorem wtB_len {ty:List Int} (h:wtB ty=true):ty.length ≤ 40:=by
 unfold wtB at h
 rw [Bool.and_eq_true,decide_eq_true_eq] at h
 exact h.1
theorem tOk_node {g:Int→Bool} {y:List Int→Bool} {n:Nat} {t:GTerm} (h:tOk g y n t=true):nodeOk g y (n:Int) t=true∧tOks g y t.fOp n 0 t.fKids=true:=by
 rw [tOk_eq,Bool.and_eq_true] at h; exact h
theorem fits_ok {n b:Nat} (h:n * b ≤ 140737488355328):fits n b=some ():=by unfold fits chk; rw [if_pos h]
theorem nodeOk_many {g:Int→Bool} {y:List Int→Bool} {n:Int} {t:GTerm} (h:nodeOk g y n t=true):inB t.fOp 0 12=true∧(t.fKids.length:Int)=manyI t.fOp:=by
 unfold nodeOk at h
 simp only [Bool.and_eq_true,beq_iff_eq] at h
 exact ⟨h.1.1.1,h.1.1.2⟩
theorem sCopy (l:List Int) (h:l.length ≤ 1099511627776):spec_l1Copy l=some l:=by
 unfold spec_l1Copy
 rw [fits_ok (by simp only [List.length_nil]; omega),bs]
theorem iCopy (l:List Int) (h:l.length ≤ 1099511627776):slices_Clone_int l=some l:=by
 unfold slices_Clone_int
 rw [fits_ok (by simp only [List.length_nil]; omega),bs]
structure Form (s:GSystem) (n:Nat):Prop where
 size:s.fSize=(n:Int)
 lo:2 ≤ n
 hi:n ≤ 16
 lp:s.fPlus.length=n * n
 lt:s.fTimes.length=n * n
 lb:s.fBelow.length=n * n
def entB (s:GSystem) (n i:Nat):Bool:=inB (s.fPlus.getD i 0) 0 ((n:Int) - 1) && inB (s.fTimes.getD i 0) 0 ((n:Int) - 1)
section
variable {s:GSystem} {n:Nat} (h:Form s n)
include h
theorem nn:n * n ≤ 256:=Nat.le_trans (Nat.mul_le_mul h.hi h.hi) (by decide)
theorem idxP {i:Nat} (hi:i < n * n):idx s.fPlus (i:Int)=some (s.fPlus.getD i 0):=by
 have hl:i < s.fPlus.length:=by rw [h.lp]; exact hi
 rw [idx_get hl,List.getD_eq_getElem?_getD,List.getElem?_eq_getElem hl]; rfl
theorem idxT {i:Nat} (hi:i < n * n):idx s.fTimes (i:Int)=some (s.fTimes.getD i 0):=by
 have hl:i < s.fTimes.length:=by rw [h.lt]; exact hi
 rw [idx_get hl,List.getD_eq_getElem?_getD,List.getElem?_eq_getElem hl]; rfl
theorem wr_dec:wr (s.fSize - 1)=(n:Int) - 1:=by
 have:=h.lo; have:=h.hi
 rw [h.size,wr_id (by omega) (by omega)]
theorem sTab_l0:∀ (k i:Nat),i + k=n * n→spec_l1Tables_l0 (s,(i:Int))=some (if (List.range' i k).all (entB s n) then .inl () else .inr false):=by
 have hn:=nn h
 intro k
 induction k with
 | zero =>
  intro i hm
  rw [spec_l1Tables_l0.eq_def]
  simp only
  rw [h.lp,lt_f (by omega)]
  rfl
 | succ k ih =>
  intro i hm
  rw [spec_l1Tables_l0.eq_def]
  simp only
  rw [h.lp,lt_t (by omega),if_pos rfl,idxP h (by omega),idxT h (by omega),wr_dec h]
  have ih:=ih (i + 1) (by omega)
  rw [wr_succ (by omega),List.range'_succ,List.all_cons]
  generalize ((i + 1:Nat):Int)=M at ih ⊢
  generalize (List.range' (i + 1) k).all (entB s n)=r at ih ⊢
  simp only [bs,sIn]
  cases h1:inB (s.fPlus.getD i 0) 0 ((n:Int) - 1) <;> cases h2:inB (s.fTimes.getD i 0) 0 ((n:Int) - 1) <;> cases r <;> simp only [entB,h1,h2,ih,bs,Bool.not_true,Bool.not_false,Bool.true_and,Bool.false_and,Bool.and_true,Bool.and_false,if_true,if_false,Bool.false_eq_true]
theorem iTab_l0:∀ (k i:Nat),i + k=n * n→impl_IsSystem_l0 (s,(i:Int))=some (if (List.range' i k).all (entB s n) then .inl () else .inr false):=by
 have hn:=nn h
 intro k
 induction k with
 | zero =>
  intro i hm
  rw [impl_IsSystem_l0.eq_def]
  simp only
  rw [h.lp,lt_f (by omega)]
  rfl
 | succ k ih =>
  intro i hm
  rw [impl_IsSystem_l0.eq_def]
  simp only
  rw [h.lp,lt_t (by omega),if_pos rfl,idxP h (by omega),idxT h (by omega)]
  have ih:=ih (i + 1) (by omega)
  rw [wr_succ (by omega),List.range'_succ,List.all_cons]
  generalize ((i + 1:Nat):Int)=M at ih ⊢
  generalize (List.range' (i + 1) k).all (entB s n)=r at ih ⊢
  have hh:∀ x,impl_Systemhas (s,x)=some (inB x 0 ((n:Int) - 1)):=fun x=>by
   unfold impl_Systemhas
   simp only
   rw [wr_dec h,iIn,bs]
  simp only [bs,hh]
  cases h1:inB (s.fPlus.getD i 0) 0 ((n:Int) - 1) <;> cases h2:inB (s.fTimes.getD i 0) 0 ((n:Int) - 1) <;> cases r <;> simp only [entB,h1,h2,ih,bs,Bool.not_true,Bool.not_false,Bool.true_and,Bool.false_and,Bool.and_true,Bool.and_false,if_true,if_false,Bool.false_eq_true]
theorem tab_of (he:(List.range' 0 (n * n)).all (entB s n)=true):Tab s n:=by
 rw [List.all_eq_true] at he
 have hent:∀ i,i < n * n→entB s n i=true:=fun i hi=>he i (by rw [List.mem_range'_1]; omega)
 refine ⟨h.size,h.lo,h.hi,h.lp,h.lt,h.lb,fun i hi=>?_,fun i hi=>?_⟩
 ·have:=hent i (by rw [← h.lp]; exact hi)
  simp only [entB,inB,Bool.and_eq_true,decide_eq_true_eq,List.getD_eq_getElem?_getD,List.getElem?_eq_getElem hi,Option.getD_some] at this
  omega
 ·have:=hent i (by rw [← h.lt]; exact hi)
  simp only [entB,inB,Bool.and_eq_true,decide_eq_true_eq,List.getD_eq_getElem?_getD,List.getElem?_eq_getElem hi,Option.getD_some] at this
  omega
end
def formB (s:GSystem):Bool:=inB s.fSize 2 16 && !((s.fPlus.length:Int) != (wr (s.fSize * s.fSize))) && !((s.fTimes.length:Int) != (wr (s.fSize * s.fSize))) && !((s.fBelow.length:Int) != (wr (s.fSize * s.fSize)))
theorem form_of {s:GSystem} (h:formB s=true):Form s s.fSize.toNat:=by
 unfold formB at h
 simp only [Bool.and_eq_true,Bool.not_eq_true',inB,decide_eq_true_eq,bne_eq_false_iff_eq] at h
 obtain ⟨⟨⟨⟨h1,h2⟩,h3⟩,h4⟩,h5⟩:=h
 obtain ⟨n,hn⟩:∃ n:Nat,s.fSize=(n:Int):=⟨s.fSize.toNat,by omega⟩
 rw [hn] at h1 h2 h3 h4 h5 ⊢
 have h256:n * n ≤ 256:=Nat.le_trans (Nat.mul_le_mul (by omega:n ≤ 16) (by omega:n ≤ 16)) (by decide)
 have e:(n:Int) * (n:Int)=((n * n:Nat):Int):=by simp
 rw [e] at h3 h4 h5
 generalize hm:n * n=m at *
 rw [wr_id (by omega) (by omega)] at h3 h4 h5
 rw [Int.toNat_natCast]
 exact ⟨hn,by omega,by omega,by omega,by omega,by omega⟩
def sysB (s:GSystem):Bool:=formB s && (List.range' 0 (s.fSize.toNat * s.fSize.toNat)).all (entB s s.fSize.toNat) && sysM s s.fSize.toNat
theorem sysB_tab {s:GSystem} (h:sysB s=true):Tab s s.fSize.toNat:=by
 unfold sysB at h
 simp only [Bool.and_eq_true] at h
 exact tab_of (form_of h.1.1) h.1.2
theorem sSys (s:GSystem):spec_IsSystem s=some (sysB s):=by
 unfold spec_IsSystem spec_l1Tables sysB
 rw [sIn]
 cases hf:formB s with
 | false =>
  unfold formB at hf
  cases h1:inB s.fSize 2 16 <;> cases h2:((s.fPlus.length:Int) != (wr (s.fSize * s.fSize))) <;> cases h3:((s.fTimes.length:Int) != (wr (s.fSize * s.fSize))) <;> cases h4:((s.fBelow.length:Int) != (wr (s.fSize * s.fSize))) <;> simp_all [bs]
 | true =>
  have F:=form_of hf
  have hl:=sTab_l0 F (s.fSize.toNat * s.fSize.toNat) 0 (by omega)
  rw [show ((0:Nat):Int)=0 from rfl] at hl
  unfold formB at hf
  simp only [Bool.and_eq_true,Bool.not_eq_true'] at hf
  obtain ⟨⟨⟨h1,h2⟩,h3⟩,h4⟩:=hf
  cases he:(List.range' 0 (s.fSize.toNat * s.fSize.toNat)).all (entB s s.fSize.toNat) with
  | false=>rw [he] at hl; simp [bs,h1,h2,h3,h4,hl]
  | true =>
   have T:=tab_of F he
   have hl2:=sSys_l2 T s.fSize.toNat 0 (by omega)
   rw [show ((0:Nat):Int)=0 from rfl] at hl2
   rw [he] at hl
   have hm:(List.range' 0 s.fSize.toNat).all (fun a=>oneG s s.fSize.toNat a && (List.range' 0 s.fSize.toNat).all fun b=>twoG s s.fSize.toNat a b && (List.range' 0 s.fSize.toNat).all fun c=>threeG s s.fSize.toNat a b c)=sysM s s.fSize.toNat:=rfl
   rw [hm] at hl2
   cases hs:sysM s s.fSize.toNat <;> rw [hs] at hl2 <;> simp [bs,h1,h2,h3,h4,hl,hl2]
theorem iSys (s:GSystem):impl_IsSystem s=some (sysB s):=by
 unfold impl_IsSystem sysB
 rw [iIn]
 cases hf:formB s with
 | false =>
  unfold formB at hf
  cases h1:inB s.fSize 2 16 <;> cases h2:((s.fPlus.length:Int) != (wr (s.fSize * s.fSize))) <;> cases h3:((s.fTimes.length:Int) != (wr (s.fSize * s.fSize))) <;> cases h4:((s.fBelow.length:Int) != (wr (s.fSize * s.fSize))) <;> simp_all [bs]
 | true =>
  have F:=form_of hf
  have hl:=iTab_l0 F (s.fSize.toNat * s.fSize.toNat) 0 (by omega)
  rw [show ((0:Nat):Int)=0 from rfl] at hl
  unfold formB at hf
  simp only [Bool.and_eq_true,Bool.not_eq_true'] at hf
  obtain ⟨⟨⟨h1,h2⟩,h3⟩,h4⟩:=hf
  cases he:(List.range' 0 (s.fSize.toNat * s.fSize.toNat)).all (entB s s.fSize.toNat) with
  | false=>rw [he] at hl; simp [bs,h1,h2,h3,h4,hl]
  | true =>
   have T:=tab_of F he
   have hl2:=iSys_l3 T s.fSize.toNat 0 (by omega)
   rw [show ((0:Nat):Int)=0 from rfl] at hl2
   rw [he] at hl
   have hm:(List.range' 0 s.fSize.toNat).all (fun a=>oneG s s.fSize.toNat a && (List.range' 0 s.fSize.toNat).all fun b=>twoG s s.fSize.toNat a b && (List.range' 0 s.fSize.toNat).all fun c=>threeG s s.fSize.toNat a b c)=sysM s s.fSize.toNat:=rfl
   rw [hm] at hl2
   cases hs:sysM s s.fSize.toNat <;> rw [hs] at hl2 <;> simp [bs,h1,h2,h3,h4,hl,hl2]
section
variable {s:GSystem} {n:Nat} (h:Tab s n)
include h
theorem wr_decT:wr (s.fSize - 1)=(n:Int) - 1:=by
 have:=h.lo; have:=h.hi
 rw [h.size,wr_id (by omega) (by omega)]
end
inductive Ty where
 | num
 | bin (c:Int) (a b:Ty)
 | un (c:Int) (a:Ty)
namespace Ty
def code:Ty→List Int
 | num=>[0]
 | bin c a b=>c :: (a.code ++ b.code)
 | un c a=>c :: a.code
def ok:Ty→Prop
 | num=>True
 | bin c a b=>kidsC c=2∧a.ok∧b.ok
 | un c a=>kidsC c=1∧a.ok
def kids:Ty→List Ty
 | num=>[]
 | bin _ a b=>[a,b]
 | un _ a=>[a]
def hd:Ty→Int
 | num=>0
 | bin c _ _=>c
 | un c _=>c
end Ty
def flat:List Ty→List Int
 | []=>[]
 | t :: l=>t.code ++ flat l
theorem code_eq (T:Ty):T.code=T.hd :: flat T.kids:=by cases T <;> simp [Ty.code,Ty.hd,Ty.kids,flat]
theorem code_pos (T:Ty):1 ≤ T.code.length:=by rw [code_eq]; simp
theorem skip_code (T:Ty):∀ (m:Nat) (l:List Int),T.ok→skip (m + 1) (T.code ++ l)=skip m l:=by
 induction T with
 | num =>
  intro m l _
  rw [Ty.code,List.singleton_append,skip_cons,show kidsC 0=0 from rfl,if_neg (by decide)]; rfl
 | bin c a b iha ihb =>
  intro m l h
  rw [Ty.code,List.cons_append,skip_cons,h.1,if_neg (by decide),List.append_assoc,show m + (2:Int).toNat=(m + 1) + 1 from rfl,iha _ _ h.2.1,ihb _ _ h.2.2]
 | un c a ih =>
  intro m l h
  rw [Ty.code,List.cons_append,skip_cons,h.1,if_neg (by decide),show m + (1:Int).toNat=m + 1 from rfl,ih _ _ h.2]
theorem skip_trees (l:List Int):∀ (m:Nat) (r:List Int),skip m l=some r→∃ Ts:List Ty,Ts.length=m∧(∀ T ∈ Ts,T.ok)∧l=flat Ts ++ r:=by
 induction l with
 | nil =>
  intro m r h
  cases m with
  | zero=>rw [skip_zero] at h; cases h; exact ⟨[],rfl,fun _ h=>(by cases h),rfl⟩
  | succ m=>rw [skip_nil] at h; cases h
 | cons c l ih =>
  intro m r h
  cases m with
  | zero=>rw [skip_zero] at h; cases h; exact ⟨[],rfl,fun _ h=>(by cases h),rfl⟩
  | succ m =>
   rw [skip_cons] at h
   by_cases hk:kidsC c=-1
   ·rw [if_pos hk] at h; cases h
   ·rw [if_neg hk] at h
    obtain ⟨Ts,h1,h2,h3⟩:=ih _ _ h
    rcases kidsC_cases c with ⟨q,e⟩ | ⟨q,e⟩ | ⟨q,e⟩ | ⟨q,e⟩
    ·subst q
     rw [e] at h1
     exact ⟨.num :: Ts,by simpa using h1,fun T hT=>by rcases List.mem_cons.1 hT with rfl | hT; exact trivial; exact h2 T hT,by rw [h3]; rfl⟩
    ·rw [e] at h1
     match Ts,h1 with
     | a :: b :: Ts,h1 =>
      refine ⟨.bin c a b :: Ts,by simpa using h1,fun T hT=>?_,by rw [h3]; simp [flat,Ty.code]⟩
      rcases List.mem_cons.1 hT with rfl | hT
      ·exact ⟨e,h2 a List.mem_cons_self,h2 b (List.mem_cons_of_mem _ List.mem_cons_self)⟩
      ·exact h2 T (List.mem_cons_of_mem _ (List.mem_cons_of_mem _ hT))
     | [_],h1=>exact absurd h1 (by simp)
     | [],h1=>exact absurd h1 (by simp)
    ·rw [e] at h1
     match Ts,h1 with
     | a :: Ts,h1 =>
      refine ⟨.un c a :: Ts,by simpa using h1,fun T hT=>?_,by rw [h3]; simp [flat,Ty.code]⟩
      rcases List.mem_cons.1 hT with rfl | hT
      ·exact ⟨e,h2 a List.mem_cons_self⟩
      ·exact h2 T (List.mem_cons_of_mem _ hT)
     | [],h1=>exact absurd h1 (by simp)
    ·exact absurd e hk
theorem wtB_tree {ty:List Int} (h:wtB ty=true):∃ T:Ty,T.ok∧ty=T.code∧ty.length ≤ 40:=by
 have hl:=wtB_len h
 unfold wtB at h
 rw [Bool.and_eq_true,beq_iff_eq] at h
 obtain ⟨Ts,h1,h2,h3⟩:=skip_trees _ _ _ h.2
 match Ts,h1 with
 | [T],_=>exact ⟨T,h2 T List.mem_cons_self,by rw [h3]; simp [flat],hl⟩
theorem wtB_code {T:Ty} (h:T.ok) (hl:T.code.length ≤ 40):wtB T.code=true:=by
 unfold wtB
 have:=skip_code T 0 [] h
 rw [List.append_nil,skip_zero] at this
 rw [decide_eq_true hl,show (1:Nat)=0 + 1 from rfl,this]; rfl
theorem kids_ok {T:Ty} (h:T.ok):∀ K ∈ T.kids,K.ok:=by
 intro K hK
 cases T with
 | num=>cases hK
 | bin c a b=>rcases List.mem_cons.1 hK with rfl | hK; exact h.2.1; rw [List.mem_singleton.1 hK]; exact h.2.2
 | un c a=>rw [List.mem_singleton.1 hK]; exact h.2
theorem endI_at {pre:List Int} {T:Ty} {post:List Int} (h:T.ok):endI (pre ++ (T.code ++ post)) 1 pre.length=((pre.length + T.code.length:Nat):Int):=by
 unfold endI
 rw [List.drop_left,show (1:Nat)=0 + 1 from rfl,skip_code T 0 post h,skip_zero]
 simp only [List.length_append]
 omega
theorem cut_mid {α:Type} (p m q:List α) (mx:Option Int) (hmx:mx=none∨mx=some ((p.length + m.length:Nat):Int)):cut (p ++ (m ++ q)) (some (p.length:Int)) (some ((p.length + m.length:Nat):Int)) mx=some m:=by
 unfold cut
 have e:((p ++ (m ++ q)).take (p.length + m.length)).drop p.length=m:=by
  rw [← List.append_assoc,← List.length_append,List.take_left,List.drop_left]
 rw [if_pos]
 ·simp only [Option.getD_some,Int.toNat_natCast,e]
 ·rcases hmx with rfl | rfl <;> simp only [Option.getD_some,Option.getD_none,List.length_append] <;> omega
theorem cut_end {α:Type} (p q:List α):cut (p ++ q) (some (p.length:Int)) none none=some q:=by
 unfold cut
 rw [if_pos]
 ·simp only [Option.getD_some,Option.getD_none,Int.toNat_natCast,List.take_length,List.drop_left]
 ·simp only [Option.getD_some,Option.getD_none,List.length_append]; omega
theorem iParts_l0 (Ks:List Ty):∀ (pre:List Int) (out:List (List Int)),(∀ K ∈ Ks,K.ok)→(pre ++ flat Ks).length ≤ 1099511627776→out.length + Ks.length ≤ 1099511627776→impl_parts_l0 (pre ++ flat Ks,out,(pre.length:Int))=some (out ++ Ks.map Ty.code):=by
 induction Ks with
 | nil =>
  intro pre out hk hl ho
  rw [show flat []=[] from rfl,List.append_nil,impl_parts_l0.eq_def]
  simp only
  rw [lt_f (Nat.le_refl _)]; simp
 | cons K Ks ih =>
  intro pre out hk hl ho
  have hK:=hk K List.mem_cons_self
  have hp:=code_pos K
  rw [show flat (K :: Ks)=K.code ++ flat Ks from rfl] at hl ⊢
  rw [List.length_cons] at ho
  rw [impl_parts_l0.eq_def]
  simp only
  rw [lt_t (by simp only [List.length_append]; omega),if_pos rfl,iEnd _ hl _ pre.length rfl,endI_at hK,bs,cut_mid _ _ _ _ (.inr rfl),bs,fits_ok (by simp only [List.length_singleton]; omega),bs]
  have:=ih (pre ++ K.code) (out ++ [K.code]) (fun K hK=>hk K (List.mem_cons_of_mem _ hK)) (by rw [List.append_assoc]; exact hl) (by simp; omega)
  rw [List.append_assoc,List.length_append] at this
  rw [this,List.map_cons,List.append_assoc]; rfl
theorem iParts {T:Ty} (h:T.ok) (hl:T.code.length ≤ 1048576):impl_parts T.code=some (T.kids.map Ty.code):=by
 unfold impl_parts
 have hk:T.kids.length ≤ 2:=by cases T <;> simp [Ty.kids]
 have e:[T.hd] ++ flat T.kids=T.code:=(code_eq T).symm
 have:=iParts_l0 T.kids [T.hd] [] (kids_ok h) (by rw [e]; omega) (by simp only [List.length_nil]; omega)
 rw [e] at this
 rw [show (1:Int)=(([T.hd].length:Nat):Int) from rfl,this,bs]; rfl
theorem sPart0 {c:Int} {a:Ty} {r:List Int} (ha:a.ok) (hl:(c :: (a.code ++ r)).length ≤ 1099511627776):spec_l2Part (c :: (a.code ++ r),0)=some a.code:=by
 unfold spec_l2Part
 simp only
 have e:=endI_at (pre:=[c]) (post:=r) ha
 have h1:=sEnd (c :: (a.code ++ r)) hl 1 (by simp)
 rw [show (((1:Nat)):Int)=1 from rfl] at h1
 rw [List.length_singleton] at e
 have e':endI (c :: (a.code ++ r)) 1 1=((1 + a.code.length:Nat):Int):=e
 rw [h1,bs,e',if_pos (by rfl)]
 have h2:=cut_mid [c] a.code r none (.inl rfl)
 rw [List.length_singleton] at h2
 have h2':cut (c :: (a.code ++ r)) (some 1) (some ((1 + a.code.length:Nat):Int)) none=some a.code:=h2
 simp only [List.length_cons,List.length_append] at hl
 rw [h2',bs,sCopy _ (by omega),bs]
theorem sPart1 {c:Int} {a:Ty} {r:List Int} (ha:a.ok) (hl:(c :: (a.code ++ r)).length ≤ 1099511627776):spec_l2Part (c :: (a.code ++ r),1)=some r:=by
 unfold spec_l2Part
 simp only
 have e:=endI_at (pre:=[c]) (post:=r) ha
 have h1:=sEnd (c :: (a.code ++ r)) hl 1 (by simp)
 rw [show (((1:Nat)):Int)=1 from rfl] at h1
 rw [List.length_singleton] at e
 have e':endI (c :: (a.code ++ r)) 1 1=((1 + a.code.length:Nat):Int):=e
 rw [h1,bs,e',if_neg (by decide)]
 have h2:=cut_end (c :: a.code) r
 rw [List.length_cons,List.cons_append,Nat.add_comm] at h2
 simp only [List.length_cons,List.length_append] at hl
 rw [h2,bs,sCopy _ (by omega),bs]
def hasB (s:GSystem) (g:Int):Bool:=inB g 0 (wr (s.fSize - 1))
theorem iHas (s:GSystem) (g:Int):impl_Systemhas (s,g)=some (hasB s g):=by
 unfold impl_Systemhas hasB
 simp only
 rw [iIn,bs]
def codB (s:GSystem) (c:Int):Bool:=!(((shapeI c).1 == 3 || (shapeI c).1 == 4) && !hasB s (shapeI c).2)
def typB (s:GSystem) (ty:List Int):Bool:=wtB ty && ty.all (codB s)
theorem iTypeOf_l0 (s:GSystem) (ty:List Int) (hty:ty.length ≤ 1099511627776):∀ (l:List Int) (i:Nat),ty.drop i=l→impl_isTypeOf_l0 (s,ty,(i:Int))=some (if l.all (codB s) then .inl () else .inr false):=by
 intro l
 induction l with
 | nil =>
  intro i hd
  rw [impl_isTypeOf_l0.eq_def]
  simp only
  rw [lt_f (drop_nil_le hd)]; rfl
 | cons c l ih =>
  intro i hd
  obtain ⟨hi,hx,hd'⟩:=drop_cons_get hd
  rw [impl_isTypeOf_l0.eq_def]
  simp only
  rw [lt_t hi,if_pos rfl,hx,bs,iShape,bs,wr_succ (by omega),ih (i + 1) hd',List.all_cons]
  unfold codB
  rcases shapeI c with ⟨a,b⟩
  simp only [iHas,bs]
  cases a == 3 <;> cases a == 4 <;> cases hasB s b <;> simp [bs]
theorem iTypeOf (s:GSystem) (ty:List Int) (hty:ty.length ≤ 1099511627776):impl_isTypeOf (s,ty)=some (typB s ty):=by
 unfold impl_isTypeOf typB
 simp only
 rw [iType ty hty,bs]
 cases wtB ty
 ·rfl
 ·rw [if_pos rfl,show (0:Int)=((0:Nat):Int) from rfl,iTypeOf_l0 s ty hty _ 0 rfl,List.drop_zero,bs]
  cases ty.all (codB s) <;> rfl
theorem hasB_tab {s:GSystem} {n:Nat} (h:Tab s n) (g:Int):hasB s g=inB g 0 ((n:Int) - 1):=by
 unfold hasB; rw [wr_decT h]
theorem codB_tab {s:GSystem} {n:Nat} (h:Tab s n) {c:Int}:codB s c=gokC s.fSize true c:=by
 unfold codB gokC gradeC
 have hn:=h.lo
 rw [hasB_tab h,h.size]
 rcases shapeI_cases c with ⟨q,e⟩ | ⟨q,e⟩ | ⟨q,e⟩ | ⟨q,e⟩ | ⟨q,e⟩ | ⟨q,e⟩ | ⟨q,e⟩ | ⟨q,e⟩ <;> rw [e]
 ·subst q; rfl
 ·subst q; rfl
 ·subst q; rfl
 ·have hk:kidsC c=2:=by rcases kidsC_cases c with h | h | h | h <;> omega
  rw [hk,if_neg (by omega),if_neg (by omega),decide_eq_true (by omega:c > 2)]
  unfold inB
  rw [decide_eq_true (by omega:c - 3 ≥ 0),decide_eq_false (by omega:¬ c - 3 < 0)]
  by_cases hc:c - 3 ≤ (n:Int) - 1
  ·rw [decide_eq_true hc,decide_eq_false (by omega:¬ c - 3 ≥ (n:Int))]; rfl
  ·rw [decide_eq_false hc,decide_eq_true (by omega:c - 3 ≥ (n:Int))]; rfl
 ·subst q; unfold inB; simp [kidsC,arrC,boxC,inB]
 ·have hk:kidsC c=1:=by rcases kidsC_cases c with h | h | h | h <;> omega
  rw [hk,if_neg (by omega),if_pos (by omega),decide_eq_true (by omega:c > 2)]
  unfold inB
  rw [decide_eq_true (by omega:c - 19 ≥ 0),decide_eq_false (by omega:¬ c - 19 < 0)]
  by_cases hc:c - 19 ≤ (n:Int) - 1
  ·rw [decide_eq_true hc,decide_eq_false (by omega:¬ c - 19 ≥ (n:Int))]; rfl
  ·rw [decide_eq_false hc,decide_eq_true (by omega:c - 19 ≥ (n:Int))]; rfl
 ·subst q; unfold inB; simp [kidsC,arrC,boxC,inB]
 ·have hk:kidsC c=-1:=by rcases kidsC_cases c with h | h | h | h <;> omega
  rw [hk]; simp
theorem typB_tab {s:GSystem} {n:Nat} (h:Tab s n) (ty:List Int):typB s ty=yN s.fSize true ty:=by
 unfold typB yN
 rw [show codB s=gokC s.fSize true from funext fun c=>codB_tab h]
theorem idx0 {α:Type} (x:α) (l:List α):idx (x :: l) 0=some x:=rfl
theorem wr_add {a b:Nat} (ha:a ≤ 1099511627776) (hb:b ≤ 1099511627776):wr ((a:Int) + (b:Int))=((a + b:Nat):Int):=by rw [wr_id (by omega) (by omega)]; omega
theorem szBoolS_eq (a:List Bool) (left:Int) (h1:0 ≤ left) (h2:left ≤ 1048576) (ha:a.length ≤ 9223372036854775807):laws_szBoolS (a,left)=some (szB left a.length):=by
 unfold laws_szBoolS szB
 simp only
 rw [wr_id (by omega) (by omega)]
 by_cases h:left - (a.length:Int) < 0
 ·rw [decide_eq_true h,if_pos rfl,if_pos h]
 ·rw [decide_eq_false h,if_neg (by decide),if_neg h]
def sln (s:GSystem):Prop:=s.fPlus.length ≤ 9223372036854775807∧s.fTimes.length ≤ 9223372036854775807∧s.fBelow.length ≤ 9223372036854775807
def sms (s:GSystem):Nat:=s.fPlus.length + s.fTimes.length + s.fBelow.length
theorem szSystem_eq (s:GSystem) (left:Int) (hs:sln s) (h1:0 ≤ left) (h2:left ≤ 1048576):laws_szSystem (s,left)=some (szB left (sms s)):=by
 obtain ⟨l1,l2,l3⟩:=hs
 unfold laws_szSystem sms
 simp only
 rw [szIntS_eq _ _ h1 h2 l1,bs]
 rcases szB_cases left s.fPlus.length with ⟨e,hl⟩ | ⟨e,hl⟩
 ·rw [e,decide_eq_true (by decide),if_pos rfl]; unfold szB; rw [if_pos (by omega)]
 ·rw [e,decide_eq_false (by omega),if_neg (by decide),szIntS_eq _ _ (by omega) (by omega) l2,bs]
  rcases szB_cases (left - (s.fPlus.length:Int)) s.fTimes.length with ⟨e2,hl2⟩ | ⟨e2,hl2⟩
  ·rw [e2,decide_eq_true (by decide),if_pos rfl]; unfold szB; rw [if_pos (by omega)]
  ·rw [e2,decide_eq_false (by omega),if_neg (by decide),szBoolS_eq _ _ (by omega) (by omega) l3,bs]
   rcases szB_cases (left - (s.fPlus.length:Int) - (s.fTimes.length:Int)) s.fBelow.length with ⟨e3,hl3⟩ | ⟨e3,hl3⟩
   ·rw [e3,decide_eq_true (by decide),if_pos rfl]; unfold szB; rw [if_pos (by omega)]
   ·rw [e3,decide_eq_false (by omega),if_neg (by decide)]; unfold szB; rw [if_neg (by omega)]; congr 1; omega
theorem toSystem_sms {s:GSystem} (h:sms s ≤ 1048576):laws_toSystem s=some s:=by unfold sms at h; exact toSystem_id s (by omega) (by omega) (by omega)
theorem eqSystem_sms {s:GSystem} (h:sms s ≤ 1048576):laws_eqSystem (s,s)=some true:=by unfold sms at h; exact eqSystem_refl s (by omega) (by omega) (by omega)
theorem beq_self_b (b:Bool):(!(b == b))=false:=by cases b <;> rfl
def lct:List (List Int)→Nat
 | []=>0
 | x :: l=>x.length + lct l
def lok (l:List (List Int)):Prop:=l.length ≤ 1099511627776∧lct l ≤ 1099511627776
theorem lct_mem {l:List (List Int)} {x:List Int} (h:x ∈ l):x.length ≤ lct l:=by
 induction l with
 | nil=>cases h
 | cons y l ih =>
  rw [lct]
  rcases List.mem_cons.1 h with rfl | h
  ·omega
  ·have:=ih h; omega
theorem eqIntSS_l0 (a:List (List Int)) (ha:a.length ≤ 1099511627776):∀ (l:List (List Int)) (i:Nat),a.drop i=l→lct l ≤ 1099511627776→laws_eqIntSS_l0 (a,a,(i:Int))=some (.inl ()):=by
 intro l
 induction l with
 | nil =>
  intro i hd _
  rw [laws_eqIntSS_l0.eq_def]
  simp only
  rw [lt_f (drop_nil_le hd)]; rfl
 | cons x l ih =>
  intro i hd hl
  obtain ⟨hi,hx,hd'⟩:=drop_cons_get hd
  rw [lct] at hl
  rw [laws_eqIntSS_l0.eq_def]
  simp only
  rw [lt_t hi,if_pos rfl,hx,bs,bs,eqIntS_refl x (by omega),bs,if_pos rfl,wr_succ (by omega),ih (i + 1) hd' (by omega)]
theorem eqIntSS_refl (a:List (List Int)) (h:lok a):laws_eqIntSS (a,a)=some true:=by
 unfold laws_eqIntSS
 simp only
 rw [bne_self,if_neg (by decide),show (0:Int)=((0:Nat):Int) from rfl,eqIntSS_l0 a h.1 a 0 rfl h.2]; rfl
theorem cut_tail {α:Type} (x:α) (l:List α):cut (x :: l) (some 1) none none=some l:=cut_end [x] l
theorem beq_self_t {a:Int}:(a == a)=true:=by simp
structure BinP (c:Int) (a b:Ty):Prop where
 p0:spec_l2Part (c :: (a.code ++ b.code),0)=some a.code
 p1:spec_l2Part (c :: (a.code ++ b.code),1)=some b.code
 pp:impl_parts (c :: (a.code ++ b.code))=some [a.code,b.code]
 ok:a.ok∧b.ok
 la:a.code.length + b.code.length + 1 ≤ 1048576
theorem binP {c:Int} {a b:Ty} (h:(Ty.bin c a b).ok) (hl:(Ty.bin c a b).code.length ≤ 1048576):BinP c a b:=by
 have hl':=hl
 rw [Ty.code] at hl'
 have h3:=iParts h hl
 rw [Ty.kids,List.map_cons,List.map_cons,List.map_nil,Ty.code] at h3
 refine ⟨sPart0 h.2.1 (by omega),sPart1 h.2.1 (by omega),h3,h.2,?_⟩
 rw [List.length_cons,List.length_append] at hl'
 omega
structure UnP (c:Int) (a:Ty):Prop where
 p0:spec_l2Part (c :: a.code,0)=some a.code
 pp:impl_parts (c :: a.code)=some [a.code]
 ok:a.ok
 la:a.code.length + 1 ≤ 1048576
theorem unP {c:Int} {a:Ty} (h:(Ty.un c a).ok) (hl:(Ty.un c a).code.length ≤ 1048576):UnP c a:=by
 have hl':=hl
 rw [Ty.code] at hl'
 have h3:=iParts h hl
 rw [Ty.kids,List.map_cons,List.map_nil,Ty.code] at h3
 have h4:=sPart0 (c:=c) (r:=[]) h.2 (by rw [List.append_nil]; omega)
 rw [List.append_nil] at h4
 refine ⟨h4,h3,h.2,?_⟩
 rw [List.length_cons] at hl'
 omega
theorem chk_t {p:Prop} [Decidable p] (h:p):chk p=some ():=by unfold chk; rw [if_pos h]
theorem beq_cons (x y:Int) (l r:List Int):(x :: l == y :: r)=(x == y && l == r):=rfl
theorem sSame_l0 (a b:List Int) (ha:a.length ≤ 1099511627776) (hab:a.length=b.length):∀ (l r:List Int) (i:Nat),a.drop i=l→b.drop i=r→spec_l1Same_l0 (a,b,(i:Int))=some (if l == r then .inl () else .inr false):=by
 intro l
 induction l with
 | nil =>
  intro r i h1 h2
  have hi:=drop_nil_le h1
  rw [spec_l1Same_l0.eq_def]
  simp only
  rw [lt_f hi]
  have:r=[]:=by rw [← h2]; exact List.drop_eq_nil_of_le (by omega)
  subst this; rfl
 | cons x l ih =>
  intro r i h1 h2
  obtain ⟨hi,hx,hd⟩:=drop_cons_get h1
  cases r with
  | nil=>have:=drop_nil_le h2; omega
  | cons y r =>
   obtain ⟨_,hy,hd2⟩:=drop_cons_get h2
   rw [spec_l1Same_l0.eq_def]
   simp only
   rw [lt_t hi,if_pos rfl,hx,hy,bs,bs,wr_succ (by omega),ih r (i + 1) hd hd2,beq_cons]
   by_cases e:x=y
   ·subst e; simp
   ·rw [bne_iff_ne.2 e,if_pos rfl,beq_eq_false_iff_ne.2 e]; rfl
theorem sSame (a b:List Int) (hb:b.length ≤ 1099511627776):spec_l1Same (a,b)=some (a == b):=by
 unfold spec_l1Same
 simp only
 by_cases h:a.length=b.length
 ·rw [h,bne_self,if_neg (by decide)]
  have:=sSame_l0 a b (by omega) h a b 0 rfl rfl
  rw [show ((0:Nat):Int)=0 from rfl] at this
  rw [this]
  cases a == b <;> rfl
 ·rw [bne_iff_ne.2 (by omega),if_pos rfl]
  have:a ≠ b:=fun e=>h (by rw [e])
  rw [beq_eq_false_iff_ne.2 this]
theorem iSame_l0 (a b:List Int) (ha:a.length ≤ 1099511627776) (hab:a.length=b.length):∀ (l r:List Int) (i:Nat),a.drop i=l→b.drop i=r→slices_Equal_int_l0 (a,b,(i:Int))=some (if l == r then .inl () else .inr false):=by
 intro l
 induction l with
 | nil =>
  intro r i h1 h2
  have hi:=drop_nil_le h1
  rw [slices_Equal_int_l0.eq_def]
  simp only
  rw [lt_f hi]
  have:r=[]:=by rw [← h2]; exact List.drop_eq_nil_of_le (by omega)
  subst this; rfl
 | cons x l ih =>
  intro r i h1 h2
  obtain ⟨hi,hx,hd⟩:=drop_cons_get h1
  cases r with
  | nil=>have:=drop_nil_le h2; omega
  | cons y r =>
   obtain ⟨_,hy,hd2⟩:=drop_cons_get h2
   rw [slices_Equal_int_l0.eq_def]
   simp only
   rw [lt_t hi,if_pos rfl,hx,hy,bs,bs,wr_succ (by omega),ih r (i + 1) hd hd2,beq_cons]
   by_cases e:x=y
   ·subst e; simp
   ·rw [bne_iff_ne.2 e,if_pos rfl,beq_eq_false_iff_ne.2 e]; rfl
theorem iSame (a b:List Int) (hb:b.length ≤ 1099511627776):slices_Equal_int (a,b)=some (a == b):=by
 unfold slices_Equal_int
 simp only
 by_cases h:a.length=b.length
 ·rw [h,bne_self,if_neg (by decide)]
  have:=iSame_l0 a b (by omega) h a b 0 rfl rfl
  rw [show ((0:Nat):Int)=0 from rfl] at this
  rw [this]
  cases a == b <;> rfl
 ·rw [bne_iff_ne.2 (by omega),if_pos rfl]
  have:a ≠ b:=fun e=>h (by rw [e])
  rw [beq_eq_false_iff_ne.2 this]
theorem tOks_cons (g:Int→Bool) (y:List Int→Bool) (op:Int) (n i:Nat) (k:GTerm) (ks:List GTerm):tOks g y op n i (k :: ks)=(tOk g y (n + addsI op i) k && tOks g y op n (i + 1) ks):=by rw [tOks]
theorem kids1 {l:List GTerm} (h:((l.length:Int) == 1)=true):∃ k,l=[k]:=by
 rw [beq_iff_eq] at h; match l,h with | [k],_=>exact ⟨k,rfl⟩ | [],h=>exact absurd h (by simp) | _ :: _ :: _,h=>exact absurd h (by simp only [List.length_cons]; omega)
theorem kids2 {l:List GTerm} (h:((l.length:Int) == 2)=true):∃ k m,l=[k,m]:=by
 rw [beq_iff_eq] at h; match l,h with | [k,m],_=>exact ⟨k,m,rfl⟩ | [],h=>exact absurd h (by simp) | [_],h=>exact absurd h (by simp) | _ :: _ :: _ :: _,h=>exact absurd h (by simp only [List.length_cons]; omega)
def trmB (s:GSystem) (t:GTerm) (n:Nat):Bool:=sysB s && decide (tsz t ≤ 400) && tOk (gN s.fSize true) (yN s.fSize true) n t
theorem sIsTerm (s:GSystem) (t:GTerm) (n:Nat) (hn:n ≤ 8) (ht:tms t ≤ 1099511627776):spec_IsTerm (s,t,(n:Int))=some (trmB s t n):=by
 unfold spec_IsTerm trmB
 simp only
 rw [sSys,bs]
 cases sysB s
 ·rfl
 ·rw [if_pos rfl,sIn,bs]
  have:inB (n:Int) 0 8=true:=by unfold inB; rw [decide_eq_true (by omega),decide_eq_true (by omega)]; rfl
  have hl:=sLeft t 400 ht (by decide)
  rw [show ((400:Nat):Int)=400 from rfl] at hl
  rw [this,if_pos rfl,hl,bs]
  by_cases h:tsz t ≤ 400
  ·rw [leftI_le h,decide_eq_true (by omega),decide_eq_true h,if_pos rfl,sTerm _ _ t n ht (by omega)]
   cases tOk (gN s.fSize true) (yN s.fSize true) n t <;> rfl
  ·rw [leftI_gt h,decide_eq_false h]; rfl
theorem tsz_1 (op N:Int) (ty:List Int) (a:GTerm):tsz ⟨op,N,ty,[a]⟩=1 + tsz a:=by simp [tsz,tszs]
theorem tsz_2 (op N:Int) (ty:List Int) (a b:GTerm):tsz ⟨op,N,ty,[a,b]⟩=1 + (tsz a + tsz b):=by simp [tsz,tszs]
theorem tsz_3 (op N:Int) (ty:List Int) (a b c:GTerm):tsz ⟨op,N,ty,[a,b,c]⟩=1 + (tsz a + (tsz b + tsz c)):=by simp [tsz,tszs]
theorem kids3 {l:List GTerm} (h:(l.length:Int)=3):∃ a b c,l=[a,b,c]:=by
 match l,h with | [a,b,c],_=>exact ⟨a,b,c,rfl⟩ | [],h=>exact absurd h (by simp) | [_],h=>exact absurd h (by simp) | [_,_],h=>exact absurd h (by simp) | _ :: _ :: _ :: _ :: _,h=>exact absurd h (by simp only [List.length_cons]; omega)
def lms (l:List (List Int)):Nat:=l.length + lct l
theorem lok_of {l:List (List Int)} (h:lms l ≤ 1099511627776):lok l:=by unfold lms at h; exact ⟨by omega,by omega⟩
def lln (l:List (List Int)):Prop:=l.length ≤ 9223372036854775807∧∀ v ∈ l,v.length ≤ 9223372036854775807
theorem szIntSS_l0:∀ (l a:List (List Int)) (i left:Nat),a.drop i=l→a.length ≤ 9223372036854775807→(∀ v ∈ l,v.length ≤ 9223372036854775807)→left ≤ 1048576→laws_szIntSS_l0 (a,(left:Int),(i:Int))=some (if left < lct l then .inr (-1) else .inl ((left - lct l:Nat):Int)):=by
 intro l
 induction l with
 | nil =>
  intro a i left hd ha hl h
  rw [laws_szIntSS_l0.eq_def,lct]
  simp only
  rw [lt_f (drop_nil_le hd)]; simp
 | cons x l ih =>
  intro a i left hd ha hl h
  obtain ⟨hi,hx,hd'⟩:=drop_cons_get hd
  rw [laws_szIntSS_l0.eq_def,lct]
  simp only
  rw [lt_t hi,if_pos rfl,hx,bs,szIntS_eq x left (by omega) (by omega) (hl x List.mem_cons_self),bs,wr_succ (by omega)]
  rcases szB_cases left x.length with ⟨e,q⟩ | ⟨e,q⟩
  ·rw [e,decide_eq_true (by decide),if_pos rfl,if_pos (by omega)]
  ·rw [e,decide_eq_false (by omega),if_neg (by decide),show (left:Int) - (x.length:Int)=((left - x.length:Nat):Int) by omega,ih a (i + 1) (left - x.length) hd' ha (fun v hv=>hl v (List.mem_cons_of_mem _ hv)) (by omega)]
   by_cases q2:left - x.length < lct l
   ·rw [if_pos q2,if_pos (by omega)]
   ·rw [if_neg q2,if_neg (by omega)]; congr 3; omega
theorem szIntSS_eq (a:List (List Int)) (left:Int) (ha:lln a) (h1:0 ≤ left) (h2:left ≤ 1048576):laws_szIntSS (a,left)=some (szB left (lms a)):=by
 have hl:=ha.1
 unfold laws_szIntSS lms
 simp only
 rw [wr_id (by omega) (by omega)]
 by_cases h3:left - (a.length:Int) < 0
 ·rw [decide_eq_true h3,if_pos rfl]; unfold szB; rw [if_pos (by omega)]
 ·obtain ⟨m,hm⟩:∃ m:Nat,left - (a.length:Int)=(m:Int):=⟨(left - (a.length:Int)).toNat,by omega⟩
  have h:=szIntSS_l0 a a 0 m rfl hl ha.2 (by omega)
  rw [show ((0:Nat):Int)=0 from rfl] at h
  rw [decide_eq_false h3,if_neg (by decide),hm,h,bs]
  unfold szB
  by_cases q:m < lct a
  ·rw [if_pos q,if_pos (by omega)]
  ·rw [if_neg q,if_neg (by omega)]; simp only; congr 1; omega
theorem toIntSS_l0:∀ (l a out:List (List Int)) (i:Nat),a.drop i=l→a.length ≤ 1099511627776→lct l ≤ 1099511627776→out.length=a.length→out.take i=a.take i→laws_toIntSS_l0 (a,out,(i:Int))=some a:=by
 intro l
 induction l with
 | nil =>
  intro a out i hd ha hl ho ht
  rw [laws_toIntSS_l0.eq_def]
  simp only
  have hle:=drop_nil_le hd
  rw [lt_f hle]
  rw [List.take_of_length_le (by omega),List.take_of_length_le (by omega)] at ht
  simp [ht]
 | cons x l ih =>
  intro a out i hd ha hl ho ht
  obtain ⟨hi,hx,hd'⟩:=drop_cons_get hd
  have hk:a[i]=x:=by rw [idx_get hi] at hx; exact Option.some.inj hx
  rw [lct] at hl
  rw [laws_toIntSS_l0.eq_def]
  simp only
  rw [lt_t hi,if_pos rfl,hx,bs,toIntS_id x (by omega),bs,idx_get (by omega),bs,wr_succ (by omega),Int.toNat_natCast]
  exact ih a _ (i + 1) hd' ha (by omega) (by simpa using ho) (by rw [← hk]; exact take_set_succ ho hi ht)
theorem toIntSS_id (a:List (List Int)) (h:lms a ≤ 1099511627776):laws_toIntSS a=some a:=by
 unfold lms at h
 unfold laws_toIntSS
 have:chk (0 ≤ (a.length:Int)∧(Int.toNat (a.length:Int)) * 24 ≤ 140737488355328)=some ():=by
  unfold chk; rw [if_pos]; refine ⟨by omega,?_⟩; rw [Int.toNat_natCast]; omega
 have h0:=toIntSS_l0 a a (List.replicate a.length []) 0 rfl (by omega) (by omega) (by simp) rfl
 rw [show ((0:Nat):Int)=0 from rfl] at h0
 rw [this,bs,Int.toNat_natCast,h0,bs]
def needI (l:List Nat):List Int:=l.map fun x:Nat=>(x:Int)
theorem needI_len (l:List Nat):(needI l).length=l.length:=List.length_map ..
theorem needI_drop (l:List Nat) (i:Nat):(needI l).drop i=needI (l.drop i):=(List.map_drop ..).symm
theorem needI_take (l:List Nat) (i:Nat):(needI l).take i=needI (l.take i):=(List.map_take ..).symm
theorem needI_at {l r:List Nat} {x i:Nat} (h:l.drop i=x :: r):i < l.length∧idx (needI l) (i:Int)=some (x:Int)∧l.drop (i + 1)=r:=by
 have h2:(needI l).drop i=(x:Int) :: needI r:=by rw [needI_drop,h]; rfl
 obtain ⟨q1,q2,q3⟩:=drop_cons_get h2
 rw [needI_len] at q1
 refine ⟨q1,q2,?_⟩
 rw [← List.drop_drop,h]
 rfl
structure SysL (s:GSystem) (n:Nat):Prop where
 tab:Tab s n
 one:∀ a,a < n→oneG s n a=true
 two:∀ a b,a < n→b < n→twoG s n a b=true
theorem sysL_of {s:GSystem} (h:sysB s=true):SysL s s.fSize.toNat:=by
 have ht:=sysB_tab h
 unfold sysB at h
 simp only [Bool.and_eq_true] at h
 have hm:=h.2
 unfold sysM at hm
 rw [List.all_eq_true] at hm
 refine ⟨ht,fun a ha=>?_,fun a b ha hb=>?_⟩
 ·have:=hm a (by rw [List.mem_range'_1]; omega)
  simp only [Bool.and_eq_true] at this
  exact this.1
 ·have:=hm a (by rw [List.mem_range'_1]; omega)
  simp only [Bool.and_eq_true,List.all_eq_true] at this
  exact (this.2 b (by rw [List.mem_range'_1]; omega)).1
section
variable {s:GSystem} {n:Nat} (hs:SysL s n)
include hs
theorem one_lt_n:1 < n:=by have:=hs.tab.lo; omega
theorem zero_lt_n:0 < n:=by have:=hs.tab.lo; omega
theorem pl_zero {a:Nat} (ha:a < n):pl s n 0 a=a:=by
 have:=hs.one a ha
 simp only [oneG,Bool.and_eq_true,beq_iff_eq] at this
 exact this.1.1.1.1.1
theorem ti_one {a:Nat} (ha:a < n):ti s n 1 a=a:=by
 have:=hs.one a ha
 simp only [oneG,Bool.and_eq_true,beq_iff_eq] at this
 exact this.1.1.1.1.2
def joinN (s:GSystem) (n a b:Nat):Nat:=(joinI s n a b).toNat
theorem joinN_of {a b:Nat} (ha:a < n) (hb:b < n):joinI s n a b=((joinN s n a b:Nat):Int)∧joinN s n a b < n:=by
 have h:=hs.two a b ha hb
 simp only [twoG,Bool.and_eq_true,decide_eq_true_eq] at h
 have h0:=h.2
 unfold joinN
 refine ⟨by omega,?_⟩
 unfold joinI at h0 ⊢
 cases hf:(List.range' 0 n).find? (jok s n a b) with
 | none=>rw [hf] at h0; exact absurd h0 (by decide)
 | some g =>
  have:=List.mem_of_find?_eq_some hf
  rw [List.mem_range'_1] at this
  simp only [Int.toNat_natCast]
  omega
end
def sumN (s:GSystem) (n:Nat) (a b:List Nat):List Nat:=List.zipWith (pl s n) a b
def sclN (s:GSystem) (n g:Nat) (a:List Nat):List Nat:=a.map (ti s n g)
def jonN (s:GSystem) (n:Nat) (a b:List Nat):List Nat:=List.zipWith (joinN s n) a b
def below (n:Nat) (l:List Nat):Prop:=∀ x ∈ l,x < n
theorem below_cons {n x:Nat} {l:List Nat} (h:below n (x :: l)):x < n∧below n l:=⟨h x List.mem_cons_self,fun y hy=>h y (List.mem_cons_of_mem _ hy)⟩
theorem below_drop {n:Nat} {l:List Nat} (h:below n l) (i:Nat):below n (l.drop i):=fun x hx=>h x (List.mem_of_mem_drop hx)
section
variable {s:GSystem} {n:Nat} (hs:SysL s n)
include hs
theorem below_sum:∀ {a b:List Nat},below n a→below n b→below n (sumN s n a b)
 | [],_,_,_=>fun x hx=>by cases hx
 | _ :: _,[],_,_=>fun x hx=>by cases hx
 | x :: a,y :: b,ha,hb=>fun z hz=>by
  obtain ⟨h1,h2⟩:=below_cons ha
  obtain ⟨h3,h4⟩:=below_cons hb
  rcases List.mem_cons.1 hz with rfl | hz
  ·exact pl_lt hs.tab h1 h3
  ·exact below_sum h2 h4 z hz
theorem below_scl {g:Nat} (hg:g < n) {a:List Nat} (ha:below n a):below n (sclN s n g a):=fun x hx=>by
 obtain ⟨y,hy,rfl⟩:=List.mem_map.1 hx
 exact ti_lt hs.tab hg (ha y hy)
theorem below_jon:∀ {a b:List Nat},below n a→below n b→below n (jonN s n a b)
 | [],_,_,_=>fun x hx=>by cases hx
 | _ :: _,[],_,_=>fun x hx=>by cases hx
 | x :: a,y :: b,ha,hb=>fun z hz=>by
  obtain ⟨h1,h2⟩:=below_cons ha
  obtain ⟨h3,h4⟩:=below_cons hb
  rcases List.mem_cons.1 hz with rfl | hz
  ·exact (joinN_of hs h1 h3).2
  ·exact below_jon h2 h4 z hz
theorem scl_one {a:List Nat} (ha:below n a):sclN s n 1 a=a:=by
 induction a with
 | nil=>rfl
 | cons x a ih =>
  obtain ⟨h1,h2⟩:=below_cons ha
  show ti s n 1 x :: sclN s n 1 a=_
  rw [ti_one hs h1,ih h2]
theorem sum_zero {a:List Nat} (ha:below n a):sumN s n (List.replicate a.length 0) a=a:=by
 induction a with
 | nil=>rfl
 | cons x a ih =>
  obtain ⟨h1,h2⟩:=below_cons ha
  show pl s n 0 x :: sumN s n (List.replicate a.length 0) a=_
  rw [pl_zero hs h1,ih h2]
theorem sSumL_l0 (g:Nat) (hg:g < n) (a b:List Nat) (ha:below n a) (hb:below n b) (hl:a.length ≤ 1099511627776):∀ (al bl:List Nat) (i:Nat) (out:List Int),a.drop i=al→b.drop i=bl→al.length=bl.length→out.length + al.length ≤ 1099511627776 →
  spec_l3Sum_l0 (s,needI a,(g:Int),needI b,out,(i:Int))=some (out ++ needI (sumN s n al (sclN s n g bl))):=by
 intro al
 induction al with
 | nil =>
  intro bl i out hd _ _ _
  rw [spec_l3Sum_l0.eq_def]
  simp only
  rw [needI_len,lt_f (drop_nil_le hd)]
  simp [sumN,needI]
 | cons x al ih =>
  intro bl i out hd hd2 hll ho
  cases bl with
  | nil=>simp at hll
  | cons y bl =>
   obtain ⟨h1,h2,h3⟩:=needI_at hd
   obtain ⟨k1,k2,k3⟩:=needI_at hd2
   have hx:x < n:=below_drop ha i x (by rw [hd]; exact List.mem_cons_self)
   have hy:y < n:=below_drop hb i y (by rw [hd2]; exact List.mem_cons_self)
   rw [spec_l3Sum_l0.eq_def]
   simp only
   simp only [List.length_cons] at ho hll
   rw [needI_len,lt_t h1,if_pos rfl,h2,bs,k2,bs,sMul hs.tab hg hy,bs,sAdd hs.tab hx (ti_lt hs.tab hg hy),bs,fits_ok (by simp; omega),bs,wr_succ (by omega),ih bl (i + 1) _ h3 k3 (by omega) (by simp; omega)]
   rw [List.append_assoc]
   rfl
theorem sSumL (g:Nat) (hg:g < n) (a b:List Nat) (ha:below n a) (hb:below n b) (hl:a.length ≤ 1048576) (hab:a.length=b.length):spec_l3Sum (s,needI a,(g:Int),needI b)=some (needI (sumN s n a (sclN s n g b))):=by
 unfold spec_l3Sum
 simp only
 rw [show (0:Int)=((0:Nat):Int) from rfl,sSumL_l0 hs g hg a b ha hb (by omega) a b 0 [] rfl rfl hab (by simp; omega)]
 rfl
theorem sSum1 (a b:List Nat) (ha:below n a) (hb:below n b) (hl:a.length ≤ 1048576) (hab:a.length=b.length):spec_l3Sum (s,needI a,1,needI b)=some (needI (sumN s n a b)):=by
 have:=sSumL hs 1 (one_lt_n hs) a b ha hb hl hab
 rw [scl_one hs hb] at this
 exact this
theorem sJoinL_l0 (a b:List Nat) (ha:below n a) (hb:below n b) (hl:a.length ≤ 1099511627776):∀ (al bl:List Nat) (i:Nat) (out:List Int),a.drop i=al→b.drop i=bl→al.length=bl.length→out.length + al.length ≤ 1099511627776 →
  spec_l3Join_l0 (s,needI a,needI b,out,(i:Int))=some (out ++ needI (jonN s n al bl)):=by
 intro al
 induction al with
 | nil =>
  intro bl i out hd _ _ _
  rw [spec_l3Join_l0.eq_def]
  simp only
  rw [needI_len,lt_f (drop_nil_le hd)]
  simp [jonN,needI]
 | cons x al ih =>
  intro bl i out hd hd2 hll ho
  cases bl with
  | nil=>simp at hll
  | cons y bl =>
   obtain ⟨h1,h2,h3⟩:=needI_at hd
   obtain ⟨k1,k2,k3⟩:=needI_at hd2
   have hx:x < n:=below_drop ha i x (by rw [hd]; exact List.mem_cons_self)
   have hy:y < n:=below_drop hb i y (by rw [hd2]; exact List.mem_cons_self)
   rw [spec_l3Join_l0.eq_def]
   simp only
   simp only [List.length_cons] at ho hll
   rw [needI_len,lt_t h1,if_pos rfl,h2,bs,k2,bs,sJoin hs.tab hx hy,bs,(joinN_of hs hx hy).1,fits_ok (by simp; omega),bs,wr_succ (by omega),ih bl (i + 1) _ h3 k3 (by omega) (by simp; omega)]
   rw [List.append_assoc]
   rfl
theorem sJoinL (a b:List Nat) (ha:below n a) (hb:below n b) (hl:a.length ≤ 1048576) (hab:a.length=b.length):spec_l3Join (s,needI a,needI b)=some (needI (jonN s n a b)):=by
 unfold spec_l3Join
 simp only
 rw [show (0:Int)=((0:Nat):Int) from rfl,sJoinL_l0 hs a b ha hb (by omega) a b 0 [] rfl rfl hab (by simp; omega)]
 rfl
end
theorem set_take_app {α:Type} {out:List α} {i:Nat} (h:i < out.length) (x:α):(out.set i x).take (i + 1)=out.take i ++ [x]:=by
 rw [List.take_set,List.take_succ_eq_append_getElem h,List.set_append_right _ _ (by simp; omega)]
 simp [Nat.min_eq_left (Nat.le_of_lt h)]
section
variable {s:GSystem} {n:Nat} (hs:SysL s n)
include hs
theorem iSumL_l0 (a b:List Nat) (ha:below n a) (hb:below n b) (hl:a.length ≤ 1099511627776):∀ (al bl:List Nat) (i:Nat) (out:List Int),a.drop i=al→b.drop i=bl→al.length=bl.length→out.length=a.length →
  impl_typerboth_Kimpl_Systemplus_l0 (s,needI a,needI b,out,(i:Int))=some (out.take i ++ needI (sumN s n al bl)):=by
 intro al
 induction al with
 | nil =>
  intro bl i out hd _ _ ho
  rw [impl_typerboth_Kimpl_Systemplus_l0.eq_def]
  simp only
  have:=drop_nil_le hd
  rw [needI_len,lt_f this]
  simp [sumN,needI,List.take_of_length_le (show out.length ≤ i by omega)]
 | cons x al ih =>
  intro bl i out hd hd2 hll ho
  cases bl with
  | nil=>simp at hll
  | cons y bl =>
   obtain ⟨h1,h2,h3⟩:=needI_at hd
   obtain ⟨k1,k2,k3⟩:=needI_at hd2
   have hx:x < n:=below_drop ha i x (by rw [hd]; exact List.mem_cons_self)
   have hy:y < n:=below_drop hb i y (by rw [hd2]; exact List.mem_cons_self)
   rw [impl_typerboth_Kimpl_Systemplus_l0.eq_def]
   simp only
   simp only [List.length_cons] at hll
   have hio:i < out.length:=by omega
   rw [needI_len,lt_t h1,if_pos rfl,h2,bs,k2,bs,iAdd hs.tab hx hy,bs,idx_get hio,bs,wr_succ (by omega),Int.toNat_natCast,ih bl (i + 1) _ h3 k3 (by omega) (by rw [List.length_set]; exact ho)]
   rw [set_take_app hio,List.append_assoc]
   rfl
theorem iSumL (a b:List Nat) (ha:below n a) (hb:below n b) (hl:a.length ≤ 1048576) (hab:a.length=b.length):impl_typersum (⟨s⟩,needI a,needI b)=some (needI (sumN s n a b)):=by
 unfold impl_typersum impl_typerboth_Kimpl_Systemplus
 simp only
 rw [needI_len,chk_t (by simp; omega),bs,Int.toNat_natCast,show (0:Int)=((0:Nat):Int) from rfl]
 rw [show (List.replicate a.length (((0:Nat):Int)))=List.replicate a.length (0:Int) from rfl,iSumL_l0 hs a b ha hb (by omega) a b 0 _ rfl rfl hab (by simp)]
 rfl
theorem iJoinL_l0 (a b:List Nat) (ha:below n a) (hb:below n b) (hl:a.length ≤ 1099511627776):∀ (al bl:List Nat) (i:Nat) (out:List Int),a.drop i=al→b.drop i=bl→al.length=bl.length→out.length=a.length →
  impl_typerboth_Kimpl_Systemjoin_l0 (s,needI a,needI b,out,(i:Int))=some (out.take i ++ needI (jonN s n al bl)):=by
 intro al
 induction al with
 | nil =>
  intro bl i out hd _ _ ho
  rw [impl_typerboth_Kimpl_Systemjoin_l0.eq_def]
  simp only
  have:=drop_nil_le hd
  rw [needI_len,lt_f this]
  simp [jonN,needI,List.take_of_length_le (show out.length ≤ i by omega)]
 | cons x al ih =>
  intro bl i out hd hd2 hll ho
  cases bl with
  | nil=>simp at hll
  | cons y bl =>
   obtain ⟨h1,h2,h3⟩:=needI_at hd
   obtain ⟨k1,k2,k3⟩:=needI_at hd2
   have hx:x < n:=below_drop ha i x (by rw [hd]; exact List.mem_cons_self)
   have hy:y < n:=below_drop hb i y (by rw [hd2]; exact List.mem_cons_self)
   rw [impl_typerboth_Kimpl_Systemjoin_l0.eq_def]
   simp only
   simp only [List.length_cons] at hll
   have hio:i < out.length:=by omega
   rw [needI_len,lt_t h1,if_pos rfl,h2,bs,k2,bs,iJoin hs.tab hx hy,bs,(joinN_of hs hx hy).1,idx_get hio,bs,wr_succ (by omega),Int.toNat_natCast,ih bl (i + 1) _ h3 k3 (by omega) (by rw [List.length_set]; exact ho)]
   rw [set_take_app hio,List.append_assoc]
   rfl
theorem iJoinL (a b:List Nat) (ha:below n a) (hb:below n b) (hl:a.length ≤ 1048576) (hab:a.length=b.length):impl_typerjoin (⟨s⟩,needI a,needI b)=some (needI (jonN s n a b)):=by
 unfold impl_typerjoin impl_typerboth_Kimpl_Systemjoin
 simp only
 rw [needI_len,chk_t (by simp; omega),bs,Int.toNat_natCast,show (0:Int)=((0:Nat):Int) from rfl]
 rw [show (List.replicate a.length (((0:Nat):Int)))=List.replicate a.length (0:Int) from rfl,iJoinL_l0 hs a b ha hb (by omega) a b 0 _ rfl rfl hab (by simp)]
 rfl
theorem iSclL_l0 (g:Nat) (hg:g < n) (a:List Nat) (ha:below n a) (hl:a.length ≤ 1099511627776):∀ (al:List Nat) (i:Nat) (out:List Int),a.drop i=al→out.length=a.length →
  impl_typerscaled_l0 (⟨s⟩,(g:Int),needI a,out,(i:Int))=some (out.take i ++ needI (sclN s n g al)):=by
 intro al
 induction al with
 | nil =>
  intro i out hd ho
  rw [impl_typerscaled_l0.eq_def]
  simp only
  have:=drop_nil_le hd
  rw [needI_len,lt_f this]
  simp [sclN,needI,List.take_of_length_le (show out.length ≤ i by omega)]
 | cons x al ih =>
  intro i out hd ho
  obtain ⟨h1,h2,h3⟩:=needI_at hd
  have hx:x < n:=below_drop ha i x (by rw [hd]; exact List.mem_cons_self)
  rw [impl_typerscaled_l0.eq_def]
  simp only
  have hio:i < out.length:=by omega
  rw [needI_len,lt_t h1,if_pos rfl,h2,bs,iMul hs.tab hg hx,bs,idx_get hio,bs,wr_succ (by omega),Int.toNat_natCast,ih (i + 1) _ h3 (by rw [List.length_set]; exact ho)]
  rw [set_take_app hio,List.append_assoc]
  rfl
theorem iSclL (g:Nat) (hg:g < n) (a:List Nat) (ha:below n a) (hl:a.length ≤ 1048576):impl_typerscaled (⟨s⟩,(g:Int),needI a)=some (needI (sclN s n g a)):=by
 unfold impl_typerscaled
 simp only
 rw [needI_len,chk_t (by simp; omega),bs,Int.toNat_natCast,show (0:Int)=((0:Nat):Int) from rfl]
 rw [show (List.replicate a.length (((0:Nat):Int)))=List.replicate a.length (0:Int) from rfl,iSclL_l0 hs g hg a ha (by omega) a 0 _ rfl (by simp)]
 rfl
theorem iUsed_l0 (g:Nat) (hg:g < n) (a:List Nat) (ha:below n a) (hl:a.length ≤ 1099511627776):∀ (al:List Nat) (i:Nat),a.drop i=al →
  ∃ r,slices_IndexFunc_int_Kimpl_typerusedOk_c1_l0 (needI a,⟨s⟩,(g:Int),(i:Int))=some r∧(match r with | .inl _=>(al.all fun x=>le s n x g)=true | .inr j=>(al.all fun x=>le s n x g)=false∧0 ≤ j):=by
 intro al
 induction al with
 | nil =>
  intro i hd
  rw [slices_IndexFunc_int_Kimpl_typerusedOk_c1_l0.eq_def]
  simp only
  rw [needI_len,lt_f (drop_nil_le hd)]
  exact ⟨_,rfl,rfl⟩
 | cons x al ih =>
  intro i hd
  obtain ⟨h1,h2,h3⟩:=needI_at hd
  have hx:x < n:=below_drop ha i x (by rw [hd]; exact List.mem_cons_self)
  rw [slices_IndexFunc_int_Kimpl_typerusedOk_c1_l0.eq_def]
  simp only
  rw [needI_len,lt_t h1,if_pos rfl,h2,bs]
  unfold impl_typerusedOk_c1
  simp only
  rw [iLe hs.tab hx hg]
  simp only [bs]
  cases hle:le s n x g with
  | true =>
   obtain ⟨r,hr,hm⟩:=ih (i + 1) h3
   refine ⟨r,?_,?_⟩
   ·rw [if_neg (by simp),wr_succ (by omega)]; exact hr
   ·rw [List.all_cons,hle,Bool.true_and]; exact hm
  | false =>
   exact ⟨_,if_pos rfl,by simp [List.all_cons,hle]⟩
theorem iUsed (g:Nat) (hg:g < n) (a:List Nat) (ha:below n a) (hl:a.length ≤ 1048576):impl_typerusedOk (⟨s⟩,needI a,(g:Int))=some (a.all fun x=>le s n x g):=by
 obtain ⟨r,hr,hm⟩:=iUsed_l0 hs g hg a ha (by omega) a 0 rfl
 unfold impl_typerusedOk slices_ContainsFunc_int_Kimpl_typerusedOk_c1 slices_IndexFunc_int_Kimpl_typerusedOk_c1
 simp only
 rw [show (0:Int)=((0:Nat):Int) from rfl,hr]
 cases r with
 | inl _=>simp only [bs] at hm ⊢; rw [hm]; rfl
 | inr j =>
  simp only [bs] at hm ⊢
  rw [hm.1,decide_eq_true (by omega)]; rfl
end
theorem sZeroL (k:Nat) (h:k ≤ 1048576):spec_l3Zero (k:Int)=some (needI (List.replicate k 0)):=by
 unfold spec_l3Zero
 rw [Int.toNat_natCast,chk_t (by constructor <;> omega),bs]
 unfold needI
 rw [List.map_replicate]
 rfl
theorem sWithL (ctx front:List (List Int)) (h:ctx.length + front.length ≤ 1048576):spec_l3With (ctx,front)=some (front ++ ctx):=by
 unfold spec_l3With
 simp only
 rw [fits_ok (by simp; omega),bs,fits_ok (by omega),bs]
theorem sGlue_l0 (ps:List (List Int)) (hp:ps.length ≤ 1099511627776):∀ (l:List (List Int)) (i:Nat) (out:List Int),ps.drop i=l→out.length + l.flatten.length ≤ 1099511627776→spec_l3Glue_l0 (ps,out,(i:Int))=some (out ++ l.flatten):=by
 intro l
 induction l with
 | nil =>
  intro i out hd _
  rw [spec_l3Glue_l0.eq_def]
  simp only
  rw [lt_f (drop_nil_le hd)]
  simp
 | cons x l ih =>
  intro i out hd ho
  obtain ⟨h1,h2,h3⟩:=drop_cons_get hd
  rw [List.flatten_cons,List.length_append] at ho
  rw [spec_l3Glue_l0.eq_def]
  simp only
  rw [lt_t h1,if_pos rfl,h2,bs,fits_ok (by omega),bs,wr_succ (by omega),ih (i + 1) _ h3 (by rw [List.length_append]; omega),List.flatten_cons,List.append_assoc]
theorem sGlue (c:Int) (ps:List (List Int)) (hp:ps.length ≤ 1048576) (h:ps.flatten.length ≤ 1048576):spec_l3Glue (c,ps)=some (c :: ps.flatten):=by
 unfold spec_l3Glue
 simp only
 rw [show (0:Int)=((0:Nat):Int) from rfl,sGlue_l0 ps (by omega) ps 0 [c] rfl (by rw [List.length_singleton]; omega)]
 rfl
theorem iConc_int_l0 (ps:List (List (Int))) (hp:ps.length ≤ 1099511627776):∀ (l:List (List (Int))) (i sz:Nat),ps.drop i=l→sz + l.flatten.length ≤ 1099511627776→slices_Concat_int_l0 (ps,(sz:Int),(i:Int))=some (((sz + l.flatten.length:Nat)):Int):=by
 intro l
 induction l with
 | nil =>
  intro i sz hd _
  rw [slices_Concat_int_l0.eq_def]
  simp only
  rw [lt_f (drop_nil_le hd)]
  simp
 | cons x l ih =>
  intro i sz hd ho
  obtain ⟨h1,h2,h3⟩:=drop_cons_get hd
  rw [List.flatten_cons,List.length_append] at ho
  have e:wr ((sz:Int) + (x.length:Int))=((sz + x.length:Nat):Int):=wr_add (by omega) (by omega)
  rw [slices_Concat_int_l0.eq_def]
  simp only
  rw [lt_t h1,if_pos rfl,h2,bs,e,decide_eq_false (by omega),if_neg (by decide),bs,wr_succ (by omega),ih (i + 1) _ h3 (by omega),List.flatten_cons,List.length_append,Nat.add_assoc]
theorem iConc_int_l1 (ps:List (List (Int))) (hp:ps.length ≤ 1099511627776):∀ (l:List (List (Int))) (i:Nat) (out:List (Int)),ps.drop i=l→out.length + l.flatten.length ≤ 1099511627776→slices_Concat_int_l1 (ps,out,(i:Int))=some (out ++ l.flatten):=by
 intro l
 induction l with
 | nil =>
  intro i out hd _
  rw [slices_Concat_int_l1.eq_def]
  simp only
  rw [lt_f (drop_nil_le hd)]
  simp
 | cons x l ih =>
  intro i out hd ho
  obtain ⟨h1,h2,h3⟩:=drop_cons_get hd
  rw [List.flatten_cons,List.length_append] at ho
  rw [slices_Concat_int_l1.eq_def]
  simp only
  rw [lt_t h1,if_pos rfl,h2,bs,fits_ok (by omega),bs,wr_succ (by omega),ih (i + 1) _ h3 (by rw [List.length_append]; omega),List.flatten_cons,List.append_assoc]
theorem iGrow_int (k:Nat) (h:k ≤ 1048576):slices_Grow_int (k:Int)=some ():=by
 unfold slices_Grow_int
 have e:wr ((k:Int) - wr (0 - 0))=(k:Int):=by rw [wr_id (x:=0 - 0) (by decide) (by decide),wr_id (by omega) (by omega)]; omega
 rw [decide_eq_false (by omega),if_neg (by decide),e]
 by_cases hk:k=0
 ·subst hk; rfl
 ·rw [decide_eq_true (by omega),if_pos rfl,Int.toNat_natCast,chk_t (by constructor <;> omega),bs]
theorem iConc_int (ps:List (List (Int))) (hp:ps.length ≤ 1048576) (h:ps.flatten.length ≤ 1048576):slices_Concat_int ps=some ps.flatten:=by
 unfold slices_Concat_int
 have h0:=iConc_int_l0 ps (by omega) ps 0 0 rfl (by omega)
 rw [Nat.zero_add] at h0
 rw [show (0:Int)=((0:Nat):Int) from rfl,h0,bs,iGrow_int _ h,bs,iConc_int_l1 ps (by omega) ps 0 [] rfl (by rw [List.length_nil]; omega)]
 rfl
theorem iConc_Lint_l0 (ps:List (List (List Int))) (hp:ps.length ≤ 1099511627776):∀ (l:List (List (List Int))) (i sz:Nat),ps.drop i=l→sz + l.flatten.length ≤ 1099511627776→slices_Concat_Lint_l0 (ps,(sz:Int),(i:Int))=some (((sz + l.flatten.length:Nat)):Int):=by
 intro l
 induction l with
 | nil =>
  intro i sz hd _
  rw [slices_Concat_Lint_l0.eq_def]
  simp only
  rw [lt_f (drop_nil_le hd)]
  simp
 | cons x l ih =>
  intro i sz hd ho
  obtain ⟨h1,h2,h3⟩:=drop_cons_get hd
  rw [List.flatten_cons,List.length_append] at ho
  have e:wr ((sz:Int) + (x.length:Int))=((sz + x.length:Nat):Int):=wr_add (by omega) (by omega)
  rw [slices_Concat_Lint_l0.eq_def]
  simp only
  rw [lt_t h1,if_pos rfl,h2,bs,e,decide_eq_false (by omega),if_neg (by decide),bs,wr_succ (by omega),ih (i + 1) _ h3 (by omega),List.flatten_cons,List.length_append,Nat.add_assoc]
theorem iConc_Lint_l1 (ps:List (List (List Int))) (hp:ps.length ≤ 1099511627776):∀ (l:List (List (List Int))) (i:Nat) (out:List (List Int)),ps.drop i=l→out.length + l.flatten.length ≤ 1099511627776→slices_Concat_Lint_l1 (ps,out,(i:Int))=some (out ++ l.flatten):=by
 intro l
 induction l with
 | nil =>
  intro i out hd _
  rw [slices_Concat_Lint_l1.eq_def]
  simp only
  rw [lt_f (drop_nil_le hd)]
  simp
 | cons x l ih =>
  intro i out hd ho
  obtain ⟨h1,h2,h3⟩:=drop_cons_get hd
  rw [List.flatten_cons,List.length_append] at ho
  rw [slices_Concat_Lint_l1.eq_def]
  simp only
  rw [lt_t h1,if_pos rfl,h2,bs,fits_ok (by omega),bs,wr_succ (by omega),ih (i + 1) _ h3 (by rw [List.length_append]; omega),List.flatten_cons,List.append_assoc]
theorem iGrow_Lint (k:Nat) (h:k ≤ 1048576):slices_Grow_Lint (k:Int)=some ():=by
 unfold slices_Grow_Lint
 have e:wr ((k:Int) - wr (0 - 0))=(k:Int):=by rw [wr_id (x:=0 - 0) (by decide) (by decide),wr_id (by omega) (by omega)]; omega
 rw [decide_eq_false (by omega),if_neg (by decide),e]
 by_cases hk:k=0
 ·subst hk; rfl
 ·rw [decide_eq_true (by omega),if_pos rfl,Int.toNat_natCast,chk_t (by constructor <;> omega),bs]
theorem iConc_Lint (ps:List (List (List Int))) (hp:ps.length ≤ 1048576) (h:ps.flatten.length ≤ 1048576):slices_Concat_Lint ps=some ps.flatten:=by
 unfold slices_Concat_Lint
 have h0:=iConc_Lint_l0 ps (by omega) ps 0 0 rfl (by omega)
 rw [Nat.zero_add] at h0
 rw [show (0:Int)=((0:Nat):Int) from rfl,h0,bs,iGrow_Lint _ h,bs,iConc_Lint_l1 ps (by omega) ps 0 [] rfl (by rw [List.length_nil]; omega)]
 rfl
def ctxG (s:GSystem) (ctx:List (List Int)):Bool:=decide (ctx.length ≤ 8) && ctx.all (yN s.fSize true)
theorem sYn {s:GSystem} {ty:List Int} (h:ty.length ≤ 1099511627776):(spec_l2Type ty >>= fun r=>if r=true then spec_l2Graded (ty,s.fSize,true) >>= fun q=>some (!q) else some true)=some (!yN s.fSize true ty):=by
 rw [sType ty h,bs]
 unfold yN
 cases wtB ty with
 | false=>rfl
 | true=>rw [if_pos rfl,sGraded ty h,bs]; rfl
theorem sCtx_l0 (s:GSystem) (ctx:List (List Int)) (hc:ctx.length ≤ 1048576) (hl:∀ ty ∈ ctx,ty.length ≤ 1099511627776):∀ (l:List (List Int)) (i:Nat),ctx.drop i=l→spec_l3Context_l0 (s,ctx,(i:Int))=some (if l.all (yN s.fSize true) then .inl () else .inr false):=by
 intro l
 induction l with
 | nil =>
  intro i hd
  rw [spec_l3Context_l0.eq_def]
  simp only
  rw [lt_f (drop_nil_le hd)]; rfl
 | cons x l ih =>
  intro i hd
  obtain ⟨h1,h2,h3⟩:=drop_cons_get hd
  have hx:x ∈ ctx:=List.mem_of_mem_drop (i:=i) (by rw [hd]; exact List.mem_cons_self)
  rw [spec_l3Context_l0.eq_def]
  simp only
  rw [lt_t h1,if_pos rfl]
  simp only [h2,bs]
  rw [sYn (hl x hx),bs,wr_succ (by omega),ih (i + 1) h3,List.all_cons]
  cases yN s.fSize true x <;> cases l.all (yN s.fSize true) <;> rfl
theorem sCtx (s:GSystem) (ctx:List (List Int)) (hc:ctx.length ≤ 1048576) (hl:∀ ty ∈ ctx,ty.length ≤ 1099511627776):spec_l3Context (s,ctx)=some (ctxG s ctx):=by
 unfold spec_l3Context ctxG
 simp only
 by_cases h:ctx.length ≤ 8
 ·rw [decide_eq_false (by omega),decide_eq_true h,if_neg (by decide),show (0:Int)=((0:Nat):Int) from rfl,sCtx_l0 s ctx hc hl ctx 0 rfl,bs]
  cases ctx.all (yN s.fSize true) <;> rfl
 ·rw [decide_eq_true (by omega),decide_eq_false h,if_pos rfl]; rfl
theorem iCtx_l0 (s:GSystem) (ctx:List (List Int)) (hc:ctx.length ≤ 1048576) (hl:∀ ty ∈ ctx,ty.length ≤ 1099511627776):∀ (l:List (List Int)) (i:Nat),ctx.drop i=l→∃ r,slices_IndexFunc_Lint_Kimpl_isContext_c1_l0 (ctx,s,(i:Int))=some r∧(match r with | .inl _=>l.all (typB s)=true | .inr j=>l.all (typB s)=false∧0 ≤ j):=by
 intro l
 induction l with
 | nil =>
  intro i hd
  rw [slices_IndexFunc_Lint_Kimpl_isContext_c1_l0.eq_def]
  simp only
  rw [lt_f (drop_nil_le hd)]
  exact ⟨_,rfl,rfl⟩
 | cons x l ih =>
  intro i hd
  obtain ⟨h1,h2,h3⟩:=drop_cons_get hd
  have hx:x ∈ ctx:=List.mem_of_mem_drop (i:=i) (by rw [hd]; exact List.mem_cons_self)
  rw [slices_IndexFunc_Lint_Kimpl_isContext_c1_l0.eq_def]
  simp only
  rw [lt_t h1,if_pos rfl,h2,bs]
  unfold impl_isContext_c1
  simp only
  rw [iTypeOf s x (hl x hx)]
  simp only [bs]
  cases hle:typB s x with
  | true =>
   obtain ⟨r,hr,hm⟩:=ih (i + 1) h3
   refine ⟨r,?_,?_⟩
   ·rw [if_neg (by simp),wr_succ (by omega)]; exact hr
   ·rw [List.all_cons,hle,Bool.true_and]; exact hm
  | false=>exact ⟨_,if_pos rfl,by simp [List.all_cons,hle]⟩
theorem iCtx (s:GSystem) (hs:sysB s=true) (ctx:List (List Int)) (hc:ctx.length ≤ 1048576) (hl:∀ ty ∈ ctx,ty.length ≤ 1099511627776):impl_isContext (s,ctx)=some (ctxG s ctx):=by
 have e:ctx.all (typB s)=ctx.all (yN s.fSize true):=by
  congr 1
  funext ty
  exact typB_tab (sysB_tab hs) ty
 unfold impl_isContext ctxG
 simp only
 by_cases h:ctx.length ≤ 8
 ·rw [decide_eq_true (by omega:(ctx.length:Int) ≤ 8),decide_eq_true h,if_pos rfl]
  obtain ⟨r,hr,hm⟩:=iCtx_l0 s ctx hc hl ctx 0 rfl
  unfold slices_ContainsFunc_Lint_Kimpl_isContext_c1 slices_IndexFunc_Lint_Kimpl_isContext_c1
  simp only
  rw [show (0:Int)=((0:Nat):Int) from rfl,hr]
  rw [e] at hm
  cases r with
  | inl _=>simp only [bs] at hm ⊢; rw [hm]; rfl
  | inr j =>
   simp only [bs] at hm ⊢
   rw [hm.1,decide_eq_true (by omega)]; rfl
 ·rw [decide_eq_false (by omega),decide_eq_false h,if_neg (by decide)]; rfl
theorem iTc1 {s:GSystem} (ty:List Int) (h:ty.length ≤ 1099511627776):impl_isTermOf_c1 (ty,s)=some (typB s ty):=by
 unfold impl_isTermOf_c1
 simp only
 rw [iTypeOf s ty h,bs]
mutual
theorem iCheckT (s:GSystem):∀ (t:GTerm) (n nodes:Nat),tms t ≤ 1099511627776→n + 2 * tms t ≤ 35184372088832→nodes ≤ 400→impl_check_Kimpl_Systemhas_Kimpl_isTermOf_c1 (t,(n:Int),s,s,(nodes:Int))=some (chkI (tOk (hasB s) (typB s) n t) nodes (tsz t))
 | ⟨op,N,ty,ks⟩,n,nodes,ht,hn,hd=>by
  rw [tms] at ht hn
  rw [impl_check_Kimpl_Systemhas_Kimpl_isTermOf_c1.eq_def,tOk,tsz]
  simp only
  rw [iForm,bs]
  unfold formG
  cases hop:inB op 0 12
  ·simp [nodeOk,hop,chkI]
  ·simp only [if_true]
   rw [wr_succ (by omega)]
   by_cases h4:nodes + 1 ≤ 400
   ·rw [decide_eq_false (by omega:¬ ((nodes + 1:Nat):Int) > 400)]
    by_cases hk:(ks.length:Int)=manyI op
    ·rw [show ((ks.length:Int) != manyI op)=false by rw [hk]; exact bne_self]
     simp only [Bool.false_eq_true,if_false,bs]
     refine (bind_of (x:=nOkN (hasB s) (n:Int) ⟨op,N,ty,ks⟩) ?_).trans ?_
     ·unfold nOkN
      simp only [iIn,wr_id (x:=(n:Int) - 1) (by omega) (by omega),iHas,bs]
      cases op == 0 <;> cases op == 1 <;> cases hasG op <;> rfl
     refine (bind_of (x:=nOkN (hasB s) (n:Int) ⟨op,N,ty,ks⟩ && nOkY (typB s) ⟨op,N,ty,ks⟩) ?_).trans ?_
     ·unfold nOkY
      simp only [iTc1 ty (by omega),bs]
      cases typedG op <;> cases nOkN (hasB s) (n:Int) ⟨op,N,ty,ks⟩ <;> rfl
     have e:nodeOk (hasB s) (typB s) (n:Int) ⟨op,N,ty,ks⟩=(nOkN (hasB s) (n:Int) ⟨op,N,ty,ks⟩ && nOkY (typB s) ⟨op,N,ty,ks⟩):=by
      unfold nodeOk
      simp only
      rw [hop,hk]; simp
     rw [e]
     cases nOkN (hasB s) (n:Int) ⟨op,N,ty,ks⟩ && nOkY (typB s) ⟨op,N,ty,ks⟩
     ·simp [chkI]
     ·have h:=iCheckT_l0 s ks ⟨op,N,ty,ks⟩ n (nodes + 1) 0 rfl (by simp only; omega) (by omega) (by omega) h4
      rw [if_pos rfl,show (0:Int)=((0:Nat):Int) from rfl,h]
      simp only [Bool.true_and]
      unfold chkI
      rw [show nodes + (1 + tszs ks)=nodes + 1 + tszs ks by omega]
      cases tOks (hasB s) (typB s) op n 0 ks && decide (nodes + 1 + tszs ks ≤ 400) <;> rfl
    ·rw [show ((ks.length:Int) != manyI op)=true by simpa using hk]
     have e:nodeOk (hasB s) (typB s) (n:Int) ⟨op,N,ty,ks⟩=false:=by
      unfold nodeOk
      simp only
      rw [show ((ks.length:Int) == manyI op)=false by simpa using hk]; simp
     simp [e,chkI]
   ·rw [decide_eq_true (by omega:((nodes + 1:Nat):Int) > 400)]
    have:¬ nodes + (1 + tszs ks) ≤ 400:=by omega
    simp [chkI,this]
theorem iCheckT_l0 (s:GSystem):∀ (ks:List GTerm) (t:GTerm) (n nodes i:Nat),t.fKids.drop i=ks→t.fKids.length ≤ 1099511627776→tmss ks ≤ 1099511627776→n + 2 * (ks.length + tmss ks) ≤ 35184372088832→nodes ≤ 400 →
  impl_check_Kimpl_Systemhas_Kimpl_isTermOf_c1_l0 (t,(n:Int),s,s,(nodes:Int),(i:Int))=some (if tOks (hasB s) (typB s) t.fOp n i ks && decide (nodes + tszs ks ≤ 400) then .inl ((nodes + tszs ks:Nat):Int) else .inr 401)
 | [],t,n,nodes,i,hd,hk,ht,hn,h4=>by
  rw [impl_check_Kimpl_Systemhas_Kimpl_isTermOf_c1_l0.eq_def,tOks,tszs]
  simp only
  rw [lt_f (drop_nil_le hd)]
  simp [h4]
 | k :: ks,t,n,nodes,i,hd,hk,ht,hn,h4=>by
  obtain ⟨hi,hx,hd'⟩:=drop_cons_get hd
  rw [tmss] at ht hn
  rw [List.length_cons] at hn
  have ha:=addsI_le t.fOp (i:Int)
  rw [impl_check_Kimpl_Systemhas_Kimpl_isTermOf_c1_l0.eq_def,tOks,tszs]
  simp only
  rw [lt_t hi,if_pos rfl,hx,bs,iAdds,bs,wr_id (by omega) (by omega),show (n:Int) + ((addsI t.fOp (i:Int):Nat):Int)=((n + addsI t.fOp (i:Int):Nat):Int) by omega]
  rw [iCheckT s k (n + addsI t.fOp (i:Int)) nodes (by omega) (by omega) h4,bs,wr_succ (by omega)]
  unfold chkI
  cases tOk (hasB s) (typB s) (n + addsI t.fOp (i:Int)) k
  ·rfl
  ·by_cases q:nodes + tsz k ≤ 400
   ·rw [decide_eq_true q,Bool.true_and,if_pos rfl,decide_eq_false (by omega:¬ ((nodes + tsz k:Nat):Int) > 400),if_neg (by decide),iCheckT_l0 s ks t n (nodes + tsz k) (i + 1) hd' hk (by omega) (by omega) q,Nat.add_assoc,Bool.true_and]
   ·rw [decide_eq_false q,decide_eq_false (by omega:¬ nodes + (tsz k + tszs ks) ≤ 400)]
    simp
end
theorem gN_hasB {s:GSystem} {n:Nat} (h:Tab s n):hasB s=gN s.fSize true:=by
 funext g
 rw [hasB_tab h]
 unfold gN inB
 rw [h.size]
 rw [Bool.eq_iff_iff]
 simp
 omega
theorem iIsTermOf (s:GSystem) (hs:sysB s=true) (t:GTerm) (n:Nat) (hn:n ≤ 8) (ht:tms t ≤ 1099511627776):impl_isTermOf (s,t,(n:Int))=some (trmB s t n):=by
 have hy:typB s=yN s.fSize true:=funext fun ty=>typB_tab (sysB_tab hs) ty
 unfold impl_isTermOf trmB
 simp only
 rw [iIn,bs,hs]
 have:inB (n:Int) 0 8=true:=by unfold inB; rw [decide_eq_true (by omega),decide_eq_true (by omega)]; rfl
 have hc:=iCheckT s t n 0 ht (by omega) (by omega)
 rw [gN_hasB (sysB_tab hs),hy] at hc
 rw [this,if_pos rfl,show (0:Int)=((0:Nat):Int) from rfl,hc,bs]
 unfold chkI
 rw [Nat.zero_add]
 cases tOk (gN s.fSize true) (yN s.fSize true) n t
 ·simp [bs]
 ·by_cases h:tsz t ≤ 400
  ·simp [bs,h]; omega
  ·simp [bs,h]
def inpB (s:GSystem) (ctx:List (List Int)) (t:GTerm):Bool:=sysB s && ctxG s ctx && trmB s t ctx.length
theorem sInput (s:GSystem) (ctx:List (List Int)) (t:GTerm) (hc:ctx.length ≤ 1048576) (hl:∀ ty ∈ ctx,ty.length ≤ 1099511627776) (ht:tms t ≤ 1099511627776):spec_l3Input (s,ctx,t)=some (inpB s ctx t):=by
 unfold spec_l3Input inpB
 simp only
 rw [sSys,bs]
 cases hs:sysB s
 ·rfl
 ·rw [if_pos rfl,sCtx s ctx hc hl,bs]
  cases h2:ctxG s ctx
  ·rfl
  ·have h8:ctx.length ≤ 8:=by
    unfold ctxG at h2
    simp only [Bool.and_eq_true,decide_eq_true_eq] at h2
    exact h2.1
   rw [if_pos rfl,sIsTerm s t _ h8 ht]
   rfl
theorem iInput (s:GSystem) (ctx:List (List Int)) (t:GTerm) (hc:ctx.length ≤ 1048576) (hl:∀ ty ∈ ctx,ty.length ≤ 1099511627776) (ht:tms t ≤ 1099511627776) :
  impl_typedOf (s,ctx,t)=if inpB s ctx t then (impl_typertyp (⟨s⟩,ctx,t) >>= fun r=>some (some r)) else some none:=by
 unfold impl_typedOf inpB
 simp only
 rw [iSys,bs]
 cases hs:sysB s
 ·rfl
 ·rw [if_pos rfl,iCtx s hs ctx hc hl,bs]
  cases h2:ctxG s ctx
  ·rfl
  ·have h8:ctx.length ≤ 8:=by
    unfold ctxG at h2
    simp only [Bool.and_eq_true,decide_eq_true_eq] at h2
    exact h2.1
   rw [if_pos rfl,iIsTermOf s hs t _ h8 ht,bs]
   cases trmB s t ctx.length <;> rfl
end Go.Am
