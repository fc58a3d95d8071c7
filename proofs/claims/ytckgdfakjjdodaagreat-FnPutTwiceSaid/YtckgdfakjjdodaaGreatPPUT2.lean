/- Plain laws of the printed functions. -/
import Derived.Test.YtckgdfakjjdodaaGreatPPUT1
set_option linter.unusedSimpArgs false
set_option linter.unusedVariables false
namespace Go.Am
def Gv {α:Type} (x:Option α) (Q:α→Prop):Prop:=∃ a,x=some a∧Q a
theorem Gv.of {α:Type} {a:α} {Q:α→Prop} (h:Q a):Gv (some a) Q:=⟨a,rfl,h⟩
theorem Gv.eq {α:Type} {x:Option α} {a:α} {Q:α→Prop} (e:x=some a) (h:Q a):Gv x Q:=⟨a,e,h⟩
theorem Gv.bind {α β:Type} {x:Option α} {f:α→Option β} {Q:α→Prop} {R:β→Prop} (h:Gv x Q) (hf:∀ a,Q a→Gv (f a) R):Gv (x >>= f) R:=by
 obtain ⟨a,rfl,hq⟩:=h
 exact hf a hq
theorem Gv.mono {α:Type} {x:Option α} {Q R:α→Prop} (h:Gv x Q) (hq:∀ a,Q a→R a):Gv x R:=let ⟨a,e,h⟩:=h; ⟨a,e,hq a h⟩
theorem Gv.ite {α:Type} {b:Bool} {x y:Option α} {Q:α→Prop} (h1:b=true→Gv x Q) (h2:b=false→Gv y Q):Gv (if b=true then x else y) Q:=by
 cases b
 ·exact h2 rfl
 ·exact h1 rfl
structure Kzi (c:K01):Prop where
 lo:0 ≤ c.fi
 hi:c.fi ≤ c.fb.length
 ln:c.fb.length ≤ 1048576
 by_:∀ v ∈ c.fb,0 ≤ v∧v ≤ 255
theorem Kzj (x:Int):0 ≤ Q2p .and .i64 x 255∧Q2p .and .i64 x 255 ≤ 255:=by
 have h:(BitVec.ofInt 64 x &&& BitVec.ofInt 64 255).toNat ≤ 255:=by
  rw [BitVec.toNat_and]
  exact Nat.le_trans Nat.and_le_right (by decide)
 have e:Q2p .and .i64 x 255=wr (((BitVec.ofInt 64 x &&& BitVec.ofInt 64 255).toNat:Nat):Int):=rfl
 rw [e,Ko2 (by omega) (by omega)]
 omega
theorem Kzk {α:Type} {l:List α} {i:Int} (h0:0 ≤ i) (h:i < l.length):∃ v,idx l i=some v∧v ∈ l:=by
 have hi:i.toNat < l.length:=by omega
 refine ⟨l[i.toNat],?_,List.getElem_mem hi⟩
 unfold idx
 rw [if_pos h0,List.getElem?_eq_getElem hi]
theorem Kzl (code:List Int) (hl:code.length ≤ 1048576):∀ (k i:Nat) (h:Int),i + k=code.length→Gv (K7v (code,h,(i:Int))) (fun _=>True):=by
 intro k
 induction k with
 | zero =>
  intro i h hi
  rw [K7v.eq_def]
  simp only
  rw [Ko6 (by omega),if_neg (by decide),bs,if_neg (by decide)]
  exact .of trivial
 | succ k ih =>
  intro i h hi
  rw [K7v.eq_def]
  simp only
  rw [Ko5 (by omega),if_pos rfl,bs]
  refine .ite (fun _=>?_) (fun _=>.of trivial)
  rw [Ko3 (by omega),bs,Ko4 (by omega)]
  exact ih (i + 1) _ (by omega)
theorem Kzm (code:List Int) (hl:code.length ≤ 1048576) (hb:∀ v ∈ code,0 ≤ v∧v ≤ 255):Gv (K7y code) Kzi:=by
 unfold K7y
 refine Gv.bind (Kzl code hl code.length 0 _ (by omega)) (fun h _=>.of ⟨Int.le_refl _,?_,hl,hb⟩)
 simp
theorem Kzn {c:K01} (h:Kzi c):Gv (K87 c) (fun r=>(0 ≤ r.1∧r.1 ≤ 255)∧Kzi r.2):=by
 unfold K87
 by_cases hi:c.fi < c.fb.length
 ·obtain ⟨v,e,hv⟩:=Kzk h.lo hi
  have h3:=h.ln
  have h4:=h.lo
  rw [decide_eq_true hi,if_pos rfl,e,bs,bs]
  refine .of ⟨Kzj _,⟨?_,?_,h.ln,h.by_⟩⟩
  ·simp only
   rw [Ko2 (by omega) (by omega)]; omega
  ·simp only
   rw [Ko2 (by omega) (by omega)]; omega
 ·rw [decide_eq_false hi,if_neg (by decide),bs]
  exact .of ⟨Kzj _,⟨h.lo,h.hi,h.ln,h.by_⟩⟩
def Kzo (n:Int) (x:Int):Prop:=(0 < n→0 ≤ x∧x < n)∧(n ≤ 0→x=0)
theorem Kzp {c:K01} (h:Kzi c) (n:Int):Gv (K8a (c,n)) (fun r=>Kzo n r.1∧Kzi r.2):=by
 unfold K8a
 simp only
 refine .ite (fun hb=>?_) (fun hb=>?_)
 ·have hb:=of_decide_eq_true hb
  exact .of ⟨⟨fun h=>absurd h (by omega),fun _=>rfl⟩,h⟩
 have hb:=of_decide_eq_false hb
 have tm:∀ x:Int,0 ≤ x→Kzo n (Int.tmod x n):=fun x hx=>⟨fun hn=>⟨Int.tmod_nonneg n hx,Int.tmod_lt_of_pos x hn⟩,fun hn=>absurd hn (by omega)⟩
 have ck:chk (n ≠ 0)=some ():=by unfold chk; rw [if_pos (by omega)]
 refine .ite (fun _=>?_) (fun _=>?_)
 ·refine Gv.bind (Kzn h) ?_
  rintro ⟨x,c1⟩ ⟨hx,h1⟩
  simp only at hx h1 ⊢
  rw [ck,bs]
  exact .of ⟨tm _ hx.1,h1⟩
 ·refine Gv.bind (Kzn h) ?_
  rintro ⟨x,c1⟩ ⟨hx,h1⟩
  simp only at hx h1 ⊢
  refine Gv.bind (Kzn h1) ?_
  rintro ⟨y,c2⟩ ⟨hy,h2⟩
  simp only at hy h2 ⊢
  refine Gv.bind (Kzn h2) ?_
  rintro ⟨z,c3⟩ ⟨hz,h3⟩
  simp only at hz h3 ⊢
  refine Gv.bind (Kzn h3) ?_
  rintro ⟨w,c4⟩ ⟨hw,h4⟩
  simp only at hw h4 ⊢
  rw [ck,bs]
  refine .of ⟨?_,h4⟩
  simp only
  have e1:wr (x * 16777216)=x * 16777216:=Ko2 (by omega) (by omega)
  have e2:wr (y * 65536)=y * 65536:=Ko2 (by omega) (by omega)
  have e3:wr (z * 256)=z * 256:=Ko2 (by omega) (by omega)
  rw [e1,e2,e3,Ko2 (x:=x * 16777216 + y * 65536) (by omega) (by omega),Ko2 (x:=x * 16777216 + y * 65536 + z * 256) (by omega) (by omega),Ko2 (x:=x * 16777216 + y * 65536 + z * 256 + w) (by omega) (by omega)]
  exact tm _ (by omega)
theorem Kzq {c:K01} (h:Kzi c) (n:Int):Gv (K8d (c,n)) (fun r=>Kzi r.2):=by
 unfold K8d
 refine Gv.bind (Kzp h n) ?_
 rintro ⟨x,c1⟩ ⟨_,h1⟩
 exact .of h1
theorem Kzr {c:K01} (h:Kzi c) (l:List Int) (hl:0 < l.length):Gv (Kgo (c,l)) (fun r=>r.1 ∈ l∧Kzi r.2):=by
 unfold Kgo
 refine Gv.bind (Kzp h _) ?_
 rintro ⟨x,c1⟩ ⟨⟨hx,_⟩,h1⟩
 simp only at hx h1 ⊢
 have:=hx (by omega)
 obtain ⟨v,e,hv⟩:=Kzk this.1 this.2
 rw [e,bs]
 exact .of ⟨hv,h1⟩
theorem Kzs {c:K01} (h:Kzi c):Gv (Kh3 c) (fun r=>(-9223372036854775808 ≤ r.1∧r.1 ≤ 9223372036854775807)∧Kzi r.2):=by
 unfold Kh3
 refine Gv.bind (Kzr h _ (by decide)) ?_
 rintro ⟨x,c1⟩ ⟨hx,h1⟩
 refine .of ⟨?_,h1⟩
 simp only [List.mem_cons,List.not_mem_nil,or_false] at hx
 simp only
 omega
def Kzt (n a b:Nat):Int:=((min (a + b) (n + 1):Nat):Int)
def Kzu (n a b:Nat):Int:=((min (a * b) (n + 1):Nat):Int)
def Kzv (n:Nat) (bd:Bool) (a b:Nat):Bool:=(a == b) || (b == n + 1) || (bd && decide (a ≤ b))
def Kzw (n:Nat) (bd:Bool):K02:=⟨((n + 2:Nat):Int),(List.range' 0 (n + 2)).flatMap (fun a=>(List.range' 0 (n + 2)).map (Kzt n a)),(List.range' 0 (n + 2)).flatMap (fun a=>(List.range' 0 (n + 2)).map (Kzu n a)),(List.range' 0 (n + 2)).flatMap (fun a=>(List.range' 0 (n + 2)).map (Kzv n bd a))⟩
theorem Kzx {a b:Nat} (h:a ≤ b):decide ((a:Int) ≤ (b:Int))=true:=decide_eq_true (by omega)
theorem Kzy {a b:Nat} (h:b < a):decide ((a:Int) ≤ (b:Int))=false:=decide_eq_false (by omega)
theorem Kzz (n a:Nat) (bd:Bool) (hn:n ≤ 14) (ha:a ≤ n + 1):∀ (k b:Nat) (P T:List Int) (B:List Bool),b + k=n + 2→P.length ≤ 1000000→T.length ≤ 1000000→B.length ≤ 1000000→P.length + k ≤ 1000000→T.length + k ≤ 1000000→B.length + k ≤ 1000000 →
  K8k ((n:Int),bd,(a:Int),P,T,B,(b:Int))=some (P ++ (List.range' b k).map (Kzt n a),T ++ (List.range' b k).map (Kzu n a),B ++ (List.range' b k).map (Kzv n bd a)):=by
 intro k
 induction k with
 | zero =>
  intro b P T B hb _ _ _ _ _ _
  rw [K8k.eq_def]
  simp only
  rw [Ko4 (by omega),Kzy (by omega),if_neg (by decide)]
  simp
 | succ k ih =>
  intro b P T B hb h1 h2 h3 h4 h5 h6
  have hab:a * b ≤ 16 * 16:=Nat.mul_le_mul (by omega) (by omega)
  have e2:wr ((a:Int) * (b:Int))=((a * b:Nat):Int):=by
   rw [← Int.natCast_mul,Ko2 (by omega) (by omega)]
  rw [K8k.eq_def]
  simp only
  rw [Ko4 (n:=n) (by omega),Kzx (by omega),if_pos rfl,Kt2 (by omega) (by omega),Kt3,bs,e2,Kt3,bs,Krd (by simp; omega),bs,Krd (by simp; omega),bs]
  have e3:((if ((a:Int) == (b:Int))=true then Qdw (B.length + [true].length) 1 >>= fun _=>some (B ++ [true]) else if ((b:Int) == ((n + 1:Nat):Int))=true then Qdw (B.length + [true].length) 1 >>= fun _=>some (B ++ [true]) else if bd=true then Qdw (B.length + [decide ((a:Int) ≤ (b:Int))].length) 1 >>= fun _=>some (B ++ [decide ((a:Int) ≤ (b:Int))]) else Qdw (B.length + [false].length) 1 >>= fun _=>some (B ++ [false])):Option (List Bool))=some (B ++ [Kzv n bd a b]):=by
   have f:∀ x:Bool,Qdw (B.length + [x].length) 1=some ():=fun x=>Krd (by simp; omega)
   rw [f,f,f,bs,bs,bs,Koj,Koj]
   unfold Kzv
   by_cases q1:a=b
   ·rw [if_pos (by simp [q1])]; simp [q1]
   ·rw [if_neg (by simp [q1])]
    by_cases q2:b=n + 1
    ·rw [if_pos (by simp [q2])]; simp [q2]
    ·rw [if_neg (by simp [q2])]
     cases bd with
     | false=>simp [q1,q2]
     | true=>simp [q1,q2]
  rw [e3,bs,Ko4 (by omega),ih (b + 1) _ _ _ (by omega) (by simp; omega) (by simp; omega) (by simp; omega) (by simp; omega) (by simp; omega) (by simp; omega)]
  simp [List.range'_succ,Kzt,Kzu]
theorem V00 (n:Nat) (bd:Bool) (hn:n ≤ 14):∀ (k a:Nat) (P T:List Int) (B:List Bool),a + k=n + 2→P.length + k * 16 ≤ 10000→T.length + k * 16 ≤ 10000→B.length + k * 16 ≤ 10000 →
  K8o ((n:Int),bd,P,T,B,(a:Int))=some (P ++ (List.range' a k).flatMap (fun a=>(List.range' 0 (n + 2)).map (Kzt n a)),T ++ (List.range' a k).flatMap (fun a=>(List.range' 0 (n + 2)).map (Kzu n a)),B ++ (List.range' a k).flatMap (fun a=>(List.range' 0 (n + 2)).map (Kzv n bd a))):=by
 intro k
 induction k with
 | zero =>
  intro a P T B hb _ _ _
  rw [K8o.eq_def]
  simp only
  rw [Ko4 (by omega),Kzy (by omega),if_neg (by decide)]
  simp
 | succ k ih =>
  intro a P T B hb h1 h2 h3
  rw [K8o.eq_def]
  simp only
  rw [Ko4 (n:=n) (by omega),Kzx (by omega),if_pos rfl,show (0:Int)=((0:Nat):Int) from rfl,Kzz n a bd hn (by omega) (n + 2) 0 P T B (by omega) (by omega) (by omega) (by omega) (by omega) (by omega) (by omega),bs]
  simp only
  rw [Ko4 (by omega),ih (a + 1) _ _ _ (by omega) (by simp; omega) (by simp; omega) (by simp; omega)]
  simp [List.range'_succ,List.flatMap_cons]
theorem V01 (n:Nat) (bd:Bool) (h1:1 ≤ n) (h2:n ≤ 14):K8r ((n:Int),bd)=some (Kzw n bd):=by
 unfold K8r
 simp only
 rw [sIn,bs,show inB (n:Int) 1 14=true from by unfold inB; rw [decide_eq_true (by omega),decide_eq_true (by omega)]; rfl,if_pos rfl,show (0:Int)=((0:Nat):Int) from rfl,V00 n bd h2 (n + 2) 0 [] [] [] (by omega) (by simp; omega) (by simp; omega) (by simp; omega),bs]
 simp only
 rw [show wr ((n:Int) + 2)=((n + 2:Nat):Int) from by rw [Ko2 (by omega) (by omega)]; omega]
 rfl
theorem V02 (n:Nat) (h1:1 ≤ n) (h2:n ≤ 14):K8x (n:Int)=some (Kzw n false):=by unfold K8x; rw [V01 n false h1 h2]; rfl
theorem V03 (n:Nat) (h1:1 ≤ n) (h2:n ≤ 14):K8u (n:Int)=some (Kzw n true):=by unfold K8u; rw [V01 n true h1 h2]; rfl
def V04 (n a:Nat):Nat:=(n + 1 - a) % (n + 1)
def V05 (n a b:Nat):Int:=(((n + 1 - max (V04 n a) (V04 n b)) % (n + 1):Nat):Int)
def V06 (n a b:Nat):Int:=(((n + 1 - min (V04 n a) (V04 n b)) % (n + 1):Nat):Int)
def V07 (n a b:Nat):Bool:=decide (V04 n a ≤ V04 n b)
def V08 (n:Nat):K02:=⟨((n + 1:Nat):Int),(List.range' 0 (n + 1)).flatMap (fun a=>(List.range' 0 (n + 1)).map (V05 n a)),(List.range' 0 (n + 1)).flatMap (fun a=>(List.range' 0 (n + 1)).map (V06 n a)),(List.range' 0 (n + 1)).flatMap (fun a=>(List.range' 0 (n + 1)).map (V07 n a))⟩
theorem V09 (a b:Nat):K90 ((a:Int),(b:Int))=some ((max a b:Nat):Int):=by
 unfold K90
 simp only
 by_cases h:b < a
 ·rw [decide_eq_true (by omega),if_pos rfl,Nat.max_eq_left (by omega)]
 ·rw [decide_eq_false (by omega),if_neg (by decide),Nat.max_eq_right (by omega)]
theorem V0a (a b:Nat):Int.tmod (a:Int) (b:Int)=((a % b:Nat):Int):=(Int.ofNat_tmod a b).symm
theorem V0b (n a:Nat) (hn:n ≤ 1000) (ha:a ≤ n + 1):Int.tmod (wr (((n + 1:Nat):Int) - (a:Int))) ((n + 1:Nat):Int)=(((n + 1 - a) % (n + 1):Nat):Int):=by
 rw [Ko2 (by omega) (by omega),show ((n + 1:Nat):Int) - (a:Int)=((n + 1 - a:Nat):Int) from by omega,V0a]
theorem V0c (n a:Nat):V04 n a ≤ n:=by
 have:=Nat.mod_lt (n + 1 - a) (show 0 < n + 1 by omega)
 unfold V04
 omega
theorem V0d (n a:Nat) (hn:n ≤ 15) (ha:a ≤ n):∀ (k b:Nat) (P T:List Int) (B:List Bool),b + k=n + 1→P.length + k ≤ 1000000→T.length + k ≤ 1000000→B.length + k ≤ 1000000 →
  K94 ((n:Int),(a:Int),P,T,B,(b:Int))=some (P ++ (List.range' b k).map (V05 n a),T ++ (List.range' b k).map (V06 n a),B ++ (List.range' b k).map (V07 n a)):=by
 intro k
 induction k with
 | zero =>
  intro b P T B hb _ _ _
  rw [K94.eq_def]
  simp only
  rw [Kzy (by omega),if_neg (by decide)]
  simp
 | succ k ih =>
  intro b P T B hb h4 h5 h6
  have ck:chk (((n + 1:Nat):Int) ≠ 0)=some ():=by unfold chk; rw [if_pos (by omega)]
  have m1:=V0c n a
  have m2:=V0c n b
  have x1:Int.tmod (wr (((n + 1:Nat):Int) - (a:Int))) ((n + 1:Nat):Int)=((V04 n a:Nat):Int):=V0b n a (by omega) (by omega)
  have x2:Int.tmod (wr (((n + 1:Nat):Int) - (b:Int))) ((n + 1:Nat):Int)=((V04 n b:Nat):Int):=V0b n b (by omega) (by omega)
  rw [K94.eq_def]
  simp only
  rw [Kzx (by omega),if_pos rfl,Ko4 (n:=n) (by omega),ck,bs,bs,x1,x2,V09,bs,bs,Kt3,bs,bs,V0b n _ (by omega) (by omega),V0b n _ (by omega) (by omega),Krd (by simp; omega),bs,Krd (by simp; omega),bs,Krd (by simp; omega),bs,Ko4 (by omega),ih (b + 1) _ _ _ (by omega) (by simp; omega) (by simp; omega) (by simp; omega)]
  simp [List.range'_succ,V05,V06,V07]
theorem V0e (n:Nat) (hn:n ≤ 15):∀ (k a:Nat) (P T:List Int) (B:List Bool),a + k=n + 1→P.length + k * 16 ≤ 10000→T.length + k * 16 ≤ 10000→B.length + k * 16 ≤ 10000 →
  K98 ((n:Int),P,T,B,(a:Int))=some (P ++ (List.range' a k).flatMap (fun a=>(List.range' 0 (n + 1)).map (V05 n a)),T ++ (List.range' a k).flatMap (fun a=>(List.range' 0 (n + 1)).map (V06 n a)),B ++ (List.range' a k).flatMap (fun a=>(List.range' 0 (n + 1)).map (V07 n a))):=by
 intro k
 induction k with
 | zero =>
  intro a P T B hb _ _ _
  rw [K98.eq_def]
  simp only
  rw [Kzy (by omega),if_neg (by decide)]
  simp
 | succ k ih =>
  intro a P T B hb h1 h2 h3
  rw [K98.eq_def]
  simp only
  rw [Kzx (by omega),if_pos rfl,show (0:Int)=((0:Nat):Int) from rfl,V0d n a hn (by omega) (n + 1) 0 P T B (by omega) (by omega) (by omega) (by omega),bs]
  simp only
  rw [Ko4 (by omega),ih (a + 1) _ _ _ (by omega) (by simp; omega) (by simp; omega) (by simp; omega)]
  simp [List.range'_succ,List.flatMap_cons]
theorem V0f (n:Nat) (h1:1 ≤ n) (h2:n ≤ 15):K9b (n:Int)=some (V08 n):=by
 unfold K9b
 rw [sIn,bs,show inB (n:Int) 1 15=true from by unfold inB; rw [decide_eq_true (by omega),decide_eq_true (by omega)]; rfl,if_pos rfl,show (0:Int)=((0:Nat):Int) from rfl,V0e n h2 (n + 1) 0 [] [] [] (by omega) (by simp; omega) (by simp; omega) (by simp; omega),bs]
 simp only
 rw [Ko4 (by omega)]
 rfl
def V0g (n g:Nat):Nat:=if g=0 then 0 else if g=1 then 1 else if g ≤ n + 1 then (g - 1) / n else g / n
def V0h (n g:Nat):Nat:=if g < 2 then g else if g ≤ n + 1 then (g - 1) % n else g % n
def V0i (n x y:Nat):Nat:=if x * n + y=0 then 0 else if x * n + y=n + 1 then 1 else if x * n + y < n + 1 then x * n + y + 1 else x * n + y
theorem V0j (a b:Nat):Int.tdiv (a:Int) (b:Int)=((a / b:Nat):Int):=(Int.ofNat_tdiv a b).symm
theorem V0k (n g:Nat) (hn:1 ≤ n) (hn2:n ≤ 100) (hg:g ≤ 1000):Kb2 ((n:Int),(g:Int))=some ((V0g n g:Nat):Int):=by
 have ck:chk ((n:Int) ≠ 0)=some ():=by unfold chk; rw [if_pos (by omega)]
 have hd:∀ x,x ≤ 1000→x / n ≤ 1000:=fun x hx=>Nat.le_trans (Nat.div_le_self _ _) hx
 unfold Kb2 V0g
 simp only
 by_cases h0:g=0
 ·rw [if_pos (by simp [h0]),if_pos h0]; rfl
 rw [if_neg (by simpa using h0),if_neg h0]
 by_cases h1:g=1
 ·rw [if_pos (by simp [h1]),if_pos h1]; rfl
 rw [if_neg (by simp; omega),if_neg h1,Ko4 (by omega)]
 by_cases h2:g ≤ n + 1
 ·rw [Kzx h2,if_pos rfl,if_pos h2,ck,bs,Ko2 (x:=(g:Int) - 1) (by omega) (by omega),show (g:Int) - 1=((g - 1:Nat):Int) from by omega,V0j]
  have:=hd (g - 1) (by omega)
  generalize (g - 1) / n=q at *
  rw [Ko2 (by omega) (by omega)]
 ·rw [Kzy (by omega),if_neg (by decide),if_neg h2,ck,bs,V0j]
  have:=hd g hg
  generalize g / n=q at *
  rw [Ko2 (by omega) (by omega)]
theorem V0l (n g:Nat) (hn:1 ≤ n) (hn2:n ≤ 100) (hg:g ≤ 1000):Kb5 ((n:Int),(g:Int))=some ((V0h n g:Nat):Int):=by
 have ck:chk ((n:Int) ≠ 0)=some ():=by unfold chk; rw [if_pos (by omega)]
 unfold Kb5 V0h
 simp only
 by_cases h0:g < 2
 ·rw [decide_eq_true (by omega),if_pos rfl,if_pos h0]
 rw [decide_eq_false (by omega),if_neg (by decide),if_neg h0,Ko4 (by omega)]
 by_cases h2:g ≤ n + 1
 ·rw [Kzx h2,if_pos rfl,if_pos h2,ck,bs,Ko2 (x:=(g:Int) - 1) (by omega) (by omega),show (g:Int) - 1=((g - 1:Nat):Int) from by omega,V0a]
 ·rw [Kzy (by omega),if_neg (by decide),if_neg h2,ck,bs,V0a]
theorem V0m (n x y:Nat) (hn:n ≤ 100) (hx:x ≤ 100) (hy:y ≤ 100):Kb8 ((n:Int),(x:Int),(y:Int))=some ((V0i n x y:Nat):Int):=by
 have hxn:x * n ≤ 100 * 100:=Nat.mul_le_mul hx hn
 have e:wr (wr ((x:Int) * (n:Int)) + (y:Int))=((x * n + y:Nat):Int):=by
  rw [← Int.natCast_mul,Ko2 (x:=((x * n:Nat):Int)) (by omega) (by omega),Ko2 (by omega) (by omega)]; omega
 unfold Kb8 V0i
 simp only
 rw [e,Ko4 (n:=n) (by omega)]
 by_cases h0:x * n + y=0
 ·rw [if_pos (by rw [h0]; rfl),if_pos h0]; rfl
 rw [if_neg (by simp; omega),if_neg h0]
 by_cases h1:x * n + y=n + 1
 ·rw [if_pos (by rw [h1]; simp),if_pos h1]; rfl
 rw [if_neg (by simp; omega),if_neg h1]
 by_cases h2:x * n + y < n + 1
 ·rw [Ko5 h2,if_pos rfl,if_pos h2,Ko4 (by omega)]
 ·rw [Ko6 (by omega),if_neg (by decide),if_neg h2]
theorem V0n {m n g:Nat} (hm:2 ≤ m) (hn:2 ≤ n) (h:g < m * n):V0g n g < m:=by
 unfold V0g
 split
 ·omega
 split
 ·omega
 split
 ·refine Nat.div_lt_of_lt_mul ?_
  rw [Nat.mul_comm]; omega
 ·exact Nat.div_lt_of_lt_mul (by rw [Nat.mul_comm]; exact h)
theorem V0o {n g:Nat} (hn:2 ≤ n):V0h n g < n:=by
 unfold V0h
 split
 ·omega
 split
 ·exact Nat.mod_lt _ (by omega)
 ·exact Nat.mod_lt _ (by omega)
def V0p (a b:K02) (m n g h:Nat):Int:=((V0i n (pl a m (V0g n g) (V0g n h)) (pl b n (V0h n g) (V0h n h)):Nat):Int)
def V0q (a b:K02) (m n g h:Nat):Int:=((V0i n (ti a m (V0g n g) (V0g n h)) (ti b n (V0h n g) (V0h n h)):Nat):Int)
def V0r (a b:K02) (m n g h:Nat):Bool:=le a m (V0g n g) (V0g n h) && le b n (V0h n g) (V0h n h)
def V0s (a b:K02) (m n:Nat):K02:=⟨((m * n:Nat):Int),(List.range' 0 (m * n)).flatMap (fun g=>(List.range' 0 (m * n)).map (V0p a b m n g)),(List.range' 0 (m * n)).flatMap (fun g=>(List.range' 0 (m * n)).map (V0q a b m n g)),(List.range' 0 (m * n)).flatMap (fun g=>(List.range' 0 (m * n)).map (V0r a b m n g))⟩
theorem V0t {m n:Nat} (hm:2 ≤ m) (hn:2 ≤ n) (hmn:m * n ≤ 16):m ≤ 16∧n ≤ 16:=⟨Nat.le_trans (Nat.le_mul_of_pos_right m (by omega)) hmn,Nat.le_trans (Nat.le_mul_of_pos_left n (by omega)) hmn⟩
section
variable {a b:K02} {m n:Nat} (ta:Tab a m) (tb:Tab b n) (hm:2 ≤ m) (hn:2 ≤ n) (hmn:m * n ≤ 16)
include ta tb hm hn hmn
theorem V0u {g:Nat} (hg:g < m * n):∀ (k h:Nat) (P T:List Int) (B:List Bool),h + k=m * n→P.length + k ≤ 1000000→T.length + k ≤ 1000000→B.length + k ≤ 1000000 →
  Kbc (a,b,(g:Int),P,T,B,(h:Int))=some (P ++ (List.range' h k).map (V0p a b m n g),T ++ (List.range' h k).map (V0q a b m n g),B ++ (List.range' h k).map (V0r a b m n g)):=by
 obtain ⟨hm16,hn16⟩:=V0t hm hn hmn
 have hN:wr (a.fSize * b.fSize)=((m * n:Nat):Int):=by
  rw [ta.size,tb.size,← Int.natCast_mul,Ko2 (by omega) (by omega)]
 intro k
 induction k with
 | zero =>
  intro h P T B hb _ _ _
  rw [Kbc.eq_def]
  simp only
  rw [hN,Ko6 (by omega),if_neg (by decide)]
  simp
 | succ k ih =>
  intro h P T B hb h4 h5 h6
  have f1:=V0n hm hn hg
  have f2:=V0n hm hn (show h < m * n by omega)
  have s1:V0h n g < n:=V0o hn
  have s2:V0h n h < n:=V0o hn
  have p1:=Koa ta f1 f2
  have p2:=Koa tb s1 s2
  have t1:=Kob ta f1 f2
  have t2:=Kob tb s1 s2
  rw [Kbc.eq_def]
  simp only
  rw [hN,Ko5 (by omega),if_pos rfl,tb.size,V0k n g (by omega) (by omega) (by omega),bs,V0l n g (by omega) (by omega) (by omega),bs,V0k n h (by omega) (by omega) (by omega),bs,V0l n h (by omega) (by omega) (by omega),bs,
   Kof ta f1 f2,bs,Kof tb s1 s2,bs,V0m n _ _ (by omega) (by omega) (by omega),bs,Krd (by simp; omega),bs,Kog ta f1 f2,bs,Kog tb s1 s2,bs,V0m n _ _ (by omega) (by omega) (by omega),bs,Krd (by simp; omega),bs,sLe ta f1 f2,bs,sLe tb s1 s2,bs]
  have f:∀ x:Bool,Qdw (B.length + [x].length) 1=some ():=fun x=>Krd (by simp; omega)
  have e3:((if le a m (V0g n g) (V0g n h)=true then Qdw (B.length + [le b n (V0h n g) (V0h n h)].length) 1 >>= fun _=>some (B ++ [le b n (V0h n g) (V0h n h)]) else Qdw (B.length + [false].length) 1 >>= fun _=>some (B ++ [false])):Option (List Bool))=some (B ++ [V0r a b m n g h]):=by
   rw [f,f,bs,bs]
   unfold V0r
   cases le a m (V0g n g) (V0g n h) <;> rfl
  rw [e3,bs,Ko4 (by omega),ih (h + 1) _ _ _ (by omega) (by simp; omega) (by simp; omega) (by simp; omega)]
  simp [List.range'_succ,V0p,V0q]
theorem V0v:∀ (k g:Nat) (P T:List Int) (B:List Bool),g + k=m * n→P.length + k * 16 ≤ 10000→T.length + k * 16 ≤ 10000→B.length + k * 16 ≤ 10000 →
  Kbg (a,b,P,T,B,(g:Int))=some (P ++ (List.range' g k).flatMap (fun g=>(List.range' 0 (m * n)).map (V0p a b m n g)),T ++ (List.range' g k).flatMap (fun g=>(List.range' 0 (m * n)).map (V0q a b m n g)),B ++ (List.range' g k).flatMap (fun g=>(List.range' 0 (m * n)).map (V0r a b m n g))):=by
 have hN:wr (a.fSize * b.fSize)=((m * n:Nat):Int):=by
  rw [ta.size,tb.size,← Int.natCast_mul,Ko2 (by omega) (by omega)]
 intro k
 induction k with
 | zero =>
  intro g P T B hb _ _ _
  rw [Kbg.eq_def]
  simp only
  rw [hN,Ko6 (by omega),if_neg (by decide)]
  simp
 | succ k ih =>
  intro g P T B hb h1 h2 h3
  rw [Kbg.eq_def]
  simp only
  rw [hN,Ko5 (by omega),if_pos rfl,show (0:Int)=((0:Nat):Int) from rfl,V0u ta tb hm hn hmn (by omega) (m * n) 0 P T B (by omega) (by omega) (by omega) (by omega),bs]
  simp only
  rw [Ko4 (by omega),ih (g + 1) _ _ _ (by omega) (by simp; omega) (by simp; omega) (by simp; omega)]
  simp [List.range'_succ,List.flatMap_cons]
theorem V0w (sa:Krs a=true) (sb:Krs b=true):Kbj (a,b)=some (V0s a b m n,true):=by
 have hN:wr (a.fSize * b.fSize)=((m * n:Nat):Int):=by
  rw [ta.size,tb.size,← Int.natCast_mul,Ko2 (by omega) (by omega)]
 unfold Kbj Kaz
 simp only
 rw [Kru,Kru,bs,sa,if_pos rfl,bs,sb,if_pos rfl,bs,hN,decide_eq_true (by omega),bs,if_pos rfl,show (0:Int)=((0:Nat):Int) from rfl,V0v ta tb hm hn hmn (m * n) 0 [] [] [] (by omega) (by simp; omega) (by simp; omega) (by simp; omega),bs]
 rfl
end
def V0x:K02:=⟨3,[0,1,2,1,2,2,2,2,2],[0,0,0,0,1,2,0,2,2],[true,true,true,false,true,true,false,false,true]⟩
def V0y:K02:=⟨4,[0,1,2,3,1,2,3,3,2,3,3,3,3,3,3,3],[0,0,0,0,0,1,2,3,0,2,3,3,0,3,3,3],[true,true,true,true,false,true,true,true,false,false,true,true,false,false,false,true]⟩
def V0z:K02:=⟨5,[0,1,2,3,4,1,2,3,4,4,2,3,4,4,4,3,4,4,4,4,4,4,4,4,4],[0,0,0,0,0,0,1,2,3,4,0,2,4,4,4,0,3,4,4,4,0,4,4,4,4],[true,true,true,true,true,false,true,true,true,true,false,false,true,true,true,false,false,false,true,true,false,false,false,false,true]⟩
def V10:K02:=⟨3,[0,1,2,1,2,2,2,2,2],[0,0,0,0,1,2,0,2,2],[true,false,true,false,true,true,false,false,true]⟩
def V11:K02:=⟨4,[0,1,2,3,1,2,3,3,2,3,3,3,3,3,3,3],[0,0,0,0,0,1,2,3,0,2,3,3,0,3,3,3],[true,false,false,true,false,true,false,true,false,false,true,true,false,false,false,true]⟩
def V12:K02:=⟨5,[0,1,2,3,4,1,2,3,4,4,2,3,4,4,4,3,4,4,4,4,4,4,4,4,4],[0,0,0,0,0,0,1,2,3,4,0,2,4,4,4,0,3,4,4,4,0,4,4,4,4],[true,false,false,false,true,false,true,false,false,true,false,false,true,false,true,false,false,false,true,true,false,false,false,false,true]⟩
def V13:K02:=⟨2,[0,1,1,1],[0,0,0,1],[true,true,false,true]⟩
def V14:K02:=⟨3,[0,1,2,1,1,1,2,1,2],[0,0,0,0,1,2,0,2,2],[true,true,true,false,true,false,false,true,true]⟩
def V15:K02:=⟨4,[0,1,2,3,1,1,1,1,2,1,2,2,3,1,2,3],[0,0,0,0,0,1,2,3,0,2,2,3,0,3,3,3],[true,true,true,true,false,true,false,false,false,true,true,false,false,true,true,true]⟩
def V16:K02:=⟨6,[0,1,2,3,4,5,1,5,1,5,5,5,2,1,2,1,5,5,3,5,1,4,4,5,4,5,5,4,4,5,5,5,5,5,5,5],[0,0,0,0,0,0,0,1,2,3,4,5,0,2,2,0,0,2,0,3,0,3,4,4,0,4,0,4,4,4,0,5,2,4,4,5],[true,false,true,false,true,true,false,true,false,false,false,true,false,false,true,false,false,true,false,true,false,true,true,true,false,false,false,false,true,true,false,false,false,false,false,true]⟩
def V17:K02:=⟨9,[0,1,2,3,4,5,6,7,8,1,7,1,1,7,7,7,7,7,2,1,2,2,1,1,7,7,7,3,1,2,3,5,5,8,7,8,4,7,1,5,6,8,6,7,8,5,7,1,5,8,8,8,7,8,6,7,7,8,6,8,6,7,8,7,7,7,7,7,7,7,7,7,8,7,7,8,8,8,8,7,8],[0,0,0,0,0,0,0,0,0,0,1,2,3,4,5,6,7,8,0,2,2,3,0,3,0,2,3,0,3,3,3,0,3,0,3,3,0,4,0,0,4,4,6,6,6,0,5,3,3,4,5,6,8,8,0,6,0,0,6,6,6,6,6,0,7,2,3,6,8,6,7,8,0,8,3,3,6,8,6,8,8],[true,false,true,true,false,false,true,true,true,false,true,false,false,false,false,false,true,false,false,false,true,false,false,false,false,true,false,false,false,true,true,false,false,false,true,true,false,true,false,false,true,true,true,true,true,false,true,false,false,false,true,false,true,true,false,false,false,false,false,false,true,true,true,false,false,false,false,false,false,false,true,false,false,false,false,false,false,false,false,true,true]⟩
theorem V18:Kzw 1 true=V0x:=by kernel_rfl
theorem V19:Krs V0x=true:=by kernel_rfl
theorem V1a:Kzw 2 true=V0y:=by kernel_rfl
theorem V1b:Krs V0y=true:=by kernel_rfl
theorem V1c:Kzw 3 true=V0z:=by kernel_rfl
theorem V1d:Krs V0z=true:=by kernel_rfl
theorem V1e:Kzw 1 false=V10:=by kernel_rfl
theorem V1f:Krs V10=true:=by kernel_rfl
theorem V1g:Kzw 2 false=V11:=by kernel_rfl
theorem V1h:Krs V11=true:=by kernel_rfl
theorem V1i:Kzw 3 false=V12:=by kernel_rfl
theorem V1j:Krs V12=true:=by kernel_rfl
theorem V1k:V08 1=V13:=by kernel_rfl
theorem V1l:Krs V13=true:=by kernel_rfl
theorem V1m:V08 2=V14:=by kernel_rfl
theorem V1n:Krs V14=true:=by kernel_rfl
theorem V1o:V08 3=V15:=by kernel_rfl
theorem V1p:Krs V15=true:=by kernel_rfl
theorem V1q:V0s V10 V13 3 2=V16:=by kernel_rfl
theorem V1r:Krs V16=true:=by kernel_rfl
theorem V1s:V0s V10 V14 3 3=V17:=by kernel_rfl
theorem V1t:Krs V17=true:=by kernel_rfl
def V1u:List K02:=[V0x,V0y,V0z,V10,V11,V12,V13,V14,V15,V16,V17]
theorem V1v {s:K02} (h:s ∈ V1u):Krs s=true∧(2 ≤ s.fSize∧s.fSize ≤ 9)∧sms s ≤ 300:=by
 simp only [V1u,List.mem_cons,List.not_mem_nil,or_false] at h
 rcases h with rfl | rfl | rfl | rfl | rfl | rfl | rfl | rfl | rfl | rfl | rfl
 ·exact ⟨V19,by decide,by decide⟩
 ·exact ⟨V1b,by decide,by decide⟩
 ·exact ⟨V1d,by decide,by decide⟩
 ·exact ⟨V1f,by decide,by decide⟩
 ·exact ⟨V1h,by decide,by decide⟩
 ·exact ⟨V1j,by decide,by decide⟩
 ·exact ⟨V1l,by decide,by decide⟩
 ·exact ⟨V1n,by decide,by decide⟩
 ·exact ⟨V1p,by decide,by decide⟩
 ·exact ⟨V1r,by decide,by decide⟩
 ·exact ⟨V1t,by decide,by decide⟩
theorem V1w (x:Int) (h:Kzo 3 x):x=0∨x=1∨x=2:=by
 have:=h.1 (by decide)
 omega
theorem V1x {x:Int} (h:Kzo 3 x):Gv (K8u (wr (1 + x))) (fun s=>s ∈ V1u):=by
 rcases V1w x h with rfl | rfl | rfl
 ·exact .eq (V03 1 (by decide) (by decide)) (by rw [V18]; simp [V1u])
 ·exact .eq (V03 2 (by decide) (by decide)) (by rw [V1a]; simp [V1u])
 ·exact .eq (V03 3 (by decide) (by decide)) (by rw [V1c]; simp [V1u])
theorem V1y {x:Int} (h:Kzo 3 x):Gv (K8x (wr (1 + x))) (fun s=>s ∈ V1u):=by
 rcases V1w x h with rfl | rfl | rfl
 ·exact .eq (V02 1 (by decide) (by decide)) (by rw [V1e]; simp [V1u])
 ·exact .eq (V02 2 (by decide) (by decide)) (by rw [V1g]; simp [V1u])
 ·exact .eq (V02 3 (by decide) (by decide)) (by rw [V1i]; simp [V1u])
theorem V1z {x:Int} (h:Kzo 3 x):Gv (K9b (wr (1 + x))) (fun s=>s ∈ V1u):=by
 rcases V1w x h with rfl | rfl | rfl
 ·exact .eq (V0f 1 (by decide) (by decide)) (by rw [V1k]; simp [V1u])
 ·exact .eq (V0f 2 (by decide) (by decide)) (by rw [V1m]; simp [V1u])
 ·exact .eq (V0f 3 (by decide) (by decide)) (by rw [V1o]; simp [V1u])
theorem V20 {c:K01} (h:Kzi c):Gv (Kbm c) (fun r=>r.1 ∈ V1u∧Kzi r.2):=by
 unfold Kbm
 refine Gv.bind (Kzp h 3) ?_
 rintro ⟨x,c1⟩ ⟨hx,h1⟩
 simp only at hx h1 ⊢
 refine Gv.bind (V1x hx) (fun s0 hs0=>?_)
 refine Gv.bind (Kzp h1 8) ?_
 rintro ⟨y,c2⟩ ⟨hy,h2⟩
 simp only at hy h2 ⊢
 have fin:∀ (R:Int × List Int × List Int × List Bool × List Int × Int × Int→Prop),True:=fun _=>trivial
 refine Gv.bind (Q:=fun _=>True) (.ite (fun _=>.of trivial) (fun _=>Gv.bind (Q:=fun _=>True) (.ite (fun _=>.of trivial) (fun _=>.of trivial)) (fun _ _=>.of trivial))) (fun j5 _=>?_)
 refine Gv.bind (Q:=fun r:Int × List Int × List Int × List Bool × List Int × Int × Int=>(⟨r.1,r.2.1,r.2.2.1,r.2.2.2.1⟩:K02) ∈ V1u∧Kzi ⟨r.2.2.2.2.1,r.2.2.2.2.2.1,r.2.2.2.2.2.2⟩) (.ite (fun _=>?_) (fun _=>?_)) ?_
 ·exact Gv.bind (V1y hx) (fun s hs=>.of ⟨hs,h2⟩)
 ·refine Gv.bind (Q:=fun _=>True) (.ite (fun _=>.of trivial) (fun _=>.of trivial)) (fun j9 _=>?_)
  refine Gv.bind (Q:=fun r:Int × List Int × List Int × List Bool × List Int × Int × Int=>(⟨r.1,r.2.1,r.2.2.1,r.2.2.2.1⟩:K02) ∈ V1u∧Kzi ⟨r.2.2.2.2.1,r.2.2.2.2.2.1,r.2.2.2.2.2.2⟩) (.ite (fun _=>?_) (fun _=>?_)) (by rintro ⟨a,b,d,e,f,g,i⟩ q; exact .of q)
  ·exact Gv.bind (V1z hx) (fun s hs=>.of ⟨hs,h2⟩)
  ·refine Gv.bind (Q:=fun r:Int × List Int × List Int × List Bool × List Int × Int × Int=>(⟨r.1,r.2.1,r.2.2.1,r.2.2.2.1⟩:K02) ∈ V1u∧Kzi ⟨r.2.2.2.2.1,r.2.2.2.2.2.1,r.2.2.2.2.2.2⟩) (.ite (fun _=>?_) (fun _=>.of ⟨hs0,h2⟩)) (by rintro ⟨a,b,d,e,f,g,i⟩ q; exact .of q)
   rw [show (1:Int)=((1:Nat):Int) from rfl,V02 1 (by decide) (by decide),V1e,bs]
   refine Gv.bind (Kzp h2 2) ?_
   rintro ⟨z,c3⟩ ⟨hz,h3⟩
   simp only at hz h3 ⊢
   have hz:=hz.1 (by decide)
   have t3:Tab V10 3:=Krt V1f
   rcases (show z=0∨z=1 by omega) with rfl | rfl
   ·have e:wr (((1:Nat):Int) + 0)=((1:Nat):Int):=rfl
    rw [e,V0f 1 (by decide) (by decide),V1k,bs,V0w (m:=3) (n:=2) t3 (Krt V1l) (by decide) (by decide) (by decide) V1f V1l,V1q,bs]
    exact .of ⟨by simp [V1u],h3⟩
   ·have e:wr (((1:Nat):Int) + 1)=((2:Nat):Int):=rfl
    rw [e,V0f 2 (by decide) (by decide),V1m,bs,V0w (m:=3) (n:=3) t3 (Krt V1n) (by decide) (by decide) (by decide) V1f V1n,V1s,bs]
    exact .of ⟨by simp [V1u],h3⟩
 ·rintro ⟨a,b,d,e,f,g,i⟩ q
  exact .of q
theorem V21 (c:Int) (a:List Int) (h:a.length ≤ 1000000):Kbt (c,[a])=some (c :: a):=by
 rw [Kwd c [a] (by simp) (by simp; omega)]; simp
theorem V22 (c:Int) (a b:List Int) (h:a.length + b.length ≤ 1000000):Kbt (c,[a,b])=some (c :: (a ++ b)):=by
 rw [Kwd c [a,b] (by simp) (by simp; omega)]; simp
theorem V23 (d:Nat) (hd:d ≤ 10):2 ^ d ≤ 1024:=Nat.le_trans (Nat.pow_le_pow_right (by decide) hd) (by decide)
structure V24 (s:K02) (ctx:List (List Int)) (t:K00) (y:Kn8):Prop where
 ok:tOk (gN s.fSize true) (yN s.fSize true) ctx.length t=true
 cx:∀ q ∈ ctx,TyS s q
 bd:ctx.length + 2 * tsz t ≤ 1000000
 im:Ko0 (⟨s⟩,ctx,t)=some y
 fa:y.ffault=0
section
variable {s:K02} {n:Nat} (hs:Kvd s n) {ctx:List (List Int)} {t:K00} {y:Kn8}
include hs
theorem V24.tell (g:V24 s ctx t y):∃ x,Ky9 s n ctx t x y∧x.ffault=0∧x.fty=y.fty∧TyS s y.fty:=by
 obtain ⟨x,y',r⟩:=Kzh hs (tsz t) t ctx (Nat.le_refl _) g.ok g.cx g.bd
 have e:=r.im
 rw [g.im] at e
 cases e
 have hf:x.ffault=0:=by rw [← r.fa]; exact g.fa
 exact ⟨x,r,hf,r.ty.symm,by rw [r.ty]; exact (r.gd hf).1⟩
theorem V24.kid (g:V24 s ctx t y) {i:Nat} {k:K00} (hk:t.fKids[i]?=some k):∃ yk,y.fkids[i]?=some yk∧V24 s (Ky7 t i y.fkids ++ ctx) k yk∧(Ky7 t i y.fkids).length=Kqo t.fOp i:=by
 obtain ⟨x,r,hf,_⟩:=g.tell hs
 obtain ⟨yk,h1,h2⟩:=(r.kd hf).2 i k hk
 obtain ⟨hi,hg⟩:=List.getElem?_eq_some_iff.1 hk
 have hm:k ∈ t.fKids:=hg ▸ List.getElem_mem hi
 have h3:=Ktv t.fKids t.fOp ctx.length 0 i hi (Krb g.ok).2
 rw [hg,Nat.zero_add] at h3
 have h4:=Kta hm
 have h5:=Kqp t.fOp (i:Int)
 have h6:=g.bd
 have h7:=h2.ln
 refine ⟨yk,h1,⟨?_,?_,?_,h2.im,h2.fa⟩,h7⟩
 ·rw [List.length_append,h7,Nat.add_comm]; exact h3
 ·intro q hq
  rcases List.mem_append.1 hq with hq | hq
  ·exact h2.ty q hq
  ·exact g.cx q hq
 ·rw [List.length_append,h7]; omega
theorem V24.first (g:V24 s ctx t y) (h0:0 < t.fKids.length) (ha:Kqo t.fOp ((0:Nat):Int)=0):∃ k0 y0 x0 l,t.fKids[0]?=some k0∧y.fkids=y0 :: l∧(Ky9 s n ctx k0 x0 y0∧x0.ffault=0)∧Ke1 (s,ctx,k0)=some x0∧x0.fty=y0.fty∧TyS s y0.fty:=by
 have hk:t.fKids[0]?=some t.fKids[0]:=List.getElem?_eq_getElem h0
 obtain ⟨y0,h1,h2,h3⟩:=g.kid hs hk
 rw [ha] at h3
 rw [List.eq_nil_of_length_eq_zero h3,List.nil_append] at h2
 obtain ⟨x0,r,hf,h4,h5⟩:=h2.tell hs
 cases e:y.fkids with
 | nil=>rw [e] at h1; cases h1
 | cons z l =>
  rw [e] at h1
  cases h1
  exact ⟨_,_,x0,l,hk,rfl,⟨r,hf⟩,r.sp,h4,h5⟩
end
theorem V25 {s:K02} {c:Int} {a b:List Int} (hk:Kpc c=2) (hg:Kpy s.fSize true c=true) (ha:TyS s a) (hb:TyS s b) (hl:a.length + b.length + 1 ≤ 40):TyS s (c :: (a ++ b)):=by
 obtain ⟨A,a1,rfl,a3,a4⟩:=Kwn ha
 obtain ⟨B,b1,rfl,b3,b4⟩:=Kwn hb
 refine Kwo (T:=.bin c A B) ⟨hk,a1,b1⟩ (by rw [Ty.code,List.length_cons,List.length_append]; omega) ?_
 rw [Ty.code,List.all_cons,List.all_append,hg,a4,b4]; rfl
theorem V26 {s:K02} {c:Int} {a:List Int} (hk:Kpc c=1) (hg:Kpy s.fSize true c=true) (ha:TyS s a) (hl:a.length + 1 ≤ 40):TyS s (c :: a):=by
 obtain ⟨A,a1,rfl,a3,a4⟩:=Kwn ha
 refine Kwo (T:=.un c A) ⟨hk,a1⟩ (by rw [Ty.code,List.length_cons]; omega) ?_
 rw [Ty.code,List.all_cons,hg,a4]; rfl
theorem V27 {s:K02}:Kpy s.fSize true 1=true:=by unfold Kpy; simp
theorem V28 {s:K02}:Kpy s.fSize true 2=true:=by unfold Kpy; simp
theorem V29 {s:K02} {q:List Int} (h:TyS s q):1 ≤ q.length:=by
 obtain ⟨T,_,rfl,_,_⟩:=Kwn h
 exact Krz T
def V2a (s:K02) (m b:Nat) (t:K00):Prop:=tOk (gN s.fSize true) (yN s.fSize true) m t=true∧tsz t ≤ b
def V2b (s:K02) (ctx:List (List Int)):Prop:=∀ q ∈ ctx,TyS s q
theorem V2c {s:K02} {ctx:List (List Int)} {q:List Int} (h:V2b s ctx) (hq:TyS s q):V2b s (q :: ctx):=fun x hx=>by
 rcases List.mem_cons.1 hx with rfl | hx
 ·exact hq
 ·exact h x hx
theorem V2d {s:K02} {m:Nat} {i:Nat} (hi:i < m):V2a s m 1 ⟨0,(i:Int),[],[]⟩:=by
 refine ⟨?_,by simp [tsz,Kq4]⟩
 rw [Kqw]
 simp [Kqv,Kqu,Kqs,Kqt,inB,Kqe,Kqg]
 omega
theorem V2e {s:K02} {m:Nat} {x:Int} (hx:0 ≤ x∧x < 3):V2a s m 1 ⟨1,x,[],[]⟩:=by
 refine ⟨?_,by simp [tsz,Kq4]⟩
 rw [Kqw]
 simp [Kqv,Kqu,Kqs,Kqt,inB,Kqe,Kqg]
 omega
theorem V2f {s:K02} {op:Int} {m b1 b2:Nat} {k1 k2:K00} (hop:op=2∨op=4∨op=10) (h1:V2a s m b1 k1) (h2:V2a s m b2 k2):V2a s m (1 + b1 + b2) ⟨op,0,[],[k1,k2]⟩:=by
 refine ⟨?_,by have:=h1.2; have:=h2.2; simp [tsz,Kq4]; omega⟩
 rw [Kqw]
 rcases hop with rfl | rfl | rfl <;> simp [Kqv,Kqu,Kqs,Kqt,inB,Kqe,Kqg,Kqf,Kqo,h1.1,h2.1]
theorem V2g {s:K02} {m b1 b2 b3:Nat} {k1 k2 k3:K00} (h1:V2a s m b1 k1) (h2:V2a s m b2 k2) (h3:V2a s m b3 k3):V2a s m (1 + b1 + b2 + b3) ⟨3,0,[],[k1,k2,k3]⟩:=by
 refine ⟨?_,by have:=h1.2; have:=h2.2; have:=h3.2; simp [tsz,Kq4]; omega⟩
 rw [Kqw]
 simp [Kqv,Kqu,Kqs,Kqt,inB,Kqe,Kqg,Kqf,Kqo,h1.1,h2.1,h3.1]
theorem V2h {s:K02} {op:Int} {m b1:Nat} {q:List Int} {k1:K00} (hop:op=6∨op=7) (hq:TyS s q) (h1:V2a s m b1 k1):V2a s m (1 + b1) ⟨op,0,q,[k1]⟩:=by
 have hq:yN s.fSize true q=true:=hq
 refine ⟨?_,by have:=h1.2; simp [tsz,Kq4]; omega⟩
 rw [Kqw]
 rcases hop with rfl | rfl <;> simp [Kqv,Kqu,Kqs,Kqt,inB,Kqe,Kqg,Kqf,Kqo,h1.1,hq]
section
variable {s:K02} {n:Nat} (hs:Kvd s n)
include hs
theorem V2i {g:Nat} (h:g < n):Kpc (3 + (g:Int))=2∧Kpy s.fSize true (3 + (g:Int))=true:=by
 have:=hs.tab.hi
 refine ⟨by rcases Kpg (3 + (g:Int)) with q | q | q | q <;> omega,(Kwt hs (by omega)).2 (by omega)⟩
theorem V2j {g:Nat} (h:g < n):Kpc (19 + (g:Int))=1∧Kpy s.fSize true (19 + (g:Int))=true:=by
 have:=hs.tab.hi
 refine ⟨by rcases Kpg (19 + (g:Int)) with q | q | q | q <;> omega,(Kwu hs (by omega)).2 (by omega)⟩
theorem V2k:∀ (d:Nat) (c:K01) (data:Bool),d ≤ 3→Kzi c→Gv (Kbw (c,s,(d:Int),data)) (fun r=>(TyS s r.1∧r.1.length + 1 ≤ 2 ^ (d + 1))∧Kzi r.2):=by
 have hsz:=hs.tab.size
 have hlo:=hs.tab.lo
 intro d
 induction d with
 | zero =>
  intro c data _ h
  rw [Kbw.eq_def]
  simp only
  refine Gv.bind (Kzp h 6) ?_
  rintro ⟨x,c1⟩ ⟨hx,h1⟩
  simp only at hx h1 ⊢
  rw [show decide (((0:Nat):Int) ≤ 0)=true from rfl,if_pos rfl,bs,if_pos rfl]
  exact .of ⟨⟨Kws,by simp⟩,h1⟩
 | succ d ih =>
  intro c data hd h
  have hp:=V23 (d + 1) (by omega)
  have hp5:2 ^ (d + 1) ≤ 8:=Nat.le_trans (Nat.pow_le_pow_right (by decide) (show d + 1 ≤ 3 by omega)) (by decide)
  have hpe:2 ^ (d + 1 + 1)=2 ^ (d + 1) + 2 ^ (d + 1):=by rw [Nat.pow_succ]; omega
  have hp1:2 ≤ 2 ^ (d + 1):=Nat.le_trans (by decide) (Nat.pow_le_pow_right (n:=2) (by decide) (show 1 ≤ d + 1 by omega))
  have wd:wr (((d + 1:Nat):Int) - 1)=((d:Nat):Int):=by rw [Ko2 (by omega) (by omega)]; omega
  rw [Kbw.eq_def]
  simp only
  refine Gv.bind (Kzp h 6) ?_
  rintro ⟨x,c1⟩ ⟨hx,h1⟩
  simp only at hx h1 ⊢
  rw [show decide (((d + 1:Nat):Int) ≤ 0)=false from decide_eq_false (by omega),if_neg (by decide),bs]
  refine .ite (fun _=>.of ⟨⟨Kws,by simp; omega⟩,h1⟩) (fun _=>?_)
  rw [wd]
  refine Gv.bind (ih c1 data (by omega) h1) ?_
  rintro ⟨a,c2⟩ ⟨⟨ta,ha⟩,h2⟩
  simp only at ta ha h2 ⊢
  refine .ite (fun _=>?_) (fun _=>?_)
  ·refine Gv.bind (Kzp h2 _) ?_
   rintro ⟨y,c3⟩ ⟨hy,h3⟩
   simp only at hy h3 ⊢
   have hy:=hy.1 (by omega)
   obtain ⟨g,rfl⟩:∃ g:Nat,y=(g:Int):=⟨y.toNat,by omega⟩
   obtain ⟨k1,k2⟩:=V2j hs (g:=g) (by omega)
   have hb:=hs.tab.hi
   rw [Ko2 (by omega) (by omega),V21 _ _ (by omega),bs]
   exact .of ⟨⟨V26 k1 k2 ta (by omega),by simp; omega⟩,h3⟩
  refine Gv.bind (Q:=fun _=>True) (.ite (fun _=>.of trivial) (fun _=>.of trivial)) (fun v _=>?_)
  refine .ite (fun _=>?_) (fun _=>.ite (fun _=>?_) (fun _=>?_))
  ·refine Gv.bind (Kzp h2 _) ?_
   rintro ⟨y,c3⟩ ⟨hy,h3⟩
   simp only at hy h3 ⊢
   have hy:=hy.1 (by omega)
   obtain ⟨g,rfl⟩:∃ g:Nat,y=(g:Int):=⟨y.toNat,by omega⟩
   obtain ⟨k1,k2⟩:=V2i hs (g:=g) (by omega)
   have hbb:=hs.tab.hi
   refine Gv.bind (ih c3 data (by omega) h3) ?_
   rintro ⟨b,c4⟩ ⟨⟨tb,hb⟩,h4⟩
   simp only at tb hb h4 ⊢
   rw [Ko2 (by omega) (by omega),V22 _ _ _ (by omega),bs]
   exact .of ⟨⟨V25 k1 k2 ta tb (by omega),by simp; omega⟩,h4⟩
  ·refine Gv.bind (ih c2 data (by omega) h2) ?_
   rintro ⟨b,c4⟩ ⟨⟨tb,hb⟩,h4⟩
   simp only at tb hb h4 ⊢
   rw [V22 _ _ _ (by omega),bs]
   exact .of ⟨⟨V25 rfl V28 ta tb (by omega),by simp; omega⟩,h4⟩
  ·refine Gv.bind (ih c2 data (by omega) h2) ?_
   rintro ⟨b,c4⟩ ⟨⟨tb,hb⟩,h4⟩
   simp only at tb hb h4 ⊢
   rw [V22 _ _ _ (by omega),bs]
   exact .of ⟨⟨V25 rfl V27 ta tb (by omega),by simp; omega⟩,h4⟩
theorem V2l {ctx:List (List Int)} {t:K00} {b:Nat} (hc:V2b s ctx) (hl:ctx.length ≤ 1000) (hb:b ≤ 400000) (h:V2a s ctx.length b t) :
  ∃ x,Ke1 (s,ctx,t)=some x∧(x.ffault=0→TyS s x.fty∧∃ ns:List Nat,x.fneeds=Kv8 ns∧ns.length=ctx.length∧Kvo n ns):=by
 have:=h.2
 obtain ⟨x,y,r⟩:=Kzh hs (tsz t) t ctx (Nat.le_refl _) h.1 hc (by omega)
 exact ⟨x,r.sp,fun hf=>let ⟨g1,_,g2⟩:=r.gd hf; ⟨g1,g2⟩⟩
theorem V2m {ctx:List (List Int)} {t:K00} {b:Nat} (hc:V2b s ctx) (hl:ctx.length ≤ 1000) (hb:b ≤ 400000) (h:V2a s ctx.length b t) (i:Nat) (hi:i < ctx.length) :
  ∃ g:Nat,g < n∧Kee (s,ctx,t,(i:Int))=some (g:Int):=by
 obtain ⟨x,e,hx⟩:=V2l hs hc hl hb h
 unfold Kee
 simp only
 rw [e,bs]
 by_cases hf:x.ffault=0
 ·obtain ⟨_,ns,e2,e3,e4⟩:=hx hf
  have hi':i < ns.length:=by omega
  refine ⟨ns[i],e4 _ (List.getElem_mem hi'),?_⟩
  rw [if_neg (by simp [hf]),e2,Ko3 (by rw [Kv9]; exact hi'),bs]
  simp [Kv8]
 ·rw [if_pos (bne_iff_ne.2 hf)]
  exact ⟨0,Nat.lt_of_lt_of_le (by decide) hs.tab.lo,rfl⟩
theorem V2n {a b:Nat} (ha:a < n) (hb:b < n):∃ g:Nat,g < n∧Ka9 (s,(a:Int),(b:Int))=some (g:Int):=by
 obtain ⟨e,h⟩:=Kvk hs ha hb
 exact ⟨_,h,by rw [Kow hs.tab ha hb,e]⟩
theorem V2o (c0:K01) {g:Nat} (hg:g < n):∀ (k i:Nat) (c:K01),i + k=3→Kzi c→Gv (Kei (c0,s,(g:Int),c.fb,c.fi,c.fh,(i:Int))) (fun fl=>match fl with | .inl r=>Kzi ⟨r.1,r.2.1,r.2.2⟩ | .inr r=>(∃ h:Nat,h < n∧r.1=(h:Int))∧Kzi r.2):=by
 have hsz:=hs.tab.size
 have hlo:=hs.tab.lo
 intro k
 induction k with
 | zero =>
  intro i c hi h
  rw [Kei.eq_def]
  simp only
  rw [decide_eq_false (by omega),if_neg (by decide),bs]
  simp only
  rw [if_neg (by decide)]
  exact .of h
 | succ k ih =>
  intro i c hi h
  rw [Kei.eq_def]
  simp only
  rw [decide_eq_true (by omega),if_pos rfl]
  refine Gv.bind (Q:=fun r:List Int × Int × Int × Bool=>Kzi ⟨r.1,r.2.1,r.2.2.1⟩) (Gv.bind (Kzq h 3) (by rintro ⟨x,c1⟩ h1; exact .of h1)) ?_
  rintro ⟨a,b,d,v⟩ h1
  simp only at h1 ⊢
  refine .ite (fun _=>?_) (fun _=>.of h1)
  refine Gv.bind (Kzp h1 _) ?_
  rintro ⟨y,c3⟩ ⟨hy,h3⟩
  simp only at hy h3 ⊢
  have hy:=hy.1 (by omega)
  obtain ⟨q,rfl⟩:∃ q:Nat,y=(q:Int):=⟨y.toNat,by omega⟩
  rw [sLe hs.tab hg (by omega),bs]
  refine .ite (fun _=>.of ⟨⟨q,by omega,rfl⟩,h3⟩) (fun _=>?_)
  rw [Ko4 (by omega)]
  exact ih (i + 1) c3 (by omega) h3
theorem V2p {c:K01} (h:Kzi c) {g:Nat} (hg:g < n):Gv (Kel (c,s,(g:Int))) (fun r=>(∃ h:Nat,h < n∧r.1=(h:Int))∧Kzi r.2):=by
 have hsz:=hs.tab.size
 unfold Kel
 simp only
 rw [decide_eq_false (by omega),if_neg (by decide),decide_eq_false (by omega),bs,if_neg (by decide)]
 have:=V2o hs c hg 3 0 c rfl h
 rw [show ((0:Nat):Int)=0 from rfl] at this
 refine Gv.bind this ?_
 rintro (⟨a,b,d⟩ | ⟨r,c1⟩) q
 ·exact .of ⟨⟨g,hg,rfl⟩,q⟩
 ·exact .of q
theorem V2q {g:Nat} (h:g < n):gN s.fSize true (g:Int)=true:=by
 have:=hs.tab.size
 unfold gN
 simp
 omega
theorem V2r {m b1 b2 g:Nat} {k1 k2:K00} (hg:g < n) (h1:V2a s m b1 k1) (h2:V2a s (m + 2) b2 k2):V2a s m (1 + b1 + b2) ⟨5,(g:Int),[],[k1,k2]⟩:=by
 refine ⟨?_,by have:=h1.2; have:=h2.2; simp [tsz,Kq4]; omega⟩
 rw [Kqw]
 simp [Kqv,Kqu,Kqs,Kqt,inB,Kqe,Kqg,Kqf,Kqo,h1.1,h2.1,V2q hs hg]
theorem V2s {m b1 b2 b3 g:Nat} {k1 k2 k3:K00} (hg:g < n) (h1:V2a s m b1 k1) (h2:V2a s (m + 1) b2 k2) (h3:V2a s (m + 1) b3 k3):V2a s m (1 + b1 + b2 + b3) ⟨8,(g:Int),[],[k1,k2,k3]⟩:=by
 refine ⟨?_,by have:=h1.2; have:=h2.2; have:=h3.2; simp [tsz,Kq4]; omega⟩
 rw [Kqw]
 simp [Kqv,Kqu,Kqs,Kqt,inB,Kqe,Kqg,Kqf,Kqo,h1.1,h2.1,h3.1,V2q hs hg]
theorem V2t {m b1 b2 g:Nat} {k1 k2:K00} (hg:g < n) (h1:V2a s m b1 k1) (h2:V2a s (m + 1) b2 k2):V2a s m (1 + b1 + b2) ⟨12,(g:Int),[],[k1,k2]⟩:=by
 refine ⟨?_,by have:=h1.2; have:=h2.2; simp [tsz,Kq4]; omega⟩
 rw [Kqw]
 simp [Kqv,Kqu,Kqs,Kqt,inB,Kqe,Kqg,Kqf,Kqo,h1.1,h2.1,V2q hs hg]
theorem V2u {m b1 g:Nat} {k1:K00} (hg:g < n) (h1:V2a s m b1 k1):V2a s m (1 + b1) ⟨11,(g:Int),[],[k1]⟩:=by
 refine ⟨?_,by have:=h1.2; simp [tsz,Kq4]; omega⟩
 rw [Kqw]
 simp [Kqv,Kqu,Kqs,Kqt,inB,Kqe,Kqg,Kqf,Kqo,h1.1,V2q hs hg]
theorem V2v {m b1 g:Nat} {q:List Int} {k1:K00} (hg:g < n) (hq:TyS s q) (h1:V2a s (m + 1) b1 k1):V2a s m (1 + b1) ⟨9,(g:Int),q,[k1]⟩:=by
 have hq:yN s.fSize true q=true:=hq
 refine ⟨?_,by have:=h1.2; simp [tsz,Kq4]; omega⟩
 rw [Kqw]
 simp [Kqv,Kqu,Kqs,Kqt,inB,Kqe,Kqg,Kqf,Kqo,h1.1,hq,V2q hs hg]
end
theorem V2a.mono {s:K02} {m b b':Nat} {t:K00} (h:V2a s m b t) (hb:b ≤ b'):V2a s m b' t:=⟨h.1,Nat.le_trans h.2 hb⟩
theorem sOp (op N:Int) (ks:List K00):Kcd (op,N,ks)=some ⟨op,N,[],ks⟩:=rfl
def Dr (s:K02) (m b:Nat) (r:K00 × K01):Prop:=V2a s m b r.1∧Kzi r.2
section
variable {s:K02} {n:Nat} (hs:Kvd s n)
theorem V2w {c0 c:K01} (h:Kzi c) {ctx:List (List Int)} {ty:List Int} {deep:Int} (hl:ctx.length ≤ 1000) (hty:ty.length ≤ 1000) {f:Int} (hf:0 ≤ f∧f < ctx.length) (hq:∀ q ∈ ctx,q.length ≤ 1000):∀ (k i:Nat),i + k=ctx.length →
  Gv (Kf3 (c0,s,ctx,ty,deep,f,c,(i:Int))) (fun fl=>match fl with | .inl _=>True | .inr r=>Dr s ctx.length 1 r):=by
 intro k
 induction k with
 | zero =>
  intro i hi
  rw [Kf3.eq_def]
  simp only
  rw [Ko6 (by omega),if_neg (by decide)]
  exact .of trivial
 | succ k ih =>
  intro i hi
  obtain ⟨g,rfl⟩:∃ g:Nat,f=(g:Int):=⟨f.toNat,by omega⟩
  have e:Int.tmod (wr ((g:Int) + (i:Int))) (ctx.length:Int)=(((g + i) % ctx.length:Nat):Int):=by
   rw [Kt2 (by omega) (by omega),V0a]
  have hm:(g + i) % ctx.length < ctx.length:=Nat.mod_lt _ (by omega)
  have ck:chk ((ctx.length:Int) ≠ 0)=some ():=by unfold chk; rw [if_pos (by omega)]
  rw [Kf3.eq_def]
  simp only
  rw [Ko5 (by omega),if_pos rfl,ck,bs,e,Ko3 hm,bs,Ku5 _ ty (by omega),bs]
  refine .ite (fun _=>?_) (fun _=>?_)
  ·rw [sOp,bs]
   exact .of ⟨V2d hm,h⟩
  ·rw [Ko4 (by omega)]
   exact ih (i + 1) (by omega)
include hs
theorem V2x {deep:Int} {b:Nat} {ctx:List (List Int)} {p q:List Int} {g:Nat} (hg:g < n) (P:Kwp s (3 + (g:Int)) p q) (hg15:g ≤ 15) (hc:V2b s ctx) (hl:ctx.length ≤ 900) (hb:b ≤ 300000) (hb1:1 ≤ b) (hd:-900 ≤ deep∧deep ≤ 100)
  (H:∀ c,Kzi c→Gv (Kfb (c,s,p :: ctx,q,wr (deep - 1))) (Dr s (ctx.length + 1) b)) (c:K01) (h:Kzi c):Gv (Kfc (c,s,ctx,(3 + (g:Int)) :: (p ++ q),deep)) (Dr s ctx.length (1 + b)):=by
 have hlp:=Kwm P.ya
 have hlq:=Kwm P.yb
 have hc':V2b s (p :: ctx):=V2c hc P.ya
 have loop:∀ (k i:Nat) (c:K01) (u1 u2:Int) (u3:List Int) (u4:List K00),i + k=3→Kzi c→V2a s (ctx.length + 1) b ⟨u1,u2,u3,u4⟩ →
   Gv (Kfd (s,deep,p,q,(g:Int),p :: ctx,c.fb,c.fi,c.fh,u1,u2,u3,u4,(i:Int))) (fun r=>V2a s (ctx.length + 1) b ⟨r.1,r.2.1,r.2.2.1,r.2.2.2.1⟩∧Kzi ⟨r.2.2.2.2.1,r.2.2.2.2.2.1,r.2.2.2.2.2.2⟩):=by
  intro k
  induction k with
  | zero =>
   intro i c u1 u2 u3 u4 hi h ht
   rw [Kfd.eq_def]
   simp only
   rw [decide_eq_false (by omega),if_neg (by decide),bs,if_neg (by decide)]
   exact .of ⟨ht,h⟩
  | succ k ih =>
   intro i c u1 u2 u3 u4 hi h ht
   rw [Kfd.eq_def]
   simp only
   obtain ⟨m,m1,m2⟩:=V2m hs hc' (by simp; omega) (by omega) (t:=⟨u1,u2,u3,u4⟩) (b:=b) (by simpa using ht) 0 (by simp)
   rw [show ((0:Nat):Int)=0 from rfl] at m2
   rw [decide_eq_true (by omega),if_pos rfl,m2,bs,sLe hs.tab m1 hg,bs,bs]
   refine .ite (fun _=>?_) (fun _=>.of ⟨ht,h⟩)
   refine Gv.bind (H c h) ?_
   rintro ⟨⟨x1,x2,x3,x4⟩,c2⟩ ⟨ht2,h2⟩
   simp only at ht2 h2 ⊢
   refine Gv.bind (Q:=fun _=>True) (.ite (fun _=>?_) (fun _=>.of trivial)) (fun v _=>?_)
   ·rw [Ku5 p q (by omega),bs]; exact .of trivial
   refine Gv.bind (Q:=fun r:Int × Int × List Int × List K00=>V2a s (ctx.length + 1) b ⟨r.1,r.2.1,r.2.2.1,r.2.2.2⟩) (.ite (fun _=>?_) (fun _=>.of ht2)) ?_
   ·rw [sOp,bs]
    exact .of ((V2d (i:=0) (by omega)).mono hb1)
   ·rintro ⟨a1,a2,a3,a4⟩ ha
    simp only at ha ⊢
    rw [Ko4 (by omega)]
    exact ih (i + 1) c2 a1 a2 a3 a4 (by omega) h2 ha
 rw [Kfc.eq_def]
 simp only
 have i0:idx ((3 + (g:Int)) :: (p ++ q)) 0=some (3 + (g:Int)):=rfl
 rw [P.p0,bs,P.p1,bs,i0,bs,Kz9 g hg15,bs,Kwb ctx [p] (by simp; omega),bs]
 refine Gv.bind (H c h) ?_
 rintro ⟨⟨x1,x2,x3,x4⟩,c1⟩ ⟨ht,h1⟩
 simp only at ht h1 ⊢
 refine Gv.bind (loop 3 0 c1 x1 x2 x3 x4 rfl h1 ht) ?_
 rintro ⟨a1,a2,a3,a4,a5,a6,a7⟩ ⟨q1,q2⟩
 exact .of ⟨V2v hs hg P.ya q1,q2⟩
theorem V2y {deep:Int} {f:List Int→Nat} {B:Nat} {ctx:List (List Int)} {ty:List Int} (hd:-900 ≤ deep∧deep ≤ 100) (hc:V2b s ctx) (hl:ctx.length ≤ 900) (hty:TyS s ty)
  (hB:1 ≤ B) (hf1:∀ q,1 ≤ q.length→1 ≤ f q) (hf:∀ q,f q ≤ 300000) (hB2:∀ a b:List Int,a.length + b.length + 1=ty.length→1 + f a + f b ≤ B) (hB1:∀ a:List Int,a.length < ty.length→1 + f a ≤ B) (hBa:0 < deep→1 + f ty + f ty ≤ B)
  (H:∀ c ctx' ty',Kzi c→V2b s ctx'→ctx'.length ≤ ctx.length + 1→(ctx'.length=ctx.length∨ty'.length + 2 ≤ ty.length)→TyS s ty'→(ty'.length < ty.length∨0 < deep∧ty'=ty)→Gv (Kfb (c,s,ctx',ty',wr (deep - 1))) (Dr s ctx'.length (f ty')))
  (HA:0 < deep→∀ c,Kzi c→Gv (Kfe (c,s,ctx,ty,wr (deep - 1))) (Dr s ctx.length B)) (c:K01) (h:Kzi c):Gv (Kfb (c,s,ctx,ty,deep)) (Dr s ctx.length B):=by
 have htl:=Kwm hty
 rw [Kfb.eq_def]
 simp only
 refine Gv.bind (Kzp h 5) ?_
 rintro ⟨x,c1⟩ ⟨hx,h1⟩
 simp only at hx h1 ⊢
 refine Gv.bind (Q:=fun fl:(List Int × Int × Int) ⊕ (K00 × K01)=>match fl with | .inl r=>Kzi ⟨r.1,r.2.1,r.2.2⟩ | .inr r=>Dr s ctx.length B r) (.ite (fun _=>?_) (fun _=>.of h1)) ?_
 ·refine Gv.bind (Kzp h1 _) ?_
  rintro ⟨y,c2⟩ ⟨hy,h2⟩
  simp only at hy h2 ⊢
  by_cases h0:ctx.length=0
  ·have e:Kf3 (c,s,ctx,ty,deep,y,c2,0)=some (.inl ()):=by
    rw [Kf3.eq_def]
    simp only
    rw [decide_eq_false (by omega),if_neg (by decide)]
   rw [e,bs]
   exact .of h2
  ·have l0:=V2w (s:=s) (c0:=c) h2 (ctx:=ctx) (ty:=ty) (deep:=deep) (by omega) (by omega) (hy.1 (by omega)) (fun q hq=>by have:=Kwm (hc q hq); omega) ctx.length 0 (by omega)
   rw [show ((0:Nat):Int)=0 from rfl] at l0
   refine Gv.bind l0 ?_
   rintro (u | r) hr
   ·exact .of h2
   ·exact .of ⟨hr.1.mono hB,hr.2⟩
 rintro (⟨a1,a2,a3⟩ | r) q
 rotate_left
 ·exact .of q
 simp only at q ⊢
 refine Gv.bind (Q:=fun r:List Int × Int × Int × Bool=>Kzi ⟨r.1,r.2.1,r.2.2.1⟩∧(r.2.2.2=true→0 < deep)) (.ite (fun hb=>?_) (fun _=>.of ⟨q,fun h=>by cases h⟩)) ?_
 ·have hb:=of_decide_eq_true hb
  exact Gv.bind (Kzq q 3) (by rintro ⟨v,c2⟩ h2; exact .of ⟨h2,fun _=>hb⟩)
 rintro ⟨b1,b2,b3,v⟩ ⟨h3,hv⟩
 simp only at h3 hv ⊢
 refine .ite (fun hvt=>?_) (fun _=>?_)
 ·refine Gv.bind (HA (hv hvt) _ h3) ?_
  rintro ⟨t,c4⟩ ht
  exact .of ht
 obtain ⟨c0,t0,rfl⟩:∃ c0 t0,ty=c0 :: t0:=by
  cases ty with
  | nil=>have:=V29 hty; simp at this
  | cons c0 t0=>exact ⟨c0,t0,rfl⟩
 rw [show idx (c0 :: t0) 0=some c0 from rfl,bs]
 have add:Gv ((if (c0 == 0)=true then if decide (deep > 0)=true then K8d (⟨b1,b2,b3⟩,2) >>= fun (r:Bool × K01)=>some (r.2.fb,r.2.fi,r.2.fh,r.1) else some (b1,b2,b3,false) else some (b1,b2,b3,false)):Option (List Int × Int × Int × Bool)) (fun r=>Kzi ⟨r.1,r.2.1,r.2.2.1⟩∧(r.2.2.2=true→0 < deep)):=by
  refine .ite (fun _=>.ite (fun hb=>?_) (fun _=>.of ⟨h3,fun h=>by cases h⟩)) (fun _=>.of ⟨h3,fun h=>by cases h⟩)
  have hb:=of_decide_eq_true hb
  exact Gv.bind (Kzq h3 2) (by rintro ⟨v,c2⟩ h2; exact .of ⟨h2,fun _=>hb⟩)
 refine Gv.bind add ?_
 rintro ⟨d1,d2,d3,w⟩ ⟨h4,hw⟩
 simp only at h4 hw ⊢
 refine .ite (fun hwt=>?_) (fun _=>?_)
 ·have hp:=hw hwt
  refine Gv.bind (H _ ctx _ h4 hc (by omega) (.inl rfl) hty (.inr ⟨hp,rfl⟩)) ?_
  rintro ⟨t1,e1⟩ ⟨ht1,k1⟩
  simp only at ht1 k1 ⊢
  refine Gv.bind (H _ ctx _ k1 hc (by omega) (.inl rfl) hty (.inr ⟨hp,rfl⟩)) ?_
  rintro ⟨t2,e2⟩ ⟨ht2,k2⟩
  simp only at ht2 k2 ⊢
  rw [sOp,bs]
  exact .of ⟨(V2f (.inl rfl) ht1 ht2).mono (hBa hp),k2⟩
 rcases Kwv hs hty with e | ⟨a,b,e,P⟩ | ⟨a,b,e,P⟩ | ⟨g,a,b,hg,h15,e,P⟩ | ⟨g,a,hg,h15,e,P⟩
 ·cases e
  rw [if_pos (by decide)]
  refine Gv.bind (Kzp h4 3) ?_
  rintro ⟨y,c2⟩ ⟨hy,h2⟩
  simp only at hy h2 ⊢
  rw [sOp,bs]
  exact .of ⟨(V2e (hy.1 (by decide))).mono hB,h2⟩
 ·have hlen:a.length + b.length + 1=(c0 :: t0).length:=by rw [e]; simp
  have la:a.length < (c0 :: t0).length:=by omega
  have lb:b.length < (c0 :: t0).length:=by omega
  cases e
  rw [if_neg (by decide),if_pos (by decide),P.p0,bs]
  refine Gv.bind (H _ ctx _ h4 hc (by omega) (.inl rfl) P.ya (.inl la)) ?_
  rintro ⟨t1,e1⟩ ⟨ht1,k1⟩
  simp only at ht1 k1 ⊢
  rw [P.p1,bs]
  refine Gv.bind (H _ ctx _ k1 hc (by omega) (.inl rfl) P.yb (.inl lb)) ?_
  rintro ⟨t2,e2⟩ ⟨ht2,k2⟩
  simp only at ht2 k2 ⊢
  rw [sOp,bs]
  exact .of ⟨(V2f (.inr (.inl rfl)) ht1 ht2).mono (hB2 a b hlen),k2⟩
 ·have hlen:a.length + b.length + 1=(c0 :: t0).length:=by rw [e]; simp
  have la:a.length < (c0 :: t0).length:=by omega
  have lb:b.length < (c0 :: t0).length:=by omega
  cases e
  rw [if_neg (by decide),if_neg (by decide)]
  refine Gv.bind (Q:=fun r:List Int × Int × Int × Bool=>Kzi ⟨r.1,r.2.1,r.2.2.1⟩) (.ite (fun _=>?_) (fun _=>.of h4)) ?_
  ·exact Gv.bind (Kzq h4 2) (by rintro ⟨v,c2⟩ h2; exact .of h2)
  rintro ⟨f1,f2,f3,z⟩ h5
  simp only at h5 ⊢
  refine .ite (fun _=>?_) (fun _=>?_)
  ·rw [P.p1,bs,P.p0,bs]
   refine Gv.bind (H _ ctx _ h5 hc (by omega) (.inl rfl) P.ya (.inl la)) ?_
   rintro ⟨t1,e1⟩ ⟨ht1,k1⟩
   simp only at ht1 k1 ⊢
   exact .of ⟨(V2h (.inl rfl) P.yb ht1).mono (hB1 a la),k1⟩
  ·rw [if_pos (by decide),P.p0,bs,P.p1,bs]
   refine Gv.bind (H _ ctx _ h5 hc (by omega) (.inl rfl) P.yb (.inl lb)) ?_
   rintro ⟨t1,e1⟩ ⟨ht1,k1⟩
   simp only at ht1 k1 ⊢
   exact .of ⟨(V2h (.inr rfl) P.ya ht1).mono (hB1 b lb),k1⟩
 ·have hlen:a.length + b.length + 1=(c0 :: t0).length:=by rw [e]; simp
  have hal:=V29 P.ya
  have lb:b.length < (c0 :: t0).length:=by omega
  have lb2:b.length + 2 ≤ (c0 :: t0).length:=by omega
  cases e
  have hbx:Kcj (3 + (g:Int))=some false:=by rw [Kpe,Kz7 g h15]
  rw [if_neg (by simp; omega),if_neg (by simp; omega),if_neg (by simp; omega),bs]
  simp only
  rw [if_neg (by decide),if_neg (by simp; omega),hbx,bs,if_neg (by decide)]
  have F:=V2x hs hg P h15 hc hl (b:=f b) (hf b) (hf1 b (V29 P.yb)) hd (fun c hcc=>H c (a :: ctx) b hcc (V2c hc P.ya) (by simp) (.inr lb2) P.yb (.inl lb)) _ h4
  refine Gv.bind F ?_
  rintro ⟨t1,e1⟩ ⟨ht1,k1⟩
  exact .of ⟨ht1.mono (hB1 b lb),k1⟩
 ·have hlen:a.length + 1=(c0 :: t0).length:=by rw [e]; simp
  have la:a.length < (c0 :: t0).length:=by omega
  cases e
  have hbx:Kcj (19 + (g:Int))=some true:=by rw [Kpe,Kz8 g h15]
  rw [if_neg (by simp; omega),if_neg (by simp; omega),if_neg (by simp; omega),bs]
  simp only
  rw [if_neg (by decide),if_neg (by simp; omega),hbx,bs,if_pos rfl,Kza g h15,bs,P.p0,bs]
  refine Gv.bind (H _ ctx _ h4 hc (by omega) (.inl rfl) P.ya (.inl la)) ?_
  rintro ⟨t1,e1⟩ ⟨ht1,k1⟩
  simp only at ht1 k1 ⊢
  rw [sOp,bs]
  exact .of ⟨(V2u hs hg ht1).mono (hB1 _ la),k1⟩
end
mutual
theorem V2z {g g':Int→Bool} {y y':List Int→Bool} (hg:∀ x,g x=true→g' x=true) (hy:∀ q,y q=true→y' q=true):∀ (t:K00) (n:Nat),tOk g y n t=true→tOk g' y' n t=true
 | ⟨op,N,ty,ks⟩,n,h=>by
  rw [Ku9,Bool.and_eq_true] at h ⊢
  refine ⟨?_,V30 hg hy ks op n 0 h.2⟩
  have h1:=h.1
  unfold Kqu Kqs Kqt at h1 ⊢
  simp only [Bool.and_eq_true] at h1 ⊢
  refine ⟨⟨h1.1.1,?_⟩,?_⟩
  ·have h2:=h1.1.2
   split at h2
   ·rename_i q; rw [if_pos q]; exact h2
   ·rename_i q
    rw [if_neg q]
    split at h2
    ·rename_i q2; rw [if_pos q2]; exact h2
    ·rename_i q2
     rw [if_neg q2]
     split at h2
     ·rename_i q3; rw [if_pos q3]; exact hg _ h2
     ·rename_i q3; rw [if_neg q3]; exact h2
  ·have h2:=h1.2
   split at h2
   ·rename_i q; rw [if_pos q]; exact hy _ h2
   ·rename_i q; rw [if_neg q]; exact h2
theorem V30 {g g':Int→Bool} {y y':List Int→Bool} (hg:∀ x,g x=true→g' x=true) (hy:∀ q,y q=true→y' q=true):∀ (ks:List K00) (op:Int) (n i:Nat),Kqv g y op n i ks=true→Kqv g' y' op n i ks=true
 | [],op,n,i,_=>by rw [Kqv]
 | k :: ks,op,n,i,h=>by
  rw [Kua,Bool.and_eq_true] at h ⊢
  exact ⟨V2z hg hy k _ h.1,V30 hg hy ks op n (i + 1) h.2⟩
end
theorem V2a.tms {s:K02} {m b:Nat} {t:K00} (h:V2a s m b t):tms t ≤ 43 * b:=by
 have h1:=V2z (g':=gN s.fSize true) (y':=wtB) (fun _ h=>h) (fun q hq=>by unfold yN at hq; rw [Bool.and_eq_true] at hq; exact hq.1) t m h.1
 have:=(Kuw t m h1).1
 have:=h.2
 omega
theorem V31 {s:K02} {m b:Nat} {t:K00} (h:V2a s m b t) (hm:m ≤ 1000) (hb:b ≤ 100000):∃ u,Kes (t,1,0)=some u∧V2a s (m + 1) b u:=by
 have h2:=h.2
 have h3:=h.tms
 refine ⟨shf ((1:Nat):Int) 0 t,?_,?_,?_⟩
 ·exact Kti 1 1000000 (by decide) (by decide) t 0 (Ktk (by omega) t (Ktm _ _ t m h.1)) (by omega) (by decide) (by omega)
 ·exact Kup _ _ 1 t m 0 h.1
 ·rw [Kul]; exact h.2
def V32 (s:K02) (D b:Nat):Prop:=∀ (deep:Int) (ctx:List (List Int)) (ty:List Int),deep ≤ D→-500 ≤ deep→ty.length ≤ 7→V2b s ctx→ctx.length + 20 * D + 7 ≤ 500→TyS s ty→∀ c,Kzi c→Gv (Kfb (c,s,ctx,ty,deep)) (Dr s ctx.length b)
section
variable {s:K02} {n:Nat} (hs:Kvd s n)
include hs
theorem V33:∀ (L:Nat) (deep:Int) (ctx:List (List Int)) (ty:List Int),ty.length ≤ L→L ≤ 40→deep ≤ 0→-900 + (ty.length:Int) ≤ deep→V2b s ctx→ctx.length + ty.length ≤ 900→TyS s ty→∀ c,Kzi c→Gv (Kfb (c,s,ctx,ty,deep)) (Dr s ctx.length ty.length):=by
 intro L
 induction L with
 | zero =>
  intro deep ctx ty h1 _ _ _ _ _ ht
  have:=V29 ht
  omega
 | succ L ih =>
  intro deep ctx ty h1 hL hd0 hd hc hl ht c h
  have htp:=V29 ht
  refine V2y hs (f:=fun q=>min q.length 300000) (B:=ty.length) (by omega) hc (by omega) ht htp (fun q hq=>by omega) (fun q=>by omega) (fun a b hab=>by omega) (fun a ha=>by omega) (fun h=>absurd h (by omega)) (fun c' ctx' ty' hc' hcx hlx hor hty' hlt=>?_) (fun h=>absurd h (by omega)) c h
  have hty:ty'.length < ty.length:=by
   rcases hlt with h | h
   ·exact h
   ·omega
  rw [Ko2 (by omega) (by omega)]
  have:=ih (deep - 1) ctx' ty' (by omega) (by omega) (by omega) (by omega) hcx (by omega) hty' c' hc'
  refine this.mono (fun r hr=>⟨hr.1.mono ?_,hr.2⟩)
  have:=Kwm hty'
  omega
theorem V34:V32 s 0 7:=fun deep ctx ty h1 h2 h3 h4 h5 h6 c h =>
 (V33 hs 7 deep ctx ty h3 (by decide) (by omega) (by omega) h4 (by omega) h6 c h).mono (fun r hr=>⟨hr.1.mono h3,hr.2⟩)
theorem V35 {c:K01} (h:Kzi c) (data:Bool):Gv (Kbw (c,s,1,data)) (fun r=>(TyS s r.1∧r.1.length ≤ 3)∧Kzi r.2) :=
 (V2k hs 1 c data (by decide) h).mono (fun r hr=>⟨⟨hr.1.1,by have:=hr.1.2; omega⟩,hr.2⟩)
theorem V36 {c:K01} (h:Kzi c) (data:Bool):Gv (Kbw (c,s,2,data)) (fun r=>(TyS s r.1∧r.1.length ≤ 7)∧Kzi r.2) :=
 (V2k hs 2 c data (by decide) h).mono (fun r hr=>⟨⟨hr.1.1,by have:=hr.1.2; omega⟩,hr.2⟩)
theorem V37 {D b:Nat} (IH:V32 s D b) (hb1:7 ≤ b) (hb:b ≤ 90000) {deep:Int} (hd:0 ≤ deep∧deep ≤ D) (hD:D ≤ 10) {ctx:List (List Int)} {ty:List Int} (hc:V2b s ctx) (hl:ctx.length + 2 + 20 * D + 7 ≤ 500) (ht:TyS s ty) (htl:ty.length ≤ 7) (c:K01) (h:Kzi c) :
  Gv (Kfe (c,s,ctx,ty,deep)) (Dr s ctx.length (5 + 3 * b)):=by
 have h1n:1 < n:=hs.tab.lo
 have hn16:=hs.tab.hi
 rw [Kfe.eq_def]
 simp only
 refine Gv.bind (Kzp h 6) ?_
 rintro ⟨x,c0⟩ ⟨hx,h0⟩
 simp only at hx h0 ⊢
 refine .ite (fun _=>?_) (fun _=>.ite (fun _=>?_) (fun _=>.ite (fun _=>?_) (fun _=>.ite (fun _=>?_) (fun _=>?_))))
 ·refine Gv.bind (IH deep ctx [0] hd.2 (by omega) (by decide) hc (by omega) Kws _ h0) ?_
  rintro ⟨t1,c1⟩ ⟨k1,h1⟩
  simp only at k1 h1 ⊢
  refine Gv.bind (IH deep ctx ty hd.2 (by omega) htl hc (by omega) ht _ h1) ?_
  rintro ⟨t2,c2⟩ ⟨k2,h2⟩
  simp only at k2 h2 ⊢
  refine Gv.bind (IH deep ctx ty hd.2 (by omega) htl hc (by omega) ht _ h2) ?_
  rintro ⟨t3,c3⟩ ⟨k3,h3⟩
  simp only at k3 h3 ⊢
  rw [sOp,bs]
  exact .of ⟨(V2g k1 k2 k3).mono (by omega),h3⟩
 ·refine Gv.bind (Kzq h0 2) ?_
  rintro ⟨v,c1⟩ h1
  simp only at h1 ⊢
  refine Gv.bind (V35 hs h1 v) ?_
  rintro ⟨a,c2⟩ ⟨⟨ta,la⟩,h2⟩
  simp only at ta la h2 ⊢
  refine Gv.bind (V35 hs h2 true) ?_
  rintro ⟨e,c3⟩ ⟨⟨te,le_⟩,h3⟩
  simp only at te le_ h3 ⊢
  have hc':V2b s (e :: a :: ctx):=V2c (V2c hc ta) te
  rw [Kwb ctx [e,a] (by simp; omega),bs]
  refine Gv.bind (IH deep (e :: a :: ctx) ty hd.2 (by omega) htl hc' (by simp; omega) ht _ h3) ?_
  rintro ⟨t1,c4⟩ ⟨k1,h4⟩
  simp only at k1 h4 ⊢
  obtain ⟨g0,z0,n0⟩:=V2m hs hc' (by simp; omega) (by omega) (t:=t1) (b:=b) (by simpa using k1) 0 (by simp)
  obtain ⟨g1,z1,n1⟩:=V2m hs hc' (by simp; omega) (by omega) (t:=t1) (b:=b) (by simpa using k1) 1 (by simp)
  have n0:Kee (s,[e,a] ++ ctx,t1,0)=some (g0:Int):=n0
  have n1:Kee (s,[e,a] ++ ctx,t1,1)=some (g1:Int):=n1
  obtain ⟨g2,z2,n2⟩:=V2n hs z0 z1
  obtain ⟨g3,z3,n3⟩:=V2n hs h1n z2
  rw [n0,bs,n1,bs,n2,bs,show (1:Int)=((1:Nat):Int) from rfl,n3,bs]
  refine Gv.bind (V2p hs h4 z3) ?_
  rintro ⟨q,c5⟩ ⟨⟨g4,z4,rfl⟩,h5⟩
  simp only at h5 ⊢
  rw [show ((1:Nat):Int)=1 from rfl,V22 _ _ _ (by omega),bs]
  refine Gv.bind (IH deep ctx (1 :: (a ++ e)) hd.2 (by omega) (by simp; omega) hc (by omega) (V25 rfl V27 ta te (by omega)) _ h5) ?_
  rintro ⟨t2,c6⟩ ⟨k2,h6⟩
  simp only at k2 h6 ⊢
  rw [sOp,bs]
  exact .of ⟨(V2r hs z4 k2 (by simpa using k1)).mono (by omega),h6⟩
 ·refine Gv.bind (V35 hs h0 true) ?_
  rintro ⟨a,c2⟩ ⟨⟨ta,la⟩,h2⟩
  simp only at ta la h2 ⊢
  refine Gv.bind (V35 hs h2 true) ?_
  rintro ⟨e,c3⟩ ⟨⟨te,le_⟩,h3⟩
  simp only at te le_ h3 ⊢
  have hca:V2b s (a :: ctx):=V2c hc ta
  have hce:V2b s (e :: ctx):=V2c hc te
  rw [Kwb ctx [a] (by simp; omega),bs,Kwb ctx [e] (by simp; omega),bs]
  refine Gv.bind (IH deep (a :: ctx) ty hd.2 (by omega) htl hca (by simp; omega) ht _ h3) ?_
  rintro ⟨t1,c4⟩ ⟨k1,h4⟩
  simp only at k1 h4 ⊢
  refine Gv.bind (IH deep (e :: ctx) ty hd.2 (by omega) htl hce (by simp; omega) ht _ h4) ?_
  rintro ⟨t2,c5⟩ ⟨k2,h5⟩
  simp only at k2 h5 ⊢
  obtain ⟨g0,z0,n0⟩:=V2m hs hca (by simp; omega) (by omega) (t:=t1) (b:=b) (by simpa using k1) 0 (by simp)
  obtain ⟨g1,z1,n1⟩:=V2m hs hce (by simp; omega) (by omega) (t:=t2) (b:=b) (by simpa using k2) 0 (by simp)
  have n0:Kee (s,[a] ++ ctx,t1,0)=some (g0:Int):=n0
  have n1:Kee (s,[e] ++ ctx,t2,0)=some (g1:Int):=n1
  obtain ⟨g2,z2,n2⟩:=V2n hs z0 z1
  obtain ⟨g3,z3,n3⟩:=V2n hs h1n z2
  rw [n0,bs,n1,bs,n2,bs,show (1:Int)=((1:Nat):Int) from rfl,n3,bs]
  refine Gv.bind (V2p hs h5 z3) ?_
  rintro ⟨q,c6⟩ ⟨⟨g4,z4,rfl⟩,h6⟩
  simp only at h6 ⊢
  rw [V22 _ _ _ (by omega),bs]
  refine Gv.bind (IH deep ctx (2 :: (a ++ e)) hd.2 (by omega) (by simp; omega) hc (by omega) (V25 rfl V28 ta te (by omega)) _ h6) ?_
  rintro ⟨t3,c7⟩ ⟨k3,h7⟩
  simp only at k3 h7 ⊢
  rw [sOp,bs]
  exact .of ⟨(V2s hs z4 k3 (by simpa using k1) (by simpa using k2)).mono (by omega),h7⟩
 ·refine Gv.bind (Kzq h0 2) ?_
  rintro ⟨v,c1⟩ h1
  simp only at h1 ⊢
  refine Gv.bind (V35 hs h1 v) ?_
  rintro ⟨a,c2⟩ ⟨⟨ta,la⟩,h2⟩
  simp only at ta la h2 ⊢
  have hca:V2b s (a :: ctx):=V2c hc ta
  rw [Kwb ctx [a] (by simp; omega),bs]
  refine Gv.bind (IH deep (a :: ctx) ty hd.2 (by omega) htl hca (by simp; omega) ht _ h2) ?_
  rintro ⟨t1,c4⟩ ⟨k1,h4⟩
  simp only at k1 h4 ⊢
  obtain ⟨g0,z0,n0⟩:=V2m hs hca (by simp; omega) (by omega) (t:=t1) (b:=b) (by simpa using k1) 0 (by simp)
  have n0:Kee (s,[a] ++ ctx,t1,0)=some (g0:Int):=n0
  rw [n0,bs]
  refine Gv.bind (V2p hs h4 z0) ?_
  rintro ⟨q,c6⟩ ⟨⟨g4,z4,rfl⟩,h6⟩
  simp only at h6 ⊢
  obtain ⟨k19,l19⟩:=V2j hs z4
  rw [Ko2 (by omega) (by omega),V21 _ _ (by omega),bs]
  refine Gv.bind (IH deep ctx ((19 + (g4:Int)) :: a) hd.2 (by omega) (by simp; omega) hc (by omega) (V26 k19 l19 ta (by omega)) _ h6) ?_
  rintro ⟨t2,c7⟩ ⟨k2,h7⟩
  simp only at k2 h7 ⊢
  rw [sOp,bs]
  exact .of ⟨(V2t hs h1n k2 (by simpa using k1)).mono (by omega),h7⟩
 ·refine Gv.bind (Kzq h0 2) ?_
  rintro ⟨v,c1⟩ h1
  simp only at h1 ⊢
  refine Gv.bind (V36 hs h1 v) ?_
  rintro ⟨a,c2⟩ ⟨⟨ta,la⟩,h2⟩
  simp only at ta la h2 ⊢
  have hca:V2b s (a :: ctx):=V2c hc ta
  rw [Kwb ctx [a] (by simp; omega),bs]
  refine Gv.bind (IH deep (a :: ctx) ty hd.2 (by omega) htl hca (by simp; omega) ht _ h2) ?_
  rintro ⟨t1,c4⟩ ⟨k1,h4⟩
  simp only at k1 h4 ⊢
  obtain ⟨g0,z0,n0⟩:=V2m hs hca (by simp; omega) (by omega) (t:=t1) (b:=b) (by simpa using k1) 0 (by simp)
  have n0:Kee (s,[a] ++ ctx,t1,0)=some (g0:Int):=n0
  rw [n0,bs]
  refine Gv.bind (V2p hs h4 z0) ?_
  rintro ⟨q,c6⟩ ⟨⟨g4,z4,rfl⟩,h6⟩
  simp only at h6 ⊢
  obtain ⟨k3,l3⟩:=V2i hs z4
  refine Gv.bind (Kzq h6 4) ?_
  rintro ⟨w,c7⟩ h7
  simp only at h7 ⊢
  have arg:=IH (deep - 1) ctx a (by omega) (by omega) la hc (by omega) ta c7 h7
  have ew:wr (deep - 1)=deep - 1:=Ko2 (by omega) (by omega)
  have kf:=V2v hs z4 ta (b1:=b) (by simpa using k1)
  refine Gv.bind (Q:=fun fl:Unit ⊕ (K00 × K01)=>match fl with | .inl _=>True | .inr r=>Dr s ctx.length (5 + 3 * b) r) (.ite (fun _=>?_) (fun _=>.of trivial)) ?_
  ·rw [Ko2 (by omega) (by omega),V22 _ _ _ (by omega),bs]
   refine .ite (fun hlt=>?_) (fun _=>.of trivial)
   have hlt:=of_decide_eq_true hlt
   rw [sOp,bs,ew]
   refine Gv.bind arg ?_
   rintro ⟨t2,c8⟩ ⟨k2,h8⟩
   simp only at k2 h8 ⊢
   obtain ⟨u,e1,e2⟩:=V31 k2 (by omega) (by omega)
   rw [e1,bs,sOp,bs,sOp,bs]
   have kc:=V2f (.inr (.inr rfl)) (V2d (s:=s) (m:=ctx.length + 1) (i:=0) (by omega)) e2
   have kg:=V2v hs h1n (V25 k3 l3 ta ht (by simp at hlt; omega)) kc
   exact .of ⟨(V2f (.inr (.inr rfl)) kg kf).mono (by omega),h8⟩
  ·rintro (u | r) q
   ·rw [ew]
    refine Gv.bind arg ?_
    rintro ⟨t2,c8⟩ ⟨k2,h8⟩
    simp only at k2 h8 ⊢
    rw [sOp,bs]
    exact .of ⟨(V2f (.inr (.inr rfl)) kf k2).mono (by omega),h8⟩
   ·exact .of q
theorem V38 {D b:Nat} (IH:V32 s D b) (hb1:7 ≤ b) (hb:b ≤ 90000) (hD:D ≤ 10):V32 s (D + 1) (5 + 3 * b):=by
 intro deep ctx ty h1 h2 h3 hc hl ht c h
 by_cases hd:deep ≤ D
 ·exact (IH deep ctx ty hd h2 h3 hc (by omega) ht c h).mono (fun r hr=>⟨hr.1.mono (by omega),hr.2⟩)
 have hdw:wr (deep - 1)=deep - 1:=Ko2 (by omega) (by omega)
 refine V2y hs (f:=fun _=>b) (B:=5 + 3 * b) (by omega) hc (by omega) ht (by omega) (fun _ _=>by omega) (fun _=>by omega) (fun _ _ _=>by omega) (fun _ _=>by omega) (fun _=>by omega) (fun c' ctx' ty' hc' hcx hlx hor hty' hlt=>?_) (fun _ c' hc'=>?_) c h
 ·rw [hdw]
  refine IH (deep - 1) ctx' ty' (by omega) (by omega) ?_ hcx (by omega) hty' c' hc'
  rcases hlt with q | ⟨_,rfl⟩
  ·omega
  ·exact h3
 ·rw [hdw]
  exact V37 hs IH hb1 hb (by omega) hD hc (by omega) ht h3 c' hc'
theorem V39:V32 s 4 767:=V38 hs (V38 hs (V38 hs (V38 hs (V34 hs) (by decide) (by decide) (by decide)) (by decide) (by decide) (by decide)) (by decide) (by decide) (by decide)) (by decide) (by decide) (by decide)
end
def V3a (s:K02) (m:Nat) (ctx:List (List Int)):Prop:=V2b s ctx∧ctx.length ≤ m∧∀ q ∈ ctx,q.length ≤ 7
section
variable {s:K02} {n:Nat} (hs:Kvd s n)
include hs
theorem V3b (data:Bool):∀ (k m:Nat) (c:K01) (out:List (List Int)),Kzi c→V3a s m out→m + k ≤ 1000→Gv (Kc0 (s,data,c.fb,c.fi,c.fh,out,(k:Int))) (fun r=>V3a s (m + k) r.1∧Kzi ⟨r.2.1,r.2.2.1,r.2.2.2⟩):=by
 intro k
 induction k with
 | zero =>
  intro m c out h ho hm
  rw [Kc0.eq_def]
  simp only
  rw [decide_eq_false (by omega),if_neg (by decide)]
  exact .of ⟨ho,h⟩
 | succ k ih =>
  intro m c out h ho hm
  have hl:=ho.2.1
  rw [Kc0.eq_def]
  simp only
  rw [decide_eq_true (by omega),if_pos rfl]
  refine Gv.bind (V36 hs h data) ?_
  rintro ⟨a,c1⟩ ⟨⟨ta,la⟩,h1⟩
  simp only at ta la h1 ⊢
  rw [Krd (by simp; omega),bs,show wr (((k + 1:Nat):Int) - 1)=(k:Int) from by rw [Ko2 (by omega) (by omega)]; omega]
  have:=ih (m + 1) c1 (out ++ [a]) h1 ⟨fun q hq=>by
   rcases List.mem_append.1 hq with hq | hq
   ·exact ho.1 q hq
   ·rw [List.mem_singleton.1 hq]; exact ta,by simp; omega,fun q hq=>by
   rcases List.mem_append.1 hq with hq | hq
   ·exact ho.2.2 q hq
   ·rw [List.mem_singleton.1 hq]; exact la⟩ (by omega)
  rw [show m + 1 + k=m + (k + 1) by omega] at this
  exact this
theorem V3c {c:K01} (h:Kzi c) (most:Nat) (hm:most ≤ 10) (data:Bool):Gv (Kc3 (c,s,(most:Int),data)) (fun r=>V3a s most r.1∧Kzi r.2):=by
 unfold Kc3
 simp only
 rw [Ko4 (by omega)]
 refine Gv.bind (Kzp h _) ?_
 rintro ⟨x,c1⟩ ⟨hx,h1⟩
 simp only at hx h1 ⊢
 have hx:=hx.1 (by omega)
 obtain ⟨k,rfl⟩:∃ k:Nat,x=(k:Int):=⟨x.toNat,by omega⟩
 have ho:V3a s 0 []:=⟨fun q hq=>(by cases hq),Nat.le_refl _,fun q hq=>(by cases hq)⟩
 refine Gv.bind (V3b hs data k 0 c1 [] h1 ho (by omega)) ?_
 rintro ⟨a,b,d,e⟩ ⟨q1,q2⟩
 have l1:=q1.2.1
 simp only at l1
 exact .of ⟨⟨q1.1,by simp only; omega,q1.2.2⟩,q2⟩
theorem V3d {c:K01} (h:Kzi c) {ctx:List (List Int)} (hc:V2b s ctx) (hl:ctx.length ≤ 100) {deep:Nat} (hd:deep ≤ 4) (data:Bool):Gv (Kg0 (c,s,ctx,(deep:Int),data)) (Dr s ctx.length 767):=by
 have A:=V39 hs
 have loop:∀ (k i:Nat) (c0 c:K01) (u1 u2:Int) (u3:List Int) (u4:List K00),i + k=3→Kzi c→V2a s ctx.length 767 ⟨u1,u2,u3,u4⟩ →
   Gv (Kfx (c0,s,ctx,(deep:Int),data,c.fb,c.fi,c.fh,u1,u2,u3,u4,(i:Int))) (fun fl=>match fl with | .inl r=>V2a s ctx.length 767 ⟨r.1,r.2.1,r.2.2.1,r.2.2.2.1⟩∧Kzi ⟨r.2.2.2.2.1,r.2.2.2.2.2.1,r.2.2.2.2.2.2⟩ | .inr r=>Dr s ctx.length 767 r):=by
  intro k
  induction k with
  | zero =>
   intro i c0 c u1 u2 u3 u4 hi h ht
   rw [Kfx.eq_def]
   simp only
   rw [decide_eq_false (by omega),if_neg (by decide)]
   exact .of ⟨ht,h⟩
  | succ k ih =>
   intro i c0 c u1 u2 u3 u4 hi h ht
   have htm:=ht.tms
   rw [Kfx.eq_def]
   simp only
   rw [decide_eq_true (by omega),if_pos rfl]
   refine Gv.bind (Q:=fun _=>True) ?_ (fun v _=>?_)
   ·rw [show (120:Int)=((120:Nat):Int) from rfl,Kqc _ 120 (by omega) (by decide),bs]
    refine .ite (fun _=>?_) (fun _=>.of trivial)
    obtain ⟨x,e,_⟩:=V2l hs hc (by omega) (by decide) ht
    rw [e,bs]
    exact .of trivial
   refine .ite (fun _=>.of ⟨ht,h⟩) (fun _=>?_)
   refine Gv.bind (V35 hs h data) ?_
   rintro ⟨a,c1⟩ ⟨⟨ta,la⟩,h1⟩
   simp only at ta la h1 ⊢
   rw [show (2:Int)=((2:Nat):Int) from rfl,Kt3,bs]
   refine Gv.bind (A ((min deep 2:Nat):Int) ctx a (by omega) (by omega) (by omega) hc (by omega) ta c1 h1) ?_
   rintro ⟨⟨x1,x2,x3,x4⟩,c2⟩ ⟨ht2,h2⟩
   simp only at ht2 h2 ⊢
   rw [Ko4 (by omega)]
   exact ih (i + 1) c0 c2 x1 x2 x3 x4 (by omega) h2 ht2
 unfold Kg0
 simp only
 refine Gv.bind (V36 hs h data) ?_
 rintro ⟨a,c1⟩ ⟨⟨ta,la⟩,h1⟩
 simp only at ta la h1 ⊢
 refine Gv.bind (A (deep:Int) ctx a (by omega) (by omega) la hc (by omega) ta c1 h1) ?_
 rintro ⟨⟨x1,x2,x3,x4⟩,c2⟩ ⟨ht2,h2⟩
 simp only at ht2 h2 ⊢
 have L:=loop 3 0 c c2 x1 x2 x3 x4 rfl h2 ht2
 rw [show ((0:Nat):Int)=0 from rfl] at L
 refine Gv.bind L ?_
 rintro (⟨a1,a2,a3,a4,a5,a6,a7⟩ | r) q
 rotate_left
 ·exact .of q
 obtain ⟨q1,q2⟩:=q
 simp only at q1 q2 ⊢
 have htm:=q1.tms
 rw [show (400:Int)=((400:Nat):Int) from rfl,Kqc _ 400 (by omega) (by decide),bs]
 refine Gv.bind (Q:=fun r:Int × Int × List Int × List K00=>V2a s ctx.length 767 ⟨r.1,r.2.1,r.2.2.1,r.2.2.2⟩) (.ite (fun _=>?_) (fun _=>.of q1)) ?_
 ·rw [sOp,bs]
  exact .of ((V2e (by decide)).mono (by decide))
 ·rintro ⟨b1,b2,b3,b4⟩ qb
  exact .of ⟨qb,q2⟩
end
theorem V3e {c:K01} (h:Kzi c) {deep:Nat} (hd:deep ≤ 4) (most:Nat) (hm:most ≤ 10) (data:Bool):Gv (Kg3 (c,(deep:Int),(most:Int),data)) (fun r=>r.1 ∈ V1u∧V3a r.1 most r.2.1∧V2a r.1 r.2.1.length 767 r.2.2.1∧Kzi r.2.2.2):=by
 unfold Kg3
 simp only
 refine Gv.bind (V20 h) ?_
 rintro ⟨s,c1⟩ ⟨hsy,h1⟩
 simp only at hsy h1 ⊢
 have hs:=Kve (V1v hsy).1
 refine Gv.bind (V3c hs h1 most hm data) ?_
 rintro ⟨ctx,c2⟩ ⟨hc,h2⟩
 simp only at hc h2 ⊢
 refine Gv.bind (V3d hs h2 hc.1 (by have:=hc.2.1; omega) hd data) ?_
 rintro ⟨t,c3⟩ ⟨ht,h3⟩
 exact .of ⟨hsy,hc,ht,h3⟩
theorem V3f (code:List Int) (hl:code.length ≤ 1048576):∃ d:Nat,(2 ≤ d∧d ≤ 4)∧K84 code=some (d:Int):=by
 unfold K84
 have h1:code.length / 60 ≤ 1048576:=Nat.le_trans (Nat.div_le_self _ _) hl
 rw [show (60:Int)=((60:Nat):Int) from rfl,V0j]
 generalize code.length / 60=q at *
 rw [Ko2 (by omega) (by omega),show (2:Int)=((2:Nat):Int) from rfl,Kt3,bs,← Int.natCast_add,Ko2 (by omega) (by omega)]
 exact ⟨2 + min q 2,by omega,rfl⟩
section
variable {s:K02} {n:Nat} (hs:Kvd s n)
include hs
theorem le_refl {a:Nat} (ha:a < n):le s n a a=true:=by
 have:=hs.one a ha
 simp only [Kol,Bool.and_eq_true] at this
 exact this.2
end
theorem le_trans {s:K02} (h:Krs s=true) {a b c:Nat} (ha:a < s.fSize.toNat) (hb:b < s.fSize.toNat) (hc:c < s.fSize.toNat) (h1:le s s.fSize.toNat a b=true) (h2:le s s.fSize.toNat b c=true):le s s.fSize.toNat a c=true:=by
 unfold Krs at h
 simp only [Bool.and_eq_true] at h
 have hm:=h.2
 unfold Kp1 at hm
 rw [List.all_eq_true] at hm
 have q:=hm a (by rw [List.mem_range'_1]; omega)
 simp only [Bool.and_eq_true,List.all_eq_true] at q
 have q2:=(q.2 b (by rw [List.mem_range'_1]; omega)).2 c (by rw [List.mem_range'_1]; omega)
 unfold Kom at q2
 simp [h1,h2] at q2
 exact q2.2.1.1.1
theorem V3g (code:List Int) (hl:code.length ≤ 1048576) (hb:∀ v ∈ code,0 ≤ v∧v ≤ 255) (i:Nat) (hi:i ≤ 1000):∃ v:Int,Kh9 (code,(i:Int))=some v∧0 ≤ v:=by
 unfold Kh9
 simp only
 by_cases h:i < code.length
 ·have:=hb code[i] (List.getElem_mem h)
  rw [Ko5 h,if_pos rfl,Ko3 h,bs]
  exact ⟨_,rfl,by rw [Ko2 (by omega) (by omega)]; omega⟩
 ·rw [Ko6 (by omega),if_neg (by decide)]
  refine ⟨_,rfl,Int.tmod_nonneg _ ?_⟩
  rw [Ko2 (x:=(i:Int) * 7) (by omega) (by omega),Ko2 (by omega) (by omega)]
  omega
mutual
theorem V3h (g:Int→Bool) (y:List Int→Bool) (hg:∀ x,g x=true→-9223372036854775808 ≤ x∧x ≤ 9223372036854775807):∀ (t:K00) (n:Nat),tOk g y n t=true→n + 2 * tms t ≤ 9223372036854775807→tln t
 | ⟨op,N,ty,ks⟩,n,h,hb=>by
  rw [Ku9,Bool.and_eq_true] at h
  rw [tms] at hb
  rw [tln]
  refine ⟨by omega,by omega,V3i g y hg ks op n 0 h.2 (by omega),?_⟩
  have h1:=h.1
  unfold Kqu Kqs at h1
  simp only [Bool.and_eq_true] at h1
  have h2:=h1.1.2
  split at h2
  ·simp only [inB,Bool.and_eq_true,decide_eq_true_eq] at h2; omega
  ·split at h2
   ·simp only [inB,Bool.and_eq_true,decide_eq_true_eq] at h2; omega
   ·split at h2
    ·exact hg N h2
    ·have:=eq_of_beq h2; omega
theorem V3i (g:Int→Bool) (y:List Int→Bool) (hg:∀ x,g x=true→-9223372036854775808 ≤ x∧x ≤ 9223372036854775807):∀ (ks:List K00) (op:Int) (n i:Nat),Kqv g y op n i ks=true→n + 2 * (ks.length + Kq5 ks) ≤ 9223372036854775807→Kr7 ks
 | [],op,n,i,_,_=>by rw [Kr7]; trivial
 | ⟨o,N,ty,ks1⟩ :: ks,op,n,i,h,hb=>by
  rw [Kua,Bool.and_eq_true] at h
  rw [Kq5,List.length_cons] at hb
  have:=Kqp op i
  rw [Kr7]
  exact ⟨V3h g y hg _ _ h.1 (by omega),V3i g y hg ks op n (i + 1) h.2 (by omega)⟩
end
theorem V3j {s:K02} {n:Nat} (hs:Kvd s n) {m b:Nat} {t:K00} (h:V2a s m b t) (hb:b ≤ 100000) (hm:m ≤ 1000):tln t:=by
 have h3:=h.tms
 have h4:=hs.tab.size
 have h5:=hs.tab.hi
 refine V3h _ _ ?_ t m h.1 (by omega)
 intro x hx
 unfold gN at hx
 simp at hx
 omega
theorem V3k {op N:Int} {ty:List Int} {ks:List K00} (h1:ty.length ≤ 9223372036854775807) (h2:ks.length ≤ 9223372036854775807) (h3:Kr7 ks) (h4:-9223372036854775808 ≤ N∧N ≤ 9223372036854775807):tln ⟨op,N,ty,ks⟩:=by
 rw [tln]; exact ⟨h1,h2,h3,h4⟩
theorem V3l {t:K00} (h:tln t):t.fType.length ≤ 9223372036854775807∧t.fKids.length ≤ 9223372036854775807∧Kr7 t.fKids∧(-9223372036854775808 ≤ t.fN∧t.fN ≤ 9223372036854775807):=by
 cases t; rwa [tln] at h
theorem V3m {a b:List K00} (ha:Kr7 a) (hb:Kr7 b):Kr7 (a ++ b):=by
 induction a with
 | nil=>exact hb
 | cons x a ih =>
  rw [Kr7] at ha
  rw [List.cons_append,Kr7]
  exact ⟨ha.1,ih ha.2⟩
theorem V3n {l:List K00} (h:Kr7 l) (i:Nat) {u:K00} (hu:tln u):Kr7 (l.set i u):=by
 induction l generalizing i with
 | nil=>exact h
 | cons x l ih =>
  rw [Kr7] at h
  cases i with
  | zero=>rw [List.set_cons_zero,Kr7]; exact ⟨hu,h.2⟩
  | succ i=>rw [List.set_cons_succ,Kr7]; exact ⟨h.1,ih h.2 i⟩
theorem V3o {l:List K00} (h:Kr7 l) {i:Nat} (hi:i < l.length):tln l[i]:=by
 induction l generalizing i with
 | nil=>simp at hi
 | cons x l ih =>
  rw [Kr7] at h
  cases i with
  | zero=>exact h.1
  | succ i=>exact ih h.2 (by simpa using hi)
theorem V3p (t:K00) (o:Int) (hty:t.fType.length ≤ 1099511627776):∀ (l:List Int) (i:Nat) (c:K01) (out:List Int),t.fType.drop i=l→out.length=i→i ≤ t.fType.length→Kzi c →
  Gv (Kge (t,o,c.fb,c.fi,c.fh,out,(i:Int))) (fun r=>Kzi ⟨r.1,r.2.1,r.2.2.1⟩∧r.2.2.2.length=t.fType.length):=by
 intro l
 induction l with
 | nil =>
  intro i c out hd ho hi h
  rw [Kge.eq_def]
  simp only
  have:=Kp9 hd
  rw [Ko6 this,if_neg (by decide)]
  exact .of ⟨h,by simp only; omega⟩
 | cons x l ih =>
  intro i c out hd ho hi h
  obtain ⟨h1,h2,h3⟩:=Kp8 hd
  rw [Kge.eq_def]
  simp only
  rw [Ko5 h1,if_pos rfl,h2,bs,Kpf,bs]
  refine Gv.bind (Q:=fun r:List Int × Int × Int × Bool=>Kzi ⟨r.1,r.2.1,r.2.2.1⟩) (.ite (fun _=>.ite (fun _=>?_) (fun _=>.of h)) (fun _=>.of h)) ?_
  ·refine Gv.bind (Kzp h 3) ?_
   rintro ⟨y,c1⟩ ⟨_,h4⟩
   exact .of h4
  ·rintro ⟨b,fi,fh,v⟩ h4
   simp only at h4 ⊢
   refine Gv.bind (Q:=fun _:Int=>True) (.ite (fun _=>?_) (fun _=>.of trivial)) (fun k _=>?_)
   ·rw [Kpd,bs,Kts,bs]
    exact .of trivial
   ·rw [Krd (by simp; omega),bs,Ko4 (by omega)]
    exact ih (i + 1) ⟨b,fi,fh⟩ _ h3 (by simp [ho]) (by omega) h4
theorem V3q (t:K00) (o:Int) (hty:t.fType.length ≤ 1099511627776) {c:K01} (h:Kzi c):Gv (Kge (t,o,c.fb,c.fi,c.fh,[],0)) (fun r=>Kzi ⟨r.1,r.2.1,r.2.2.1⟩∧r.2.2.2.length=t.fType.length) :=
 V3p t o hty t.fType 0 c [] rfl rfl (Nat.zero_le _) h
mutual
theorem V3r:∀ (t:K00) (c:K01),Kzi c→tln t→tms t ≤ 1048576→Gv (Kgh (c,t)) (fun r=>(tln r.1∧tms r.1=tms t)∧Kzi r.2)
 | ⟨op,N,ty,ks⟩,c,h,hl,hb=>by
  rw [tms] at hb
  have hl2:=V3l hl
  simp only at hl2
  rw [Kgh.eq_def]
  simp only
  rw [Kqk,bs]
  refine Gv.bind (Q:=fun r:List Int × Int × Int × Bool=>Kzi ⟨r.1,r.2.1,r.2.2.1⟩) (.ite (fun _=>.ite (fun _=>?_) (fun _=>.of h)) (fun _=>.of h)) ?_
  ·refine Gv.bind (Kzp h 3) ?_
   rintro ⟨y,c1⟩ ⟨_,h4⟩
   exact .of h4
  rintro ⟨b,fi,fh,v⟩ h4
  simp only at h4 ⊢
  refine Gv.bind (Q:=fun o:Int=>-9223372036854775808 ≤ o∧o ≤ 9223372036854775807) (.ite (fun _=>.of (by decide)) (fun _=>.of hl2.2.2.2)) (fun o ho=>?_)
  refine Gv.bind (V3q ⟨op,N,ty,ks⟩ o (by simp only; omega) h4) ?_
  rintro ⟨b2,i2,h2,out⟩ ⟨h5,h6⟩
  simp only at h5 h6 ⊢
  refine Gv.bind (V3s ks ⟨op,N,ty,ks⟩ o out 0 ⟨b2,i2,h2⟩ [] rfl rfl h5 hl2.2.2.1 (by simp only; omega) (by omega) (by rw [Kr7]; trivial)) ?_
  rintro ⟨kk,b3,i3,h3⟩ ⟨⟨q1,q2,q3⟩,h7⟩
  simp only [List.length_nil,Nat.zero_add,Kq5] at q1 q2 q3 h7 ⊢
  exact .of ⟨⟨V3k (by omega) (by omega) q1 ho,by rw [tms,tms]; omega⟩,h7⟩
theorem V3s:∀ (ks:List K00) (t:K00) (o:Int) (ty:List Int) (i:Nat) (c:K01) (out:List K00),t.fKids.drop i=ks→out.length=i→Kzi c→Kr7 ks→t.fKids.length ≤ 1048576→Kq5 ks ≤ 1048576→Kr7 out →
  Gv (Kgi (t,o,ty,c.fb,c.fi,c.fh,out,(i:Int))) (fun r=>(Kr7 r.1∧r.1.length=out.length + ks.length∧Kq5 r.1=Kq5 out + Kq5 ks)∧Kzi ⟨r.2.1,r.2.2.1,r.2.2.2⟩)
 | [],t,o,ty,i,c,out,hd,ho,h,hl,hk,hm,hto=>by
  rw [Kgi.eq_def]
  simp only
  rw [Ko6 (Kp9 hd),if_neg (by decide)]
  exact .of ⟨⟨hto,by simp,by simp [Kq5]⟩,h⟩
 | k :: ks,t,o,ty,i,c,out,hd,ho,h,hl,hk,hm,hto=>by
  obtain ⟨h1,h2,h3⟩:=Kp8 hd
  rw [Kr7] at hl
  rw [Kq5] at hm
  rw [Kgi.eq_def]
  simp only
  rw [Ko5 h1,if_pos rfl,h2,bs]
  refine Gv.bind (V3r k ⟨c.fb,c.fi,c.fh⟩ h hl.1 (by omega)) ?_
  rintro ⟨x,c1⟩ ⟨⟨q1,q2⟩,h4⟩
  simp only at q1 q2 h4 ⊢
  rw [Krd (by simp; omega),bs,Ko4 (by omega)]
  refine (V3s ks t o ty (i + 1) c1 (out ++ [x]) h3 (by simp [ho]) h4 hl.2 hk (by omega) (V3m hto (by rw [Kr7,Kr7]; exact ⟨q1,trivial⟩))).mono ?_
  rintro ⟨a,b⟩ ⟨⟨z1,z2,z3⟩,z4⟩
  refine ⟨⟨z1,?_,?_⟩,z4⟩
  ·simp at z2 ⊢; omega
  ·rw [Kt7] at z3; simp only [Kq5] at z3 ⊢; omega
end
theorem V3t:∀ (n:Nat) (c:K01) (xs:List K00) (i:Nat) (hi:i < xs.length),Kzi c→tsz xs[i] ≤ n→Kr7 xs→xs.length + Kq5 xs ≤ 2097152 →
  Gv (Kgu (c,xs,(i:Int))) (fun r=>(Kr7 r.1∧r.1.length=xs.length∧Kq5 r.1 ≤ Kq5 xs + 1)∧Kzi r.2):=by
 intro n
 induction n with
 | zero=>intro c xs i hi h hn; have:=Kq7 xs[i]; omega
 | succ n ih =>
  intro c xs i hi h hn hl hb
  have he:=V3l (V3o hl hi)
  have hm1:=Kt8 (List.getElem_mem hi)
  have hm2:=Kq6 xs[i]
  have hset:=fun u=>Ktt hi u
  have fin:∀ (u:K00) (c':K01),tln u→tms u ≤ tms xs[i] + 1→Kzi c'→Gv (some (xs.set i u,c')) (fun r=>(Kr7 r.1∧r.1.length=xs.length∧Kq5 r.1 ≤ Kq5 xs + 1)∧Kzi r.2):=fun u c' q1 q2 q3=>by
   have:=hset u
   exact .of ⟨⟨V3n hl i q1,by simp,by simp only; omega⟩,q3⟩
  rw [Kgu.eq_def]
  simp only
  rw [Ko3 hi,bs,Int.toNat_natCast]
  generalize hx:xs[i]=e at *
  refine Gv.bind (Q:=fun r:List Int × Int × Int × Bool=>Kzi ⟨r.1,r.2.1,r.2.2.1⟩∧(r.2.2.2=true→0 < e.fKids.length)) (.ite (fun hk=>?_) (fun _=>.of ⟨h,fun q=>by cases q⟩)) ?_
  ·have hk:=of_decide_eq_true hk
   refine Gv.bind (Kzp h 3) ?_
   rintro ⟨y,c1⟩ ⟨_,h4⟩
   exact .of ⟨h4,fun _=>by omega⟩
  rintro ⟨b,fi,fh,v⟩ ⟨h4,hv⟩
  simp only at h4 hv ⊢
  refine .ite (fun hv1=>?_) (fun _=>?_)
  ·have hk:=hv hv1
   refine Gv.bind (Kzp h4 _) ?_
   rintro ⟨j,c2⟩ ⟨⟨hj,_⟩,h5⟩
   simp only at hj h5 ⊢
   obtain ⟨hj0,hj1⟩:=hj (by omega)
   obtain ⟨m,rfl⟩:=Int.eq_ofNat_of_zero_le hj0
   have hm:m < e.fKids.length:=by omega
   rw [Ko3 hm,bs]
   have hts:tsz e.fKids[m] ≤ n:=by
    have h1:=Kq7 e
    have h2:tsz e.fKids[m] ≤ Kq4 e.fKids:=Kt9 (List.getElem_mem hm)
    omega
   refine Gv.bind (ih c2 e.fKids m hm h5 hts he.2.2.1 (by omega)) ?_
   rintro ⟨ks,c3⟩ ⟨⟨q1,q2,q3⟩,h6⟩
   simp only at q1 q2 q3 h6 ⊢
   exact fin _ _ (V3k he.1 (by omega) q1 he.2.2.2) (by rw [tms]; omega) h6
  ·refine Gv.bind (Kzp h4 6) ?_
   rintro ⟨j,c2⟩ ⟨_,h5⟩
   simp only at h5 ⊢
   refine .ite (fun _=>?_) (fun _=>?_)
   ·refine Gv.bind (Kzp h5 15) ?_
    rintro ⟨y,c3⟩ ⟨_,h6⟩
    exact fin _ _ (V3k he.1 he.2.1 he.2.2.1 he.2.2.2) (by rw [tms]; omega) h6
   refine Gv.bind (Q:=fun _:Bool=>True) (.ite (fun _=>.of trivial) (fun _=>.of trivial)) (fun w _=>?_)
   refine .ite (fun _=>?_) (fun _=>.ite (fun _=>?_) (fun _=>.ite (fun _=>?_) (fun _=>.ite (fun hk=>?_) (fun _=>?_))))
   ·refine Gv.bind (Kzr h5 _ (by decide)) ?_
    rintro ⟨y,c3⟩ ⟨hy,h6⟩
    refine fin _ _ (V3k he.1 he.2.1 he.2.2.1 ?_) (by rw [tms]; omega) h6
    simp only [List.mem_cons,List.not_mem_nil,or_false] at hy
    omega
   ·refine Gv.bind (Kzr h5 _ (by decide)) ?_
    rintro ⟨y,c3⟩ ⟨hy,h6⟩
    exact fin _ _ (V3k (by simp) he.2.1 he.2.2.1 he.2.2.2) (by rw [tms]; simp; omega) h6
   ·rw [Krd (by simp; omega),bs,Ko3 (by simp),bs,Int.toNat_natCast]
    have e2:(e.fKids ++ [(⟨0,0,[],[]⟩:K00)]).set e.fKids.length (⟨1,0,[],[]⟩:K00)=e.fKids ++ [⟨1,0,[],[]⟩]:=by simp
    rw [e2]
    have e3:tln ⟨1,0,[],[]⟩:=V3k (by simp) (by simp) (by rw [Kr7]; trivial) (by decide)
    exact fin _ _ (V3k he.1 (by simp; omega) (V3m he.2.2.1 (by rw [Kr7,Kr7]; exact ⟨e3,trivial⟩)) he.2.2.2) (by rw [tms,Kt7]; simp [Kq5,tms]; omega) h5
   ·have hk:=of_decide_eq_true hk
    have k0:0 < e.fKids.length:=by omega
    have k1:1 < e.fKids.length:=by omega
    rw [show (0:Int)=((0:Nat):Int) from rfl,show (1:Int)=((1:Nat):Int) from rfl,Ko3 k0,bs,Ko3 k1,bs,bs,Int.toNat_natCast,Ko3 (by simp; omega),bs,Int.toNat_natCast]
    have a0:=V3o he.2.2.1 k0
    have a1:=V3o he.2.2.1 k1
    have s1:=Ktt k0 e.fKids[1]
    have s2:=Ktt (l:=e.fKids.set 0 e.fKids[1]) (i:=1) (by simp; omega) e.fKids[0]
    rw [List.getElem_set_ne (by decide)] at s2
    exact fin _ _ (V3k he.1 (by simp; omega) (V3n (V3n he.2.2.1 0 a1) 1 a0) he.2.2.2) (by rw [tms]; simp only [List.length_set]; omega) h5
   ·exact .of ⟨⟨hl,rfl,by simp⟩,h5⟩
theorem V3u {c:K01} {t:K00} (h:Kzi c) (hl:tln t) (hb:tms t ≤ 1048576):Gv (Kgx (c,t)) (fun r=>(tln r.1∧tms r.1 ≤ tms t + 1)∧Kzi r.2):=by
 unfold Kgx
 simp only
 refine Gv.bind (Kzq h 6) ?_
 rintro ⟨x,c1⟩ h1
 simp only at h1 ⊢
 refine .ite (fun _=>?_) (fun _=>.of ⟨⟨hl,by simp⟩,h1⟩)
 rw [Ktp (Ktq t hl) (by omega),bs]
 refine Gv.bind (V3t (tsz t) c1 [t] 0 (by simp) h1 (Nat.le_refl _) (by rw [Kr7,Kr7]; exact ⟨hl,trivial⟩) (by simp [Kq5]; omega)) ?_
 rintro ⟨zs,c2⟩ ⟨⟨q1,q2,q3⟩,h2⟩
 simp only [List.length_singleton] at q1 q2 q3 h2 ⊢
 rw [show (0:Int)=((0:Nat):Int) from rfl,Ko3 (by omega),bs]
 refine .of ⟨⟨V3o q1 (by omega),?_⟩,h2⟩
 have:=Kt8 (List.getElem_mem (l:=zs) (n:=0) (by omega))
 simp only [Kq5] at q3
 simp only
 omega
theorem V2a.tln {s:K02} (h:s ∈ V1u) {m b:Nat} {t:K00} (ht:V2a s m b t) (hb:b ≤ 100000) (hm:m ≤ 1000):tln t:=V3j (Kve (V1v h).1) ht hb hm
theorem V3v {c:K01} (h:Kzi c) {deep:Nat} (hd:deep ≤ 4):Gv (Kh0 (c,(deep:Int))) (fun r=>(tln r.1∧tms r.1 ≤ 40000)∧Kzi r.2):=by
 unfold Kh0
 simp only
 refine Gv.bind (Kzq h 2) ?_
 rintro ⟨v,c1⟩ h1
 simp only at h1 ⊢
 refine Gv.bind (V3e h1 hd 3 (by decide) v) ?_
 rintro ⟨s,ctx,t,c2⟩ ⟨hsy,hc,ht,h2⟩
 simp only at hsy hc ht h2 ⊢
 have hcl:=hc.2.1
 have htl:=ht.tln hsy (by decide) (by omega)
 have htm:=ht.tms
 obtain ⟨o1,o2,o3,o4⟩:=t
 refine Gv.bind (Kzq h2 4) ?_
 rintro ⟨v2,c3⟩ h3
 simp only at h3 ⊢
 refine Gv.bind (Q:=fun r:List Int × Int × Int × Int × Int × List Int × List K00=>Kzi ⟨r.1,r.2.1,r.2.2.1⟩∧tln ⟨r.2.2.2.1,r.2.2.2.2.1,r.2.2.2.2.2.1,r.2.2.2.2.2.2⟩∧tms ⟨r.2.2.2.1,r.2.2.2.2.1,r.2.2.2.2.2.1,r.2.2.2.2.2.2⟩ ≤ 33000) (.ite (fun _=>?_) (fun _=>.of ⟨h3,htl,by simp only; omega⟩)) ?_
 ·refine Gv.bind (V3r _ c3 h3 htl (by omega)) ?_
  rintro ⟨⟨p1,p2,p3,p4⟩,c4⟩ ⟨⟨q1,q2⟩,h4⟩
  exact .of ⟨h4,q1,by simp only at q2 ⊢; omega⟩
 rintro ⟨a1,a2,a3,a4,a5,a6,a7⟩ ⟨h4,q1,q2⟩
 simp only at h4 q1 q2 ⊢
 refine Gv.bind (V3u h4 q1 (by omega)) ?_
 rintro ⟨u,c5⟩ ⟨⟨q3,q4⟩,h5⟩
 exact .of ⟨⟨q3,by simp only at q4 ⊢; omega⟩,h5⟩
theorem V3w {c:K01} (h:Kzi c) {deep:Nat} (hd:2 ≤ deep∧deep ≤ 4):Gv (Kh0 (c,(deep:Int))) (fun r=>(tln r.1∧tms r.1 ≤ 40000)∧Kzi r.2):=V3v h hd.2
mutual
theorem V3x:∀ (a b:K00),tms a ≤ 1099511627776→tms b ≤ 1099511627776→Km1 (a,b)=some (tEq a b)
 | ⟨o,N,t,k⟩,⟨o',N',t',k'⟩,ha,hb=>by
  rw [tms] at ha hb
  rw [Km1.eq_def,tEq]
  simp only
  rw [Ku7 t t' (by omega)]
  have hk:Km2 (k,k')=some (k.length == k'.length && Kv5 k k'):=by
   rw [Km2.eq_def]
   simp only
   by_cases h4:k.length=k'.length
   ·have hl:=V3y k k' k k' 0 rfl rfl h4 (by omega) (by omega) (by omega)
    rw [show ((0:Nat):Int)=0 from rfl] at hl
    rw [show ((k.length:Int) != (k'.length:Int))=false by rw [h4]; exact Ko7,if_neg (by decide),hl,bs,beq_iff_eq.2 h4]
    cases Kv5 k k' <;> rfl
   ·rw [bne_iff_ne.2 (by omega),if_pos rfl,beq_eq_false_iff_ne.2 h4]; rfl
  rw [hk]
  cases o == o' <;> cases N == N' <;> cases t == t' <;> rfl
theorem V3y:∀ (ks js a b:List K00) (i:Nat),a.drop i=ks→b.drop i=js→ks.length=js.length→a.length ≤ 1099511627776→Kq5 ks ≤ 1099511627776→Kq5 js ≤ 1099511627776→Km3 (a,b,(i:Int))=some (if Kv5 ks js then .inl () else .inr false)
 | [],js,a,b,i,h1,h2,hl,hk,m1,m2=>by
  rw [Km3.eq_def,Kv5]
  simp only
  rw [Ko6 (Kp9 h1)]; rfl
 | x :: ks,[],a,b,i,h1,h2,hl,hk,m1,m2=>by simp at hl
 | x :: ks,y :: js,a,b,i,h1,h2,hl,hk,m1,m2=>by
  obtain ⟨hi,hx,hd⟩:=Kp8 h1
  obtain ⟨_,hy,hd2⟩:=Kp8 h2
  rw [Kq5] at m1 m2
  rw [Km3.eq_def,Kv5]
  simp only
  rw [Ko5 hi,if_pos rfl,hx,bs,hy,bs,V3x x y (by omega) (by omega),bs,Ko4 (by omega),V3y ks js a b (i + 1) hd hd2 (by simpa using hl) hk (by omega) (by omega)]
  cases tEq x y <;> rfl
end
def p1 (op N:Int):Int:=if op == 12 then 1 else if Kqf op then -1 else N
def p2 (op N:Int):Int:=if Kqf op then 1 else N
theorem hp1 (op N:Int):(Kqf op=true→gN 16 false (p1 op N)=true)∧(Kqf op=false→p1 op N=N):=by
 unfold p1
 refine ⟨fun h=>?_,fun h=>?_⟩
 ·rw [h]
  split
  ·decide
  ·rw [if_pos rfl]; decide
 ·rw [h]
  by_cases e:op=12
  ·subst e; cases h
  ·rw [if_neg (by simp [e])]; rfl
theorem hp2 (op N:Int):(Kqf op=true→gN 16 false (p2 op N)=true)∧(Kqf op=false→p2 op N=N):=by
 unfold p2
 exact ⟨fun h=>by rw [h,if_pos rfl]; decide,fun h=>by rw [h]; rfl⟩
theorem V3z {t:K00} (hb:tms t ≤ 1099511627776) (hw:wB t=true):Kmb (t,t)=some true:=by
 unfold Kmb
 simp only
 rw [Kr5 t hb,hw,bs,if_pos rfl,bs,if_pos rfl,V3x t t hb hb,bs,Kv6]
 rfl
theorem V40 {s:K02} {T:Ty} (h:(Kss s T.code && Ksc T.code)=true) (h1:T.ok) (h2:T.dat) (h4:T.code.length ≤ 40) (k:Int):Kn5 (s,T.code)=some (if Ksx T > 300 then -1 else (Ksx T:Int))∧Ki3 (s,T.code)=some (if Ksx T > 300 then -1 else (Ksx T:Int)) ∧
  Kn7 (s,T.code,k)=some (if inB k 0 (wr ((if Ksx T > 300 then -1 else (Ksx T:Int)) - 1))=true then (vAt T k,true) else (⟨0,0,[],[]⟩,false)):=by
 have hcv:Kn5 (s,T.code)=some (if Ksx T > 300 then -1 else (Ksx T:Int))∧Ki3 (s,T.code)=some (if Ksx T > 300 then -1 else (Ksx T:Int)):=by
  unfold Kn5 Ki3
  simp only
  rw [Ksw s T.code (by omega),Ksu s T.code (by omega),h,bs,bs,if_pos rfl,if_pos rfl,Kt6 T h1 h2 (by omega),Kt5 T h1 h2 (by omega),bs,bs,bs]
  by_cases q:Ksx T > 300
  ·rw [decide_eq_true (by omega),if_pos rfl,if_pos q]; exact ⟨rfl,rfl⟩
  ·rw [decide_eq_false (by omega),if_neg (by decide:¬ false=true),if_neg q]; exact ⟨rfl,rfl⟩
 refine ⟨hcv.1,hcv.2,?_⟩
 unfold Kn7
 simp only
 rw [hcv.1,bs,iIn,bs]
 cases inB k 0 (wr ((if Ksx T > 300 then -1 else (Ksx T:Int)) - 1)) with
 | false=>rfl
 | true=>rw [if_pos rfl,if_pos rfl,Ku2 T h1 h2 (by omega)]; rfl
mutual
theorem V41 {g:Int→Bool} {y:List Int→Bool} {m:Nat} {u:K00} (U:UOk g y m u) (hc:∀ b f:Int,shf b f u=u) (q:Nat) (hq:q ≤ 8):∀ (t:K00) (n:Nat) (d:Int),tOk g y n t=true→tms t ≤ 1099511627776→0 ≤ d→d + 2 * tsz t ≤ 1099511627776→n + 2 * tsz t ≤ 35184372088832 →
  Kk6 (t,d,(q:Int),u)=some (put u ((q:Int) + d) t)
 | ⟨op,N,ty,ks⟩,n,d,h,hm,h0,h1,h2=>by
  rw [tms] at hm
  rw [tsz] at h1 h2
  rw [Kk6.eq_def,put]
  simp only
  cases hop:op == 0
  ·rw [Ku9,Bool.and_eq_true] at h
   have:=V42 U hc q hq ks ⟨op,N,ty,ks⟩ n d 0 ty [] rfl h.2 (by simp only; omega) (by omega) h0 (by omega) (by omega) rfl
   rw [show ((0:Nat):Int)=0 from rfl] at this
   rw [if_neg (by decide),Krh ty (by omega),bs,this,bs]; rfl
  ·have hop:=eq_of_beq hop
   obtain ⟨rfl,rfl,q1,q2⟩:=Kui h hop
   subst hop
   rw [if_pos rfl,Kue]
   unfold Kk2
   simp only
   rw [Ko2 (x:=N - d) (by omega) (by omega)]
   by_cases e:N=(q:Int) + d
   ·subst e
    rw [show (q:Int) + d - d=(q:Int) by omega,Kv0 U.ok (by omega) U.ms U.sz]; simp [bs,hc]
   ·rw [beq_eq_false_iff_ne.2 (by omega:N - d ≠ (q:Int)),beq_eq_false_iff_ne.2 e,Ko2 (x:=N - 1) (by omega) (by omega),decide_eq_decide.2 (by omega:N - d > (q:Int) ↔ N > (q:Int) + d)]
    simp only [Bool.and_false,Bool.false_eq_true,if_false,Bool.true_and]
    refine (Kq3 (x:=⟨0,if decide (N > (q:Int) + d) then N - 1 else N,[],[]⟩) ?_).trans rfl
    refine (Kq3 (x:=if decide (N > (q:Int) + d) then N - 1 else N) ?_).trans ?_
    ·cases decide (N > (q:Int) + d) <;> rfl
    ·rw [Ktb _ (by rw [tms,Kq5]; simp)]; rfl
theorem V42 {g:Int→Bool} {y:List Int→Bool} {m:Nat} {u:K00} (U:UOk g y m u) (hc:∀ b f:Int,shf b f u=u) (q:Nat) (hq:q ≤ 8):∀ (ks:List K00) (t:K00) (n:Nat) (d:Int) (i:Nat) (r:List Int) (out:List K00),t.fKids.drop i=ks→Kqv g y t.fOp n i ks=true →
  t.fKids.length ≤ 1099511627776→Kq5 ks ≤ 1099511627776→0 ≤ d→d + 2 * Kq4 ks + 2 ≤ 1099511627776→n + 2 * Kq4 ks + 2 ≤ 35184372088832→out.length=i→Kk7 (t,d,(q:Int),u,r,out,(i:Int))=some (out ++ Kue u t.fOp ((q:Int) + d) i ks)
 | [],t,n,d,i,r,out,hd,hw,hk,hm,h0,h1,h2,ho=>by
  rw [Kk7.eq_def,Kue]
  simp only
  rw [Ko6 (Kp9 hd),List.append_nil]; rfl
 | k :: ks,t,n,d,i,r,out,hd,hw,hk,hm,h0,h1,h2,ho=>by
  obtain ⟨hi,hx,hd'⟩:=Kp8 hd
  rw [Kq5] at hm
  rw [Kq4] at h1 h2
  rw [Kua,Bool.and_eq_true] at hw
  have ha:=Kqp t.fOp (i:Int)
  have hp:=Kq7 k
  rw [Kk7.eq_def,Kue]
  simp only
  rw [Ko5 hi,if_pos rfl,hx,bs,Kqr,bs,Ko2 (x:=d + ((Kqo t.fOp (i:Int):Nat):Int)) (by omega) (by omega),V41 U hc q hq k _ _ hw.1 (by omega) (by omega) (by omega) (by omega),bs,Krd (by simp only [List.length_singleton]; omega),bs,Ko4 (by omega)]
  rw [V42 U hc q hq ks t n d (i + 1) r _ hd' hw.2 hk (by omega) h0 (by omega) (by omega) (by simp [ho]),List.append_assoc,← Int.add_assoc]
  rfl
end
mutual
theorem V43 {g:Int→Bool} {y:List Int→Bool} {m:Nat} {u:K00} (U:UOk g y m u) (hc:∀ b f:Int,shf b f u=u) (q:Nat) (hq:q ≤ 8):∀ (t:K00) (n:Nat) (d:Int),tOk g y n t=true→tms t ≤ 1099511627776→0 ≤ d→d + 2 * tsz t ≤ 1099511627776→n + 2 * tsz t ≤ 35184372088832 →
  Klj (t,(q:Int),u,d)=some (put u ((q:Int) + d) t)
 | ⟨op,N,ty,ks⟩,n,d,h,hm,h0,h1,h2=>by
  rw [tms] at hm
  rw [tsz] at h1 h2
  rw [Klj.eq_def,put]
  simp only
  rw [Krg ty (by omega),bs,Ko2 (x:=(q:Int) + d) (by omega) (by omega)]
  cases hop:op == 0
  ·rw [Ku9,Bool.and_eq_true] at h
   refine (Kq3 (x:=(Sum.inl N:Int ⊕ K00)) rfl).trans ?_
   simp only
   have:=V44 U hc q hq ks ⟨op,N,ty,ks⟩ n d 0 ty N [] rfl h.2 (by simp only; omega) (by omega) h0 (by omega) (by omega) rfl
   rw [show ((0:Nat):Int)=0 from rfl] at this
   rw [this,bs]; rfl
  ·have hop:=eq_of_beq hop
   obtain ⟨rfl,rfl,q1,q2⟩:=Kui h hop
   subst hop
   rw [Kue]
   have hS:=Kti d ((m:Int) + 2 * tsz u) h0 (by have:=U.sz; omega) u 0 (Ktm g y u m U.ok) U.ms (by omega) (by have:=U.ms; omega)
   by_cases e:N=(q:Int) + d
   ·subst e
    refine (Kq3 (x:=(Sum.inr u:Int ⊕ K00)) ?_).trans ?_
    ·simp only [beq_self_eq_true,if_true]; rw [hS,hc]; rfl
    ·simp [hc]
   ·refine (Kq3 (x:=(Sum.inl (if decide (N > (q:Int) + d) then N - 1 else N):Int ⊕ K00)) ?_).trans ?_
    ·rw [if_pos rfl,beq_eq_false_iff_ne.2 e,if_neg (by decide),Ko2 (x:=N - 1) (by omega) (by omega)]
     cases decide (N > (q:Int) + d) <;> rfl
    ·rw [beq_eq_false_iff_ne.2 e]
     simp only [Bool.and_false,Bool.false_eq_true,if_false,Bool.true_and]
     rw [Klk.eq_def]
     rfl
theorem V44 {g:Int→Bool} {y:List Int→Bool} {m:Nat} {u:K00} (U:UOk g y m u) (hc:∀ b f:Int,shf b f u=u) (q:Nat) (hq:q ≤ 8):∀ (ks:List K00) (t:K00) (n:Nat) (d:Int) (i:Nat) (r:List Int) (o:Int) (out:List K00),t.fKids.drop i=ks→Kqv g y t.fOp n i ks=true →
  t.fKids.length ≤ 1099511627776→Kq5 ks ≤ 1099511627776→0 ≤ d→d + 2 * Kq4 ks + 2 ≤ 1099511627776→n + 2 * Kq4 ks + 2 ≤ 35184372088832→out.length=i→Klk (t,(q:Int),u,d,r,o,out,(i:Int))=some (out ++ Kue u t.fOp ((q:Int) + d) i ks)
 | [],t,n,d,i,r,o,out,hd,hw,hk,hm,h0,h1,h2,ho=>by
  rw [Klk.eq_def,Kue]
  simp only
  rw [Ko6 (Kp9 hd),List.append_nil]; rfl
 | k :: ks,t,n,d,i,r,o,out,hd,hw,hk,hm,h0,h1,h2,ho=>by
  obtain ⟨hi,hx,hd'⟩:=Kp8 hd
  rw [Kq5] at hm
  rw [Kq4] at h1 h2
  rw [Kua,Bool.and_eq_true] at hw
  have ha:=Kqp t.fOp (i:Int)
  have hp:=Kq7 k
  rw [Klk.eq_def,Kue]
  simp only
  rw [Ko5 hi,if_pos rfl,hx,bs,Kqq,bs,Ko2 (x:=d + ((Kqo t.fOp (i:Int):Nat):Int)) (by omega) (by omega),V43 U hc q hq k _ _ hw.1 (by omega) (by omega) (by omega) (by omega),bs,Krd (by simp only [List.length_singleton]; omega),bs,Ko4 (by omega)]
  rw [V44 U hc q hq ks t n d (i + 1) r o _ hd' hw.2 hk (by omega) h0 (by omega) (by omega) (by simp [ho]),List.append_assoc,← Int.add_assoc]
  rfl
end
structure Sm (u:K00):Prop where
 shf:∀ b f:Int,shf b f u=u
 put:∀ (v:K00) (d:Int),put v d u=u
 ok:∀ m:Nat,tOk (gN 16 false) wtB m u=true
 sz:tsz u ≤ 3
 ms:tms u ≤ 10
theorem V45 {i:Int} (h:0 ≤ i∧i ≤ 2):Sm ⟨1,i,[],[]⟩ where
 shf b f:=by rw [Am.shf,Kte]; rfl
 put v d:=by rw [Am.put,Kue]; rfl
 ok m:=by rw [Kqw]; simp [Kqv,Kqu,Kqs,Kqt,inB,Kqe,Kqg,h.1,h.2]
 sz:=by simp [tsz,Kq4]
 ms:=by simp [tms,Kq5]
theorem V46 {a b:K00} (ha:Sm a) (hb:Sm b) (h1:tsz a=1) (h2:tsz b=1) (h3:tms a=0) (h4:tms b=0):Sm ⟨4,0,[],[a,b]⟩ where
 shf q f:=by rw [Am.shf,Kte,Kte,Kte,ha.shf,hb.shf]; rfl
 put v d:=by rw [Am.put,Kue,Kue,Kue,ha.put,hb.put]; rfl
 ok m:=by rw [Kqw]; simp [Kqv,Kqu,Kqs,Kqt,inB,Kqe,Kqg,Kqf,Kqo,ha.ok,hb.ok]
 sz:=by simp [tsz,Kq4,h1,h2]
 ms:=by simp [tms,Kq5,h3,h4]
theorem V47 {u:K00} {op N:Int} {ty:List Int} {ks:List K00} (h:(op == 0)=true) (d:Int):put u d ⟨op,N,ty,ks⟩=if N=d then shf d 0 u else ⟨op,if N > d then N - 1 else N,ty,Kue u op d 0 ks⟩:=by
 rw [put,h,Bool.true_and,Bool.true_and]
 by_cases e:N=d
 ·rw [if_pos e,if_pos (by simp [e])]
 ·rw [if_neg e,if_neg (by simp [e])]
  by_cases e2:N > d
  ·rw [if_pos e2,if_pos (by simp; omega)]
  ·rw [if_neg e2,if_neg (by simp; omega)]
mutual
theorem V48 {u w:K00} (hu:Sm u) (hw:Sm w):∀ (t:K00) (d:Int),put u d (put w (d + 1) t)=put w d (put u d t)
 | ⟨op,N,ty,ks⟩,d=>by
  have hk:=V49 hu hw ks op d 0
  cases hop:op == 0
  ·rw [put,put,hop]
   simp only [Bool.false_and,Bool.false_eq_true,if_false]
   rw [put,put,hop]
   simp only [Bool.false_and,Bool.false_eq_true,if_false]
   rw [hk]
  ·rw [V47 hop (d + 1),V47 hop d]
   by_cases e1:N=d + 1
   ·rw [if_pos e1,hw.shf,hw.put,if_neg (by omega:¬ N=d),if_pos (by omega:N > d),V47 hop d,if_pos (by omega:N - 1=d),hw.shf]
   ·rw [if_neg e1,V47 hop d]
    by_cases e2:N=d
    ·rw [if_pos e2,hu.shf,hu.put,if_neg (by omega:¬ N > d + 1),if_pos e2]
    ·rw [if_neg e2,V47 hop d]
     by_cases e3:N > d + 1
     ·have h1:¬ N - 1=d:=by omega
      rw [if_pos e3,if_pos (by omega:N > d),if_neg h1,if_neg h1,hk]
     ·have h1:¬ N > d:=by omega
      rw [if_neg e3,if_neg h1,if_neg h1,if_neg e2,if_neg e2,hk]
theorem V49 {u w:K00} (hu:Sm u) (hw:Sm w):∀ (ks:List K00) (op d:Int) (i:Nat),Kue u op d i (Kue w op (d + 1) i ks)=Kue w op d i (Kue u op d i ks)
 | [],op,d,i=>by simp only [Kue]
 | k :: ks,op,d,i=>by
  simp only [Kue]
  rw [show d + 1 + ((Kqo op (i:Int):Nat):Int)=d + ((Kqo op (i:Int):Nat):Int) + 1 by omega,V48 hu hw k,V49 hu hw ks op d (i + 1)]
end
theorem Sm.wB {u:K00} (h:Sm u):wB u=true:=by
 unfold Am.wB
 rw [h.ok 8,decide_eq_true (by have:=h.sz; omega)]; rfl
theorem V4a {u t:K00} (hu:Sm u) (hw:wB t=true) (q:Nat) (hq:q ≤ 1):tms (put u (q:Int) t) ≤ 100000:=by
 obtain ⟨h1,h2⟩:=Kto hw
 have e:=Kuu (g:=gN 16 false) (y:=wtB) u t 8 (q:Int) h1
 have l:=Kug t (q:Int)
 have hz:=hu.sz
 have hm:uses (q:Int) t * tsz u ≤ 400 * 3:=Nat.mul_le_mul (by omega) hz
 have ok:∃ n,tOk (gN 16 false) wtB n (put u (q:Int) t)=true:=by
  rcases (by omega:q=0∨q=1) with rfl | rfl
  ·exact ⟨7 + 0,Kus (m:=7) (hu.ok 7) t 0 (by simpa using h1)⟩
  ·exact ⟨6 + 1,Kus (m:=6) (hu.ok 6) t 1 (by simpa using h1)⟩
 obtain ⟨n,ok⟩:=ok
 have:=(Kuw _ n ok).1
 omega
def V4b (t:K00) (q:Nat) (u:K00):Option K00:=if wB t && wB (put u (q:Int) t) then some (put u (q:Int) t) else none
theorem V4c {t u:K00} (hu:Sm u) (ht:tms t ≤ 1048576) (q:Nat) (hq:q ≤ 1):Kkg (t,(q:Int),u)=some (okT (V4b t q u)):=by
 unfold Kkg V4b
 simp only
 rw [Kr5 t (by omega),bs]
 cases hw:wB t
 ·rfl
 ·obtain ⟨h1,h2⟩:=Kto hw
  have hm:=V4a hu hw q hq
  have hus:=hu.ms
  have U:UOk (gN 16 false) wtB 8 u:=⟨hu.ok 8,by omega,by have:=hu.sz; omega⟩
  rw [if_pos rfl,Kr5 u (by omega),hu.wB]
  simp only [bs,if_true]
  rw [decide_eq_false (by omega),if_neg (by decide)]
  unfold Kkd
  simp only
  rw [V41 U hu.shf q (by omega) t 8 0 h1 (by omega) (by omega) (by omega) (by omega),bs,bs,Int.add_zero,Kr5 _ (by omega),bs]
  cases wB (put u (q:Int) t) <;> rfl
theorem V4d {t u:K00} (hu:Sm u) (ht:tms t ≤ 1048576) (q:Nat) (hq:q ≤ 1):∃ z b,Klq (t,(q:Int),u)=some (z,b)∧(b=true→(V4b t q u).isSome=true):=by
 unfold Klq V4b
 simp only
 rw [Kr6 t (by omega),bs]
 cases hw:wB t
 ·exact ⟨_,_,rfl,fun h=>by cases h⟩
 ·obtain ⟨h1,h2⟩:=Kto hw
  have hm:=V4a hu hw q hq
  have hus:=hu.ms
  have U:UOk (gN 16 false) wtB 8 u:=⟨hu.ok 8,by omega,by have:=hu.sz; omega⟩
  rw [if_pos rfl,Kr6 u (by omega),hu.wB]
  simp only [bs,if_true]
  rw [decide_eq_false (by omega),if_neg (by decide)]
  have hmin:K81 ((q:Int),8)=some (q:Int):=by unfold K81; simp only; rw [decide_eq_true (by omega),if_pos rfl]
  have l1:=Kqc t 400 (by omega) (by decide)
  have l2:=Kqc u 400 (by omega) (by decide)
  rw [show ((400:Nat):Int)=400 from rfl] at l1 l2
  have hf:∃ b,Kle (t,(q:Int),u)=some b:=by
   unfold Kle
   simp only
   rw [l1,bs,Kuj t (q:Int) (by omega) (by omega) (by omega),bs,l2,bs]
   exact ⟨_,rfl⟩
  obtain ⟨b,hb⟩:=hf
  rw [hmin,bs,hb,bs]
  cases b
  ·exact ⟨_,_,rfl,fun h=>by cases h⟩
  ·rw [if_pos rfl,V43 U hu.shf q (by omega) t 8 0 h1 (by omega) (by omega) (by omega) (by omega),bs,Int.add_zero,Kr6 _ (by omega),bs]
   cases hz:wB (put u (q:Int) t)
   ·exact ⟨_,_,rfl,fun h=>by cases h⟩
   ·exact ⟨_,_,rfl,fun _=>rfl⟩
theorem V4e {t u:K00} {q:Nat} {x:K00} (h:V4b t q u=some x):wB t=true∧wB x=true∧x=put u (q:Int) t:=by
 unfold V4b at h
 split at h
 ·rename_i e
  rw [Bool.and_eq_true] at e
  have:=Option.some.inj h
  subst this
  exact ⟨e.1,e.2,rfl⟩
 ·cases h
theorem V4f (t u w:K00) (ht:tms t ≤ 1000000) (hu:Sm u) (hw:Sm w) (code:List Int) (i0:Int) (t0:K00) (v0 v1:Int) (b1 b2:Bool) (e1:K7r code=some false) (e2:Kh6 code=some (t,i0,t0)) (S:K02) (e3:K8x 1=some S)
  (e4:Kh9 (code,0)=some v0) (e5:Kh9 (code,1)=some v1) (e6:Ki9 (S,[1,0,0],Int.tmod v0 9)=some (u,b1)) (e7:Ki9 (S,[0],Int.tmod v1 3)=some (w,b2)):Kme code=some true:=by
 unfold Kme
 rw [e1,bs,if_neg (by decide),e2,bs]
 simp only
 rw [e3,bs,e4,bs,e6,bs]
 simp only
 rw [bs,e5,bs,e7,bs]
 simp only
 have i1:=V4c hw (t:=t) (by omega) 1 (by decide)
 have i2:=V4c hu (t:=t) (by omega) 0 (by decide)
 rw [show ((1:Nat):Int)=1 from rfl] at i1
 rw [show ((0:Nat):Int)=0 from rfl] at i2
 rw [i1,bs,i2,bs]
 obtain ⟨z1,c1,s1,s1'⟩:=V4d hw (t:=t) (by omega) 1 (by decide)
 obtain ⟨z2,c2,s2,s2'⟩:=V4d hu (t:=t) (by omega) 0 (by decide)
 rw [show ((1:Nat):Int)=1 from rfl] at s1
 rw [show ((0:Nat):Int)=0 from rfl] at s2
 cases hx:V4b t 1 w with
 | none =>
  have:c1=false:=by cases c1; rfl; have:=s1' rfl; rw [hx] at this; cases this
  subst this
  simp only [okT,Bool.false_eq_true,if_false,bs,if_true]
  rw [s1,bs,s2,bs]
  rfl
 | some x =>
  cases hy:V4b t 0 u with
  | none =>
   have:c2=false:=by cases c2; rfl; have:=s2' rfl; rw [hy] at this; cases this
   subst this
   simp only [okT,Bool.false_eq_true,if_false,bs,if_true,Bool.not_false]
   rw [s1,bs,s2,bs]
   cases c1 <;> rfl
  | some y =>
   obtain ⟨hw1,hw2,rfl⟩:=V4e hx
   obtain ⟨_,hw4,rfl⟩:=V4e hy
   have hw2:wB (put w 1 t)=true:=hw2
   have hw4:wB (put u 0 t)=true:=hw4
   have m1:tms (put w 1 t) ≤ 100000:=V4a hw hw1 1 (by decide)
   have m2:tms (put u 0 t) ≤ 100000:=V4a hu hw1 0 (by decide)
   have i3:Kkg (put w 1 t,0,u)=some (okT (V4b (put w 1 t) 0 u)):=V4c hu (by omega) 0 (by decide)
   have i4:Kkg (put u 0 t,0,w)=some (okT (V4b (put u 0 t) 0 w)):=V4c hw (by omega) 0 (by decide)
   have hc:put u 0 (put w 1 t)=put w 0 (put u 0 t):=V48 hu hw t 0
   have hsub:V4b (put w 1 t) 0 u=V4b (put u 0 t) 0 w:=by
    show (if wB (put w 1 t) && wB (put u 0 (put w 1 t)) then some (put u 0 (put w 1 t)) else none)=(if wB (put u 0 t) && wB (put w 0 (put u 0 t)) then some (put w 0 (put u 0 t)) else none)
    rw [hc,hw2,hw4]
   show ((if true=true then some (!true) else some true) >>= fun v_2=>if v_2=true then _ else (Kkg (put w 1 t,0,u)) >>= fun a=>(Kkg (put u 0 t,0,w)) >>= fun b=>(if (a.2 == b.2)=true then (if a.2=true then (Kmb (a.1,b.1)) >>= fun r=>some r else some true) else some false) >>= fun v=>some v)=some true
   rw [if_pos rfl,bs,if_neg (by decide),i3,bs,i4,bs,hsub]
   cases hp:V4b (put u 0 t) 0 w with
   | none=>rfl
   | some p =>
    obtain ⟨_,hp2,rfl⟩:=V4e hp
    have hp2:wB (put w 0 (put u 0 t))=true:=hp2
    have m3:tms (put w 0 (put u 0 t)) ≤ 100000:=V4a hw hw4 0 (by decide)
    show ((if (true == true)=true then (if true=true then (Kmb (put w 0 (put u 0 t),put w 0 (put u 0 t))) >>= fun r=>some r else some true) else some false) >>= fun v=>some v)=some true
    simp only [beq_self_eq_true,if_true]
    rw [V3z (by omega) hp2]
    rfl
theorem V4g:(Kss V10 [1,0,0] && Ksc [1,0,0])=true∧(Kss V10 [0] && Ksc [0])=true:=by
 constructor <;> kernel_rfl
theorem V4h {T:Ty} (h:(Kss V10 T.code && Ksc T.code)=true) (h1:T.ok) (h2:T.dat) (h4:T.code.length ≤ 40) (hc:Ksx T ≤ 300) (k:Int) (hk:0 ≤ k∧k < Ksx T):Ki9 (V10,T.code,k)=some (vAt T k,true):=by
 unfold Ki9
 simp only
 rw [(V40 h h1 h2 h4 k).2.1,bs,if_neg (by omega),Ko2 (by omega) (by omega),sIn,bs]
 have:inB k 0 ((Ksx T:Int) - 1)=true:=by unfold inB; simp; omega
 rw [this,if_pos rfl,Ku1 T h1 h2 (by omega),bs]
theorem V4i (code:List Int) (w:code.length ≤ maxLen∧∀ v ∈ code,0 ≤ v∧v ≤ 255):Kme code=some true:=by
 by_cases hbig:(code.length:Int) > 1048576
 ·unfold Kme K7r
  rw [bs,decide_eq_true hbig,if_pos rfl]
 have e1:K7r code=some false:=by unfold K7r; rw [decide_eq_false hbig]
 obtain ⟨c0,e0,h0⟩:=Kzm code (by omega) w.2
 obtain ⟨d,hd,e2⟩:=V3f code (by omega)
 obtain ⟨⟨t,c1⟩,e3,⟨⟨q1,q2⟩,q3⟩⟩:=V3w h0 hd
 simp only at q1 q2 q3
 have hdraw:∃ i0 t0,Kh6 code=some (t,i0,t0):=by
  have G:Gv (K8d (c1,12) >>= fun x=>if x.1=true then (Kh3 x.2) >>= fun y=>(Kh0 (y.2,1)) >>= fun z=>some (t,y.1,z.1) else (K8a (x.2,3)) >>= fun y=>(Kh0 (y.2,2)) >>= fun z=>some (t,y.1,z.1)) (fun r=>r.1=t):=by
   refine Gv.bind (Kzq q3 12) ?_
   rintro ⟨x,c2⟩ h2
   simp only at h2 ⊢
   refine .ite (fun _=>?_) (fun _=>?_)
   ·refine Gv.bind (Kzs h2) ?_
    rintro ⟨y,c3⟩ ⟨_,h3⟩
    simp only at h3 ⊢
    refine Gv.bind (V3v h3 (deep:=1) (by decide)) ?_
    rintro ⟨z,c4⟩ _
    exact .of rfl
   ·refine Gv.bind (Kzp h2 3) ?_
    rintro ⟨y,c3⟩ ⟨_,h3⟩
    simp only at h3 ⊢
    refine Gv.bind (V3v h3 (deep:=2) (by decide)) ?_
    rintro ⟨z,c4⟩ _
    exact .of rfl
  obtain ⟨⟨a,i0,t0⟩,eg,rfl⟩:=G
  refine ⟨i0,t0,?_⟩
  unfold Kh6
  rw [e0,bs,e2,bs,e3]
  exact eg
 obtain ⟨i0,t0,e4⟩:=hdraw
 obtain ⟨v0,f0,g0⟩:=V3g code (by omega) w.2 0 (by decide)
 obtain ⟨v1,f1,g1⟩:=V3g code (by omega) w.2 1 (by decide)
 have hs:K8x 1=some V10:=by
  have:=V02 1 (by decide) (by decide)
  rw [V1e] at this
  exact this
 have a1:=Int.tmod_nonneg 9 g0
 have a2:=Int.tmod_lt_of_pos v0 (show (0:Int) < 9 by decide)
 have b1:=Int.tmod_nonneg 3 g1
 have b2:=Int.tmod_lt_of_pos v1 (show (0:Int) < 3 by decide)
 have pok:(Ty.bin 1 .num .num).ok:=by simp [Ty.ok]; rfl
 have pdat:(Ty.bin 1 .num .num).dat:=by simp [Ty.dat]
 have k1:=V4h (T:=.bin 1 .num .num) V4g.1 pok pdat (by decide) (by decide) (Int.tmod v0 9) ⟨a1,a2⟩
 have k2:=V4h (T:=.num) V4g.2 (by simp [Ty.ok]) (by simp [Ty.dat]) (by decide) (by decide) (Int.tmod v1 3) ⟨b1,b2⟩
 have c3:(Ksx .num:Int)=3:=rfl
 have sm2:Sm (vAt .num (Int.tmod v1 3)):=V45 ⟨b1,by omega⟩
 have sm1:Sm (vAt (.bin 1 .num .num) (Int.tmod v0 9)):=by
  rw [vAt,if_pos rfl,vAt,vAt,c3]
  have t1:0 ≤ Int.tdiv (Int.tmod v0 9) 3∧Int.tdiv (Int.tmod v0 9) 3 ≤ 2:=by
   rw [Int.tdiv_eq_ediv_of_nonneg a1]; omega
  have t2:=Int.tmod_nonneg 3 a1
  have t3:=Int.tmod_lt_of_pos (Int.tmod v0 9) (show (0:Int) < 3 by decide)
  rw [Ko2 (by omega) (by omega)]
  exact V46 (V45 t1) (V45 ⟨t2,by omega⟩) (by simp [tsz,Kq4]) (by simp [tsz,Kq4]) (by simp [tms,Kq5]) (by simp [tms,Kq5])
 exact V4f t _ _ (by omega) sm1 sm2 code i0 t0 v0 v1 true true e1 e4 V10 hs f0 f1 k1 k2
end Go.Am
