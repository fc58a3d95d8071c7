/- Plain laws of the printed functions. -/
import Derived.Test.YtckgdfakjjdodaaGreatPWI1
set_option linter.unusedSimpArgs false
set_option linter.unusedVariables false
namespace Go.Am
def Gv {α:Type} (x:Option α) (Q:α→Prop):Prop:=∃ a,x=some a∧Q a
theorem Gv.of {α:Type} {a:α} {Q:α→Prop} (h:Q a):Gv (some a) Q:=⟨a,rfl,h⟩
theorem Gv.eq {α:Type} {x:Option α} {a:α} {Q:α→Prop} (e:x=some a) (h:Q a):Gv x Q:=⟨a,e,h⟩
theorem Gv.bind {α β:Type} {x:Option α} {f:α→Option β} {Q:α→Prop} {R:β→Prop} (h:Gv x Q) (hf:∀ a,Q a→Gv (f a) R):Gv (x >>= f) R:=by
 obtain ⟨a,rfl,hq⟩:=h
 exact hf a hq
theorem Gv.mono {α:Type} {x:Option α} {Q R:α→Prop} (h:Gv x Q) (hq:∀ a,Q a→R a):Gv x R:=let ⟨a,e,h⟩:=h; ⟨a,e,hq a h⟩
theorem Gv.ite {α:Type} {b:Bool} {x y:Option α} {Q:α→Prop} (h1:b=true→Gv x Q) (h2:b=false→Gv y Q):Gv (if b=true then x else y) Q:=by
 cases b
 ·exact h2 rfl
 ·exact h1 rfl
structure V1x (c:K02):Prop where
 lo:0 ≤ c.fi
 hi:c.fi ≤ c.fb.length
 ln:c.fb.length ≤ 1048576
 by_:∀ v ∈ c.fb,0 ≤ v∧v ≤ 255
theorem V1y (x:Int):0 ≤ Q2r .and .i64 x 255∧Q2r .and .i64 x 255 ≤ 255:=by
 have h:(BitVec.ofInt 64 x &&& BitVec.ofInt 64 255).toNat ≤ 255:=by
  rw [BitVec.toNat_and]
  exact Nat.le_trans Nat.and_le_right (by decide)
 have e:Q2r .and .i64 x 255=wr (((BitVec.ofInt 64 x &&& BitVec.ofInt 64 255).toNat:Nat):Int):=rfl
 rw [e,Kr7 (by omega) (by omega)]
 omega
theorem V1z {α:Type} {l:List α} {i:Int} (h0:0 ≤ i) (h:i < l.length):∃ v,idx l i=some v∧v ∈ l:=by
 have hi:i.toNat < l.length:=by omega
 refine ⟨l[i.toNat],?_,List.getElem_mem hi⟩
 unfold idx
 rw [if_pos h0,List.getElem?_eq_getElem hi]
theorem V20 (code:List Int) (hl:code.length ≤ 1048576):∀ (k i:Nat) (h:Int),i + k=code.length→Gv (K9n (code,h,(i:Int))) (fun _=>True):=by
 intro k
 induction k with
 | zero =>
  intro i h hi
  rw [K9n.eq_def]
  simp only
  rw [Krb (by omega),if_neg (by decide),bs,if_neg (by decide)]
  exact .of trivial
 | succ k ih =>
  intro i h hi
  rw [K9n.eq_def]
  simp only
  rw [Kra (by omega),if_pos rfl,bs]
  refine .ite (fun _=>?_) (fun _=>.of trivial)
  rw [Kr8 (by omega),bs,Kr9 (by omega)]
  exact ih (i + 1) _ (by omega)
theorem V21 (code:List Int) (hl:code.length ≤ 1048576) (hb:∀ v ∈ code,0 ≤ v∧v ≤ 255):Gv (K9q code) V1x:=by
 unfold K9q
 refine Gv.bind (V20 code hl code.length 0 _ (by omega)) (fun h _=>.of ⟨Int.le_refl _,?_,hl,hb⟩)
 simp
theorem V22 {c:K02} (h:V1x c):Gv (K9z c) (fun r=>(0 ≤ r.1∧r.1 ≤ 255)∧V1x r.2):=by
 unfold K9z
 by_cases hi:c.fi < c.fb.length
 ·obtain ⟨v,e,hv⟩:=V1z h.lo hi
  have h3:=h.ln
  have h4:=h.lo
  rw [decide_eq_true hi,if_pos rfl,e,bs,bs]
  refine .of ⟨V1y _,⟨?_,?_,h.ln,h.by_⟩⟩
  ·simp only
   rw [Kr7 (by omega) (by omega)]; omega
  ·simp only
   rw [Kr7 (by omega) (by omega)]; omega
 ·rw [decide_eq_false hi,if_neg (by decide),bs]
  exact .of ⟨V1y _,⟨h.lo,h.hi,h.ln,h.by_⟩⟩
def V23 (n:Int) (x:Int):Prop:=(0 < n→0 ≤ x∧x < n)∧(n ≤ 0→x=0)
theorem V24 {c:K02} (h:V1x c) (n:Int):Gv (Ka2 (c,n)) (fun r=>V23 n r.1∧V1x r.2):=by
 unfold Ka2
 simp only
 refine .ite (fun hb=>?_) (fun hb=>?_)
 ·have hb:=of_decide_eq_true hb
  exact .of ⟨⟨fun h=>absurd h (by omega),fun _=>rfl⟩,h⟩
 have hb:=of_decide_eq_false hb
 have tm:∀ x:Int,0 ≤ x→V23 n (Int.tmod x n):=fun x hx=>⟨fun hn=>⟨Int.tmod_nonneg n hx,Int.tmod_lt_of_pos x hn⟩,fun hn=>absurd hn (by omega)⟩
 have ck:chk (n ≠ 0)=some ():=by unfold chk; rw [if_pos (by omega)]
 refine .ite (fun _=>?_) (fun _=>?_)
 ·refine Gv.bind (V22 h) ?_
  rintro ⟨x,c1⟩ ⟨hx,h1⟩
  simp only at hx h1 ⊢
  rw [ck,bs]
  exact .of ⟨tm _ hx.1,h1⟩
 ·refine Gv.bind (V22 h) ?_
  rintro ⟨x,c1⟩ ⟨hx,h1⟩
  simp only at hx h1 ⊢
  refine Gv.bind (V22 h1) ?_
  rintro ⟨y,c2⟩ ⟨hy,h2⟩
  simp only at hy h2 ⊢
  refine Gv.bind (V22 h2) ?_
  rintro ⟨z,c3⟩ ⟨hz,h3⟩
  simp only at hz h3 ⊢
  refine Gv.bind (V22 h3) ?_
  rintro ⟨w,c4⟩ ⟨hw,h4⟩
  simp only at hw h4 ⊢
  rw [ck,bs]
  refine .of ⟨?_,h4⟩
  simp only
  have e1:wr (x * 16777216)=x * 16777216:=Kr7 (by omega) (by omega)
  have e2:wr (y * 65536)=y * 65536:=Kr7 (by omega) (by omega)
  have e3:wr (z * 256)=z * 256:=Kr7 (by omega) (by omega)
  rw [e1,e2,e3,Kr7 (x:=x * 16777216 + y * 65536) (by omega) (by omega),Kr7 (x:=x * 16777216 + y * 65536 + z * 256) (by omega) (by omega),Kr7 (x:=x * 16777216 + y * 65536 + z * 256 + w) (by omega) (by omega)]
  exact tm _ (by omega)
theorem V25 {c:K02} (h:V1x c) (n:Int):Gv (Ka5 (c,n)) (fun r=>V1x r.2):=by
 unfold Ka5
 refine Gv.bind (V24 h n) ?_
 rintro ⟨x,c1⟩ ⟨_,h1⟩
 exact .of h1
theorem V26 {c:K02} (h:V1x c) (l:List Int) (hl:0 < l.length):Gv (Ki0 (c,l)) (fun r=>r.1 ∈ l∧V1x r.2):=by
 unfold Ki0
 refine Gv.bind (V24 h _) ?_
 rintro ⟨x,c1⟩ ⟨⟨hx,_⟩,h1⟩
 simp only at hx h1 ⊢
 have:=hx (by omega)
 obtain ⟨v,e,hv⟩:=V1z this.1 this.2
 rw [e,bs]
 exact .of ⟨hv,h1⟩
theorem V27 {c:K02} (h:V1x c):Gv (Ki3 c) (fun r=>(-9223372036854775808 ≤ r.1∧r.1 ≤ 9223372036854775807)∧V1x r.2):=by
 unfold Ki3
 refine Gv.bind (V26 h _ (by decide)) ?_
 rintro ⟨x,c1⟩ ⟨hx,h1⟩
 refine .of ⟨?_,h1⟩
 simp only [List.mem_cons,List.not_mem_nil,or_false] at hx
 simp only
 omega
def V28 (n a b:Nat):Int:=((min (a + b) (n + 1):Nat):Int)
def V29 (n a b:Nat):Int:=((min (a * b) (n + 1):Nat):Int)
def V2a (n:Nat) (bd:Bool) (a b:Nat):Bool:=(a == b) || (b == n + 1) || (bd && decide (a ≤ b))
def V2b (n:Nat) (bd:Bool):K00:=⟨((n + 2:Nat):Int),(List.range' 0 (n + 2)).flatMap (fun a=>(List.range' 0 (n + 2)).map (V28 n a)),(List.range' 0 (n + 2)).flatMap (fun a=>(List.range' 0 (n + 2)).map (V29 n a)),(List.range' 0 (n + 2)).flatMap (fun a=>(List.range' 0 (n + 2)).map (V2a n bd a))⟩
theorem V2c {a b:Nat} (h:a ≤ b):decide ((a:Int) ≤ (b:Int))=true:=decide_eq_true (by omega)
theorem V2d {a b:Nat} (h:b < a):decide ((a:Int) ≤ (b:Int))=false:=decide_eq_false (by omega)
theorem V2e (n a:Nat) (bd:Bool) (hn:n ≤ 14) (ha:a ≤ n + 1):∀ (k b:Nat) (P T:List Int) (B:List Bool),b + k=n + 2→P.length ≤ 1000000→T.length ≤ 1000000→B.length ≤ 1000000→P.length + k ≤ 1000000→T.length + k ≤ 1000000→B.length + k ≤ 1000000 →
  Kac ((n:Int),bd,(a:Int),P,T,B,(b:Int))=some (P ++ (List.range' b k).map (V28 n a),T ++ (List.range' b k).map (V29 n a),B ++ (List.range' b k).map (V2a n bd a)):=by
 intro k
 induction k with
 | zero =>
  intro b P T B hb _ _ _ _ _ _
  rw [Kac.eq_def]
  simp only
  rw [Kr9 (by omega),V2d (by omega),if_neg (by decide)]
  simp
 | succ k ih =>
  intro b P T B hb h1 h2 h3 h4 h5 h6
  have hab:a * b ≤ 16 * 16:=Nat.mul_le_mul (by omega) (by omega)
  have e2:wr ((a:Int) * (b:Int))=((a * b:Nat):Int):=by
   rw [← Int.natCast_mul,Kr7 (by omega) (by omega)]
  rw [Kac.eq_def]
  simp only
  rw [Kr9 (n:=n) (by omega),V2c (by omega),if_pos rfl,Kvm (by omega) (by omega),Kvn,bs,e2,Kvn,bs,Kue (by simp; omega),bs,Kue (by simp; omega),bs]
  have e3:((if ((a:Int) == (b:Int))=true then Qei (B.length + [true].length) 1 >>= fun _=>some (B ++ [true]) else if ((b:Int) == ((n + 1:Nat):Int))=true then Qei (B.length + [true].length) 1 >>= fun _=>some (B ++ [true]) else if bd=true then Qei (B.length + [decide ((a:Int) ≤ (b:Int))].length) 1 >>= fun _=>some (B ++ [decide ((a:Int) ≤ (b:Int))]) else Qei (B.length + [false].length) 1 >>= fun _=>some (B ++ [false])):Option (List Bool))=some (B ++ [V2a n bd a b]):=by
   have f:∀ x:Bool,Qei (B.length + [x].length) 1=some ():=fun x=>Kue (by simp; omega)
   rw [f,f,f,bs,bs,bs,Kro,Kro]
   unfold V2a
   by_cases q1:a=b
   ·rw [if_pos (by simp [q1])]; simp [q1]
   ·rw [if_neg (by simp [q1])]
    by_cases q2:b=n + 1
    ·rw [if_pos (by simp [q2])]; simp [q2]
    ·rw [if_neg (by simp [q2])]
     cases bd with
     | false=>simp [q1,q2]
     | true=>simp [q1,q2]
  rw [e3,bs,Kr9 (by omega),ih (b + 1) _ _ _ (by omega) (by simp; omega) (by simp; omega) (by simp; omega) (by simp; omega) (by simp; omega) (by simp; omega)]
  simp [List.range'_succ,V28,V29]
theorem V2f (n:Nat) (bd:Bool) (hn:n ≤ 14):∀ (k a:Nat) (P T:List Int) (B:List Bool),a + k=n + 2→P.length + k * 16 ≤ 10000→T.length + k * 16 ≤ 10000→B.length + k * 16 ≤ 10000 →
  Kag ((n:Int),bd,P,T,B,(a:Int))=some (P ++ (List.range' a k).flatMap (fun a=>(List.range' 0 (n + 2)).map (V28 n a)),T ++ (List.range' a k).flatMap (fun a=>(List.range' 0 (n + 2)).map (V29 n a)),B ++ (List.range' a k).flatMap (fun a=>(List.range' 0 (n + 2)).map (V2a n bd a))):=by
 intro k
 induction k with
 | zero =>
  intro a P T B hb _ _ _
  rw [Kag.eq_def]
  simp only
  rw [Kr9 (by omega),V2d (by omega),if_neg (by decide)]
  simp
 | succ k ih =>
  intro a P T B hb h1 h2 h3
  rw [Kag.eq_def]
  simp only
  rw [Kr9 (n:=n) (by omega),V2c (by omega),if_pos rfl,show (0:Int)=((0:Nat):Int) from rfl,V2e n a bd hn (by omega) (n + 2) 0 P T B (by omega) (by omega) (by omega) (by omega) (by omega) (by omega) (by omega),bs]
  simp only
  rw [Kr9 (by omega),ih (a + 1) _ _ _ (by omega) (by simp; omega) (by simp; omega) (by simp; omega)]
  simp [List.range'_succ,List.flatMap_cons]
theorem V2g (n:Nat) (bd:Bool) (h1:1 ≤ n) (h2:n ≤ 14):Kaj ((n:Int),bd)=some (V2b n bd):=by
 unfold Kaj
 simp only
 rw [sIn,bs,show inB (n:Int) 1 14=true from by unfold inB; rw [decide_eq_true (by omega),decide_eq_true (by omega)]; rfl,if_pos rfl,show (0:Int)=((0:Nat):Int) from rfl,V2f n bd h2 (n + 2) 0 [] [] [] (by omega) (by simp; omega) (by simp; omega) (by simp; omega),bs]
 simp only
 rw [show wr ((n:Int) + 2)=((n + 2:Nat):Int) from by rw [Kr7 (by omega) (by omega)]; omega]
 rfl
theorem V2h (n:Nat) (h1:1 ≤ n) (h2:n ≤ 14):Kap (n:Int)=some (V2b n false):=by unfold Kap; rw [V2g n false h1 h2]; rfl
theorem V2i (n:Nat) (h1:1 ≤ n) (h2:n ≤ 14):Kam (n:Int)=some (V2b n true):=by unfold Kam; rw [V2g n true h1 h2]; rfl
def V2j (n a:Nat):Nat:=(n + 1 - a) % (n + 1)
def V2k (n a b:Nat):Int:=(((n + 1 - max (V2j n a) (V2j n b)) % (n + 1):Nat):Int)
def V2l (n a b:Nat):Int:=(((n + 1 - min (V2j n a) (V2j n b)) % (n + 1):Nat):Int)
def V2m (n a b:Nat):Bool:=decide (V2j n a ≤ V2j n b)
def V2n (n:Nat):K00:=⟨((n + 1:Nat):Int),(List.range' 0 (n + 1)).flatMap (fun a=>(List.range' 0 (n + 1)).map (V2k n a)),(List.range' 0 (n + 1)).flatMap (fun a=>(List.range' 0 (n + 1)).map (V2l n a)),(List.range' 0 (n + 1)).flatMap (fun a=>(List.range' 0 (n + 1)).map (V2m n a))⟩
theorem V2o (a b:Nat):Kas ((a:Int),(b:Int))=some ((max a b:Nat):Int):=by
 unfold Kas
 simp only
 by_cases h:b < a
 ·rw [decide_eq_true (by omega),if_pos rfl,Nat.max_eq_left (by omega)]
 ·rw [decide_eq_false (by omega),if_neg (by decide),Nat.max_eq_right (by omega)]
theorem V2p (a b:Nat):Int.tmod (a:Int) (b:Int)=((a % b:Nat):Int):=(Int.ofNat_tmod a b).symm
theorem V2q (n a:Nat) (hn:n ≤ 1000) (ha:a ≤ n + 1):Int.tmod (wr (((n + 1:Nat):Int) - (a:Int))) ((n + 1:Nat):Int)=(((n + 1 - a) % (n + 1):Nat):Int):=by
 rw [Kr7 (by omega) (by omega),show ((n + 1:Nat):Int) - (a:Int)=((n + 1 - a:Nat):Int) from by omega,V2p]
theorem V2r (n a:Nat):V2j n a ≤ n:=by
 have:=Nat.mod_lt (n + 1 - a) (show 0 < n + 1 by omega)
 unfold V2j
 omega
theorem V2s (n a:Nat) (hn:n ≤ 15) (ha:a ≤ n):∀ (k b:Nat) (P T:List Int) (B:List Bool),b + k=n + 1→P.length + k ≤ 1000000→T.length + k ≤ 1000000→B.length + k ≤ 1000000 →
  Kaw ((n:Int),(a:Int),P,T,B,(b:Int))=some (P ++ (List.range' b k).map (V2k n a),T ++ (List.range' b k).map (V2l n a),B ++ (List.range' b k).map (V2m n a)):=by
 intro k
 induction k with
 | zero =>
  intro b P T B hb _ _ _
  rw [Kaw.eq_def]
  simp only
  rw [V2d (by omega),if_neg (by decide)]
  simp
 | succ k ih =>
  intro b P T B hb h4 h5 h6
  have ck:chk (((n + 1:Nat):Int) ≠ 0)=some ():=by unfold chk; rw [if_pos (by omega)]
  have m1:=V2r n a
  have m2:=V2r n b
  have x1:Int.tmod (wr (((n + 1:Nat):Int) - (a:Int))) ((n + 1:Nat):Int)=((V2j n a:Nat):Int):=V2q n a (by omega) (by omega)
  have x2:Int.tmod (wr (((n + 1:Nat):Int) - (b:Int))) ((n + 1:Nat):Int)=((V2j n b:Nat):Int):=V2q n b (by omega) (by omega)
  rw [Kaw.eq_def]
  simp only
  rw [V2c (by omega),if_pos rfl,Kr9 (n:=n) (by omega),ck,bs,bs,x1,x2,V2o,bs,bs,Kvn,bs,bs,V2q n _ (by omega) (by omega),V2q n _ (by omega) (by omega),Kue (by simp; omega),bs,Kue (by simp; omega),bs,Kue (by simp; omega),bs,Kr9 (by omega),ih (b + 1) _ _ _ (by omega) (by simp; omega) (by simp; omega) (by simp; omega)]
  simp [List.range'_succ,V2k,V2l,V2m]
theorem V2t (n:Nat) (hn:n ≤ 15):∀ (k a:Nat) (P T:List Int) (B:List Bool),a + k=n + 1→P.length + k * 16 ≤ 10000→T.length + k * 16 ≤ 10000→B.length + k * 16 ≤ 10000 →
  Kb0 ((n:Int),P,T,B,(a:Int))=some (P ++ (List.range' a k).flatMap (fun a=>(List.range' 0 (n + 1)).map (V2k n a)),T ++ (List.range' a k).flatMap (fun a=>(List.range' 0 (n + 1)).map (V2l n a)),B ++ (List.range' a k).flatMap (fun a=>(List.range' 0 (n + 1)).map (V2m n a))):=by
 intro k
 induction k with
 | zero =>
  intro a P T B hb _ _ _
  rw [Kb0.eq_def]
  simp only
  rw [V2d (by omega),if_neg (by decide)]
  simp
 | succ k ih =>
  intro a P T B hb h1 h2 h3
  rw [Kb0.eq_def]
  simp only
  rw [V2c (by omega),if_pos rfl,show (0:Int)=((0:Nat):Int) from rfl,V2s n a hn (by omega) (n + 1) 0 P T B (by omega) (by omega) (by omega) (by omega),bs]
  simp only
  rw [Kr9 (by omega),ih (a + 1) _ _ _ (by omega) (by simp; omega) (by simp; omega) (by simp; omega)]
  simp [List.range'_succ,List.flatMap_cons]
theorem V2u (n:Nat) (h1:1 ≤ n) (h2:n ≤ 15):Kb3 (n:Int)=some (V2n n):=by
 unfold Kb3
 rw [sIn,bs,show inB (n:Int) 1 15=true from by unfold inB; rw [decide_eq_true (by omega),decide_eq_true (by omega)]; rfl,if_pos rfl,show (0:Int)=((0:Nat):Int) from rfl,V2t n h2 (n + 1) 0 [] [] [] (by omega) (by simp; omega) (by simp; omega) (by simp; omega),bs]
 simp only
 rw [Kr9 (by omega)]
 rfl
def V2v (n g:Nat):Nat:=if g=0 then 0 else if g=1 then 1 else if g ≤ n + 1 then (g - 1) / n else g / n
def V2w (n g:Nat):Nat:=if g < 2 then g else if g ≤ n + 1 then (g - 1) % n else g % n
def V2x (n x y:Nat):Nat:=if x * n + y=0 then 0 else if x * n + y=n + 1 then 1 else if x * n + y < n + 1 then x * n + y + 1 else x * n + y
theorem V2y (a b:Nat):Int.tdiv (a:Int) (b:Int)=((a / b:Nat):Int):=(Int.ofNat_tdiv a b).symm
theorem V2z (n g:Nat) (hn:1 ≤ n) (hn2:n ≤ 100) (hg:g ≤ 1000):Kcu ((n:Int),(g:Int))=some ((V2v n g:Nat):Int):=by
 have ck:chk ((n:Int) ≠ 0)=some ():=by unfold chk; rw [if_pos (by omega)]
 have hd:∀ x,x ≤ 1000→x / n ≤ 1000:=fun x hx=>Nat.le_trans (Nat.div_le_self _ _) hx
 unfold Kcu V2v
 simp only
 by_cases h0:g=0
 ·rw [if_pos (by simp [h0]),if_pos h0]; rfl
 rw [if_neg (by simpa using h0),if_neg h0]
 by_cases h1:g=1
 ·rw [if_pos (by simp [h1]),if_pos h1]; rfl
 rw [if_neg (by simp; omega),if_neg h1,Kr9 (by omega)]
 by_cases h2:g ≤ n + 1
 ·rw [V2c h2,if_pos rfl,if_pos h2,ck,bs,Kr7 (x:=(g:Int) - 1) (by omega) (by omega),show (g:Int) - 1=((g - 1:Nat):Int) from by omega,V2y]
  have:=hd (g - 1) (by omega)
  generalize (g - 1) / n=q at *
  rw [Kr7 (by omega) (by omega)]
 ·rw [V2d (by omega),if_neg (by decide),if_neg h2,ck,bs,V2y]
  have:=hd g hg
  generalize g / n=q at *
  rw [Kr7 (by omega) (by omega)]
theorem V30 (n g:Nat) (hn:1 ≤ n) (hn2:n ≤ 100) (hg:g ≤ 1000):Kcx ((n:Int),(g:Int))=some ((V2w n g:Nat):Int):=by
 have ck:chk ((n:Int) ≠ 0)=some ():=by unfold chk; rw [if_pos (by omega)]
 unfold Kcx V2w
 simp only
 by_cases h0:g < 2
 ·rw [decide_eq_true (by omega),if_pos rfl,if_pos h0]
 rw [decide_eq_false (by omega),if_neg (by decide),if_neg h0,Kr9 (by omega)]
 by_cases h2:g ≤ n + 1
 ·rw [V2c h2,if_pos rfl,if_pos h2,ck,bs,Kr7 (x:=(g:Int) - 1) (by omega) (by omega),show (g:Int) - 1=((g - 1:Nat):Int) from by omega,V2p]
 ·rw [V2d (by omega),if_neg (by decide),if_neg h2,ck,bs,V2p]
theorem V31 (n x y:Nat) (hn:n ≤ 100) (hx:x ≤ 100) (hy:y ≤ 100):Kd0 ((n:Int),(x:Int),(y:Int))=some ((V2x n x y:Nat):Int):=by
 have hxn:x * n ≤ 100 * 100:=Nat.mul_le_mul hx hn
 have e:wr (wr ((x:Int) * (n:Int)) + (y:Int))=((x * n + y:Nat):Int):=by
  rw [← Int.natCast_mul,Kr7 (x:=((x * n:Nat):Int)) (by omega) (by omega),Kr7 (by omega) (by omega)]; omega
 unfold Kd0 V2x
 simp only
 rw [e,Kr9 (n:=n) (by omega)]
 by_cases h0:x * n + y=0
 ·rw [if_pos (by rw [h0]; rfl),if_pos h0]; rfl
 rw [if_neg (by simp; omega),if_neg h0]
 by_cases h1:x * n + y=n + 1
 ·rw [if_pos (by rw [h1]; simp),if_pos h1]; rfl
 rw [if_neg (by simp; omega),if_neg h1]
 by_cases h2:x * n + y < n + 1
 ·rw [Kra h2,if_pos rfl,if_pos h2,Kr9 (by omega)]
 ·rw [Krb (by omega),if_neg (by decide),if_neg h2]
theorem V32 {m n g:Nat} (hm:2 ≤ m) (hn:2 ≤ n) (h:g < m * n):V2v n g < m:=by
 unfold V2v
 split
 ·omega
 split
 ·omega
 split
 ·refine Nat.div_lt_of_lt_mul ?_
  rw [Nat.mul_comm]; omega
 ·exact Nat.div_lt_of_lt_mul (by rw [Nat.mul_comm]; exact h)
theorem V33 {n g:Nat} (hn:2 ≤ n):V2w n g < n:=by
 unfold V2w
 split
 ·omega
 split
 ·exact Nat.mod_lt _ (by omega)
 ·exact Nat.mod_lt _ (by omega)
def V34 (a b:K00) (m n g h:Nat):Int:=((V2x n (pl a m (V2v n g) (V2v n h)) (pl b n (V2w n g) (V2w n h)):Nat):Int)
def V35 (a b:K00) (m n g h:Nat):Int:=((V2x n (ti a m (V2v n g) (V2v n h)) (ti b n (V2w n g) (V2w n h)):Nat):Int)
def V36 (a b:K00) (m n g h:Nat):Bool:=le a m (V2v n g) (V2v n h) && le b n (V2w n g) (V2w n h)
def V37 (a b:K00) (m n:Nat):K00:=⟨((m * n:Nat):Int),(List.range' 0 (m * n)).flatMap (fun g=>(List.range' 0 (m * n)).map (V34 a b m n g)),(List.range' 0 (m * n)).flatMap (fun g=>(List.range' 0 (m * n)).map (V35 a b m n g)),(List.range' 0 (m * n)).flatMap (fun g=>(List.range' 0 (m * n)).map (V36 a b m n g))⟩
theorem V38 {m n:Nat} (hm:2 ≤ m) (hn:2 ≤ n) (hmn:m * n ≤ 16):m ≤ 16∧n ≤ 16:=⟨Nat.le_trans (Nat.le_mul_of_pos_right m (by omega)) hmn,Nat.le_trans (Nat.le_mul_of_pos_left n (by omega)) hmn⟩
section
variable {a b:K00} {m n:Nat} (ta:Tab a m) (tb:Tab b n) (hm:2 ≤ m) (hn:2 ≤ n) (hmn:m * n ≤ 16)
include ta tb hm hn hmn
theorem V39 {g:Nat} (hg:g < m * n):∀ (k h:Nat) (P T:List Int) (B:List Bool),h + k=m * n→P.length + k ≤ 1000000→T.length + k ≤ 1000000→B.length + k ≤ 1000000 →
  Kd4 (a,b,(g:Int),P,T,B,(h:Int))=some (P ++ (List.range' h k).map (V34 a b m n g),T ++ (List.range' h k).map (V35 a b m n g),B ++ (List.range' h k).map (V36 a b m n g)):=by
 obtain ⟨hm16,hn16⟩:=V38 hm hn hmn
 have hN:wr (a.fSize * b.fSize)=((m * n:Nat):Int):=by
  rw [ta.size,tb.size,← Int.natCast_mul,Kr7 (by omega) (by omega)]
 intro k
 induction k with
 | zero =>
  intro h P T B hb _ _ _
  rw [Kd4.eq_def]
  simp only
  rw [hN,Krb (by omega),if_neg (by decide)]
  simp
 | succ k ih =>
  intro h P T B hb h4 h5 h6
  have f1:=V32 hm hn hg
  have f2:=V32 hm hn (show h < m * n by omega)
  have s1:V2w n g < n:=V33 hn
  have s2:V2w n h < n:=V33 hn
  have p1:=Krf ta f1 f2
  have p2:=Krf tb s1 s2
  have t1:=Krg ta f1 f2
  have t2:=Krg tb s1 s2
  rw [Kd4.eq_def]
  simp only
  rw [hN,Kra (by omega),if_pos rfl,tb.size,V2z n g (by omega) (by omega) (by omega),bs,V30 n g (by omega) (by omega) (by omega),bs,V2z n h (by omega) (by omega) (by omega),bs,V30 n h (by omega) (by omega) (by omega),bs,
   Krk ta f1 f2,bs,Krk tb s1 s2,bs,V31 n _ _ (by omega) (by omega) (by omega),bs,Kue (by simp; omega),bs,Krl ta f1 f2,bs,Krl tb s1 s2,bs,V31 n _ _ (by omega) (by omega) (by omega),bs,Kue (by simp; omega),bs,sLe ta f1 f2,bs,sLe tb s1 s2,bs]
  have f:∀ x:Bool,Qei (B.length + [x].length) 1=some ():=fun x=>Kue (by simp; omega)
  have e3:((if le a m (V2v n g) (V2v n h)=true then Qei (B.length + [le b n (V2w n g) (V2w n h)].length) 1 >>= fun _=>some (B ++ [le b n (V2w n g) (V2w n h)]) else Qei (B.length + [false].length) 1 >>= fun _=>some (B ++ [false])):Option (List Bool))=some (B ++ [V36 a b m n g h]):=by
   rw [f,f,bs,bs]
   unfold V36
   cases le a m (V2v n g) (V2v n h) <;> rfl
  rw [e3,bs,Kr9 (by omega),ih (h + 1) _ _ _ (by omega) (by simp; omega) (by simp; omega) (by simp; omega)]
  simp [List.range'_succ,V34,V35]
theorem V3a:∀ (k g:Nat) (P T:List Int) (B:List Bool),g + k=m * n→P.length + k * 16 ≤ 10000→T.length + k * 16 ≤ 10000→B.length + k * 16 ≤ 10000 →
  Kd8 (a,b,P,T,B,(g:Int))=some (P ++ (List.range' g k).flatMap (fun g=>(List.range' 0 (m * n)).map (V34 a b m n g)),T ++ (List.range' g k).flatMap (fun g=>(List.range' 0 (m * n)).map (V35 a b m n g)),B ++ (List.range' g k).flatMap (fun g=>(List.range' 0 (m * n)).map (V36 a b m n g))):=by
 have hN:wr (a.fSize * b.fSize)=((m * n:Nat):Int):=by
  rw [ta.size,tb.size,← Int.natCast_mul,Kr7 (by omega) (by omega)]
 intro k
 induction k with
 | zero =>
  intro g P T B hb _ _ _
  rw [Kd8.eq_def]
  simp only
  rw [hN,Krb (by omega),if_neg (by decide)]
  simp
 | succ k ih =>
  intro g P T B hb h1 h2 h3
  rw [Kd8.eq_def]
  simp only
  rw [hN,Kra (by omega),if_pos rfl,show (0:Int)=((0:Nat):Int) from rfl,V39 ta tb hm hn hmn (by omega) (m * n) 0 P T B (by omega) (by omega) (by omega) (by omega),bs]
  simp only
  rw [Kr9 (by omega),ih (g + 1) _ _ _ (by omega) (by simp; omega) (by simp; omega) (by simp; omega)]
  simp [List.range'_succ,List.flatMap_cons]
theorem V3b (sa:Kus a=true) (sb:Kus b=true):Kdb (a,b)=some (V37 a b m n,true):=by
 have hN:wr (a.fSize * b.fSize)=((m * n:Nat):Int):=by
  rw [ta.size,tb.size,← Int.natCast_mul,Kr7 (by omega) (by omega)]
 unfold Kdb Kcr
 simp only
 rw [Kuu,Kuu,bs,sa,if_pos rfl,bs,sb,if_pos rfl,bs,hN,decide_eq_true (by omega),bs,if_pos rfl,show (0:Int)=((0:Nat):Int) from rfl,V3a ta tb hm hn hmn (m * n) 0 [] [] [] (by omega) (by simp; omega) (by simp; omega) (by simp; omega),bs]
 rfl
end
def V3c:K00:=⟨3,[0,1,2,1,2,2,2,2,2],[0,0,0,0,1,2,0,2,2],[true,true,true,false,true,true,false,false,true]⟩
def V3d:K00:=⟨4,[0,1,2,3,1,2,3,3,2,3,3,3,3,3,3,3],[0,0,0,0,0,1,2,3,0,2,3,3,0,3,3,3],[true,true,true,true,false,true,true,true,false,false,true,true,false,false,false,true]⟩
def V3e:K00:=⟨5,[0,1,2,3,4,1,2,3,4,4,2,3,4,4,4,3,4,4,4,4,4,4,4,4,4],[0,0,0,0,0,0,1,2,3,4,0,2,4,4,4,0,3,4,4,4,0,4,4,4,4],[true,true,true,true,true,false,true,true,true,true,false,false,true,true,true,false,false,false,true,true,false,false,false,false,true]⟩
def V3f:K00:=⟨3,[0,1,2,1,2,2,2,2,2],[0,0,0,0,1,2,0,2,2],[true,false,true,false,true,true,false,false,true]⟩
def V3g:K00:=⟨4,[0,1,2,3,1,2,3,3,2,3,3,3,3,3,3,3],[0,0,0,0,0,1,2,3,0,2,3,3,0,3,3,3],[true,false,false,true,false,true,false,true,false,false,true,true,false,false,false,true]⟩
def V3h:K00:=⟨5,[0,1,2,3,4,1,2,3,4,4,2,3,4,4,4,3,4,4,4,4,4,4,4,4,4],[0,0,0,0,0,0,1,2,3,4,0,2,4,4,4,0,3,4,4,4,0,4,4,4,4],[true,false,false,false,true,false,true,false,false,true,false,false,true,false,true,false,false,false,true,true,false,false,false,false,true]⟩
def V3i:K00:=⟨2,[0,1,1,1],[0,0,0,1],[true,true,false,true]⟩
def V3j:K00:=⟨3,[0,1,2,1,1,1,2,1,2],[0,0,0,0,1,2,0,2,2],[true,true,true,false,true,false,false,true,true]⟩
def V3k:K00:=⟨4,[0,1,2,3,1,1,1,1,2,1,2,2,3,1,2,3],[0,0,0,0,0,1,2,3,0,2,2,3,0,3,3,3],[true,true,true,true,false,true,false,false,false,true,true,false,false,true,true,true]⟩
def V3l:K00:=⟨6,[0,1,2,3,4,5,1,5,1,5,5,5,2,1,2,1,5,5,3,5,1,4,4,5,4,5,5,4,4,5,5,5,5,5,5,5],[0,0,0,0,0,0,0,1,2,3,4,5,0,2,2,0,0,2,0,3,0,3,4,4,0,4,0,4,4,4,0,5,2,4,4,5],[true,false,true,false,true,true,false,true,false,false,false,true,false,false,true,false,false,true,false,true,false,true,true,true,false,false,false,false,true,true,false,false,false,false,false,true]⟩
def V3m:K00:=⟨9,[0,1,2,3,4,5,6,7,8,1,7,1,1,7,7,7,7,7,2,1,2,2,1,1,7,7,7,3,1,2,3,5,5,8,7,8,4,7,1,5,6,8,6,7,8,5,7,1,5,8,8,8,7,8,6,7,7,8,6,8,6,7,8,7,7,7,7,7,7,7,7,7,8,7,7,8,8,8,8,7,8],[0,0,0,0,0,0,0,0,0,0,1,2,3,4,5,6,7,8,0,2,2,3,0,3,0,2,3,0,3,3,3,0,3,0,3,3,0,4,0,0,4,4,6,6,6,0,5,3,3,4,5,6,8,8,0,6,0,0,6,6,6,6,6,0,7,2,3,6,8,6,7,8,0,8,3,3,6,8,6,8,8],[true,false,true,true,false,false,true,true,true,false,true,false,false,false,false,false,true,false,false,false,true,false,false,false,false,true,false,false,false,true,true,false,false,false,true,true,false,true,false,false,true,true,true,true,true,false,true,false,false,false,true,false,true,true,false,false,false,false,false,false,true,true,true,false,false,false,false,false,false,false,true,false,false,false,false,false,false,false,false,true,true]⟩
theorem V3n:V2b 1 true=V3c:=by kernel_rfl
theorem V3o:Kus V3c=true:=by kernel_rfl
theorem V3p:V2b 2 true=V3d:=by kernel_rfl
theorem V3q:Kus V3d=true:=by kernel_rfl
theorem V3r:V2b 3 true=V3e:=by kernel_rfl
theorem V3s:Kus V3e=true:=by kernel_rfl
theorem V3t:V2b 1 false=V3f:=by kernel_rfl
theorem V3u:Kus V3f=true:=by kernel_rfl
theorem V3v:V2b 2 false=V3g:=by kernel_rfl
theorem V3w:Kus V3g=true:=by kernel_rfl
theorem V3x:V2b 3 false=V3h:=by kernel_rfl
theorem V3y:Kus V3h=true:=by kernel_rfl
theorem V3z:V2n 1=V3i:=by kernel_rfl
theorem V40:Kus V3i=true:=by kernel_rfl
theorem V41:V2n 2=V3j:=by kernel_rfl
theorem V42:Kus V3j=true:=by kernel_rfl
theorem V43:V2n 3=V3k:=by kernel_rfl
theorem V44:Kus V3k=true:=by kernel_rfl
theorem V45:V37 V3f V3i 3 2=V3l:=by kernel_rfl
theorem V46:Kus V3l=true:=by kernel_rfl
theorem V47:V37 V3f V3j 3 3=V3m:=by kernel_rfl
theorem V48:Kus V3m=true:=by kernel_rfl
def V49:List K00:=[V3c,V3d,V3e,V3f,V3g,V3h,V3i,V3j,V3k,V3l,V3m]
theorem V4a {s:K00} (h:s ∈ V49):Kus s=true∧(2 ≤ s.fSize∧s.fSize ≤ 9)∧sms s ≤ 300:=by
 simp only [V49,List.mem_cons,List.not_mem_nil,or_false] at h
 rcases h with rfl | rfl | rfl | rfl | rfl | rfl | rfl | rfl | rfl | rfl | rfl
 ·exact ⟨V3o,by decide,by decide⟩
 ·exact ⟨V3q,by decide,by decide⟩
 ·exact ⟨V3s,by decide,by decide⟩
 ·exact ⟨V3u,by decide,by decide⟩
 ·exact ⟨V3w,by decide,by decide⟩
 ·exact ⟨V3y,by decide,by decide⟩
 ·exact ⟨V40,by decide,by decide⟩
 ·exact ⟨V42,by decide,by decide⟩
 ·exact ⟨V44,by decide,by decide⟩
 ·exact ⟨V46,by decide,by decide⟩
 ·exact ⟨V48,by decide,by decide⟩
theorem V4b (x:Int) (h:V23 3 x):x=0∨x=1∨x=2:=by
 have:=h.1 (by decide)
 omega
theorem V4c {x:Int} (h:V23 3 x):Gv (Kam (wr (1 + x))) (fun s=>s ∈ V49):=by
 rcases V4b x h with rfl | rfl | rfl
 ·exact .eq (V2i 1 (by decide) (by decide)) (by rw [V3n]; simp [V49])
 ·exact .eq (V2i 2 (by decide) (by decide)) (by rw [V3p]; simp [V49])
 ·exact .eq (V2i 3 (by decide) (by decide)) (by rw [V3r]; simp [V49])
theorem V4d {x:Int} (h:V23 3 x):Gv (Kap (wr (1 + x))) (fun s=>s ∈ V49):=by
 rcases V4b x h with rfl | rfl | rfl
 ·exact .eq (V2h 1 (by decide) (by decide)) (by rw [V3t]; simp [V49])
 ·exact .eq (V2h 2 (by decide) (by decide)) (by rw [V3v]; simp [V49])
 ·exact .eq (V2h 3 (by decide) (by decide)) (by rw [V3x]; simp [V49])
theorem V4e {x:Int} (h:V23 3 x):Gv (Kb3 (wr (1 + x))) (fun s=>s ∈ V49):=by
 rcases V4b x h with rfl | rfl | rfl
 ·exact .eq (V2u 1 (by decide) (by decide)) (by rw [V3z]; simp [V49])
 ·exact .eq (V2u 2 (by decide) (by decide)) (by rw [V41]; simp [V49])
 ·exact .eq (V2u 3 (by decide) (by decide)) (by rw [V43]; simp [V49])
theorem V4f {c:K02} (h:V1x c):Gv (Kde c) (fun r=>r.1 ∈ V49∧V1x r.2):=by
 unfold Kde
 refine Gv.bind (V24 h 3) ?_
 rintro ⟨x,c1⟩ ⟨hx,h1⟩
 simp only at hx h1 ⊢
 refine Gv.bind (V4c hx) (fun s0 hs0=>?_)
 refine Gv.bind (V24 h1 8) ?_
 rintro ⟨y,c2⟩ ⟨hy,h2⟩
 simp only at hy h2 ⊢
 have fin:∀ (R:Int × List Int × List Int × List Bool × List Int × Int × Int→Prop),True:=fun _=>trivial
 refine Gv.bind (Q:=fun _=>True) (.ite (fun _=>.of trivial) (fun _=>Gv.bind (Q:=fun _=>True) (.ite (fun _=>.of trivial) (fun _=>.of trivial)) (fun _ _=>.of trivial))) (fun j5 _=>?_)
 refine Gv.bind (Q:=fun r:Int × List Int × List Int × List Bool × List Int × Int × Int=>(⟨r.1,r.2.1,r.2.2.1,r.2.2.2.1⟩:K00) ∈ V49∧V1x ⟨r.2.2.2.2.1,r.2.2.2.2.2.1,r.2.2.2.2.2.2⟩) (.ite (fun _=>?_) (fun _=>?_)) ?_
 ·exact Gv.bind (V4d hx) (fun s hs=>.of ⟨hs,h2⟩)
 ·refine Gv.bind (Q:=fun _=>True) (.ite (fun _=>.of trivial) (fun _=>.of trivial)) (fun j9 _=>?_)
  refine Gv.bind (Q:=fun r:Int × List Int × List Int × List Bool × List Int × Int × Int=>(⟨r.1,r.2.1,r.2.2.1,r.2.2.2.1⟩:K00) ∈ V49∧V1x ⟨r.2.2.2.2.1,r.2.2.2.2.2.1,r.2.2.2.2.2.2⟩) (.ite (fun _=>?_) (fun _=>?_)) (by rintro ⟨a,b,d,e,f,g,i⟩ q; exact .of q)
  ·exact Gv.bind (V4e hx) (fun s hs=>.of ⟨hs,h2⟩)
  ·refine Gv.bind (Q:=fun r:Int × List Int × List Int × List Bool × List Int × Int × Int=>(⟨r.1,r.2.1,r.2.2.1,r.2.2.2.1⟩:K00) ∈ V49∧V1x ⟨r.2.2.2.2.1,r.2.2.2.2.2.1,r.2.2.2.2.2.2⟩) (.ite (fun _=>?_) (fun _=>.of ⟨hs0,h2⟩)) (by rintro ⟨a,b,d,e,f,g,i⟩ q; exact .of q)
   rw [show (1:Int)=((1:Nat):Int) from rfl,V2h 1 (by decide) (by decide),V3t,bs]
   refine Gv.bind (V24 h2 2) ?_
   rintro ⟨z,c3⟩ ⟨hz,h3⟩
   simp only at hz h3 ⊢
   have hz:=hz.1 (by decide)
   have t3:Tab V3f 3:=Kut V3u
   rcases (show z=0∨z=1 by omega) with rfl | rfl
   ·have e:wr (((1:Nat):Int) + 0)=((1:Nat):Int):=rfl
    rw [e,V2u 1 (by decide) (by decide),V3z,bs,V3b (m:=3) (n:=2) t3 (Kut V40) (by decide) (by decide) (by decide) V3u V40,V45,bs]
    exact .of ⟨by simp [V49],h3⟩
   ·have e:wr (((1:Nat):Int) + 1)=((2:Nat):Int):=rfl
    rw [e,V2u 2 (by decide) (by decide),V41,bs,V3b (m:=3) (n:=3) t3 (Kut V42) (by decide) (by decide) (by decide) V3u V42,V47,bs]
    exact .of ⟨by simp [V49],h3⟩
 ·rintro ⟨a,b,d,e,f,g,i⟩ q
  exact .of q
theorem V4g (c:Int) (a:List Int) (h:a.length ≤ 1000000):Kdl (c,[a])=some (c :: a):=by
 rw [Kya c [a] (by simp) (by simp; omega)]; simp
theorem V4h (c:Int) (a b:List Int) (h:a.length + b.length ≤ 1000000):Kdl (c,[a,b])=some (c :: (a ++ b)):=by
 rw [Kya c [a,b] (by simp) (by simp; omega)]; simp
theorem V4i {c:K02} (h:V1x c):Gv (Ki6 c) (fun r=>sms r.1 ≤ 300∧V1x r.2):=by
 unfold Ki6
 refine Gv.bind (V4f h) ?_
 rintro ⟨s,c1⟩ ⟨hs,h1⟩
 simp only at hs h1 ⊢
 obtain ⟨ok,⟨z1,z2⟩,hm⟩:=V4a hs
 have tb:=Kut ok
 have hn:2 ≤ s.fSize.toNat:=by omega
 have hnn:2 * 2 ≤ s.fSize.toNat * s.fSize.toNat:=Nat.mul_le_mul hn hn
 have lP:=tb.lp
 have lT:=tb.lt
 have lB:=tb.lb
 unfold sms at hm
 refine Gv.bind (V24 h1 9) ?_
 rintro ⟨x,c2⟩ ⟨hx,h2⟩
 simp only at hx h2 ⊢
 refine Gv.bind (Q:=fun r:Int × List Int × List Int × List Bool × List Int × Int × Int=>sms ⟨r.1,r.2.1,r.2.2.1,r.2.2.2.1⟩ ≤ 300∧V1x ⟨r.2.2.2.2.1,r.2.2.2.2.2.1,r.2.2.2.2.2.2⟩) (.ite (fun _=>?_) (fun _=>?_)) ?_
 ·refine Gv.bind (V24 h2 _) ?_
  rintro ⟨y,c3⟩ ⟨hy,h3⟩
  simp only at hy h3 ⊢
  refine Gv.bind (V24 h3 _) ?_
  rintro ⟨z,c4⟩ ⟨hz,h4⟩
  simp only at hz h4 ⊢
  have hy:=hy.1 (by omega)
  obtain ⟨v,e,hv⟩:=V1z hy.1 hy.2
  rw [e,bs]
  refine .of ⟨?_,h4⟩
  simp only [sms,List.length_set]
  exact hm
 ·refine Gv.bind (Q:=fun r:Int × List Int × List Bool × List Int × Int × Int=>r.2.1.length=s.fTimes.length∧r.2.2.1.length=s.fBelow.length∧V1x ⟨r.2.2.2.1,r.2.2.2.2.1,r.2.2.2.2.2⟩) (.ite (fun _=>?_) (fun _=>?_)) ?_
  ·refine Gv.bind (V24 h2 _) ?_
   rintro ⟨y,c3⟩ ⟨hy,h3⟩
   simp only at hy h3 ⊢
   refine Gv.bind (V24 h3 _) ?_
   rintro ⟨z,c4⟩ ⟨hz,h4⟩
   simp only at hz h4 ⊢
   have hy:=hy.1 (by omega)
   obtain ⟨v,e,hv⟩:=V1z hy.1 hy.2
   rw [e,bs]
   exact .of ⟨by simp,rfl,h4⟩
  ·refine Gv.bind (Q:=fun r:Int × List Bool × List Int × Int × Int=>r.2.1.length=s.fBelow.length∧V1x ⟨r.2.2.1,r.2.2.2.1,r.2.2.2.2⟩) (.ite (fun _=>?_) (fun _=>?_)) ?_
   ·refine Gv.bind (V24 h2 _) ?_
    rintro ⟨y,c3⟩ ⟨hy,h3⟩
    simp only at hy h3 ⊢
    have hy:=hy.1 (by omega)
    obtain ⟨v,e,hv⟩:=V1z hy.1 hy.2
    rw [e,bs,bs]
    exact .of ⟨by simp,h3⟩
   ·refine Gv.bind (Q:=fun r:Int × List Int × Int × Int=>V1x ⟨r.2.1,r.2.2.1,r.2.2.2⟩) (.ite (fun _=>?_) (fun _=>.of h2)) ?_
    ·refine Gv.bind (V27 h2) ?_
     rintro ⟨y,c3⟩ ⟨hy,h3⟩
     exact .of h3
    ·rintro ⟨a,b,d,e⟩ q
     exact .of ⟨rfl,q⟩
   ·rintro ⟨a,b,d,e,f⟩ q
    exact .of ⟨rfl,q⟩
  ·rintro ⟨a,b,d,e,f,g⟩ ⟨q1,q2,q3⟩
   refine .of ⟨?_,q3⟩
   simp only at q1 q2
   simp only [sms,q1,q2]
   exact hm
 ·rintro ⟨a,b,d,e,f,g,i⟩ q
  exact .of q
theorem V4j (d:Nat) (hd:d ≤ 10):2 ^ d ≤ 1024:=Nat.le_trans (Nat.pow_le_pow_right (by decide) hd) (by decide)
theorem V4k {s:K00}:∀ (d:Nat) (c:K02) (data:Bool),d ≤ 8→V1x c→Gv (Kdo (c,s,(d:Int),data)) (fun r=>(1 ≤ r.1.length∧r.1.length + 1 ≤ 2 ^ (d + 1))∧V1x r.2):=by
 intro d
 induction d with
 | zero =>
  intro c data _ h
  rw [Kdo.eq_def]
  simp only
  refine Gv.bind (V24 h 6) ?_
  rintro ⟨x,c1⟩ ⟨hx,h1⟩
  simp only at hx h1 ⊢
  rw [show decide (((0:Nat):Int) ≤ 0)=true from rfl,if_pos rfl,bs,if_pos rfl]
  exact .of ⟨⟨by simp,by simp⟩,h1⟩
 | succ d ih =>
  intro c data hd h
  have hp:=V4j (d + 1) (by omega)
  have hpe:2 ^ (d + 1 + 1)=2 ^ (d + 1) + 2 ^ (d + 1):=by rw [Nat.pow_succ]; omega
  have hp1:2 ≤ 2 ^ (d + 1):=Nat.le_trans (by decide) (Nat.pow_le_pow_right (n:=2) (by decide) (show 1 ≤ d + 1 by omega))
  have wd:wr (((d + 1:Nat):Int) - 1)=((d:Nat):Int):=by rw [Kr7 (by omega) (by omega)]; omega
  rw [Kdo.eq_def]
  simp only
  refine Gv.bind (V24 h 6) ?_
  rintro ⟨x,c1⟩ ⟨hx,h1⟩
  simp only at hx h1 ⊢
  rw [show decide (((d + 1:Nat):Int) ≤ 0)=false from decide_eq_false (by omega),if_neg (by decide),bs]
  refine .ite (fun _=>.of ⟨⟨by simp,by simp; omega⟩,h1⟩) (fun _=>?_)
  rw [wd]
  refine Gv.bind (ih c1 data (by omega) h1) ?_
  rintro ⟨a,c2⟩ ⟨ha,h2⟩
  simp only at ha h2 ⊢
  refine .ite (fun _=>?_) (fun _=>?_)
  ·refine Gv.bind (V24 h2 _) ?_
   rintro ⟨y,c3⟩ ⟨hy,h3⟩
   simp only at hy h3 ⊢
   rw [V4g _ _ (by omega),bs]
   exact .of ⟨by simp; omega,h3⟩
  refine Gv.bind (Q:=fun _=>True) (.ite (fun _=>.of trivial) (fun _=>.of trivial)) (fun v _=>?_)
  refine .ite (fun _=>?_) (fun _=>.ite (fun _=>?_) (fun _=>?_))
  ·refine Gv.bind (V24 h2 _) ?_
   rintro ⟨y,c3⟩ ⟨hy,h3⟩
   simp only at hy h3 ⊢
   refine Gv.bind (ih c3 data (by omega) h3) ?_
   rintro ⟨b,c4⟩ ⟨hb,h4⟩
   simp only at hb h4 ⊢
   rw [V4h _ _ _ (by omega),bs]
   exact .of ⟨by simp; omega,h4⟩
  ·refine Gv.bind (ih c2 data (by omega) h2) ?_
   rintro ⟨b,c4⟩ ⟨hb,h4⟩
   simp only at hb h4 ⊢
   rw [V4h _ _ _ (by omega),bs]
   exact .of ⟨by simp; omega,h4⟩
  ·refine Gv.bind (ih c2 data (by omega) h2) ?_
   rintro ⟨b,c4⟩ ⟨hb,h4⟩
   simp only at hb h4 ⊢
   rw [V4h _ _ _ (by omega),bs]
   exact .of ⟨by simp; omega,h4⟩
theorem V4l (c:K02):∀ (k:Nat) (ty:List Int),1 ≤ ty.length→ty.length + k=30∨(30 ≤ ty.length∧k=0)→ty.length ≤ 100→Gv (Kia (c,ty)) (fun r=>r.length ≤ 100):=by
 intro k
 induction k using Nat.strongRecOn with
 | ind k ih =>
  intro ty h1 h2 h3
  rw [Kia.eq_def]
  simp only
  refine .ite (fun hb=>?_) (fun _=>.of h3)
  have hb:=of_decide_eq_true hb
  rw [V4h _ _ _ (by omega),bs]
  by_cases hk:2 * ty.length + 1 < 30
  ·exact ih (30 - (2 * ty.length + 1)) (by omega) _ (by simp) (by left; simp; omega) (by simp; omega)
  ·exact ih 0 (by omega) _ (by simp) (by right; simp; omega) (by simp; omega)
theorem V4m {s:K00} {c:K02} (h:V1x c):Gv (Kid (c,s)) (fun r=>r.1.length ≤ 100∧V1x r.2):=by
 unfold Kid
 simp only
 refine Gv.bind (V25 h 2) ?_
 rintro ⟨x,c1⟩ h1
 simp only at h1 ⊢
 refine Gv.bind (V4k 3 c1 x (by decide) h1) ?_
 rintro ⟨ty,c2⟩ ⟨⟨l1,l2⟩,h2⟩
 simp only at l1 l2 h2 ⊢
 refine Gv.bind (V24 h2 14) ?_
 rintro ⟨y,c3⟩ ⟨hy,h3⟩
 simp only at hy h3 ⊢
 refine Gv.bind (Q:=fun r:List Int × List Int × Int × Int=>r.1.length ≤ 100∧V1x ⟨r.2.1,r.2.2.1,r.2.2.2⟩) (.ite (fun _=>?_) (fun _=>?_)) ?_
 ·refine Gv.bind (V24 h3 _) ?_
  rintro ⟨z,c4⟩ ⟨hz,h4⟩
  simp only at hz h4 ⊢
  refine Gv.bind (V26 h4 _ (by decide)) ?_
  rintro ⟨w,c5⟩ ⟨hw,h5⟩
  simp only at hw h5 ⊢
  have hz:=hz.1 (by omega)
  obtain ⟨v,e,hv⟩:=V1z hz.1 hz.2
  rw [e,bs]
  exact .of ⟨by simp; omega,h5⟩
 ·refine Gv.bind (Q:=fun r:List Int=>r.length ≤ 100) (.ite (fun _=>?_) (fun _=>?_)) ?_
  ·rw [show wr ((ty.length:Int) - 1)=((ty.length - 1:Nat):Int) from by rw [Kr7 (by omega) (by omega)]; omega,Kzi (by omega),bs]
   exact .of (by simp; omega)
  ·refine Gv.bind (Q:=fun r:List Int=>r.length ≤ 100) (.ite (fun _=>?_) (fun _=>?_)) (fun r hr=>.of hr)
   ·rw [Kue (by simp; omega),bs]
    exact .of (by simp; omega)
   ·refine Gv.bind (Q:=fun r:List Int=>r.length ≤ 100) (.ite (fun _=>?_) (fun _=>.of (by omega))) (fun r hr=>.of hr)
    exact Gv.bind (V4l c3 (30 - ty.length) ty l1 (by omega) (by omega)) (fun r hr=>.of hr)
  ·intro r hr
   exact .of ⟨hr,h3⟩
 ·rintro ⟨a,b,d,e⟩ q
  exact .of q
structure V4n (s:K00) (ctx:List (List Int)) (t:K01) (y:K04):Prop where
 ok:tOk (gN s.fSize true) (yN s.fSize true) ctx.length t=true
 cx:∀ q ∈ ctx,TyS s q
 bd:ctx.length + 2 * tsz t ≤ 1000000
 im:Kp4 (⟨s⟩,ctx,t)=some y
 fa:y.ffault=0
section
variable {s:K00} {n:Nat} (hs:Kxa s n) {ctx:List (List Int)} {t:K01} {y:K04}
include hs
theorem V4n.tell (g:V4n s ctx t y):∃ x,V0j s n ctx t x y∧x.ffault=0∧x.fty=y.fty∧TyS s y.fty:=by
 obtain ⟨x,y',r⟩:=V1r hs (tsz t) t ctx (Nat.le_refl _) g.ok g.cx g.bd
 have e:=r.im
 rw [g.im] at e
 cases e
 have hf:x.ffault=0:=by rw [← r.fa]; exact g.fa
 exact ⟨x,r,hf,r.ty.symm,by rw [r.ty]; exact (r.gd hf).1⟩
theorem V4n.many (g:V4n s ctx t y):y.fkids.length=t.fKids.length:=by
 obtain ⟨x,r,hf,_⟩:=g.tell hs
 exact (r.kd hf).1
theorem V4n.kid (g:V4n s ctx t y) {i:Nat} {k:K01} (hk:t.fKids[i]?=some k):∃ yk,y.fkids[i]?=some yk∧V4n s (V0h t i y.fkids ++ ctx) k yk∧(V0h t i y.fkids).length=Kts t.fOp i:=by
 obtain ⟨x,r,hf,_⟩:=g.tell hs
 obtain ⟨yk,h1,h2⟩:=(r.kd hf).2 i k hk
 obtain ⟨hi,hg⟩:=List.getElem?_eq_some_iff.1 hk
 have hm:k ∈ t.fKids:=hg ▸ List.getElem_mem hi
 have h3:=Kwa t.fKids t.fOp ctx.length 0 i hi (Kuc g.ok).2
 rw [hg,Nat.zero_add] at h3
 have h4:=Kvs hm
 have h5:=Ktt t.fOp (i:Int)
 have h6:=g.bd
 have h7:=h2.ln
 refine ⟨yk,h1,⟨?_,?_,?_,h2.im,h2.fa⟩,h7⟩
 ·rw [List.length_append,h7,Nat.add_comm]; exact h3
 ·intro q hq
  rcases List.mem_append.1 hq with hq | hq
  ·exact h2.ty q hq
  ·exact g.cx q hq
 ·rw [List.length_append,h7]; omega
theorem V4n.first (g:V4n s ctx t y) (h0:0 < t.fKids.length) (ha:Kts t.fOp ((0:Nat):Int)=0):∃ k0 y0 x0 l,t.fKids[0]?=some k0∧y.fkids=y0 :: l∧(V0j s n ctx k0 x0 y0∧x0.ffault=0)∧Kfv (s,ctx,k0)=some x0∧x0.fty=y0.fty∧TyS s y0.fty:=by
 have hk:t.fKids[0]?=some t.fKids[0]:=List.getElem?_eq_getElem h0
 obtain ⟨y0,h1,h2,h3⟩:=g.kid hs hk
 rw [ha] at h3
 rw [List.eq_nil_of_length_eq_zero h3,List.nil_append] at h2
 obtain ⟨x0,r,hf,h4,h5⟩:=h2.tell hs
 cases e:y.fkids with
 | nil=>rw [e] at h1; cases h1
 | cons z l =>
  rw [e] at h1
  cases h1
  exact ⟨_,_,x0,l,hk,rfl,⟨r,hf⟩,r.sp,h4,h5⟩
theorem V4n.inner (g:V4n s ctx t y) {i:Nat} (hi:i < t.fKids.length) :
  (Kts t.fOp (i:Int)=0∧V0h t i y.fkids=[]) ∨
  (t.fOp=9∧Kts t.fOp (i:Int)=1∧V0h t i y.fkids=[t.fType]) ∨
  (t.fOp=5∧Kts t.fOp (i:Int)=2∧∃ k0 x0 a b,t.fKids[0]?=some k0∧Kfv (s,ctx,k0)=some x0∧Ker (x0.fty,0)=some a∧Ker (x0.fty,1)=some b∧V0h t i y.fkids=[b,a]) ∨
  (t.fOp ≠ 9∧t.fOp ≠ 5∧Kts t.fOp (i:Int)=1∧∃ k0 x0 a,t.fKids[0]?=some k0∧Kfv (s,ctx,k0)=some x0∧Ker (x0.fty,wr ((i:Int) - 1))=some a∧V0h t i y.fkids=[a]):=by
 obtain ⟨yk,_,_,hl⟩:=g.kid hs (List.getElem?_eq_getElem hi)
 have hn:=Kuf (Kuc g.ok).1
 by_cases h0:Kts t.fOp (i:Int)=0
 ·rw [h0] at hl
  exact .inl ⟨h0,List.eq_nil_of_length_eq_zero hl⟩
 by_cases h9:t.fOp=9
 ·obtain ⟨op,N,ty,ks⟩:=t
  simp only at h9
  subst h9
  refine .inr (.inl ⟨rfl,rfl,?_⟩)
  unfold V0h
  rw [V0r]; rfl
 obtain ⟨op,N,ty,ks⟩:=t
 simp only at h9 h0 hn hi hl ⊢
 have hop:(op=5∧i=1)∨(op=8∧i=1)∨(op=8∧i=2)∨(op=12∧i=1):=by
  have h:=hn.2
  unfold Kts at h0
  split at h0
  ·rename_i q; simp at q; omega
  ·split at h0
   ·rename_i q q2
    simp [h9] at q2
    rcases q2 with q2 | q2
    ·have e:Kti 8=3:=by decide
     rw [q2.1,e] at h
     omega
    ·omega
   ·omega
 have ha0:Kts op ((0:Nat):Int)=0:=by
  rcases hop with ⟨rfl,_⟩ | ⟨rfl,_⟩ | ⟨rfl,_⟩ | ⟨rfl,_⟩ <;> decide
 obtain ⟨k0,y0,x0,l,e1,e2,_,e4,e5,e6⟩:=g.first hs (t:=⟨op,N,ty,ks⟩) (by simp only; omega) ha0
 rw [e2] at hl ⊢
 unfold V0h Klw at hl ⊢
 simp only at hl ⊢
 rw [if_neg (by simpa using h9),Ktv,bs,if_neg (by simpa using h0)] at hl ⊢
 rcases Kz5 hs e6 with q | ⟨a,b,q,p⟩ | ⟨a,b,q,p⟩ | ⟨c,a,b,_,_,q,p⟩ | ⟨c,a,_,_,q,p⟩
 ·rw [q,Kwd,bs] at hl
  rcases hop with ⟨rfl,rfl⟩ | ⟨rfl,rfl⟩ | ⟨rfl,rfl⟩ | ⟨rfl,rfl⟩ <;> cases hl
 all_goals
  rw [q,p.pp,bs] at hl
  rw [q,p.pp,bs]
  rcases hop with ⟨rfl,rfl⟩ | ⟨rfl,rfl⟩ | ⟨rfl,rfl⟩ | ⟨rfl,rfl⟩
  all_goals first
   | (cases hl; done)
   | exact .inr (.inr (.inl ⟨rfl,rfl,k0,x0,a,b,e1,e4,by rw [e5,q]; exact p.p0,by rw [e5,q]; exact p.p1,rfl⟩))
   | exact .inr (.inr (.inr ⟨by decide,by decide,rfl,k0,x0,a,e1,e4,by rw [e5,q]; exact p.p0,rfl⟩))
   | exact .inr (.inr (.inr ⟨by decide,by decide,rfl,k0,x0,b,e1,e4,by rw [e5,q]; exact p.p1,rfl⟩))
end
theorem V4o {s:K00} {ctx:List (List Int)} {t:K01} {x:K03} {y:K04} (h:Kyt s ctx t=true) (r:V0j s s.fSize.toNat ctx t x y) (hf:x.ffault=0):V4n s ctx t y:=by
 obtain ⟨h1,h2,h3,h4,h5⟩:=V1t h
 exact ⟨h5,h3,by omega,r.im,by rw [r.fa]; exact hf⟩
theorem V4p {s:K00} {c:Int} {a b:List Int} (hk:Ksh c=2) (hg:Kt3 s.fSize true c=true) (ha:TyS s a) (hb:TyS s b) (hl:a.length + b.length + 1 ≤ 40):TyS s (c :: (a ++ b)):=by
 obtain ⟨A,a1,rfl,a3,a4⟩:=Kyx ha
 obtain ⟨B,b1,rfl,b3,b4⟩:=Kyx hb
 refine Kyy (T:=.bin c A B) ⟨hk,a1,b1⟩ (by rw [Ty.code,List.length_cons,List.length_append]; omega) ?_
 rw [Ty.code,List.all_cons,List.all_append,hg,a4,b4]; rfl
theorem V4q {s:K00} {c:Int} {a:List Int} (hk:Ksh c=1) (hg:Kt3 s.fSize true c=true) (ha:TyS s a) (hl:a.length + 1 ≤ 40):TyS s (c :: a):=by
 obtain ⟨A,a1,rfl,a3,a4⟩:=Kyx ha
 refine Kyy (T:=.un c A) ⟨hk,a1⟩ (by rw [Ty.code,List.length_cons]; omega) ?_
 rw [Ty.code,List.all_cons,hg,a4]; rfl
theorem V4r {s:K00}:Kt3 s.fSize true 1=true:=by unfold Kt3; simp
theorem V4s {s:K00}:Kt3 s.fSize true 2=true:=by unfold Kt3; simp
theorem V4t {s:K00} {q:List Int} (h:TyS s q):1 ≤ q.length:=by
 obtain ⟨T,_,rfl,_,_⟩:=Kyx h
 exact Kuz T
def V4u (s:K00) (m b:Nat) (t:K01):Prop:=tOk (gN s.fSize true) (yN s.fSize true) m t=true∧tsz t ≤ b
def V4v (s:K00) (ctx:List (List Int)):Prop:=∀ q ∈ ctx,TyS s q
theorem V4w {s:K00} {ctx:List (List Int)} {q:List Int} (h:V4v s ctx) (hq:TyS s q):V4v s (q :: ctx):=fun x hx=>by
 rcases List.mem_cons.1 hx with rfl | hx
 ·exact hq
 ·exact h x hx
theorem V4x {s:K00} {m:Nat} {i:Nat} (hi:i < m):V4u s m 1 ⟨0,(i:Int),[],[]⟩:=by
 refine ⟨?_,by simp [tsz,Kt8]⟩
 rw [Ku0]
 simp [Ktz,Kty,Ktw,Ktx,inB,Kti,Ktk]
 omega
theorem V4y {s:K00} {m:Nat} {x:Int} (hx:0 ≤ x∧x < 3):V4u s m 1 ⟨1,x,[],[]⟩:=by
 refine ⟨?_,by simp [tsz,Kt8]⟩
 rw [Ku0]
 simp [Ktz,Kty,Ktw,Ktx,inB,Kti,Ktk]
 omega
theorem V4z {s:K00} {op:Int} {m b1 b2:Nat} {k1 k2:K01} (hop:op=2∨op=4∨op=10) (h1:V4u s m b1 k1) (h2:V4u s m b2 k2):V4u s m (1 + b1 + b2) ⟨op,0,[],[k1,k2]⟩:=by
 refine ⟨?_,by have:=h1.2; have:=h2.2; simp [tsz,Kt8]; omega⟩
 rw [Ku0]
 rcases hop with rfl | rfl | rfl <;> simp [Ktz,Kty,Ktw,Ktx,inB,Kti,Ktk,Ktj,Kts,h1.1,h2.1]
theorem V50 {s:K00} {m b1 b2 b3:Nat} {k1 k2 k3:K01} (h1:V4u s m b1 k1) (h2:V4u s m b2 k2) (h3:V4u s m b3 k3):V4u s m (1 + b1 + b2 + b3) ⟨3,0,[],[k1,k2,k3]⟩:=by
 refine ⟨?_,by have:=h1.2; have:=h2.2; have:=h3.2; simp [tsz,Kt8]; omega⟩
 rw [Ku0]
 simp [Ktz,Kty,Ktw,Ktx,inB,Kti,Ktk,Ktj,Kts,h1.1,h2.1,h3.1]
theorem V51 {s:K00} {op:Int} {m b1:Nat} {q:List Int} {k1:K01} (hop:op=6∨op=7) (hq:TyS s q) (h1:V4u s m b1 k1):V4u s m (1 + b1) ⟨op,0,q,[k1]⟩:=by
 have hq:yN s.fSize true q=true:=hq
 refine ⟨?_,by have:=h1.2; simp [tsz,Kt8]; omega⟩
 rw [Ku0]
 rcases hop with rfl | rfl <;> simp [Ktz,Kty,Ktw,Ktx,inB,Kti,Ktk,Ktj,Kts,h1.1,hq]
section
variable {s:K00} {n:Nat} (hs:Kxa s n)
include hs
theorem V52 {g:Nat} (h:g < n):Ksh (3 + (g:Int))=2∧Kt3 s.fSize true (3 + (g:Int))=true:=by
 have:=hs.tab.hi
 refine ⟨by rcases Ksl (3 + (g:Int)) with q | q | q | q <;> omega,(Kz3 hs (by omega)).2 (by omega)⟩
theorem V53 {g:Nat} (h:g < n):Ksh (19 + (g:Int))=1∧Kt3 s.fSize true (19 + (g:Int))=true:=by
 have:=hs.tab.hi
 refine ⟨by rcases Ksl (19 + (g:Int)) with q | q | q | q <;> omega,(Kz4 hs (by omega)).2 (by omega)⟩
theorem V54:∀ (d:Nat) (c:K02) (data:Bool),d ≤ 3→V1x c→Gv (Kdo (c,s,(d:Int),data)) (fun r=>(TyS s r.1∧r.1.length + 1 ≤ 2 ^ (d + 1))∧V1x r.2):=by
 have hsz:=hs.tab.size
 have hlo:=hs.tab.lo
 intro d
 induction d with
 | zero =>
  intro c data _ h
  rw [Kdo.eq_def]
  simp only
  refine Gv.bind (V24 h 6) ?_
  rintro ⟨x,c1⟩ ⟨hx,h1⟩
  simp only at hx h1 ⊢
  rw [show decide (((0:Nat):Int) ≤ 0)=true from rfl,if_pos rfl,bs,if_pos rfl]
  exact .of ⟨⟨Kz2,by simp⟩,h1⟩
 | succ d ih =>
  intro c data hd h
  have hp:=V4j (d + 1) (by omega)
  have hp5:2 ^ (d + 1) ≤ 8:=Nat.le_trans (Nat.pow_le_pow_right (by decide) (show d + 1 ≤ 3 by omega)) (by decide)
  have hpe:2 ^ (d + 1 + 1)=2 ^ (d + 1) + 2 ^ (d + 1):=by rw [Nat.pow_succ]; omega
  have hp1:2 ≤ 2 ^ (d + 1):=Nat.le_trans (by decide) (Nat.pow_le_pow_right (n:=2) (by decide) (show 1 ≤ d + 1 by omega))
  have wd:wr (((d + 1:Nat):Int) - 1)=((d:Nat):Int):=by rw [Kr7 (by omega) (by omega)]; omega
  rw [Kdo.eq_def]
  simp only
  refine Gv.bind (V24 h 6) ?_
  rintro ⟨x,c1⟩ ⟨hx,h1⟩
  simp only at hx h1 ⊢
  rw [show decide (((d + 1:Nat):Int) ≤ 0)=false from decide_eq_false (by omega),if_neg (by decide),bs]
  refine .ite (fun _=>.of ⟨⟨Kz2,by simp; omega⟩,h1⟩) (fun _=>?_)
  rw [wd]
  refine Gv.bind (ih c1 data (by omega) h1) ?_
  rintro ⟨a,c2⟩ ⟨⟨ta,ha⟩,h2⟩
  simp only at ta ha h2 ⊢
  refine .ite (fun _=>?_) (fun _=>?_)
  ·refine Gv.bind (V24 h2 _) ?_
   rintro ⟨y,c3⟩ ⟨hy,h3⟩
   simp only at hy h3 ⊢
   have hy:=hy.1 (by omega)
   obtain ⟨g,rfl⟩:∃ g:Nat,y=(g:Int):=⟨y.toNat,by omega⟩
   obtain ⟨k1,k2⟩:=V53 hs (g:=g) (by omega)
   have hb:=hs.tab.hi
   rw [Kr7 (by omega) (by omega),V4g _ _ (by omega),bs]
   exact .of ⟨⟨V4q k1 k2 ta (by omega),by simp; omega⟩,h3⟩
  refine Gv.bind (Q:=fun _=>True) (.ite (fun _=>.of trivial) (fun _=>.of trivial)) (fun v _=>?_)
  refine .ite (fun _=>?_) (fun _=>.ite (fun _=>?_) (fun _=>?_))
  ·refine Gv.bind (V24 h2 _) ?_
   rintro ⟨y,c3⟩ ⟨hy,h3⟩
   simp only at hy h3 ⊢
   have hy:=hy.1 (by omega)
   obtain ⟨g,rfl⟩:∃ g:Nat,y=(g:Int):=⟨y.toNat,by omega⟩
   obtain ⟨k1,k2⟩:=V52 hs (g:=g) (by omega)
   have hbb:=hs.tab.hi
   refine Gv.bind (ih c3 data (by omega) h3) ?_
   rintro ⟨b,c4⟩ ⟨⟨tb,hb⟩,h4⟩
   simp only at tb hb h4 ⊢
   rw [Kr7 (by omega) (by omega),V4h _ _ _ (by omega),bs]
   exact .of ⟨⟨V4p k1 k2 ta tb (by omega),by simp; omega⟩,h4⟩
  ·refine Gv.bind (ih c2 data (by omega) h2) ?_
   rintro ⟨b,c4⟩ ⟨⟨tb,hb⟩,h4⟩
   simp only at tb hb h4 ⊢
   rw [V4h _ _ _ (by omega),bs]
   exact .of ⟨⟨V4p rfl V4s ta tb (by omega),by simp; omega⟩,h4⟩
  ·refine Gv.bind (ih c2 data (by omega) h2) ?_
   rintro ⟨b,c4⟩ ⟨⟨tb,hb⟩,h4⟩
   simp only at tb hb h4 ⊢
   rw [V4h _ _ _ (by omega),bs]
   exact .of ⟨⟨V4p rfl V4r ta tb (by omega),by simp; omega⟩,h4⟩
theorem V55 {ctx:List (List Int)} {t:K01} {b:Nat} (hc:V4v s ctx) (hl:ctx.length ≤ 1000) (hb:b ≤ 400000) (h:V4u s ctx.length b t) :
  ∃ x,Kfv (s,ctx,t)=some x∧(x.ffault=0→TyS s x.fty∧∃ ns:List Nat,x.fneeds=Kx5 ns∧ns.length=ctx.length∧Kxl n ns):=by
 have:=h.2
 obtain ⟨x,y,r⟩:=V1r hs (tsz t) t ctx (Nat.le_refl _) h.1 hc (by omega)
 exact ⟨x,r.sp,fun hf=>let ⟨g1,_,g2⟩:=r.gd hf; ⟨g1,g2⟩⟩
theorem V56 {ctx:List (List Int)} {t:K01} {b:Nat} (hc:V4v s ctx) (hl:ctx.length ≤ 1000) (hb:b ≤ 400000) (h:V4u s ctx.length b t) (i:Nat) (hi:i < ctx.length) :
  ∃ g:Nat,g < n∧Kg8 (s,ctx,t,(i:Int))=some (g:Int):=by
 obtain ⟨x,e,hx⟩:=V55 hs hc hl hb h
 unfold Kg8
 simp only
 rw [e,bs]
 by_cases hf:x.ffault=0
 ·obtain ⟨_,ns,e2,e3,e4⟩:=hx hf
  have hi':i < ns.length:=by omega
  refine ⟨ns[i],e4 _ (List.getElem_mem hi'),?_⟩
  rw [if_neg (by simp [hf]),e2,Kr8 (by rw [Kx6]; exact hi'),bs]
  simp [Kx5]
 ·rw [if_pos (bne_iff_ne.2 hf)]
  exact ⟨0,Nat.lt_of_lt_of_le (by decide) hs.tab.lo,rfl⟩
theorem V57 {a b:Nat} (ha:a < n) (hb:b < n):∃ g:Nat,g < n∧Kc1 (s,(a:Int),(b:Int))=some (g:Int):=by
 obtain ⟨e,h⟩:=Kxh hs ha hb
 exact ⟨_,h,by rw [Ks1 hs.tab ha hb,e]⟩
theorem V58 (c0:K02) {g:Nat} (hg:g < n):∀ (k i:Nat) (c:K02),i + k=3→V1x c→Gv (Kgc (c0,s,(g:Int),c.fb,c.fi,c.fh,(i:Int))) (fun fl=>match fl with | .inl r=>V1x ⟨r.1,r.2.1,r.2.2⟩ | .inr r=>(∃ h:Nat,h < n∧r.1=(h:Int))∧V1x r.2):=by
 have hsz:=hs.tab.size
 have hlo:=hs.tab.lo
 intro k
 induction k with
 | zero =>
  intro i c hi h
  rw [Kgc.eq_def]
  simp only
  rw [decide_eq_false (by omega),if_neg (by decide),bs]
  simp only
  rw [if_neg (by decide)]
  exact .of h
 | succ k ih =>
  intro i c hi h
  rw [Kgc.eq_def]
  simp only
  rw [decide_eq_true (by omega),if_pos rfl]
  refine Gv.bind (Q:=fun r:List Int × Int × Int × Bool=>V1x ⟨r.1,r.2.1,r.2.2.1⟩) (Gv.bind (V25 h 3) (by rintro ⟨x,c1⟩ h1; exact .of h1)) ?_
  rintro ⟨a,b,d,v⟩ h1
  simp only at h1 ⊢
  refine .ite (fun _=>?_) (fun _=>.of h1)
  refine Gv.bind (V24 h1 _) ?_
  rintro ⟨y,c3⟩ ⟨hy,h3⟩
  simp only at hy h3 ⊢
  have hy:=hy.1 (by omega)
  obtain ⟨q,rfl⟩:∃ q:Nat,y=(q:Int):=⟨y.toNat,by omega⟩
  rw [sLe hs.tab hg (by omega),bs]
  refine .ite (fun _=>.of ⟨⟨q,by omega,rfl⟩,h3⟩) (fun _=>?_)
  rw [Kr9 (by omega)]
  exact ih (i + 1) c3 (by omega) h3
theorem V59 {c:K02} (h:V1x c) {g:Nat} (hg:g < n):Gv (Kgf (c,s,(g:Int))) (fun r=>(∃ h:Nat,h < n∧r.1=(h:Int))∧V1x r.2):=by
 have hsz:=hs.tab.size
 unfold Kgf
 simp only
 rw [decide_eq_false (by omega),if_neg (by decide),decide_eq_false (by omega),bs,if_neg (by decide)]
 have:=V58 hs c hg 3 0 c rfl h
 rw [show ((0:Nat):Int)=0 from rfl] at this
 refine Gv.bind this ?_
 rintro (⟨a,b,d⟩ | ⟨r,c1⟩) q
 ·exact .of ⟨⟨g,hg,rfl⟩,q⟩
 ·exact .of q
theorem V5a {g:Nat} (h:g < n):gN s.fSize true (g:Int)=true:=by
 have:=hs.tab.size
 unfold gN
 simp
 omega
theorem V5b {m b1 b2 g:Nat} {k1 k2:K01} (hg:g < n) (h1:V4u s m b1 k1) (h2:V4u s (m + 2) b2 k2):V4u s m (1 + b1 + b2) ⟨5,(g:Int),[],[k1,k2]⟩:=by
 refine ⟨?_,by have:=h1.2; have:=h2.2; simp [tsz,Kt8]; omega⟩
 rw [Ku0]
 simp [Ktz,Kty,Ktw,Ktx,inB,Kti,Ktk,Ktj,Kts,h1.1,h2.1,V5a hs hg]
theorem V5c {m b1 b2 b3 g:Nat} {k1 k2 k3:K01} (hg:g < n) (h1:V4u s m b1 k1) (h2:V4u s (m + 1) b2 k2) (h3:V4u s (m + 1) b3 k3):V4u s m (1 + b1 + b2 + b3) ⟨8,(g:Int),[],[k1,k2,k3]⟩:=by
 refine ⟨?_,by have:=h1.2; have:=h2.2; have:=h3.2; simp [tsz,Kt8]; omega⟩
 rw [Ku0]
 simp [Ktz,Kty,Ktw,Ktx,inB,Kti,Ktk,Ktj,Kts,h1.1,h2.1,h3.1,V5a hs hg]
theorem V5d {m b1 b2 g:Nat} {k1 k2:K01} (hg:g < n) (h1:V4u s m b1 k1) (h2:V4u s (m + 1) b2 k2):V4u s m (1 + b1 + b2) ⟨12,(g:Int),[],[k1,k2]⟩:=by
 refine ⟨?_,by have:=h1.2; have:=h2.2; simp [tsz,Kt8]; omega⟩
 rw [Ku0]
 simp [Ktz,Kty,Ktw,Ktx,inB,Kti,Ktk,Ktj,Kts,h1.1,h2.1,V5a hs hg]
theorem V5e {m b1 g:Nat} {k1:K01} (hg:g < n) (h1:V4u s m b1 k1):V4u s m (1 + b1) ⟨11,(g:Int),[],[k1]⟩:=by
 refine ⟨?_,by have:=h1.2; simp [tsz,Kt8]; omega⟩
 rw [Ku0]
 simp [Ktz,Kty,Ktw,Ktx,inB,Kti,Ktk,Ktj,Kts,h1.1,V5a hs hg]
theorem V5f {m b1 g:Nat} {q:List Int} {k1:K01} (hg:g < n) (hq:TyS s q) (h1:V4u s (m + 1) b1 k1):V4u s m (1 + b1) ⟨9,(g:Int),q,[k1]⟩:=by
 have hq:yN s.fSize true q=true:=hq
 refine ⟨?_,by have:=h1.2; simp [tsz,Kt8]; omega⟩
 rw [Ku0]
 simp [Ktz,Kty,Ktw,Ktx,inB,Kti,Ktk,Ktj,Kts,h1.1,hq,V5a hs hg]
end
theorem V4u.mono {s:K00} {m b b':Nat} {t:K01} (h:V4u s m b t) (hb:b ≤ b'):V4u s m b' t:=⟨h.1,Nat.le_trans h.2 hb⟩
theorem sOp (op N:Int) (ks:List K01):Ke5 (op,N,ks)=some ⟨op,N,[],ks⟩:=rfl
def Dr (s:K00) (m b:Nat) (r:K01 × K02):Prop:=V4u s m b r.1∧V1x r.2
section
variable {s:K00} {n:Nat} (hs:Kxa s n)
theorem V5g {c0 c:K02} (h:V1x c) {ctx:List (List Int)} {ty:List Int} {deep:Int} (hl:ctx.length ≤ 1000) (hty:ty.length ≤ 1000) {f:Int} (hf:0 ≤ f∧f < ctx.length) (hq:∀ q ∈ ctx,q.length ≤ 1000):∀ (k i:Nat),i + k=ctx.length →
  Gv (Kgx (c0,s,ctx,ty,deep,f,c,(i:Int))) (fun fl=>match fl with | .inl _=>True | .inr r=>Dr s ctx.length 1 r):=by
 intro k
 induction k with
 | zero =>
  intro i hi
  rw [Kgx.eq_def]
  simp only
  rw [Krb (by omega),if_neg (by decide)]
  exact .of trivial
 | succ k ih =>
  intro i hi
  obtain ⟨g,rfl⟩:∃ g:Nat,f=(g:Int):=⟨f.toNat,by omega⟩
  have e:Int.tmod (wr ((g:Int) + (i:Int))) (ctx.length:Int)=(((g + i) % ctx.length:Nat):Int):=by
   rw [Kvm (by omega) (by omega),V2p]
  have hm:(g + i) % ctx.length < ctx.length:=Nat.mod_lt _ (by omega)
  have ck:chk ((ctx.length:Int) ≠ 0)=some ():=by unfold chk; rw [if_pos (by omega)]
  rw [Kgx.eq_def]
  simp only
  rw [Kra (by omega),if_pos rfl,ck,bs,e,Kr8 hm,bs,Kwh _ ty (by omega),bs]
  refine .ite (fun _=>?_) (fun _=>?_)
  ·rw [sOp,bs]
   exact .of ⟨V4x hm,h⟩
  ·rw [Kr9 (by omega)]
   exact ih (i + 1) (by omega)
include hs
theorem V5h {deep:Int} {b:Nat} {ctx:List (List Int)} {p q:List Int} {g:Nat} (hg:g < n) (P:Kyz s (3 + (g:Int)) p q) (hg15:g ≤ 15) (hc:V4v s ctx) (hl:ctx.length ≤ 900) (hb:b ≤ 300000) (hb1:1 ≤ b) (hd:-900 ≤ deep∧deep ≤ 100)
  (H:∀ c,V1x c→Gv (Kh5 (c,s,p :: ctx,q,wr (deep - 1))) (Dr s (ctx.length + 1) b)) (c:K02) (h:V1x c):Gv (Kh6 (c,s,ctx,(3 + (g:Int)) :: (p ++ q),deep)) (Dr s ctx.length (1 + b)):=by
 have hlp:=Kyw P.ya
 have hlq:=Kyw P.yb
 have hc':V4v s (p :: ctx):=V4w hc P.ya
 have loop:∀ (k i:Nat) (c:K02) (u1 u2:Int) (u3:List Int) (u4:List K01),i + k=3→V1x c→V4u s (ctx.length + 1) b ⟨u1,u2,u3,u4⟩ →
   Gv (Kh7 (s,ctx,deep,p,q,(g:Int),p :: ctx,c.fb,c.fi,c.fh,u1,u2,u3,u4,(i:Int))) (fun r=>V4u s (ctx.length + 1) b ⟨r.1,r.2.1,r.2.2.1,r.2.2.2.1⟩∧V1x ⟨r.2.2.2.2.1,r.2.2.2.2.2.1,r.2.2.2.2.2.2⟩):=by
  intro k
  induction k with
  | zero =>
   intro i c u1 u2 u3 u4 hi h ht
   rw [Kh7.eq_def]
   simp only
   rw [decide_eq_false (by omega),if_neg (by decide),bs,if_neg (by decide)]
   exact .of ⟨ht,h⟩
  | succ k ih =>
   intro i c u1 u2 u3 u4 hi h ht
   rw [Kh7.eq_def]
   simp only
   obtain ⟨m,m1,m2⟩:=V56 hs hc' (by simp; omega) (by omega) (t:=⟨u1,u2,u3,u4⟩) (b:=b) (by simpa using ht) 0 (by simp)
   rw [show ((0:Nat):Int)=0 from rfl] at m2
   rw [decide_eq_true (by omega),if_pos rfl,m2,bs,sLe hs.tab m1 hg,bs,bs]
   refine .ite (fun _=>?_) (fun _=>.of ⟨ht,h⟩)
   refine Gv.bind (H c h) ?_
   rintro ⟨⟨x1,x2,x3,x4⟩,c2⟩ ⟨ht2,h2⟩
   simp only at ht2 h2 ⊢
   refine Gv.bind (Q:=fun _=>True) (.ite (fun _=>?_) (fun _=>.of trivial)) (fun v _=>?_)
   ·rw [Kwh p q (by omega),bs]; exact .of trivial
   refine Gv.bind (Q:=fun r:Int × Int × List Int × List K01=>V4u s (ctx.length + 1) b ⟨r.1,r.2.1,r.2.2.1,r.2.2.2⟩) (.ite (fun _=>?_) (fun _=>.of ht2)) ?_
   ·rw [sOp,bs]
    exact .of ((V4x (i:=0) (by omega)).mono hb1)
   ·rintro ⟨a1,a2,a3,a4⟩ ha
    simp only at ha ⊢
    rw [Kr9 (by omega)]
    exact ih (i + 1) c2 a1 a2 a3 a4 (by omega) h2 ha
 rw [Kh6.eq_def]
 simp only
 have i0:idx ((3 + (g:Int)) :: (p ++ q)) 0=some (3 + (g:Int)):=rfl
 rw [P.p0,bs,P.p1,bs,i0,bs,V1j g hg15,bs,Ky8 ctx [p] (by simp; omega),bs]
 refine Gv.bind (H c h) ?_
 rintro ⟨⟨x1,x2,x3,x4⟩,c1⟩ ⟨ht,h1⟩
 simp only at ht h1 ⊢
 refine Gv.bind (loop 3 0 c1 x1 x2 x3 x4 rfl h1 ht) ?_
 rintro ⟨a1,a2,a3,a4,a5,a6,a7⟩ ⟨q1,q2⟩
 exact .of ⟨V5f hs hg P.ya q1,q2⟩
theorem V5i {deep:Int} {f:List Int→Nat} {B:Nat} {ctx:List (List Int)} {ty:List Int} (hd:-900 ≤ deep∧deep ≤ 100) (hc:V4v s ctx) (hl:ctx.length ≤ 900) (hty:TyS s ty)
  (hB:1 ≤ B) (hf1:∀ q,1 ≤ q.length→1 ≤ f q) (hf:∀ q,f q ≤ 300000) (hB2:∀ a b:List Int,a.length + b.length + 1=ty.length→1 + f a + f b ≤ B) (hB1:∀ a:List Int,a.length < ty.length→1 + f a ≤ B) (hBa:0 < deep→1 + f ty + f ty ≤ B)
  (H:∀ c ctx' ty',V1x c→V4v s ctx'→ctx'.length ≤ ctx.length + 1→(ctx'.length=ctx.length∨ty'.length + 2 ≤ ty.length)→TyS s ty'→(ty'.length < ty.length∨0 < deep∧ty'=ty)→Gv (Kh5 (c,s,ctx',ty',wr (deep - 1))) (Dr s ctx'.length (f ty')))
  (HA:0 < deep→∀ c,V1x c→Gv (Kh8 (c,s,ctx,ty,wr (deep - 1))) (Dr s ctx.length B)) (c:K02) (h:V1x c):Gv (Kh5 (c,s,ctx,ty,deep)) (Dr s ctx.length B):=by
 have htl:=Kyw hty
 rw [Kh5.eq_def]
 simp only
 refine Gv.bind (V24 h 5) ?_
 rintro ⟨x,c1⟩ ⟨hx,h1⟩
 simp only at hx h1 ⊢
 refine Gv.bind (Q:=fun fl:(List Int × Int × Int) ⊕ (K01 × K02)=>match fl with | .inl r=>V1x ⟨r.1,r.2.1,r.2.2⟩ | .inr r=>Dr s ctx.length B r) (.ite (fun _=>?_) (fun _=>.of h1)) ?_
 ·refine Gv.bind (V24 h1 _) ?_
  rintro ⟨y,c2⟩ ⟨hy,h2⟩
  simp only at hy h2 ⊢
  by_cases h0:ctx.length=0
  ·have e:Kgx (c,s,ctx,ty,deep,y,c2,0)=some (.inl ()):=by
    rw [Kgx.eq_def]
    simp only
    rw [decide_eq_false (by omega),if_neg (by decide)]
   rw [e,bs]
   exact .of h2
  ·have l0:=V5g (s:=s) (c0:=c) h2 (ctx:=ctx) (ty:=ty) (deep:=deep) (by omega) (by omega) (hy.1 (by omega)) (fun q hq=>by have:=Kyw (hc q hq); omega) ctx.length 0 (by omega)
   rw [show ((0:Nat):Int)=0 from rfl] at l0
   refine Gv.bind l0 ?_
   rintro (u | r) hr
   ·exact .of h2
   ·exact .of ⟨hr.1.mono hB,hr.2⟩
 rintro (⟨a1,a2,a3⟩ | r) q
 rotate_left
 ·exact .of q
 simp only at q ⊢
 refine Gv.bind (Q:=fun r:List Int × Int × Int × Bool=>V1x ⟨r.1,r.2.1,r.2.2.1⟩∧(r.2.2.2=true→0 < deep)) (.ite (fun hb=>?_) (fun _=>.of ⟨q,fun h=>by cases h⟩)) ?_
 ·have hb:=of_decide_eq_true hb
  exact Gv.bind (V25 q 3) (by rintro ⟨v,c2⟩ h2; exact .of ⟨h2,fun _=>hb⟩)
 rintro ⟨b1,b2,b3,v⟩ ⟨h3,hv⟩
 simp only at h3 hv ⊢
 refine .ite (fun hvt=>?_) (fun _=>?_)
 ·refine Gv.bind (HA (hv hvt) _ h3) ?_
  rintro ⟨t,c4⟩ ht
  exact .of ht
 obtain ⟨c0,t0,rfl⟩:∃ c0 t0,ty=c0 :: t0:=by
  cases ty with
  | nil=>have:=V4t hty; simp at this
  | cons c0 t0=>exact ⟨c0,t0,rfl⟩
 rw [show idx (c0 :: t0) 0=some c0 from rfl,bs]
 have add:Gv ((if (c0 == 0)=true then if decide (deep > 0)=true then Ka5 (⟨b1,b2,b3⟩,2) >>= fun (r:Bool × K02)=>some (r.2.fb,r.2.fi,r.2.fh,r.1) else some (b1,b2,b3,false) else some (b1,b2,b3,false)):Option (List Int × Int × Int × Bool)) (fun r=>V1x ⟨r.1,r.2.1,r.2.2.1⟩∧(r.2.2.2=true→0 < deep)):=by
  refine .ite (fun _=>.ite (fun hb=>?_) (fun _=>.of ⟨h3,fun h=>by cases h⟩)) (fun _=>.of ⟨h3,fun h=>by cases h⟩)
  have hb:=of_decide_eq_true hb
  exact Gv.bind (V25 h3 2) (by rintro ⟨v,c2⟩ h2; exact .of ⟨h2,fun _=>hb⟩)
 refine Gv.bind add ?_
 rintro ⟨d1,d2,d3,w⟩ ⟨h4,hw⟩
 simp only at h4 hw ⊢
 refine .ite (fun hwt=>?_) (fun _=>?_)
 ·have hp:=hw hwt
  refine Gv.bind (H _ ctx _ h4 hc (by omega) (.inl rfl) hty (.inr ⟨hp,rfl⟩)) ?_
  rintro ⟨t1,e1⟩ ⟨ht1,k1⟩
  simp only at ht1 k1 ⊢
  refine Gv.bind (H _ ctx _ k1 hc (by omega) (.inl rfl) hty (.inr ⟨hp,rfl⟩)) ?_
  rintro ⟨t2,e2⟩ ⟨ht2,k2⟩
  simp only at ht2 k2 ⊢
  rw [sOp,bs]
  exact .of ⟨(V4z (.inl rfl) ht1 ht2).mono (hBa hp),k2⟩
 rcases Kz5 hs hty with e | ⟨a,b,e,P⟩ | ⟨a,b,e,P⟩ | ⟨g,a,b,hg,h15,e,P⟩ | ⟨g,a,hg,h15,e,P⟩
 ·cases e
  rw [if_pos (by decide)]
  refine Gv.bind (V24 h4 3) ?_
  rintro ⟨y,c2⟩ ⟨hy,h2⟩
  simp only at hy h2 ⊢
  rw [sOp,bs]
  exact .of ⟨(V4y (hy.1 (by decide))).mono hB,h2⟩
 ·have hlen:a.length + b.length + 1=(c0 :: t0).length:=by rw [e]; simp
  have la:a.length < (c0 :: t0).length:=by omega
  have lb:b.length < (c0 :: t0).length:=by omega
  cases e
  rw [if_neg (by decide),if_pos (by decide),P.p0,bs]
  refine Gv.bind (H _ ctx _ h4 hc (by omega) (.inl rfl) P.ya (.inl la)) ?_
  rintro ⟨t1,e1⟩ ⟨ht1,k1⟩
  simp only at ht1 k1 ⊢
  rw [P.p1,bs]
  refine Gv.bind (H _ ctx _ k1 hc (by omega) (.inl rfl) P.yb (.inl lb)) ?_
  rintro ⟨t2,e2⟩ ⟨ht2,k2⟩
  simp only at ht2 k2 ⊢
  rw [sOp,bs]
  exact .of ⟨(V4z (.inr (.inl rfl)) ht1 ht2).mono (hB2 a b hlen),k2⟩
 ·have hlen:a.length + b.length + 1=(c0 :: t0).length:=by rw [e]; simp
  have la:a.length < (c0 :: t0).length:=by omega
  have lb:b.length < (c0 :: t0).length:=by omega
  cases e
  rw [if_neg (by decide),if_neg (by decide)]
  refine Gv.bind (Q:=fun r:List Int × Int × Int × Bool=>V1x ⟨r.1,r.2.1,r.2.2.1⟩) (.ite (fun _=>?_) (fun _=>.of h4)) ?_
  ·exact Gv.bind (V25 h4 2) (by rintro ⟨v,c2⟩ h2; exact .of h2)
  rintro ⟨f1,f2,f3,z⟩ h5
  simp only at h5 ⊢
  refine .ite (fun _=>?_) (fun _=>?_)
  ·rw [P.p1,bs,P.p0,bs]
   refine Gv.bind (H _ ctx _ h5 hc (by omega) (.inl rfl) P.ya (.inl la)) ?_
   rintro ⟨t1,e1⟩ ⟨ht1,k1⟩
   simp only at ht1 k1 ⊢
   exact .of ⟨(V51 (.inl rfl) P.yb ht1).mono (hB1 a la),k1⟩
  ·rw [if_pos (by decide),P.p0,bs,P.p1,bs]
   refine Gv.bind (H _ ctx _ h5 hc (by omega) (.inl rfl) P.yb (.inl lb)) ?_
   rintro ⟨t1,e1⟩ ⟨ht1,k1⟩
   simp only at ht1 k1 ⊢
   exact .of ⟨(V51 (.inr rfl) P.ya ht1).mono (hB1 b lb),k1⟩
 ·have hlen:a.length + b.length + 1=(c0 :: t0).length:=by rw [e]; simp
  have hal:=V4t P.ya
  have lb:b.length < (c0 :: t0).length:=by omega
  have lb2:b.length + 2 ≤ (c0 :: t0).length:=by omega
  cases e
  have hbx:Keb (3 + (g:Int))=some false:=by rw [Ksj,V1h g h15]
  rw [if_neg (by simp; omega),if_neg (by simp; omega),if_neg (by simp; omega),bs]
  simp only
  rw [if_neg (by decide),if_neg (by simp; omega),hbx,bs,if_neg (by decide)]
  have F:=V5h hs hg P h15 hc hl (b:=f b) (hf b) (hf1 b (V4t P.yb)) hd (fun c hcc=>H c (a :: ctx) b hcc (V4w hc P.ya) (by simp) (.inr lb2) P.yb (.inl lb)) _ h4
  refine Gv.bind F ?_
  rintro ⟨t1,e1⟩ ⟨ht1,k1⟩
  exact .of ⟨ht1.mono (hB1 b lb),k1⟩
 ·have hlen:a.length + 1=(c0 :: t0).length:=by rw [e]; simp
  have la:a.length < (c0 :: t0).length:=by omega
  cases e
  have hbx:Keb (19 + (g:Int))=some true:=by rw [Ksj,V1i g h15]
  rw [if_neg (by simp; omega),if_neg (by simp; omega),if_neg (by simp; omega),bs]
  simp only
  rw [if_neg (by decide),if_neg (by simp; omega),hbx,bs,if_pos rfl,V1k g h15,bs,P.p0,bs]
  refine Gv.bind (H _ ctx _ h4 hc (by omega) (.inl rfl) P.ya (.inl la)) ?_
  rintro ⟨t1,e1⟩ ⟨ht1,k1⟩
  simp only at ht1 k1 ⊢
  rw [sOp,bs]
  exact .of ⟨(V5e hs hg ht1).mono (hB1 _ la),k1⟩
end
mutual
theorem V5j {g g':Int→Bool} {y y':List Int→Bool} (hg:∀ x,g x=true→g' x=true) (hy:∀ q,y q=true→y' q=true):∀ (t:K01) (n:Nat),tOk g y n t=true→tOk g' y' n t=true
 | ⟨op,N,ty,ks⟩,n,h=>by
  rw [Kwl,Bool.and_eq_true] at h ⊢
  refine ⟨?_,V5k hg hy ks op n 0 h.2⟩
  have h1:=h.1
  unfold Kty Ktw Ktx at h1 ⊢
  simp only [Bool.and_eq_true] at h1 ⊢
  refine ⟨⟨h1.1.1,?_⟩,?_⟩
  ·have h2:=h1.1.2
   split at h2
   ·rename_i q; rw [if_pos q]; exact h2
   ·rename_i q
    rw [if_neg q]
    split at h2
    ·rename_i q2; rw [if_pos q2]; exact h2
    ·rename_i q2
     rw [if_neg q2]
     split at h2
     ·rename_i q3; rw [if_pos q3]; exact hg _ h2
     ·rename_i q3; rw [if_neg q3]; exact h2
  ·have h2:=h1.2
   split at h2
   ·rename_i q; rw [if_pos q]; exact hy _ h2
   ·rename_i q; rw [if_neg q]; exact h2
theorem V5k {g g':Int→Bool} {y y':List Int→Bool} (hg:∀ x,g x=true→g' x=true) (hy:∀ q,y q=true→y' q=true):∀ (ks:List K01) (op:Int) (n i:Nat),Ktz g y op n i ks=true→Ktz g' y' op n i ks=true
 | [],op,n,i,_=>by rw [Ktz]
 | k :: ks,op,n,i,h=>by
  rw [Kwm,Bool.and_eq_true] at h ⊢
  exact ⟨V5j hg hy k _ h.1,V5k hg hy ks op n (i + 1) h.2⟩
end
theorem V4u.tms {s:K00} {m b:Nat} {t:K01} (h:V4u s m b t):tms t ≤ 43 * b:=by
 have h1:=V5j (g':=gN s.fSize true) (y':=wtB) (fun _ h=>h) (fun q hq=>by unfold yN at hq; rw [Bool.and_eq_true] at hq; exact hq.1) t m h.1
 have:=(Kwz t m h1).1
 have:=h.2
 omega
theorem V5l {s:K00} {m b:Nat} {t:K01} (h:V4u s m b t) (hm:m ≤ 1000) (hb:b ≤ 100000):∃ u,Kgm (t,1,0)=some u∧V4u s (m + 1) b u:=by
 have h2:=h.2
 have h3:=h.tms
 refine ⟨shf ((1:Nat):Int) 0 t,?_,?_,?_⟩
 ·exact Kvy 1 1000000 (by decide) (by decide) t 0 (Kw0 (by omega) t (Kw2 _ _ t m h.1)) (by omega) (by decide) (by omega)
 ·exact Kwx _ _ 1 t m 0 h.1
 ·rw [Kwt]; exact h.2
def V5m (s:K00) (D b:Nat):Prop:=∀ (deep:Int) (ctx:List (List Int)) (ty:List Int),deep ≤ D→-500 ≤ deep→ty.length ≤ 7→V4v s ctx→ctx.length + 20 * D + 7 ≤ 500→TyS s ty→∀ c,V1x c→Gv (Kh5 (c,s,ctx,ty,deep)) (Dr s ctx.length b)
section
variable {s:K00} {n:Nat} (hs:Kxa s n)
include hs
theorem V5n:∀ (L:Nat) (deep:Int) (ctx:List (List Int)) (ty:List Int),ty.length ≤ L→L ≤ 40→deep ≤ 0→-900 + (ty.length:Int) ≤ deep→V4v s ctx→ctx.length + ty.length ≤ 900→TyS s ty→∀ c,V1x c→Gv (Kh5 (c,s,ctx,ty,deep)) (Dr s ctx.length ty.length):=by
 intro L
 induction L with
 | zero =>
  intro deep ctx ty h1 _ _ _ _ _ ht
  have:=V4t ht
  omega
 | succ L ih =>
  intro deep ctx ty h1 hL hd0 hd hc hl ht c h
  have htp:=V4t ht
  refine V5i hs (f:=fun q=>min q.length 300000) (B:=ty.length) (by omega) hc (by omega) ht htp (fun q hq=>by omega) (fun q=>by omega) (fun a b hab=>by omega) (fun a ha=>by omega) (fun h=>absurd h (by omega)) (fun c' ctx' ty' hc' hcx hlx hor hty' hlt=>?_) (fun h=>absurd h (by omega)) c h
  have hty:ty'.length < ty.length:=by
   rcases hlt with h | h
   ·exact h
   ·omega
  rw [Kr7 (by omega) (by omega)]
  have:=ih (deep - 1) ctx' ty' (by omega) (by omega) (by omega) (by omega) hcx (by omega) hty' c' hc'
  refine this.mono (fun r hr=>⟨hr.1.mono ?_,hr.2⟩)
  have:=Kyw hty'
  omega
theorem V5o:V5m s 0 7:=fun deep ctx ty h1 h2 h3 h4 h5 h6 c h =>
 (V5n hs 7 deep ctx ty h3 (by decide) (by omega) (by omega) h4 (by omega) h6 c h).mono (fun r hr=>⟨hr.1.mono h3,hr.2⟩)
theorem V5p {c:K02} (h:V1x c) (data:Bool):Gv (Kdo (c,s,1,data)) (fun r=>(TyS s r.1∧r.1.length ≤ 3)∧V1x r.2) :=
 (V54 hs 1 c data (by decide) h).mono (fun r hr=>⟨⟨hr.1.1,by have:=hr.1.2; omega⟩,hr.2⟩)
theorem V5q {c:K02} (h:V1x c) (data:Bool):Gv (Kdo (c,s,2,data)) (fun r=>(TyS s r.1∧r.1.length ≤ 7)∧V1x r.2) :=
 (V54 hs 2 c data (by decide) h).mono (fun r hr=>⟨⟨hr.1.1,by have:=hr.1.2; omega⟩,hr.2⟩)
theorem V5r {D b:Nat} (IH:V5m s D b) (hb1:7 ≤ b) (hb:b ≤ 90000) {deep:Int} (hd:0 ≤ deep∧deep ≤ D) (hD:D ≤ 10) {ctx:List (List Int)} {ty:List Int} (hc:V4v s ctx) (hl:ctx.length + 2 + 20 * D + 7 ≤ 500) (ht:TyS s ty) (htl:ty.length ≤ 7) (c:K02) (h:V1x c) :
  Gv (Kh8 (c,s,ctx,ty,deep)) (Dr s ctx.length (5 + 3 * b)):=by
 have h1n:1 < n:=hs.tab.lo
 have hn16:=hs.tab.hi
 rw [Kh8.eq_def]
 simp only
 refine Gv.bind (V24 h 6) ?_
 rintro ⟨x,c0⟩ ⟨hx,h0⟩
 simp only at hx h0 ⊢
 refine .ite (fun _=>?_) (fun _=>.ite (fun _=>?_) (fun _=>.ite (fun _=>?_) (fun _=>.ite (fun _=>?_) (fun _=>?_))))
 ·refine Gv.bind (IH deep ctx [0] hd.2 (by omega) (by decide) hc (by omega) Kz2 _ h0) ?_
  rintro ⟨t1,c1⟩ ⟨k1,h1⟩
  simp only at k1 h1 ⊢
  refine Gv.bind (IH deep ctx ty hd.2 (by omega) htl hc (by omega) ht _ h1) ?_
  rintro ⟨t2,c2⟩ ⟨k2,h2⟩
  simp only at k2 h2 ⊢
  refine Gv.bind (IH deep ctx ty hd.2 (by omega) htl hc (by omega) ht _ h2) ?_
  rintro ⟨t3,c3⟩ ⟨k3,h3⟩
  simp only at k3 h3 ⊢
  rw [sOp,bs]
  exact .of ⟨(V50 k1 k2 k3).mono (by omega),h3⟩
 ·refine Gv.bind (V25 h0 2) ?_
  rintro ⟨v,c1⟩ h1
  simp only at h1 ⊢
  refine Gv.bind (V5p hs h1 v) ?_
  rintro ⟨a,c2⟩ ⟨⟨ta,la⟩,h2⟩
  simp only at ta la h2 ⊢
  refine Gv.bind (V5p hs h2 true) ?_
  rintro ⟨e,c3⟩ ⟨⟨te,le_⟩,h3⟩
  simp only at te le_ h3 ⊢
  have hc':V4v s (e :: a :: ctx):=V4w (V4w hc ta) te
  rw [Ky8 ctx [e,a] (by simp; omega),bs]
  refine Gv.bind (IH deep (e :: a :: ctx) ty hd.2 (by omega) htl hc' (by simp; omega) ht _ h3) ?_
  rintro ⟨t1,c4⟩ ⟨k1,h4⟩
  simp only at k1 h4 ⊢
  obtain ⟨g0,z0,n0⟩:=V56 hs hc' (by simp; omega) (by omega) (t:=t1) (b:=b) (by simpa using k1) 0 (by simp)
  obtain ⟨g1,z1,n1⟩:=V56 hs hc' (by simp; omega) (by omega) (t:=t1) (b:=b) (by simpa using k1) 1 (by simp)
  have n0:Kg8 (s,[e,a] ++ ctx,t1,0)=some (g0:Int):=n0
  have n1:Kg8 (s,[e,a] ++ ctx,t1,1)=some (g1:Int):=n1
  obtain ⟨g2,z2,n2⟩:=V57 hs z0 z1
  obtain ⟨g3,z3,n3⟩:=V57 hs h1n z2
  rw [n0,bs,n1,bs,n2,bs,show (1:Int)=((1:Nat):Int) from rfl,n3,bs]
  refine Gv.bind (V59 hs h4 z3) ?_
  rintro ⟨q,c5⟩ ⟨⟨g4,z4,rfl⟩,h5⟩
  simp only at h5 ⊢
  rw [show ((1:Nat):Int)=1 from rfl,V4h _ _ _ (by omega),bs]
  refine Gv.bind (IH deep ctx (1 :: (a ++ e)) hd.2 (by omega) (by simp; omega) hc (by omega) (V4p rfl V4r ta te (by omega)) _ h5) ?_
  rintro ⟨t2,c6⟩ ⟨k2,h6⟩
  simp only at k2 h6 ⊢
  rw [sOp,bs]
  exact .of ⟨(V5b hs z4 k2 (by simpa using k1)).mono (by omega),h6⟩
 ·refine Gv.bind (V5p hs h0 true) ?_
  rintro ⟨a,c2⟩ ⟨⟨ta,la⟩,h2⟩
  simp only at ta la h2 ⊢
  refine Gv.bind (V5p hs h2 true) ?_
  rintro ⟨e,c3⟩ ⟨⟨te,le_⟩,h3⟩
  simp only at te le_ h3 ⊢
  have hca:V4v s (a :: ctx):=V4w hc ta
  have hce:V4v s (e :: ctx):=V4w hc te
  rw [Ky8 ctx [a] (by simp; omega),bs,Ky8 ctx [e] (by simp; omega),bs]
  refine Gv.bind (IH deep (a :: ctx) ty hd.2 (by omega) htl hca (by simp; omega) ht _ h3) ?_
  rintro ⟨t1,c4⟩ ⟨k1,h4⟩
  simp only at k1 h4 ⊢
  refine Gv.bind (IH deep (e :: ctx) ty hd.2 (by omega) htl hce (by simp; omega) ht _ h4) ?_
  rintro ⟨t2,c5⟩ ⟨k2,h5⟩
  simp only at k2 h5 ⊢
  obtain ⟨g0,z0,n0⟩:=V56 hs hca (by simp; omega) (by omega) (t:=t1) (b:=b) (by simpa using k1) 0 (by simp)
  obtain ⟨g1,z1,n1⟩:=V56 hs hce (by simp; omega) (by omega) (t:=t2) (b:=b) (by simpa using k2) 0 (by simp)
  have n0:Kg8 (s,[a] ++ ctx,t1,0)=some (g0:Int):=n0
  have n1:Kg8 (s,[e] ++ ctx,t2,0)=some (g1:Int):=n1
  obtain ⟨g2,z2,n2⟩:=V57 hs z0 z1
  obtain ⟨g3,z3,n3⟩:=V57 hs h1n z2
  rw [n0,bs,n1,bs,n2,bs,show (1:Int)=((1:Nat):Int) from rfl,n3,bs]
  refine Gv.bind (V59 hs h5 z3) ?_
  rintro ⟨q,c6⟩ ⟨⟨g4,z4,rfl⟩,h6⟩
  simp only at h6 ⊢
  rw [V4h _ _ _ (by omega),bs]
  refine Gv.bind (IH deep ctx (2 :: (a ++ e)) hd.2 (by omega) (by simp; omega) hc (by omega) (V4p rfl V4s ta te (by omega)) _ h6) ?_
  rintro ⟨t3,c7⟩ ⟨k3,h7⟩
  simp only at k3 h7 ⊢
  rw [sOp,bs]
  exact .of ⟨(V5c hs z4 k3 (by simpa using k1) (by simpa using k2)).mono (by omega),h7⟩
 ·refine Gv.bind (V25 h0 2) ?_
  rintro ⟨v,c1⟩ h1
  simp only at h1 ⊢
  refine Gv.bind (V5p hs h1 v) ?_
  rintro ⟨a,c2⟩ ⟨⟨ta,la⟩,h2⟩
  simp only at ta la h2 ⊢
  have hca:V4v s (a :: ctx):=V4w hc ta
  rw [Ky8 ctx [a] (by simp; omega),bs]
  refine Gv.bind (IH deep (a :: ctx) ty hd.2 (by omega) htl hca (by simp; omega) ht _ h2) ?_
  rintro ⟨t1,c4⟩ ⟨k1,h4⟩
  simp only at k1 h4 ⊢
  obtain ⟨g0,z0,n0⟩:=V56 hs hca (by simp; omega) (by omega) (t:=t1) (b:=b) (by simpa using k1) 0 (by simp)
  have n0:Kg8 (s,[a] ++ ctx,t1,0)=some (g0:Int):=n0
  rw [n0,bs]
  refine Gv.bind (V59 hs h4 z0) ?_
  rintro ⟨q,c6⟩ ⟨⟨g4,z4,rfl⟩,h6⟩
  simp only at h6 ⊢
  obtain ⟨k19,l19⟩:=V53 hs z4
  rw [Kr7 (by omega) (by omega),V4g _ _ (by omega),bs]
  refine Gv.bind (IH deep ctx ((19 + (g4:Int)) :: a) hd.2 (by omega) (by simp; omega) hc (by omega) (V4q k19 l19 ta (by omega)) _ h6) ?_
  rintro ⟨t2,c7⟩ ⟨k2,h7⟩
  simp only at k2 h7 ⊢
  rw [sOp,bs]
  exact .of ⟨(V5d hs h1n k2 (by simpa using k1)).mono (by omega),h7⟩
 ·refine Gv.bind (V25 h0 2) ?_
  rintro ⟨v,c1⟩ h1
  simp only at h1 ⊢
  refine Gv.bind (V5q hs h1 v) ?_
  rintro ⟨a,c2⟩ ⟨⟨ta,la⟩,h2⟩
  simp only at ta la h2 ⊢
  have hca:V4v s (a :: ctx):=V4w hc ta
  rw [Ky8 ctx [a] (by simp; omega),bs]
  refine Gv.bind (IH deep (a :: ctx) ty hd.2 (by omega) htl hca (by simp; omega) ht _ h2) ?_
  rintro ⟨t1,c4⟩ ⟨k1,h4⟩
  simp only at k1 h4 ⊢
  obtain ⟨g0,z0,n0⟩:=V56 hs hca (by simp; omega) (by omega) (t:=t1) (b:=b) (by simpa using k1) 0 (by simp)
  have n0:Kg8 (s,[a] ++ ctx,t1,0)=some (g0:Int):=n0
  rw [n0,bs]
  refine Gv.bind (V59 hs h4 z0) ?_
  rintro ⟨q,c6⟩ ⟨⟨g4,z4,rfl⟩,h6⟩
  simp only at h6 ⊢
  obtain ⟨k3,l3⟩:=V52 hs z4
  refine Gv.bind (V25 h6 4) ?_
  rintro ⟨w,c7⟩ h7
  simp only at h7 ⊢
  have arg:=IH (deep - 1) ctx a (by omega) (by omega) la hc (by omega) ta c7 h7
  have ew:wr (deep - 1)=deep - 1:=Kr7 (by omega) (by omega)
  have kf:=V5f hs z4 ta (b1:=b) (by simpa using k1)
  refine Gv.bind (Q:=fun fl:Unit ⊕ (K01 × K02)=>match fl with | .inl _=>True | .inr r=>Dr s ctx.length (5 + 3 * b) r) (.ite (fun _=>?_) (fun _=>.of trivial)) ?_
  ·rw [Kr7 (by omega) (by omega),V4h _ _ _ (by omega),bs]
   refine .ite (fun hlt=>?_) (fun _=>.of trivial)
   have hlt:=of_decide_eq_true hlt
   rw [sOp,bs,ew]
   refine Gv.bind arg ?_
   rintro ⟨t2,c8⟩ ⟨k2,h8⟩
   simp only at k2 h8 ⊢
   obtain ⟨u,e1,e2⟩:=V5l k2 (by omega) (by omega)
   rw [e1,bs,sOp,bs,sOp,bs]
   have kc:=V4z (.inr (.inr rfl)) (V4x (s:=s) (m:=ctx.length + 1) (i:=0) (by omega)) e2
   have kg:=V5f hs h1n (V4p k3 l3 ta ht (by simp at hlt; omega)) kc
   exact .of ⟨(V4z (.inr (.inr rfl)) kg kf).mono (by omega),h8⟩
  ·rintro (u | r) q
   ·rw [ew]
    refine Gv.bind arg ?_
    rintro ⟨t2,c8⟩ ⟨k2,h8⟩
    simp only at k2 h8 ⊢
    rw [sOp,bs]
    exact .of ⟨(V4z (.inr (.inr rfl)) kf k2).mono (by omega),h8⟩
   ·exact .of q
theorem V5s {D b:Nat} (IH:V5m s D b) (hb1:7 ≤ b) (hb:b ≤ 90000) (hD:D ≤ 10):V5m s (D + 1) (5 + 3 * b):=by
 intro deep ctx ty h1 h2 h3 hc hl ht c h
 by_cases hd:deep ≤ D
 ·exact (IH deep ctx ty hd h2 h3 hc (by omega) ht c h).mono (fun r hr=>⟨hr.1.mono (by omega),hr.2⟩)
 have hdw:wr (deep - 1)=deep - 1:=Kr7 (by omega) (by omega)
 refine V5i hs (f:=fun _=>b) (B:=5 + 3 * b) (by omega) hc (by omega) ht (by omega) (fun _ _=>by omega) (fun _=>by omega) (fun _ _ _=>by omega) (fun _ _=>by omega) (fun _=>by omega) (fun c' ctx' ty' hc' hcx hlx hor hty' hlt=>?_) (fun _ c' hc'=>?_) c h
 ·rw [hdw]
  refine IH (deep - 1) ctx' ty' (by omega) (by omega) ?_ hcx (by omega) hty' c' hc'
  rcases hlt with q | ⟨_,rfl⟩
  ·omega
  ·exact h3
 ·rw [hdw]
  exact V5r hs IH hb1 hb (by omega) hD hc (by omega) ht h3 c' hc'
theorem V5t:V5m s 4 767:=V5s hs (V5s hs (V5s hs (V5s hs (V5o hs) (by decide) (by decide) (by decide)) (by decide) (by decide) (by decide)) (by decide) (by decide) (by decide)) (by decide) (by decide) (by decide)
end
def V5u (s:K00) (m:Nat) (ctx:List (List Int)):Prop:=V4v s ctx∧ctx.length ≤ m∧∀ q ∈ ctx,q.length ≤ 7
section
variable {s:K00} {n:Nat} (hs:Kxa s n)
include hs
theorem V5v (data:Bool):∀ (k m:Nat) (c:K02) (out:List (List Int)),V1x c→V5u s m out→m + k ≤ 1000→Gv (Kds (s,data,c.fb,c.fi,c.fh,out,(k:Int))) (fun r=>V5u s (m + k) r.1∧V1x ⟨r.2.1,r.2.2.1,r.2.2.2⟩):=by
 intro k
 induction k with
 | zero =>
  intro m c out h ho hm
  rw [Kds.eq_def]
  simp only
  rw [decide_eq_false (by omega),if_neg (by decide)]
  exact .of ⟨ho,h⟩
 | succ k ih =>
  intro m c out h ho hm
  have hl:=ho.2.1
  rw [Kds.eq_def]
  simp only
  rw [decide_eq_true (by omega),if_pos rfl]
  refine Gv.bind (V5q hs h data) ?_
  rintro ⟨a,c1⟩ ⟨⟨ta,la⟩,h1⟩
  simp only at ta la h1 ⊢
  rw [Kue (by simp; omega),bs,show wr (((k + 1:Nat):Int) - 1)=(k:Int) from by rw [Kr7 (by omega) (by omega)]; omega]
  have:=ih (m + 1) c1 (out ++ [a]) h1 ⟨fun q hq=>by
   rcases List.mem_append.1 hq with hq | hq
   ·exact ho.1 q hq
   ·rw [List.mem_singleton.1 hq]; exact ta,by simp; omega,fun q hq=>by
   rcases List.mem_append.1 hq with hq | hq
   ·exact ho.2.2 q hq
   ·rw [List.mem_singleton.1 hq]; exact la⟩ (by omega)
  rw [show m + 1 + k=m + (k + 1) by omega] at this
  exact this
theorem V5w {c:K02} (h:V1x c) (most:Nat) (hm:most ≤ 10) (data:Bool):Gv (Kdv (c,s,(most:Int),data)) (fun r=>V5u s most r.1∧V1x r.2):=by
 unfold Kdv
 simp only
 rw [Kr9 (by omega)]
 refine Gv.bind (V24 h _) ?_
 rintro ⟨x,c1⟩ ⟨hx,h1⟩
 simp only at hx h1 ⊢
 have hx:=hx.1 (by omega)
 obtain ⟨k,rfl⟩:∃ k:Nat,x=(k:Int):=⟨x.toNat,by omega⟩
 have ho:V5u s 0 []:=⟨fun q hq=>(by cases hq),Nat.le_refl _,fun q hq=>(by cases hq)⟩
 refine Gv.bind (V5v hs data k 0 c1 [] h1 ho (by omega)) ?_
 rintro ⟨a,b,d,e⟩ ⟨q1,q2⟩
 have l1:=q1.2.1
 simp only at l1
 exact .of ⟨⟨q1.1,by simp only; omega,q1.2.2⟩,q2⟩
theorem V5x {c:K02} (h:V1x c) {ctx:List (List Int)} (hc:V4v s ctx) (hl:ctx.length ≤ 100) {deep:Nat} (hd:deep ≤ 4) (data:Bool):Gv (Khu (c,s,ctx,(deep:Int),data)) (Dr s ctx.length 767):=by
 have A:=V5t hs
 have loop:∀ (k i:Nat) (c0 c:K02) (u1 u2:Int) (u3:List Int) (u4:List K01),i + k=3→V1x c→V4u s ctx.length 767 ⟨u1,u2,u3,u4⟩ →
   Gv (Khr (c0,s,ctx,(deep:Int),data,c.fb,c.fi,c.fh,u1,u2,u3,u4,(i:Int))) (fun fl=>match fl with | .inl r=>V4u s ctx.length 767 ⟨r.1,r.2.1,r.2.2.1,r.2.2.2.1⟩∧V1x ⟨r.2.2.2.2.1,r.2.2.2.2.2.1,r.2.2.2.2.2.2⟩ | .inr r=>Dr s ctx.length 767 r):=by
  intro k
  induction k with
  | zero =>
   intro i c0 c u1 u2 u3 u4 hi h ht
   rw [Khr.eq_def]
   simp only
   rw [decide_eq_false (by omega),if_neg (by decide)]
   exact .of ⟨ht,h⟩
  | succ k ih =>
   intro i c0 c u1 u2 u3 u4 hi h ht
   have htm:=ht.tms
   rw [Khr.eq_def]
   simp only
   rw [decide_eq_true (by omega),if_pos rfl]
   refine Gv.bind (Q:=fun _=>True) ?_ (fun v _=>?_)
   ·rw [show (120:Int)=((120:Nat):Int) from rfl,Ktg _ 120 (by omega) (by decide),bs]
    refine .ite (fun _=>?_) (fun _=>.of trivial)
    obtain ⟨x,e,_⟩:=V55 hs hc (by omega) (by decide) ht
    rw [e,bs]
    exact .of trivial
   refine .ite (fun _=>.of ⟨ht,h⟩) (fun _=>?_)
   refine Gv.bind (V5p hs h data) ?_
   rintro ⟨a,c1⟩ ⟨⟨ta,la⟩,h1⟩
   simp only at ta la h1 ⊢
   rw [show (2:Int)=((2:Nat):Int) from rfl,Kvn,bs]
   refine Gv.bind (A ((min deep 2:Nat):Int) ctx a (by omega) (by omega) (by omega) hc (by omega) ta c1 h1) ?_
   rintro ⟨⟨x1,x2,x3,x4⟩,c2⟩ ⟨ht2,h2⟩
   simp only at ht2 h2 ⊢
   rw [Kr9 (by omega)]
   exact ih (i + 1) c0 c2 x1 x2 x3 x4 (by omega) h2 ht2
 unfold Khu
 simp only
 refine Gv.bind (V5q hs h data) ?_
 rintro ⟨a,c1⟩ ⟨⟨ta,la⟩,h1⟩
 simp only at ta la h1 ⊢
 refine Gv.bind (A (deep:Int) ctx a (by omega) (by omega) la hc (by omega) ta c1 h1) ?_
 rintro ⟨⟨x1,x2,x3,x4⟩,c2⟩ ⟨ht2,h2⟩
 simp only at ht2 h2 ⊢
 have L:=loop 3 0 c c2 x1 x2 x3 x4 rfl h2 ht2
 rw [show ((0:Nat):Int)=0 from rfl] at L
 refine Gv.bind L ?_
 rintro (⟨a1,a2,a3,a4,a5,a6,a7⟩ | r) q
 rotate_left
 ·exact .of q
 obtain ⟨q1,q2⟩:=q
 simp only at q1 q2 ⊢
 have htm:=q1.tms
 rw [show (400:Int)=((400:Nat):Int) from rfl,Ktg _ 400 (by omega) (by decide),bs]
 refine Gv.bind (Q:=fun r:Int × Int × List Int × List K01=>V4u s ctx.length 767 ⟨r.1,r.2.1,r.2.2.1,r.2.2.2⟩) (.ite (fun _=>?_) (fun _=>.of q1)) ?_
 ·rw [sOp,bs]
  exact .of ((V4y (by decide)).mono (by decide))
 ·rintro ⟨b1,b2,b3,b4⟩ qb
  exact .of ⟨qb,q2⟩
end
theorem V5y {c:K02} (h:V1x c) {deep:Nat} (hd:deep ≤ 4) (most:Nat) (hm:most ≤ 10) (data:Bool):Gv (Khx (c,(deep:Int),(most:Int),data)) (fun r=>r.1 ∈ V49∧V5u r.1 most r.2.1∧V4u r.1 r.2.1.length 767 r.2.2.1∧V1x r.2.2.2):=by
 unfold Khx
 simp only
 refine Gv.bind (V4f h) ?_
 rintro ⟨s,c1⟩ ⟨hsy,h1⟩
 simp only at hsy h1 ⊢
 have hs:=Kxb (V4a hsy).1
 refine Gv.bind (V5w hs h1 most hm data) ?_
 rintro ⟨ctx,c2⟩ ⟨hc,h2⟩
 simp only at hc h2 ⊢
 refine Gv.bind (V5x hs h2 hc.1 (by have:=hc.2.1; omega) hd data) ?_
 rintro ⟨t,c3⟩ ⟨ht,h3⟩
 exact .of ⟨hsy,hc,ht,h3⟩
theorem V5z {c:K02} (h:V1x c) {deep:Nat} (hd:2 ≤ deep∧deep ≤ 4) (most:Nat) (hm:most ≤ 10) (data:Bool):Gv (Khx (c,(deep:Int),(most:Int),data)) (fun r=>r.1 ∈ V49∧V5u r.1 most r.2.1∧V4u r.1 r.2.1.length 767 r.2.2.1∧V1x r.2.2.2):=V5y h hd.2 most hm data
theorem V60 (code:List Int) (hl:code.length ≤ 1048576):∃ d:Nat,(2 ≤ d∧d ≤ 4)∧K9w code=some (d:Int):=by
 unfold K9w
 have h1:code.length / 60 ≤ 1048576:=Nat.le_trans (Nat.div_le_self _ _) hl
 rw [show (60:Int)=((60:Nat):Int) from rfl,V2y]
 generalize code.length / 60=q at *
 rw [Kr7 (by omega) (by omega),show (2:Int)=((2:Nat):Int) from rfl,Kvn,bs,← Int.natCast_add,Kr7 (by omega) (by omega)]
 exact ⟨2 + min q 2,by omega,rfl⟩
theorem V5u.lms {s:K00} {m:Nat} {ctx:List (List Int)} (h:V5u s m ctx) (hm:m ≤ 10):lms ctx ≤ 100:=by
 have:∀ l:List (List Int),(∀ v ∈ l,v.length ≤ 7)→lct l ≤ l.length * 7:=by
  intro l
  induction l with
  | nil=>intro _; simp [lct]
  | cons x l ih =>
   intro h
   have h1:=ih (fun v hv=>h v (List.mem_cons_of_mem _ hv))
   have h2:=h x List.mem_cons_self
   rw [lct,List.length_cons]
   omega
 have h1:=this ctx h.2.2
 have h2:=h.2.1
 unfold Go.Am.lms
 omega
section
variable {s:K00} {n:Nat} (hs:Kxa s n)
include hs
theorem le_refl {a:Nat} (ha:a < n):le s n a a=true:=by
 have:=hs.one a ha
 simp only [Krq,Bool.and_eq_true] at this
 exact this.2
end
theorem le_trans {s:K00} (h:Kus s=true) {a b c:Nat} (ha:a < s.fSize.toNat) (hb:b < s.fSize.toNat) (hc:c < s.fSize.toNat) (h1:le s s.fSize.toNat a b=true) (h2:le s s.fSize.toNat b c=true):le s s.fSize.toNat a c=true:=by
 unfold Kus at h
 simp only [Bool.and_eq_true] at h
 have hm:=h.2
 unfold Ks6 at hm
 rw [List.all_eq_true] at hm
 have q:=hm a (by rw [List.mem_range'_1]; omega)
 simp only [Bool.and_eq_true,List.all_eq_true] at q
 have q2:=(q.2 b (by rw [List.mem_range'_1]; omega)).2 c (by rw [List.mem_range'_1]; omega)
 unfold Krr at q2
 simp [h1,h2] at q2
 exact q2.2.1.1.1
mutual
theorem V61 (g:Int→Bool) (y:List Int→Bool) (hg:∀ x,g x=true→-9223372036854775808 ≤ x∧x ≤ 9223372036854775807):∀ (t:K01) (n:Nat),tOk g y n t=true→n + 2 * tms t ≤ 9223372036854775807→tln t
 | ⟨op,N,ty,ks⟩,n,h,hb=>by
  rw [Kwl,Bool.and_eq_true] at h
  rw [tms] at hb
  rw [tln]
  refine ⟨by omega,by omega,V62 g y hg ks op n 0 h.2 (by omega),?_⟩
  have h1:=h.1
  unfold Kty Ktw at h1
  simp only [Bool.and_eq_true] at h1
  have h2:=h1.1.2
  split at h2
  ·simp only [inB,Bool.and_eq_true,decide_eq_true_eq] at h2; omega
  ·split at h2
   ·simp only [inB,Bool.and_eq_true,decide_eq_true_eq] at h2; omega
   ·split at h2
    ·exact hg N h2
    ·have:=eq_of_beq h2; omega
theorem V62 (g:Int→Bool) (y:List Int→Bool) (hg:∀ x,g x=true→-9223372036854775808 ≤ x∧x ≤ 9223372036854775807):∀ (ks:List K01) (op:Int) (n i:Nat),Ktz g y op n i ks=true→n + 2 * (ks.length + Kt9 ks) ≤ 9223372036854775807→Ku8 ks
 | [],op,n,i,_,_=>by rw [Ku8]; trivial
 | ⟨o,N,ty,ks1⟩ :: ks,op,n,i,h,hb=>by
  rw [Kwm,Bool.and_eq_true] at h
  rw [Kt9,List.length_cons] at hb
  have:=Ktt op i
  rw [Ku8]
  exact ⟨V61 g y hg _ _ h.1 (by omega),V62 g y hg ks op n (i + 1) h.2 (by omega)⟩
end
theorem V63 {s:K00} {n:Nat} (hs:Kxa s n) {m b:Nat} {t:K01} (h:V4u s m b t) (hb:b ≤ 100000) (hm:m ≤ 1000):tln t:=by
 have h3:=h.tms
 have h4:=hs.tab.size
 have h5:=hs.tab.hi
 refine V61 _ _ ?_ t m h.1 (by omega)
 intro x hx
 unfold gN at hx
 simp at hx
 omega
theorem V64 {op N:Int} {ty:List Int} {ks:List K01} (h1:ty.length ≤ 9223372036854775807) (h2:ks.length ≤ 9223372036854775807) (h3:Ku8 ks) (h4:-9223372036854775808 ≤ N∧N ≤ 9223372036854775807):tln ⟨op,N,ty,ks⟩:=by
 rw [tln]; exact ⟨h1,h2,h3,h4⟩
theorem V65 {t:K01} (h:tln t):t.fType.length ≤ 9223372036854775807∧t.fKids.length ≤ 9223372036854775807∧Ku8 t.fKids∧(-9223372036854775808 ≤ t.fN∧t.fN ≤ 9223372036854775807):=by
 cases t; rwa [tln] at h
theorem V66 {a b:List K01} (ha:Ku8 a) (hb:Ku8 b):Ku8 (a ++ b):=by
 induction a with
 | nil=>exact hb
 | cons x a ih =>
  rw [Ku8] at ha
  rw [List.cons_append,Ku8]
  exact ⟨ha.1,ih ha.2⟩
theorem V67 {l:List K01} (h:Ku8 l) (i:Nat) {u:K01} (hu:tln u):Ku8 (l.set i u):=by
 induction l generalizing i with
 | nil=>exact h
 | cons x l ih =>
  rw [Ku8] at h
  cases i with
  | zero=>rw [List.set_cons_zero,Ku8]; exact ⟨hu,h.2⟩
  | succ i=>rw [List.set_cons_succ,Ku8]; exact ⟨h.1,ih h.2 i⟩
theorem V68 {l:List K01} (h:Ku8 l) {i:Nat} (hi:i < l.length):tln l[i]:=by
 induction l generalizing i with
 | nil=>simp at hi
 | cons x l ih =>
  rw [Ku8] at h
  cases i with
  | zero=>exact h.1
  | succ i=>exact ih h.2 (by simpa using hi)
theorem V69:∀ (n:Nat) (c:K02) (xs:List K01) (i:Nat) (hi:i < xs.length),V1x c→tsz xs[i] ≤ n→Ku8 xs→xs.length + Kt9 xs ≤ 2097152 →
  Gv (Kii (c,xs,(i:Int))) (fun r=>(Ku8 r.1∧r.1.length=xs.length∧Kt9 r.1 ≤ Kt9 xs + 1)∧V1x r.2):=by
 intro n
 induction n with
 | zero=>intro c xs i hi h hn; have:=Ktb xs[i]; omega
 | succ n ih =>
  intro c xs i hi h hn hl hb
  have he:=V65 (V68 hl hi)
  have hm1:=Kvp (List.getElem_mem hi)
  have hm2:=Kta xs[i]
  have hset:=fun u=>Kw8 hi u
  have fin:∀ (u:K01) (c':K02),tln u→tms u ≤ tms xs[i] + 1→V1x c'→Gv (some (xs.set i u,c')) (fun r=>(Ku8 r.1∧r.1.length=xs.length∧Kt9 r.1 ≤ Kt9 xs + 1)∧V1x r.2):=fun u c' q1 q2 q3=>by
   have:=hset u
   exact .of ⟨⟨V67 hl i q1,by simp,by simp only; omega⟩,q3⟩
  rw [Kii.eq_def]
  simp only
  rw [Kr8 hi,bs,Int.toNat_natCast]
  generalize hx:xs[i]=e at *
  refine Gv.bind (Q:=fun r:List Int × Int × Int × Bool=>V1x ⟨r.1,r.2.1,r.2.2.1⟩∧(r.2.2.2=true→0 < e.fKids.length)) (.ite (fun hk=>?_) (fun _=>.of ⟨h,fun q=>by cases q⟩)) ?_
  ·have hk:=of_decide_eq_true hk
   refine Gv.bind (V24 h 3) ?_
   rintro ⟨y,c1⟩ ⟨_,h4⟩
   exact .of ⟨h4,fun _=>by omega⟩
  rintro ⟨b,fi,fh,v⟩ ⟨h4,hv⟩
  simp only at h4 hv ⊢
  refine .ite (fun hv1=>?_) (fun _=>?_)
  ·have hk:=hv hv1
   refine Gv.bind (V24 h4 _) ?_
   rintro ⟨j,c2⟩ ⟨⟨hj,_⟩,h5⟩
   simp only at hj h5 ⊢
   obtain ⟨hj0,hj1⟩:=hj (by omega)
   obtain ⟨m,rfl⟩:=Int.eq_ofNat_of_zero_le hj0
   have hm:m < e.fKids.length:=by omega
   rw [Kr8 hm,bs]
   have hts:tsz e.fKids[m] ≤ n:=by
    have h1:=Ktb e
    have h2:tsz e.fKids[m] ≤ Kt8 e.fKids:=Kvq (List.getElem_mem hm)
    omega
   refine Gv.bind (ih c2 e.fKids m hm h5 hts he.2.2.1 (by omega)) ?_
   rintro ⟨ks,c3⟩ ⟨⟨q1,q2,q3⟩,h6⟩
   simp only at q1 q2 q3 h6 ⊢
   exact fin _ _ (V64 he.1 (by omega) q1 he.2.2.2) (by rw [tms]; omega) h6
  ·refine Gv.bind (V24 h4 6) ?_
   rintro ⟨j,c2⟩ ⟨_,h5⟩
   simp only at h5 ⊢
   refine .ite (fun _=>?_) (fun _=>?_)
   ·refine Gv.bind (V24 h5 15) ?_
    rintro ⟨y,c3⟩ ⟨_,h6⟩
    exact fin _ _ (V64 he.1 he.2.1 he.2.2.1 he.2.2.2) (by rw [tms]; omega) h6
   refine Gv.bind (Q:=fun _:Bool=>True) (.ite (fun _=>.of trivial) (fun _=>.of trivial)) (fun w _=>?_)
   refine .ite (fun _=>?_) (fun _=>.ite (fun _=>?_) (fun _=>.ite (fun _=>?_) (fun _=>.ite (fun hk=>?_) (fun _=>?_))))
   ·refine Gv.bind (V26 h5 _ (by decide)) ?_
    rintro ⟨y,c3⟩ ⟨hy,h6⟩
    refine fin _ _ (V64 he.1 he.2.1 he.2.2.1 ?_) (by rw [tms]; omega) h6
    simp only [List.mem_cons,List.not_mem_nil,or_false] at hy
    omega
   ·refine Gv.bind (V26 h5 _ (by decide)) ?_
    rintro ⟨y,c3⟩ ⟨hy,h6⟩
    exact fin _ _ (V64 (by simp) he.2.1 he.2.2.1 he.2.2.2) (by rw [tms]; simp; omega) h6
   ·rw [Kue (by simp; omega),bs,Kr8 (by simp),bs,Int.toNat_natCast]
    have e2:(e.fKids ++ [(⟨0,0,[],[]⟩:K01)]).set e.fKids.length (⟨1,0,[],[]⟩:K01)=e.fKids ++ [⟨1,0,[],[]⟩]:=by simp
    rw [e2]
    have e3:tln ⟨1,0,[],[]⟩:=V64 (by simp) (by simp) (by rw [Ku8]; trivial) (by decide)
    exact fin _ _ (V64 he.1 (by simp; omega) (V66 he.2.2.1 (by rw [Ku8,Ku8]; exact ⟨e3,trivial⟩)) he.2.2.2) (by rw [tms,Kvo]; simp [Kt9,tms]; omega) h5
   ·have hk:=of_decide_eq_true hk
    have k0:0 < e.fKids.length:=by omega
    have k1:1 < e.fKids.length:=by omega
    rw [show (0:Int)=((0:Nat):Int) from rfl,show (1:Int)=((1:Nat):Int) from rfl,Kr8 k0,bs,Kr8 k1,bs,bs,Int.toNat_natCast,Kr8 (by simp; omega),bs,Int.toNat_natCast]
    have a0:=V68 he.2.2.1 k0
    have a1:=V68 he.2.2.1 k1
    have s1:=Kw8 k0 e.fKids[1]
    have s2:=Kw8 (l:=e.fKids.set 0 e.fKids[1]) (i:=1) (by simp; omega) e.fKids[0]
    rw [List.getElem_set_ne (by decide)] at s2
    exact fin _ _ (V64 he.1 (by simp; omega) (V67 (V67 he.2.2.1 0 a1) 1 a0) he.2.2.2) (by rw [tms]; simp only [List.length_set]; omega) h5
   ·exact .of ⟨⟨hl,rfl,by simp⟩,h5⟩
theorem V6a {c:K02} {t:K01} (h:V1x c) (hl:tln t) (hb:tms t ≤ 1048576):Gv (Kil (c,t)) (fun r=>(tln r.1∧tms r.1 ≤ tms t + 1)∧V1x r.2):=by
 unfold Kil
 simp only
 refine Gv.bind (V25 h 6) ?_
 rintro ⟨x,c1⟩ h1
 simp only at h1 ⊢
 refine .ite (fun _=>?_) (fun _=>.of ⟨⟨hl,by simp⟩,h1⟩)
 rw [Kw4 (Kw5 t hl) (by omega),bs]
 refine Gv.bind (V69 (tsz t) c1 [t] 0 (by simp) h1 (Nat.le_refl _) (by rw [Ku8,Ku8]; exact ⟨hl,trivial⟩) (by simp [Kt9]; omega)) ?_
 rintro ⟨zs,c2⟩ ⟨⟨q1,q2,q3⟩,h2⟩
 simp only [List.length_singleton] at q1 q2 q3 h2 ⊢
 rw [show (0:Int)=((0:Nat):Int) from rfl,Kr8 (by omega),bs]
 refine .of ⟨⟨V68 q1 (by omega),?_⟩,h2⟩
 have:=Kvp (List.getElem_mem (l:=zs) (n:=0) (by omega))
 simp only [Kt9] at q3
 simp only
 omega
theorem V4u.tln {s:K00} (h:s ∈ V49) {m b:Nat} {t:K01} (ht:V4u s m b t) (hb:b ≤ 100000) (hm:m ≤ 1000):tln t:=V63 (Kxb (V4a h).1) ht hb hm
theorem V6b {α:Type} {l:List α} {i:Nat} {x:α} (h:l[i]?=some x):idx l (i:Int)=some x:=by
 unfold idx
 rw [if_pos (by omega)]
 simpa using h
theorem V6c:∀ l:List K01,l.length ≤ Kt8 l
 | []=>by simp [Kt8]
 | t :: l=>by have:=V6c l; rw [Kt8,List.length_cons,Ktb]; omega
structure V6d (s:K00) (ctx:List (List Int)) (t:K01) (y:K04) (r:List (List Int)):Prop where
 sp:Kr5 (s,ctx,t)=some r
 im:Kpi y=some r
 ln:r.length=tsz t
 el:∀ v ∈ r,v.length ≤ 40
section
variable {s:K00} {n:Nat} (hs:Kxa s n)
include hs
theorem V6e {ctx:List (List Int)} {t:K01} {y:K04} (g:V4n s ctx t y) (ih:∀ (k:K01) (c:List (List Int)) (yk:K04),tsz k < tsz t→V4n s c k yk→∃ r,V6d s c k yk r) :
  ∀ (ks:List K01) (i:Nat) (out:List (List Int)),t.fKids.drop i=ks→out.length + Kt8 ks ≤ 1000000→(∀ v ∈ out,v.length ≤ 40) →
  ∃ r,Kr6 (s,ctx,t,out,(i:Int))=some r∧Kpj (y,out,(i:Int))=some r∧r.length=out.length + Kt8 ks∧∀ v ∈ r,v.length ≤ 40:=by
 intro ks
 induction ks with
 | nil =>
  intro i out hd ho he
  rw [Kr6.eq_def,Kpj.eq_def]
  simp only
  rw [Krb (Kse hd),Krb (by rw [g.many hs]; exact Kse hd)]
  exact ⟨out,rfl,rfl,rfl,he⟩
 | cons k ks ihl =>
  intro i out hd ho he
  obtain ⟨h1,h2,h3⟩:=Ksd hd
  have hk:t.fKids[i]?=some k:=by
   have:=List.getElem?_drop (xs:=t.fKids) (i:=i) (j:=0)
   rw [hd] at this
   simpa using this.symm
  have hm:k ∈ t.fKids:=List.mem_of_getElem? hk
  obtain ⟨yk,e1,gk,el⟩:=g.kid hs hk
  obtain ⟨r,wr1,wr2,wr3,wr4⟩:=ih k _ yk (by have:=Kvs hm; omega) gk
  rw [show Kt8 (k :: ks)=tsz k + Kt8 ks from by rw [Kt8]] at ho
  have hc:=g.bd
  have hb:t.fKids.length ≤ 1000000:=by have:=V6c t.fKids; rw [Ktb] at hc; omega
  obtain ⟨r',r1,r2,r3,r4⟩:=ihl (i + 1) (out ++ r) h3 (by rw [List.length_append,wr3]; omega) (fun v hv=>(List.mem_append.1 hv).elim (he v) (wr4 v))
  rw [List.length_append,wr3] at r3
  refine ⟨r',?_,?_,by rw [r3,Kt8]; omega,r4⟩
  ·rw [Kr6.eq_def]
   simp only
   rw [Kra h1,if_pos rfl,Ktu,bs]
   have fin:(idx t.fKids (i:Int) >>= fun e=>Kr5 (s,V0h t i y.fkids ++ ctx,e) >>= fun r=>Qei (out.length + r.length) 24 >>= fun _=>Kr6 (s,ctx,t,out ++ r,wr ((i:Int) + 1)))=some r':=by
    rw [h2,bs,wr1,bs,Kue (by rw [wr3]; omega),bs,Kr9 (by omega),r1]
   rcases g.inner hs h1 with ⟨a0,ae⟩ | ⟨o9,a1,ae⟩ | ⟨o5,a2,k0,x0,a,b,q1,q2,q3,q4,ae⟩ | ⟨n9,n5,a1,k0,x0,a,q1,q2,q3,ae⟩
   ·rw [a0,if_neg (by decide),if_neg (by decide),bs,bs]
    rw [ae,List.nil_append] at fin
    exact fin
   ·rw [a1,if_neg (by decide),if_pos (by decide),if_pos (by rw [o9]; decide),Ky8 ctx [t.fType] (by simp; omega),bs,bs,bs,bs]
    rw [ae] at fin
    exact fin
   ·rw [a2,if_pos (by decide),show (0:Int)=((0:Nat):Int) from rfl,V6b q1,bs,q2,bs,q4,bs,show ((0:Nat):Int)=0 from rfl,q3,bs,Ky8 ctx [b,a] (by simp; omega),bs,bs]
    rw [ae] at fin
    exact fin
   ·rw [a1,if_neg (by decide),if_pos (by decide),if_neg (by simpa using n9),show (0:Int)=((0:Nat):Int) from rfl,V6b q1,bs,q2,bs,q3,bs,Ky8 ctx [a] (by simp; omega),bs,bs,bs,bs]
    rw [ae] at fin
    exact fin
  ·rw [Kpj.eq_def]
   simp only
   rw [Kra (by rw [g.many hs]; exact h1),if_pos rfl,V6b e1,bs,wr2,bs,Kue (by rw [wr3]; omega),bs,Kr9 (by omega)]
   exact r2
theorem V6f:∀ (m:Nat) (t:K01) (ctx:List (List Int)) (y:K04),tsz t ≤ m→V4n s ctx t y→∃ r,V6d s ctx t y r
 | 0,t,ctx,y,hm,_=>by rw [Ktb] at hm; omega
 | m + 1,t,ctx,y,hm,g=>by
  obtain ⟨x,r,hf,hx,hy⟩:=g.tell hs
  have hl:=Kyw hy
  obtain ⟨w,r1,r2,r3,r4⟩:=V6e hs g (fun k c yk hk gk=>V6f m k c yk (by omega) gk) t.fKids 0 [y.fty] rfl (by have:=g.bd; rw [Ktb] at this; simp; omega) (fun v hv=>by rw [List.mem_singleton.1 hv]; exact hl)
  refine ⟨w,?_,?_,by rw [r3,Ktb]; rfl,r4⟩
  ·rw [Kr5.eq_def]
   simp only
   rw [r.sp,bs,hx,show (0:Int)=((0:Nat):Int) from rfl,r1,bs]
  ·rw [Kpi.eq_def]
   rw [Kuh y.fty (by omega),bs,show (0:Int)=((0:Nat):Int) from rfl,r2,bs]
end
mutual
theorem V6g {g:Int→Bool} {y:List Int→Bool}:∀ (t:K01) (n m:Nat),n ≤ m→tOk g y n t=true→tOk g y m t=true
 | ⟨op,N,ty,ks⟩,n,m,hm,h=>by
  rw [Kwl,Bool.and_eq_true] at h ⊢
  refine ⟨?_,V6h ks op n m 0 hm h.2⟩
  have h1:=h.1
  unfold Kty Ktw at h1 ⊢
  simp only [Bool.and_eq_true] at h1 ⊢
  refine ⟨⟨h1.1.1,?_⟩,h1.2⟩
  have h2:=h1.1.2
  split at h2
  ·rename_i q
   rw [if_pos q]
   unfold inB at h2 ⊢
   simp only [Bool.and_eq_true,decide_eq_true_eq] at h2 ⊢
   omega
  ·rename_i q; rw [if_neg q]; exact h2
theorem V6h {g:Int→Bool} {y:List Int→Bool}:∀ (ks:List K01) (op:Int) (n m i:Nat),n ≤ m→Ktz g y op n i ks=true→Ktz g y op m i ks=true
 | [],_,_,_,_,_,_=>by rw [Kwn]
 | k :: ks,op,n,m,i,hm,h=>by
  rw [Kwm,Bool.and_eq_true] at h ⊢
  exact ⟨V6g k _ _ (by omega) h.1,V6h ks op n m (i + 1) hm h.2⟩
end
theorem V6i {s:K00} {ctx:List (List Int)} {t:K01} (h:Kyt s ctx t=true):wB t=true:=by
 obtain ⟨hs,h8,_,h4,h5⟩:=V1t h
 have h16:=hs.tab.size
 have:=hs.tab.hi
 unfold wB
 rw [decide_eq_true h4,Bool.and_true]
 refine V6g t _ _ h8 (V5j (fun x hx=>?_) (fun q hq=>?_) t _ h5)
 ·unfold gN at hx ⊢
  simp only [Bool.not_eq_true',Bool.or_eq_false_iff,Bool.and_eq_false_iff,decide_eq_false_iff_not,Bool.true_and] at hx ⊢
  have hx1:=hx.1.1
  have hx2:=hx.1.2
  simp only [true_or,Bool.false_eq_true,and_true]
  omega
 ·unfold yN at hq
  rw [Bool.and_eq_true] at hq
  exact hq.1
theorem V6j (l:List (List Int)) (q:List Int):lms (l ++ [q])=lms l + 1 + q.length:=by
 have:∀ l:List (List Int),lct (l ++ [q])=lct l + q.length:=by
  intro l
  induction l with
  | nil=>simp [lct]
  | cons x l ih=>rw [List.cons_append,lct,lct,ih]; omega
 unfold lms
 rw [this,List.length_append]
 simp
 omega
theorem V6k (a:List Int) (ha:a.length ≤ 1099511627776):∀ (k n:Nat),n + k=a.length→Kqb (a,a,(n:Int))=some (.inl ()):=by
 intro k
 induction k with
 | zero =>
  intro n hn
  rw [Kqb.eq_def]
  simp only
  rw [Krb (by omega)]; rfl
 | succ k ih =>
  intro n hn
  rw [Kqb.eq_def]
  simp only
  rw [Kra (by omega),if_pos rfl,Kr8 (by omega),bs,bs,Krc,if_neg (by decide),Kr9 (by omega),ih (n + 1) (by omega)]
theorem V6l (a:List Int) (ha:a.length ≤ 1099511627776):Kqe (a,a)=some true:=by
 unfold Kqe
 simp only
 rw [Krc,if_neg (by decide),show (0:Int)=((0:Nat):Int) from rfl,V6k a ha a.length 0 (by omega),bs]
theorem V6m:∀ (n i:Nat) (y:K04) (out w:List (List Int)),i + n=y.fkids.length→y.fkids.length ≤ 1000000→Kpj (y,out,(i:Int))=some w→∃ z,w=out ++ z:=by
 intro n
 induction n with
 | zero =>
  intro i y out w hi hb h
  rw [Kpj.eq_def] at h
  simp only at h
  rw [decide_eq_false (by omega),if_neg (by decide)] at h
  cases h
  exact ⟨[],by simp⟩
 | succ n ih =>
  intro i y out w hi hb h
  rw [Kpj.eq_def] at h
  simp only at h
  rw [decide_eq_true (by omega),if_pos rfl] at h
  obtain ⟨_,_,h⟩:=Qe5 h
  obtain ⟨r,_,h⟩:=Qe5 h
  obtain ⟨_,_,h⟩:=Qe5 h
  rw [Kr9 (by omega)] at h
  obtain ⟨z,e⟩:=ih (i + 1) y (out ++ r) w (by omega) hb h
  exact ⟨r ++ z,by rw [e,List.append_assoc]⟩
theorem V6n {y:K04} {w:List (List Int)} (hb:y.fkids.length ≤ 1000000) (hf:y.fty.length ≤ 1000) (h:Kpi y=some w):∃ z,w=y.fty :: z:=by
 rw [Kpi.eq_def,Kuh y.fty (by omega),bs] at h
 obtain ⟨w',h1,h⟩:=Qe5 h
 cases h
 obtain ⟨z,e⟩:=V6m y.fkids.length 0 y [y.fty] w (by omega) hb h1
 exact ⟨z,e⟩
theorem V6o {y y0 y1:K04} {r0 r1:List (List Int)} (hk:y.fkids=[y0,y1]) (hf:y.fty.length ≤ 1000) (h0:Kpi y0=some r0) (h1:Kpi y1=some r1) (l0:r0.length ≤ 1000) (l1:r1.length ≤ 1000):Kpi y=some (y.fty :: (r0 ++ r1)):=by
 have a:idx y.fkids 0=some y0:=by rw [hk]; rfl
 have b:idx y.fkids 1=some y1:=by rw [hk]; rfl
 have w1:wr (0 + 1)=1:=by rw [Kr7 (by omega) (by omega)]; rfl
 have w2:wr (1 + 1)=2:=by rw [Kr7 (by omega) (by omega)]; rfl
 rw [Kpi.eq_def,Kuh y.fty (by omega),bs,Kpj.eq_def]
 simp only
 rw [decide_eq_true (by rw [hk]; simp),if_pos rfl,a,bs,h0,bs,Kue (by simp; omega),bs,w1,Kpj.eq_def]
 simp only
 rw [decide_eq_true (by rw [hk]; simp),if_pos rfl,b,bs,h1,bs,Kue (by simp; omega),bs,w2,Kpj.eq_def]
 simp only
 rw [decide_eq_false (by rw [hk]; simp),if_neg (by decide),bs]
 simp
theorem V6p (a:List (List Int)) (ha:a.length ≤ 1000000) (he:∀ v ∈ a,v.length ≤ 1000):∀ (k n:Nat),n + k=a.length→Kqi (a,a,(n:Int))=some (.inl ()):=by
 intro k
 induction k with
 | zero =>
  intro n hn
  rw [Kqi.eq_def]
  simp only
  rw [decide_eq_false (by omega),if_neg (by decide)]
 | succ k ih =>
  intro n hn
  have hi:n < a.length:=by omega
  have:=he _ (List.getElem_mem hi)
  rw [Kqi.eq_def]
  simp only
  rw [decide_eq_true (by omega),if_pos rfl,Kr8 hi,bs,bs,V6l _ (by omega),bs,if_pos rfl,Kr9 (by omega),ih (n + 1) (by omega)]
theorem V6q (a:List (List Int)) (ha:a.length ≤ 1000000) (he:∀ v ∈ a,v.length ≤ 1000):Kql (a,a)=some true:=by
 unfold Kql
 simp only
 rw [bne_self_eq_false,if_neg (by decide),show (0:Int)=((0:Nat):Int) from rfl,V6p a ha he a.length 0 (by omega),bs]
theorem V6r {s:K00} {ctx:List (List Int)} {t k:K01} {i:Nat} (h:Kyt s ctx t=true) (hk:t.fKids[i]?=some k) (ha:Kts t.fOp (i:Int)=0):Kyt s ctx k=true:=by
 obtain ⟨_,_,_,h4,h5⟩:=V1t h
 obtain ⟨hi,hg⟩:=List.getElem?_eq_some_iff.1 hk
 have h3:=Kwa t.fKids t.fOp ctx.length 0 i hi (Kuc h5).2
 rw [hg,Nat.zero_add,ha,Nat.add_zero] at h3
 have hz:=Kvs (hg ▸ List.getElem_mem hi:k ∈ t.fKids)
 unfold Kyt Kwq at h ⊢
 simp only [Bool.and_eq_true,decide_eq_true_eq] at h ⊢
 exact ⟨h.1,⟨h.1.1,by omega⟩,h3⟩
theorem V6s {s:K00} {ctx:List (List Int)} {t:K01} {y:K04} (hi:Kyt s ctx t=true) (b2:lms ctx ≤ 1048576) (b3:tms t ≤ 1048576) (g:V4n s ctx t y) :
  ∃ w,Kpp (s,ctx,t)=some w∧Kpi y=some w∧w.length=tsz t∧∀ v ∈ w,v.length ≤ 40:=by
 obtain ⟨hs,_⟩:=V1t hi
 obtain ⟨w,a1,a2,a3,a4⟩:=V6f hs (tsz t) t ctx y (Nat.le_refl _) g
 refine ⟨w,?_,a2,a3,a4⟩
 rcases V1v (s:=s) b2 (by omega:tms t ≤ 1099511627776) with ⟨h0,_⟩ | ⟨_,_,x,y',r,q2⟩
 ·rw [hi] at h0; cases h0
 ·have ey:y'=y:=by have:=r.im; rw [g.im] at this; exact (Option.some.inj this).symm
  subst ey
  unfold Kpp
  simp only
  rw [q2,bs]
  simp only
  rw [if_neg (by rw [g.fa]; decide),a2,bs]
theorem V6t (s:K00) (ctx:List (List Int)) (t:K01) (b2:lms ctx ≤ 1048576) (b3:tms t ≤ 1048576) (code:List Int) (e1:K9j code=some false) (e2:Kio code=some (s,ctx,t)):Kqo code=some true:=by
 unfold Kqo
 rw [e1,bs,if_neg (by decide),e2,bs]
 simp only
 rcases V1w s ctx t b2 (by omega) with ⟨_,h2,h3⟩ | ⟨x,y,r,hf,hi,_,h2,h3⟩
 ·have:Kpp (s,ctx,t)=some []:=by
   unfold Kpp
   simp only
   rcases V1v (s:=s) b2 (by omega:tms t ≤ 1099511627776) with ⟨h0,_,q2⟩ | ⟨h0,_,x,y,r,q2⟩
   ·rw [q2,bs]
   ·rw [q2,bs]
    simp only
    rcases h3 with h3 | ⟨x',y',r',hf⟩
    ·rw [h0] at h3; cases h3
    ·have ey:y'=y:=by have:=r'.im; rw [r.im] at this; exact (Option.some.inj this).symm
     subst ey
     rw [if_pos (by rw [r'.fa]; exact bne_iff_ne.2 hf)]
  rw [h2,bs]
  simp only
  rw [this,bs]
  rfl
 ·have g:V4n s ctx t y:=V4o hi r hf
  obtain ⟨hs,h8,hcx,hz,hok⟩:=V1t hi
  obtain ⟨w,q1,q2,q3,q4⟩:=V6s hi b2 b3 g
  obtain ⟨x0,_,_,hx0,hty⟩:=g.tell hs
  have hfl:=Kyw hty
  have hm:=g.many hs
  have htk:t.fKids.length ≤ 1000:=by have:=V6c t.fKids; rw [Ktb] at hz; omega
  obtain ⟨z,ez⟩:=V6n (by omega) (by omega) q2
  have hw:=V6i hi
  have hsz:Kq7 t=some (tsz t:Int):=by
   unfold Kq7
   unfold wB at hw
   rw [Bool.and_eq_true] at hw
   have hc:Ku4 (tOk (gN 16 false) wtB 8 t) 0 (tsz t)=(tsz t:Int):=by
    unfold Ku4
    rw [hw.1,Nat.zero_add,decide_eq_true hz]
    rfl
   rw [Ku7 t (by omega),hc,bs,if_neg (by simp; omega)]
  have e0:idx w 0=some y.fty:=by rw [ez]; rfl
  rw [h2,bs]
  simp only
  rw [q1,bs]
  simp only [if_true]
  rw [hsz,bs,q3,bne_self_eq_false,if_neg (by decide),e0,bs,← r.ty,V6l _ (by omega),bs,bs]
  simp only [Bool.not_true,Bool.false_eq_true,if_false]
  by_cases hk2:(t.fKids.length:Int) < 2
  ·rw [decide_eq_true hk2,if_pos rfl]
  rw [decide_eq_false hk2,if_neg (by decide)]
  by_cases h4:t.fOp=4
  ·rw [h4]
   rw [if_pos (by decide)]
   have hkl:t.fKids.length=2:=by
    have:=Kuf (Kuc hok).1
    rw [h4] at this
    have:(t.fKids.length:Int)=2:=this.2
    omega
   obtain ⟨k0,k1,ek⟩:∃ k0 k1,t.fKids=[k0,k1]:=by
    cases e:t.fKids with
    | nil=>rw [e] at hkl; cases hkl
    | cons a l =>
     cases l with
     | nil=>rw [e] at hkl; cases hkl
     | cons b l =>
      cases l with
      | nil=>exact ⟨a,b,rfl⟩
      | cons c l=>rw [e] at hkl; simp at hkl
   have g0:t.fKids[0]?=some k0:=by rw [ek]; rfl
   have g1:t.fKids[1]?=some k1:=by rw [ek]; rfl
   have a0:Kts t.fOp ((0:Nat):Int)=0:=by rw [h4]; rfl
   have a1:Kts t.fOp ((1:Nat):Int)=0:=by rw [h4]; rfl
   obtain ⟨y0,f0,gd0,n0⟩:=g.kid hs g0
   obtain ⟨y1,f1,gd1,n1⟩:=g.kid hs g1
   rw [a0] at n0
   rw [a1] at n1
   rw [List.eq_nil_of_length_eq_zero n0,List.nil_append] at gd0
   rw [List.eq_nil_of_length_eq_zero n1,List.nil_append] at gd1
   have m0:tms k0 ≤ tms t:=by have:=Kvr (t:=t) (k:=k0) (by rw [ek]; simp); omega
   have m1:tms k1 ≤ tms t:=by have:=Kvr (t:=t) (k:=k1) (by rw [ek]; simp); omega
   have s0:=Kvs (t:=t) (k:=k0) (by rw [ek]; simp)
   have s1:=Kvs (t:=t) (k:=k1) (by rw [ek]; simp)
   obtain ⟨r0,p1,p2,p3,p4⟩:=V6s (V6r hi g0 a0) b2 (by omega) gd0
   obtain ⟨r1,v1,v2,v3,v4⟩:=V6s (V6r hi g1 a1) b2 (by omega) gd1
   have ey:y.fkids=[y0,y1]:=by
    rw [hkl] at hm
    cases e:y.fkids with
    | nil=>rw [e] at hm; cases hm
    | cons a l =>
     rw [e] at f0 f1 hm
     cases l with
     | nil=>cases hm
     | cons b l =>
      cases l with
      | nil=>cases f0; cases f1; rfl
      | cons c l=>simp at hm
   have hall:=V6o ey (by omega) p2 v2 (by omega) (by omega)
   rw [q2] at hall
   have ew:=Option.some.inj hall
   have i0:idx t.fKids 0=some k0:=by rw [ek]; rfl
   have i1:idx t.fKids 1=some k1:=by rw [ek]; rfl
   rw [i0,bs,p1,bs,i1,bs,v1,bs,ew,Kw9,bs,Kue (by simp; omega),bs,Kue (by omega),bs,V6q (r0 ++ r1) (by simp; omega) (fun v hv=>by
    rcases List.mem_append.1 hv with h | h
    ·have:=p4 v h; omega
    ·have:=v4 v h; omega),bs]
  ·rw [if_neg (by simpa using h4)]
theorem V6u (code:List Int) (w:code.length ≤ maxLen∧∀ v ∈ code,0 ≤ v∧v ≤ 255):Kqo code=some true:=by
 by_cases hbig:(code.length:Int) > 1048576
 ·unfold Kqo K9j
  rw [bs,decide_eq_true hbig,if_pos rfl]
 have e1:K9j code=some false:=by unfold K9j; rw [decide_eq_false hbig]
 have G:Gv (Kio code) (fun r=>lms r.2.1 ≤ 1048576∧tms r.2.2 ≤ 1048576):=by
  unfold Kio
  refine Gv.bind (V21 code (by omega) w.2) (fun c0 h0=>?_)
  obtain ⟨d,hd,e⟩:=V60 code (by omega)
  rw [e,bs]
  refine Gv.bind (V25 h0 2) ?_
  rintro ⟨v,c1⟩ h1
  simp only at h1 ⊢
  refine Gv.bind (V5z h1 hd 3 (by decide) v) ?_
  rintro ⟨s,ctx,⟨o1,o2,o3,o4⟩,c2⟩ ⟨hsy,hc,ht,h2⟩
  simp only at hsy hc ht h2 ⊢
  have hcl:=hc.2.1
  have hlm:=hc.lms (by decide)
  have htm:=ht.tms
  have htl:=ht.tln hsy (by decide) (by omega)
  refine Gv.bind (V25 h2 20) ?_
  rintro ⟨x,c3⟩ h3
  simp only at h3 ⊢
  refine Gv.bind (Q:=fun r:List Int × Int × Int × Int × List Int × List Int × List Bool=>V1x ⟨r.1,r.2.1,r.2.2.1⟩) (.ite (fun _=>?_) (fun _=>.of h3)) ?_
  ·refine Gv.bind (V4i h3) ?_
   rintro ⟨s',c4⟩ ⟨_,h4⟩
   exact .of h4
  rintro ⟨a1,a2,a3,a4,a5,a6,a7⟩ h4
  simp only at h4 ⊢
  refine Gv.bind (V25 h4 20) ?_
  rintro ⟨x',c5⟩ h5
  simp only at h5 ⊢
  refine Gv.bind (Q:=fun r:List Int × Int × Int × List (List Int)=>V1x ⟨r.1,r.2.1,r.2.2.1⟩∧lms r.2.2.2 ≤ 1048576) (.ite (fun _=>?_) (fun _=>.of ⟨h5,by simp only; omega⟩)) ?_
  ·refine Gv.bind (V4m h5) ?_
   rintro ⟨q,c6⟩ ⟨hq,h6⟩
   simp only at hq h6 ⊢
   rw [Kue (by simp; omega),bs]
   refine .of ⟨h6,?_⟩
   have:=V6j ctx q
   simp only
   omega
  rintro ⟨d1,d2,d3,d4⟩ ⟨h6,z⟩
  simp only at h6 z ⊢
  refine Gv.bind (V25 h6 4) ?_
  rintro ⟨x7,c7⟩ h7
  simp only at h7 ⊢
  refine Gv.bind (Q:=fun r:Int × Int × List Int × List K01=>tms ⟨r.1,r.2.1,r.2.2.1,r.2.2.2⟩ ≤ 1048576) (.ite (fun _=>?_) (fun _=>.of (by simp only; omega))) ?_
  ·refine Gv.bind (V6a h7 htl (by omega)) ?_
   rintro ⟨⟨u1,u2,u3,u4⟩,c8⟩ ⟨⟨_,zz⟩,_⟩
   exact .of (by simp only at zz ⊢; omega)
  rintro ⟨u1,u2,u3,u4⟩ zz
  exact .of ⟨z,zz⟩
 obtain ⟨⟨s,ctx,t⟩,e2,q2,q3⟩:=G
 exact V6t s ctx t q2 q3 code e1 e2
end Go.Am
