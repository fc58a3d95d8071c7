/- Plain laws of the printed functions. -/
import Derived.Test.YtckgdfakjjdodaaGreatPSN1
set_option linter.unusedSimpArgs false
set_option linter.unusedVariables false
namespace Go.Am
def Gv {α:Type} (x:Option α) (Q:α→Prop):Prop:=∃ a,x=some a∧Q a
theorem Gv.of {α:Type} {a:α} {Q:α→Prop} (h:Q a):Gv (some a) Q:=⟨a,rfl,h⟩
theorem Gv.eq {α:Type} {x:Option α} {a:α} {Q:α→Prop} (e:x=some a) (h:Q a):Gv x Q:=⟨a,e,h⟩
theorem Gv.bind {α β:Type} {x:Option α} {f:α→Option β} {Q:α→Prop} {R:β→Prop} (h:Gv x Q) (hf:∀ a,Q a→Gv (f a) R):Gv (x >>= f) R:=by
 obtain ⟨a,rfl,hq⟩:=h
 exact hf a hq
theorem Gv.mono {α:Type} {x:Option α} {Q R:α→Prop} (h:Gv x Q) (hq:∀ a,Q a→R a):Gv x R:=let ⟨a,e,h⟩:=h; ⟨a,e,hq a h⟩
theorem Gv.ite {α:Type} {b:Bool} {x y:Option α} {Q:α→Prop} (h1:b=true→Gv x Q) (h2:b=false→Gv y Q):Gv (if b=true then x else y) Q:=by
 cases b
 ·exact h2 rfl
 ·exact h1 rfl
structure V3p (c:K02):Prop where
 lo:0 ≤ c.fi
 hi:c.fi ≤ c.fb.length
 ln:c.fb.length ≤ 1048576
 by_:∀ v ∈ c.fb,0 ≤ v∧v ≤ 255
theorem V3q (x:Int):0 ≤ Q2p .and .i64 x 255∧Q2p .and .i64 x 255 ≤ 255:=by
 have h:(BitVec.ofInt 64 x &&& BitVec.ofInt 64 255).toNat ≤ 255:=by
  rw [BitVec.toNat_and]
  exact Nat.le_trans Nat.and_le_right (by decide)
 have e:Q2p .and .i64 x 255=wr (((BitVec.ofInt 64 x &&& BitVec.ofInt 64 255).toNat:Nat):Int):=rfl
 rw [e,Ksp (by omega) (by omega)]
 omega
theorem V3r {α:Type} {l:List α} {i:Int} (h0:0 ≤ i) (h:i < l.length):∃ v,idx l i=some v∧v ∈ l:=by
 have hi:i.toNat < l.length:=by omega
 refine ⟨l[i.toNat],?_,List.getElem_mem hi⟩
 unfold idx
 rw [if_pos h0,List.getElem?_eq_getElem hi]
theorem V3s (code:List Int) (hl:code.length ≤ 1048576):∀ (k i:Nat) (h:Int),i + k=code.length→Gv (K9u (code,h,(i:Int))) (fun _=>True):=by
 intro k
 induction k with
 | zero =>
  intro i h hi
  rw [K9u.eq_def]
  simp only
  rw [Kst (by omega),if_neg (by decide),bs,if_neg (by decide)]
  exact .of trivial
 | succ k ih =>
  intro i h hi
  rw [K9u.eq_def]
  simp only
  rw [Kss (by omega),if_pos rfl,bs]
  refine .ite (fun _=>?_) (fun _=>.of trivial)
  rw [Ksq (by omega),bs,Ksr (by omega)]
  exact ih (i + 1) _ (by omega)
theorem V3t (code:List Int) (hl:code.length ≤ 1048576) (hb:∀ v ∈ code,0 ≤ v∧v ≤ 255):Gv (K9x code) V3p:=by
 unfold K9x
 refine Gv.bind (V3s code hl code.length 0 _ (by omega)) (fun h _=>.of ⟨Int.le_refl _,?_,hl,hb⟩)
 simp
theorem V3u {c:K02} (h:V3p c):Gv (Ka6 c) (fun r=>(0 ≤ r.1∧r.1 ≤ 255)∧V3p r.2):=by
 unfold Ka6
 by_cases hi:c.fi < c.fb.length
 ·obtain ⟨v,e,hv⟩:=V3r h.lo hi
  have h3:=h.ln
  have h4:=h.lo
  rw [decide_eq_true hi,if_pos rfl,e,bs,bs]
  refine .of ⟨V3q _,⟨?_,?_,h.ln,h.by_⟩⟩
  ·simp only
   rw [Ksp (by omega) (by omega)]; omega
  ·simp only
   rw [Ksp (by omega) (by omega)]; omega
 ·rw [decide_eq_false hi,if_neg (by decide),bs]
  exact .of ⟨V3q _,⟨h.lo,h.hi,h.ln,h.by_⟩⟩
def V3v (n:Int) (x:Int):Prop:=(0 < n→0 ≤ x∧x < n)∧(n ≤ 0→x=0)
theorem V3w {c:K02} (h:V3p c) (n:Int):Gv (Ka9 (c,n)) (fun r=>V3v n r.1∧V3p r.2):=by
 unfold Ka9
 simp only
 refine .ite (fun hb=>?_) (fun hb=>?_)
 ·have hb:=of_decide_eq_true hb
  exact .of ⟨⟨fun h=>absurd h (by omega),fun _=>rfl⟩,h⟩
 have hb:=of_decide_eq_false hb
 have tm:∀ x:Int,0 ≤ x→V3v n (Int.tmod x n):=fun x hx=>⟨fun hn=>⟨Int.tmod_nonneg n hx,Int.tmod_lt_of_pos x hn⟩,fun hn=>absurd hn (by omega)⟩
 have ck:chk (n ≠ 0)=some ():=by unfold chk; rw [if_pos (by omega)]
 refine .ite (fun _=>?_) (fun _=>?_)
 ·refine Gv.bind (V3u h) ?_
  rintro ⟨x,c1⟩ ⟨hx,h1⟩
  simp only at hx h1 ⊢
  rw [ck,bs]
  exact .of ⟨tm _ hx.1,h1⟩
 ·refine Gv.bind (V3u h) ?_
  rintro ⟨x,c1⟩ ⟨hx,h1⟩
  simp only at hx h1 ⊢
  refine Gv.bind (V3u h1) ?_
  rintro ⟨y,c2⟩ ⟨hy,h2⟩
  simp only at hy h2 ⊢
  refine Gv.bind (V3u h2) ?_
  rintro ⟨z,c3⟩ ⟨hz,h3⟩
  simp only at hz h3 ⊢
  refine Gv.bind (V3u h3) ?_
  rintro ⟨w,c4⟩ ⟨hw,h4⟩
  simp only at hw h4 ⊢
  rw [ck,bs]
  refine .of ⟨?_,h4⟩
  simp only
  have e1:wr (x * 16777216)=x * 16777216:=Ksp (by omega) (by omega)
  have e2:wr (y * 65536)=y * 65536:=Ksp (by omega) (by omega)
  have e3:wr (z * 256)=z * 256:=Ksp (by omega) (by omega)
  rw [e1,e2,e3,Ksp (x:=x * 16777216 + y * 65536) (by omega) (by omega),Ksp (x:=x * 16777216 + y * 65536 + z * 256) (by omega) (by omega),Ksp (x:=x * 16777216 + y * 65536 + z * 256 + w) (by omega) (by omega)]
  exact tm _ (by omega)
theorem V3x {c:K02} (h:V3p c) (n:Int):Gv (Kac (c,n)) (fun r=>V3p r.2):=by
 unfold Kac
 refine Gv.bind (V3w h n) ?_
 rintro ⟨x,c1⟩ ⟨_,h1⟩
 exact .of h1
theorem V3y {c:K02} (h:V3p c) (l:List Int) (hl:0 < l.length):Gv (Ki5 (c,l)) (fun r=>r.1 ∈ l∧V3p r.2):=by
 unfold Ki5
 refine Gv.bind (V3w h _) ?_
 rintro ⟨x,c1⟩ ⟨⟨hx,_⟩,h1⟩
 simp only at hx h1 ⊢
 have:=hx (by omega)
 obtain ⟨v,e,hv⟩:=V3r this.1 this.2
 rw [e,bs]
 exact .of ⟨hv,h1⟩
theorem V3z {c:K02} (h:V3p c):Gv (Kjn c) (fun r=>(-9223372036854775808 ≤ r.1∧r.1 ≤ 9223372036854775807)∧V3p r.2):=by
 unfold Kjn
 refine Gv.bind (V3y h _ (by decide)) ?_
 rintro ⟨x,c1⟩ ⟨hx,h1⟩
 refine .of ⟨?_,h1⟩
 simp only [List.mem_cons,List.not_mem_nil,or_false] at hx
 simp only
 omega
def V40 (n a b:Nat):Int:=((min (a + b) (n + 1):Nat):Int)
def V41 (n a b:Nat):Int:=((min (a * b) (n + 1):Nat):Int)
def V42 (n:Nat) (bd:Bool) (a b:Nat):Bool:=(a == b) || (b == n + 1) || (bd && decide (a ≤ b))
def V43 (n:Nat) (bd:Bool):K00:=⟨((n + 2:Nat):Int),(List.range' 0 (n + 2)).flatMap (fun a=>(List.range' 0 (n + 2)).map (V40 n a)),(List.range' 0 (n + 2)).flatMap (fun a=>(List.range' 0 (n + 2)).map (V41 n a)),(List.range' 0 (n + 2)).flatMap (fun a=>(List.range' 0 (n + 2)).map (V42 n bd a))⟩
theorem V44 {a b:Nat} (h:a ≤ b):decide ((a:Int) ≤ (b:Int))=true:=decide_eq_true (by omega)
theorem V45 {a b:Nat} (h:b < a):decide ((a:Int) ≤ (b:Int))=false:=decide_eq_false (by omega)
theorem V46 (n a:Nat) (bd:Bool) (hn:n ≤ 14) (ha:a ≤ n + 1):∀ (k b:Nat) (P T:List Int) (B:List Bool),b + k=n + 2→P.length ≤ 1000000→T.length ≤ 1000000→B.length ≤ 1000000→P.length + k ≤ 1000000→T.length + k ≤ 1000000→B.length + k ≤ 1000000 →
  Kaj ((n:Int),bd,(a:Int),P,T,B,(b:Int))=some (P ++ (List.range' b k).map (V40 n a),T ++ (List.range' b k).map (V41 n a),B ++ (List.range' b k).map (V42 n bd a)):=by
 intro k
 induction k with
 | zero =>
  intro b P T B hb _ _ _ _ _ _
  rw [Kaj.eq_def]
  simp only
  rw [Ksr (by omega),V45 (by omega),if_neg (by decide)]
  simp
 | succ k ih =>
  intro b P T B hb h1 h2 h3 h4 h5 h6
  have hab:a * b ≤ 16 * 16:=Nat.mul_le_mul (by omega) (by omega)
  have e2:wr ((a:Int) * (b:Int))=((a * b:Nat):Int):=by
   rw [← Int.natCast_mul,Ksp (by omega) (by omega)]
  rw [Kaj.eq_def]
  simp only
  rw [Ksr (n:=n) (by omega),V44 (by omega),if_pos rfl,Kx2 (by omega) (by omega),Kx3,bs,e2,Kx3,bs,Kvt (by simp; omega),bs,Kvt (by simp; omega),bs]
  have e3:((if ((a:Int) == (b:Int))=true then Qe6 (B.length + [true].length) 1 >>= fun _=>some (B ++ [true]) else if ((b:Int) == ((n + 1:Nat):Int))=true then Qe6 (B.length + [true].length) 1 >>= fun _=>some (B ++ [true]) else if bd=true then Qe6 (B.length + [decide ((a:Int) ≤ (b:Int))].length) 1 >>= fun _=>some (B ++ [decide ((a:Int) ≤ (b:Int))]) else Qe6 (B.length + [false].length) 1 >>= fun _=>some (B ++ [false])):Option (List Bool))=some (B ++ [V42 n bd a b]):=by
   have f:∀ x:Bool,Qe6 (B.length + [x].length) 1=some ():=fun x=>Kvt (by simp; omega)
   rw [f,f,f,bs,bs,bs,Kt6,Kt6]
   unfold V42
   by_cases q1:a=b
   ·rw [if_pos (by simp [q1])]; simp [q1]
   ·rw [if_neg (by simp [q1])]
    by_cases q2:b=n + 1
    ·rw [if_pos (by simp [q2])]; simp [q2]
    ·rw [if_neg (by simp [q2])]
     cases bd with
     | false=>simp [q1,q2]
     | true=>simp [q1,q2]
  rw [e3,bs,Ksr (by omega),ih (b + 1) _ _ _ (by omega) (by simp; omega) (by simp; omega) (by simp; omega) (by simp; omega) (by simp; omega) (by simp; omega)]
  simp [List.range'_succ,V40,V41]
theorem V47 (n:Nat) (bd:Bool) (hn:n ≤ 14):∀ (k a:Nat) (P T:List Int) (B:List Bool),a + k=n + 2→P.length + k * 16 ≤ 10000→T.length + k * 16 ≤ 10000→B.length + k * 16 ≤ 10000 →
  Kan ((n:Int),bd,P,T,B,(a:Int))=some (P ++ (List.range' a k).flatMap (fun a=>(List.range' 0 (n + 2)).map (V40 n a)),T ++ (List.range' a k).flatMap (fun a=>(List.range' 0 (n + 2)).map (V41 n a)),B ++ (List.range' a k).flatMap (fun a=>(List.range' 0 (n + 2)).map (V42 n bd a))):=by
 intro k
 induction k with
 | zero =>
  intro a P T B hb _ _ _
  rw [Kan.eq_def]
  simp only
  rw [Ksr (by omega),V45 (by omega),if_neg (by decide)]
  simp
 | succ k ih =>
  intro a P T B hb h1 h2 h3
  rw [Kan.eq_def]
  simp only
  rw [Ksr (n:=n) (by omega),V44 (by omega),if_pos rfl,show (0:Int)=((0:Nat):Int) from rfl,V46 n a bd hn (by omega) (n + 2) 0 P T B (by omega) (by omega) (by omega) (by omega) (by omega) (by omega) (by omega),bs]
  simp only
  rw [Ksr (by omega),ih (a + 1) _ _ _ (by omega) (by simp; omega) (by simp; omega) (by simp; omega)]
  simp [List.range'_succ,List.flatMap_cons]
theorem V48 (n:Nat) (bd:Bool) (h1:1 ≤ n) (h2:n ≤ 14):Kaq ((n:Int),bd)=some (V43 n bd):=by
 unfold Kaq
 simp only
 rw [sIn,bs,show inB (n:Int) 1 14=true from by unfold inB; rw [decide_eq_true (by omega),decide_eq_true (by omega)]; rfl,if_pos rfl,show (0:Int)=((0:Nat):Int) from rfl,V47 n bd h2 (n + 2) 0 [] [] [] (by omega) (by simp; omega) (by simp; omega) (by simp; omega),bs]
 simp only
 rw [show wr ((n:Int) + 2)=((n + 2:Nat):Int) from by rw [Ksp (by omega) (by omega)]; omega]
 rfl
theorem V49 (n:Nat) (h1:1 ≤ n) (h2:n ≤ 14):Kaw (n:Int)=some (V43 n false):=by unfold Kaw; rw [V48 n false h1 h2]; rfl
theorem V4a (n:Nat) (h1:1 ≤ n) (h2:n ≤ 14):Kat (n:Int)=some (V43 n true):=by unfold Kat; rw [V48 n true h1 h2]; rfl
def V4b (n a:Nat):Nat:=(n + 1 - a) % (n + 1)
def V4c (n a b:Nat):Int:=(((n + 1 - max (V4b n a) (V4b n b)) % (n + 1):Nat):Int)
def V4d (n a b:Nat):Int:=(((n + 1 - min (V4b n a) (V4b n b)) % (n + 1):Nat):Int)
def V4e (n a b:Nat):Bool:=decide (V4b n a ≤ V4b n b)
def V4f (n:Nat):K00:=⟨((n + 1:Nat):Int),(List.range' 0 (n + 1)).flatMap (fun a=>(List.range' 0 (n + 1)).map (V4c n a)),(List.range' 0 (n + 1)).flatMap (fun a=>(List.range' 0 (n + 1)).map (V4d n a)),(List.range' 0 (n + 1)).flatMap (fun a=>(List.range' 0 (n + 1)).map (V4e n a))⟩
theorem V4g (a b:Nat):Kaz ((a:Int),(b:Int))=some ((max a b:Nat):Int):=by
 unfold Kaz
 simp only
 by_cases h:b < a
 ·rw [decide_eq_true (by omega),if_pos rfl,Nat.max_eq_left (by omega)]
 ·rw [decide_eq_false (by omega),if_neg (by decide),Nat.max_eq_right (by omega)]
theorem V4h (a b:Nat):Int.tmod (a:Int) (b:Int)=((a % b:Nat):Int):=(Int.ofNat_tmod a b).symm
theorem V4i (n a:Nat) (hn:n ≤ 1000) (ha:a ≤ n + 1):Int.tmod (wr (((n + 1:Nat):Int) - (a:Int))) ((n + 1:Nat):Int)=(((n + 1 - a) % (n + 1):Nat):Int):=by
 rw [Ksp (by omega) (by omega),show ((n + 1:Nat):Int) - (a:Int)=((n + 1 - a:Nat):Int) from by omega,V4h]
theorem V4j (n a:Nat):V4b n a ≤ n:=by
 have:=Nat.mod_lt (n + 1 - a) (show 0 < n + 1 by omega)
 unfold V4b
 omega
theorem V4k (n a:Nat) (hn:n ≤ 15) (ha:a ≤ n):∀ (k b:Nat) (P T:List Int) (B:List Bool),b + k=n + 1→P.length + k ≤ 1000000→T.length + k ≤ 1000000→B.length + k ≤ 1000000 →
  Kb3 ((n:Int),(a:Int),P,T,B,(b:Int))=some (P ++ (List.range' b k).map (V4c n a),T ++ (List.range' b k).map (V4d n a),B ++ (List.range' b k).map (V4e n a)):=by
 intro k
 induction k with
 | zero =>
  intro b P T B hb _ _ _
  rw [Kb3.eq_def]
  simp only
  rw [V45 (by omega),if_neg (by decide)]
  simp
 | succ k ih =>
  intro b P T B hb h4 h5 h6
  have ck:chk (((n + 1:Nat):Int) ≠ 0)=some ():=by unfold chk; rw [if_pos (by omega)]
  have m1:=V4j n a
  have m2:=V4j n b
  have x1:Int.tmod (wr (((n + 1:Nat):Int) - (a:Int))) ((n + 1:Nat):Int)=((V4b n a:Nat):Int):=V4i n a (by omega) (by omega)
  have x2:Int.tmod (wr (((n + 1:Nat):Int) - (b:Int))) ((n + 1:Nat):Int)=((V4b n b:Nat):Int):=V4i n b (by omega) (by omega)
  rw [Kb3.eq_def]
  simp only
  rw [V44 (by omega),if_pos rfl,Ksr (n:=n) (by omega),ck,bs,bs,x1,x2,V4g,bs,bs,Kx3,bs,bs,V4i n _ (by omega) (by omega),V4i n _ (by omega) (by omega),Kvt (by simp; omega),bs,Kvt (by simp; omega),bs,Kvt (by simp; omega),bs,Ksr (by omega),ih (b + 1) _ _ _ (by omega) (by simp; omega) (by simp; omega) (by simp; omega)]
  simp [List.range'_succ,V4c,V4d,V4e]
theorem V4l (n:Nat) (hn:n ≤ 15):∀ (k a:Nat) (P T:List Int) (B:List Bool),a + k=n + 1→P.length + k * 16 ≤ 10000→T.length + k * 16 ≤ 10000→B.length + k * 16 ≤ 10000 →
  Kb7 ((n:Int),P,T,B,(a:Int))=some (P ++ (List.range' a k).flatMap (fun a=>(List.range' 0 (n + 1)).map (V4c n a)),T ++ (List.range' a k).flatMap (fun a=>(List.range' 0 (n + 1)).map (V4d n a)),B ++ (List.range' a k).flatMap (fun a=>(List.range' 0 (n + 1)).map (V4e n a))):=by
 intro k
 induction k with
 | zero =>
  intro a P T B hb _ _ _
  rw [Kb7.eq_def]
  simp only
  rw [V45 (by omega),if_neg (by decide)]
  simp
 | succ k ih =>
  intro a P T B hb h1 h2 h3
  rw [Kb7.eq_def]
  simp only
  rw [V44 (by omega),if_pos rfl,show (0:Int)=((0:Nat):Int) from rfl,V4k n a hn (by omega) (n + 1) 0 P T B (by omega) (by omega) (by omega) (by omega),bs]
  simp only
  rw [Ksr (by omega),ih (a + 1) _ _ _ (by omega) (by simp; omega) (by simp; omega) (by simp; omega)]
  simp [List.range'_succ,List.flatMap_cons]
theorem V4m (n:Nat) (h1:1 ≤ n) (h2:n ≤ 15):Kba (n:Int)=some (V4f n):=by
 unfold Kba
 rw [sIn,bs,show inB (n:Int) 1 15=true from by unfold inB; rw [decide_eq_true (by omega),decide_eq_true (by omega)]; rfl,if_pos rfl,show (0:Int)=((0:Nat):Int) from rfl,V4l n h2 (n + 1) 0 [] [] [] (by omega) (by simp; omega) (by simp; omega) (by simp; omega),bs]
 simp only
 rw [Ksr (by omega)]
 rfl
def V4n (n g:Nat):Nat:=if g=0 then 0 else if g=1 then 1 else if g ≤ n + 1 then (g - 1) / n else g / n
def V4o (n g:Nat):Nat:=if g < 2 then g else if g ≤ n + 1 then (g - 1) % n else g % n
def V4p (n x y:Nat):Nat:=if x * n + y=0 then 0 else if x * n + y=n + 1 then 1 else if x * n + y < n + 1 then x * n + y + 1 else x * n + y
theorem V4q (a b:Nat):Int.tdiv (a:Int) (b:Int)=((a / b:Nat):Int):=(Int.ofNat_tdiv a b).symm
theorem V4r (n g:Nat) (hn:1 ≤ n) (hn2:n ≤ 100) (hg:g ≤ 1000):Kd1 ((n:Int),(g:Int))=some ((V4n n g:Nat):Int):=by
 have ck:chk ((n:Int) ≠ 0)=some ():=by unfold chk; rw [if_pos (by omega)]
 have hd:∀ x,x ≤ 1000→x / n ≤ 1000:=fun x hx=>Nat.le_trans (Nat.div_le_self _ _) hx
 unfold Kd1 V4n
 simp only
 by_cases h0:g=0
 ·rw [if_pos (by simp [h0]),if_pos h0]; rfl
 rw [if_neg (by simpa using h0),if_neg h0]
 by_cases h1:g=1
 ·rw [if_pos (by simp [h1]),if_pos h1]; rfl
 rw [if_neg (by simp; omega),if_neg h1,Ksr (by omega)]
 by_cases h2:g ≤ n + 1
 ·rw [V44 h2,if_pos rfl,if_pos h2,ck,bs,Ksp (x:=(g:Int) - 1) (by omega) (by omega),show (g:Int) - 1=((g - 1:Nat):Int) from by omega,V4q]
  have:=hd (g - 1) (by omega)
  generalize (g - 1) / n=q at *
  rw [Ksp (by omega) (by omega)]
 ·rw [V45 (by omega),if_neg (by decide),if_neg h2,ck,bs,V4q]
  have:=hd g hg
  generalize g / n=q at *
  rw [Ksp (by omega) (by omega)]
theorem V4s (n g:Nat) (hn:1 ≤ n) (hn2:n ≤ 100) (hg:g ≤ 1000):Kd4 ((n:Int),(g:Int))=some ((V4o n g:Nat):Int):=by
 have ck:chk ((n:Int) ≠ 0)=some ():=by unfold chk; rw [if_pos (by omega)]
 unfold Kd4 V4o
 simp only
 by_cases h0:g < 2
 ·rw [decide_eq_true (by omega),if_pos rfl,if_pos h0]
 rw [decide_eq_false (by omega),if_neg (by decide),if_neg h0,Ksr (by omega)]
 by_cases h2:g ≤ n + 1
 ·rw [V44 h2,if_pos rfl,if_pos h2,ck,bs,Ksp (x:=(g:Int) - 1) (by omega) (by omega),show (g:Int) - 1=((g - 1:Nat):Int) from by omega,V4h]
 ·rw [V45 (by omega),if_neg (by decide),if_neg h2,ck,bs,V4h]
theorem V4t (n x y:Nat) (hn:n ≤ 100) (hx:x ≤ 100) (hy:y ≤ 100):Kd7 ((n:Int),(x:Int),(y:Int))=some ((V4p n x y:Nat):Int):=by
 have hxn:x * n ≤ 100 * 100:=Nat.mul_le_mul hx hn
 have e:wr (wr ((x:Int) * (n:Int)) + (y:Int))=((x * n + y:Nat):Int):=by
  rw [← Int.natCast_mul,Ksp (x:=((x * n:Nat):Int)) (by omega) (by omega),Ksp (by omega) (by omega)]; omega
 unfold Kd7 V4p
 simp only
 rw [e,Ksr (n:=n) (by omega)]
 by_cases h0:x * n + y=0
 ·rw [if_pos (by rw [h0]; rfl),if_pos h0]; rfl
 rw [if_neg (by simp; omega),if_neg h0]
 by_cases h1:x * n + y=n + 1
 ·rw [if_pos (by rw [h1]; simp),if_pos h1]; rfl
 rw [if_neg (by simp; omega),if_neg h1]
 by_cases h2:x * n + y < n + 1
 ·rw [Kss h2,if_pos rfl,if_pos h2,Ksr (by omega)]
 ·rw [Kst (by omega),if_neg (by decide),if_neg h2]
theorem V4u {m n g:Nat} (hm:2 ≤ m) (hn:2 ≤ n) (h:g < m * n):V4n n g < m:=by
 unfold V4n
 split
 ·omega
 split
 ·omega
 split
 ·refine Nat.div_lt_of_lt_mul ?_
  rw [Nat.mul_comm]; omega
 ·exact Nat.div_lt_of_lt_mul (by rw [Nat.mul_comm]; exact h)
theorem V4v {n g:Nat} (hn:2 ≤ n):V4o n g < n:=by
 unfold V4o
 split
 ·omega
 split
 ·exact Nat.mod_lt _ (by omega)
 ·exact Nat.mod_lt _ (by omega)
def V4w (a b:K00) (m n g h:Nat):Int:=((V4p n (pl a m (V4n n g) (V4n n h)) (pl b n (V4o n g) (V4o n h)):Nat):Int)
def V4x (a b:K00) (m n g h:Nat):Int:=((V4p n (ti a m (V4n n g) (V4n n h)) (ti b n (V4o n g) (V4o n h)):Nat):Int)
def V4y (a b:K00) (m n g h:Nat):Bool:=le a m (V4n n g) (V4n n h) && le b n (V4o n g) (V4o n h)
def V4z (a b:K00) (m n:Nat):K00:=⟨((m * n:Nat):Int),(List.range' 0 (m * n)).flatMap (fun g=>(List.range' 0 (m * n)).map (V4w a b m n g)),(List.range' 0 (m * n)).flatMap (fun g=>(List.range' 0 (m * n)).map (V4x a b m n g)),(List.range' 0 (m * n)).flatMap (fun g=>(List.range' 0 (m * n)).map (V4y a b m n g))⟩
theorem V50 {m n:Nat} (hm:2 ≤ m) (hn:2 ≤ n) (hmn:m * n ≤ 16):m ≤ 16∧n ≤ 16:=⟨Nat.le_trans (Nat.le_mul_of_pos_right m (by omega)) hmn,Nat.le_trans (Nat.le_mul_of_pos_left n (by omega)) hmn⟩
section
variable {a b:K00} {m n:Nat} (ta:Tab a m) (tb:Tab b n) (hm:2 ≤ m) (hn:2 ≤ n) (hmn:m * n ≤ 16)
include ta tb hm hn hmn
theorem V51 {g:Nat} (hg:g < m * n):∀ (k h:Nat) (P T:List Int) (B:List Bool),h + k=m * n→P.length + k ≤ 1000000→T.length + k ≤ 1000000→B.length + k ≤ 1000000 →
  Kdb (a,b,(g:Int),P,T,B,(h:Int))=some (P ++ (List.range' h k).map (V4w a b m n g),T ++ (List.range' h k).map (V4x a b m n g),B ++ (List.range' h k).map (V4y a b m n g)):=by
 obtain ⟨hm16,hn16⟩:=V50 hm hn hmn
 have hN:wr (a.fSize * b.fSize)=((m * n:Nat):Int):=by
  rw [ta.size,tb.size,← Int.natCast_mul,Ksp (by omega) (by omega)]
 intro k
 induction k with
 | zero =>
  intro h P T B hb _ _ _
  rw [Kdb.eq_def]
  simp only
  rw [hN,Kst (by omega),if_neg (by decide)]
  simp
 | succ k ih =>
  intro h P T B hb h4 h5 h6
  have f1:=V4u hm hn hg
  have f2:=V4u hm hn (show h < m * n by omega)
  have s1:V4o n g < n:=V4v hn
  have s2:V4o n h < n:=V4v hn
  have p1:=Ksx ta f1 f2
  have p2:=Ksx tb s1 s2
  have t1:=Ksy ta f1 f2
  have t2:=Ksy tb s1 s2
  rw [Kdb.eq_def]
  simp only
  rw [hN,Kss (by omega),if_pos rfl,tb.size,V4r n g (by omega) (by omega) (by omega),bs,V4s n g (by omega) (by omega) (by omega),bs,V4r n h (by omega) (by omega) (by omega),bs,V4s n h (by omega) (by omega) (by omega),bs,
   Kt2 ta f1 f2,bs,Kt2 tb s1 s2,bs,V4t n _ _ (by omega) (by omega) (by omega),bs,Kvt (by simp; omega),bs,Kt3 ta f1 f2,bs,Kt3 tb s1 s2,bs,V4t n _ _ (by omega) (by omega) (by omega),bs,Kvt (by simp; omega),bs,sLe ta f1 f2,bs,sLe tb s1 s2,bs]
  have f:∀ x:Bool,Qe6 (B.length + [x].length) 1=some ():=fun x=>Kvt (by simp; omega)
  have e3:((if le a m (V4n n g) (V4n n h)=true then Qe6 (B.length + [le b n (V4o n g) (V4o n h)].length) 1 >>= fun _=>some (B ++ [le b n (V4o n g) (V4o n h)]) else Qe6 (B.length + [false].length) 1 >>= fun _=>some (B ++ [false])):Option (List Bool))=some (B ++ [V4y a b m n g h]):=by
   rw [f,f,bs,bs]
   unfold V4y
   cases le a m (V4n n g) (V4n n h) <;> rfl
  rw [e3,bs,Ksr (by omega),ih (h + 1) _ _ _ (by omega) (by simp; omega) (by simp; omega) (by simp; omega)]
  simp [List.range'_succ,V4w,V4x]
theorem V52:∀ (k g:Nat) (P T:List Int) (B:List Bool),g + k=m * n→P.length + k * 16 ≤ 10000→T.length + k * 16 ≤ 10000→B.length + k * 16 ≤ 10000 →
  Kdf (a,b,P,T,B,(g:Int))=some (P ++ (List.range' g k).flatMap (fun g=>(List.range' 0 (m * n)).map (V4w a b m n g)),T ++ (List.range' g k).flatMap (fun g=>(List.range' 0 (m * n)).map (V4x a b m n g)),B ++ (List.range' g k).flatMap (fun g=>(List.range' 0 (m * n)).map (V4y a b m n g))):=by
 have hN:wr (a.fSize * b.fSize)=((m * n:Nat):Int):=by
  rw [ta.size,tb.size,← Int.natCast_mul,Ksp (by omega) (by omega)]
 intro k
 induction k with
 | zero =>
  intro g P T B hb _ _ _
  rw [Kdf.eq_def]
  simp only
  rw [hN,Kst (by omega),if_neg (by decide)]
  simp
 | succ k ih =>
  intro g P T B hb h1 h2 h3
  rw [Kdf.eq_def]
  simp only
  rw [hN,Kss (by omega),if_pos rfl,show (0:Int)=((0:Nat):Int) from rfl,V51 ta tb hm hn hmn (by omega) (m * n) 0 P T B (by omega) (by omega) (by omega) (by omega),bs]
  simp only
  rw [Ksr (by omega),ih (g + 1) _ _ _ (by omega) (by simp; omega) (by simp; omega) (by simp; omega)]
  simp [List.range'_succ,List.flatMap_cons]
theorem V53 (sa:Kw7 a=true) (sb:Kw7 b=true):Kdi (a,b)=some (V4z a b m n,true):=by
 have hN:wr (a.fSize * b.fSize)=((m * n:Nat):Int):=by
  rw [ta.size,tb.size,← Int.natCast_mul,Ksp (by omega) (by omega)]
 unfold Kdi Kcy
 simp only
 rw [Kw9,Kw9,bs,sa,if_pos rfl,bs,sb,if_pos rfl,bs,hN,decide_eq_true (by omega),bs,if_pos rfl,show (0:Int)=((0:Nat):Int) from rfl,V52 ta tb hm hn hmn (m * n) 0 [] [] [] (by omega) (by simp; omega) (by simp; omega) (by simp; omega),bs]
 rfl
end
def V54:K00:=⟨3,[0,1,2,1,2,2,2,2,2],[0,0,0,0,1,2,0,2,2],[true,true,true,false,true,true,false,false,true]⟩
def V55:K00:=⟨4,[0,1,2,3,1,2,3,3,2,3,3,3,3,3,3,3],[0,0,0,0,0,1,2,3,0,2,3,3,0,3,3,3],[true,true,true,true,false,true,true,true,false,false,true,true,false,false,false,true]⟩
def V56:K00:=⟨5,[0,1,2,3,4,1,2,3,4,4,2,3,4,4,4,3,4,4,4,4,4,4,4,4,4],[0,0,0,0,0,0,1,2,3,4,0,2,4,4,4,0,3,4,4,4,0,4,4,4,4],[true,true,true,true,true,false,true,true,true,true,false,false,true,true,true,false,false,false,true,true,false,false,false,false,true]⟩
def V57:K00:=⟨3,[0,1,2,1,2,2,2,2,2],[0,0,0,0,1,2,0,2,2],[true,false,true,false,true,true,false,false,true]⟩
def V58:K00:=⟨4,[0,1,2,3,1,2,3,3,2,3,3,3,3,3,3,3],[0,0,0,0,0,1,2,3,0,2,3,3,0,3,3,3],[true,false,false,true,false,true,false,true,false,false,true,true,false,false,false,true]⟩
def V59:K00:=⟨5,[0,1,2,3,4,1,2,3,4,4,2,3,4,4,4,3,4,4,4,4,4,4,4,4,4],[0,0,0,0,0,0,1,2,3,4,0,2,4,4,4,0,3,4,4,4,0,4,4,4,4],[true,false,false,false,true,false,true,false,false,true,false,false,true,false,true,false,false,false,true,true,false,false,false,false,true]⟩
def V5a:K00:=⟨2,[0,1,1,1],[0,0,0,1],[true,true,false,true]⟩
def V5b:K00:=⟨3,[0,1,2,1,1,1,2,1,2],[0,0,0,0,1,2,0,2,2],[true,true,true,false,true,false,false,true,true]⟩
def V5c:K00:=⟨4,[0,1,2,3,1,1,1,1,2,1,2,2,3,1,2,3],[0,0,0,0,0,1,2,3,0,2,2,3,0,3,3,3],[true,true,true,true,false,true,false,false,false,true,true,false,false,true,true,true]⟩
def V5d:K00:=⟨6,[0,1,2,3,4,5,1,5,1,5,5,5,2,1,2,1,5,5,3,5,1,4,4,5,4,5,5,4,4,5,5,5,5,5,5,5],[0,0,0,0,0,0,0,1,2,3,4,5,0,2,2,0,0,2,0,3,0,3,4,4,0,4,0,4,4,4,0,5,2,4,4,5],[true,false,true,false,true,true,false,true,false,false,false,true,false,false,true,false,false,true,false,true,false,true,true,true,false,false,false,false,true,true,false,false,false,false,false,true]⟩
def V5e:K00:=⟨9,[0,1,2,3,4,5,6,7,8,1,7,1,1,7,7,7,7,7,2,1,2,2,1,1,7,7,7,3,1,2,3,5,5,8,7,8,4,7,1,5,6,8,6,7,8,5,7,1,5,8,8,8,7,8,6,7,7,8,6,8,6,7,8,7,7,7,7,7,7,7,7,7,8,7,7,8,8,8,8,7,8],[0,0,0,0,0,0,0,0,0,0,1,2,3,4,5,6,7,8,0,2,2,3,0,3,0,2,3,0,3,3,3,0,3,0,3,3,0,4,0,0,4,4,6,6,6,0,5,3,3,4,5,6,8,8,0,6,0,0,6,6,6,6,6,0,7,2,3,6,8,6,7,8,0,8,3,3,6,8,6,8,8],[true,false,true,true,false,false,true,true,true,false,true,false,false,false,false,false,true,false,false,false,true,false,false,false,false,true,false,false,false,true,true,false,false,false,true,true,false,true,false,false,true,true,true,true,true,false,true,false,false,false,true,false,true,true,false,false,false,false,false,false,true,true,true,false,false,false,false,false,false,false,true,false,false,false,false,false,false,false,false,true,true]⟩
theorem V5f:V43 1 true=V54:=by kernel_rfl
theorem V5g:Kw7 V54=true:=by kernel_rfl
theorem V5h:V43 2 true=V55:=by kernel_rfl
theorem V5i:Kw7 V55=true:=by kernel_rfl
theorem V5j:V43 3 true=V56:=by kernel_rfl
theorem V5k:Kw7 V56=true:=by kernel_rfl
theorem V5l:V43 1 false=V57:=by kernel_rfl
theorem V5m:Kw7 V57=true:=by kernel_rfl
theorem V5n:V43 2 false=V58:=by kernel_rfl
theorem V5o:Kw7 V58=true:=by kernel_rfl
theorem V5p:V43 3 false=V59:=by kernel_rfl
theorem V5q:Kw7 V59=true:=by kernel_rfl
theorem V5r:V4f 1=V5a:=by kernel_rfl
theorem V5s:Kw7 V5a=true:=by kernel_rfl
theorem V5t:V4f 2=V5b:=by kernel_rfl
theorem V5u:Kw7 V5b=true:=by kernel_rfl
theorem V5v:V4f 3=V5c:=by kernel_rfl
theorem V5w:Kw7 V5c=true:=by kernel_rfl
theorem V5x:V4z V57 V5a 3 2=V5d:=by kernel_rfl
theorem V5y:Kw7 V5d=true:=by kernel_rfl
theorem V5z:V4z V57 V5b 3 3=V5e:=by kernel_rfl
theorem V60:Kw7 V5e=true:=by kernel_rfl
def V61:List K00:=[V54,V55,V56,V57,V58,V59,V5a,V5b,V5c,V5d,V5e]
theorem V62 {s:K00} (h:s ∈ V61):Kw7 s=true∧(2 ≤ s.fSize∧s.fSize ≤ 9)∧sms s ≤ 300:=by
 simp only [V61,List.mem_cons,List.not_mem_nil,or_false] at h
 rcases h with rfl | rfl | rfl | rfl | rfl | rfl | rfl | rfl | rfl | rfl | rfl
 ·exact ⟨V5g,by decide,by decide⟩
 ·exact ⟨V5i,by decide,by decide⟩
 ·exact ⟨V5k,by decide,by decide⟩
 ·exact ⟨V5m,by decide,by decide⟩
 ·exact ⟨V5o,by decide,by decide⟩
 ·exact ⟨V5q,by decide,by decide⟩
 ·exact ⟨V5s,by decide,by decide⟩
 ·exact ⟨V5u,by decide,by decide⟩
 ·exact ⟨V5w,by decide,by decide⟩
 ·exact ⟨V5y,by decide,by decide⟩
 ·exact ⟨V60,by decide,by decide⟩
theorem V63 (x:Int) (h:V3v 3 x):x=0∨x=1∨x=2:=by
 have:=h.1 (by decide)
 omega
theorem V64 {x:Int} (h:V3v 3 x):Gv (Kat (wr (1 + x))) (fun s=>s ∈ V61):=by
 rcases V63 x h with rfl | rfl | rfl
 ·exact .eq (V4a 1 (by decide) (by decide)) (by rw [V5f]; simp [V61])
 ·exact .eq (V4a 2 (by decide) (by decide)) (by rw [V5h]; simp [V61])
 ·exact .eq (V4a 3 (by decide) (by decide)) (by rw [V5j]; simp [V61])
theorem V65 {x:Int} (h:V3v 3 x):Gv (Kaw (wr (1 + x))) (fun s=>s ∈ V61):=by
 rcases V63 x h with rfl | rfl | rfl
 ·exact .eq (V49 1 (by decide) (by decide)) (by rw [V5l]; simp [V61])
 ·exact .eq (V49 2 (by decide) (by decide)) (by rw [V5n]; simp [V61])
 ·exact .eq (V49 3 (by decide) (by decide)) (by rw [V5p]; simp [V61])
theorem V66 {x:Int} (h:V3v 3 x):Gv (Kba (wr (1 + x))) (fun s=>s ∈ V61):=by
 rcases V63 x h with rfl | rfl | rfl
 ·exact .eq (V4m 1 (by decide) (by decide)) (by rw [V5r]; simp [V61])
 ·exact .eq (V4m 2 (by decide) (by decide)) (by rw [V5t]; simp [V61])
 ·exact .eq (V4m 3 (by decide) (by decide)) (by rw [V5v]; simp [V61])
theorem V67 {c:K02} (h:V3p c):Gv (Kdl c) (fun r=>r.1 ∈ V61∧V3p r.2):=by
 unfold Kdl
 refine Gv.bind (V3w h 3) ?_
 rintro ⟨x,c1⟩ ⟨hx,h1⟩
 simp only at hx h1 ⊢
 refine Gv.bind (V64 hx) (fun s0 hs0=>?_)
 refine Gv.bind (V3w h1 8) ?_
 rintro ⟨y,c2⟩ ⟨hy,h2⟩
 simp only at hy h2 ⊢
 have fin:∀ (R:Int × List Int × List Int × List Bool × List Int × Int × Int→Prop),True:=fun _=>trivial
 refine Gv.bind (Q:=fun _=>True) (.ite (fun _=>.of trivial) (fun _=>Gv.bind (Q:=fun _=>True) (.ite (fun _=>.of trivial) (fun _=>.of trivial)) (fun _ _=>.of trivial))) (fun j5 _=>?_)
 refine Gv.bind (Q:=fun r:Int × List Int × List Int × List Bool × List Int × Int × Int=>(⟨r.1,r.2.1,r.2.2.1,r.2.2.2.1⟩:K00) ∈ V61∧V3p ⟨r.2.2.2.2.1,r.2.2.2.2.2.1,r.2.2.2.2.2.2⟩) (.ite (fun _=>?_) (fun _=>?_)) ?_
 ·exact Gv.bind (V65 hx) (fun s hs=>.of ⟨hs,h2⟩)
 ·refine Gv.bind (Q:=fun _=>True) (.ite (fun _=>.of trivial) (fun _=>.of trivial)) (fun j9 _=>?_)
  refine Gv.bind (Q:=fun r:Int × List Int × List Int × List Bool × List Int × Int × Int=>(⟨r.1,r.2.1,r.2.2.1,r.2.2.2.1⟩:K00) ∈ V61∧V3p ⟨r.2.2.2.2.1,r.2.2.2.2.2.1,r.2.2.2.2.2.2⟩) (.ite (fun _=>?_) (fun _=>?_)) (by rintro ⟨a,b,d,e,f,g,i⟩ q; exact .of q)
  ·exact Gv.bind (V66 hx) (fun s hs=>.of ⟨hs,h2⟩)
  ·refine Gv.bind (Q:=fun r:Int × List Int × List Int × List Bool × List Int × Int × Int=>(⟨r.1,r.2.1,r.2.2.1,r.2.2.2.1⟩:K00) ∈ V61∧V3p ⟨r.2.2.2.2.1,r.2.2.2.2.2.1,r.2.2.2.2.2.2⟩) (.ite (fun _=>?_) (fun _=>.of ⟨hs0,h2⟩)) (by rintro ⟨a,b,d,e,f,g,i⟩ q; exact .of q)
   rw [show (1:Int)=((1:Nat):Int) from rfl,V49 1 (by decide) (by decide),V5l,bs]
   refine Gv.bind (V3w h2 2) ?_
   rintro ⟨z,c3⟩ ⟨hz,h3⟩
   simp only at hz h3 ⊢
   have hz:=hz.1 (by decide)
   have t3:Tab V57 3:=Kw8 V5m
   rcases (show z=0∨z=1 by omega) with rfl | rfl
   ·have e:wr (((1:Nat):Int) + 0)=((1:Nat):Int):=rfl
    rw [e,V4m 1 (by decide) (by decide),V5r,bs,V53 (m:=3) (n:=2) t3 (Kw8 V5s) (by decide) (by decide) (by decide) V5m V5s,V5x,bs]
    exact .of ⟨by simp [V61],h3⟩
   ·have e:wr (((1:Nat):Int) + 1)=((2:Nat):Int):=rfl
    rw [e,V4m 2 (by decide) (by decide),V5t,bs,V53 (m:=3) (n:=3) t3 (Kw8 V5u) (by decide) (by decide) (by decide) V5m V5u,V5z,bs]
    exact .of ⟨by simp [V61],h3⟩
 ·rintro ⟨a,b,d,e,f,g,i⟩ q
  exact .of q
theorem V68 (c:Int) (a:List Int) (h:a.length ≤ 1000000):Kds (c,[a])=some (c :: a):=by
 rw [V02 c [a] (by simp) (by simp; omega)]; simp
theorem V69 (c:Int) (a b:List Int) (h:a.length + b.length ≤ 1000000):Kds (c,[a,b])=some (c :: (a ++ b)):=by
 rw [V02 c [a,b] (by simp) (by simp; omega)]; simp
theorem V6a (d:Nat) (hd:d ≤ 10):2 ^ d ≤ 1024:=Nat.le_trans (Nat.pow_le_pow_right (by decide) hd) (by decide)
structure V6b (s:K00) (ctx:List (List Int)) (t:K01) (y:K04):Prop where
 ok:tOk (gN s.fSize true) (yN s.fSize true) ctx.length t=true
 cx:∀ q ∈ ctx,TyS s q
 bd:ctx.length + 2 * tsz t ≤ 1000000
 im:Kqj (⟨s⟩,ctx,t)=some y
 fa:y.ffault=0
section
variable {s:K00} {n:Nat} (hs:Kz2 s n) {ctx:List (List Int)} {t:K01} {y:K04}
include hs
theorem V6b.tell (g:V6b s ctx t y):∃ x,V2b s n ctx t x y∧x.ffault=0∧x.fty=y.fty∧TyS s y.fty:=by
 obtain ⟨x,y',r⟩:=V3j hs (tsz t) t ctx (Nat.le_refl _) g.ok g.cx g.bd
 have e:=r.im
 rw [g.im] at e
 cases e
 have hf:x.ffault=0:=by rw [← r.fa]; exact g.fa
 exact ⟨x,r,hf,r.ty.symm,by rw [r.ty]; exact (r.gd hf).1⟩
theorem V6b.kid (g:V6b s ctx t y) {i:Nat} {k:K01} (hk:t.fKids[i]?=some k):∃ yk,y.fkids[i]?=some yk∧V6b s (V29 t i y.fkids ++ ctx) k yk∧(V29 t i y.fkids).length=Kva t.fOp i:=by
 obtain ⟨x,r,hf,_⟩:=g.tell hs
 obtain ⟨yk,h1,h2⟩:=(r.kd hf).2 i k hk
 obtain ⟨hi,hg⟩:=List.getElem?_eq_some_iff.1 hk
 have hm:k ∈ t.fKids:=hg ▸ List.getElem_mem hi
 have h3:=Kxp t.fKids t.fOp ctx.length 0 i hi (Kvr g.ok).2
 rw [hg,Nat.zero_add] at h3
 have h4:=Kx7 hm
 have h5:=Kvb t.fOp (i:Int)
 have h6:=g.bd
 have h7:=h2.ln
 refine ⟨yk,h1,⟨?_,?_,?_,h2.im,h2.fa⟩,h7⟩
 ·rw [List.length_append,h7,Nat.add_comm]; exact h3
 ·intro q hq
  rcases List.mem_append.1 hq with hq | hq
  ·exact h2.ty q hq
  ·exact g.cx q hq
 ·rw [List.length_append,h7]; omega
theorem V6b.first (g:V6b s ctx t y) (h0:0 < t.fKids.length) (ha:Kva t.fOp ((0:Nat):Int)=0):∃ k0 y0 x0 l,t.fKids[0]?=some k0∧y.fkids=y0 :: l∧(V2b s n ctx k0 x0 y0∧x0.ffault=0)∧Kg0 (s,ctx,k0)=some x0∧x0.fty=y0.fty∧TyS s y0.fty:=by
 have hk:t.fKids[0]?=some t.fKids[0]:=List.getElem?_eq_getElem h0
 obtain ⟨y0,h1,h2,h3⟩:=g.kid hs hk
 rw [ha] at h3
 rw [List.eq_nil_of_length_eq_zero h3,List.nil_append] at h2
 obtain ⟨x0,r,hf,h4,h5⟩:=h2.tell hs
 cases e:y.fkids with
 | nil=>rw [e] at h1; cases h1
 | cons z l =>
  rw [e] at h1
  cases h1
  exact ⟨_,_,x0,l,hk,rfl,⟨r,hf⟩,r.sp,h4,h5⟩
end
theorem V6c {s:K00} {c:Int} {a b:List Int} (hk:Ktz c=2) (hg:Kul s.fSize true c=true) (ha:TyS s a) (hb:TyS s b) (hl:a.length + b.length + 1 ≤ 40):TyS s (c :: (a ++ b)):=by
 obtain ⟨A,a1,rfl,a3,a4⟩:=V0p ha
 obtain ⟨B,b1,rfl,b3,b4⟩:=V0p hb
 refine V0q (T:=.bin c A B) ⟨hk,a1,b1⟩ (by rw [Ty.code,List.length_cons,List.length_append]; omega) ?_
 rw [Ty.code,List.all_cons,List.all_append,hg,a4,b4]; rfl
theorem V6d {s:K00} {c:Int} {a:List Int} (hk:Ktz c=1) (hg:Kul s.fSize true c=true) (ha:TyS s a) (hl:a.length + 1 ≤ 40):TyS s (c :: a):=by
 obtain ⟨A,a1,rfl,a3,a4⟩:=V0p ha
 refine V0q (T:=.un c A) ⟨hk,a1⟩ (by rw [Ty.code,List.length_cons]; omega) ?_
 rw [Ty.code,List.all_cons,hg,a4]; rfl
theorem V6e {s:K00}:Kul s.fSize true 1=true:=by unfold Kul; simp
theorem V6f {s:K00}:Kul s.fSize true 2=true:=by unfold Kul; simp
theorem V6g {s:K00} {q:List Int} (h:TyS s q):1 ≤ q.length:=by
 obtain ⟨T,_,rfl,_,_⟩:=V0p h
 exact Kwf T
def V6h (s:K00) (m b:Nat) (t:K01):Prop:=tOk (gN s.fSize true) (yN s.fSize true) m t=true∧tsz t ≤ b
def V6i (s:K00) (ctx:List (List Int)):Prop:=∀ q ∈ ctx,TyS s q
theorem V6j {s:K00} {ctx:List (List Int)} {q:List Int} (h:V6i s ctx) (hq:TyS s q):V6i s (q :: ctx):=fun x hx=>by
 rcases List.mem_cons.1 hx with rfl | hx
 ·exact hq
 ·exact h x hx
theorem V6k {s:K00} {m:Nat} {i:Nat} (hi:i < m):V6h s m 1 ⟨0,(i:Int),[],[]⟩:=by
 refine ⟨?_,by simp [tsz,Kuq]⟩
 rw [Kvi]
 simp [Kvh,Kvg,Kve,Kvf,inB,Kv0,Kv2]
 omega
theorem V6l {s:K00} {m:Nat} {x:Int} (hx:0 ≤ x∧x < 3):V6h s m 1 ⟨1,x,[],[]⟩:=by
 refine ⟨?_,by simp [tsz,Kuq]⟩
 rw [Kvi]
 simp [Kvh,Kvg,Kve,Kvf,inB,Kv0,Kv2]
 omega
theorem V6m {s:K00} {op:Int} {m b1 b2:Nat} {k1 k2:K01} (hop:op=2∨op=4∨op=10) (h1:V6h s m b1 k1) (h2:V6h s m b2 k2):V6h s m (1 + b1 + b2) ⟨op,0,[],[k1,k2]⟩:=by
 refine ⟨?_,by have:=h1.2; have:=h2.2; simp [tsz,Kuq]; omega⟩
 rw [Kvi]
 rcases hop with rfl | rfl | rfl <;> simp [Kvh,Kvg,Kve,Kvf,inB,Kv0,Kv2,Kv1,Kva,h1.1,h2.1]
theorem V6n {s:K00} {m b1 b2 b3:Nat} {k1 k2 k3:K01} (h1:V6h s m b1 k1) (h2:V6h s m b2 k2) (h3:V6h s m b3 k3):V6h s m (1 + b1 + b2 + b3) ⟨3,0,[],[k1,k2,k3]⟩:=by
 refine ⟨?_,by have:=h1.2; have:=h2.2; have:=h3.2; simp [tsz,Kuq]; omega⟩
 rw [Kvi]
 simp [Kvh,Kvg,Kve,Kvf,inB,Kv0,Kv2,Kv1,Kva,h1.1,h2.1,h3.1]
theorem V6o {s:K00} {op:Int} {m b1:Nat} {q:List Int} {k1:K01} (hop:op=6∨op=7) (hq:TyS s q) (h1:V6h s m b1 k1):V6h s m (1 + b1) ⟨op,0,q,[k1]⟩:=by
 have hq:yN s.fSize true q=true:=hq
 refine ⟨?_,by have:=h1.2; simp [tsz,Kuq]; omega⟩
 rw [Kvi]
 rcases hop with rfl | rfl <;> simp [Kvh,Kvg,Kve,Kvf,inB,Kv0,Kv2,Kv1,Kva,h1.1,hq]
section
variable {s:K00} {n:Nat} (hs:Kz2 s n)
include hs
theorem V6p {g:Nat} (h:g < n):Ktz (3 + (g:Int))=2∧Kul s.fSize true (3 + (g:Int))=true:=by
 have:=hs.tab.hi
 refine ⟨by rcases Ku3 (3 + (g:Int)) with q | q | q | q <;> omega,(V0v hs (by omega)).2 (by omega)⟩
theorem V6q {g:Nat} (h:g < n):Ktz (19 + (g:Int))=1∧Kul s.fSize true (19 + (g:Int))=true:=by
 have:=hs.tab.hi
 refine ⟨by rcases Ku3 (19 + (g:Int)) with q | q | q | q <;> omega,(V0w hs (by omega)).2 (by omega)⟩
theorem V6r:∀ (d:Nat) (c:K02) (data:Bool),d ≤ 3→V3p c→Gv (Kdv (c,s,(d:Int),data)) (fun r=>(TyS s r.1∧r.1.length + 1 ≤ 2 ^ (d + 1))∧V3p r.2):=by
 have hsz:=hs.tab.size
 have hlo:=hs.tab.lo
 intro d
 induction d with
 | zero =>
  intro c data _ h
  rw [Kdv.eq_def]
  simp only
  refine Gv.bind (V3w h 6) ?_
  rintro ⟨x,c1⟩ ⟨hx,h1⟩
  simp only at hx h1 ⊢
  rw [show decide (((0:Nat):Int) ≤ 0)=true from rfl,if_pos rfl,bs,if_pos rfl]
  exact .of ⟨⟨V0u,by simp⟩,h1⟩
 | succ d ih =>
  intro c data hd h
  have hp:=V6a (d + 1) (by omega)
  have hp5:2 ^ (d + 1) ≤ 8:=Nat.le_trans (Nat.pow_le_pow_right (by decide) (show d + 1 ≤ 3 by omega)) (by decide)
  have hpe:2 ^ (d + 1 + 1)=2 ^ (d + 1) + 2 ^ (d + 1):=by rw [Nat.pow_succ]; omega
  have hp1:2 ≤ 2 ^ (d + 1):=Nat.le_trans (by decide) (Nat.pow_le_pow_right (n:=2) (by decide) (show 1 ≤ d + 1 by omega))
  have wd:wr (((d + 1:Nat):Int) - 1)=((d:Nat):Int):=by rw [Ksp (by omega) (by omega)]; omega
  rw [Kdv.eq_def]
  simp only
  refine Gv.bind (V3w h 6) ?_
  rintro ⟨x,c1⟩ ⟨hx,h1⟩
  simp only at hx h1 ⊢
  rw [show decide (((d + 1:Nat):Int) ≤ 0)=false from decide_eq_false (by omega),if_neg (by decide),bs]
  refine .ite (fun _=>.of ⟨⟨V0u,by simp; omega⟩,h1⟩) (fun _=>?_)
  rw [wd]
  refine Gv.bind (ih c1 data (by omega) h1) ?_
  rintro ⟨a,c2⟩ ⟨⟨ta,ha⟩,h2⟩
  simp only at ta ha h2 ⊢
  refine .ite (fun _=>?_) (fun _=>?_)
  ·refine Gv.bind (V3w h2 _) ?_
   rintro ⟨y,c3⟩ ⟨hy,h3⟩
   simp only at hy h3 ⊢
   have hy:=hy.1 (by omega)
   obtain ⟨g,rfl⟩:∃ g:Nat,y=(g:Int):=⟨y.toNat,by omega⟩
   obtain ⟨k1,k2⟩:=V6q hs (g:=g) (by omega)
   have hb:=hs.tab.hi
   rw [Ksp (by omega) (by omega),V68 _ _ (by omega),bs]
   exact .of ⟨⟨V6d k1 k2 ta (by omega),by simp; omega⟩,h3⟩
  refine Gv.bind (Q:=fun _=>True) (.ite (fun _=>.of trivial) (fun _=>.of trivial)) (fun v _=>?_)
  refine .ite (fun _=>?_) (fun _=>.ite (fun _=>?_) (fun _=>?_))
  ·refine Gv.bind (V3w h2 _) ?_
   rintro ⟨y,c3⟩ ⟨hy,h3⟩
   simp only at hy h3 ⊢
   have hy:=hy.1 (by omega)
   obtain ⟨g,rfl⟩:∃ g:Nat,y=(g:Int):=⟨y.toNat,by omega⟩
   obtain ⟨k1,k2⟩:=V6p hs (g:=g) (by omega)
   have hbb:=hs.tab.hi
   refine Gv.bind (ih c3 data (by omega) h3) ?_
   rintro ⟨b,c4⟩ ⟨⟨tb,hb⟩,h4⟩
   simp only at tb hb h4 ⊢
   rw [Ksp (by omega) (by omega),V69 _ _ _ (by omega),bs]
   exact .of ⟨⟨V6c k1 k2 ta tb (by omega),by simp; omega⟩,h4⟩
  ·refine Gv.bind (ih c2 data (by omega) h2) ?_
   rintro ⟨b,c4⟩ ⟨⟨tb,hb⟩,h4⟩
   simp only at tb hb h4 ⊢
   rw [V69 _ _ _ (by omega),bs]
   exact .of ⟨⟨V6c rfl V6f ta tb (by omega),by simp; omega⟩,h4⟩
  ·refine Gv.bind (ih c2 data (by omega) h2) ?_
   rintro ⟨b,c4⟩ ⟨⟨tb,hb⟩,h4⟩
   simp only at tb hb h4 ⊢
   rw [V69 _ _ _ (by omega),bs]
   exact .of ⟨⟨V6c rfl V6e ta tb (by omega),by simp; omega⟩,h4⟩
theorem V6s {ctx:List (List Int)} {t:K01} {b:Nat} (hc:V6i s ctx) (hl:ctx.length ≤ 1000) (hb:b ≤ 400000) (h:V6h s ctx.length b t) :
  ∃ x,Kg0 (s,ctx,t)=some x∧(x.ffault=0→TyS s x.fty∧∃ ns:List Nat,x.fneeds=Kyx ns∧ns.length=ctx.length∧Kzd n ns):=by
 have:=h.2
 obtain ⟨x,y,r⟩:=V3j hs (tsz t) t ctx (Nat.le_refl _) h.1 hc (by omega)
 exact ⟨x,r.sp,fun hf=>let ⟨g1,_,g2⟩:=r.gd hf; ⟨g1,g2⟩⟩
theorem V6t {ctx:List (List Int)} {t:K01} {b:Nat} (hc:V6i s ctx) (hl:ctx.length ≤ 1000) (hb:b ≤ 400000) (h:V6h s ctx.length b t) (i:Nat) (hi:i < ctx.length) :
  ∃ g:Nat,g < n∧Kgd (s,ctx,t,(i:Int))=some (g:Int):=by
 obtain ⟨x,e,hx⟩:=V6s hs hc hl hb h
 unfold Kgd
 simp only
 rw [e,bs]
 by_cases hf:x.ffault=0
 ·obtain ⟨_,ns,e2,e3,e4⟩:=hx hf
  have hi':i < ns.length:=by omega
  refine ⟨ns[i],e4 _ (List.getElem_mem hi'),?_⟩
  rw [if_neg (by simp [hf]),e2,Ksq (by rw [Kyy]; exact hi'),bs]
  simp [Kyx]
 ·rw [if_pos (bne_iff_ne.2 hf)]
  exact ⟨0,Nat.lt_of_lt_of_le (by decide) hs.tab.lo,rfl⟩
theorem V6u {a b:Nat} (ha:a < n) (hb:b < n):∃ g:Nat,g < n∧Kc8 (s,(a:Int),(b:Int))=some (g:Int):=by
 obtain ⟨e,h⟩:=Kz9 hs ha hb
 exact ⟨_,h,by rw [Ktj hs.tab ha hb,e]⟩
theorem V6v (c0:K02) {g:Nat} (hg:g < n):∀ (k i:Nat) (c:K02),i + k=3→V3p c→Gv (Kgh (c0,s,(g:Int),c.fb,c.fi,c.fh,(i:Int))) (fun fl=>match fl with | .inl r=>V3p ⟨r.1,r.2.1,r.2.2⟩ | .inr r=>(∃ h:Nat,h < n∧r.1=(h:Int))∧V3p r.2):=by
 have hsz:=hs.tab.size
 have hlo:=hs.tab.lo
 intro k
 induction k with
 | zero =>
  intro i c hi h
  rw [Kgh.eq_def]
  simp only
  rw [decide_eq_false (by omega),if_neg (by decide),bs]
  simp only
  rw [if_neg (by decide)]
  exact .of h
 | succ k ih =>
  intro i c hi h
  rw [Kgh.eq_def]
  simp only
  rw [decide_eq_true (by omega),if_pos rfl]
  refine Gv.bind (Q:=fun r:List Int × Int × Int × Bool=>V3p ⟨r.1,r.2.1,r.2.2.1⟩) (Gv.bind (V3x h 3) (by rintro ⟨x,c1⟩ h1; exact .of h1)) ?_
  rintro ⟨a,b,d,v⟩ h1
  simp only at h1 ⊢
  refine .ite (fun _=>?_) (fun _=>.of h1)
  refine Gv.bind (V3w h1 _) ?_
  rintro ⟨y,c3⟩ ⟨hy,h3⟩
  simp only at hy h3 ⊢
  have hy:=hy.1 (by omega)
  obtain ⟨q,rfl⟩:∃ q:Nat,y=(q:Int):=⟨y.toNat,by omega⟩
  rw [sLe hs.tab hg (by omega),bs]
  refine .ite (fun _=>.of ⟨⟨q,by omega,rfl⟩,h3⟩) (fun _=>?_)
  rw [Ksr (by omega)]
  exact ih (i + 1) c3 (by omega) h3
theorem V6w {c:K02} (h:V3p c) {g:Nat} (hg:g < n):Gv (Kgk (c,s,(g:Int))) (fun r=>(∃ h:Nat,h < n∧r.1=(h:Int))∧V3p r.2):=by
 have hsz:=hs.tab.size
 unfold Kgk
 simp only
 rw [decide_eq_false (by omega),if_neg (by decide),decide_eq_false (by omega),bs,if_neg (by decide)]
 have:=V6v hs c hg 3 0 c rfl h
 rw [show ((0:Nat):Int)=0 from rfl] at this
 refine Gv.bind this ?_
 rintro (⟨a,b,d⟩ | ⟨r,c1⟩) q
 ·exact .of ⟨⟨g,hg,rfl⟩,q⟩
 ·exact .of q
theorem V6x {g:Nat} (h:g < n):gN s.fSize true (g:Int)=true:=by
 have:=hs.tab.size
 unfold gN
 simp
 omega
theorem V6y {m b1 b2 g:Nat} {k1 k2:K01} (hg:g < n) (h1:V6h s m b1 k1) (h2:V6h s (m + 2) b2 k2):V6h s m (1 + b1 + b2) ⟨5,(g:Int),[],[k1,k2]⟩:=by
 refine ⟨?_,by have:=h1.2; have:=h2.2; simp [tsz,Kuq]; omega⟩
 rw [Kvi]
 simp [Kvh,Kvg,Kve,Kvf,inB,Kv0,Kv2,Kv1,Kva,h1.1,h2.1,V6x hs hg]
theorem V6z {m b1 b2 b3 g:Nat} {k1 k2 k3:K01} (hg:g < n) (h1:V6h s m b1 k1) (h2:V6h s (m + 1) b2 k2) (h3:V6h s (m + 1) b3 k3):V6h s m (1 + b1 + b2 + b3) ⟨8,(g:Int),[],[k1,k2,k3]⟩:=by
 refine ⟨?_,by have:=h1.2; have:=h2.2; have:=h3.2; simp [tsz,Kuq]; omega⟩
 rw [Kvi]
 simp [Kvh,Kvg,Kve,Kvf,inB,Kv0,Kv2,Kv1,Kva,h1.1,h2.1,h3.1,V6x hs hg]
theorem V70 {m b1 b2 g:Nat} {k1 k2:K01} (hg:g < n) (h1:V6h s m b1 k1) (h2:V6h s (m + 1) b2 k2):V6h s m (1 + b1 + b2) ⟨12,(g:Int),[],[k1,k2]⟩:=by
 refine ⟨?_,by have:=h1.2; have:=h2.2; simp [tsz,Kuq]; omega⟩
 rw [Kvi]
 simp [Kvh,Kvg,Kve,Kvf,inB,Kv0,Kv2,Kv1,Kva,h1.1,h2.1,V6x hs hg]
theorem V71 {m b1 g:Nat} {k1:K01} (hg:g < n) (h1:V6h s m b1 k1):V6h s m (1 + b1) ⟨11,(g:Int),[],[k1]⟩:=by
 refine ⟨?_,by have:=h1.2; simp [tsz,Kuq]; omega⟩
 rw [Kvi]
 simp [Kvh,Kvg,Kve,Kvf,inB,Kv0,Kv2,Kv1,Kva,h1.1,V6x hs hg]
theorem V72 {m b1 g:Nat} {q:List Int} {k1:K01} (hg:g < n) (hq:TyS s q) (h1:V6h s (m + 1) b1 k1):V6h s m (1 + b1) ⟨9,(g:Int),q,[k1]⟩:=by
 have hq:yN s.fSize true q=true:=hq
 refine ⟨?_,by have:=h1.2; simp [tsz,Kuq]; omega⟩
 rw [Kvi]
 simp [Kvh,Kvg,Kve,Kvf,inB,Kv0,Kv2,Kv1,Kva,h1.1,hq,V6x hs hg]
end
theorem V6h.mono {s:K00} {m b b':Nat} {t:K01} (h:V6h s m b t) (hb:b ≤ b'):V6h s m b' t:=⟨h.1,Nat.le_trans h.2 hb⟩
theorem sOp (op N:Int) (ks:List K01):Kec (op,N,ks)=some ⟨op,N,[],ks⟩:=rfl
def Dr (s:K00) (m b:Nat) (r:K01 × K02):Prop:=V6h s m b r.1∧V3p r.2
section
variable {s:K00} {n:Nat} (hs:Kz2 s n)
theorem V73 {c0 c:K02} (h:V3p c) {ctx:List (List Int)} {ty:List Int} {deep:Int} (hl:ctx.length ≤ 1000) (hty:ty.length ≤ 1000) {f:Int} (hf:0 ≤ f∧f < ctx.length) (hq:∀ q ∈ ctx,q.length ≤ 1000):∀ (k i:Nat),i + k=ctx.length →
  Gv (Kh2 (c0,s,ctx,ty,deep,f,c,(i:Int))) (fun fl=>match fl with | .inl _=>True | .inr r=>Dr s ctx.length 1 r):=by
 intro k
 induction k with
 | zero =>
  intro i hi
  rw [Kh2.eq_def]
  simp only
  rw [Kst (by omega),if_neg (by decide)]
  exact .of trivial
 | succ k ih =>
  intro i hi
  obtain ⟨g,rfl⟩:∃ g:Nat,f=(g:Int):=⟨f.toNat,by omega⟩
  have e:Int.tmod (wr ((g:Int) + (i:Int))) (ctx.length:Int)=(((g + i) % ctx.length:Nat):Int):=by
   rw [Kx2 (by omega) (by omega),V4h]
  have hm:(g + i) % ctx.length < ctx.length:=Nat.mod_lt _ (by omega)
  have ck:chk ((ctx.length:Int) ≠ 0)=some ():=by unfold chk; rw [if_pos (by omega)]
  rw [Kh2.eq_def]
  simp only
  rw [Kss (by omega),if_pos rfl,ck,bs,e,Ksq hm,bs,Ky9 _ ty (by omega),bs]
  refine .ite (fun _=>?_) (fun _=>?_)
  ·rw [sOp,bs]
   exact .of ⟨V6k hm,h⟩
  ·rw [Ksr (by omega)]
   exact ih (i + 1) (by omega)
include hs
theorem V74 {deep:Int} {b:Nat} {ctx:List (List Int)} {p q:List Int} {g:Nat} (hg:g < n) (P:V0r s (3 + (g:Int)) p q) (hg15:g ≤ 15) (hc:V6i s ctx) (hl:ctx.length ≤ 900) (hb:b ≤ 300000) (hb1:1 ≤ b) (hd:-900 ≤ deep∧deep ≤ 100)
  (H:∀ c,V3p c→Gv (Kha (c,s,p :: ctx,q,wr (deep - 1))) (Dr s (ctx.length + 1) b)) (c:K02) (h:V3p c):Gv (Khb (c,s,ctx,(3 + (g:Int)) :: (p ++ q),deep)) (Dr s ctx.length (1 + b)):=by
 have hlp:=V0o P.ya
 have hlq:=V0o P.yb
 have hc':V6i s (p :: ctx):=V6j hc P.ya
 have loop:∀ (k i:Nat) (c:K02) (u1 u2:Int) (u3:List Int) (u4:List K01),i + k=3→V3p c→V6h s (ctx.length + 1) b ⟨u1,u2,u3,u4⟩ →
   Gv (Khc (s,deep,p,q,(g:Int),p :: ctx,c.fb,c.fi,c.fh,u1,u2,u3,u4,(i:Int))) (fun r=>V6h s (ctx.length + 1) b ⟨r.1,r.2.1,r.2.2.1,r.2.2.2.1⟩∧V3p ⟨r.2.2.2.2.1,r.2.2.2.2.2.1,r.2.2.2.2.2.2⟩):=by
  intro k
  induction k with
  | zero =>
   intro i c u1 u2 u3 u4 hi h ht
   rw [Khc.eq_def]
   simp only
   rw [decide_eq_false (by omega),if_neg (by decide),bs,if_neg (by decide)]
   exact .of ⟨ht,h⟩
  | succ k ih =>
   intro i c u1 u2 u3 u4 hi h ht
   rw [Khc.eq_def]
   simp only
   obtain ⟨m,m1,m2⟩:=V6t hs hc' (by simp; omega) (by omega) (t:=⟨u1,u2,u3,u4⟩) (b:=b) (by simpa using ht) 0 (by simp)
   rw [show ((0:Nat):Int)=0 from rfl] at m2
   rw [decide_eq_true (by omega),if_pos rfl,m2,bs,sLe hs.tab m1 hg,bs,bs]
   refine .ite (fun _=>?_) (fun _=>.of ⟨ht,h⟩)
   refine Gv.bind (H c h) ?_
   rintro ⟨⟨x1,x2,x3,x4⟩,c2⟩ ⟨ht2,h2⟩
   simp only at ht2 h2 ⊢
   refine Gv.bind (Q:=fun _=>True) (.ite (fun _=>?_) (fun _=>.of trivial)) (fun v _=>?_)
   ·rw [Ky9 p q (by omega),bs]; exact .of trivial
   refine Gv.bind (Q:=fun r:Int × Int × List Int × List K01=>V6h s (ctx.length + 1) b ⟨r.1,r.2.1,r.2.2.1,r.2.2.2⟩) (.ite (fun _=>?_) (fun _=>.of ht2)) ?_
   ·rw [sOp,bs]
    exact .of ((V6k (i:=0) (by omega)).mono hb1)
   ·rintro ⟨a1,a2,a3,a4⟩ ha
    simp only at ha ⊢
    rw [Ksr (by omega)]
    exact ih (i + 1) c2 a1 a2 a3 a4 (by omega) h2 ha
 rw [Khb.eq_def]
 simp only
 have i0:idx ((3 + (g:Int)) :: (p ++ q)) 0=some (3 + (g:Int)):=rfl
 rw [P.p0,bs,P.p1,bs,i0,bs,V3b g hg15,bs,V00 ctx [p] (by simp; omega),bs]
 refine Gv.bind (H c h) ?_
 rintro ⟨⟨x1,x2,x3,x4⟩,c1⟩ ⟨ht,h1⟩
 simp only at ht h1 ⊢
 refine Gv.bind (loop 3 0 c1 x1 x2 x3 x4 rfl h1 ht) ?_
 rintro ⟨a1,a2,a3,a4,a5,a6,a7⟩ ⟨q1,q2⟩
 exact .of ⟨V72 hs hg P.ya q1,q2⟩
theorem V75 {deep:Int} {f:List Int→Nat} {B:Nat} {ctx:List (List Int)} {ty:List Int} (hd:-900 ≤ deep∧deep ≤ 100) (hc:V6i s ctx) (hl:ctx.length ≤ 900) (hty:TyS s ty)
  (hB:1 ≤ B) (hf1:∀ q,1 ≤ q.length→1 ≤ f q) (hf:∀ q,f q ≤ 300000) (hB2:∀ a b:List Int,a.length + b.length + 1=ty.length→1 + f a + f b ≤ B) (hB1:∀ a:List Int,a.length < ty.length→1 + f a ≤ B) (hBa:0 < deep→1 + f ty + f ty ≤ B)
  (H:∀ c ctx' ty',V3p c→V6i s ctx'→ctx'.length ≤ ctx.length + 1→(ctx'.length=ctx.length∨ty'.length + 2 ≤ ty.length)→TyS s ty'→(ty'.length < ty.length∨0 < deep∧ty'=ty)→Gv (Kha (c,s,ctx',ty',wr (deep - 1))) (Dr s ctx'.length (f ty')))
  (HA:0 < deep→∀ c,V3p c→Gv (Khd (c,s,ctx,ty,wr (deep - 1))) (Dr s ctx.length B)) (c:K02) (h:V3p c):Gv (Kha (c,s,ctx,ty,deep)) (Dr s ctx.length B):=by
 have htl:=V0o hty
 rw [Kha.eq_def]
 simp only
 refine Gv.bind (V3w h 5) ?_
 rintro ⟨x,c1⟩ ⟨hx,h1⟩
 simp only at hx h1 ⊢
 refine Gv.bind (Q:=fun fl:(List Int × Int × Int) ⊕ (K01 × K02)=>match fl with | .inl r=>V3p ⟨r.1,r.2.1,r.2.2⟩ | .inr r=>Dr s ctx.length B r) (.ite (fun _=>?_) (fun _=>.of h1)) ?_
 ·refine Gv.bind (V3w h1 _) ?_
  rintro ⟨y,c2⟩ ⟨hy,h2⟩
  simp only at hy h2 ⊢
  by_cases h0:ctx.length=0
  ·have e:Kh2 (c,s,ctx,ty,deep,y,c2,0)=some (.inl ()):=by
    rw [Kh2.eq_def]
    simp only
    rw [decide_eq_false (by omega),if_neg (by decide)]
   rw [e,bs]
   exact .of h2
  ·have l0:=V73 (s:=s) (c0:=c) h2 (ctx:=ctx) (ty:=ty) (deep:=deep) (by omega) (by omega) (hy.1 (by omega)) (fun q hq=>by have:=V0o (hc q hq); omega) ctx.length 0 (by omega)
   rw [show ((0:Nat):Int)=0 from rfl] at l0
   refine Gv.bind l0 ?_
   rintro (u | r) hr
   ·exact .of h2
   ·exact .of ⟨hr.1.mono hB,hr.2⟩
 rintro (⟨a1,a2,a3⟩ | r) q
 rotate_left
 ·exact .of q
 simp only at q ⊢
 refine Gv.bind (Q:=fun r:List Int × Int × Int × Bool=>V3p ⟨r.1,r.2.1,r.2.2.1⟩∧(r.2.2.2=true→0 < deep)) (.ite (fun hb=>?_) (fun _=>.of ⟨q,fun h=>by cases h⟩)) ?_
 ·have hb:=of_decide_eq_true hb
  exact Gv.bind (V3x q 3) (by rintro ⟨v,c2⟩ h2; exact .of ⟨h2,fun _=>hb⟩)
 rintro ⟨b1,b2,b3,v⟩ ⟨h3,hv⟩
 simp only at h3 hv ⊢
 refine .ite (fun hvt=>?_) (fun _=>?_)
 ·refine Gv.bind (HA (hv hvt) _ h3) ?_
  rintro ⟨t,c4⟩ ht
  exact .of ht
 obtain ⟨c0,t0,rfl⟩:∃ c0 t0,ty=c0 :: t0:=by
  cases ty with
  | nil=>have:=V6g hty; simp at this
  | cons c0 t0=>exact ⟨c0,t0,rfl⟩
 rw [show idx (c0 :: t0) 0=some c0 from rfl,bs]
 have add:Gv ((if (c0 == 0)=true then if decide (deep > 0)=true then Kac (⟨b1,b2,b3⟩,2) >>= fun (r:Bool × K02)=>some (r.2.fb,r.2.fi,r.2.fh,r.1) else some (b1,b2,b3,false) else some (b1,b2,b3,false)):Option (List Int × Int × Int × Bool)) (fun r=>V3p ⟨r.1,r.2.1,r.2.2.1⟩∧(r.2.2.2=true→0 < deep)):=by
  refine .ite (fun _=>.ite (fun hb=>?_) (fun _=>.of ⟨h3,fun h=>by cases h⟩)) (fun _=>.of ⟨h3,fun h=>by cases h⟩)
  have hb:=of_decide_eq_true hb
  exact Gv.bind (V3x h3 2) (by rintro ⟨v,c2⟩ h2; exact .of ⟨h2,fun _=>hb⟩)
 refine Gv.bind add ?_
 rintro ⟨d1,d2,d3,w⟩ ⟨h4,hw⟩
 simp only at h4 hw ⊢
 refine .ite (fun hwt=>?_) (fun _=>?_)
 ·have hp:=hw hwt
  refine Gv.bind (H _ ctx _ h4 hc (by omega) (.inl rfl) hty (.inr ⟨hp,rfl⟩)) ?_
  rintro ⟨t1,e1⟩ ⟨ht1,k1⟩
  simp only at ht1 k1 ⊢
  refine Gv.bind (H _ ctx _ k1 hc (by omega) (.inl rfl) hty (.inr ⟨hp,rfl⟩)) ?_
  rintro ⟨t2,e2⟩ ⟨ht2,k2⟩
  simp only at ht2 k2 ⊢
  rw [sOp,bs]
  exact .of ⟨(V6m (.inl rfl) ht1 ht2).mono (hBa hp),k2⟩
 rcases V0x hs hty with e | ⟨a,b,e,P⟩ | ⟨a,b,e,P⟩ | ⟨g,a,b,hg,h15,e,P⟩ | ⟨g,a,hg,h15,e,P⟩
 ·cases e
  rw [if_pos (by decide)]
  refine Gv.bind (V3w h4 3) ?_
  rintro ⟨y,c2⟩ ⟨hy,h2⟩
  simp only at hy h2 ⊢
  rw [sOp,bs]
  exact .of ⟨(V6l (hy.1 (by decide))).mono hB,h2⟩
 ·have hlen:a.length + b.length + 1=(c0 :: t0).length:=by rw [e]; simp
  have la:a.length < (c0 :: t0).length:=by omega
  have lb:b.length < (c0 :: t0).length:=by omega
  cases e
  rw [if_neg (by decide),if_pos (by decide),P.p0,bs]
  refine Gv.bind (H _ ctx _ h4 hc (by omega) (.inl rfl) P.ya (.inl la)) ?_
  rintro ⟨t1,e1⟩ ⟨ht1,k1⟩
  simp only at ht1 k1 ⊢
  rw [P.p1,bs]
  refine Gv.bind (H _ ctx _ k1 hc (by omega) (.inl rfl) P.yb (.inl lb)) ?_
  rintro ⟨t2,e2⟩ ⟨ht2,k2⟩
  simp only at ht2 k2 ⊢
  rw [sOp,bs]
  exact .of ⟨(V6m (.inr (.inl rfl)) ht1 ht2).mono (hB2 a b hlen),k2⟩
 ·have hlen:a.length + b.length + 1=(c0 :: t0).length:=by rw [e]; simp
  have la:a.length < (c0 :: t0).length:=by omega
  have lb:b.length < (c0 :: t0).length:=by omega
  cases e
  rw [if_neg (by decide),if_neg (by decide)]
  refine Gv.bind (Q:=fun r:List Int × Int × Int × Bool=>V3p ⟨r.1,r.2.1,r.2.2.1⟩) (.ite (fun _=>?_) (fun _=>.of h4)) ?_
  ·exact Gv.bind (V3x h4 2) (by rintro ⟨v,c2⟩ h2; exact .of h2)
  rintro ⟨f1,f2,f3,z⟩ h5
  simp only at h5 ⊢
  refine .ite (fun _=>?_) (fun _=>?_)
  ·rw [P.p1,bs,P.p0,bs]
   refine Gv.bind (H _ ctx _ h5 hc (by omega) (.inl rfl) P.ya (.inl la)) ?_
   rintro ⟨t1,e1⟩ ⟨ht1,k1⟩
   simp only at ht1 k1 ⊢
   exact .of ⟨(V6o (.inl rfl) P.yb ht1).mono (hB1 a la),k1⟩
  ·rw [if_pos (by decide),P.p0,bs,P.p1,bs]
   refine Gv.bind (H _ ctx _ h5 hc (by omega) (.inl rfl) P.yb (.inl lb)) ?_
   rintro ⟨t1,e1⟩ ⟨ht1,k1⟩
   simp only at ht1 k1 ⊢
   exact .of ⟨(V6o (.inr rfl) P.ya ht1).mono (hB1 b lb),k1⟩
 ·have hlen:a.length + b.length + 1=(c0 :: t0).length:=by rw [e]; simp
  have hal:=V6g P.ya
  have lb:b.length < (c0 :: t0).length:=by omega
  have lb2:b.length + 2 ≤ (c0 :: t0).length:=by omega
  cases e
  have hbx:Kei (3 + (g:Int))=some false:=by rw [Ku1,V39 g h15]
  rw [if_neg (by simp; omega),if_neg (by simp; omega),if_neg (by simp; omega),bs]
  simp only
  rw [if_neg (by decide),if_neg (by simp; omega),hbx,bs,if_neg (by decide)]
  have F:=V74 hs hg P h15 hc hl (b:=f b) (hf b) (hf1 b (V6g P.yb)) hd (fun c hcc=>H c (a :: ctx) b hcc (V6j hc P.ya) (by simp) (.inr lb2) P.yb (.inl lb)) _ h4
  refine Gv.bind F ?_
  rintro ⟨t1,e1⟩ ⟨ht1,k1⟩
  exact .of ⟨ht1.mono (hB1 b lb),k1⟩
 ·have hlen:a.length + 1=(c0 :: t0).length:=by rw [e]; simp
  have la:a.length < (c0 :: t0).length:=by omega
  cases e
  have hbx:Kei (19 + (g:Int))=some true:=by rw [Ku1,V3a g h15]
  rw [if_neg (by simp; omega),if_neg (by simp; omega),if_neg (by simp; omega),bs]
  simp only
  rw [if_neg (by decide),if_neg (by simp; omega),hbx,bs,if_pos rfl,V3c g h15,bs,P.p0,bs]
  refine Gv.bind (H _ ctx _ h4 hc (by omega) (.inl rfl) P.ya (.inl la)) ?_
  rintro ⟨t1,e1⟩ ⟨ht1,k1⟩
  simp only at ht1 k1 ⊢
  rw [sOp,bs]
  exact .of ⟨(V71 hs hg ht1).mono (hB1 _ la),k1⟩
end
mutual
theorem V76 {g g':Int→Bool} {y y':List Int→Bool} (hg:∀ x,g x=true→g' x=true) (hy:∀ q,y q=true→y' q=true):∀ (t:K01) (n:Nat),tOk g y n t=true→tOk g' y' n t=true
 | ⟨op,N,ty,ks⟩,n,h=>by
  rw [Kyd,Bool.and_eq_true] at h ⊢
  refine ⟨?_,V77 hg hy ks op n 0 h.2⟩
  have h1:=h.1
  unfold Kvg Kve Kvf at h1 ⊢
  simp only [Bool.and_eq_true] at h1 ⊢
  refine ⟨⟨h1.1.1,?_⟩,?_⟩
  ·have h2:=h1.1.2
   split at h2
   ·rename_i q; rw [if_pos q]; exact h2
   ·rename_i q
    rw [if_neg q]
    split at h2
    ·rename_i q2; rw [if_pos q2]; exact h2
    ·rename_i q2
     rw [if_neg q2]
     split at h2
     ·rename_i q3; rw [if_pos q3]; exact hg _ h2
     ·rename_i q3; rw [if_neg q3]; exact h2
  ·have h2:=h1.2
   split at h2
   ·rename_i q; rw [if_pos q]; exact hy _ h2
   ·rename_i q; rw [if_neg q]; exact h2
theorem V77 {g g':Int→Bool} {y y':List Int→Bool} (hg:∀ x,g x=true→g' x=true) (hy:∀ q,y q=true→y' q=true):∀ (ks:List K01) (op:Int) (n i:Nat),Kvh g y op n i ks=true→Kvh g' y' op n i ks=true
 | [],op,n,i,_=>by rw [Kvh]
 | k :: ks,op,n,i,h=>by
  rw [Kye,Bool.and_eq_true] at h ⊢
  exact ⟨V76 hg hy k _ h.1,V77 hg hy ks op n (i + 1) h.2⟩
end
theorem V6h.tms {s:K00} {m b:Nat} {t:K01} (h:V6h s m b t):tms t ≤ 43 * b:=by
 have h1:=V76 (g':=gN s.fSize true) (y':=wtB) (fun _ h=>h) (fun q hq=>by unfold yN at hq; rw [Bool.and_eq_true] at hq; exact hq.1) t m h.1
 have:=(Kyr t m h1).1
 have:=h.2
 omega
theorem V78 {s:K00} {m b:Nat} {t:K01} (h:V6h s m b t) (hm:m ≤ 1000) (hb:b ≤ 100000):∃ u,Kgr (t,1,0)=some u∧V6h s (m + 1) b u:=by
 have h2:=h.2
 have h3:=h.tms
 refine ⟨shf ((1:Nat):Int) 0 t,?_,?_,?_⟩
 ·exact Kxd 1 1000000 (by decide) (by decide) t 0 (Kxf (by omega) t (Kxh _ _ t m h.1)) (by omega) (by decide) (by omega)
 ·exact Kyp _ _ 1 t m 0 h.1
 ·rw [Kyl]; exact h.2
def V79 (s:K00) (D b:Nat):Prop:=∀ (deep:Int) (ctx:List (List Int)) (ty:List Int),deep ≤ D→-500 ≤ deep→ty.length ≤ 7→V6i s ctx→ctx.length + 20 * D + 7 ≤ 500→TyS s ty→∀ c,V3p c→Gv (Kha (c,s,ctx,ty,deep)) (Dr s ctx.length b)
section
variable {s:K00} {n:Nat} (hs:Kz2 s n)
include hs
theorem V7a:∀ (L:Nat) (deep:Int) (ctx:List (List Int)) (ty:List Int),ty.length ≤ L→L ≤ 40→deep ≤ 0→-900 + (ty.length:Int) ≤ deep→V6i s ctx→ctx.length + ty.length ≤ 900→TyS s ty→∀ c,V3p c→Gv (Kha (c,s,ctx,ty,deep)) (Dr s ctx.length ty.length):=by
 intro L
 induction L with
 | zero =>
  intro deep ctx ty h1 _ _ _ _ _ ht
  have:=V6g ht
  omega
 | succ L ih =>
  intro deep ctx ty h1 hL hd0 hd hc hl ht c h
  have htp:=V6g ht
  refine V75 hs (f:=fun q=>min q.length 300000) (B:=ty.length) (by omega) hc (by omega) ht htp (fun q hq=>by omega) (fun q=>by omega) (fun a b hab=>by omega) (fun a ha=>by omega) (fun h=>absurd h (by omega)) (fun c' ctx' ty' hc' hcx hlx hor hty' hlt=>?_) (fun h=>absurd h (by omega)) c h
  have hty:ty'.length < ty.length:=by
   rcases hlt with h | h
   ·exact h
   ·omega
  rw [Ksp (by omega) (by omega)]
  have:=ih (deep - 1) ctx' ty' (by omega) (by omega) (by omega) (by omega) hcx (by omega) hty' c' hc'
  refine this.mono (fun r hr=>⟨hr.1.mono ?_,hr.2⟩)
  have:=V0o hty'
  omega
theorem V7b:V79 s 0 7:=fun deep ctx ty h1 h2 h3 h4 h5 h6 c h =>
 (V7a hs 7 deep ctx ty h3 (by decide) (by omega) (by omega) h4 (by omega) h6 c h).mono (fun r hr=>⟨hr.1.mono h3,hr.2⟩)
theorem V7c {c:K02} (h:V3p c) (data:Bool):Gv (Kdv (c,s,1,data)) (fun r=>(TyS s r.1∧r.1.length ≤ 3)∧V3p r.2) :=
 (V6r hs 1 c data (by decide) h).mono (fun r hr=>⟨⟨hr.1.1,by have:=hr.1.2; omega⟩,hr.2⟩)
theorem V7d {c:K02} (h:V3p c) (data:Bool):Gv (Kdv (c,s,2,data)) (fun r=>(TyS s r.1∧r.1.length ≤ 7)∧V3p r.2) :=
 (V6r hs 2 c data (by decide) h).mono (fun r hr=>⟨⟨hr.1.1,by have:=hr.1.2; omega⟩,hr.2⟩)
theorem V7e {D b:Nat} (IH:V79 s D b) (hb1:7 ≤ b) (hb:b ≤ 90000) {deep:Int} (hd:0 ≤ deep∧deep ≤ D) (hD:D ≤ 10) {ctx:List (List Int)} {ty:List Int} (hc:V6i s ctx) (hl:ctx.length + 2 + 20 * D + 7 ≤ 500) (ht:TyS s ty) (htl:ty.length ≤ 7) (c:K02) (h:V3p c) :
  Gv (Khd (c,s,ctx,ty,deep)) (Dr s ctx.length (5 + 3 * b)):=by
 have h1n:1 < n:=hs.tab.lo
 have hn16:=hs.tab.hi
 rw [Khd.eq_def]
 simp only
 refine Gv.bind (V3w h 6) ?_
 rintro ⟨x,c0⟩ ⟨hx,h0⟩
 simp only at hx h0 ⊢
 refine .ite (fun _=>?_) (fun _=>.ite (fun _=>?_) (fun _=>.ite (fun _=>?_) (fun _=>.ite (fun _=>?_) (fun _=>?_))))
 ·refine Gv.bind (IH deep ctx [0] hd.2 (by omega) (by decide) hc (by omega) V0u _ h0) ?_
  rintro ⟨t1,c1⟩ ⟨k1,h1⟩
  simp only at k1 h1 ⊢
  refine Gv.bind (IH deep ctx ty hd.2 (by omega) htl hc (by omega) ht _ h1) ?_
  rintro ⟨t2,c2⟩ ⟨k2,h2⟩
  simp only at k2 h2 ⊢
  refine Gv.bind (IH deep ctx ty hd.2 (by omega) htl hc (by omega) ht _ h2) ?_
  rintro ⟨t3,c3⟩ ⟨k3,h3⟩
  simp only at k3 h3 ⊢
  rw [sOp,bs]
  exact .of ⟨(V6n k1 k2 k3).mono (by omega),h3⟩
 ·refine Gv.bind (V3x h0 2) ?_
  rintro ⟨v,c1⟩ h1
  simp only at h1 ⊢
  refine Gv.bind (V7c hs h1 v) ?_
  rintro ⟨a,c2⟩ ⟨⟨ta,la⟩,h2⟩
  simp only at ta la h2 ⊢
  refine Gv.bind (V7c hs h2 true) ?_
  rintro ⟨e,c3⟩ ⟨⟨te,le_⟩,h3⟩
  simp only at te le_ h3 ⊢
  have hc':V6i s (e :: a :: ctx):=V6j (V6j hc ta) te
  rw [V00 ctx [e,a] (by simp; omega),bs]
  refine Gv.bind (IH deep (e :: a :: ctx) ty hd.2 (by omega) htl hc' (by simp; omega) ht _ h3) ?_
  rintro ⟨t1,c4⟩ ⟨k1,h4⟩
  simp only at k1 h4 ⊢
  obtain ⟨g0,z0,n0⟩:=V6t hs hc' (by simp; omega) (by omega) (t:=t1) (b:=b) (by simpa using k1) 0 (by simp)
  obtain ⟨g1,z1,n1⟩:=V6t hs hc' (by simp; omega) (by omega) (t:=t1) (b:=b) (by simpa using k1) 1 (by simp)
  have n0:Kgd (s,[e,a] ++ ctx,t1,0)=some (g0:Int):=n0
  have n1:Kgd (s,[e,a] ++ ctx,t1,1)=some (g1:Int):=n1
  obtain ⟨g2,z2,n2⟩:=V6u hs z0 z1
  obtain ⟨g3,z3,n3⟩:=V6u hs h1n z2
  rw [n0,bs,n1,bs,n2,bs,show (1:Int)=((1:Nat):Int) from rfl,n3,bs]
  refine Gv.bind (V6w hs h4 z3) ?_
  rintro ⟨q,c5⟩ ⟨⟨g4,z4,rfl⟩,h5⟩
  simp only at h5 ⊢
  rw [show ((1:Nat):Int)=1 from rfl,V69 _ _ _ (by omega),bs]
  refine Gv.bind (IH deep ctx (1 :: (a ++ e)) hd.2 (by omega) (by simp; omega) hc (by omega) (V6c rfl V6e ta te (by omega)) _ h5) ?_
  rintro ⟨t2,c6⟩ ⟨k2,h6⟩
  simp only at k2 h6 ⊢
  rw [sOp,bs]
  exact .of ⟨(V6y hs z4 k2 (by simpa using k1)).mono (by omega),h6⟩
 ·refine Gv.bind (V7c hs h0 true) ?_
  rintro ⟨a,c2⟩ ⟨⟨ta,la⟩,h2⟩
  simp only at ta la h2 ⊢
  refine Gv.bind (V7c hs h2 true) ?_
  rintro ⟨e,c3⟩ ⟨⟨te,le_⟩,h3⟩
  simp only at te le_ h3 ⊢
  have hca:V6i s (a :: ctx):=V6j hc ta
  have hce:V6i s (e :: ctx):=V6j hc te
  rw [V00 ctx [a] (by simp; omega),bs,V00 ctx [e] (by simp; omega),bs]
  refine Gv.bind (IH deep (a :: ctx) ty hd.2 (by omega) htl hca (by simp; omega) ht _ h3) ?_
  rintro ⟨t1,c4⟩ ⟨k1,h4⟩
  simp only at k1 h4 ⊢
  refine Gv.bind (IH deep (e :: ctx) ty hd.2 (by omega) htl hce (by simp; omega) ht _ h4) ?_
  rintro ⟨t2,c5⟩ ⟨k2,h5⟩
  simp only at k2 h5 ⊢
  obtain ⟨g0,z0,n0⟩:=V6t hs hca (by simp; omega) (by omega) (t:=t1) (b:=b) (by simpa using k1) 0 (by simp)
  obtain ⟨g1,z1,n1⟩:=V6t hs hce (by simp; omega) (by omega) (t:=t2) (b:=b) (by simpa using k2) 0 (by simp)
  have n0:Kgd (s,[a] ++ ctx,t1,0)=some (g0:Int):=n0
  have n1:Kgd (s,[e] ++ ctx,t2,0)=some (g1:Int):=n1
  obtain ⟨g2,z2,n2⟩:=V6u hs z0 z1
  obtain ⟨g3,z3,n3⟩:=V6u hs h1n z2
  rw [n0,bs,n1,bs,n2,bs,show (1:Int)=((1:Nat):Int) from rfl,n3,bs]
  refine Gv.bind (V6w hs h5 z3) ?_
  rintro ⟨q,c6⟩ ⟨⟨g4,z4,rfl⟩,h6⟩
  simp only at h6 ⊢
  rw [V69 _ _ _ (by omega),bs]
  refine Gv.bind (IH deep ctx (2 :: (a ++ e)) hd.2 (by omega) (by simp; omega) hc (by omega) (V6c rfl V6f ta te (by omega)) _ h6) ?_
  rintro ⟨t3,c7⟩ ⟨k3,h7⟩
  simp only at k3 h7 ⊢
  rw [sOp,bs]
  exact .of ⟨(V6z hs z4 k3 (by simpa using k1) (by simpa using k2)).mono (by omega),h7⟩
 ·refine Gv.bind (V3x h0 2) ?_
  rintro ⟨v,c1⟩ h1
  simp only at h1 ⊢
  refine Gv.bind (V7c hs h1 v) ?_
  rintro ⟨a,c2⟩ ⟨⟨ta,la⟩,h2⟩
  simp only at ta la h2 ⊢
  have hca:V6i s (a :: ctx):=V6j hc ta
  rw [V00 ctx [a] (by simp; omega),bs]
  refine Gv.bind (IH deep (a :: ctx) ty hd.2 (by omega) htl hca (by simp; omega) ht _ h2) ?_
  rintro ⟨t1,c4⟩ ⟨k1,h4⟩
  simp only at k1 h4 ⊢
  obtain ⟨g0,z0,n0⟩:=V6t hs hca (by simp; omega) (by omega) (t:=t1) (b:=b) (by simpa using k1) 0 (by simp)
  have n0:Kgd (s,[a] ++ ctx,t1,0)=some (g0:Int):=n0
  rw [n0,bs]
  refine Gv.bind (V6w hs h4 z0) ?_
  rintro ⟨q,c6⟩ ⟨⟨g4,z4,rfl⟩,h6⟩
  simp only at h6 ⊢
  obtain ⟨k19,l19⟩:=V6q hs z4
  rw [Ksp (by omega) (by omega),V68 _ _ (by omega),bs]
  refine Gv.bind (IH deep ctx ((19 + (g4:Int)) :: a) hd.2 (by omega) (by simp; omega) hc (by omega) (V6d k19 l19 ta (by omega)) _ h6) ?_
  rintro ⟨t2,c7⟩ ⟨k2,h7⟩
  simp only at k2 h7 ⊢
  rw [sOp,bs]
  exact .of ⟨(V70 hs h1n k2 (by simpa using k1)).mono (by omega),h7⟩
 ·refine Gv.bind (V3x h0 2) ?_
  rintro ⟨v,c1⟩ h1
  simp only at h1 ⊢
  refine Gv.bind (V7d hs h1 v) ?_
  rintro ⟨a,c2⟩ ⟨⟨ta,la⟩,h2⟩
  simp only at ta la h2 ⊢
  have hca:V6i s (a :: ctx):=V6j hc ta
  rw [V00 ctx [a] (by simp; omega),bs]
  refine Gv.bind (IH deep (a :: ctx) ty hd.2 (by omega) htl hca (by simp; omega) ht _ h2) ?_
  rintro ⟨t1,c4⟩ ⟨k1,h4⟩
  simp only at k1 h4 ⊢
  obtain ⟨g0,z0,n0⟩:=V6t hs hca (by simp; omega) (by omega) (t:=t1) (b:=b) (by simpa using k1) 0 (by simp)
  have n0:Kgd (s,[a] ++ ctx,t1,0)=some (g0:Int):=n0
  rw [n0,bs]
  refine Gv.bind (V6w hs h4 z0) ?_
  rintro ⟨q,c6⟩ ⟨⟨g4,z4,rfl⟩,h6⟩
  simp only at h6 ⊢
  obtain ⟨k3,l3⟩:=V6p hs z4
  refine Gv.bind (V3x h6 4) ?_
  rintro ⟨w,c7⟩ h7
  simp only at h7 ⊢
  have arg:=IH (deep - 1) ctx a (by omega) (by omega) la hc (by omega) ta c7 h7
  have ew:wr (deep - 1)=deep - 1:=Ksp (by omega) (by omega)
  have kf:=V72 hs z4 ta (b1:=b) (by simpa using k1)
  refine Gv.bind (Q:=fun fl:Unit ⊕ (K01 × K02)=>match fl with | .inl _=>True | .inr r=>Dr s ctx.length (5 + 3 * b) r) (.ite (fun _=>?_) (fun _=>.of trivial)) ?_
  ·rw [Ksp (by omega) (by omega),V69 _ _ _ (by omega),bs]
   refine .ite (fun hlt=>?_) (fun _=>.of trivial)
   have hlt:=of_decide_eq_true hlt
   rw [sOp,bs,ew]
   refine Gv.bind arg ?_
   rintro ⟨t2,c8⟩ ⟨k2,h8⟩
   simp only at k2 h8 ⊢
   obtain ⟨u,e1,e2⟩:=V78 k2 (by omega) (by omega)
   rw [e1,bs,sOp,bs,sOp,bs]
   have kc:=V6m (.inr (.inr rfl)) (V6k (s:=s) (m:=ctx.length + 1) (i:=0) (by omega)) e2
   have kg:=V72 hs h1n (V6c k3 l3 ta ht (by simp at hlt; omega)) kc
   exact .of ⟨(V6m (.inr (.inr rfl)) kg kf).mono (by omega),h8⟩
  ·rintro (u | r) q
   ·rw [ew]
    refine Gv.bind arg ?_
    rintro ⟨t2,c8⟩ ⟨k2,h8⟩
    simp only at k2 h8 ⊢
    rw [sOp,bs]
    exact .of ⟨(V6m (.inr (.inr rfl)) kf k2).mono (by omega),h8⟩
   ·exact .of q
theorem V7f {D b:Nat} (IH:V79 s D b) (hb1:7 ≤ b) (hb:b ≤ 90000) (hD:D ≤ 10):V79 s (D + 1) (5 + 3 * b):=by
 intro deep ctx ty h1 h2 h3 hc hl ht c h
 by_cases hd:deep ≤ D
 ·exact (IH deep ctx ty hd h2 h3 hc (by omega) ht c h).mono (fun r hr=>⟨hr.1.mono (by omega),hr.2⟩)
 have hdw:wr (deep - 1)=deep - 1:=Ksp (by omega) (by omega)
 refine V75 hs (f:=fun _=>b) (B:=5 + 3 * b) (by omega) hc (by omega) ht (by omega) (fun _ _=>by omega) (fun _=>by omega) (fun _ _ _=>by omega) (fun _ _=>by omega) (fun _=>by omega) (fun c' ctx' ty' hc' hcx hlx hor hty' hlt=>?_) (fun _ c' hc'=>?_) c h
 ·rw [hdw]
  refine IH (deep - 1) ctx' ty' (by omega) (by omega) ?_ hcx (by omega) hty' c' hc'
  rcases hlt with q | ⟨_,rfl⟩
  ·omega
  ·exact h3
 ·rw [hdw]
  exact V7e hs IH hb1 hb (by omega) hD hc (by omega) ht h3 c' hc'
theorem V7g:V79 s 4 767:=V7f hs (V7f hs (V7f hs (V7f hs (V7b hs) (by decide) (by decide) (by decide)) (by decide) (by decide) (by decide)) (by decide) (by decide) (by decide)) (by decide) (by decide) (by decide)
end
def V7h (s:K00) (m:Nat) (ctx:List (List Int)):Prop:=V6i s ctx∧ctx.length ≤ m∧∀ q ∈ ctx,q.length ≤ 7
section
variable {s:K00} {n:Nat} (hs:Kz2 s n)
include hs
theorem V7i (data:Bool):∀ (k m:Nat) (c:K02) (out:List (List Int)),V3p c→V7h s m out→m + k ≤ 1000→Gv (Kdz (s,data,c.fb,c.fi,c.fh,out,(k:Int))) (fun r=>V7h s (m + k) r.1∧V3p ⟨r.2.1,r.2.2.1,r.2.2.2⟩):=by
 intro k
 induction k with
 | zero =>
  intro m c out h ho hm
  rw [Kdz.eq_def]
  simp only
  rw [decide_eq_false (by omega),if_neg (by decide)]
  exact .of ⟨ho,h⟩
 | succ k ih =>
  intro m c out h ho hm
  have hl:=ho.2.1
  rw [Kdz.eq_def]
  simp only
  rw [decide_eq_true (by omega),if_pos rfl]
  refine Gv.bind (V7d hs h data) ?_
  rintro ⟨a,c1⟩ ⟨⟨ta,la⟩,h1⟩
  simp only at ta la h1 ⊢
  rw [Kvt (by simp; omega),bs,show wr (((k + 1:Nat):Int) - 1)=(k:Int) from by rw [Ksp (by omega) (by omega)]; omega]
  have:=ih (m + 1) c1 (out ++ [a]) h1 ⟨fun q hq=>by
   rcases List.mem_append.1 hq with hq | hq
   ·exact ho.1 q hq
   ·rw [List.mem_singleton.1 hq]; exact ta,by simp; omega,fun q hq=>by
   rcases List.mem_append.1 hq with hq | hq
   ·exact ho.2.2 q hq
   ·rw [List.mem_singleton.1 hq]; exact la⟩ (by omega)
  rw [show m + 1 + k=m + (k + 1) by omega] at this
  exact this
theorem V7j {c:K02} (h:V3p c) (most:Nat) (hm:most ≤ 10) (data:Bool):Gv (Ke2 (c,s,(most:Int),data)) (fun r=>V7h s most r.1∧V3p r.2):=by
 unfold Ke2
 simp only
 rw [Ksr (by omega)]
 refine Gv.bind (V3w h _) ?_
 rintro ⟨x,c1⟩ ⟨hx,h1⟩
 simp only at hx h1 ⊢
 have hx:=hx.1 (by omega)
 obtain ⟨k,rfl⟩:∃ k:Nat,x=(k:Int):=⟨x.toNat,by omega⟩
 have ho:V7h s 0 []:=⟨fun q hq=>(by cases hq),Nat.le_refl _,fun q hq=>(by cases hq)⟩
 refine Gv.bind (V7i hs data k 0 c1 [] h1 ho (by omega)) ?_
 rintro ⟨a,b,d,e⟩ ⟨q1,q2⟩
 have l1:=q1.2.1
 simp only at l1
 exact .of ⟨⟨q1.1,by simp only; omega,q1.2.2⟩,q2⟩
theorem V7k {c:K02} (h:V3p c) {ctx:List (List Int)} (hc:V6i s ctx) (hl:ctx.length ≤ 100) {deep:Nat} (hd:deep ≤ 4) (data:Bool):Gv (Khz (c,s,ctx,(deep:Int),data)) (Dr s ctx.length 767):=by
 have A:=V7g hs
 have loop:∀ (k i:Nat) (c0 c:K02) (u1 u2:Int) (u3:List Int) (u4:List K01),i + k=3→V3p c→V6h s ctx.length 767 ⟨u1,u2,u3,u4⟩ →
   Gv (Khw (c0,s,ctx,(deep:Int),data,c.fb,c.fi,c.fh,u1,u2,u3,u4,(i:Int))) (fun fl=>match fl with | .inl r=>V6h s ctx.length 767 ⟨r.1,r.2.1,r.2.2.1,r.2.2.2.1⟩∧V3p ⟨r.2.2.2.2.1,r.2.2.2.2.2.1,r.2.2.2.2.2.2⟩ | .inr r=>Dr s ctx.length 767 r):=by
  intro k
  induction k with
  | zero =>
   intro i c0 c u1 u2 u3 u4 hi h ht
   rw [Khw.eq_def]
   simp only
   rw [decide_eq_false (by omega),if_neg (by decide)]
   exact .of ⟨ht,h⟩
  | succ k ih =>
   intro i c0 c u1 u2 u3 u4 hi h ht
   have htm:=ht.tms
   rw [Khw.eq_def]
   simp only
   rw [decide_eq_true (by omega),if_pos rfl]
   refine Gv.bind (Q:=fun _=>True) ?_ (fun v _=>?_)
   ·rw [show (120:Int)=((120:Nat):Int) from rfl,Kuy _ 120 (by omega) (by decide),bs]
    refine .ite (fun _=>?_) (fun _=>.of trivial)
    obtain ⟨x,e,_⟩:=V6s hs hc (by omega) (by decide) ht
    rw [e,bs]
    exact .of trivial
   refine .ite (fun _=>.of ⟨ht,h⟩) (fun _=>?_)
   refine Gv.bind (V7c hs h data) ?_
   rintro ⟨a,c1⟩ ⟨⟨ta,la⟩,h1⟩
   simp only at ta la h1 ⊢
   rw [show (2:Int)=((2:Nat):Int) from rfl,Kx3,bs]
   refine Gv.bind (A ((min deep 2:Nat):Int) ctx a (by omega) (by omega) (by omega) hc (by omega) ta c1 h1) ?_
   rintro ⟨⟨x1,x2,x3,x4⟩,c2⟩ ⟨ht2,h2⟩
   simp only at ht2 h2 ⊢
   rw [Ksr (by omega)]
   exact ih (i + 1) c0 c2 x1 x2 x3 x4 (by omega) h2 ht2
 unfold Khz
 simp only
 refine Gv.bind (V7d hs h data) ?_
 rintro ⟨a,c1⟩ ⟨⟨ta,la⟩,h1⟩
 simp only at ta la h1 ⊢
 refine Gv.bind (A (deep:Int) ctx a (by omega) (by omega) la hc (by omega) ta c1 h1) ?_
 rintro ⟨⟨x1,x2,x3,x4⟩,c2⟩ ⟨ht2,h2⟩
 simp only at ht2 h2 ⊢
 have L:=loop 3 0 c c2 x1 x2 x3 x4 rfl h2 ht2
 rw [show ((0:Nat):Int)=0 from rfl] at L
 refine Gv.bind L ?_
 rintro (⟨a1,a2,a3,a4,a5,a6,a7⟩ | r) q
 rotate_left
 ·exact .of q
 obtain ⟨q1,q2⟩:=q
 simp only at q1 q2 ⊢
 have htm:=q1.tms
 rw [show (400:Int)=((400:Nat):Int) from rfl,Kuy _ 400 (by omega) (by decide),bs]
 refine Gv.bind (Q:=fun r:Int × Int × List Int × List K01=>V6h s ctx.length 767 ⟨r.1,r.2.1,r.2.2.1,r.2.2.2⟩) (.ite (fun _=>?_) (fun _=>.of q1)) ?_
 ·rw [sOp,bs]
  exact .of ((V6l (by decide)).mono (by decide))
 ·rintro ⟨b1,b2,b3,b4⟩ qb
  exact .of ⟨qb,q2⟩
end
theorem V7l {c:K02} (h:V3p c) {deep:Nat} (hd:deep ≤ 4) (most:Nat) (hm:most ≤ 10) (data:Bool):Gv (Ki2 (c,(deep:Int),(most:Int),data)) (fun r=>r.1 ∈ V61∧V7h r.1 most r.2.1∧V6h r.1 r.2.1.length 767 r.2.2.1∧V3p r.2.2.2):=by
 unfold Ki2
 simp only
 refine Gv.bind (V67 h) ?_
 rintro ⟨s,c1⟩ ⟨hsy,h1⟩
 simp only at hsy h1 ⊢
 have hs:=Kz3 (V62 hsy).1
 refine Gv.bind (V7j hs h1 most hm data) ?_
 rintro ⟨ctx,c2⟩ ⟨hc,h2⟩
 simp only at hc h2 ⊢
 refine Gv.bind (V7k hs h2 hc.1 (by have:=hc.2.1; omega) hd data) ?_
 rintro ⟨t,c3⟩ ⟨ht,h3⟩
 exact .of ⟨hsy,hc,ht,h3⟩
theorem V7m {c:K02} (h:V3p c) {deep:Nat} (hd:2 ≤ deep∧deep ≤ 4) (most:Nat) (hm:most ≤ 10) (data:Bool):Gv (Ki2 (c,(deep:Int),(most:Int),data)) (fun r=>r.1 ∈ V61∧V7h r.1 most r.2.1∧V6h r.1 r.2.1.length 767 r.2.2.1∧V3p r.2.2.2):=V7l h hd.2 most hm data
theorem V7n (code:List Int) (hl:code.length ≤ 1048576):∃ d:Nat,(2 ≤ d∧d ≤ 4)∧Ka3 code=some (d:Int):=by
 unfold Ka3
 have h1:code.length / 60 ≤ 1048576:=Nat.le_trans (Nat.div_le_self _ _) hl
 rw [show (60:Int)=((60:Nat):Int) from rfl,V4q]
 generalize code.length / 60=q at *
 rw [Ksp (by omega) (by omega),show (2:Int)=((2:Nat):Int) from rfl,Kx3,bs,← Int.natCast_add,Ksp (by omega) (by omega)]
 exact ⟨2 + min q 2,by omega,rfl⟩
theorem V7h.lms {s:K00} {m:Nat} {ctx:List (List Int)} (h:V7h s m ctx) (hm:m ≤ 10):lms ctx ≤ 100:=by
 have:∀ l:List (List Int),(∀ v ∈ l,v.length ≤ 7)→lct l ≤ l.length * 7:=by
  intro l
  induction l with
  | nil=>intro _; simp [lct]
  | cons x l ih =>
   intro h
   have h1:=ih (fun v hv=>h v (List.mem_cons_of_mem _ hv))
   have h2:=h x List.mem_cons_self
   rw [lct,List.length_cons]
   omega
 have h1:=this ctx h.2.2
 have h2:=h.2.1
 unfold Go.Am.lms
 omega
section
variable {s:K00} {n:Nat} (hs:Kz2 s n)
include hs
theorem le_refl {a:Nat} (ha:a < n):le s n a a=true:=by
 have:=hs.one a ha
 simp only [Kt8,Bool.and_eq_true] at this
 exact this.2
end
theorem le_trans {s:K00} (h:Kw7 s=true) {a b c:Nat} (ha:a < s.fSize.toNat) (hb:b < s.fSize.toNat) (hc:c < s.fSize.toNat) (h1:le s s.fSize.toNat a b=true) (h2:le s s.fSize.toNat b c=true):le s s.fSize.toNat a c=true:=by
 unfold Kw7 at h
 simp only [Bool.and_eq_true] at h
 have hm:=h.2
 unfold Kto at hm
 rw [List.all_eq_true] at hm
 have q:=hm a (by rw [List.mem_range'_1]; omega)
 simp only [Bool.and_eq_true,List.all_eq_true] at q
 have q2:=(q.2 b (by rw [List.mem_range'_1]; omega)).2 c (by rw [List.mem_range'_1]; omega)
 unfold Kt9 at q2
 simp [h1,h2] at q2
 exact q2.2.1.1.1
theorem V7o {s:K00}:∀ (k i n:Nat) (c:K02) (out:List Int),i + k=n→n ≤ 1000→V3p c→out.length=i→Gv (Kju (s,(n:Int),c.fb,c.fi,c.fh,out,(i:Int))) (fun r=>r.1.length=n∧V3p ⟨r.2.1,r.2.2.1,r.2.2.2⟩):=by
 intro k
 induction k with
 | zero =>
  intro i n c out hi _ h ho
  rw [Kju.eq_def]
  simp only
  rw [Kst (by omega),if_neg (by decide)]
  exact .of ⟨by simp only; omega,h⟩
 | succ k ih =>
  intro i n c out hi hn h ho
  rw [Kju.eq_def]
  simp only
  rw [Kss (by omega),if_pos rfl]
  have G:Gv (Kjq (c,s)) (fun r=>V3p r.2):=by
   unfold Kjq
   simp only
   refine Gv.bind (V3x h 30) ?_
   rintro ⟨x,c1⟩ h1
   simp only at h1 ⊢
   refine .ite (fun _=>?_) (fun _=>?_)
   ·refine Gv.bind (V3z h1) ?_
    rintro ⟨y,c2⟩ ⟨_,h2⟩
    exact .of h2
   ·refine Gv.bind (V3w h1 _) ?_
    rintro ⟨y,c2⟩ ⟨_,h2⟩
    exact .of h2
  refine Gv.bind G ?_
  rintro ⟨x,c1⟩ h1
  simp only at h1 ⊢
  rw [Kvt (by simp; omega),bs,Ksr (by omega)]
  exact ih (i + 1) n c1 _ (by omega) hn h1 (by simp [ho])
theorem V7p {s:K00} {c:K02} (h:V3p c) (n:Nat) (hn:n ≤ 1000):Gv (Kjx (c,s,(n:Int))) (fun r=>r.1.length=n∧V3p r.2):=by
 unfold Kjx
 simp only
 refine Gv.bind (V7o n 0 n c [] (by omega) hn h rfl) ?_
 rintro ⟨a,b,d,e⟩ ⟨q1,q2⟩
 exact .of ⟨q1,q2⟩
mutual
theorem V7q (g:Int→Bool) (y:List Int→Bool) (hg:∀ x,g x=true→-9223372036854775808 ≤ x∧x ≤ 9223372036854775807):∀ (t:K01) (n:Nat),tOk g y n t=true→n + 2 * tms t ≤ 9223372036854775807→tln t
 | ⟨op,N,ty,ks⟩,n,h,hb=>by
  rw [Kyd,Bool.and_eq_true] at h
  rw [tms] at hb
  rw [tln]
  refine ⟨by omega,by omega,V7r g y hg ks op n 0 h.2 (by omega),?_⟩
  have h1:=h.1
  unfold Kvg Kve at h1
  simp only [Bool.and_eq_true] at h1
  have h2:=h1.1.2
  split at h2
  ·simp only [inB,Bool.and_eq_true,decide_eq_true_eq] at h2; omega
  ·split at h2
   ·simp only [inB,Bool.and_eq_true,decide_eq_true_eq] at h2; omega
   ·split at h2
    ·exact hg N h2
    ·have:=eq_of_beq h2; omega
theorem V7r (g:Int→Bool) (y:List Int→Bool) (hg:∀ x,g x=true→-9223372036854775808 ≤ x∧x ≤ 9223372036854775807):∀ (ks:List K01) (op:Int) (n i:Nat),Kvh g y op n i ks=true→n + 2 * (ks.length + Kur ks) ≤ 9223372036854775807→Kvn ks
 | [],op,n,i,_,_=>by rw [Kvn]; trivial
 | ⟨o,N,ty,ks1⟩ :: ks,op,n,i,h,hb=>by
  rw [Kye,Bool.and_eq_true] at h
  rw [Kur,List.length_cons] at hb
  have:=Kvb op i
  rw [Kvn]
  exact ⟨V7q g y hg _ _ h.1 (by omega),V7r g y hg ks op n (i + 1) h.2 (by omega)⟩
end
theorem V7s {s:K00} {n:Nat} (hs:Kz2 s n) {m b:Nat} {t:K01} (h:V6h s m b t) (hb:b ≤ 100000) (hm:m ≤ 1000):tln t:=by
 have h3:=h.tms
 have h4:=hs.tab.size
 have h5:=hs.tab.hi
 refine V7q _ _ ?_ t m h.1 (by omega)
 intro x hx
 unfold gN at hx
 simp at hx
 omega
theorem V7t (s:K00) {n:Nat} (hn:s.fSize=(n:Int)) (h16:n ≤ 16) (v:List Bool) (hv:v.length=n):∀ (k i:Nat) (l:List Int),i + k=n→l.length ≤ i→Gv (Kiv (s,v,l,(i:Int))) (fun r=>r.length ≤ n):=by
 intro k
 induction k with
 | zero =>
  intro i l hi hl
  rw [Kiv.eq_def]
  simp only
  rw [hn,Kst (by omega),if_neg (by decide)]
  exact .of (by omega)
 | succ k ih =>
  intro i l hi hl
  rw [Kiv.eq_def]
  simp only
  rw [hn,Kss (by omega),if_pos rfl,Ksq (by omega),bs]
  refine Gv.bind (Q:=fun r:List Int=>r.length ≤ i + 1) (.ite (fun _=>?_) (fun _=>.of (by omega))) (fun r hr=>?_)
  ·rw [Kvt (by simp; omega),bs]
   exact .of (by simp; omega)
  ·rw [Ksr (by omega)]
   exact ih (i + 1) r (by omega) hr
theorem V7u (a b:List Int) (hl:a.length ≤ 1000):∀ (k i:Nat),i + k=a.length→∃ r,Kj6 (a,b,(i:Int))=some r:=by
 intro k
 induction k with
 | zero =>
  intro i hi
  rw [Kj6.eq_def]
  simp only
  rw [Kst (by omega),if_neg (by decide),bs,if_neg (by decide)]
  exact ⟨_,rfl⟩
 | succ k ih =>
  intro i hi
  rw [Kj6.eq_def]
  simp only
  rw [Kss (by omega),if_pos rfl,bs]
  by_cases hb:i < b.length
  ·rw [Kss hb,if_pos rfl,Ksq (by omega),bs,Ksq hb,bs]
   cases hq:(a[i]'(by omega) != b[i])
   ·rw [if_neg (by decide),Ksr (by omega)]
    exact ih (i + 1) (by omega)
   ·rw [if_pos rfl,bs,bs]
    exact ⟨_,rfl⟩
  ·rw [Kst (by omega),if_neg (by decide)]
   exact ⟨_,rfl⟩
theorem V7v (a b:List Int) (hl:a.length ≤ 1000):∃ r,Kj9 (a,b)=some r:=by
 obtain ⟨r,h⟩:=V7u a b hl a.length 0 (by omega)
 unfold Kj9
 simp only
 rw [show (0:Int)=((0:Nat):Int) from rfl,h,bs]
 cases r <;> exact ⟨_,rfl⟩
theorem V7w (R out:List (List Int)) (i:Nat) (hi:i < R.length) (hR:∀ q ∈ R,q.length ≤ 1000):∀ (k:Nat),k ≤ out.length→out.length ≤ 1000000→Gv (Kjd (R,out,(i:Int),(k:Int))) (fun r=>∃ m:Nat,r=(m:Int)∧m ≤ out.length):=by
 intro k
 induction k with
 | zero =>
  intro hk _
  rw [Kjd.eq_def]
  simp only
  rw [decide_eq_false (by omega),if_neg (by decide),bs,if_neg (by decide)]
  exact .of ⟨0,rfl,by omega⟩
 | succ k ih =>
  intro hk ho
  rw [Kjd.eq_def]
  simp only
  rw [decide_eq_true (by omega),if_pos rfl,Ksq hi,bs,Ksp (x:=((k + 1:Nat):Int) - 1) (by omega) (by omega),show ((k + 1:Nat):Int) - 1=(k:Int) by omega,Ksq (by omega),bs]
  obtain ⟨r,h⟩:=V7v R[i] (out[k]'(by omega)) (hR _ (List.getElem_mem hi))
  rw [h,bs,bs]
  exact .ite (fun _=>ih (by omega) ho) (fun _=>.of ⟨k + 1,rfl,hk⟩)
theorem V7x (R:List (List Int)) {b:Nat} (hb:b ≤ 1000) (hR:∀ q ∈ R,q.length ≤ b) (hl:R.length ≤ 1000000):∀ (k i:Nat) (out:List (List Int)),i + k=R.length→out.length=i→(∀ q ∈ out,q.length ≤ b)→Gv (Kjh (R,out,(i:Int))) (fun r=>∀ q ∈ r,q.length ≤ b):=by
 intro k
 induction k with
 | zero =>
  intro i out hi ho hq
  rw [Kjh.eq_def]
  simp only
  rw [Kst (by omega),if_neg (by decide)]
  exact .of hq
 | succ k ih =>
  intro i out hi ho hq
  rw [Kjh.eq_def]
  simp only
  rw [Kss (by omega),if_pos rfl]
  refine Gv.bind (V7w R out i (by omega) (fun q h=>Nat.le_trans (hR q h) hb) out.length (Nat.le_refl _) (by omega)) ?_
  rintro x ⟨m,rfl,hm⟩
  have hlen:(out ++ ([[]]:List (List Int))).length=out.length + 1:=by simp
  have c1:chk (0 < (out ++ ([[]]:List (List Int))).length∧0 ≤ (wr ((m:Int) + 1))∧(wr ((m:Int) + 1)) ≤ ((out ++ ([[]]:List (List Int))).length:Int))=some ():=by
   unfold chk
   rw [if_pos]
   rw [Ksp (by omega) (by omega),hlen]; omega
  have c2:chk (0 < (out ++ ([[]]:List (List Int))).length∧0 ≤ (m:Int)∧(m:Int) ≤ ((out ++ ([[]]:List (List Int))).length:Int))=some ():=by
   unfold chk
   rw [if_pos]
   rw [hlen]; omega
  rw [Kvt (by simp; omega),bs,c1,bs,c2,bs,Ksq (by omega),bs,Ksp (x:=(m:Int) + 1) (by omega) (by omega),Int.toNat_natCast,show Int.toNat ((m:Int) + 1)=m + 1 by omega]
  have hcl:=Qaq (out ++ ([[]]:List (List Int))) (m + 1) m (by omega) (by omega)
  rw [Ksq (by omega),bs,Ksr (by omega)]
  refine ih (i + 1) _ (by omega) (by rw [List.length_set]; omega) (fun q h=>?_)
  rcases List.mem_or_eq_of_mem_set h with h | rfl
  ·have:q ∈ out ++ ([[]]:List (List Int)):=by
    unfold cpy at h
    rcases List.mem_append.1 h with h | h
    ·exact List.mem_of_mem_take h
    ·rcases List.mem_append.1 h with h | h
     ·exact List.mem_of_mem_drop (List.mem_of_mem_take h)
     ·exact List.mem_of_mem_drop h
   rcases List.mem_append.1 this with h | h
   ·exact hq q h
   ·rw [List.mem_singleton.1 h]; simp
  ·exact hR _ (List.getElem_mem _)
theorem V7y (s:K00) {n:Nat} (hn:s.fSize=(n:Int)) (h16:n ≤ 10) (hview:∀ v:List Bool,v.length=n→∃ b,Kiq (s,v)=some b):∀ (k g:Nat) (v:List Bool),g + k=n→v.length=n→Gv (Kiy (s,v,(g:Int))) (fun r=>r.length ≤ 2 ^ k∧∀ q ∈ r,q.length ≤ n):=by
 intro k
 induction k with
 | zero =>
  intro g v hg hv
  rw [Kiy.eq_def]
  simp only
  obtain ⟨b,hb⟩:=hview v hv
  rw [hn,show ((g:Int) == (n:Int))=true by rw [show g=n by omega]; exact beq_self_eq_true _,if_pos rfl,hb,bs]
  refine .ite (fun _=>?_) (fun _=>.of ⟨by simp,fun q h=>by cases h⟩)
  refine Gv.bind (V7t s hn (by omega) v hv n 0 [] (by omega) (by simp)) (fun l hl=>?_)
  exact .of ⟨by simp,fun q h=>by rw [List.mem_singleton.1 h]; exact hl⟩
 | succ k ih =>
  intro g v hg hv
  rw [Kiy.eq_def]
  simp only
  have hp:2 ^ k ≤ 1024:=by
   have:2 ^ k ≤ 2 ^ 10:=Nat.pow_le_pow_right (by decide) (by omega)
   simpa using this
  rw [hn,show ((g:Int) == (n:Int))=false by rw [beq_eq_false_iff_ne]; omega,if_neg (by decide),Kiz.eq_def]
  simp only
  rw [decide_eq_true (by decide:(0:Int) < 2),if_pos rfl,Kvt (by simp; omega),bs,Ksq (by omega),bs,Ksr (by omega),Int.toNat_natCast]
  refine Gv.bind (Q:=fun r:List (List Int)=>r.length ≤ 2 ^ (k + 1)∧∀ q ∈ r,q.length ≤ n) ?_ (fun r hr=>.of hr)
  refine Gv.bind (ih (g + 1) _ (by omega) (by rw [List.length_set]; exact hv)) ?_
  rintro r0 ⟨a0,b0⟩
  rw [Kvt (by simp; omega),bs,List.nil_append,show wr ((0:Int) + 1)=1 from rfl,Kiz.eq_def]
  simp only
  rw [decide_eq_true (by decide:(1:Int) < 2),if_pos rfl,Kvt (by simp; omega),bs,Ksq (by omega),bs,Ksr (by omega),Int.toNat_natCast]
  refine Gv.bind (ih (g + 1) _ (by omega) (by rw [List.length_set]; exact hv)) ?_
  rintro r1 ⟨a1,b1⟩
  rw [Kvt (by omega),bs,show wr ((1:Int) + 1)=2 from rfl,Kiz.eq_def]
  simp only
  rw [decide_eq_false (by decide:¬ (2:Int) < 2),if_neg (by decide)]
  refine .of ⟨by rw [List.length_append,Nat.pow_succ]; omega,fun q h=>?_⟩
  rcases List.mem_append.1 h with h | h
  ·exact b0 q h
  ·exact b1 q h
theorem V7z {s:K00} (hsy:s ∈ V61) {c:K02} (h:V3p c):Gv (Kk0 (c,s)) (fun r=>r.1.length ≤ 1000∧V3p r.2):=by
 obtain ⟨sy,⟨z1,z2⟩,_⟩:=V62 hsy
 have hs:=Kz3 sy
 have hn:s.fSize=((s.fSize.toNat:Nat):Int):=by omega
 unfold Kk0
 have hv:Gv (Kjk s) (fun r=>∀ q ∈ r,q.length ≤ s.fSize.toNat):=by
  unfold Kjk
  rw [Kw9,sy,bs,if_pos rfl]
  have ck:chk (0 ≤ s.fSize∧(Int.toNat s.fSize) * 1 ≤ 140737488355328)=some ():=by unfold chk; rw [if_pos (by omega)]
  rw [ck,bs,show (1:Int)=((1:Nat):Int) from rfl,Ksq (by rw [List.length_replicate]; omega),bs]
  refine Gv.bind (V7y s hn (by omega) (fun v hv=>⟨_,Kxz hs.tab hv⟩) (s.fSize.toNat - 2) 2 _ (by omega) (by rw [List.length_set,List.length_replicate])) ?_
  rintro R ⟨a1,a2⟩
  have hp:2 ^ (s.fSize.toNat - 2) ≤ 2 ^ 10:=Nat.pow_le_pow_right (by decide) (by omega)
  refine Gv.bind (V7x R (b:=s.fSize.toNat) (by omega) a2 (by omega) R.length 0 [] (by omega) rfl (fun q h=>by cases h)) (fun r hr=>.of hr)
 refine Gv.bind hv (fun R hR=>?_)
 refine Gv.bind (Q:=fun r:List Int × Int × Int × Bool=>V3p ⟨r.1,r.2.1,r.2.2.1⟩∧(r.2.2.2=false→0 < R.length)) (.ite (fun _=>.of ⟨h,fun q=>by cases q⟩) (fun hb=>?_)) ?_
 ·have hb:=beq_eq_false_iff_ne.1 hb
  refine Gv.bind (V3x h 12) ?_
  rintro ⟨x,c1⟩ h1
  exact .of ⟨h1,fun _=>by omega⟩
 rintro ⟨b1,f1,g1,v⟩ ⟨h1,hq⟩
 simp only at h1 hq ⊢
 cases v
 ·have hl:=hq rfl
  rw [if_neg (by decide)]
  refine Gv.bind (V3w h1 _) ?_
  rintro ⟨x,c2⟩ ⟨⟨hx,_⟩,h2⟩
  simp only at hx h2 ⊢
  obtain ⟨hx0,hx1⟩:=hx (by omega)
  obtain ⟨m,rfl⟩:=Int.eq_ofNat_of_zero_le hx0
  have hm:m < R.length:=by omega
  have:=hR _ (List.getElem_mem hm)
  rw [Ksq hm,bs,Kvv _ (by omega),bs]
  exact .of ⟨by simp only; omega,h2⟩
 ·rw [if_pos rfl]
  refine Gv.bind (V3w h1 3) ?_
  rintro ⟨x,c2⟩ ⟨⟨hx,_⟩,h2⟩
  simp only at hx h2 ⊢
  obtain ⟨hx0,hx1⟩:=hx (by decide)
  obtain ⟨m,rfl⟩:=Int.eq_ofNat_of_zero_le hx0
  refine Gv.bind (V7p h2 m (by omega)) ?_
  rintro ⟨gs,c3⟩ ⟨q1,q2⟩
  exact .of ⟨by simp only at q1 ⊢; omega,q2⟩
theorem V80 {op N:Int} {ty:List Int} {ks:List K01} (h1:ty.length ≤ 9223372036854775807) (h2:ks.length ≤ 9223372036854775807) (h3:Kvn ks) (h4:-9223372036854775808 ≤ N∧N ≤ 9223372036854775807):tln ⟨op,N,ty,ks⟩:=by
 rw [tln]; exact ⟨h1,h2,h3,h4⟩
theorem V81 {t:K01} (h:tln t):t.fType.length ≤ 9223372036854775807∧t.fKids.length ≤ 9223372036854775807∧Kvn t.fKids∧(-9223372036854775808 ≤ t.fN∧t.fN ≤ 9223372036854775807):=by
 cases t; rwa [tln] at h
theorem V82 {a b:List K01} (ha:Kvn a) (hb:Kvn b):Kvn (a ++ b):=by
 induction a with
 | nil=>exact hb
 | cons x a ih =>
  rw [Kvn] at ha
  rw [List.cons_append,Kvn]
  exact ⟨ha.1,ih ha.2⟩
theorem V83 {l:List K01} (h:Kvn l) (i:Nat) {u:K01} (hu:tln u):Kvn (l.set i u):=by
 induction l generalizing i with
 | nil=>exact h
 | cons x l ih =>
  rw [Kvn] at h
  cases i with
  | zero=>rw [List.set_cons_zero,Kvn]; exact ⟨hu,h.2⟩
  | succ i=>rw [List.set_cons_succ,Kvn]; exact ⟨h.1,ih h.2 i⟩
theorem V84 {l:List K01} (h:Kvn l) {i:Nat} (hi:i < l.length):tln l[i]:=by
 induction l generalizing i with
 | nil=>simp at hi
 | cons x l ih =>
  rw [Kvn] at h
  cases i with
  | zero=>exact h.1
  | succ i=>exact ih h.2 (by simpa using hi)
theorem V85:∀ (n:Nat) (c:K02) (xs:List K01) (i:Nat) (hi:i < xs.length),V3p c→tsz xs[i] ≤ n→Kvn xs→xs.length + Kur xs ≤ 2097152 →
  Gv (Kia (c,xs,(i:Int))) (fun r=>(Kvn r.1∧r.1.length=xs.length∧Kur r.1 ≤ Kur xs + 1)∧V3p r.2):=by
 intro n
 induction n with
 | zero=>intro c xs i hi h hn; have:=Kut xs[i]; omega
 | succ n ih =>
  intro c xs i hi h hn hl hb
  have he:=V81 (V84 hl hi)
  have hm1:=Kx5 (List.getElem_mem hi)
  have hm2:=Kus xs[i]
  have hset:=fun u=>Kxn hi u
  have fin:∀ (u:K01) (c':K02),tln u→tms u ≤ tms xs[i] + 1→V3p c'→Gv (some (xs.set i u,c')) (fun r=>(Kvn r.1∧r.1.length=xs.length∧Kur r.1 ≤ Kur xs + 1)∧V3p r.2):=fun u c' q1 q2 q3=>by
   have:=hset u
   exact .of ⟨⟨V83 hl i q1,by simp,by simp only; omega⟩,q3⟩
  rw [Kia.eq_def]
  simp only
  rw [Ksq hi,bs,Int.toNat_natCast]
  generalize hx:xs[i]=e at *
  refine Gv.bind (Q:=fun r:List Int × Int × Int × Bool=>V3p ⟨r.1,r.2.1,r.2.2.1⟩∧(r.2.2.2=true→0 < e.fKids.length)) (.ite (fun hk=>?_) (fun _=>.of ⟨h,fun q=>by cases q⟩)) ?_
  ·have hk:=of_decide_eq_true hk
   refine Gv.bind (V3w h 3) ?_
   rintro ⟨y,c1⟩ ⟨_,h4⟩
   exact .of ⟨h4,fun _=>by omega⟩
  rintro ⟨b,fi,fh,v⟩ ⟨h4,hv⟩
  simp only at h4 hv ⊢
  refine .ite (fun hv1=>?_) (fun _=>?_)
  ·have hk:=hv hv1
   refine Gv.bind (V3w h4 _) ?_
   rintro ⟨j,c2⟩ ⟨⟨hj,_⟩,h5⟩
   simp only at hj h5 ⊢
   obtain ⟨hj0,hj1⟩:=hj (by omega)
   obtain ⟨m,rfl⟩:=Int.eq_ofNat_of_zero_le hj0
   have hm:m < e.fKids.length:=by omega
   rw [Ksq hm,bs]
   have hts:tsz e.fKids[m] ≤ n:=by
    have h1:=Kut e
    have h2:tsz e.fKids[m] ≤ Kuq e.fKids:=Kx6 (List.getElem_mem hm)
    omega
   refine Gv.bind (ih c2 e.fKids m hm h5 hts he.2.2.1 (by omega)) ?_
   rintro ⟨ks,c3⟩ ⟨⟨q1,q2,q3⟩,h6⟩
   simp only at q1 q2 q3 h6 ⊢
   exact fin _ _ (V80 he.1 (by omega) q1 he.2.2.2) (by rw [tms]; omega) h6
  ·refine Gv.bind (V3w h4 6) ?_
   rintro ⟨j,c2⟩ ⟨_,h5⟩
   simp only at h5 ⊢
   refine .ite (fun _=>?_) (fun _=>?_)
   ·refine Gv.bind (V3w h5 15) ?_
    rintro ⟨y,c3⟩ ⟨_,h6⟩
    exact fin _ _ (V80 he.1 he.2.1 he.2.2.1 he.2.2.2) (by rw [tms]; omega) h6
   refine Gv.bind (Q:=fun _:Bool=>True) (.ite (fun _=>.of trivial) (fun _=>.of trivial)) (fun w _=>?_)
   refine .ite (fun _=>?_) (fun _=>.ite (fun _=>?_) (fun _=>.ite (fun _=>?_) (fun _=>.ite (fun hk=>?_) (fun _=>?_))))
   ·refine Gv.bind (V3y h5 _ (by decide)) ?_
    rintro ⟨y,c3⟩ ⟨hy,h6⟩
    refine fin _ _ (V80 he.1 he.2.1 he.2.2.1 ?_) (by rw [tms]; omega) h6
    simp only [List.mem_cons,List.not_mem_nil,or_false] at hy
    omega
   ·refine Gv.bind (V3y h5 _ (by decide)) ?_
    rintro ⟨y,c3⟩ ⟨hy,h6⟩
    exact fin _ _ (V80 (by simp) he.2.1 he.2.2.1 he.2.2.2) (by rw [tms]; simp; omega) h6
   ·rw [Kvt (by simp; omega),bs,Ksq (by simp),bs,Int.toNat_natCast]
    have e2:(e.fKids ++ [(⟨0,0,[],[]⟩:K01)]).set e.fKids.length (⟨1,0,[],[]⟩:K01)=e.fKids ++ [⟨1,0,[],[]⟩]:=by simp
    rw [e2]
    have e3:tln ⟨1,0,[],[]⟩:=V80 (by simp) (by simp) (by rw [Kvn]; trivial) (by decide)
    exact fin _ _ (V80 he.1 (by simp; omega) (V82 he.2.2.1 (by rw [Kvn,Kvn]; exact ⟨e3,trivial⟩)) he.2.2.2) (by rw [tms,Kx4]; simp [Kur,tms]; omega) h5
   ·have hk:=of_decide_eq_true hk
    have k0:0 < e.fKids.length:=by omega
    have k1:1 < e.fKids.length:=by omega
    rw [show (0:Int)=((0:Nat):Int) from rfl,show (1:Int)=((1:Nat):Int) from rfl,Ksq k0,bs,Ksq k1,bs,bs,Int.toNat_natCast,Ksq (by simp; omega),bs,Int.toNat_natCast]
    have a0:=V84 he.2.2.1 k0
    have a1:=V84 he.2.2.1 k1
    have s1:=Kxn k0 e.fKids[1]
    have s2:=Kxn (l:=e.fKids.set 0 e.fKids[1]) (i:=1) (by simp; omega) e.fKids[0]
    rw [List.getElem_set_ne (by decide)] at s2
    exact fin _ _ (V80 he.1 (by simp; omega) (V83 (V83 he.2.2.1 0 a1) 1 a0) he.2.2.2) (by rw [tms]; simp only [List.length_set]; omega) h5
   ·exact .of ⟨⟨hl,rfl,by simp⟩,h5⟩
theorem V86 {c:K02} {t:K01} (h:V3p c) (hl:tln t) (hb:tms t ≤ 1048576):Gv (Kid (c,t)) (fun r=>(tln r.1∧tms r.1 ≤ tms t + 1)∧V3p r.2):=by
 unfold Kid
 simp only
 refine Gv.bind (V3x h 6) ?_
 rintro ⟨x,c1⟩ h1
 simp only at h1 ⊢
 refine .ite (fun _=>?_) (fun _=>.of ⟨⟨hl,by simp⟩,h1⟩)
 rw [Kxj (Kxk t hl) (by omega),bs]
 refine Gv.bind (V85 (tsz t) c1 [t] 0 (by simp) h1 (Nat.le_refl _) (by rw [Kvn,Kvn]; exact ⟨hl,trivial⟩) (by simp [Kur]; omega)) ?_
 rintro ⟨zs,c2⟩ ⟨⟨q1,q2,q3⟩,h2⟩
 simp only [List.length_singleton] at q1 q2 q3 h2 ⊢
 rw [show (0:Int)=((0:Nat):Int) from rfl,Ksq (by omega),bs]
 refine .of ⟨⟨V84 q1 (by omega),?_⟩,h2⟩
 have:=Kx5 (List.getElem_mem (l:=zs) (n:=0) (by omega))
 simp only [Kur] at q3
 simp only
 omega
theorem V6h.tln {s:K00} (h:s ∈ V61) {m b:Nat} {t:K01} (ht:V6h s m b t) (hb:b ≤ 100000) (hm:m ≤ 1000):tln t:=V7s (Kz3 (V62 h).1) ht hb hm
def V87 (v:List Int):Nat→List Int→List Int
 | _,[]=>[]
 | i,x :: l=>if v.contains x then (i:Int) :: V87 v (i + 1) l else V87 v (i + 1) l
theorem V88 (v:List Int):∀ (l:List Int) (i:Nat),(V87 v i l).length ≤ l.length
 | [],i=>by simp [V87]
 | x :: l,i=>by
  rw [V87]
  have:=V88 v l (i + 1)
  split <;> simp <;> omega
theorem V89 (v:List Int):∀ (l:List Int) (i j:Nat) (h:j < l.length),v.contains l[j]=true→((i + j:Nat):Int) ∈ V87 v i l
 | [],i,j,h,_=>by simp at h
 | x :: l,i,0,h,hc=>by
  rw [V87]
  simp only [List.getElem_cons_zero] at hc
  rw [if_pos hc]
  simp
 | x :: l,i,j + 1,h,hc=>by
  have:=V89 v l (i + 1) j (by simpa using h) (by simpa using hc)
  rw [show i + 1 + j=i + (j + 1) by omega] at this
  rw [V87]
  split
  ·exact List.mem_cons_of_mem _ this
  ·exact this
theorem V8a (v a:List Int) (hv:v.length ≤ 1099511627776) (ha:a.length ≤ 1048576):∀ (l:List Int) (i:Nat) (out:List Int),a.drop i=l→out.length + l.length ≤ 1048576→Krq (v,a,out,(i:Int))=some (out ++ V87 v i l):=by
 intro l
 induction l with
 | nil =>
  intro i out hd ho
  rw [Krq.eq_def]
  simp only
  rw [Kst (Ktw hd),if_neg (by decide),V87,List.append_nil]
 | cons x l ih =>
  intro i out hd ho
  obtain ⟨h1,h2,h3⟩:=Ktv hd
  rw [List.length_cons] at ho
  rw [Krq.eq_def]
  simp only
  rw [Kss h1,if_pos rfl,h2,bs,Ky6 v x hv,bs,V87]
  cases v.contains x with
  | false=>rw [if_neg (by decide),bs,Ksr (by omega),ih (i + 1) out h3 (by omega)]; rfl
  | true =>
   rw [if_pos rfl,Kvt (by simp; omega),bs,bs,Ksr (by omega),ih (i + 1) (out ++ [(i:Int)]) h3 (by simp; omega),List.append_assoc]
   rfl
theorem V8b (l:List Int) (n:Int) (hl:l.length ≤ 1048576):∀ (m:List Int) (i:Nat),l.drop i=m→Krx (l,n,(i:Int))=some (if m.contains n then .inr true else .inl ()):=by
 intro m
 induction m with
 | nil =>
  intro i hd
  rw [Krx.eq_def]
  simp only
  rw [Kst (Ktw hd),if_neg (by decide)]
  rfl
 | cons x m ih =>
  intro i hd
  obtain ⟨h1,h2,h3⟩:=Ktv hd
  rw [Krx.eq_def]
  simp only
  rw [Kss h1,if_pos rfl,h2,bs,List.contains_cons]
  cases hx:x == n
  ·have:(n == x)=false:=by rw [beq_eq_false_iff_ne] at hx ⊢; exact fun e=>hx e.symm
   rw [if_neg (by decide),Ksr (by omega),ih (i + 1) h3,this,Bool.false_or]
  ·have:(n == x)=true:=by have:=eq_of_beq hx; subst this; exact beq_self_eq_true _
   rw [if_pos rfl,this]; rfl
theorem V8c (l:List Int) (n:Int) (hl:l.length ≤ 1048576):Ks0 (l,n)=some (l.contains n):=by
 unfold Ks0
 simp only
 rw [show (0:Int)=((0:Nat):Int) from rfl,V8b l n hl l 0 rfl,bs]
 cases l.contains n <;> rfl
theorem V8d (v needs l:List Int) (hv:v.length ≤ 1048576) (hn:needs.length ≤ 1048576) (hl:l.length ≤ 1048576) (hm:∀ (j:Nat) (h:j < needs.length),v.contains needs[j]=true→l.contains (j:Int)=true):∀ (m:List Int) (i cnt:Nat),needs.drop i=m→cnt ≤ i →
  Ks5 (v,needs,l,(cnt:Int),(i:Int))=some (.inl ((cnt + (V87 v i m).length:Nat):Int)):=by
 intro m
 induction m with
 | nil =>
  intro i cnt hd hc
  rw [Ks5.eq_def]
  simp only
  rw [Kst (Ktw hd),if_neg (by decide),V87]
  rfl
 | cons x m ih =>
  intro i cnt hd hc
  obtain ⟨h1,h2,h3⟩:=Ktv hd
  have hx:needs[i]=x:=by
   have:=Ksq h1
   rw [h2] at this
   exact (Option.some.inj this).symm
  rw [Ks5.eq_def]
  simp only
  rw [Kss h1,if_pos rfl,h2,bs,V8c v x hv,bs,V87]
  cases hcx:v.contains x
  ·rw [if_neg (by decide),bs]
   simp only
   rw [Ksr (by omega),ih (i + 1) cnt h3 (by omega)]
   rfl
  ·rw [if_pos rfl,V8c l _ hl,hm i h1 (by rw [hx]; exact hcx),bs,if_pos rfl,bs]
   simp only
   rw [Ksr (n:=cnt) (by omega),Ksr (n:=i) (by omega),ih (i + 1) (cnt + 1) h3 (by omega)]
   simp only [if_true,List.length_cons]
   congr 3
   omega
theorem V8e (s:K00) (view:List Int) (ctx:List (List Int)) (t:K01) (b1:view.length ≤ 1000) (b2:lms ctx ≤ 1048576) (b3:tms t ≤ 1048576) (code:List Int) (e1:K9q code=some false) (e2:Kk3 code=some (s,view,ctx,t)):Ks8 code=some true:=by
 unfold Ks8 Krt
 rw [e1,bs,if_neg (by decide),e2,bs]
 simp only
 rcases V3o s ctx t b2 (by omega) with ⟨_,h2,_⟩ | ⟨x,y,r,hf,hi,_,h2,_⟩
 ·rw [h2]
  rfl
 ·obtain ⟨g,_,ns,hn,hl,hb⟩:=r.gd hf
  obtain ⟨hs,h8,_⟩:=V3l hi
  have hln:x.fneeds.length=ns.length:=by rw [hn,Kyy]
  rw [h2,bs]
  simp only [bs,if_true]
  rw [iVw s view (by omega),bs]
  cases vwB s view with
  | false=>rfl
  | true =>
   have hsl:=V88 view x.fneeds 0
   have hS:=V8a view x.fneeds (by omega) (by omega) x.fneeds 0 [] rfl (by simp; omega)
   rw [List.nil_append,show ((0:Nat):Int)=0 from rfl] at hS
   have hN:=V8d view x.fneeds (V87 view 0 x.fneeds) (by omega) (by omega) (by omega) (fun j h hc=>by
    have:=V89 view x.fneeds 0 j h hc
    rw [Nat.zero_add] at this
    exact List.contains_iff_mem.2 this) x.fneeds 0 0 rfl (by omega)
   rw [show ((0:Nat):Int)=0 from rfl,Nat.zero_add] at hN
   simp only [Bool.not_true,bs,Bool.false_eq_true,if_false]
   rw [hS,bs,bs,hN,bs]
   simp
theorem V8f (code:List Int) (w:code.length ≤ maxLen∧∀ v ∈ code,0 ≤ v∧v ≤ 255):Ks8 code=some true:=by
 by_cases hbig:(code.length:Int) > 1048576
 ·unfold Ks8 K9q
  rw [bs,decide_eq_true hbig,if_pos rfl]
 have e1:K9q code=some false:=by unfold K9q; rw [decide_eq_false hbig]
 have G:Gv (Kk3 code) (fun r=>r.2.1.length ≤ 1000∧lms r.2.2.1 ≤ 1048576∧tms r.2.2.2 ≤ 1048576):=by
  unfold Kk3
  refine Gv.bind (V3t code (by omega) w.2) (fun c0 h0=>?_)
  obtain ⟨d,hd,e⟩:=V7n code (by omega)
  rw [e,bs]
  refine Gv.bind (V3x h0 2) ?_
  rintro ⟨v,c1⟩ h1
  simp only at h1 ⊢
  refine Gv.bind (V7m h1 hd 3 (by decide) v) ?_
  rintro ⟨s,ctx,⟨o1,o2,o3,o4⟩,c2⟩ ⟨hsy,hc,ht,h2⟩
  simp only at hsy hc ht h2 ⊢
  have hcl:=hc.2.1
  have hlm:=hc.lms (by decide)
  have htm:=ht.tms
  have htl:=ht.tln hsy (by decide) (by omega)
  refine Gv.bind (V3x h2 12) ?_
  rintro ⟨x,c3⟩ h3
  simp only at h3 ⊢
  refine Gv.bind (Q:=fun r:List Int × Int × Int × Int × Int × List Int × List K01=>V3p ⟨r.1,r.2.1,r.2.2.1⟩∧tms ⟨r.2.2.2.1,r.2.2.2.2.1,r.2.2.2.2.2.1,r.2.2.2.2.2.2⟩ ≤ 1048576) (.ite (fun _=>?_) (fun _=>.of ⟨h3,by simp only; omega⟩)) ?_
  ·refine Gv.bind (V86 h3 htl (by omega)) ?_
   rintro ⟨⟨p1,p2,p3,p4⟩,c4⟩ ⟨⟨_,z⟩,h4⟩
   exact .of ⟨h4,by simp only at z ⊢; omega⟩
  rintro ⟨a1,a2,a3,a4,a5,a6,a7⟩ ⟨h4,z⟩
  simp only at h4 z ⊢
  refine Gv.bind (V7z hsy h4) ?_
  rintro ⟨vw,c5⟩ ⟨hv,_⟩
  exact .of ⟨hv,by simp only; omega,z⟩
 obtain ⟨⟨s,view,ctx,t⟩,e2,q1,q2,q3⟩:=G
 exact V8e s view ctx t q1 q2 q3 code e1 e2
end Go.Am
