/- Plain laws of the printed functions. -/
import Derived.Test.YtckgdfakjjdodaaGreatPOPE1
set_option linter.unusedSimpArgs false
set_option linter.unusedVariables false
namespace Go.Am
def Gv {α:Type} (x:Option α) (Q:α→Prop):Prop:=∃ a,x=some a∧Q a
theorem Gv.of {α:Type} {a:α} {Q:α→Prop} (h:Q a):Gv (some a) Q:=⟨a,rfl,h⟩
theorem Gv.eq {α:Type} {x:Option α} {a:α} {Q:α→Prop} (e:x=some a) (h:Q a):Gv x Q:=⟨a,e,h⟩
theorem Gv.bind {α β:Type} {x:Option α} {f:α→Option β} {Q:α→Prop} {R:β→Prop} (h:Gv x Q) (hf:∀ a,Q a→Gv (f a) R):Gv (x >>= f) R:=by
 obtain ⟨a,rfl,hq⟩:=h
 exact hf a hq
theorem Gv.mono {α:Type} {x:Option α} {Q R:α→Prop} (h:Gv x Q) (hq:∀ a,Q a→R a):Gv x R:=let ⟨a,e,h⟩:=h; ⟨a,e,hq a h⟩
theorem Gv.ite {α:Type} {b:Bool} {x y:Option α} {Q:α→Prop} (h1:b=true→Gv x Q) (h2:b=false→Gv y Q):Gv (if b=true then x else y) Q:=by
 cases b
 ·exact h2 rfl
 ·exact h1 rfl
structure Kx6 (c:K01):Prop where
 lo:0 ≤ c.fi
 hi:c.fi ≤ c.fb.length
 ln:c.fb.length ≤ 1048576
 by_:∀ v ∈ c.fb,0 ≤ v∧v ≤ 255
theorem Kx7 (x:Int):0 ≤ Q2p .and .i64 x 255∧Q2p .and .i64 x 255 ≤ 255:=by
 have h:(BitVec.ofInt 64 x &&& BitVec.ofInt 64 255).toNat ≤ 255:=by
  rw [BitVec.toNat_and]
  exact Nat.le_trans Nat.and_le_right (by decide)
 have e:Q2p .and .i64 x 255=wr (((BitVec.ofInt 64 x &&& BitVec.ofInt 64 255).toNat:Nat):Int):=rfl
 rw [e,Kmi (by omega) (by omega)]
 omega
theorem Kx8 {α:Type} {l:List α} {i:Int} (h0:0 ≤ i) (h:i < l.length):∃ v,idx l i=some v∧v ∈ l:=by
 have hi:i.toNat < l.length:=by omega
 refine ⟨l[i.toNat],?_,List.getElem_mem hi⟩
 unfold idx
 rw [if_pos h0,List.getElem?_eq_getElem hi]
theorem Kx9 (code:List Int) (hl:code.length ≤ 1048576):∀ (k i:Nat) (h:Int),i + k=code.length→Gv (K7g (code,h,(i:Int))) (fun _=>True):=by
 intro k
 induction k with
 | zero =>
  intro i h hi
  rw [K7g.eq_def]
  simp only
  rw [Kmm (by omega),if_neg (by decide),bs,if_neg (by decide)]
  exact .of trivial
 | succ k ih =>
  intro i h hi
  rw [K7g.eq_def]
  simp only
  rw [Kml (by omega),if_pos rfl,bs]
  refine .ite (fun _=>?_) (fun _=>.of trivial)
  rw [Kmj (by omega),bs,Kmk (by omega)]
  exact ih (i + 1) _ (by omega)
theorem Kxa (code:List Int) (hl:code.length ≤ 1048576) (hb:∀ v ∈ code,0 ≤ v∧v ≤ 255):Gv (K7j code) Kx6:=by
 unfold K7j
 refine Gv.bind (Kx9 code hl code.length 0 _ (by omega)) (fun h _=>.of ⟨Int.le_refl _,?_,hl,hb⟩)
 simp
theorem Kxb {c:K01} (h:Kx6 c):Gv (K7s c) (fun r=>(0 ≤ r.1∧r.1 ≤ 255)∧Kx6 r.2):=by
 unfold K7s
 by_cases hi:c.fi < c.fb.length
 ·obtain ⟨v,e,hv⟩:=Kx8 h.lo hi
  have h3:=h.ln
  have h4:=h.lo
  rw [decide_eq_true hi,if_pos rfl,e,bs,bs]
  refine .of ⟨Kx7 _,⟨?_,?_,h.ln,h.by_⟩⟩
  ·simp only
   rw [Kmi (by omega) (by omega)]; omega
  ·simp only
   rw [Kmi (by omega) (by omega)]; omega
 ·rw [decide_eq_false hi,if_neg (by decide),bs]
  exact .of ⟨Kx7 _,⟨h.lo,h.hi,h.ln,h.by_⟩⟩
def Kxc (n:Int) (x:Int):Prop:=(0 < n→0 ≤ x∧x < n)∧(n ≤ 0→x=0)
theorem Kxd {c:K01} (h:Kx6 c) (n:Int):Gv (K7v (c,n)) (fun r=>Kxc n r.1∧Kx6 r.2):=by
 unfold K7v
 simp only
 refine .ite (fun hb=>?_) (fun hb=>?_)
 ·have hb:=of_decide_eq_true hb
  exact .of ⟨⟨fun h=>absurd h (by omega),fun _=>rfl⟩,h⟩
 have hb:=of_decide_eq_false hb
 have tm:∀ x:Int,0 ≤ x→Kxc n (Int.tmod x n):=fun x hx=>⟨fun hn=>⟨Int.tmod_nonneg n hx,Int.tmod_lt_of_pos x hn⟩,fun hn=>absurd hn (by omega)⟩
 have ck:chk (n ≠ 0)=some ():=by unfold chk; rw [if_pos (by omega)]
 refine .ite (fun _=>?_) (fun _=>?_)
 ·refine Gv.bind (Kxb h) ?_
  rintro ⟨x,c1⟩ ⟨hx,h1⟩
  simp only at hx h1 ⊢
  rw [ck,bs]
  exact .of ⟨tm _ hx.1,h1⟩
 ·refine Gv.bind (Kxb h) ?_
  rintro ⟨x,c1⟩ ⟨hx,h1⟩
  simp only at hx h1 ⊢
  refine Gv.bind (Kxb h1) ?_
  rintro ⟨y,c2⟩ ⟨hy,h2⟩
  simp only at hy h2 ⊢
  refine Gv.bind (Kxb h2) ?_
  rintro ⟨z,c3⟩ ⟨hz,h3⟩
  simp only at hz h3 ⊢
  refine Gv.bind (Kxb h3) ?_
  rintro ⟨w,c4⟩ ⟨hw,h4⟩
  simp only at hw h4 ⊢
  rw [ck,bs]
  refine .of ⟨?_,h4⟩
  simp only
  have e1:wr (x * 16777216)=x * 16777216:=Kmi (by omega) (by omega)
  have e2:wr (y * 65536)=y * 65536:=Kmi (by omega) (by omega)
  have e3:wr (z * 256)=z * 256:=Kmi (by omega) (by omega)
  rw [e1,e2,e3,Kmi (x:=x * 16777216 + y * 65536) (by omega) (by omega),Kmi (x:=x * 16777216 + y * 65536 + z * 256) (by omega) (by omega),Kmi (x:=x * 16777216 + y * 65536 + z * 256 + w) (by omega) (by omega)]
  exact tm _ (by omega)
theorem Kxe {c:K01} (h:Kx6 c) (n:Int):Gv (K7y (c,n)) (fun r=>Kx6 r.2):=by
 unfold K7y
 refine Gv.bind (Kxd h n) ?_
 rintro ⟨x,c1⟩ ⟨_,h1⟩
 exact .of h1
theorem Kxf {c:K01} (h:Kx6 c) (l:List Int) (hl:0 < l.length):Gv (Kg9 (c,l)) (fun r=>r.1 ∈ l∧Kx6 r.2):=by
 unfold Kg9
 refine Gv.bind (Kxd h _) ?_
 rintro ⟨x,c1⟩ ⟨⟨hx,_⟩,h1⟩
 simp only at hx h1 ⊢
 have:=hx (by omega)
 obtain ⟨v,e,hv⟩:=Kx8 this.1 this.2
 rw [e,bs]
 exact .of ⟨hv,h1⟩
def Kxg (n a b:Nat):Int:=((min (a + b) (n + 1):Nat):Int)
def Kxh (n a b:Nat):Int:=((min (a * b) (n + 1):Nat):Int)
def Kxi (n:Nat) (bd:Bool) (a b:Nat):Bool:=(a == b) || (b == n + 1) || (bd && decide (a ≤ b))
def Kxj (n:Nat) (bd:Bool):K02:=⟨((n + 2:Nat):Int),(List.range' 0 (n + 2)).flatMap (fun a=>(List.range' 0 (n + 2)).map (Kxg n a)),(List.range' 0 (n + 2)).flatMap (fun a=>(List.range' 0 (n + 2)).map (Kxh n a)),(List.range' 0 (n + 2)).flatMap (fun a=>(List.range' 0 (n + 2)).map (Kxi n bd a))⟩
theorem Kxk {a b:Nat} (h:a ≤ b):decide ((a:Int) ≤ (b:Int))=true:=decide_eq_true (by omega)
theorem Kxl {a b:Nat} (h:b < a):decide ((a:Int) ≤ (b:Int))=false:=decide_eq_false (by omega)
theorem Kxm (n a:Nat) (bd:Bool) (hn:n ≤ 14) (ha:a ≤ n + 1):∀ (k b:Nat) (P T:List Int) (B:List Bool),b + k=n + 2→P.length ≤ 1000000→T.length ≤ 1000000→B.length ≤ 1000000→P.length + k ≤ 1000000→T.length + k ≤ 1000000→B.length + k ≤ 1000000 →
  K85 ((n:Int),bd,(a:Int),P,T,B,(b:Int))=some (P ++ (List.range' b k).map (Kxg n a),T ++ (List.range' b k).map (Kxh n a),B ++ (List.range' b k).map (Kxi n bd a)):=by
 intro k
 induction k with
 | zero =>
  intro b P T B hb _ _ _ _ _ _
  rw [K85.eq_def]
  simp only
  rw [Kmk (by omega),Kxl (by omega),if_neg (by decide)]
  simp
 | succ k ih =>
  intro b P T B hb h1 h2 h3 h4 h5 h6
  have hab:a * b ≤ 16 * 16:=Nat.mul_le_mul (by omega) (by omega)
  have e2:wr ((a:Int) * (b:Int))=((a * b:Nat):Int):=by
   rw [← Int.natCast_mul,Kmi (by omega) (by omega)]
  rw [K85.eq_def]
  simp only
  rw [Kmk (n:=n) (by omega),Kxk (by omega),if_pos rfl,Kqu (by omega) (by omega),Kqv,bs,e2,Kqv,bs,Kpx (by simp; omega),bs,Kpx (by simp; omega),bs]
  have e3:((if ((a:Int) == (b:Int))=true then Qdw (B.length + [true].length) 1 >>= fun _=>some (B ++ [true]) else if ((b:Int) == ((n + 1:Nat):Int))=true then Qdw (B.length + [true].length) 1 >>= fun _=>some (B ++ [true]) else if bd=true then Qdw (B.length + [decide ((a:Int) ≤ (b:Int))].length) 1 >>= fun _=>some (B ++ [decide ((a:Int) ≤ (b:Int))]) else Qdw (B.length + [false].length) 1 >>= fun _=>some (B ++ [false])):Option (List Bool))=some (B ++ [Kxi n bd a b]):=by
   have f:∀ x:Bool,Qdw (B.length + [x].length) 1=some ():=fun x=>Kpx (by simp; omega)
   rw [f,f,f,bs,bs,bs,Kmz,Kmz]
   unfold Kxi
   by_cases q1:a=b
   ·rw [if_pos (by simp [q1])]; simp [q1]
   ·rw [if_neg (by simp [q1])]
    by_cases q2:b=n + 1
    ·rw [if_pos (by simp [q2])]; simp [q2]
    ·rw [if_neg (by simp [q2])]
     cases bd with
     | false=>simp [q1,q2]
     | true=>simp [q1,q2]
  rw [e3,bs,Kmk (by omega),ih (b + 1) _ _ _ (by omega) (by simp; omega) (by simp; omega) (by simp; omega) (by simp; omega) (by simp; omega) (by simp; omega)]
  simp [List.range'_succ,Kxg,Kxh]
theorem Kxn (n:Nat) (bd:Bool) (hn:n ≤ 14):∀ (k a:Nat) (P T:List Int) (B:List Bool),a + k=n + 2→P.length + k * 16 ≤ 10000→T.length + k * 16 ≤ 10000→B.length + k * 16 ≤ 10000 →
  K89 ((n:Int),bd,P,T,B,(a:Int))=some (P ++ (List.range' a k).flatMap (fun a=>(List.range' 0 (n + 2)).map (Kxg n a)),T ++ (List.range' a k).flatMap (fun a=>(List.range' 0 (n + 2)).map (Kxh n a)),B ++ (List.range' a k).flatMap (fun a=>(List.range' 0 (n + 2)).map (Kxi n bd a))):=by
 intro k
 induction k with
 | zero =>
  intro a P T B hb _ _ _
  rw [K89.eq_def]
  simp only
  rw [Kmk (by omega),Kxl (by omega),if_neg (by decide)]
  simp
 | succ k ih =>
  intro a P T B hb h1 h2 h3
  rw [K89.eq_def]
  simp only
  rw [Kmk (n:=n) (by omega),Kxk (by omega),if_pos rfl,show (0:Int)=((0:Nat):Int) from rfl,Kxm n a bd hn (by omega) (n + 2) 0 P T B (by omega) (by omega) (by omega) (by omega) (by omega) (by omega) (by omega),bs]
  simp only
  rw [Kmk (by omega),ih (a + 1) _ _ _ (by omega) (by simp; omega) (by simp; omega) (by simp; omega)]
  simp [List.range'_succ,List.flatMap_cons]
theorem Kxo (n:Nat) (bd:Bool) (h1:1 ≤ n) (h2:n ≤ 14):K8c ((n:Int),bd)=some (Kxj n bd):=by
 unfold K8c
 simp only
 rw [sIn,bs,show inB (n:Int) 1 14=true from by unfold inB; rw [decide_eq_true (by omega),decide_eq_true (by omega)]; rfl,if_pos rfl,show (0:Int)=((0:Nat):Int) from rfl,Kxn n bd h2 (n + 2) 0 [] [] [] (by omega) (by simp; omega) (by simp; omega) (by simp; omega),bs]
 simp only
 rw [show wr ((n:Int) + 2)=((n + 2:Nat):Int) from by rw [Kmi (by omega) (by omega)]; omega]
 rfl
theorem Kxp (n:Nat) (h1:1 ≤ n) (h2:n ≤ 14):K8i (n:Int)=some (Kxj n false):=by unfold K8i; rw [Kxo n false h1 h2]; rfl
theorem Kxq (n:Nat) (h1:1 ≤ n) (h2:n ≤ 14):K8f (n:Int)=some (Kxj n true):=by unfold K8f; rw [Kxo n true h1 h2]; rfl
def Kxr (n a:Nat):Nat:=(n + 1 - a) % (n + 1)
def Kxs (n a b:Nat):Int:=(((n + 1 - max (Kxr n a) (Kxr n b)) % (n + 1):Nat):Int)
def Kxt (n a b:Nat):Int:=(((n + 1 - min (Kxr n a) (Kxr n b)) % (n + 1):Nat):Int)
def Kxu (n a b:Nat):Bool:=decide (Kxr n a ≤ Kxr n b)
def Kxv (n:Nat):K02:=⟨((n + 1:Nat):Int),(List.range' 0 (n + 1)).flatMap (fun a=>(List.range' 0 (n + 1)).map (Kxs n a)),(List.range' 0 (n + 1)).flatMap (fun a=>(List.range' 0 (n + 1)).map (Kxt n a)),(List.range' 0 (n + 1)).flatMap (fun a=>(List.range' 0 (n + 1)).map (Kxu n a))⟩
theorem Kxw (a b:Nat):K8l ((a:Int),(b:Int))=some ((max a b:Nat):Int):=by
 unfold K8l
 simp only
 by_cases h:b < a
 ·rw [decide_eq_true (by omega),if_pos rfl,Nat.max_eq_left (by omega)]
 ·rw [decide_eq_false (by omega),if_neg (by decide),Nat.max_eq_right (by omega)]
theorem Kxx (a b:Nat):Int.tmod (a:Int) (b:Int)=((a % b:Nat):Int):=(Int.ofNat_tmod a b).symm
theorem Kxy (n a:Nat) (hn:n ≤ 1000) (ha:a ≤ n + 1):Int.tmod (wr (((n + 1:Nat):Int) - (a:Int))) ((n + 1:Nat):Int)=(((n + 1 - a) % (n + 1):Nat):Int):=by
 rw [Kmi (by omega) (by omega),show ((n + 1:Nat):Int) - (a:Int)=((n + 1 - a:Nat):Int) from by omega,Kxx]
theorem Kxz (n a:Nat):Kxr n a ≤ n:=by
 have:=Nat.mod_lt (n + 1 - a) (show 0 < n + 1 by omega)
 unfold Kxr
 omega
theorem Ky0 (n a:Nat) (hn:n ≤ 15) (ha:a ≤ n):∀ (k b:Nat) (P T:List Int) (B:List Bool),b + k=n + 1→P.length + k ≤ 1000000→T.length + k ≤ 1000000→B.length + k ≤ 1000000 →
  K8p ((n:Int),(a:Int),P,T,B,(b:Int))=some (P ++ (List.range' b k).map (Kxs n a),T ++ (List.range' b k).map (Kxt n a),B ++ (List.range' b k).map (Kxu n a)):=by
 intro k
 induction k with
 | zero =>
  intro b P T B hb _ _ _
  rw [K8p.eq_def]
  simp only
  rw [Kxl (by omega),if_neg (by decide)]
  simp
 | succ k ih =>
  intro b P T B hb h4 h5 h6
  have ck:chk (((n + 1:Nat):Int) ≠ 0)=some ():=by unfold chk; rw [if_pos (by omega)]
  have m1:=Kxz n a
  have m2:=Kxz n b
  have x1:Int.tmod (wr (((n + 1:Nat):Int) - (a:Int))) ((n + 1:Nat):Int)=((Kxr n a:Nat):Int):=Kxy n a (by omega) (by omega)
  have x2:Int.tmod (wr (((n + 1:Nat):Int) - (b:Int))) ((n + 1:Nat):Int)=((Kxr n b:Nat):Int):=Kxy n b (by omega) (by omega)
  rw [K8p.eq_def]
  simp only
  rw [Kxk (by omega),if_pos rfl,Kmk (n:=n) (by omega),ck,bs,bs,x1,x2,Kxw,bs,bs,Kqv,bs,bs,Kxy n _ (by omega) (by omega),Kxy n _ (by omega) (by omega),Kpx (by simp; omega),bs,Kpx (by simp; omega),bs,Kpx (by simp; omega),bs,Kmk (by omega),ih (b + 1) _ _ _ (by omega) (by simp; omega) (by simp; omega) (by simp; omega)]
  simp [List.range'_succ,Kxs,Kxt,Kxu]
theorem Ky1 (n:Nat) (hn:n ≤ 15):∀ (k a:Nat) (P T:List Int) (B:List Bool),a + k=n + 1→P.length + k * 16 ≤ 10000→T.length + k * 16 ≤ 10000→B.length + k * 16 ≤ 10000 →
  K8t ((n:Int),P,T,B,(a:Int))=some (P ++ (List.range' a k).flatMap (fun a=>(List.range' 0 (n + 1)).map (Kxs n a)),T ++ (List.range' a k).flatMap (fun a=>(List.range' 0 (n + 1)).map (Kxt n a)),B ++ (List.range' a k).flatMap (fun a=>(List.range' 0 (n + 1)).map (Kxu n a))):=by
 intro k
 induction k with
 | zero =>
  intro a P T B hb _ _ _
  rw [K8t.eq_def]
  simp only
  rw [Kxl (by omega),if_neg (by decide)]
  simp
 | succ k ih =>
  intro a P T B hb h1 h2 h3
  rw [K8t.eq_def]
  simp only
  rw [Kxk (by omega),if_pos rfl,show (0:Int)=((0:Nat):Int) from rfl,Ky0 n a hn (by omega) (n + 1) 0 P T B (by omega) (by omega) (by omega) (by omega),bs]
  simp only
  rw [Kmk (by omega),ih (a + 1) _ _ _ (by omega) (by simp; omega) (by simp; omega) (by simp; omega)]
  simp [List.range'_succ,List.flatMap_cons]
theorem Ky2 (n:Nat) (h1:1 ≤ n) (h2:n ≤ 15):K8w (n:Int)=some (Kxv n):=by
 unfold K8w
 rw [sIn,bs,show inB (n:Int) 1 15=true from by unfold inB; rw [decide_eq_true (by omega),decide_eq_true (by omega)]; rfl,if_pos rfl,show (0:Int)=((0:Nat):Int) from rfl,Ky1 n h2 (n + 1) 0 [] [] [] (by omega) (by simp; omega) (by simp; omega) (by simp; omega),bs]
 simp only
 rw [Kmk (by omega)]
 rfl
def Ky3 (n g:Nat):Nat:=if g=0 then 0 else if g=1 then 1 else if g ≤ n + 1 then (g - 1) / n else g / n
def Ky4 (n g:Nat):Nat:=if g < 2 then g else if g ≤ n + 1 then (g - 1) % n else g % n
def Ky5 (n x y:Nat):Nat:=if x * n + y=0 then 0 else if x * n + y=n + 1 then 1 else if x * n + y < n + 1 then x * n + y + 1 else x * n + y
theorem Ky6 (a b:Nat):Int.tdiv (a:Int) (b:Int)=((a / b:Nat):Int):=(Int.ofNat_tdiv a b).symm
theorem Ky7 (n g:Nat) (hn:1 ≤ n) (hn2:n ≤ 100) (hg:g ≤ 1000):Kan ((n:Int),(g:Int))=some ((Ky3 n g:Nat):Int):=by
 have ck:chk ((n:Int) ≠ 0)=some ():=by unfold chk; rw [if_pos (by omega)]
 have hd:∀ x,x ≤ 1000→x / n ≤ 1000:=fun x hx=>Nat.le_trans (Nat.div_le_self _ _) hx
 unfold Kan Ky3
 simp only
 by_cases h0:g=0
 ·rw [if_pos (by simp [h0]),if_pos h0]; rfl
 rw [if_neg (by simpa using h0),if_neg h0]
 by_cases h1:g=1
 ·rw [if_pos (by simp [h1]),if_pos h1]; rfl
 rw [if_neg (by simp; omega),if_neg h1,Kmk (by omega)]
 by_cases h2:g ≤ n + 1
 ·rw [Kxk h2,if_pos rfl,if_pos h2,ck,bs,Kmi (x:=(g:Int) - 1) (by omega) (by omega),show (g:Int) - 1=((g - 1:Nat):Int) from by omega,Ky6]
  have:=hd (g - 1) (by omega)
  generalize (g - 1) / n=q at *
  rw [Kmi (by omega) (by omega)]
 ·rw [Kxl (by omega),if_neg (by decide),if_neg h2,ck,bs,Ky6]
  have:=hd g hg
  generalize g / n=q at *
  rw [Kmi (by omega) (by omega)]
theorem Ky8 (n g:Nat) (hn:1 ≤ n) (hn2:n ≤ 100) (hg:g ≤ 1000):Kaq ((n:Int),(g:Int))=some ((Ky4 n g:Nat):Int):=by
 have ck:chk ((n:Int) ≠ 0)=some ():=by unfold chk; rw [if_pos (by omega)]
 unfold Kaq Ky4
 simp only
 by_cases h0:g < 2
 ·rw [decide_eq_true (by omega),if_pos rfl,if_pos h0]
 rw [decide_eq_false (by omega),if_neg (by decide),if_neg h0,Kmk (by omega)]
 by_cases h2:g ≤ n + 1
 ·rw [Kxk h2,if_pos rfl,if_pos h2,ck,bs,Kmi (x:=(g:Int) - 1) (by omega) (by omega),show (g:Int) - 1=((g - 1:Nat):Int) from by omega,Kxx]
 ·rw [Kxl (by omega),if_neg (by decide),if_neg h2,ck,bs,Kxx]
theorem Ky9 (n x y:Nat) (hn:n ≤ 100) (hx:x ≤ 100) (hy:y ≤ 100):Kat ((n:Int),(x:Int),(y:Int))=some ((Ky5 n x y:Nat):Int):=by
 have hxn:x * n ≤ 100 * 100:=Nat.mul_le_mul hx hn
 have e:wr (wr ((x:Int) * (n:Int)) + (y:Int))=((x * n + y:Nat):Int):=by
  rw [← Int.natCast_mul,Kmi (x:=((x * n:Nat):Int)) (by omega) (by omega),Kmi (by omega) (by omega)]; omega
 unfold Kat Ky5
 simp only
 rw [e,Kmk (n:=n) (by omega)]
 by_cases h0:x * n + y=0
 ·rw [if_pos (by rw [h0]; rfl),if_pos h0]; rfl
 rw [if_neg (by simp; omega),if_neg h0]
 by_cases h1:x * n + y=n + 1
 ·rw [if_pos (by rw [h1]; simp),if_pos h1]; rfl
 rw [if_neg (by simp; omega),if_neg h1]
 by_cases h2:x * n + y < n + 1
 ·rw [Kml h2,if_pos rfl,if_pos h2,Kmk (by omega)]
 ·rw [Kmm (by omega),if_neg (by decide),if_neg h2]
theorem Kya {m n g:Nat} (hm:2 ≤ m) (hn:2 ≤ n) (h:g < m * n):Ky3 n g < m:=by
 unfold Ky3
 split
 ·omega
 split
 ·omega
 split
 ·refine Nat.div_lt_of_lt_mul ?_
  rw [Nat.mul_comm]; omega
 ·exact Nat.div_lt_of_lt_mul (by rw [Nat.mul_comm]; exact h)
theorem Kyb {n g:Nat} (hn:2 ≤ n):Ky4 n g < n:=by
 unfold Ky4
 split
 ·omega
 split
 ·exact Nat.mod_lt _ (by omega)
 ·exact Nat.mod_lt _ (by omega)
def Kyc (a b:K02) (m n g h:Nat):Int:=((Ky5 n (pl a m (Ky3 n g) (Ky3 n h)) (pl b n (Ky4 n g) (Ky4 n h)):Nat):Int)
def Kyd (a b:K02) (m n g h:Nat):Int:=((Ky5 n (ti a m (Ky3 n g) (Ky3 n h)) (ti b n (Ky4 n g) (Ky4 n h)):Nat):Int)
def Kye (a b:K02) (m n g h:Nat):Bool:=le a m (Ky3 n g) (Ky3 n h) && le b n (Ky4 n g) (Ky4 n h)
def Kyf (a b:K02) (m n:Nat):K02:=⟨((m * n:Nat):Int),(List.range' 0 (m * n)).flatMap (fun g=>(List.range' 0 (m * n)).map (Kyc a b m n g)),(List.range' 0 (m * n)).flatMap (fun g=>(List.range' 0 (m * n)).map (Kyd a b m n g)),(List.range' 0 (m * n)).flatMap (fun g=>(List.range' 0 (m * n)).map (Kye a b m n g))⟩
theorem Kyg {m n:Nat} (hm:2 ≤ m) (hn:2 ≤ n) (hmn:m * n ≤ 16):m ≤ 16∧n ≤ 16:=⟨Nat.le_trans (Nat.le_mul_of_pos_right m (by omega)) hmn,Nat.le_trans (Nat.le_mul_of_pos_left n (by omega)) hmn⟩
section
variable {a b:K02} {m n:Nat} (ta:Tab a m) (tb:Tab b n) (hm:2 ≤ m) (hn:2 ≤ n) (hmn:m * n ≤ 16)
include ta tb hm hn hmn
theorem Kyh {g:Nat} (hg:g < m * n):∀ (k h:Nat) (P T:List Int) (B:List Bool),h + k=m * n→P.length + k ≤ 1000000→T.length + k ≤ 1000000→B.length + k ≤ 1000000 →
  Kax (a,b,(g:Int),P,T,B,(h:Int))=some (P ++ (List.range' h k).map (Kyc a b m n g),T ++ (List.range' h k).map (Kyd a b m n g),B ++ (List.range' h k).map (Kye a b m n g)):=by
 obtain ⟨hm16,hn16⟩:=Kyg hm hn hmn
 have hN:wr (a.fSize * b.fSize)=((m * n:Nat):Int):=by
  rw [ta.size,tb.size,← Int.natCast_mul,Kmi (by omega) (by omega)]
 intro k
 induction k with
 | zero =>
  intro h P T B hb _ _ _
  rw [Kax.eq_def]
  simp only
  rw [hN,Kmm (by omega),if_neg (by decide)]
  simp
 | succ k ih =>
  intro h P T B hb h4 h5 h6
  have f1:=Kya hm hn hg
  have f2:=Kya hm hn (show h < m * n by omega)
  have s1:Ky4 n g < n:=Kyb hn
  have s2:Ky4 n h < n:=Kyb hn
  have p1:=Kmq ta f1 f2
  have p2:=Kmq tb s1 s2
  have t1:=Kmr ta f1 f2
  have t2:=Kmr tb s1 s2
  rw [Kax.eq_def]
  simp only
  rw [hN,Kml (by omega),if_pos rfl,tb.size,Ky7 n g (by omega) (by omega) (by omega),bs,Ky8 n g (by omega) (by omega) (by omega),bs,Ky7 n h (by omega) (by omega) (by omega),bs,Ky8 n h (by omega) (by omega) (by omega),bs,
   Kmv ta f1 f2,bs,Kmv tb s1 s2,bs,Ky9 n _ _ (by omega) (by omega) (by omega),bs,Kpx (by simp; omega),bs,Kmw ta f1 f2,bs,Kmw tb s1 s2,bs,Ky9 n _ _ (by omega) (by omega) (by omega),bs,Kpx (by simp; omega),bs,sLe ta f1 f2,bs,sLe tb s1 s2,bs]
  have f:∀ x:Bool,Qdw (B.length + [x].length) 1=some ():=fun x=>Kpx (by simp; omega)
  have e3:((if le a m (Ky3 n g) (Ky3 n h)=true then Qdw (B.length + [le b n (Ky4 n g) (Ky4 n h)].length) 1 >>= fun _=>some (B ++ [le b n (Ky4 n g) (Ky4 n h)]) else Qdw (B.length + [false].length) 1 >>= fun _=>some (B ++ [false])):Option (List Bool))=some (B ++ [Kye a b m n g h]):=by
   rw [f,f,bs,bs]
   unfold Kye
   cases le a m (Ky3 n g) (Ky3 n h) <;> rfl
  rw [e3,bs,Kmk (by omega),ih (h + 1) _ _ _ (by omega) (by simp; omega) (by simp; omega) (by simp; omega)]
  simp [List.range'_succ,Kyc,Kyd]
theorem Kyi:∀ (k g:Nat) (P T:List Int) (B:List Bool),g + k=m * n→P.length + k * 16 ≤ 10000→T.length + k * 16 ≤ 10000→B.length + k * 16 ≤ 10000 →
  Kb1 (a,b,P,T,B,(g:Int))=some (P ++ (List.range' g k).flatMap (fun g=>(List.range' 0 (m * n)).map (Kyc a b m n g)),T ++ (List.range' g k).flatMap (fun g=>(List.range' 0 (m * n)).map (Kyd a b m n g)),B ++ (List.range' g k).flatMap (fun g=>(List.range' 0 (m * n)).map (Kye a b m n g))):=by
 have hN:wr (a.fSize * b.fSize)=((m * n:Nat):Int):=by
  rw [ta.size,tb.size,← Int.natCast_mul,Kmi (by omega) (by omega)]
 intro k
 induction k with
 | zero =>
  intro g P T B hb _ _ _
  rw [Kb1.eq_def]
  simp only
  rw [hN,Kmm (by omega),if_neg (by decide)]
  simp
 | succ k ih =>
  intro g P T B hb h1 h2 h3
  rw [Kb1.eq_def]
  simp only
  rw [hN,Kml (by omega),if_pos rfl,show (0:Int)=((0:Nat):Int) from rfl,Kyh ta tb hm hn hmn (by omega) (m * n) 0 P T B (by omega) (by omega) (by omega) (by omega),bs]
  simp only
  rw [Kmk (by omega),ih (g + 1) _ _ _ (by omega) (by simp; omega) (by simp; omega) (by simp; omega)]
  simp [List.range'_succ,List.flatMap_cons]
theorem Kyj (sa:Kqa a=true) (sb:Kqa b=true):Kb4 (a,b)=some (Kyf a b m n,true):=by
 have hN:wr (a.fSize * b.fSize)=((m * n:Nat):Int):=by
  rw [ta.size,tb.size,← Int.natCast_mul,Kmi (by omega) (by omega)]
 unfold Kb4 Kak
 simp only
 rw [Kqc,Kqc,bs,sa,if_pos rfl,bs,sb,if_pos rfl,bs,hN,decide_eq_true (by omega),bs,if_pos rfl,show (0:Int)=((0:Nat):Int) from rfl,Kyi ta tb hm hn hmn (m * n) 0 [] [] [] (by omega) (by simp; omega) (by simp; omega) (by simp; omega),bs]
 rfl
end
def Kyk:K02:=⟨3,[0,1,2,1,2,2,2,2,2],[0,0,0,0,1,2,0,2,2],[true,true,true,false,true,true,false,false,true]⟩
def Kyl:K02:=⟨4,[0,1,2,3,1,2,3,3,2,3,3,3,3,3,3,3],[0,0,0,0,0,1,2,3,0,2,3,3,0,3,3,3],[true,true,true,true,false,true,true,true,false,false,true,true,false,false,false,true]⟩
def Kym:K02:=⟨5,[0,1,2,3,4,1,2,3,4,4,2,3,4,4,4,3,4,4,4,4,4,4,4,4,4],[0,0,0,0,0,0,1,2,3,4,0,2,4,4,4,0,3,4,4,4,0,4,4,4,4],[true,true,true,true,true,false,true,true,true,true,false,false,true,true,true,false,false,false,true,true,false,false,false,false,true]⟩
def Kyn:K02:=⟨3,[0,1,2,1,2,2,2,2,2],[0,0,0,0,1,2,0,2,2],[true,false,true,false,true,true,false,false,true]⟩
def Kyo:K02:=⟨4,[0,1,2,3,1,2,3,3,2,3,3,3,3,3,3,3],[0,0,0,0,0,1,2,3,0,2,3,3,0,3,3,3],[true,false,false,true,false,true,false,true,false,false,true,true,false,false,false,true]⟩
def Kyp:K02:=⟨5,[0,1,2,3,4,1,2,3,4,4,2,3,4,4,4,3,4,4,4,4,4,4,4,4,4],[0,0,0,0,0,0,1,2,3,4,0,2,4,4,4,0,3,4,4,4,0,4,4,4,4],[true,false,false,false,true,false,true,false,false,true,false,false,true,false,true,false,false,false,true,true,false,false,false,false,true]⟩
def Kyq:K02:=⟨2,[0,1,1,1],[0,0,0,1],[true,true,false,true]⟩
def Kyr:K02:=⟨3,[0,1,2,1,1,1,2,1,2],[0,0,0,0,1,2,0,2,2],[true,true,true,false,true,false,false,true,true]⟩
def Kys:K02:=⟨4,[0,1,2,3,1,1,1,1,2,1,2,2,3,1,2,3],[0,0,0,0,0,1,2,3,0,2,2,3,0,3,3,3],[true,true,true,true,false,true,false,false,false,true,true,false,false,true,true,true]⟩
def Kyt:K02:=⟨6,[0,1,2,3,4,5,1,5,1,5,5,5,2,1,2,1,5,5,3,5,1,4,4,5,4,5,5,4,4,5,5,5,5,5,5,5],[0,0,0,0,0,0,0,1,2,3,4,5,0,2,2,0,0,2,0,3,0,3,4,4,0,4,0,4,4,4,0,5,2,4,4,5],[true,false,true,false,true,true,false,true,false,false,false,true,false,false,true,false,false,true,false,true,false,true,true,true,false,false,false,false,true,true,false,false,false,false,false,true]⟩
def Kyu:K02:=⟨9,[0,1,2,3,4,5,6,7,8,1,7,1,1,7,7,7,7,7,2,1,2,2,1,1,7,7,7,3,1,2,3,5,5,8,7,8,4,7,1,5,6,8,6,7,8,5,7,1,5,8,8,8,7,8,6,7,7,8,6,8,6,7,8,7,7,7,7,7,7,7,7,7,8,7,7,8,8,8,8,7,8],[0,0,0,0,0,0,0,0,0,0,1,2,3,4,5,6,7,8,0,2,2,3,0,3,0,2,3,0,3,3,3,0,3,0,3,3,0,4,0,0,4,4,6,6,6,0,5,3,3,4,5,6,8,8,0,6,0,0,6,6,6,6,6,0,7,2,3,6,8,6,7,8,0,8,3,3,6,8,6,8,8],[true,false,true,true,false,false,true,true,true,false,true,false,false,false,false,false,true,false,false,false,true,false,false,false,false,true,false,false,false,true,true,false,false,false,true,true,false,true,false,false,true,true,true,true,true,false,true,false,false,false,true,false,true,true,false,false,false,false,false,false,true,true,true,false,false,false,false,false,false,false,true,false,false,false,false,false,false,false,false,true,true]⟩
theorem Kyv:Kxj 1 true=Kyk:=by kernel_rfl
theorem Kyw:Kqa Kyk=true:=by kernel_rfl
theorem Kyx:Kxj 2 true=Kyl:=by kernel_rfl
theorem Kyy:Kqa Kyl=true:=by kernel_rfl
theorem Kyz:Kxj 3 true=Kym:=by kernel_rfl
theorem Kz0:Kqa Kym=true:=by kernel_rfl
theorem Kz1:Kxj 1 false=Kyn:=by kernel_rfl
theorem Kz2:Kqa Kyn=true:=by kernel_rfl
theorem Kz3:Kxj 2 false=Kyo:=by kernel_rfl
theorem Kz4:Kqa Kyo=true:=by kernel_rfl
theorem Kz5:Kxj 3 false=Kyp:=by kernel_rfl
theorem Kz6:Kqa Kyp=true:=by kernel_rfl
theorem Kz7:Kxv 1=Kyq:=by kernel_rfl
theorem Kz8:Kqa Kyq=true:=by kernel_rfl
theorem Kz9:Kxv 2=Kyr:=by kernel_rfl
theorem Kza:Kqa Kyr=true:=by kernel_rfl
theorem Kzb:Kxv 3=Kys:=by kernel_rfl
theorem Kzc:Kqa Kys=true:=by kernel_rfl
theorem Kzd:Kyf Kyn Kyq 3 2=Kyt:=by kernel_rfl
theorem Kze:Kqa Kyt=true:=by kernel_rfl
theorem Kzf:Kyf Kyn Kyr 3 3=Kyu:=by kernel_rfl
theorem Kzg:Kqa Kyu=true:=by kernel_rfl
def Kzh:List K02:=[Kyk,Kyl,Kym,Kyn,Kyo,Kyp,Kyq,Kyr,Kys,Kyt,Kyu]
theorem Kzi {s:K02} (h:s ∈ Kzh):Kqa s=true∧(2 ≤ s.fSize∧s.fSize ≤ 9)∧sms s ≤ 300:=by
 simp only [Kzh,List.mem_cons,List.not_mem_nil,or_false] at h
 rcases h with rfl | rfl | rfl | rfl | rfl | rfl | rfl | rfl | rfl | rfl | rfl
 ·exact ⟨Kyw,by decide,by decide⟩
 ·exact ⟨Kyy,by decide,by decide⟩
 ·exact ⟨Kz0,by decide,by decide⟩
 ·exact ⟨Kz2,by decide,by decide⟩
 ·exact ⟨Kz4,by decide,by decide⟩
 ·exact ⟨Kz6,by decide,by decide⟩
 ·exact ⟨Kz8,by decide,by decide⟩
 ·exact ⟨Kza,by decide,by decide⟩
 ·exact ⟨Kzc,by decide,by decide⟩
 ·exact ⟨Kze,by decide,by decide⟩
 ·exact ⟨Kzg,by decide,by decide⟩
theorem Kzj (x:Int) (h:Kxc 3 x):x=0∨x=1∨x=2:=by
 have:=h.1 (by decide)
 omega
theorem Kzk {x:Int} (h:Kxc 3 x):Gv (K8f (wr (1 + x))) (fun s=>s ∈ Kzh):=by
 rcases Kzj x h with rfl | rfl | rfl
 ·exact .eq (Kxq 1 (by decide) (by decide)) (by rw [Kyv]; simp [Kzh])
 ·exact .eq (Kxq 2 (by decide) (by decide)) (by rw [Kyx]; simp [Kzh])
 ·exact .eq (Kxq 3 (by decide) (by decide)) (by rw [Kyz]; simp [Kzh])
theorem Kzl {x:Int} (h:Kxc 3 x):Gv (K8i (wr (1 + x))) (fun s=>s ∈ Kzh):=by
 rcases Kzj x h with rfl | rfl | rfl
 ·exact .eq (Kxp 1 (by decide) (by decide)) (by rw [Kz1]; simp [Kzh])
 ·exact .eq (Kxp 2 (by decide) (by decide)) (by rw [Kz3]; simp [Kzh])
 ·exact .eq (Kxp 3 (by decide) (by decide)) (by rw [Kz5]; simp [Kzh])
theorem Kzm {x:Int} (h:Kxc 3 x):Gv (K8w (wr (1 + x))) (fun s=>s ∈ Kzh):=by
 rcases Kzj x h with rfl | rfl | rfl
 ·exact .eq (Ky2 1 (by decide) (by decide)) (by rw [Kz7]; simp [Kzh])
 ·exact .eq (Ky2 2 (by decide) (by decide)) (by rw [Kz9]; simp [Kzh])
 ·exact .eq (Ky2 3 (by decide) (by decide)) (by rw [Kzb]; simp [Kzh])
theorem Kzn {c:K01} (h:Kx6 c):Gv (Kb7 c) (fun r=>r.1 ∈ Kzh∧Kx6 r.2):=by
 unfold Kb7
 refine Gv.bind (Kxd h 3) ?_
 rintro ⟨x,c1⟩ ⟨hx,h1⟩
 simp only at hx h1 ⊢
 refine Gv.bind (Kzk hx) (fun s0 hs0=>?_)
 refine Gv.bind (Kxd h1 8) ?_
 rintro ⟨y,c2⟩ ⟨hy,h2⟩
 simp only at hy h2 ⊢
 have fin:∀ (R:Int × List Int × List Int × List Bool × List Int × Int × Int→Prop),True:=fun _=>trivial
 refine Gv.bind (Q:=fun _=>True) (.ite (fun _=>.of trivial) (fun _=>Gv.bind (Q:=fun _=>True) (.ite (fun _=>.of trivial) (fun _=>.of trivial)) (fun _ _=>.of trivial))) (fun j5 _=>?_)
 refine Gv.bind (Q:=fun r:Int × List Int × List Int × List Bool × List Int × Int × Int=>(⟨r.1,r.2.1,r.2.2.1,r.2.2.2.1⟩:K02) ∈ Kzh∧Kx6 ⟨r.2.2.2.2.1,r.2.2.2.2.2.1,r.2.2.2.2.2.2⟩) (.ite (fun _=>?_) (fun _=>?_)) ?_
 ·exact Gv.bind (Kzl hx) (fun s hs=>.of ⟨hs,h2⟩)
 ·refine Gv.bind (Q:=fun _=>True) (.ite (fun _=>.of trivial) (fun _=>.of trivial)) (fun j9 _=>?_)
  refine Gv.bind (Q:=fun r:Int × List Int × List Int × List Bool × List Int × Int × Int=>(⟨r.1,r.2.1,r.2.2.1,r.2.2.2.1⟩:K02) ∈ Kzh∧Kx6 ⟨r.2.2.2.2.1,r.2.2.2.2.2.1,r.2.2.2.2.2.2⟩) (.ite (fun _=>?_) (fun _=>?_)) (by rintro ⟨a,b,d,e,f,g,i⟩ q; exact .of q)
  ·exact Gv.bind (Kzm hx) (fun s hs=>.of ⟨hs,h2⟩)
  ·refine Gv.bind (Q:=fun r:Int × List Int × List Int × List Bool × List Int × Int × Int=>(⟨r.1,r.2.1,r.2.2.1,r.2.2.2.1⟩:K02) ∈ Kzh∧Kx6 ⟨r.2.2.2.2.1,r.2.2.2.2.2.1,r.2.2.2.2.2.2⟩) (.ite (fun _=>?_) (fun _=>.of ⟨hs0,h2⟩)) (by rintro ⟨a,b,d,e,f,g,i⟩ q; exact .of q)
   rw [show (1:Int)=((1:Nat):Int) from rfl,Kxp 1 (by decide) (by decide),Kz1,bs]
   refine Gv.bind (Kxd h2 2) ?_
   rintro ⟨z,c3⟩ ⟨hz,h3⟩
   simp only at hz h3 ⊢
   have hz:=hz.1 (by decide)
   have t3:Tab Kyn 3:=Kqb Kz2
   rcases (show z=0∨z=1 by omega) with rfl | rfl
   ·have e:wr (((1:Nat):Int) + 0)=((1:Nat):Int):=rfl
    rw [e,Ky2 1 (by decide) (by decide),Kz7,bs,Kyj (m:=3) (n:=2) t3 (Kqb Kz8) (by decide) (by decide) (by decide) Kz2 Kz8,Kzd,bs]
    exact .of ⟨by simp [Kzh],h3⟩
   ·have e:wr (((1:Nat):Int) + 1)=((2:Nat):Int):=rfl
    rw [e,Ky2 2 (by decide) (by decide),Kz9,bs,Kyj (m:=3) (n:=3) t3 (Kqb Kza) (by decide) (by decide) (by decide) Kz2 Kza,Kzf,bs]
    exact .of ⟨by simp [Kzh],h3⟩
 ·rintro ⟨a,b,d,e,f,g,i⟩ q
  exact .of q
theorem Kzo (c:Int) (a:List Int) (h:a.length ≤ 1000000):Kbe (c,[a])=some (c :: a):=by
 rw [Ku1 c [a] (by simp) (by simp; omega)]; simp
theorem Kzp (c:Int) (a b:List Int) (h:a.length + b.length ≤ 1000000):Kbe (c,[a,b])=some (c :: (a ++ b)):=by
 rw [Ku1 c [a,b] (by simp) (by simp; omega)]; simp
theorem Kzq (d:Nat) (hd:d ≤ 10):2 ^ d ≤ 1024:=Nat.le_trans (Nat.pow_le_pow_right (by decide) hd) (by decide)
structure Kzr (s:K02) (ctx:List (List Int)) (t:K00) (y:Klo):Prop where
 ok:tOk (gN s.fSize true) (yN s.fSize true) ctx.length t=true
 cx:∀ q ∈ ctx,TyS s q
 bd:ctx.length + 2 * tsz t ≤ 1000000
 im:Kmg (⟨s⟩,ctx,t)=some y
 fa:y.ffault=0
section
variable {s:K02} {n:Nat} (hs:Kt1 s n) {ctx:List (List Int)} {t:K00} {y:Klo}
include hs
theorem Kzr.tell (g:Kzr s ctx t y):∃ x,Kvx s n ctx t x y∧x.ffault=0∧x.fty=y.fty∧TyS s y.fty:=by
 obtain ⟨x,y',r⟩:=Kx5 hs (tsz t) t ctx (Nat.le_refl _) g.ok g.cx g.bd
 have e:=r.im
 rw [g.im] at e
 cases e
 have hf:x.ffault=0:=by rw [← r.fa]; exact g.fa
 exact ⟨x,r,hf,r.ty.symm,by rw [r.ty]; exact (r.gd hf).1⟩
theorem Kzr.kid (g:Kzr s ctx t y) {i:Nat} {k:K00} (hk:t.fKids[i]?=some k):∃ yk,y.fkids[i]?=some yk∧Kzr s (Kvv t i y.fkids ++ ctx) k yk∧(Kvv t i y.fkids).length=Koz t.fOp i:=by
 obtain ⟨x,r,hf,_⟩:=g.tell hs
 obtain ⟨yk,h1,h2⟩:=(r.kd hf).2 i k hk
 obtain ⟨hi,hg⟩:=List.getElem?_eq_some_iff.1 hk
 have hm:k ∈ t.fKids:=hg ▸ List.getElem_mem hi
 have h3:=Kru t.fKids t.fOp ctx.length 0 i hi (Kpt g.ok).2
 rw [hg,Nat.zero_add] at h3
 have h4:=Kqz hm
 have h5:=Kp0 t.fOp (i:Int)
 have h6:=g.bd
 have h7:=h2.ln
 refine ⟨yk,h1,⟨?_,?_,?_,h2.im,h2.fa⟩,h7⟩
 ·rw [List.length_append,h7,Nat.add_comm]; exact h3
 ·intro q hq
  rcases List.mem_append.1 hq with hq | hq
  ·exact h2.ty q hq
  ·exact g.cx q hq
 ·rw [List.length_append,h7]; omega
theorem Kzr.first (g:Kzr s ctx t y) (h0:0 < t.fKids.length) (ha:Koz t.fOp ((0:Nat):Int)=0):∃ k0 y0 x0 l,t.fKids[0]?=some k0∧y.fkids=y0 :: l∧(Kvx s n ctx k0 x0 y0∧x0.ffault=0)∧Kdm (s,ctx,k0)=some x0∧x0.fty=y0.fty∧TyS s y0.fty:=by
 have hk:t.fKids[0]?=some t.fKids[0]:=List.getElem?_eq_getElem h0
 obtain ⟨y0,h1,h2,h3⟩:=g.kid hs hk
 rw [ha] at h3
 rw [List.eq_nil_of_length_eq_zero h3,List.nil_append] at h2
 obtain ⟨x0,r,hf,h4,h5⟩:=h2.tell hs
 cases e:y.fkids with
 | nil=>rw [e] at h1; cases h1
 | cons z l =>
  rw [e] at h1
  cases h1
  exact ⟨_,_,x0,l,hk,rfl,⟨r,hf⟩,r.sp,h4,h5⟩
end
theorem Kzs {s:K02} {c:Int} {a b:List Int} (hk:Knn c=2) (hg:Ko9 s.fSize true c=true) (ha:TyS s a) (hb:TyS s b) (hl:a.length + b.length + 1 ≤ 40):TyS s (c :: (a ++ b)):=by
 obtain ⟨A,a1,rfl,a3,a4⟩:=Kub ha
 obtain ⟨B,b1,rfl,b3,b4⟩:=Kub hb
 refine Kuc (T:=.bin c A B) ⟨hk,a1,b1⟩ (by rw [Ty.code,List.length_cons,List.length_append]; omega) ?_
 rw [Ty.code,List.all_cons,List.all_append,hg,a4,b4]; rfl
theorem Kzt {s:K02} {c:Int} {a:List Int} (hk:Knn c=1) (hg:Ko9 s.fSize true c=true) (ha:TyS s a) (hl:a.length + 1 ≤ 40):TyS s (c :: a):=by
 obtain ⟨A,a1,rfl,a3,a4⟩:=Kub ha
 refine Kuc (T:=.un c A) ⟨hk,a1⟩ (by rw [Ty.code,List.length_cons]; omega) ?_
 rw [Ty.code,List.all_cons,hg,a4]; rfl
theorem Kzu {s:K02}:Ko9 s.fSize true 1=true:=by unfold Ko9; simp
theorem Kzv {s:K02}:Ko9 s.fSize true 2=true:=by unfold Ko9; simp
theorem Kzw {s:K02} {q:List Int} (h:TyS s q):1 ≤ q.length:=by
 obtain ⟨T,_,rfl,_,_⟩:=Kub h
 exact Kqf T
def Kzx (s:K02) (m b:Nat) (t:K00):Prop:=tOk (gN s.fSize true) (yN s.fSize true) m t=true∧tsz t ≤ b
def Kzy (s:K02) (ctx:List (List Int)):Prop:=∀ q ∈ ctx,TyS s q
theorem Kzz {s:K02} {ctx:List (List Int)} {q:List Int} (h:Kzy s ctx) (hq:TyS s q):Kzy s (q :: ctx):=fun x hx=>by
 rcases List.mem_cons.1 hx with rfl | hx
 ·exact hq
 ·exact h x hx
theorem V00 {s:K02} {m:Nat} {i:Nat} (hi:i < m):Kzx s m 1 ⟨0,(i:Int),[],[]⟩:=by
 refine ⟨?_,by simp [tsz,Kof]⟩
 rw [Kp7]
 simp [Kp6,Kp5,Kp3,Kp4,inB,Kop,Kor]
 omega
theorem V01 {s:K02} {m:Nat} {x:Int} (hx:0 ≤ x∧x < 3):Kzx s m 1 ⟨1,x,[],[]⟩:=by
 refine ⟨?_,by simp [tsz,Kof]⟩
 rw [Kp7]
 simp [Kp6,Kp5,Kp3,Kp4,inB,Kop,Kor]
 omega
theorem V02 {s:K02} {op:Int} {m b1 b2:Nat} {k1 k2:K00} (hop:op=2∨op=4∨op=10) (h1:Kzx s m b1 k1) (h2:Kzx s m b2 k2):Kzx s m (1 + b1 + b2) ⟨op,0,[],[k1,k2]⟩:=by
 refine ⟨?_,by have:=h1.2; have:=h2.2; simp [tsz,Kof]; omega⟩
 rw [Kp7]
 rcases hop with rfl | rfl | rfl <;> simp [Kp6,Kp5,Kp3,Kp4,inB,Kop,Kor,Koq,Koz,h1.1,h2.1]
theorem V03 {s:K02} {m b1 b2 b3:Nat} {k1 k2 k3:K00} (h1:Kzx s m b1 k1) (h2:Kzx s m b2 k2) (h3:Kzx s m b3 k3):Kzx s m (1 + b1 + b2 + b3) ⟨3,0,[],[k1,k2,k3]⟩:=by
 refine ⟨?_,by have:=h1.2; have:=h2.2; have:=h3.2; simp [tsz,Kof]; omega⟩
 rw [Kp7]
 simp [Kp6,Kp5,Kp3,Kp4,inB,Kop,Kor,Koq,Koz,h1.1,h2.1,h3.1]
theorem V04 {s:K02} {op:Int} {m b1:Nat} {q:List Int} {k1:K00} (hop:op=6∨op=7) (hq:TyS s q) (h1:Kzx s m b1 k1):Kzx s m (1 + b1) ⟨op,0,q,[k1]⟩:=by
 have hq:yN s.fSize true q=true:=hq
 refine ⟨?_,by have:=h1.2; simp [tsz,Kof]; omega⟩
 rw [Kp7]
 rcases hop with rfl | rfl <;> simp [Kp6,Kp5,Kp3,Kp4,inB,Kop,Kor,Koq,Koz,h1.1,hq]
section
variable {s:K02} {n:Nat} (hs:Kt1 s n)
include hs
theorem V05 {g:Nat} (h:g < n):Knn (3 + (g:Int))=2∧Ko9 s.fSize true (3 + (g:Int))=true:=by
 have:=hs.tab.hi
 refine ⟨by rcases Knr (3 + (g:Int)) with q | q | q | q <;> omega,(Kuh hs (by omega)).2 (by omega)⟩
theorem V06 {g:Nat} (h:g < n):Knn (19 + (g:Int))=1∧Ko9 s.fSize true (19 + (g:Int))=true:=by
 have:=hs.tab.hi
 refine ⟨by rcases Knr (19 + (g:Int)) with q | q | q | q <;> omega,(Kui hs (by omega)).2 (by omega)⟩
theorem V07:∀ (d:Nat) (c:K01) (data:Bool),d ≤ 3→Kx6 c→Gv (Kbh (c,s,(d:Int),data)) (fun r=>(TyS s r.1∧r.1.length + 1 ≤ 2 ^ (d + 1))∧Kx6 r.2):=by
 have hsz:=hs.tab.size
 have hlo:=hs.tab.lo
 intro d
 induction d with
 | zero =>
  intro c data _ h
  rw [Kbh.eq_def]
  simp only
  refine Gv.bind (Kxd h 6) ?_
  rintro ⟨x,c1⟩ ⟨hx,h1⟩
  simp only at hx h1 ⊢
  rw [show decide (((0:Nat):Int) ≤ 0)=true from rfl,if_pos rfl,bs,if_pos rfl]
  exact .of ⟨⟨Kug,by simp⟩,h1⟩
 | succ d ih =>
  intro c data hd h
  have hp:=Kzq (d + 1) (by omega)
  have hp5:2 ^ (d + 1) ≤ 8:=Nat.le_trans (Nat.pow_le_pow_right (by decide) (show d + 1 ≤ 3 by omega)) (by decide)
  have hpe:2 ^ (d + 1 + 1)=2 ^ (d + 1) + 2 ^ (d + 1):=by rw [Nat.pow_succ]; omega
  have hp1:2 ≤ 2 ^ (d + 1):=Nat.le_trans (by decide) (Nat.pow_le_pow_right (n:=2) (by decide) (show 1 ≤ d + 1 by omega))
  have wd:wr (((d + 1:Nat):Int) - 1)=((d:Nat):Int):=by rw [Kmi (by omega) (by omega)]; omega
  rw [Kbh.eq_def]
  simp only
  refine Gv.bind (Kxd h 6) ?_
  rintro ⟨x,c1⟩ ⟨hx,h1⟩
  simp only at hx h1 ⊢
  rw [show decide (((d + 1:Nat):Int) ≤ 0)=false from decide_eq_false (by omega),if_neg (by decide),bs]
  refine .ite (fun _=>.of ⟨⟨Kug,by simp; omega⟩,h1⟩) (fun _=>?_)
  rw [wd]
  refine Gv.bind (ih c1 data (by omega) h1) ?_
  rintro ⟨a,c2⟩ ⟨⟨ta,ha⟩,h2⟩
  simp only at ta ha h2 ⊢
  refine .ite (fun _=>?_) (fun _=>?_)
  ·refine Gv.bind (Kxd h2 _) ?_
   rintro ⟨y,c3⟩ ⟨hy,h3⟩
   simp only at hy h3 ⊢
   have hy:=hy.1 (by omega)
   obtain ⟨g,rfl⟩:∃ g:Nat,y=(g:Int):=⟨y.toNat,by omega⟩
   obtain ⟨k1,k2⟩:=V06 hs (g:=g) (by omega)
   have hb:=hs.tab.hi
   rw [Kmi (by omega) (by omega),Kzo _ _ (by omega),bs]
   exact .of ⟨⟨Kzt k1 k2 ta (by omega),by simp; omega⟩,h3⟩
  refine Gv.bind (Q:=fun _=>True) (.ite (fun _=>.of trivial) (fun _=>.of trivial)) (fun v _=>?_)
  refine .ite (fun _=>?_) (fun _=>.ite (fun _=>?_) (fun _=>?_))
  ·refine Gv.bind (Kxd h2 _) ?_
   rintro ⟨y,c3⟩ ⟨hy,h3⟩
   simp only at hy h3 ⊢
   have hy:=hy.1 (by omega)
   obtain ⟨g,rfl⟩:∃ g:Nat,y=(g:Int):=⟨y.toNat,by omega⟩
   obtain ⟨k1,k2⟩:=V05 hs (g:=g) (by omega)
   have hbb:=hs.tab.hi
   refine Gv.bind (ih c3 data (by omega) h3) ?_
   rintro ⟨b,c4⟩ ⟨⟨tb,hb⟩,h4⟩
   simp only at tb hb h4 ⊢
   rw [Kmi (by omega) (by omega),Kzp _ _ _ (by omega),bs]
   exact .of ⟨⟨Kzs k1 k2 ta tb (by omega),by simp; omega⟩,h4⟩
  ·refine Gv.bind (ih c2 data (by omega) h2) ?_
   rintro ⟨b,c4⟩ ⟨⟨tb,hb⟩,h4⟩
   simp only at tb hb h4 ⊢
   rw [Kzp _ _ _ (by omega),bs]
   exact .of ⟨⟨Kzs rfl Kzv ta tb (by omega),by simp; omega⟩,h4⟩
  ·refine Gv.bind (ih c2 data (by omega) h2) ?_
   rintro ⟨b,c4⟩ ⟨⟨tb,hb⟩,h4⟩
   simp only at tb hb h4 ⊢
   rw [Kzp _ _ _ (by omega),bs]
   exact .of ⟨⟨Kzs rfl Kzu ta tb (by omega),by simp; omega⟩,h4⟩
theorem V08 {ctx:List (List Int)} {t:K00} {b:Nat} (hc:Kzy s ctx) (hl:ctx.length ≤ 1000) (hb:b ≤ 400000) (h:Kzx s ctx.length b t) :
  ∃ x,Kdm (s,ctx,t)=some x∧(x.ffault=0→TyS s x.fty∧∃ ns:List Nat,x.fneeds=Ksw ns∧ns.length=ctx.length∧Ktc n ns):=by
 have:=h.2
 obtain ⟨x,y,r⟩:=Kx5 hs (tsz t) t ctx (Nat.le_refl _) h.1 hc (by omega)
 exact ⟨x,r.sp,fun hf=>let ⟨g1,_,g2⟩:=r.gd hf; ⟨g1,g2⟩⟩
theorem V09 {ctx:List (List Int)} {t:K00} {b:Nat} (hc:Kzy s ctx) (hl:ctx.length ≤ 1000) (hb:b ≤ 400000) (h:Kzx s ctx.length b t) (i:Nat) (hi:i < ctx.length) :
  ∃ g:Nat,g < n∧Kdz (s,ctx,t,(i:Int))=some (g:Int):=by
 obtain ⟨x,e,hx⟩:=V08 hs hc hl hb h
 unfold Kdz
 simp only
 rw [e,bs]
 by_cases hf:x.ffault=0
 ·obtain ⟨_,ns,e2,e3,e4⟩:=hx hf
  have hi':i < ns.length:=by omega
  refine ⟨ns[i],e4 _ (List.getElem_mem hi'),?_⟩
  rw [if_neg (by simp [hf]),e2,Kmj (by rw [Ksx]; exact hi'),bs]
  simp [Ksw]
 ·rw [if_pos (bne_iff_ne.2 hf)]
  exact ⟨0,Nat.lt_of_lt_of_le (by decide) hs.tab.lo,rfl⟩
theorem V0a {a b:Nat} (ha:a < n) (hb:b < n):∃ g:Nat,g < n∧K9u (s,(a:Int),(b:Int))=some (g:Int):=by
 obtain ⟨e,h⟩:=Kt8 hs ha hb
 exact ⟨_,h,by rw [Knb hs.tab ha hb,e]⟩
theorem V0b (c0:K01) {g:Nat} (hg:g < n):∀ (k i:Nat) (c:K01),i + k=3→Kx6 c→Gv (Ke3 (c0,s,(g:Int),c.fb,c.fi,c.fh,(i:Int))) (fun fl=>match fl with | .inl r=>Kx6 ⟨r.1,r.2.1,r.2.2⟩ | .inr r=>(∃ h:Nat,h < n∧r.1=(h:Int))∧Kx6 r.2):=by
 have hsz:=hs.tab.size
 have hlo:=hs.tab.lo
 intro k
 induction k with
 | zero =>
  intro i c hi h
  rw [Ke3.eq_def]
  simp only
  rw [decide_eq_false (by omega),if_neg (by decide),bs]
  simp only
  rw [if_neg (by decide)]
  exact .of h
 | succ k ih =>
  intro i c hi h
  rw [Ke3.eq_def]
  simp only
  rw [decide_eq_true (by omega),if_pos rfl]
  refine Gv.bind (Q:=fun r:List Int × Int × Int × Bool=>Kx6 ⟨r.1,r.2.1,r.2.2.1⟩) (Gv.bind (Kxe h 3) (by rintro ⟨x,c1⟩ h1; exact .of h1)) ?_
  rintro ⟨a,b,d,v⟩ h1
  simp only at h1 ⊢
  refine .ite (fun _=>?_) (fun _=>.of h1)
  refine Gv.bind (Kxd h1 _) ?_
  rintro ⟨y,c3⟩ ⟨hy,h3⟩
  simp only at hy h3 ⊢
  have hy:=hy.1 (by omega)
  obtain ⟨q,rfl⟩:∃ q:Nat,y=(q:Int):=⟨y.toNat,by omega⟩
  rw [sLe hs.tab hg (by omega),bs]
  refine .ite (fun _=>.of ⟨⟨q,by omega,rfl⟩,h3⟩) (fun _=>?_)
  rw [Kmk (by omega)]
  exact ih (i + 1) c3 (by omega) h3
theorem V0c {c:K01} (h:Kx6 c) {g:Nat} (hg:g < n):Gv (Ke6 (c,s,(g:Int))) (fun r=>(∃ h:Nat,h < n∧r.1=(h:Int))∧Kx6 r.2):=by
 have hsz:=hs.tab.size
 unfold Ke6
 simp only
 rw [decide_eq_false (by omega),if_neg (by decide),decide_eq_false (by omega),bs,if_neg (by decide)]
 have:=V0b hs c hg 3 0 c rfl h
 rw [show ((0:Nat):Int)=0 from rfl] at this
 refine Gv.bind this ?_
 rintro (⟨a,b,d⟩ | ⟨r,c1⟩) q
 ·exact .of ⟨⟨g,hg,rfl⟩,q⟩
 ·exact .of q
theorem V0d {g:Nat} (h:g < n):gN s.fSize true (g:Int)=true:=by
 have:=hs.tab.size
 unfold gN
 simp
 omega
theorem V0e {m b1 b2 g:Nat} {k1 k2:K00} (hg:g < n) (h1:Kzx s m b1 k1) (h2:Kzx s (m + 2) b2 k2):Kzx s m (1 + b1 + b2) ⟨5,(g:Int),[],[k1,k2]⟩:=by
 refine ⟨?_,by have:=h1.2; have:=h2.2; simp [tsz,Kof]; omega⟩
 rw [Kp7]
 simp [Kp6,Kp5,Kp3,Kp4,inB,Kop,Kor,Koq,Koz,h1.1,h2.1,V0d hs hg]
theorem V0f {m b1 b2 b3 g:Nat} {k1 k2 k3:K00} (hg:g < n) (h1:Kzx s m b1 k1) (h2:Kzx s (m + 1) b2 k2) (h3:Kzx s (m + 1) b3 k3):Kzx s m (1 + b1 + b2 + b3) ⟨8,(g:Int),[],[k1,k2,k3]⟩:=by
 refine ⟨?_,by have:=h1.2; have:=h2.2; have:=h3.2; simp [tsz,Kof]; omega⟩
 rw [Kp7]
 simp [Kp6,Kp5,Kp3,Kp4,inB,Kop,Kor,Koq,Koz,h1.1,h2.1,h3.1,V0d hs hg]
theorem V0g {m b1 b2 g:Nat} {k1 k2:K00} (hg:g < n) (h1:Kzx s m b1 k1) (h2:Kzx s (m + 1) b2 k2):Kzx s m (1 + b1 + b2) ⟨12,(g:Int),[],[k1,k2]⟩:=by
 refine ⟨?_,by have:=h1.2; have:=h2.2; simp [tsz,Kof]; omega⟩
 rw [Kp7]
 simp [Kp6,Kp5,Kp3,Kp4,inB,Kop,Kor,Koq,Koz,h1.1,h2.1,V0d hs hg]
theorem V0h {m b1 g:Nat} {k1:K00} (hg:g < n) (h1:Kzx s m b1 k1):Kzx s m (1 + b1) ⟨11,(g:Int),[],[k1]⟩:=by
 refine ⟨?_,by have:=h1.2; simp [tsz,Kof]; omega⟩
 rw [Kp7]
 simp [Kp6,Kp5,Kp3,Kp4,inB,Kop,Kor,Koq,Koz,h1.1,V0d hs hg]
theorem V0i {m b1 g:Nat} {q:List Int} {k1:K00} (hg:g < n) (hq:TyS s q) (h1:Kzx s (m + 1) b1 k1):Kzx s m (1 + b1) ⟨9,(g:Int),q,[k1]⟩:=by
 have hq:yN s.fSize true q=true:=hq
 refine ⟨?_,by have:=h1.2; simp [tsz,Kof]; omega⟩
 rw [Kp7]
 simp [Kp6,Kp5,Kp3,Kp4,inB,Kop,Kor,Koq,Koz,h1.1,hq,V0d hs hg]
end
theorem Kzx.mono {s:K02} {m b b':Nat} {t:K00} (h:Kzx s m b t) (hb:b ≤ b'):Kzx s m b' t:=⟨h.1,Nat.le_trans h.2 hb⟩
theorem sOp (op N:Int) (ks:List K00):Kby (op,N,ks)=some ⟨op,N,[],ks⟩:=rfl
def Dr (s:K02) (m b:Nat) (r:K00 × K01):Prop:=Kzx s m b r.1∧Kx6 r.2
section
variable {s:K02} {n:Nat} (hs:Kt1 s n)
theorem V0j {c0 c:K01} (h:Kx6 c) {ctx:List (List Int)} {ty:List Int} {deep:Int} (hl:ctx.length ≤ 1000) (hty:ty.length ≤ 1000) {f:Int} (hf:0 ≤ f∧f < ctx.length) (hq:∀ q ∈ ctx,q.length ≤ 1000):∀ (k i:Nat),i + k=ctx.length →
  Gv (Keo (c0,s,ctx,ty,deep,f,c,(i:Int))) (fun fl=>match fl with | .inl _=>True | .inr r=>Dr s ctx.length 1 r):=by
 intro k
 induction k with
 | zero =>
  intro i hi
  rw [Keo.eq_def]
  simp only
  rw [Kmm (by omega),if_neg (by decide)]
  exact .of trivial
 | succ k ih =>
  intro i hi
  obtain ⟨g,rfl⟩:∃ g:Nat,f=(g:Int):=⟨f.toNat,by omega⟩
  have e:Int.tmod (wr ((g:Int) + (i:Int))) (ctx.length:Int)=(((g + i) % ctx.length:Nat):Int):=by
   rw [Kqu (by omega) (by omega),Kxx]
  have hm:(g + i) % ctx.length < ctx.length:=Nat.mod_lt _ (by omega)
  have ck:chk ((ctx.length:Int) ≠ 0)=some ():=by unfold chk; rw [if_pos (by omega)]
  rw [Keo.eq_def]
  simp only
  rw [Kml (by omega),if_pos rfl,ck,bs,e,Kmj hm,bs,Ks0 _ ty (by omega),bs]
  refine .ite (fun _=>?_) (fun _=>?_)
  ·rw [sOp,bs]
   exact .of ⟨V00 hm,h⟩
  ·rw [Kmk (by omega)]
   exact ih (i + 1) (by omega)
include hs
theorem V0k {deep:Int} {b:Nat} {ctx:List (List Int)} {p q:List Int} {g:Nat} (hg:g < n) (P:Kud s (3 + (g:Int)) p q) (hg15:g ≤ 15) (hc:Kzy s ctx) (hl:ctx.length ≤ 900) (hb:b ≤ 300000) (hb1:1 ≤ b) (hd:-900 ≤ deep∧deep ≤ 100)
  (H:∀ c,Kx6 c→Gv (Kew (c,s,p :: ctx,q,wr (deep - 1))) (Dr s (ctx.length + 1) b)) (c:K01) (h:Kx6 c):Gv (Kex (c,s,ctx,(3 + (g:Int)) :: (p ++ q),deep)) (Dr s ctx.length (1 + b)):=by
 have hlp:=Kua P.ya
 have hlq:=Kua P.yb
 have hc':Kzy s (p :: ctx):=Kzz hc P.ya
 have loop:∀ (k i:Nat) (c:K01) (u1 u2:Int) (u3:List Int) (u4:List K00),i + k=3→Kx6 c→Kzx s (ctx.length + 1) b ⟨u1,u2,u3,u4⟩ →
   Gv (Key (s,deep,p,q,(g:Int),p :: ctx,c.fb,c.fi,c.fh,u1,u2,u3,u4,(i:Int))) (fun r=>Kzx s (ctx.length + 1) b ⟨r.1,r.2.1,r.2.2.1,r.2.2.2.1⟩∧Kx6 ⟨r.2.2.2.2.1,r.2.2.2.2.2.1,r.2.2.2.2.2.2⟩):=by
  intro k
  induction k with
  | zero =>
   intro i c u1 u2 u3 u4 hi h ht
   rw [Key.eq_def]
   simp only
   rw [decide_eq_false (by omega),if_neg (by decide),bs,if_neg (by decide)]
   exact .of ⟨ht,h⟩
  | succ k ih =>
   intro i c u1 u2 u3 u4 hi h ht
   rw [Key.eq_def]
   simp only
   obtain ⟨m,m1,m2⟩:=V09 hs hc' (by simp; omega) (by omega) (t:=⟨u1,u2,u3,u4⟩) (b:=b) (by simpa using ht) 0 (by simp)
   rw [show ((0:Nat):Int)=0 from rfl] at m2
   rw [decide_eq_true (by omega),if_pos rfl,m2,bs,sLe hs.tab m1 hg,bs,bs]
   refine .ite (fun _=>?_) (fun _=>.of ⟨ht,h⟩)
   refine Gv.bind (H c h) ?_
   rintro ⟨⟨x1,x2,x3,x4⟩,c2⟩ ⟨ht2,h2⟩
   simp only at ht2 h2 ⊢
   refine Gv.bind (Q:=fun _=>True) (.ite (fun _=>?_) (fun _=>.of trivial)) (fun v _=>?_)
   ·rw [Ks0 p q (by omega),bs]; exact .of trivial
   refine Gv.bind (Q:=fun r:Int × Int × List Int × List K00=>Kzx s (ctx.length + 1) b ⟨r.1,r.2.1,r.2.2.1,r.2.2.2⟩) (.ite (fun _=>?_) (fun _=>.of ht2)) ?_
   ·rw [sOp,bs]
    exact .of ((V00 (i:=0) (by omega)).mono hb1)
   ·rintro ⟨a1,a2,a3,a4⟩ ha
    simp only at ha ⊢
    rw [Kmk (by omega)]
    exact ih (i + 1) c2 a1 a2 a3 a4 (by omega) h2 ha
 rw [Kex.eq_def]
 simp only
 have i0:idx ((3 + (g:Int)) :: (p ++ q)) 0=some (3 + (g:Int)):=rfl
 rw [P.p0,bs,P.p1,bs,i0,bs,Kwx g hg15,bs,Ktz ctx [p] (by simp; omega),bs]
 refine Gv.bind (H c h) ?_
 rintro ⟨⟨x1,x2,x3,x4⟩,c1⟩ ⟨ht,h1⟩
 simp only at ht h1 ⊢
 refine Gv.bind (loop 3 0 c1 x1 x2 x3 x4 rfl h1 ht) ?_
 rintro ⟨a1,a2,a3,a4,a5,a6,a7⟩ ⟨q1,q2⟩
 exact .of ⟨V0i hs hg P.ya q1,q2⟩
theorem V0l {deep:Int} {f:List Int→Nat} {B:Nat} {ctx:List (List Int)} {ty:List Int} (hd:-900 ≤ deep∧deep ≤ 100) (hc:Kzy s ctx) (hl:ctx.length ≤ 900) (hty:TyS s ty)
  (hB:1 ≤ B) (hf1:∀ q,1 ≤ q.length→1 ≤ f q) (hf:∀ q,f q ≤ 300000) (hB2:∀ a b:List Int,a.length + b.length + 1=ty.length→1 + f a + f b ≤ B) (hB1:∀ a:List Int,a.length < ty.length→1 + f a ≤ B) (hBa:0 < deep→1 + f ty + f ty ≤ B)
  (H:∀ c ctx' ty',Kx6 c→Kzy s ctx'→ctx'.length ≤ ctx.length + 1→(ctx'.length=ctx.length∨ty'.length + 2 ≤ ty.length)→TyS s ty'→(ty'.length < ty.length∨0 < deep∧ty'=ty)→Gv (Kew (c,s,ctx',ty',wr (deep - 1))) (Dr s ctx'.length (f ty')))
  (HA:0 < deep→∀ c,Kx6 c→Gv (Kez (c,s,ctx,ty,wr (deep - 1))) (Dr s ctx.length B)) (c:K01) (h:Kx6 c):Gv (Kew (c,s,ctx,ty,deep)) (Dr s ctx.length B):=by
 have htl:=Kua hty
 rw [Kew.eq_def]
 simp only
 refine Gv.bind (Kxd h 5) ?_
 rintro ⟨x,c1⟩ ⟨hx,h1⟩
 simp only at hx h1 ⊢
 refine Gv.bind (Q:=fun fl:(List Int × Int × Int) ⊕ (K00 × K01)=>match fl with | .inl r=>Kx6 ⟨r.1,r.2.1,r.2.2⟩ | .inr r=>Dr s ctx.length B r) (.ite (fun _=>?_) (fun _=>.of h1)) ?_
 ·refine Gv.bind (Kxd h1 _) ?_
  rintro ⟨y,c2⟩ ⟨hy,h2⟩
  simp only at hy h2 ⊢
  by_cases h0:ctx.length=0
  ·have e:Keo (c,s,ctx,ty,deep,y,c2,0)=some (.inl ()):=by
    rw [Keo.eq_def]
    simp only
    rw [decide_eq_false (by omega),if_neg (by decide)]
   rw [e,bs]
   exact .of h2
  ·have l0:=V0j (s:=s) (c0:=c) h2 (ctx:=ctx) (ty:=ty) (deep:=deep) (by omega) (by omega) (hy.1 (by omega)) (fun q hq=>by have:=Kua (hc q hq); omega) ctx.length 0 (by omega)
   rw [show ((0:Nat):Int)=0 from rfl] at l0
   refine Gv.bind l0 ?_
   rintro (u | r) hr
   ·exact .of h2
   ·exact .of ⟨hr.1.mono hB,hr.2⟩
 rintro (⟨a1,a2,a3⟩ | r) q
 rotate_left
 ·exact .of q
 simp only at q ⊢
 refine Gv.bind (Q:=fun r:List Int × Int × Int × Bool=>Kx6 ⟨r.1,r.2.1,r.2.2.1⟩∧(r.2.2.2=true→0 < deep)) (.ite (fun hb=>?_) (fun _=>.of ⟨q,fun h=>by cases h⟩)) ?_
 ·have hb:=of_decide_eq_true hb
  exact Gv.bind (Kxe q 3) (by rintro ⟨v,c2⟩ h2; exact .of ⟨h2,fun _=>hb⟩)
 rintro ⟨b1,b2,b3,v⟩ ⟨h3,hv⟩
 simp only at h3 hv ⊢
 refine .ite (fun hvt=>?_) (fun _=>?_)
 ·refine Gv.bind (HA (hv hvt) _ h3) ?_
  rintro ⟨t,c4⟩ ht
  exact .of ht
 obtain ⟨c0,t0,rfl⟩:∃ c0 t0,ty=c0 :: t0:=by
  cases ty with
  | nil=>have:=Kzw hty; simp at this
  | cons c0 t0=>exact ⟨c0,t0,rfl⟩
 rw [show idx (c0 :: t0) 0=some c0 from rfl,bs]
 have add:Gv ((if (c0 == 0)=true then if decide (deep > 0)=true then K7y (⟨b1,b2,b3⟩,2) >>= fun (r:Bool × K01)=>some (r.2.fb,r.2.fi,r.2.fh,r.1) else some (b1,b2,b3,false) else some (b1,b2,b3,false)):Option (List Int × Int × Int × Bool)) (fun r=>Kx6 ⟨r.1,r.2.1,r.2.2.1⟩∧(r.2.2.2=true→0 < deep)):=by
  refine .ite (fun _=>.ite (fun hb=>?_) (fun _=>.of ⟨h3,fun h=>by cases h⟩)) (fun _=>.of ⟨h3,fun h=>by cases h⟩)
  have hb:=of_decide_eq_true hb
  exact Gv.bind (Kxe h3 2) (by rintro ⟨v,c2⟩ h2; exact .of ⟨h2,fun _=>hb⟩)
 refine Gv.bind add ?_
 rintro ⟨d1,d2,d3,w⟩ ⟨h4,hw⟩
 simp only at h4 hw ⊢
 refine .ite (fun hwt=>?_) (fun _=>?_)
 ·have hp:=hw hwt
  refine Gv.bind (H _ ctx _ h4 hc (by omega) (.inl rfl) hty (.inr ⟨hp,rfl⟩)) ?_
  rintro ⟨t1,e1⟩ ⟨ht1,k1⟩
  simp only at ht1 k1 ⊢
  refine Gv.bind (H _ ctx _ k1 hc (by omega) (.inl rfl) hty (.inr ⟨hp,rfl⟩)) ?_
  rintro ⟨t2,e2⟩ ⟨ht2,k2⟩
  simp only at ht2 k2 ⊢
  rw [sOp,bs]
  exact .of ⟨(V02 (.inl rfl) ht1 ht2).mono (hBa hp),k2⟩
 rcases Kuj hs hty with e | ⟨a,b,e,P⟩ | ⟨a,b,e,P⟩ | ⟨g,a,b,hg,h15,e,P⟩ | ⟨g,a,hg,h15,e,P⟩
 ·cases e
  rw [if_pos (by decide)]
  refine Gv.bind (Kxd h4 3) ?_
  rintro ⟨y,c2⟩ ⟨hy,h2⟩
  simp only at hy h2 ⊢
  rw [sOp,bs]
  exact .of ⟨(V01 (hy.1 (by decide))).mono hB,h2⟩
 ·have hlen:a.length + b.length + 1=(c0 :: t0).length:=by rw [e]; simp
  have la:a.length < (c0 :: t0).length:=by omega
  have lb:b.length < (c0 :: t0).length:=by omega
  cases e
  rw [if_neg (by decide),if_pos (by decide),P.p0,bs]
  refine Gv.bind (H _ ctx _ h4 hc (by omega) (.inl rfl) P.ya (.inl la)) ?_
  rintro ⟨t1,e1⟩ ⟨ht1,k1⟩
  simp only at ht1 k1 ⊢
  rw [P.p1,bs]
  refine Gv.bind (H _ ctx _ k1 hc (by omega) (.inl rfl) P.yb (.inl lb)) ?_
  rintro ⟨t2,e2⟩ ⟨ht2,k2⟩
  simp only at ht2 k2 ⊢
  rw [sOp,bs]
  exact .of ⟨(V02 (.inr (.inl rfl)) ht1 ht2).mono (hB2 a b hlen),k2⟩
 ·have hlen:a.length + b.length + 1=(c0 :: t0).length:=by rw [e]; simp
  have la:a.length < (c0 :: t0).length:=by omega
  have lb:b.length < (c0 :: t0).length:=by omega
  cases e
  rw [if_neg (by decide),if_neg (by decide)]
  refine Gv.bind (Q:=fun r:List Int × Int × Int × Bool=>Kx6 ⟨r.1,r.2.1,r.2.2.1⟩) (.ite (fun _=>?_) (fun _=>.of h4)) ?_
  ·exact Gv.bind (Kxe h4 2) (by rintro ⟨v,c2⟩ h2; exact .of h2)
  rintro ⟨f1,f2,f3,z⟩ h5
  simp only at h5 ⊢
  refine .ite (fun _=>?_) (fun _=>?_)
  ·rw [P.p1,bs,P.p0,bs]
   refine Gv.bind (H _ ctx _ h5 hc (by omega) (.inl rfl) P.ya (.inl la)) ?_
   rintro ⟨t1,e1⟩ ⟨ht1,k1⟩
   simp only at ht1 k1 ⊢
   exact .of ⟨(V04 (.inl rfl) P.yb ht1).mono (hB1 a la),k1⟩
  ·rw [if_pos (by decide),P.p0,bs,P.p1,bs]
   refine Gv.bind (H _ ctx _ h5 hc (by omega) (.inl rfl) P.yb (.inl lb)) ?_
   rintro ⟨t1,e1⟩ ⟨ht1,k1⟩
   simp only at ht1 k1 ⊢
   exact .of ⟨(V04 (.inr rfl) P.ya ht1).mono (hB1 b lb),k1⟩
 ·have hlen:a.length + b.length + 1=(c0 :: t0).length:=by rw [e]; simp
  have hal:=Kzw P.ya
  have lb:b.length < (c0 :: t0).length:=by omega
  have lb2:b.length + 2 ≤ (c0 :: t0).length:=by omega
  cases e
  have hbx:Kc4 (3 + (g:Int))=some false:=by rw [Knp,Kwv g h15]
  rw [if_neg (by simp; omega),if_neg (by simp; omega),if_neg (by simp; omega),bs]
  simp only
  rw [if_neg (by decide),if_neg (by simp; omega),hbx,bs,if_neg (by decide)]
  have F:=V0k hs hg P h15 hc hl (b:=f b) (hf b) (hf1 b (Kzw P.yb)) hd (fun c hcc=>H c (a :: ctx) b hcc (Kzz hc P.ya) (by simp) (.inr lb2) P.yb (.inl lb)) _ h4
  refine Gv.bind F ?_
  rintro ⟨t1,e1⟩ ⟨ht1,k1⟩
  exact .of ⟨ht1.mono (hB1 b lb),k1⟩
 ·have hlen:a.length + 1=(c0 :: t0).length:=by rw [e]; simp
  have la:a.length < (c0 :: t0).length:=by omega
  cases e
  have hbx:Kc4 (19 + (g:Int))=some true:=by rw [Knp,Kww g h15]
  rw [if_neg (by simp; omega),if_neg (by simp; omega),if_neg (by simp; omega),bs]
  simp only
  rw [if_neg (by decide),if_neg (by simp; omega),hbx,bs,if_pos rfl,Kwy g h15,bs,P.p0,bs]
  refine Gv.bind (H _ ctx _ h4 hc (by omega) (.inl rfl) P.ya (.inl la)) ?_
  rintro ⟨t1,e1⟩ ⟨ht1,k1⟩
  simp only at ht1 k1 ⊢
  rw [sOp,bs]
  exact .of ⟨(V0h hs hg ht1).mono (hB1 _ la),k1⟩
end
mutual
theorem V0m {g g':Int→Bool} {y y':List Int→Bool} (hg:∀ x,g x=true→g' x=true) (hy:∀ q,y q=true→y' q=true):∀ (t:K00) (n:Nat),tOk g y n t=true→tOk g' y' n t=true
 | ⟨op,N,ty,ks⟩,n,h=>by
  rw [Ks4,Bool.and_eq_true] at h ⊢
  refine ⟨?_,V0n hg hy ks op n 0 h.2⟩
  have h1:=h.1
  unfold Kp5 Kp3 Kp4 at h1 ⊢
  simp only [Bool.and_eq_true] at h1 ⊢
  refine ⟨⟨h1.1.1,?_⟩,?_⟩
  ·have h2:=h1.1.2
   split at h2
   ·rename_i q; rw [if_pos q]; exact h2
   ·rename_i q
    rw [if_neg q]
    split at h2
    ·rename_i q2; rw [if_pos q2]; exact h2
    ·rename_i q2
     rw [if_neg q2]
     split at h2
     ·rename_i q3; rw [if_pos q3]; exact hg _ h2
     ·rename_i q3; rw [if_neg q3]; exact h2
  ·have h2:=h1.2
   split at h2
   ·rename_i q; rw [if_pos q]; exact hy _ h2
   ·rename_i q; rw [if_neg q]; exact h2
theorem V0n {g g':Int→Bool} {y y':List Int→Bool} (hg:∀ x,g x=true→g' x=true) (hy:∀ q,y q=true→y' q=true):∀ (ks:List K00) (op:Int) (n i:Nat),Kp6 g y op n i ks=true→Kp6 g' y' op n i ks=true
 | [],op,n,i,_=>by rw [Kp6]
 | k :: ks,op,n,i,h=>by
  rw [Ks5,Bool.and_eq_true] at h ⊢
  exact ⟨V0m hg hy k _ h.1,V0n hg hy ks op n (i + 1) h.2⟩
end
theorem Kzx.tms {s:K02} {m b:Nat} {t:K00} (h:Kzx s m b t):tms t ≤ 43 * b:=by
 have h1:=V0m (g':=gN s.fSize true) (y':=wtB) (fun _ h=>h) (fun q hq=>by unfold yN at hq; rw [Bool.and_eq_true] at hq; exact hq.1) t m h.1
 have:=(Ksn t m h1).1
 have:=h.2
 omega
theorem V0o {s:K02} {m b:Nat} {t:K00} (h:Kzx s m b t) (hm:m ≤ 1000) (hb:b ≤ 100000):∃ u,Ked (t,1,0)=some u∧Kzx s (m + 1) b u:=by
 have h2:=h.2
 have h3:=h.tms
 refine ⟨shf ((1:Nat):Int) 0 t,?_,?_,?_⟩
 ·exact Kr5 1 1000000 (by decide) (by decide) t 0 (Kr7 (by omega) t (Kr9 _ _ t m h.1)) (by omega) (by decide) (by omega)
 ·exact Ksl _ _ 1 t m 0 h.1
 ·rw [Ksh]; exact h.2
def V0p (s:K02) (D b:Nat):Prop:=∀ (deep:Int) (ctx:List (List Int)) (ty:List Int),deep ≤ D→-500 ≤ deep→ty.length ≤ 7→Kzy s ctx→ctx.length + 20 * D + 7 ≤ 500→TyS s ty→∀ c,Kx6 c→Gv (Kew (c,s,ctx,ty,deep)) (Dr s ctx.length b)
section
variable {s:K02} {n:Nat} (hs:Kt1 s n)
include hs
theorem V0q:∀ (L:Nat) (deep:Int) (ctx:List (List Int)) (ty:List Int),ty.length ≤ L→L ≤ 40→deep ≤ 0→-900 + (ty.length:Int) ≤ deep→Kzy s ctx→ctx.length + ty.length ≤ 900→TyS s ty→∀ c,Kx6 c→Gv (Kew (c,s,ctx,ty,deep)) (Dr s ctx.length ty.length):=by
 intro L
 induction L with
 | zero =>
  intro deep ctx ty h1 _ _ _ _ _ ht
  have:=Kzw ht
  omega
 | succ L ih =>
  intro deep ctx ty h1 hL hd0 hd hc hl ht c h
  have htp:=Kzw ht
  refine V0l hs (f:=fun q=>min q.length 300000) (B:=ty.length) (by omega) hc (by omega) ht htp (fun q hq=>by omega) (fun q=>by omega) (fun a b hab=>by omega) (fun a ha=>by omega) (fun h=>absurd h (by omega)) (fun c' ctx' ty' hc' hcx hlx hor hty' hlt=>?_) (fun h=>absurd h (by omega)) c h
  have hty:ty'.length < ty.length:=by
   rcases hlt with h | h
   ·exact h
   ·omega
  rw [Kmi (by omega) (by omega)]
  have:=ih (deep - 1) ctx' ty' (by omega) (by omega) (by omega) (by omega) hcx (by omega) hty' c' hc'
  refine this.mono (fun r hr=>⟨hr.1.mono ?_,hr.2⟩)
  have:=Kua hty'
  omega
theorem V0r:V0p s 0 7:=fun deep ctx ty h1 h2 h3 h4 h5 h6 c h =>
 (V0q hs 7 deep ctx ty h3 (by decide) (by omega) (by omega) h4 (by omega) h6 c h).mono (fun r hr=>⟨hr.1.mono h3,hr.2⟩)
theorem V0s {c:K01} (h:Kx6 c) (data:Bool):Gv (Kbh (c,s,1,data)) (fun r=>(TyS s r.1∧r.1.length ≤ 3)∧Kx6 r.2) :=
 (V07 hs 1 c data (by decide) h).mono (fun r hr=>⟨⟨hr.1.1,by have:=hr.1.2; omega⟩,hr.2⟩)
theorem V0t {c:K01} (h:Kx6 c) (data:Bool):Gv (Kbh (c,s,2,data)) (fun r=>(TyS s r.1∧r.1.length ≤ 7)∧Kx6 r.2) :=
 (V07 hs 2 c data (by decide) h).mono (fun r hr=>⟨⟨hr.1.1,by have:=hr.1.2; omega⟩,hr.2⟩)
theorem V0u {D b:Nat} (IH:V0p s D b) (hb1:7 ≤ b) (hb:b ≤ 90000) {deep:Int} (hd:0 ≤ deep∧deep ≤ D) (hD:D ≤ 10) {ctx:List (List Int)} {ty:List Int} (hc:Kzy s ctx) (hl:ctx.length + 2 + 20 * D + 7 ≤ 500) (ht:TyS s ty) (htl:ty.length ≤ 7) (c:K01) (h:Kx6 c) :
  Gv (Kez (c,s,ctx,ty,deep)) (Dr s ctx.length (5 + 3 * b)):=by
 have h1n:1 < n:=hs.tab.lo
 have hn16:=hs.tab.hi
 rw [Kez.eq_def]
 simp only
 refine Gv.bind (Kxd h 6) ?_
 rintro ⟨x,c0⟩ ⟨hx,h0⟩
 simp only at hx h0 ⊢
 refine .ite (fun _=>?_) (fun _=>.ite (fun _=>?_) (fun _=>.ite (fun _=>?_) (fun _=>.ite (fun _=>?_) (fun _=>?_))))
 ·refine Gv.bind (IH deep ctx [0] hd.2 (by omega) (by decide) hc (by omega) Kug _ h0) ?_
  rintro ⟨t1,c1⟩ ⟨k1,h1⟩
  simp only at k1 h1 ⊢
  refine Gv.bind (IH deep ctx ty hd.2 (by omega) htl hc (by omega) ht _ h1) ?_
  rintro ⟨t2,c2⟩ ⟨k2,h2⟩
  simp only at k2 h2 ⊢
  refine Gv.bind (IH deep ctx ty hd.2 (by omega) htl hc (by omega) ht _ h2) ?_
  rintro ⟨t3,c3⟩ ⟨k3,h3⟩
  simp only at k3 h3 ⊢
  rw [sOp,bs]
  exact .of ⟨(V03 k1 k2 k3).mono (by omega),h3⟩
 ·refine Gv.bind (Kxe h0 2) ?_
  rintro ⟨v,c1⟩ h1
  simp only at h1 ⊢
  refine Gv.bind (V0s hs h1 v) ?_
  rintro ⟨a,c2⟩ ⟨⟨ta,la⟩,h2⟩
  simp only at ta la h2 ⊢
  refine Gv.bind (V0s hs h2 true) ?_
  rintro ⟨e,c3⟩ ⟨⟨te,le_⟩,h3⟩
  simp only at te le_ h3 ⊢
  have hc':Kzy s (e :: a :: ctx):=Kzz (Kzz hc ta) te
  rw [Ktz ctx [e,a] (by simp; omega),bs]
  refine Gv.bind (IH deep (e :: a :: ctx) ty hd.2 (by omega) htl hc' (by simp; omega) ht _ h3) ?_
  rintro ⟨t1,c4⟩ ⟨k1,h4⟩
  simp only at k1 h4 ⊢
  obtain ⟨g0,z0,n0⟩:=V09 hs hc' (by simp; omega) (by omega) (t:=t1) (b:=b) (by simpa using k1) 0 (by simp)
  obtain ⟨g1,z1,n1⟩:=V09 hs hc' (by simp; omega) (by omega) (t:=t1) (b:=b) (by simpa using k1) 1 (by simp)
  have n0:Kdz (s,[e,a] ++ ctx,t1,0)=some (g0:Int):=n0
  have n1:Kdz (s,[e,a] ++ ctx,t1,1)=some (g1:Int):=n1
  obtain ⟨g2,z2,n2⟩:=V0a hs z0 z1
  obtain ⟨g3,z3,n3⟩:=V0a hs h1n z2
  rw [n0,bs,n1,bs,n2,bs,show (1:Int)=((1:Nat):Int) from rfl,n3,bs]
  refine Gv.bind (V0c hs h4 z3) ?_
  rintro ⟨q,c5⟩ ⟨⟨g4,z4,rfl⟩,h5⟩
  simp only at h5 ⊢
  rw [show ((1:Nat):Int)=1 from rfl,Kzp _ _ _ (by omega),bs]
  refine Gv.bind (IH deep ctx (1 :: (a ++ e)) hd.2 (by omega) (by simp; omega) hc (by omega) (Kzs rfl Kzu ta te (by omega)) _ h5) ?_
  rintro ⟨t2,c6⟩ ⟨k2,h6⟩
  simp only at k2 h6 ⊢
  rw [sOp,bs]
  exact .of ⟨(V0e hs z4 k2 (by simpa using k1)).mono (by omega),h6⟩
 ·refine Gv.bind (V0s hs h0 true) ?_
  rintro ⟨a,c2⟩ ⟨⟨ta,la⟩,h2⟩
  simp only at ta la h2 ⊢
  refine Gv.bind (V0s hs h2 true) ?_
  rintro ⟨e,c3⟩ ⟨⟨te,le_⟩,h3⟩
  simp only at te le_ h3 ⊢
  have hca:Kzy s (a :: ctx):=Kzz hc ta
  have hce:Kzy s (e :: ctx):=Kzz hc te
  rw [Ktz ctx [a] (by simp; omega),bs,Ktz ctx [e] (by simp; omega),bs]
  refine Gv.bind (IH deep (a :: ctx) ty hd.2 (by omega) htl hca (by simp; omega) ht _ h3) ?_
  rintro ⟨t1,c4⟩ ⟨k1,h4⟩
  simp only at k1 h4 ⊢
  refine Gv.bind (IH deep (e :: ctx) ty hd.2 (by omega) htl hce (by simp; omega) ht _ h4) ?_
  rintro ⟨t2,c5⟩ ⟨k2,h5⟩
  simp only at k2 h5 ⊢
  obtain ⟨g0,z0,n0⟩:=V09 hs hca (by simp; omega) (by omega) (t:=t1) (b:=b) (by simpa using k1) 0 (by simp)
  obtain ⟨g1,z1,n1⟩:=V09 hs hce (by simp; omega) (by omega) (t:=t2) (b:=b) (by simpa using k2) 0 (by simp)
  have n0:Kdz (s,[a] ++ ctx,t1,0)=some (g0:Int):=n0
  have n1:Kdz (s,[e] ++ ctx,t2,0)=some (g1:Int):=n1
  obtain ⟨g2,z2,n2⟩:=V0a hs z0 z1
  obtain ⟨g3,z3,n3⟩:=V0a hs h1n z2
  rw [n0,bs,n1,bs,n2,bs,show (1:Int)=((1:Nat):Int) from rfl,n3,bs]
  refine Gv.bind (V0c hs h5 z3) ?_
  rintro ⟨q,c6⟩ ⟨⟨g4,z4,rfl⟩,h6⟩
  simp only at h6 ⊢
  rw [Kzp _ _ _ (by omega),bs]
  refine Gv.bind (IH deep ctx (2 :: (a ++ e)) hd.2 (by omega) (by simp; omega) hc (by omega) (Kzs rfl Kzv ta te (by omega)) _ h6) ?_
  rintro ⟨t3,c7⟩ ⟨k3,h7⟩
  simp only at k3 h7 ⊢
  rw [sOp,bs]
  exact .of ⟨(V0f hs z4 k3 (by simpa using k1) (by simpa using k2)).mono (by omega),h7⟩
 ·refine Gv.bind (Kxe h0 2) ?_
  rintro ⟨v,c1⟩ h1
  simp only at h1 ⊢
  refine Gv.bind (V0s hs h1 v) ?_
  rintro ⟨a,c2⟩ ⟨⟨ta,la⟩,h2⟩
  simp only at ta la h2 ⊢
  have hca:Kzy s (a :: ctx):=Kzz hc ta
  rw [Ktz ctx [a] (by simp; omega),bs]
  refine Gv.bind (IH deep (a :: ctx) ty hd.2 (by omega) htl hca (by simp; omega) ht _ h2) ?_
  rintro ⟨t1,c4⟩ ⟨k1,h4⟩
  simp only at k1 h4 ⊢
  obtain ⟨g0,z0,n0⟩:=V09 hs hca (by simp; omega) (by omega) (t:=t1) (b:=b) (by simpa using k1) 0 (by simp)
  have n0:Kdz (s,[a] ++ ctx,t1,0)=some (g0:Int):=n0
  rw [n0,bs]
  refine Gv.bind (V0c hs h4 z0) ?_
  rintro ⟨q,c6⟩ ⟨⟨g4,z4,rfl⟩,h6⟩
  simp only at h6 ⊢
  obtain ⟨k19,l19⟩:=V06 hs z4
  rw [Kmi (by omega) (by omega),Kzo _ _ (by omega),bs]
  refine Gv.bind (IH deep ctx ((19 + (g4:Int)) :: a) hd.2 (by omega) (by simp; omega) hc (by omega) (Kzt k19 l19 ta (by omega)) _ h6) ?_
  rintro ⟨t2,c7⟩ ⟨k2,h7⟩
  simp only at k2 h7 ⊢
  rw [sOp,bs]
  exact .of ⟨(V0g hs h1n k2 (by simpa using k1)).mono (by omega),h7⟩
 ·refine Gv.bind (Kxe h0 2) ?_
  rintro ⟨v,c1⟩ h1
  simp only at h1 ⊢
  refine Gv.bind (V0t hs h1 v) ?_
  rintro ⟨a,c2⟩ ⟨⟨ta,la⟩,h2⟩
  simp only at ta la h2 ⊢
  have hca:Kzy s (a :: ctx):=Kzz hc ta
  rw [Ktz ctx [a] (by simp; omega),bs]
  refine Gv.bind (IH deep (a :: ctx) ty hd.2 (by omega) htl hca (by simp; omega) ht _ h2) ?_
  rintro ⟨t1,c4⟩ ⟨k1,h4⟩
  simp only at k1 h4 ⊢
  obtain ⟨g0,z0,n0⟩:=V09 hs hca (by simp; omega) (by omega) (t:=t1) (b:=b) (by simpa using k1) 0 (by simp)
  have n0:Kdz (s,[a] ++ ctx,t1,0)=some (g0:Int):=n0
  rw [n0,bs]
  refine Gv.bind (V0c hs h4 z0) ?_
  rintro ⟨q,c6⟩ ⟨⟨g4,z4,rfl⟩,h6⟩
  simp only at h6 ⊢
  obtain ⟨k3,l3⟩:=V05 hs z4
  refine Gv.bind (Kxe h6 4) ?_
  rintro ⟨w,c7⟩ h7
  simp only at h7 ⊢
  have arg:=IH (deep - 1) ctx a (by omega) (by omega) la hc (by omega) ta c7 h7
  have ew:wr (deep - 1)=deep - 1:=Kmi (by omega) (by omega)
  have kf:=V0i hs z4 ta (b1:=b) (by simpa using k1)
  refine Gv.bind (Q:=fun fl:Unit ⊕ (K00 × K01)=>match fl with | .inl _=>True | .inr r=>Dr s ctx.length (5 + 3 * b) r) (.ite (fun _=>?_) (fun _=>.of trivial)) ?_
  ·rw [Kmi (by omega) (by omega),Kzp _ _ _ (by omega),bs]
   refine .ite (fun hlt=>?_) (fun _=>.of trivial)
   have hlt:=of_decide_eq_true hlt
   rw [sOp,bs,ew]
   refine Gv.bind arg ?_
   rintro ⟨t2,c8⟩ ⟨k2,h8⟩
   simp only at k2 h8 ⊢
   obtain ⟨u,e1,e2⟩:=V0o k2 (by omega) (by omega)
   rw [e1,bs,sOp,bs,sOp,bs]
   have kc:=V02 (.inr (.inr rfl)) (V00 (s:=s) (m:=ctx.length + 1) (i:=0) (by omega)) e2
   have kg:=V0i hs h1n (Kzs k3 l3 ta ht (by simp at hlt; omega)) kc
   exact .of ⟨(V02 (.inr (.inr rfl)) kg kf).mono (by omega),h8⟩
  ·rintro (u | r) q
   ·rw [ew]
    refine Gv.bind arg ?_
    rintro ⟨t2,c8⟩ ⟨k2,h8⟩
    simp only at k2 h8 ⊢
    rw [sOp,bs]
    exact .of ⟨(V02 (.inr (.inr rfl)) kf k2).mono (by omega),h8⟩
   ·exact .of q
theorem V0v {D b:Nat} (IH:V0p s D b) (hb1:7 ≤ b) (hb:b ≤ 90000) (hD:D ≤ 10):V0p s (D + 1) (5 + 3 * b):=by
 intro deep ctx ty h1 h2 h3 hc hl ht c h
 by_cases hd:deep ≤ D
 ·exact (IH deep ctx ty hd h2 h3 hc (by omega) ht c h).mono (fun r hr=>⟨hr.1.mono (by omega),hr.2⟩)
 have hdw:wr (deep - 1)=deep - 1:=Kmi (by omega) (by omega)
 refine V0l hs (f:=fun _=>b) (B:=5 + 3 * b) (by omega) hc (by omega) ht (by omega) (fun _ _=>by omega) (fun _=>by omega) (fun _ _ _=>by omega) (fun _ _=>by omega) (fun _=>by omega) (fun c' ctx' ty' hc' hcx hlx hor hty' hlt=>?_) (fun _ c' hc'=>?_) c h
 ·rw [hdw]
  refine IH (deep - 1) ctx' ty' (by omega) (by omega) ?_ hcx (by omega) hty' c' hc'
  rcases hlt with q | ⟨_,rfl⟩
  ·omega
  ·exact h3
 ·rw [hdw]
  exact V0u hs IH hb1 hb (by omega) hD hc (by omega) ht h3 c' hc'
theorem V0w:V0p s 4 767:=V0v hs (V0v hs (V0v hs (V0v hs (V0r hs) (by decide) (by decide) (by decide)) (by decide) (by decide) (by decide)) (by decide) (by decide) (by decide)) (by decide) (by decide) (by decide)
end
def V0x (s:K02) (m:Nat) (ctx:List (List Int)):Prop:=Kzy s ctx∧ctx.length ≤ m∧∀ q ∈ ctx,q.length ≤ 7
section
variable {s:K02} {n:Nat} (hs:Kt1 s n)
include hs
theorem V0y (data:Bool):∀ (k m:Nat) (c:K01) (out:List (List Int)),Kx6 c→V0x s m out→m + k ≤ 1000→Gv (Kbl (s,data,c.fb,c.fi,c.fh,out,(k:Int))) (fun r=>V0x s (m + k) r.1∧Kx6 ⟨r.2.1,r.2.2.1,r.2.2.2⟩):=by
 intro k
 induction k with
 | zero =>
  intro m c out h ho hm
  rw [Kbl.eq_def]
  simp only
  rw [decide_eq_false (by omega),if_neg (by decide)]
  exact .of ⟨ho,h⟩
 | succ k ih =>
  intro m c out h ho hm
  have hl:=ho.2.1
  rw [Kbl.eq_def]
  simp only
  rw [decide_eq_true (by omega),if_pos rfl]
  refine Gv.bind (V0t hs h data) ?_
  rintro ⟨a,c1⟩ ⟨⟨ta,la⟩,h1⟩
  simp only at ta la h1 ⊢
  rw [Kpx (by simp; omega),bs,show wr (((k + 1:Nat):Int) - 1)=(k:Int) from by rw [Kmi (by omega) (by omega)]; omega]
  have:=ih (m + 1) c1 (out ++ [a]) h1 ⟨fun q hq=>by
   rcases List.mem_append.1 hq with hq | hq
   ·exact ho.1 q hq
   ·rw [List.mem_singleton.1 hq]; exact ta,by simp; omega,fun q hq=>by
   rcases List.mem_append.1 hq with hq | hq
   ·exact ho.2.2 q hq
   ·rw [List.mem_singleton.1 hq]; exact la⟩ (by omega)
  rw [show m + 1 + k=m + (k + 1) by omega] at this
  exact this
theorem V0z {c:K01} (h:Kx6 c) (most:Nat) (hm:most ≤ 10) (data:Bool):Gv (Kbo (c,s,(most:Int),data)) (fun r=>V0x s most r.1∧Kx6 r.2):=by
 unfold Kbo
 simp only
 rw [Kmk (by omega)]
 refine Gv.bind (Kxd h _) ?_
 rintro ⟨x,c1⟩ ⟨hx,h1⟩
 simp only at hx h1 ⊢
 have hx:=hx.1 (by omega)
 obtain ⟨k,rfl⟩:∃ k:Nat,x=(k:Int):=⟨x.toNat,by omega⟩
 have ho:V0x s 0 []:=⟨fun q hq=>(by cases hq),Nat.le_refl _,fun q hq=>(by cases hq)⟩
 refine Gv.bind (V0y hs data k 0 c1 [] h1 ho (by omega)) ?_
 rintro ⟨a,b,d,e⟩ ⟨q1,q2⟩
 have l1:=q1.2.1
 simp only at l1
 exact .of ⟨⟨q1.1,by simp only; omega,q1.2.2⟩,q2⟩
theorem V10 {c:K01} (h:Kx6 c) {ctx:List (List Int)} (hc:Kzy s ctx) (hl:ctx.length ≤ 100) {deep:Nat} (hd:2 ≤ deep∧deep ≤ 4) (data:Bool):Gv (Kfl (c,s,ctx,(deep:Int),data)) (Dr s ctx.length 767):=by
 have A:=V0w hs
 have loop:∀ (k i:Nat) (c0 c:K01) (u1 u2:Int) (u3:List Int) (u4:List K00),i + k=3→Kx6 c→Kzx s ctx.length 767 ⟨u1,u2,u3,u4⟩ →
   Gv (Kfi (c0,s,ctx,(deep:Int),data,c.fb,c.fi,c.fh,u1,u2,u3,u4,(i:Int))) (fun fl=>match fl with | .inl r=>Kzx s ctx.length 767 ⟨r.1,r.2.1,r.2.2.1,r.2.2.2.1⟩∧Kx6 ⟨r.2.2.2.2.1,r.2.2.2.2.2.1,r.2.2.2.2.2.2⟩ | .inr r=>Dr s ctx.length 767 r):=by
  intro k
  induction k with
  | zero =>
   intro i c0 c u1 u2 u3 u4 hi h ht
   rw [Kfi.eq_def]
   simp only
   rw [decide_eq_false (by omega),if_neg (by decide)]
   exact .of ⟨ht,h⟩
  | succ k ih =>
   intro i c0 c u1 u2 u3 u4 hi h ht
   have htm:=ht.tms
   rw [Kfi.eq_def]
   simp only
   rw [decide_eq_true (by omega),if_pos rfl]
   refine Gv.bind (Q:=fun _=>True) ?_ (fun v _=>?_)
   ·rw [show (120:Int)=((120:Nat):Int) from rfl,Kon _ 120 (by omega) (by decide),bs]
    refine .ite (fun _=>?_) (fun _=>.of trivial)
    obtain ⟨x,e,_⟩:=V08 hs hc (by omega) (by decide) ht
    rw [e,bs]
    exact .of trivial
   refine .ite (fun _=>.of ⟨ht,h⟩) (fun _=>?_)
   refine Gv.bind (V0s hs h data) ?_
   rintro ⟨a,c1⟩ ⟨⟨ta,la⟩,h1⟩
   simp only at ta la h1 ⊢
   rw [show (2:Int)=((2:Nat):Int) from rfl,Kqv,bs]
   refine Gv.bind (A ((min deep 2:Nat):Int) ctx a (by omega) (by omega) (by omega) hc (by omega) ta c1 h1) ?_
   rintro ⟨⟨x1,x2,x3,x4⟩,c2⟩ ⟨ht2,h2⟩
   simp only at ht2 h2 ⊢
   rw [Kmk (by omega)]
   exact ih (i + 1) c0 c2 x1 x2 x3 x4 (by omega) h2 ht2
 unfold Kfl
 simp only
 refine Gv.bind (V0t hs h data) ?_
 rintro ⟨a,c1⟩ ⟨⟨ta,la⟩,h1⟩
 simp only at ta la h1 ⊢
 refine Gv.bind (A (deep:Int) ctx a (by omega) (by omega) la hc (by omega) ta c1 h1) ?_
 rintro ⟨⟨x1,x2,x3,x4⟩,c2⟩ ⟨ht2,h2⟩
 simp only at ht2 h2 ⊢
 have L:=loop 3 0 c c2 x1 x2 x3 x4 rfl h2 ht2
 rw [show ((0:Nat):Int)=0 from rfl] at L
 refine Gv.bind L ?_
 rintro (⟨a1,a2,a3,a4,a5,a6,a7⟩ | r) q
 rotate_left
 ·exact .of q
 obtain ⟨q1,q2⟩:=q
 simp only at q1 q2 ⊢
 have htm:=q1.tms
 rw [show (400:Int)=((400:Nat):Int) from rfl,Kon _ 400 (by omega) (by decide),bs]
 refine Gv.bind (Q:=fun r:Int × Int × List Int × List K00=>Kzx s ctx.length 767 ⟨r.1,r.2.1,r.2.2.1,r.2.2.2⟩) (.ite (fun _=>?_) (fun _=>.of q1)) ?_
 ·rw [sOp,bs]
  exact .of ((V01 (by decide)).mono (by decide))
 ·rintro ⟨b1,b2,b3,b4⟩ qb
  exact .of ⟨qb,q2⟩
end
theorem V11 {c:K01} (h:Kx6 c) {deep:Nat} (hd:2 ≤ deep∧deep ≤ 4) (most:Nat) (hm:most ≤ 10) (data:Bool):Gv (Kfo (c,(deep:Int),(most:Int),data)) (fun r=>r.1 ∈ Kzh∧V0x r.1 most r.2.1∧Kzx r.1 r.2.1.length 767 r.2.2.1∧Kx6 r.2.2.2):=by
 unfold Kfo
 simp only
 refine Gv.bind (Kzn h) ?_
 rintro ⟨s,c1⟩ ⟨hsy,h1⟩
 simp only at hsy h1 ⊢
 have hs:=Kt2 (Kzi hsy).1
 refine Gv.bind (V0z hs h1 most hm data) ?_
 rintro ⟨ctx,c2⟩ ⟨hc,h2⟩
 simp only at hc h2 ⊢
 refine Gv.bind (V10 hs h2 hc.1 (by have:=hc.2.1; omega) hd data) ?_
 rintro ⟨t,c3⟩ ⟨ht,h3⟩
 exact .of ⟨hsy,hc,ht,h3⟩
theorem V12 (code:List Int) (hl:code.length ≤ 1048576):∃ d:Nat,(2 ≤ d∧d ≤ 4)∧K7p code=some (d:Int):=by
 unfold K7p
 have h1:code.length / 60 ≤ 1048576:=Nat.le_trans (Nat.div_le_self _ _) hl
 rw [show (60:Int)=((60:Nat):Int) from rfl,Ky6]
 generalize code.length / 60=q at *
 rw [Kmi (by omega) (by omega),show (2:Int)=((2:Nat):Int) from rfl,Kqv,bs,← Int.natCast_add,Kmi (by omega) (by omega)]
 exact ⟨2 + min q 2,by omega,rfl⟩
section
variable {s:K02} {n:Nat} (hs:Kt1 s n)
include hs
theorem le_refl {a:Nat} (ha:a < n):le s n a a=true:=by
 have:=hs.one a ha
 simp only [Kn1,Bool.and_eq_true] at this
 exact this.2
end
theorem le_trans {s:K02} (h:Kqa s=true) {a b c:Nat} (ha:a < s.fSize.toNat) (hb:b < s.fSize.toNat) (hc:c < s.fSize.toNat) (h1:le s s.fSize.toNat a b=true) (h2:le s s.fSize.toNat b c=true):le s s.fSize.toNat a c=true:=by
 unfold Kqa at h
 simp only [Bool.and_eq_true] at h
 have hm:=h.2
 unfold Knf at hm
 rw [List.all_eq_true] at hm
 have q:=hm a (by rw [List.mem_range'_1]; omega)
 simp only [Bool.and_eq_true,List.all_eq_true] at q
 have q2:=(q.2 b (by rw [List.mem_range'_1]; omega)).2 c (by rw [List.mem_range'_1]; omega)
 unfold Kn2 at q2
 simp [h1,h2] at q2
 exact q2.2.1.1.1
mutual
theorem V13 (g:Int→Bool) (y:List Int→Bool) (hg:∀ x,g x=true→-9223372036854775808 ≤ x∧x ≤ 9223372036854775807):∀ (t:K00) (n:Nat),tOk g y n t=true→n + 2 * tms t ≤ 9223372036854775807→tln t
 | ⟨op,N,ty,ks⟩,n,h,hb=>by
  rw [Ks4,Bool.and_eq_true] at h
  rw [tms] at hb
  rw [tln]
  refine ⟨by omega,by omega,V14 g y hg ks op n 0 h.2 (by omega),?_⟩
  have h1:=h.1
  unfold Kp5 Kp3 at h1
  simp only [Bool.and_eq_true] at h1
  have h2:=h1.1.2
  split at h2
  ·simp only [inB,Bool.and_eq_true,decide_eq_true_eq] at h2; omega
  ·split at h2
   ·simp only [inB,Bool.and_eq_true,decide_eq_true_eq] at h2; omega
   ·split at h2
    ·exact hg N h2
    ·have:=eq_of_beq h2; omega
theorem V14 (g:Int→Bool) (y:List Int→Bool) (hg:∀ x,g x=true→-9223372036854775808 ≤ x∧x ≤ 9223372036854775807):∀ (ks:List K00) (op:Int) (n i:Nat),Kp6 g y op n i ks=true→n + 2 * (ks.length + Kog ks) ≤ 9223372036854775807→Kpi ks
 | [],op,n,i,_,_=>by rw [Kpi]; trivial
 | ⟨o,N,ty,ks1⟩ :: ks,op,n,i,h,hb=>by
  rw [Ks5,Bool.and_eq_true] at h
  rw [Kog,List.length_cons] at hb
  have:=Kp0 op i
  rw [Kpi]
  exact ⟨V13 g y hg _ _ h.1 (by omega),V14 g y hg ks op n (i + 1) h.2 (by omega)⟩
end
theorem V15 {s:K02} {n:Nat} (hs:Kt1 s n) {m b:Nat} {t:K00} (h:Kzx s m b t) (hb:b ≤ 100000) (hm:m ≤ 1000):tln t:=by
 have h3:=h.tms
 have h4:=hs.tab.size
 have h5:=hs.tab.hi
 refine V13 _ _ ?_ t m h.1 (by omega)
 intro x hx
 unfold gN at hx
 simp at hx
 omega
theorem V16 {op N:Int} {ty:List Int} {ks:List K00} (h1:ty.length ≤ 9223372036854775807) (h2:ks.length ≤ 9223372036854775807) (h3:Kpi ks) (h4:-9223372036854775808 ≤ N∧N ≤ 9223372036854775807):tln ⟨op,N,ty,ks⟩:=by
 rw [tln]; exact ⟨h1,h2,h3,h4⟩
theorem V17 {t:K00} (h:tln t):t.fType.length ≤ 9223372036854775807∧t.fKids.length ≤ 9223372036854775807∧Kpi t.fKids∧(-9223372036854775808 ≤ t.fN∧t.fN ≤ 9223372036854775807):=by
 cases t; rwa [tln] at h
theorem V18 {a b:List K00} (ha:Kpi a) (hb:Kpi b):Kpi (a ++ b):=by
 induction a with
 | nil=>exact hb
 | cons x a ih =>
  rw [Kpi] at ha
  rw [List.cons_append,Kpi]
  exact ⟨ha.1,ih ha.2⟩
theorem V19 {l:List K00} (h:Kpi l) (i:Nat) {u:K00} (hu:tln u):Kpi (l.set i u):=by
 induction l generalizing i with
 | nil=>exact h
 | cons x l ih =>
  rw [Kpi] at h
  cases i with
  | zero=>rw [List.set_cons_zero,Kpi]; exact ⟨hu,h.2⟩
  | succ i=>rw [List.set_cons_succ,Kpi]; exact ⟨h.1,ih h.2 i⟩
theorem V1a {l:List K00} (h:Kpi l) {i:Nat} (hi:i < l.length):tln l[i]:=by
 induction l generalizing i with
 | nil=>simp at hi
 | cons x l ih =>
  rw [Kpi] at h
  cases i with
  | zero=>exact h.1
  | succ i=>exact ih h.2 (by simpa using hi)
theorem V1b (t:K00) (o:Int) (hty:t.fType.length ≤ 1099511627776):∀ (l:List Int) (i:Nat) (c:K01) (out:List Int),t.fType.drop i=l→out.length=i→i ≤ t.fType.length→Kx6 c →
  Gv (Kfz (t,o,c.fb,c.fi,c.fh,out,(i:Int))) (fun r=>Kx6 ⟨r.1,r.2.1,r.2.2.1⟩∧r.2.2.2.length=t.fType.length):=by
 intro l
 induction l with
 | nil =>
  intro i c out hd ho hi h
  rw [Kfz.eq_def]
  simp only
  have:=Knk hd
  rw [Kmm this,if_neg (by decide)]
  exact .of ⟨h,by simp only; omega⟩
 | cons x l ih =>
  intro i c out hd ho hi h
  obtain ⟨h1,h2,h3⟩:=Knj hd
  rw [Kfz.eq_def]
  simp only
  rw [Kml h1,if_pos rfl,h2,bs,Knq,bs]
  refine Gv.bind (Q:=fun r:List Int × Int × Int × Bool=>Kx6 ⟨r.1,r.2.1,r.2.2.1⟩) (.ite (fun _=>.ite (fun _=>?_) (fun _=>.of h)) (fun _=>.of h)) ?_
  ·refine Gv.bind (Kxd h 3) ?_
   rintro ⟨y,c1⟩ ⟨_,h4⟩
   exact .of h4
  ·rintro ⟨b,fi,fh,v⟩ h4
   simp only at h4 ⊢
   refine Gv.bind (Q:=fun _:Int=>True) (.ite (fun _=>?_) (fun _=>.of trivial)) (fun k _=>?_)
   ·rw [Kno,bs,Kri,bs]
    exact .of trivial
   ·rw [Kpx (by simp; omega),bs,Kmk (by omega)]
    exact ih (i + 1) ⟨b,fi,fh⟩ _ h3 (by simp [ho]) (by omega) h4
theorem V1c (t:K00) (o:Int) (hty:t.fType.length ≤ 1099511627776) {c:K01} (h:Kx6 c):Gv (Kfz (t,o,c.fb,c.fi,c.fh,[],0)) (fun r=>Kx6 ⟨r.1,r.2.1,r.2.2.1⟩∧r.2.2.2.length=t.fType.length) :=
 V1b t o hty t.fType 0 c [] rfl rfl (Nat.zero_le _) h
mutual
theorem V1d:∀ (t:K00) (c:K01),Kx6 c→tln t→tms t ≤ 1048576→Gv (Kg2 (c,t)) (fun r=>(tln r.1∧tms r.1=tms t)∧Kx6 r.2)
 | ⟨op,N,ty,ks⟩,c,h,hl,hb=>by
  rw [tms] at hb
  have hl2:=V17 hl
  simp only at hl2
  rw [Kg2.eq_def]
  simp only
  rw [Kov,bs]
  refine Gv.bind (Q:=fun r:List Int × Int × Int × Bool=>Kx6 ⟨r.1,r.2.1,r.2.2.1⟩) (.ite (fun _=>.ite (fun _=>?_) (fun _=>.of h)) (fun _=>.of h)) ?_
  ·refine Gv.bind (Kxd h 3) ?_
   rintro ⟨y,c1⟩ ⟨_,h4⟩
   exact .of h4
  rintro ⟨b,fi,fh,v⟩ h4
  simp only at h4 ⊢
  refine Gv.bind (Q:=fun o:Int=>-9223372036854775808 ≤ o∧o ≤ 9223372036854775807) (.ite (fun _=>.of (by decide)) (fun _=>.of hl2.2.2.2)) (fun o ho=>?_)
  refine Gv.bind (V1c ⟨op,N,ty,ks⟩ o (by simp only; omega) h4) ?_
  rintro ⟨b2,i2,h2,out⟩ ⟨h5,h6⟩
  simp only at h5 h6 ⊢
  refine Gv.bind (V1e ks ⟨op,N,ty,ks⟩ o out 0 ⟨b2,i2,h2⟩ [] rfl rfl h5 hl2.2.2.1 (by simp only; omega) (by omega) (by rw [Kpi]; trivial)) ?_
  rintro ⟨kk,b3,i3,h3⟩ ⟨⟨q1,q2,q3⟩,h7⟩
  simp only [List.length_nil,Nat.zero_add,Kog] at q1 q2 q3 h7 ⊢
  exact .of ⟨⟨V16 (by omega) (by omega) q1 ho,by rw [tms,tms]; omega⟩,h7⟩
theorem V1e:∀ (ks:List K00) (t:K00) (o:Int) (ty:List Int) (i:Nat) (c:K01) (out:List K00),t.fKids.drop i=ks→out.length=i→Kx6 c→Kpi ks→t.fKids.length ≤ 1048576→Kog ks ≤ 1048576→Kpi out →
  Gv (Kg3 (t,o,ty,c.fb,c.fi,c.fh,out,(i:Int))) (fun r=>(Kpi r.1∧r.1.length=out.length + ks.length∧Kog r.1=Kog out + Kog ks)∧Kx6 ⟨r.2.1,r.2.2.1,r.2.2.2⟩)
 | [],t,o,ty,i,c,out,hd,ho,h,hl,hk,hm,hto=>by
  rw [Kg3.eq_def]
  simp only
  rw [Kmm (Knk hd),if_neg (by decide)]
  exact .of ⟨⟨hto,by simp,by simp [Kog]⟩,h⟩
 | k :: ks,t,o,ty,i,c,out,hd,ho,h,hl,hk,hm,hto=>by
  obtain ⟨h1,h2,h3⟩:=Knj hd
  rw [Kpi] at hl
  rw [Kog] at hm
  rw [Kg3.eq_def]
  simp only
  rw [Kml h1,if_pos rfl,h2,bs]
  refine Gv.bind (V1d k ⟨c.fb,c.fi,c.fh⟩ h hl.1 (by omega)) ?_
  rintro ⟨x,c1⟩ ⟨⟨q1,q2⟩,h4⟩
  simp only at q1 q2 h4 ⊢
  rw [Kpx (by simp; omega),bs,Kmk (by omega)]
  refine (V1e ks t o ty (i + 1) c1 (out ++ [x]) h3 (by simp [ho]) h4 hl.2 hk (by omega) (V18 hto (by rw [Kpi,Kpi]; exact ⟨q1,trivial⟩))).mono ?_
  rintro ⟨a,b⟩ ⟨⟨z1,z2,z3⟩,z4⟩
  refine ⟨⟨z1,?_,?_⟩,z4⟩
  ·simp at z2 ⊢; omega
  ·rw [Kqw] at z3; simp only [Kog] at z3 ⊢; omega
end
theorem V1f:∀ (n:Nat) (c:K01) (xs:List K00) (i:Nat) (hi:i < xs.length),Kx6 c→tsz xs[i] ≤ n→Kpi xs→xs.length + Kog xs ≤ 2097152 →
  Gv (Kge (c,xs,(i:Int))) (fun r=>(Kpi r.1∧r.1.length=xs.length∧Kog r.1 ≤ Kog xs + 1)∧Kx6 r.2):=by
 intro n
 induction n with
 | zero=>intro c xs i hi h hn; have:=Koi xs[i]; omega
 | succ n ih =>
  intro c xs i hi h hn hl hb
  have he:=V17 (V1a hl hi)
  have hm1:=Kqx (List.getElem_mem hi)
  have hm2:=Koh xs[i]
  have hset:=fun u=>Krs hi u
  have fin:∀ (u:K00) (c':K01),tln u→tms u ≤ tms xs[i] + 1→Kx6 c'→Gv (some (xs.set i u,c')) (fun r=>(Kpi r.1∧r.1.length=xs.length∧Kog r.1 ≤ Kog xs + 1)∧Kx6 r.2):=fun u c' q1 q2 q3=>by
   have:=hset u
   exact .of ⟨⟨V19 hl i q1,by simp,by simp only; omega⟩,q3⟩
  rw [Kge.eq_def]
  simp only
  rw [Kmj hi,bs,Int.toNat_natCast]
  generalize hx:xs[i]=e at *
  refine Gv.bind (Q:=fun r:List Int × Int × Int × Bool=>Kx6 ⟨r.1,r.2.1,r.2.2.1⟩∧(r.2.2.2=true→0 < e.fKids.length)) (.ite (fun hk=>?_) (fun _=>.of ⟨h,fun q=>by cases q⟩)) ?_
  ·have hk:=of_decide_eq_true hk
   refine Gv.bind (Kxd h 3) ?_
   rintro ⟨y,c1⟩ ⟨_,h4⟩
   exact .of ⟨h4,fun _=>by omega⟩
  rintro ⟨b,fi,fh,v⟩ ⟨h4,hv⟩
  simp only at h4 hv ⊢
  refine .ite (fun hv1=>?_) (fun _=>?_)
  ·have hk:=hv hv1
   refine Gv.bind (Kxd h4 _) ?_
   rintro ⟨j,c2⟩ ⟨⟨hj,_⟩,h5⟩
   simp only at hj h5 ⊢
   obtain ⟨hj0,hj1⟩:=hj (by omega)
   obtain ⟨m,rfl⟩:=Int.eq_ofNat_of_zero_le hj0
   have hm:m < e.fKids.length:=by omega
   rw [Kmj hm,bs]
   have hts:tsz e.fKids[m] ≤ n:=by
    have h1:=Koi e
    have h2:tsz e.fKids[m] ≤ Kof e.fKids:=Kqy (List.getElem_mem hm)
    omega
   refine Gv.bind (ih c2 e.fKids m hm h5 hts he.2.2.1 (by omega)) ?_
   rintro ⟨ks,c3⟩ ⟨⟨q1,q2,q3⟩,h6⟩
   simp only at q1 q2 q3 h6 ⊢
   exact fin _ _ (V16 he.1 (by omega) q1 he.2.2.2) (by rw [tms]; omega) h6
  ·refine Gv.bind (Kxd h4 6) ?_
   rintro ⟨j,c2⟩ ⟨_,h5⟩
   simp only at h5 ⊢
   refine .ite (fun _=>?_) (fun _=>?_)
   ·refine Gv.bind (Kxd h5 15) ?_
    rintro ⟨y,c3⟩ ⟨_,h6⟩
    exact fin _ _ (V16 he.1 he.2.1 he.2.2.1 he.2.2.2) (by rw [tms]; omega) h6
   refine Gv.bind (Q:=fun _:Bool=>True) (.ite (fun _=>.of trivial) (fun _=>.of trivial)) (fun w _=>?_)
   refine .ite (fun _=>?_) (fun _=>.ite (fun _=>?_) (fun _=>.ite (fun _=>?_) (fun _=>.ite (fun hk=>?_) (fun _=>?_))))
   ·refine Gv.bind (Kxf h5 _ (by decide)) ?_
    rintro ⟨y,c3⟩ ⟨hy,h6⟩
    refine fin _ _ (V16 he.1 he.2.1 he.2.2.1 ?_) (by rw [tms]; omega) h6
    simp only [List.mem_cons,List.not_mem_nil,or_false] at hy
    omega
   ·refine Gv.bind (Kxf h5 _ (by decide)) ?_
    rintro ⟨y,c3⟩ ⟨hy,h6⟩
    exact fin _ _ (V16 (by simp) he.2.1 he.2.2.1 he.2.2.2) (by rw [tms]; simp; omega) h6
   ·rw [Kpx (by simp; omega),bs,Kmj (by simp),bs,Int.toNat_natCast]
    have e2:(e.fKids ++ [(⟨0,0,[],[]⟩:K00)]).set e.fKids.length (⟨1,0,[],[]⟩:K00)=e.fKids ++ [⟨1,0,[],[]⟩]:=by simp
    rw [e2]
    have e3:tln ⟨1,0,[],[]⟩:=V16 (by simp) (by simp) (by rw [Kpi]; trivial) (by decide)
    exact fin _ _ (V16 he.1 (by simp; omega) (V18 he.2.2.1 (by rw [Kpi,Kpi]; exact ⟨e3,trivial⟩)) he.2.2.2) (by rw [tms,Kqw]; simp [Kog,tms]; omega) h5
   ·have hk:=of_decide_eq_true hk
    have k0:0 < e.fKids.length:=by omega
    have k1:1 < e.fKids.length:=by omega
    rw [show (0:Int)=((0:Nat):Int) from rfl,show (1:Int)=((1:Nat):Int) from rfl,Kmj k0,bs,Kmj k1,bs,bs,Int.toNat_natCast,Kmj (by simp; omega),bs,Int.toNat_natCast]
    have a0:=V1a he.2.2.1 k0
    have a1:=V1a he.2.2.1 k1
    have s1:=Krs k0 e.fKids[1]
    have s2:=Krs (l:=e.fKids.set 0 e.fKids[1]) (i:=1) (by simp; omega) e.fKids[0]
    rw [List.getElem_set_ne (by decide)] at s2
    exact fin _ _ (V16 he.1 (by simp; omega) (V19 (V19 he.2.2.1 0 a1) 1 a0) he.2.2.2) (by rw [tms]; simp only [List.length_set]; omega) h5
   ·exact .of ⟨⟨hl,rfl,by simp⟩,h5⟩
theorem V1g {c:K01} {t:K00} (h:Kx6 c) (hl:tln t) (hb:tms t ≤ 1048576):Gv (Kgh (c,t)) (fun r=>(tln r.1∧tms r.1 ≤ tms t + 1)∧Kx6 r.2):=by
 unfold Kgh
 simp only
 refine Gv.bind (Kxe h 6) ?_
 rintro ⟨x,c1⟩ h1
 simp only at h1 ⊢
 refine .ite (fun _=>?_) (fun _=>.of ⟨⟨hl,by simp⟩,h1⟩)
 rw [Krc (Krd t hl) (by omega),bs]
 refine Gv.bind (V1f (tsz t) c1 [t] 0 (by simp) h1 (Nat.le_refl _) (by rw [Kpi,Kpi]; exact ⟨hl,trivial⟩) (by simp [Kog]; omega)) ?_
 rintro ⟨zs,c2⟩ ⟨⟨q1,q2,q3⟩,h2⟩
 simp only [List.length_singleton] at q1 q2 q3 h2 ⊢
 rw [show (0:Int)=((0:Nat):Int) from rfl,Kmj (by omega),bs]
 refine .of ⟨⟨V1a q1 (by omega),?_⟩,h2⟩
 have:=Kqx (List.getElem_mem (l:=zs) (n:=0) (by omega))
 simp only [Kog] at q3
 simp only
 omega
theorem Kzx.tln {s:K02} (h:s ∈ Kzh) {m b:Nat} {t:K00} (ht:Kzx s m b t) (hb:b ≤ 100000) (hm:m ≤ 1000):tln t:=V15 (Kt2 (Kzi h).1) ht hb hm
theorem V1h {c:K01} (h:Kx6 c) {deep:Nat} (hd:2 ≤ deep∧deep ≤ 4):Gv (Kgk (c,(deep:Int))) (fun r=>(tln r.1∧tms r.1 ≤ 40000)∧Kx6 r.2):=by
 unfold Kgk
 simp only
 refine Gv.bind (Kxe h 2) ?_
 rintro ⟨v,c1⟩ h1
 simp only at h1 ⊢
 refine Gv.bind (V11 h1 hd 3 (by decide) v) ?_
 rintro ⟨s,ctx,t,c2⟩ ⟨hsy,hc,ht,h2⟩
 simp only at hsy hc ht h2 ⊢
 have hcl:=hc.2.1
 have htl:=ht.tln hsy (by decide) (by omega)
 have htm:=ht.tms
 obtain ⟨o1,o2,o3,o4⟩:=t
 refine Gv.bind (Kxe h2 4) ?_
 rintro ⟨v2,c3⟩ h3
 simp only at h3 ⊢
 refine Gv.bind (Q:=fun r:List Int × Int × Int × Int × Int × List Int × List K00=>Kx6 ⟨r.1,r.2.1,r.2.2.1⟩∧tln ⟨r.2.2.2.1,r.2.2.2.2.1,r.2.2.2.2.2.1,r.2.2.2.2.2.2⟩∧tms ⟨r.2.2.2.1,r.2.2.2.2.1,r.2.2.2.2.2.1,r.2.2.2.2.2.2⟩ ≤ 33000) (.ite (fun _=>?_) (fun _=>.of ⟨h3,htl,by simp only; omega⟩)) ?_
 ·refine Gv.bind (V1d _ c3 h3 htl (by omega)) ?_
  rintro ⟨⟨p1,p2,p3,p4⟩,c4⟩ ⟨⟨q1,q2⟩,h4⟩
  exact .of ⟨h4,q1,by simp only at q2 ⊢; omega⟩
 rintro ⟨a1,a2,a3,a4,a5,a6,a7⟩ ⟨h4,q1,q2⟩
 simp only at h4 q1 q2 ⊢
 refine Gv.bind (V1g h4 q1 (by omega)) ?_
 rintro ⟨u,c5⟩ ⟨⟨q3,q4⟩,h5⟩
 exact .of ⟨⟨q3,by simp only at q4 ⊢; omega⟩,h5⟩
mutual
theorem V1i:∀ (a b:K00),tms a ≤ 1099511627776→tms b ≤ 1099511627776→Kjq (a,b)=some (tEq a b)
 | ⟨o,N,t,k⟩,⟨o',N',t',k'⟩,ha,hb=>by
  rw [tms] at ha hb
  rw [Kjq.eq_def,tEq]
  simp only
  rw [Ks2 t t' (by omega)]
  have hk:Kjr (k,k')=some (k.length == k'.length && Kst k k'):=by
   rw [Kjr.eq_def]
   simp only
   by_cases h4:k.length=k'.length
   ·have hl:=V1j k k' k k' 0 rfl rfl h4 (by omega) (by omega) (by omega)
    rw [show ((0:Nat):Int)=0 from rfl] at hl
    rw [show ((k.length:Int) != (k'.length:Int))=false by rw [h4]; exact Kmn,if_neg (by decide),hl,bs,beq_iff_eq.2 h4]
    cases Kst k k' <;> rfl
   ·rw [bne_iff_ne.2 (by omega),if_pos rfl,beq_eq_false_iff_ne.2 h4]; rfl
  rw [hk]
  cases o == o' <;> cases N == N' <;> cases t == t' <;> rfl
theorem V1j:∀ (ks js a b:List K00) (i:Nat),a.drop i=ks→b.drop i=js→ks.length=js.length→a.length ≤ 1099511627776→Kog ks ≤ 1099511627776→Kog js ≤ 1099511627776→Kjs (a,b,(i:Int))=some (if Kst ks js then .inl () else .inr false)
 | [],js,a,b,i,h1,h2,hl,hk,m1,m2=>by
  rw [Kjs.eq_def,Kst]
  simp only
  rw [Kmm (Knk h1)]; rfl
 | x :: ks,[],a,b,i,h1,h2,hl,hk,m1,m2=>by simp at hl
 | x :: ks,y :: js,a,b,i,h1,h2,hl,hk,m1,m2=>by
  obtain ⟨hi,hx,hd⟩:=Knj h1
  obtain ⟨_,hy,hd2⟩:=Knj h2
  rw [Kog] at m1 m2
  rw [Kjs.eq_def,Kst]
  simp only
  rw [Kml hi,if_pos rfl,hx,bs,hy,bs,V1i x y (by omega) (by omega),bs,Kmk (by omega),V1j ks js a b (i + 1) hd hd2 (by simpa using hl) hk (by omega) (by omega)]
  cases tEq x y <;> rfl
end
mutual
def V1k (p:Int→Int→Int) (f:Int→Int):K00→K00
 | ⟨op,N,ty,ks⟩=>⟨op,p op N,ty.map f,V1l p f ks⟩
def V1l (p:Int→Int→Int) (f:Int→Int):List K00→List K00
 | []=>[]
 | k :: ks=>V1k p f k :: V1l p f ks
end
mutual
theorem V1m (p:Int→Int→Int) (f:Int→Int):∀ t:K00,tsz (V1k p f t)=tsz t∧tms (V1k p f t)=tms t
 | ⟨op,N,ty,ks⟩=>by
  obtain ⟨h1,h2,h3⟩:=V1n p f ks
  rw [V1k,tsz,tsz,tms,tms,h1,h2,h3,List.length_map]
  exact ⟨rfl,rfl⟩
theorem V1n (p:Int→Int→Int) (f:Int→Int):∀ ks:List K00,Kof (V1l p f ks)=Kof ks∧Kog (V1l p f ks)=Kog ks∧(V1l p f ks).length=ks.length
 | []=>⟨by rw [V1l],by rw [V1l],by rw [V1l]⟩
 | k :: ks=>by
  obtain ⟨h1,h2,h3⟩:=V1n p f ks
  obtain ⟨h4,h5⟩:=V1m p f k
  rw [V1l,Kof,Kof,Kog,Kog,List.length_cons,List.length_cons,h1,h2,h3,h4,h5]
  exact ⟨rfl,rfl,rfl⟩
end
theorem V1o {f:Int→Int}:∀ (l:List Int) (m:Nat),(∀ c ∈ l,Knn (f c)=Knn c)→skip m (l.map f)=(skip m l).map (List.map f)
 | l,0,_=>by rw [Knv,Knv]; rfl
 | [],m + 1,_=>by rw [List.map_nil,Knw]; rfl
 | c :: l,m + 1,h=>by
  rw [List.map_cons,Knx,Knx,h c List.mem_cons_self]
  split
  ·rfl
  ·exact V1o l _ (fun c hc=>h c (List.mem_cons_of_mem _ hc))
theorem V1p {f:Int→Int} (l:List Int) (h:∀ c ∈ l,Knn (f c)=Knn c) (hw:wtB l=true):wtB (l.map f)=true:=by
 unfold wtB at hw ⊢
 rw [V1o l 1 h,List.length_map]
 rw [Bool.and_eq_true] at hw ⊢
 refine ⟨hw.1,?_⟩
 rw [eq_of_beq hw.2]
 rfl
mutual
theorem V1q {p:Int→Int→Int} {f:Int→Int} (hp:∀ op N,(Koq op=true→gN 16 false (p op N)=true)∧(Koq op=false→p op N=N)) (hf:∀ c,0 ≤ c→c ≤ 36→Knn (f c)=Knn c) :
  ∀ (t:K00) (n:Nat),tOk (gN 16 false) wtB n t=true→tOk (gN 16 false) wtB n (V1k p f t)=true
 | ⟨op,N,ty,ks⟩,n,h=>by
  rw [V1k,Ks4,Bool.and_eq_true]
  rw [Ks4,Bool.and_eq_true] at h
  refine ⟨?_,V1r hp hf ks op n 0 h.2⟩
  have hty:=Kpu h.1
  simp only at hty
  have h1:=h.1
  unfold Kp5 Kp3 Kp4 at h1 ⊢
  simp only [Bool.and_eq_true,(V1n p f ks).2.2] at h1 ⊢
  obtain ⟨p1,p2⟩:=hp op N
  refine ⟨⟨h1.1.1,?_⟩,?_⟩
  ·have h2:=h1.1.2
   by_cases a0:op=0
   ·subst a0; rw [p2 rfl]; exact h2
   by_cases a1:op=1
   ·subst a1; rw [p2 rfl]; exact h2
   rw [if_neg (by simp [a0]),if_neg (by simp [a1])] at h2 ⊢
   cases hg:Koq op
   ·rw [p2 hg]; rw [hg] at h2; exact h2
   ·exact p1 hg
  ·have h2:=h1.2
   split at h2
   ·rename_i q; rw [if_pos q]; exact V1p ty (fun c hc=>hf c (hty.1 c hc).1 (hty.1 c hc).2) h2
   ·rename_i q; rw [if_neg q,List.length_map]; exact h2
theorem V1r {p:Int→Int→Int} {f:Int→Int} (hp:∀ op N,(Koq op=true→gN 16 false (p op N)=true)∧(Koq op=false→p op N=N)) (hf:∀ c,0 ≤ c→c ≤ 36→Knn (f c)=Knn c) :
  ∀ (ks:List K00) (op:Int) (n i:Nat),Kp6 (gN 16 false) wtB op n i ks=true→Kp6 (gN 16 false) wtB op n i (V1l p f ks)=true
 | [],op,n,i,_=>by rw [V1l,Kp6]
 | k :: ks,op,n,i,h=>by
  rw [Ks5,Bool.and_eq_true] at h
  rw [V1l,Ks5,Bool.and_eq_true]
  exact ⟨V1q hp hf k _ h.1,V1r hp hf ks op n (i + 1) h.2⟩
end
def p1 (op N:Int):Int:=if op == 12 then 1 else if Koq op then -1 else N
def p2 (op N:Int):Int:=if Koq op then 1 else N
def clC (c:Int):Int:=if c=35 then 4 else if c=36 then 20 else c
def V1s (c:Int):Int:=clC (Krf c)
theorem V1t (c:Int) (h1:0 ≤ c) (h2:c ≤ 36):(Krf c=35∧Knl c=true)∨(Krf c=36∧Knl c=false∧Knm c=true)∨(Krf c=c∧c ≤ 2∧Knl c=false∧Knm c=false):=by
 unfold Krf
 cases ha:Knl c
 ·cases hb:Knm c
  ·right; right
   refine ⟨rfl,?_,rfl,rfl⟩
   unfold Knl inB at ha
   unfold Knm inB at hb
   simp at ha hb
   omega
  ·right; left; exact ⟨rfl,rfl,rfl⟩
 ·left; exact ⟨rfl,rfl⟩
theorem V1u (c:Int) (h1:0 ≤ c) (h2:c ≤ 36):Knn (Krf c)=Knn c:=by
 rcases V1t c h1 h2 with ⟨e,ha⟩ | ⟨e,ha,hb⟩ | ⟨e,_,_⟩
 ·rw [e]; unfold Knn; rw [ha]
  have:(c == 0)=false:=by unfold Knl inB at ha; simp at ha ⊢; omega
  rw [this]; simp [Knl,inB]
 ·rw [e]; unfold Knn; rw [ha,hb]
  have h3:(c == 0)=false:=by unfold Knm inB at hb; simp at hb ⊢; omega
  have h4:(c == 1)=false:=by unfold Knm inB at hb; simp at hb ⊢; omega
  have h5:(c == 2)=false:=by unfold Knm inB at hb; simp at hb ⊢; omega
  rw [h3,h4,h5]; simp [Knl,Knm,inB]
 ·rw [e]
theorem V1v (c:Int) (h1:0 ≤ c) (h2:c ≤ 36):Knn (V1s c)=Knn c∧¬ 35 ≤ V1s c∧Krf (V1s c)=Krf c:=by
 have hk:=V1u c h1 h2
 unfold V1s clC
 rcases V1t c h1 h2 with ⟨e,ha⟩ | ⟨e,ha,hb⟩ | ⟨e,h3,h4,h5⟩
 ·rw [← hk,e]; decide
 ·rw [← hk,e]; decide
 ·rw [e,if_neg (by omega),if_neg (by omega)]; exact ⟨rfl,by omega,e⟩
theorem hp1 (op N:Int):(Koq op=true→gN 16 false (p1 op N)=true)∧(Koq op=false→p1 op N=N):=by
 unfold p1
 refine ⟨fun h=>?_,fun h=>?_⟩
 ·rw [h]
  split
  ·decide
  ·rw [if_pos rfl]; decide
 ·rw [h]
  by_cases e:op=12
  ·subst e; cases h
  ·rw [if_neg (by simp [e])]; rfl
theorem hp2 (op N:Int):(Koq op=true→gN 16 false (p2 op N)=true)∧(Koq op=false→p2 op N=N):=by
 unfold p2
 exact ⟨fun h=>by rw [h,if_pos rfl]; decide,fun h=>by rw [h]; rfl⟩
mutual
theorem V1w:∀ t:K00,Krj t=V1k p1 Krf t
 | ⟨op,N,ty,ks⟩=>by rw [Krj,V1k,V1x ks]; rfl
theorem V1x:∀ ks:List K00,Krk ks=V1l p1 Krf ks
 | []=>by rw [Krk,V1l]
 | k :: ks=>by rw [Krk,V1l,V1w k,V1x ks]
end
theorem V1y (l:List Int) (h:∀ c ∈ l,0 ≤ c∧c ≤ 36):(l.map V1s).map Krf=l.map Krf∧Kpm (l.map V1s)=0∧Kpm l ≤ Kpm (l.map Krf):=by
 induction l with
 | nil=>exact ⟨rfl,rfl,Nat.le_refl _⟩
 | cons c l ih =>
  obtain ⟨h1,h2,h3⟩:=ih (fun c hc=>h c (List.mem_cons_of_mem _ hc))
  obtain ⟨c0,c1⟩:=h c List.mem_cons_self
  obtain ⟨q1,q2,q3⟩:=V1v c c0 c1
  refine ⟨by rw [List.map_cons,List.map_cons,List.map_cons,q3,h1],by rw [List.map_cons,Kpm,if_neg q2,h2],?_⟩
  rw [List.map_cons,Kpm,Kpm]
  have:35 ≤ c→35 ≤ Krf c:=fun q=>by
   rcases V1t c c0 c1 with ⟨e,_⟩ | ⟨e,_⟩ | ⟨e,z,_⟩ <;> omega
  split
  ·rename_i q; rw [if_pos (this q)]; omega
  ·omega
mutual
theorem V1z:∀ (t:K00) (n:Nat),tOk (gN 16 false) wtB n t=true→V1k p1 Krf (V1k p2 V1s t)=V1k p1 Krf t∧opn (V1k p2 V1s t)=0∧opn t ≤ opn (V1k p1 Krf t) + tsz t
 | ⟨op,N,ty,ks⟩,n,h=>by
  rw [Ks4,Bool.and_eq_true] at h
  obtain ⟨h1,h2,h3⟩:=V20 ks op n 0 h.2
  obtain ⟨q1,q2,q3⟩:=V1y ty (Kpu h.1).1
  refine ⟨?_,?_,?_⟩
  ·rw [V1k,V1k,V1k,q1,h1]
   have:p1 op (p2 op N)=p1 op N:=by unfold p1 p2; cases Koq op <;> rfl
   rw [this]
  ·rw [V1k,opn,q2,h2]
   have:(Koq op && decide (p2 op N < 0))=false:=by
    unfold p2
    cases Koq op
    ·rfl
    ·rfl
   rw [this]; rfl
  ·rw [V1k,opn,opn,tsz]
   have:(if (Koq op && decide (N < 0))=true then 1 else 0) ≤ 1:=by split <;> omega
   omega
theorem V20:∀ (ks:List K00) (op:Int) (n i:Nat),Kp6 (gN 16 false) wtB op n i ks=true→V1l p1 Krf (V1l p2 V1s ks)=V1l p1 Krf ks∧Kpo (V1l p2 V1s ks)=0∧Kpo ks ≤ Kpo (V1l p1 Krf ks) + Kof ks
 | [],op,n,i,_=>⟨by rw [V1l,V1l],by rw [V1l,Kpo],by rw [V1l,Kpo,Kof]; omega⟩
 | k :: ks,op,n,i,h=>by
  rw [Ks5,Bool.and_eq_true] at h
  obtain ⟨h1,h2,h3⟩:=V20 ks op n (i + 1) h.2
  obtain ⟨h4,h5,h6⟩:=V1z k _ h.1
  refine ⟨by rw [V1l,V1l,V1l,h1,h4],by rw [V1l,Kpo,h2,h5],by rw [V1l,Kpo,Kpo,Kof]; omega⟩
end
theorem V21 (m n:Nat):(List.replicate m (1:Int)).drop n=List.replicate (m - n) 1:=by simp
theorem V22 (m:Nat) (h:1 ≤ m):(List.replicate m (1:Int)).headD 0=1:=by
 cases m with
 | zero=>omega
 | succ m=>rfl
theorem V23:∀ (l:List Int) (m:Nat),(∀ c ∈ l,0 ≤ c∧c ≤ 36)→Kpm (l.map Krf) ≤ m→fc (l.map Krf) (List.replicate m 1)=l.map V1s
 | [],m,_,_=>rfl
 | c :: l,m,h,hm=>by
  obtain ⟨c0,c1⟩:=h c List.mem_cons_self
  have hl:=fun c hc=>h c (List.mem_cons_of_mem _ hc)
  rw [List.map_cons,Kpm] at hm
  rw [List.map_cons,List.map_cons,fc]
  have hv:V1s c=clC (Krf c):=rfl
  by_cases q:35 ≤ Krf c
  ·rw [if_pos q] at hm
   rw [if_pos q,V22 m (by omega),V21,V23 l _ hl (by omega),hv]
   congr 1
   unfold clC
   rcases V1t c c0 c1 with ⟨e,_⟩ | ⟨e,_⟩ | ⟨e,z,_⟩
   ·rw [e]; rfl
   ·rw [e]; rfl
   ·omega
  ·rw [if_neg q] at hm
   rw [if_neg q,V23 l m hl (by omega),hv]
   congr 1
   unfold clC
   rw [if_neg (by omega),if_neg (by omega)]
mutual
theorem V24:∀ (t:K00) (n m:Nat),tOk (gN 16 false) wtB n t=true→opn (V1k p1 Krf t) ≤ m→fil (V1k p1 Krf t) (List.replicate m 1)=V1k p2 V1s t
 | ⟨op,N,ty,ks⟩,n,m,h,hm=>by
  rw [Ks4,Bool.and_eq_true] at h
  rw [V1k,opn] at hm
  rw [V1k,fil,V1k,V21,V21,V23 ty _ (Kpu h.1).1 (by omega),V25 ks op n 0 _ h.2 (by omega)]
  congr 1
  unfold p1 p2 at *
  cases hg:Koq op
  ·have:(op == 12)=false:=by
    cases e:op == 12
    ·rfl
    ·have:=eq_of_beq e; subst this; cases hg
   rw [this]; rfl
  ·rw [hg] at hm
   cases e:op == 12
   ·rw [e] at hm
    simp only [Bool.true_and,Bool.false_eq_true,if_false,if_true] at hm ⊢
    rw [if_pos (by decide)] at hm ⊢
    exact V22 m (by omega)
   ·simp
theorem V25:∀ (ks:List K00) (op:Int) (n i m:Nat),Kp6 (gN 16 false) wtB op n i ks=true→Kpo (V1l p1 Krf ks) ≤ m→Ks9 (V1l p1 Krf ks) (List.replicate m 1)=V1l p2 V1s ks
 | [],op,n,i,m,_,_=>by rw [V1l,V1l,Ks9]
 | k :: ks,op,n,i,m,h,hm=>by
  rw [Ks5,Bool.and_eq_true] at h
  rw [V1l,Kpo] at hm
  rw [V1l,V1l,Ks9,V21,V24 k _ m h.1 (by omega),V25 ks op n (i + 1) _ h.2 (by omega)]
end
theorem V26 (a b:K00) (n:Nat) (hn:n ≤ 1099511627776):∀ (k i:Nat) (l:List Int),i + k=n→l.length=i→Kl6 (a,b,(n:Int),l,(i:Int))=some (l ++ List.replicate k 1):=by
 intro k
 induction k with
 | zero =>
  intro i l hi hl
  rw [Kl6.eq_def]
  simp only
  rw [Kmm (by omega),if_neg (by decide)]
  simp
 | succ k ih =>
  intro i l hi hl
  rw [Kl6.eq_def]
  simp only
  rw [Kml (by omega),if_pos rfl,Kpx (by simp; omega),bs,Kmk (by omega),ih (i + 1) _ (by omega) (by simp [hl]),List.append_assoc]
  rfl
theorem V27 {t:K00} (ht:tms t ≤ 1048576) (hw:tOk (gN 16 false) wtB 8 t=true) (hs:tsz t ≤ 400) (l:List Int) (hl:l.length ≤ 1048576) (hg:∀ g ∈ l,inB g 0 15=true):Kjf (t,l)=some (if opn t=l.length then (fil t l,true) else (noT,false)):=by
 have hwb:wB t=true:=by unfold wB; rw [hw,decide_eq_true hs]; rfl
 unfold Kjf
 simp only
 rw [Kpg t (by omega),hwb]
 simp only [bs,if_true,Kpv _ t 8 (by omega) hw]
 by_cases hc:opn t=l.length
 ·have e2:((l.length:Int) != (((opn t:Nat):Int)))=false:=by rw [hc,Kmn]
  rw [e2,Ksf l (by omega),List.all_eq_true.2 hg,if_pos hc]
  have hg2:g15 l:=fun g h=>by have:=hg g h; unfold inB at this; simpa using this
  rw [if_neg (by decide),bs,bs]
  simp only [Bool.not_true,Bool.false_eq_true,if_false]
  rw [Ksc _ t 8 l hw (by omega) (by omega) hg2]; rfl
 ·have e2:((l.length:Int) != (((opn t:Nat):Int)))=true:=bne_iff_ne.2 (by omega)
  rw [e2,if_neg hc]
  rfl
theorem V28 {t:K00} (ht:tms t ≤ 1048576) (hw:tOk (gN 16 false) wtB 8 t=true) (hs:tsz t ≤ 400):Kim t=some ((opn t:Nat):Int):=by
 have hwb:wB t=true:=by unfold wB; rw [hw,decide_eq_true hs]; rfl
 unfold Kim
 rw [Kpg t (by omega),hwb,bs,if_pos rfl,Kpv _ t 8 (by omega) hw]
 rfl
theorem V29 {t:K00} (ht:tms t ≤ 1048576) (hw:tOk (gN 16 false) wtB 8 t=true) (hs:tsz t ≤ 400):Ki4 t=some (V1k p1 Krf t,true):=by
 have hwb:wB t=true:=by unfold wB; rw [hw,decide_eq_true hs]; rfl
 rw [(Krr t (by omega)).2,hwb,if_pos rfl,V1w]
 rfl
theorem V2a (t:K00) (ht:tms t ≤ 1000000):∀ code:List Int,K7c code=some false→Kgn code=some t→Kl9 code=some true:=by
 intro code e1 e2
 unfold Kl9
 rw [e1,bs,if_neg (by decide),e2,bs]
 cases hwb:wB t
 ·rw [(Krr t (by omega)).2,Kpg t (by omega),Kph t (by omega),hwb]
  rfl
 ·have hw:=(Krb hwb).1
  have hs:tsz t ≤ 400:=by
   have:=hwb
   unfold wB at this
   rw [Bool.and_eq_true] at this
   exact of_decide_eq_true this.2
  rw [V29 (by omega) hw hs,bs]
  simp only
  rw [Kpg t (by omega),hwb,bs]
  simp only [beq_self_eq_true,if_true]
  have x1:=V1m p1 Krf t
  have x2:=V1q hp1 V1u t 8 hw
  have y1:=V1m p2 V1s t
  have y2:=V1q hp2 (fun c h1 h2=>(V1v c h1 h2).1) t 8 hw
  obtain ⟨a1,a2,a3⟩:=V1z t 8 hw
  have ho:=Kpp (V1k p1 Krf t)
  rw [V28 (by omega) x2 (by omega),bs,show (0:Int)=((0:Nat):Int) from rfl,V26 t _ _ (by omega) (opn (V1k p1 Krf t)) 0 [] (by omega) rfl,bs,List.nil_append]
  have g1:∀ (m:Nat),∀ g ∈ List.replicate m (1:Int),inB g 0 15=true:=fun m g hg=>by rw [(List.mem_replicate.1 hg).2]; decide
  rw [V27 (by omega) x2 (by omega) _ (by simp; omega) (g1 _),bs,List.length_replicate,if_pos rfl,V24 t 8 _ hw (Nat.le_refl _)]
  simp only
  rw [Kpx (by simp; omega),bs,V27 (by omega) x2 (by omega) _ (by simp; omega) (fun g hg=>by
   rcases List.mem_append.1 hg with h | h
   ·exact g1 _ g h
   ·rw [List.mem_singleton.1 h]; decide),bs,if_neg (by simp)]
  simp only
  rw [V29 (by omega) y2 (by omega),bs,a1]
  simp only [if_true,Bool.false_eq_true,if_false]
  rw [V28 (by omega) y2 (by omega),bs,a2]
  simp only [Int.natCast_zero,beq_self_eq_true,if_true]
  have hx:wB (V1k p1 Krf t)=true:=by unfold wB; rw [x2,decide_eq_true (by omega)]; rfl
  have hsame:Kk0 (V1k p1 Krf t,V1k p1 Krf t)=some true:=by
   unfold Kk0
   simp only
   rw [Kpg _ (by omega),hx,bs,if_pos rfl,bs,if_pos rfl,V1i _ _ (by omega) (by omega),bs,Ksu]
   rfl
  have hsz:Kk3 t=some ((tsz t:Nat):Int):=by
   unfold Kk3
   rw [Kpf t (by omega),bs]
   unfold Kpb
   rw [hw,Nat.zero_add,Bool.true_and,decide_eq_true hs,if_pos rfl,decide_eq_false (by omega),if_neg (by decide)]
  rw [hsame,bs,if_pos rfl,V28 (by omega) hw hs,bs,bs,hsz,bs,Kmi (by omega) (by omega)]
  rw [decide_eq_true (by omega)]
  rfl
theorem V2b (code:List Int) (w:code.length ≤ maxLen∧∀ v ∈ code,0 ≤ v∧v ≤ 255):Kl9 code=some true:=by
 by_cases hbig:(code.length:Int) > 1048576
 ·unfold Kl9 K7c
  rw [bs,decide_eq_true hbig,if_pos rfl]
 have e1:K7c code=some false:=by unfold K7c; rw [decide_eq_false hbig]
 obtain ⟨c0,e0,h0⟩:=Kxa code (by omega) w.2
 obtain ⟨d,hd,e2⟩:=V12 code (by omega)
 obtain ⟨⟨t,c1⟩,e3,⟨⟨q1,q2⟩,q3⟩⟩:=V1h h0 hd
 refine V2a t (by simp only at q2; omega) code e1 ?_
 unfold Kgn
 rw [e0,bs,e2,bs,e3]
 rfl
end Go.Am
