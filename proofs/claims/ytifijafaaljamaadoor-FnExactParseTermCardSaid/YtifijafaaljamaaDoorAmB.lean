/- The abstract state of an activation, what it says of the machine, and: a region whose operations are planned in the text's order comes to the plan's end in whatever order its edges allow. -/
import Derived.Test.YtifijafaaljamaaDoorAmA
namespace Go.Am
open Go.RowKit

inductive Q0c where
 | box (cs:List AV)
 | arr (xs:List AV)
  | arx (xs:List AV) (i j k:Nat)
  | ary (xs:List AV)
 deriving Inhabited

structure Q0d where
 T:Nat→AV
 O:Nat→Option Q0c

mutual
def refs:AV→List Nat
 | .rs id=>[id]
 | .ra id _=>[id]
 | .ea id _ _ _=>[id]
 | .cut id _=>[id]
 | .agg cs=>Q0e cs
 | .tup cs=>Q0e cs
 | .fn _ cs=>Q0e cs
 | _=>[]
def Q0e:List AV→List Nat
 | []=>[]
 | x :: xs=>refs x ++ Q0e xs
end
theorem Q0f {l:List AV} {k:Nat}:k ∈ Q0e l ↔ ∃ x ∈ l,k ∈ refs x:=by
 induction l with
 | nil=>simp [Q0e]
 | cons x xs ih=>simp [Q0e,ih]
theorem Q0g {l:List AV} {i k:Nat} (h:k ∈ refs (av l i)):k ∈ Q0e l:=by
 unfold av at h
 rw [List.getD_eq_getElem?_getD] at h
 cases hx:l[i]? with
 | none=>simp [hx,refs] at h
 | some x=>exact Q0f.2 ⟨x,List.mem_of_getElem? hx,by simpa [hx] using h⟩

def Q0c.refs:Q0c→List Nat
 | .box cs=>Q0e cs
 | .arr _=>[]
 | .arx _ _ _ k=>[k]
 | .ary _=>[]

def Q0h (σ:Q0d) (k:Nat):Prop:=(1000 ≤ k∨∃ t,k ∈ refs (σ.T t))∨∃ id o,σ.O id=some o∧k ∈ o.refs

inductive Q0i (w:World) (Sh:Nat→Prop) (β:Nat→Value):Value→AV→Prop where
 | base (v:Value) (x:AV) (h:Q03 w Sh v x):Q0i w Sh β v x
 | agg (c:Array Value) (cs:List AV) (hs:c.size=cs.length) (h:∀ i,i < cs.length→Q0i w Sh β (c.getD i undef) (av cs i)):Q0i w Sh β (.agg c) (.agg cs)
 | tup (c:Array Value) (cs:List AV) (hs:c.size=cs.length) (h:∀ i,i < cs.length→Q0i w Sh β (c.getD i undef) (av cs i)):Q0i w Sh β (.tuple c) (.tup cs)
 | fn (f:FuncId) (c:Array Value) (cs:List AV) (hs:c.size=cs.length) (h:∀ i,i < cs.length→Q0i w Sh β (c.getD i undef) (av cs i)):Q0i w Sh β (.func (.func f) #[] c) (.fn f cs)
 | rs (id:Nat) (h:(β id).oneCell'=true):Q0i w Sh β (β id) (.rs id)
 | ra (id off g:Nat) (h:β id=.pointer (some ⟨g,0,none⟩)):Q0i w Sh β (.pointer (some ⟨g,off,none⟩)) (.ra id off)
 | ea (id sz i off g n c:Nat) (h:β id=.slice (some ⟨g,0,none⟩) n c):Q0i w Sh β (.pointer (some ⟨g,i * sz + off,none⟩)) (.ea id sz i off)
 | cut (id lo g n c o:Nat) (h:β id=.slice (some ⟨g,0,none⟩) n c) (hl:lo ≤ n) (hn:n ≤ c) (ho:(lo < c→o=lo)∧o ≤ c):Q0i w Sh β (.slice (some ⟨g,o,none⟩) (n - lo) (c - lo)) (.cut id lo)

theorem Q0i.mono {w w':World} {Sh Sh':Nat→Prop} {β β':Nat→Value} {v:Value} {x:AV} (h:Q0i w Sh β v x) (hw:∀ b,Sh b→w'.heap[b]?=w.heap[b]?) (hS:∀ b,Sh b→Sh' b)
  (hβ:∀ k ∈ refs x,β' k=β k):Q0i w' Sh' β' v x:=by
 induction h with
 | base v x h=>exact .base v x (h.mono hw hS)
 | agg c cs hs _ ih=>exact .agg c cs hs (fun i hi=>ih i hi (fun k hk=>hβ k (Q0g hk)))
 | tup c cs hs _ ih=>exact .tup c cs hs (fun i hi=>ih i hi (fun k hk=>hβ k (Q0g hk)))
 | fn f c cs hs _ ih=>exact .fn f c cs hs (fun i hi=>ih i hi (fun k hk=>hβ k (Q0g hk)))
 | rs id h=>have e:=hβ id (by simp [refs]); rw [← e] at h ⊢; exact .rs id h
 | ra id off g h=>exact .ra id off g ((hβ id (by simp [refs])).trans h)
 | ea id sz i off g n c h=>exact .ea id sz i off g n c ((hβ id (by simp [refs])).trans h)
 | cut id lo g n c o h hl hn ho=>exact .cut id lo g n c o ((hβ id (by simp [refs])).trans h) hl hn ho

structure Q0j (w:World) (Sh S:Nat→Prop) (v u:Value) (xs:List AV) (i j:Nat) (g c sz:Nat) (e:TypeId) (cur:Array Value) (Si:Nat→Nat→Nat→Prop):Prop where
 hv:v=.slice (some ⟨g,0,none⟩) xs.length c
 hg:w.heap[g]?=some (.cells cur e (0,0))
 hc:xs.length ≤ c
 hm:c ≤ maxLen
 hs:cur.size=c * sz
 hz:∀ i,i < xs.length→(cellsOf (av xs i)).length=sz
 hi:i < xs.length
 hj:j < sz
 hu:cur.getD (i * sz + j) undef=u
 ho:u.oneCell'=true
 h:∀ i' j',i' < xs.length→j' < sz→¬ (i'=i∧j'=j)→Q04 w Sh (Si i' j') (cur.getD (i' * sz + j') undef) (av (cellsOf (av xs i')) j')
 hSg:S g
 hS:∀ i' j' b,i' < xs.length→j' < sz→¬ (i'=i∧j'=j)→Si i' j' b→S b∧b ≠ g
 hd:∀ i' j' i'' j'' b,i' < xs.length→j' < sz→i'' < xs.length→j'' < sz→¬ (i'=i∧j'=j)→¬ (i''=i∧j''=j)→Si i' j' b→Si i'' j'' b→i'=i''∧j'=j''
theorem Q0j.mono {w w':World} {Sh Sh' S:Nat→Prop} {v u:Value} {xs:List AV} {i j g c sz:Nat} {e:TypeId} {cur:Array Value} {Si:Nat→Nat→Nat→Prop} (h:Q0j w Sh S v u xs i j g c sz e cur Si)
  (hw:∀ b,Sh b→w'.heap[b]?=w.heap[b]?) (hwS:∀ b,S b→w'.heap[b]?=w.heap[b]?) (hSh:∀ b,Sh b→Sh' b):Q0j w' Sh' S v u xs i j g c sz e cur Si :=
 { h with hg:=(hwS g h.hSg).trans h.hg,h:=fun i' j' h1 h2 h3=>(h.h i' j' h1 h2 h3).mono hw (fun b hb=>hwS b (h.hS i' j' b h1 h2 h3 hb).1) hSh (fun _ hb=>hb) }

structure Q0k (w:World) (Sh S:Nat→Prop) (v:Value) (xs:List AV) (g c:Nat) (e:TypeId) (cur:Array Value):Prop where
 hv:v=.slice (some ⟨g,0,none⟩) xs.length c
 hg:w.heap[g]?=some (.cells cur e (0,0))
 hc:xs.length ≤ c
 hm:c ≤ maxLen
 hs:cur.size=c
 h1:∀ x ∈ xs,cellsOf x=[x]
 h:∀ i,i < xs.length→Q03 w Sh (cur.getD i undef) (av xs i)
 hSg:S g
def Q0l (w:World) (Sh S:Nat→Prop) (v:Value) (xs:List AV):Prop:=(v=.slice none 0 0∧xs=[])∨∃ g c e cur,Q0k w Sh S v xs g c e cur
theorem Q0l.mono {w w':World} {Sh Sh' S S':Nat→Prop} {v:Value} {xs:List AV} (h:Q0l w Sh S v xs) (hw:∀ b,Sh b→w'.heap[b]?=w.heap[b]?) (hwS:∀ b,S b→w'.heap[b]?=w.heap[b]?) (hSh:∀ b,Sh b→Sh' b) (hS:∀ b,S b→S' b):Q0l w' Sh' S' v xs:=by
 rcases h with h | ⟨g,c,e,cur,h⟩
 ·exact .inl h
 ·exact .inr ⟨g,c,e,cur,{ h with hg:=(hwS g h.hSg).trans h.hg,h:=fun i hi=>(h.h i hi).mono hw hSh,hSg:=hS g h.hSg }⟩
theorem Q0l.one {w:World} {Sh S:Nat→Prop} {v:Value} {xs:List AV} (h:Q0l w Sh S v xs):v.oneCell'=true:=by
 rcases h with ⟨rfl,_⟩ | ⟨g,c,e,cur,h⟩
 ·rfl
 ·rw [h.hv]; rfl

def Q0m (w:World) (Sh:Nat→Prop) (β:Nat→Value) (S:Nat→Prop) (v:Value):Q0c→Prop
 | .box cs=>∃ g e c,v=.pointer (some ⟨g,0,none⟩)∧w.heap[g]?=some (.cells c e (0,0))∧c.size=cs.length∧(∀ i,i < cs.length→Q0i w Sh β (c.getD i undef) (av cs i))∧S g
 | .arr xs=>Q04 w Sh S v (.osl xs)
 | .arx xs i j k=>∃ g c sz e cur Si,Q0j w Sh S v (β k) xs i j g c sz e cur Si
 | .ary xs=>Q0l w Sh S v xs

theorem Q0m.mono {w w':World} {Sh Sh':Nat→Prop} {β β':Nat→Value} {S:Nat→Prop} {v:Value} {o:Q0c} (h:Q0m w Sh β S v o) (hw:∀ b,Sh b→w'.heap[b]?=w.heap[b]?)
  (hwS:∀ b,S b→w'.heap[b]?=w.heap[b]?) (hS:∀ b,Sh b→Sh' b) (hβ:∀ k ∈ o.refs,β' k=β k):Q0m w' Sh' β' S v o:=by
 cases o with
 | box cs =>
  obtain ⟨g,e,c,hv,hg,hs,ht,hSg⟩:=h
  exact ⟨g,e,c,hv,(hwS g hSg).trans hg,hs,fun i hi=>(ht i hi).mono hw hS (fun k hk=>hβ k (Q0g hk)),hSg⟩
 | arr xs=>exact Q04.mono h hw hwS hS (fun _ hb=>hb)
 | arx xs i j k =>
  obtain ⟨g,c,sz,e,cur,Si,h⟩:=h
  have hk:β' k=β k:=hβ k (by simp [Q0c.refs])
  exact ⟨g,c,sz,e,cur,Si,by rw [hk]; exact h.mono hw hwS hS⟩
 | ary xs=>exact Q0l.mono h hw hwS hS (fun _ hb=>hb)

structure Fr (X:Nat→Prop) (w w':World):Prop where
 os:w'.os=w.os
 tape:w'.tape=w.tape
 output:w'.output=w.output
 size:w.heap.size ≤ w'.heap.size
 block:∀ b,b < w.heap.size→¬ X b→w'.heap[b]?=w.heap[b]?
theorem Fr.refl (X:Nat→Prop) (w:World):Fr X w w:=⟨rfl,rfl,rfl,Nat.le_refl _,fun _ _ _=>rfl⟩
theorem Fr.trans {X:Nat→Prop} {a b c:World} (h:Fr X a b) (k:Fr X b c):Fr X a c :=
 ⟨k.os.trans h.os,k.tape.trans h.tape,k.output.trans h.output,Nat.le_trans h.size k.size,fun i hi hx=>(k.block i (Nat.lt_of_lt_of_le hi h.size) hx).trans (h.block i hi hx)⟩
theorem Fr.mono {X Y:Nat→Prop} {a b:World} (h:Fr X a b) (hXY:∀ i,i < a.heap.size→X i→Y i):Fr Y a b:=⟨h.os,h.tape,h.output,h.size,fun i hi hy=>h.block i hi (fun hx=>hy (hXY i hi hx))⟩

structure Ctx where
 w0:World
 M:Nat→Prop
 Sh0:Nat→Prop
 nt:Nat
 pin:Nat→Value
 gk:GOK w0 Sh0
 gm:∀ b,b ∈ GL→¬ M b

structure SR (c:Ctx) (β:Nat→Value) (fp:Nat→Nat→Prop) (Sh:Nat→Prop) (σ:Q0d) (a:Act) (w:World):Prop where
 df:a.defers=[]
 sz:a.tmps.size=c.nt
 tm:∀ t,Q0i w Sh β (a.tmps.getD t undef) (σ.T t)
 ob:∀ id o,σ.O id=some o→Q0m w Sh β (fp id) (β id) o
 dj:∀ id id' b,(σ.O id).isSome→(σ.O id').isSome→fp id b→fp id' b→id=id'
 fb:∀ id b,(σ.O id).isSome→fp id b→¬ Sh b∧b < w.heap.size∧(c.w0.heap.size ≤ b∨c.M b)
 shl:∀ b,Sh b→b < w.heap.size∧(c.Sh0 b∨c.w0.heap.size ≤ b∨c.M b)
 sh0:∀ b,c.Sh0 b→Sh b
 fr:Fr c.M c.w0 w
 pn:∀ k,1000 ≤ k→(σ.O k).isSome→β k=c.pin k

theorem SR.shok {c:Ctx} {β:Nat→Value} {fp:Nat→Nat→Prop} {Sh:Nat→Prop} {σ:Q0d} {a:Act} {w:World} (h:SR c β fp Sh σ a w):Q02 w Sh:=by
 refine ⟨fun b hb=>(h.shl b hb).1,fun b hb=>?_⟩
 have hg:GOK c.w0 (fun x=>x ∈ GL∧c.Sh0 x):=fun x hx=>⟨⟨hx,(c.gk x hx).1⟩,(c.gk x hx).2⟩
 exact hg.mono (fun x hl hx=>h.fr.block x hl (c.gm x hx.1)) (fun x hx=>h.sh0 x hx.2) b hb

def SRx (c:Ctx) (σ:Q0d) (a:Act) (w:World):Prop:=∃ β fp Sh,SR c β fp Sh σ a w

structure Rd where
 t:List Nat
 o:List Nat
 deriving Inhabited
structure Wr where
 t:List (Nat × AV)
 o:List (Nat × Option Q0c)
 new:List Nat
 deriving Inhabited

def lk {α:Type} (d:α):List (Nat × α)→Nat→α
 | [],_=>d
 | (k,v) :: r,t=>bif Nat.beq t k then v else lk d r t

def Q0n {α:Type} (l:List (Nat × α)) (f:Nat→α) (t:Nat):α :=
 match l with
 | []=>f t
 | (k,v) :: r=>bif Nat.beq t k then v else Q0n r f t

def Q0d.app (σ:Q0d) (wr:Wr):Q0d:=⟨Q0n wr.t σ.T,Q0n wr.o σ.O⟩

theorem Q0o {α:Type} (l:List (Nat × α)) (f:Nat→α) (t:Nat) (h:t ∉ l.map (·.1)):Q0n l f t=f t:=by
 induction l with
 | nil=>rfl
 | cons p r ih =>
  obtain ⟨k,v⟩:=p
  simp only [List.map_cons,List.mem_cons,not_or] at h
  have hk:Nat.beq t k=false:=by
   cases h':Nat.beq t k with
   | false=>rfl
   | true=>exact absurd (Nat.eq_of_beq_eq_true h') h.1
  simp only [Q0n,hk,cond_false]
  exact ih h.2
theorem Q0p {α:Type} (l:List (Nat × α)) (f g:Nat→α) (t:Nat) (h:t ∈ l.map (·.1)):Q0n l f t=Q0n l g t:=by
 induction l with
 | nil=>simp at h
 | cons p r ih =>
  obtain ⟨k,v⟩:=p
  simp only [Q0n]
  cases hk:Nat.beq t k with
  | true=>rfl
  | false =>
   have:t ≠ k:=by intro e; subst e; simp at hk
   simp only [List.map_cons,List.mem_cons] at h
   exact ih (h.resolve_left this)
theorem Q0q {α:Type} (l:List (Nat × α)) (f:Nat→α) (t:Nat) (h:t ∈ l.map (·.1)):∃ v,(t,v) ∈ l∧Q0n l f t=v:=by
 induction l with
 | nil=>simp at h
 | cons p r ih =>
  obtain ⟨k,v⟩:=p
  simp only [Q0n]
  cases hk:Nat.beq t k with
  | true=>exact ⟨v,by rw [Nat.eq_of_beq_eq_true hk]; exact List.mem_cons_self,rfl⟩
  | false =>
   have:t ≠ k:=by intro e; subst e; simp at hk
   simp only [List.map_cons,List.mem_cons] at h
   obtain ⟨v',hm,he⟩:=ih (h.resolve_left this)
   exact ⟨v',List.mem_cons_of_mem _ hm,he⟩

def Q0r (rd:Rd) (τ σ:Q0d):Prop:=(∀ t ∈ rd.t,τ.T t=σ.T t)∧∀ k ∈ rd.o,τ.O k=σ.O k

def Q0s (P:Program) (c:Ctx) (ops:Array Oper) (i:Nat) (rd:Rd) (wr:Wr) (σ:Q0d):Prop :=
 ∀ τ,Q0r rd τ σ→(∀ k ∈ wr.new,¬ Q0h τ k∧τ.O k=none)→∀ a w,SRx c τ a w→∀ K Q,(∀ a' w',SRx c (τ.app wr) a' w'→K a' w')→wpOp P ops Q i K a w

structure PL where
 rd:Rd
 wr:Wr
 deriving Inhabited

def st (pl:List PL) (m:Nat→Bool) (σ:Q0d):Nat→Q0d
 | 0=>σ
 | k + 1=>if m k then (st pl m σ k).app (pl.getD k default).wr else st pl m σ k

def Q0t (a b:List Nat):Bool:=a.any b.contains
theorem Q0u {a b:List Nat} {x:Nat} (ha:x ∈ a) (hb:x ∈ b):Q0t a b=true:=by
 simp only [Q0t,List.any_eq_true,List.contains_iff_mem]
 exact ⟨x,ha,hb⟩

def wts (p:PL):List Nat:=p.wr.t.map (·.1)
def wos (p:PL):List Nat:=p.wr.o.map (·.1)
def ments (p:PL):List Nat:=(p.wr.t.flatMap fun x=>refs x.2) ++ p.wr.o.flatMap fun x=>match x.2 with | some o=>o.refs | none=>[]

def nws (p:PL):List Nat:=p.wr.new.map (· + 1000000)
def Q0v (p q:PL):Bool:=Q0t (wts p) (wts q) || Q0t (wts p) q.rd.t || Q0t p.rd.t (wts q) || Q0t (wos p) (wos q) || Q0t (wos p) q.rd.o || Q0t p.rd.o (wos q) || Q0t (nws p) q.rd.o

def Q0w (o:Oper):List Nat:=(o.after.toList.filter (Region.binds .any)).map (·.on)
def Q0x (ops:List Oper) (ah:List (List Nat)):Bool :=
 (List.range ops.length).all fun j=>(ah.getD j []).all fun i=>(Q0w (ops.getD j default)).any fun k=>Nat.beq k i || (ah.getD k []).contains i

def Q0y (pl:List PL) (ah:List (List Nat)):Bool :=
 (List.range pl.length).all fun j=>(List.range j).all fun i=>!Q0v (pl.getD i default) (pl.getD j default) || (ah.getD j []).contains i
def Q0z (pl:List PL):Bool:=(List.range pl.length).all fun i=>(ments (pl.getD i default)).all fun k=>(pl.getD i default).rd.o.contains k || (pl.getD i default).rd.o.contains (k + 1000000) || (pl.getD i default).wr.new.contains k
def Q10 (pl:List PL):Bool :=
 (List.range pl.length).all fun j=>(pl.getD j default).wr.new.all fun k =>
  (wos (pl.getD j default)).contains k && (List.range j).all fun i=>!(wos (pl.getD i default)).contains k && !(ments (pl.getD i default)).contains k
def Q11 (ops:List Oper):Bool:=(List.range ops.length).all fun i=>(ops.getD i default).after.toList.all fun e=>!Region.binds .any e || Nat.blt e.on i

end Go.Am
