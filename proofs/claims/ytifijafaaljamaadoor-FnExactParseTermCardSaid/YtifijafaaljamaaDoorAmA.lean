/- Abstract values of a Go program's data, and how memory bears them: shared (read only), owned. No program in sight. -/
import Derived.Calls
import Derived.Orders
import Derived.Maps.AppendAt
import Derived.Below
import Derived.RowKit
import Derived.Lib.ItoaNum
namespace Go.Am
open Go.RowKit

inductive AV where
 | undef
 | int (k:IntKind) (n:Int)
 | bool (b:Bool)
 | str (s:ByteArray)
 | agg (cs:List AV)
 | tup (vs:List AV)
 | nils
 | nilp
 | sl (xs:List AV)
 | ptr (cs:List AV) (off:Nat)
 | osl (xs:List AV)
 | optr (cs:List AV)
 | rs (id:Nat)
 | ra (id:Nat) (off:Nat)
 | ea (id:Nat) (sz:Nat) (i:Nat) (off:Nat)
  | cut (id:Nat) (lo:Nat)
 | fn (f:FuncId) (caps:List AV)
 | nilq (xs:List AV)
  | raw (v:Value)
  | err (b:Bool)
  | fnb (f:FuncId) (fs:List AV)
 deriving Inhabited

def Q00 (b:Bool) (v:Value):Bool:=match b,v with | false,.nilIface=>true | true,.iface _ _=>true | _,_=>false
theorem Q01 {b:Bool} {v:Value} (h:Q00 b v=true):v.oneCell'=true:=by cases b <;> cases v <;> first | rfl | cases h

def GL:List Nat:=[0,2]
def GP (b:Nat) (o:Obj):Prop:=(b=0→∃ c e fr ev,o=.cells c e fr∧c[0]?=some ev∧(ev=.nilIface∨∃ te pe,ev=.iface te pe))∧(b=2→∃ e fr,o=.cells (Lib.pow10Tab.map fun z=>Value.int .u64 z).toArray e fr)
def GOK (w:World) (Sh:Nat→Prop):Prop:=∀ b,b ∈ GL→Sh b∧∃ o,w.heap[b]?=some o∧GP b o
structure Q02 (w:World) (Sh:Nat→Prop):Prop where
 lt:∀ b,Sh b→b < w.heap.size
 g:GOK w Sh
theorem GOK.mono {w w':World} {Sh Sh':Nat→Prop} (h:GOK w Sh) (hw:∀ b,b < w.heap.size→Sh b→w'.heap[b]?=w.heap[b]?) (hS:∀ b,Sh b→Sh' b):GOK w' Sh':=by
 intro b hb
 obtain ⟨h1,o,h2,h3⟩:=h b hb
 exact ⟨hS b h1,o,(hw b (Array.getElem?_eq_some_iff.1 h2).1 h1).trans h2,h3⟩

def cellsOf:AV→List AV
 | .agg cs=>cs
 | x=>[x]

def av (l:List AV) (i:Nat):AV:=l.getD i .undef

inductive Q03 (w:World) (Sh:Nat→Prop):Value→AV→Prop where
 | undef (v:Value):Q03 w Sh v .undef
 | int (k:IntKind) (n:Int):Q03 w Sh (.int k n) (.int k n)
 | bool (b:Bool):Q03 w Sh (.bool b) (.bool b)
 | str (s:ByteArray):Q03 w Sh (.string s) (.str s)
 | nils:Q03 w Sh (.slice none 0 0) .nils
 | nilp:Q03 w Sh (.pointer none) .nilp
 | agg (c:Array Value) (cs:List AV) (hs:c.size=cs.length) (h:∀ i,i < cs.length→Q03 w Sh (c.getD i undef) (av cs i)):Q03 w Sh (.agg c) (.agg cs)
 | tup (c:Array Value) (cs:List AV) (hs:c.size=cs.length) (h:∀ i,i < cs.length→Q03 w Sh (c.getD i undef) (av cs i)):Q03 w Sh (.tuple c) (.tup cs)
 | sl0 (a:Option Addr) (c:Nat):Q03 w Sh (.slice a 0 c) (.sl [])
 | sl1 (b o c sz:Nat) (xs:List AV) (f:Nat→Nat→Value) (hb:Sh b) (hc:xs.length ≤ c) (hz:∀ i,i < xs.length→(cellsOf (av xs i)).length=sz)
   (hm:∀ i j,i < xs.length→j < sz→w.cell? ⟨b,o + (i * sz + j),none⟩=some (f i j))
   (h:∀ i j,i < xs.length→j < (cellsOf (av xs i)).length→Q03 w Sh (f i j) (av (cellsOf (av xs i)) j)):Q03 w Sh (.slice (some ⟨b,o,none⟩) xs.length c) (.sl xs)
 | ptr (b o:Nat) (cs:List AV) (off:Nat) (f:Nat→Value) (hb:Sh b) (hm:∀ j,j < cs.length→w.cell? ⟨b,o + j,none⟩=some (f j))
   (h:∀ j,j < cs.length→Q03 w Sh (f j) (av cs j)):Q03 w Sh (.pointer (some ⟨b,o + off,none⟩)) (.ptr cs off)
 | fn (f:FuncId) (c:Array Value) (cs:List AV) (hs:c.size=cs.length) (h:∀ i,i < cs.length→Q03 w Sh (c.getD i undef) (av cs i)):Q03 w Sh (.func (.func f) #[] c) (.fn f cs)
 | nilq (b:Bool) (xs:List AV) (h:b=true→xs=[]):Q03 w Sh (.bool b) (.nilq xs)
 | raw (v:Value) (h:v.oneCell'=true):Q03 w Sh v (.raw v)
 | err (b:Bool) (v:Value) (h:Q00 b v=true):Q03 w Sh v (.err b)
 | fnb (f:FuncId) (c:Array Value) (cs:List AV) (hs:c.size=cs.length) (h:∀ i,i < cs.length→Q03 w Sh (c.getD i undef) (av cs i)):Q03 w Sh (.func (.func f) c #[]) (.fnb f cs)

theorem Q03.mono {w w':World} {Sh Sh':Nat→Prop} {v:Value} {x:AV} (h:Q03 w Sh v x) (hw:∀ b,Sh b→w'.heap[b]?=w.heap[b]?) (hS:∀ b,Sh b→Sh' b):Q03 w' Sh' v x:=by
 have hcell:∀ b o,Sh b→w'.cell? ⟨b,o,none⟩=w.cell? ⟨b,o,none⟩:=fun b o hb=>by simp only [World.cell?,hw b hb]
 induction h with
 | undef v=>exact .undef v
 | int k n=>exact .int k n
 | bool b=>exact .bool b
 | str s=>exact .str s
 | nils=>exact .nils
 | nilp=>exact .nilp
 | agg c cs hs _ ih=>exact .agg c cs hs ih
 | tup c cs hs _ ih=>exact .tup c cs hs ih
 | sl0 a c=>exact .sl0 a c
 | sl1 b o c sz xs f hb hc hz hm _ ih=>exact .sl1 b o c sz xs f (hS b hb) hc hz (fun i j hi hj=>(hcell b _ hb).trans (hm i j hi hj)) ih
 | ptr b o cs off f hb hm _ ih=>exact .ptr b o cs off f (hS b hb) (fun j hj=>(hcell b _ hb).trans (hm j hj)) ih
 | fn f c cs hs _ ih=>exact .fn f c cs hs ih
 | nilq b xs h=>exact .nilq b xs h
 | raw v h=>exact .raw v h
 | err b v h=>exact .err b v h
 | fnb f c cs hs _ ih=>exact .fnb f c cs hs ih

inductive Q04 (w:World) (Sh:Nat→Prop):(Nat→Prop)→Value→AV→Prop where
 | val (S:Nat→Prop) (v:Value) (x:AV) (h:Q03 w Sh v x):Q04 w Sh S v x
 | agg (S:Nat→Prop) (c:Array Value) (cs:List AV) (Si:Nat→Nat→Prop) (hs:c.size=cs.length) (h:∀ i,i < cs.length→Q04 w Sh (Si i) (c.getD i undef) (av cs i))
   (hS:∀ i b,i < cs.length→Si i b→S b) (hd:∀ i i' b,i < cs.length→i' < cs.length→Si i b→Si i' b→i=i'):Q04 w Sh S (.agg c) (.agg cs)
 | tup (S:Nat→Prop) (c:Array Value) (cs:List AV) (Si:Nat→Nat→Prop) (hs:c.size=cs.length) (h:∀ i,i < cs.length→Q04 w Sh (Si i) (c.getD i undef) (av cs i))
   (hS:∀ i b,i < cs.length→Si i b→S b) (hd:∀ i i' b,i < cs.length→i' < cs.length→Si i b→Si i' b→i=i'):Q04 w Sh S (.tuple c) (.tup cs)
 | osl0 (S:Nat→Prop):Q04 w Sh S (.slice none 0 0) (.osl [])
 | osl (S:Nat→Prop) (g c sz:Nat) (e:TypeId) (cur:Array Value) (xs:List AV) (Si:Nat→Nat→Nat→Prop) (hg:w.heap[g]?=some (.cells cur e (0,0)))
   (hc:xs.length ≤ c) (hc0:xs.length=0→c=0) (hm:c ≤ maxLen) (hs:cur.size=c * sz) (hz:∀ i,i < xs.length→(cellsOf (av xs i)).length=sz)
   (h:∀ i j,i < xs.length→j < (cellsOf (av xs i)).length→Q04 w Sh (Si i j) (cur.getD (i * sz + j) undef) (av (cellsOf (av xs i)) j))
   (hSg:S g) (hS:∀ i j b,i < xs.length→j < sz→Si i j b→S b∧b ≠ g)
   (hd:∀ i j i' j' b,i < xs.length→j < sz→i' < xs.length→j' < sz→Si i j b→Si i' j' b→i=i'∧j=j'):Q04 w Sh S (.slice (some ⟨g,0,none⟩) xs.length c) (.osl xs)
 | optr (S:Nat→Prop) (g:Nat) (e:TypeId) (cur:Array Value) (cs:List AV) (Si:Nat→Nat→Prop) (hg:w.heap[g]?=some (.cells cur e (0,0))) (hs:cur.size=cs.length)
   (h:∀ i,i < cs.length→Q04 w Sh (Si i) (cur.getD i undef) (av cs i)) (hSg:S g) (hS:∀ i b,i < cs.length→Si i b→S b∧b ≠ g)
   (hd:∀ i i' b,i < cs.length→i' < cs.length→Si i b→Si i' b→i=i'):Q04 w Sh S (.pointer (some ⟨g,0,none⟩)) (.optr cs)

theorem Q04.mono {w w':World} {Sh Sh' S S':Nat→Prop} {v:Value} {x:AV} (h:Q04 w Sh S v x) (hw:∀ b,Sh b→w'.heap[b]?=w.heap[b]?) (hwS:∀ b,S b→w'.heap[b]?=w.heap[b]?)
  (hSh:∀ b,Sh b→Sh' b) (hS':∀ b,S b→S' b):Q04 w' Sh' S' v x:=by
 induction h generalizing S' with
 | val S v x h=>exact .val S' v x (h.mono hw hSh)
 | agg S c cs Si hs _ hS hd ih=>exact .agg S' c cs Si hs (fun i hi=>ih i hi (fun b hb=>hwS b (hS i b hi hb)) (fun b hb=>hb)) (fun i b hi hb=>hS' b (hS i b hi hb)) hd
 | tup S c cs Si hs _ hS hd ih=>exact .tup S' c cs Si hs (fun i hi=>ih i hi (fun b hb=>hwS b (hS i b hi hb)) (fun b hb=>hb)) (fun i b hi hb=>hS' b (hS i b hi hb)) hd
 | osl0 S=>exact .osl0 S'
 | osl S g c sz e cur xs Si hg hc hc0 hm hs hz _ hSg hS hd ih =>
  exact .osl S' g c sz e cur xs Si ((hwS g hSg).trans hg) hc hc0 hm hs hz
   (fun i j hi hj=>ih i j hi hj (fun b hb=>hwS b (hS i j b hi (hz i hi ▸ hj) hb).1) (fun b hb=>hb)) (hS' g hSg) (fun i j b hi hj hb=>⟨hS' b (hS i j b hi hj hb).1,(hS i j b hi hj hb).2⟩) hd
 | optr S g e cur cs Si hg hs _ hSg hS hd ih =>
  exact .optr S' g e cur cs Si ((hwS g hSg).trans hg) hs (fun i hi=>ih i hi (fun b hb=>hwS b (hS i b hi hb).1) (fun b hb=>hb)) (hS' g hSg)
   (fun i b hi hb=>⟨hS' b (hS i b hi hb).1,(hS i b hi hb).2⟩) hd

mutual
def share:AV→AV
 | .agg cs=>.agg (Q05 cs)
 | .tup cs=>.tup (Q05 cs)
 | .osl xs=>.sl (Q05 xs)
 | .optr cs=>.ptr (Q05 cs) 0
 | x=>x
def Q05:List AV→List AV
 | []=>[]
 | x :: xs=>share x :: Q05 xs
end
theorem Q06 (l:List AV):Q05 l=l.map share:=by induction l <;> simp_all [Q05]
theorem Q07 (l:List AV):(Q05 l).length=l.length:=by simp [Q06]
theorem Q08 (l:List AV) (i:Nat):av (Q05 l) i=share (av l i):=by
 simp only [Q06,av,List.getD_eq_getElem?_getD,List.getElem?_map]
 cases l[i]? <;> simp [share]
theorem Q09 (x:AV):(cellsOf (share x))=Q05 (cellsOf x):=by cases x <;> simp [share,cellsOf,Q05]

theorem Q0a {w:World} {g:Nat} {cur:Array Value} {e:TypeId} {fr:Nat × Nat} (hg:w.heap[g]?=some (.cells cur e fr)) (k:Nat) (hk:k < cur.size):w.cell? ⟨g,k,none⟩=some (cur.getD k undef):=by
 simp [World.cell?,hg,Array.getD,hk]

theorem Q0b {i n j sz c:Nat} (hi:i < n) (hc:n ≤ c) (hj:j < sz):i * sz + j < c * sz:=by
 have h1:(i + 1) * sz ≤ c * sz:=Nat.mul_le_mul_right _ (by omega)
 rw [Nat.add_mul,Nat.one_mul] at h1
 omega

theorem Q03.share {w:World} {Sh:Nat→Prop} {v:Value} {x:AV} (h:Q03 w Sh v x):Q03 w Sh v (share x):=by
 induction h with
 | undef v=>exact .undef v
 | int k n=>exact .int k n
 | bool b=>exact .bool b
 | str s=>exact .str s
 | nils=>exact .nils
 | nilp=>exact .nilp
 | agg c cs hs _ ih=>exact .agg c _ (by rw [Q07]; exact hs) (fun i hi=>by rw [Q08]; exact ih i (by rwa [Q07] at hi))
 | tup c cs hs _ ih=>exact .tup c _ (by rw [Q07]; exact hs) (fun i hi=>by rw [Q08]; exact ih i (by rwa [Q07] at hi))
 | sl0 a c=>exact .sl0 a c
 | sl1 b o c sz xs f hb hc hz hm h _=>exact .sl1 b o c sz xs f hb hc hz hm h
 | ptr b o cs off f hb hm h _=>exact .ptr b o cs off f hb hm h
 | fn f c cs hs h _=>exact .fn f c cs hs h
 | fnb f c cs hs h _=>exact .fnb f c cs hs h
 | nilq b xs h=>exact .nilq b xs h
 | raw v h=>exact .raw v h
 | err b v h=>exact .err b v h

theorem Q04.share {w:World} {Sh S:Nat→Prop} {v:Value} {x:AV} (h:Q04 w Sh S v x):Q03 w (fun b=>Sh b∨S b) v (share x):=by
 induction h with
 | val S v x h=>exact h.share.mono (fun _ _=>rfl) (fun b hb=>.inl hb)
 | agg S c cs Si hs _ hS hd ih=>exact .agg c _ (by rw [Q07]; exact hs) (fun i hi=>by rw [Q07] at hi; rw [Q08]; exact (ih i hi).mono (fun _ _=>rfl) (fun b hb=>hb.imp id (hS i b hi)))
 | tup S c cs Si hs _ hS hd ih=>exact .tup c _ (by rw [Q07]; exact hs) (fun i hi=>by rw [Q07] at hi; rw [Q08]; exact (ih i hi).mono (fun _ _=>rfl) (fun b hb=>hb.imp id (hS i b hi)))
 | osl0 S=>exact .sl0 none 0
 | osl S g c sz e cur xs Si hg hc hc0 hm hs hz _ hSg hS hd ih =>
  have:=Q03.sl1 (w:=w) (Sh:=fun b=>Sh b∨S b) g 0 c sz (Q05 xs) (fun i j=>cur.getD (i * sz + j) undef) (.inr hSg) (by rw [Q07]; exact hc)
   (fun i hi=>by rw [Q07] at hi; rw [Q08,Q09,Q07]; exact hz i hi)
   (fun i j hi hj=>by rw [Q07] at hi; rw [Nat.zero_add]; exact Q0a hg _ (by rw [hs]; exact Q0b hi hc hj))
   (fun i j hi hj=>by
    rw [Q07] at hi
    rw [Q08,Q09,Q07] at hj
    rw [Q08,Q09,Q08]
    exact (ih i j hi hj).mono (fun _ _=>rfl) (fun b hb=>hb.imp id (fun hb=>(hS i j b hi (hz i hi ▸ hj) hb).1)))
  rw [Q07] at this
  exact this
 | optr S g e cur cs Si hg hs _ hSg hS hd ih =>
  have:=Q03.ptr (w:=w) (Sh:=fun b=>Sh b∨S b) g 0 (Q05 cs) 0 (fun j=>cur.getD j undef) (.inr hSg)
   (fun j hj=>by rw [Q07] at hj; rw [Nat.zero_add]; exact Q0a hg _ (by rw [hs]; exact hj))
   (fun j hj=>by rw [Q07] at hj; rw [Q08]; exact (ih j hj).mono (fun _ _=>rfl) (fun b hb=>hb.imp id (fun hb=>(hS j b hj hb).1)))
  exact this

theorem Q04.weaken {w:World} {Sh S S':Nat→Prop} {v:Value} {x:AV} (h:Q04 w Sh S v x) (hS:∀ b,S b→S' b):Q04 w Sh S' v x:=h.mono (fun _ _=>rfl) (fun _ _=>rfl) (fun _ h=>h) hS

end Go.Am
