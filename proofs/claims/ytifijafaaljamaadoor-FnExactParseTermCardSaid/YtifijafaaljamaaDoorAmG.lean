/- Cuts, lengths, least and greatest, structs built: told by functions on abstract values, and these are right. -/
import Derived.Test.YtifijafaaljamaaDoorAmF
set_option linter.unusedSimpArgs false
set_option linter.unusedVariables false
namespace Go.Am
open Go.RowKit

section
variable {P:Program} {c:Ctx} {o:Oper} {σ:Q0d}

def Q48 (σ:Q0d):Option Operand→Option (Option Int)
 | none=>some none
 | some x=>match opv σ x with | .int _ i=>some (some i) | _=>none
def Q49:Option Operand→List Nat
 | none=>[]
 | some x=>opr x

theorem Q4a (isS:Bool) (len cap:Nat) (lo hi mx:Option Value) (l h m:Option Int) (hl:∀ v,lo=some v→∃ k i,v=.int k i∧l=some i) (hl0:lo=none→l=none)
  (hh:∀ v,hi=some v→∃ k i,v=.int k i∧h=some i) (hh0:hi=none→h=none) (hm:∀ v,mx=some v→∃ k i,v=.int k i∧m=some i) (hm0:mx=none→m=none)
  (h1:0 ≤ m.getD cap∧m.getD cap ≤ (cap:Int)) (h2:0 ≤ h.getD len∧h.getD len ≤ m.getD cap) (h3:0 ≤ l.getD 0∧l.getD 0 ≤ h.getD len) (h4:mx=none∨hi ≠ none) (w:World) :
  (Instr.sliceBounds isS len cap lo hi mx).run P w=.ok ((l.getD 0).toNat,(h.getD len).toNat,(m.getD cap).toNat) w:=by
 have bound:∀ (k:IntKind) (i:Int) (y:Nat) (code:BoundsCode) (w:World),0 ≤ i→i ≤ (y:Int)→(Instr.sliceBound (.int k i) y code).run P w=.ok i.toNat w:=by
  intro k i y code w a b
  simp only [Instr.sliceBound,asIntOf,Sem.run_bind,Sem.run_pure,Result.andThen,if_pos (And.intro a b)]
 cases mx with
 | none =>
  have:=hm0 rfl; subst this
  simp only [Option.getD_none] at h1 h2 ⊢
  cases hi with
  | none =>
   have:=hh0 rfl; subst this
   simp only [Option.getD_none] at h2 h3 ⊢
   cases lo with
   | none =>
    have:=hl0 rfl; subst this
    simp [Instr.sliceBounds,Sem.run_bind,Sem.run_pure,Result.andThen]
   | some v =>
    obtain ⟨k,i,rfl,rfl⟩:=hl v rfl
    simp only [Option.getD_some] at h3 ⊢
    simp [Instr.sliceBounds,Sem.run_bind,Sem.run_pure,Result.andThen,bound k i len _ w h3.1 h3.2]
  | some v' =>
   obtain ⟨k',i',rfl,rfl⟩:=hh v' rfl
   simp only [Option.getD_some] at h2 h3 ⊢
   cases lo with
   | none =>
    have:=hl0 rfl; subst this
    simp [Instr.sliceBounds,Sem.run_bind,Sem.run_pure,Result.andThen,bound k' i' cap _ w h2.1 h2.2]
   | some v =>
    obtain ⟨k,i,rfl,rfl⟩:=hl v rfl
    simp only [Option.getD_some] at h3 ⊢
    simp [Instr.sliceBounds,Sem.run_bind,Sem.run_pure,Result.andThen,bound k' i' cap _ w h2.1 h2.2,bound k i i'.toNat _ w h3.1 (by omega)]
 | some v'' =>
  obtain ⟨k'',i'',rfl,rfl⟩:=hm v'' rfl
  cases hi with
  | none=>rcases h4 with h | h <;> simp at h
  | some v' =>
   obtain ⟨k',i',rfl,rfl⟩:=hh v' rfl
   simp only [Option.getD_some] at h1 h2 h3 ⊢
   cases lo with
   | none =>
    have:=hl0 rfl; subst this
    simp [Instr.sliceBounds,Sem.run_bind,Sem.run_pure,Result.andThen,bound k'' i'' cap _ w h1.1 h1.2,bound k' i' i''.toNat _ w h2.1 (by omega)]
   | some v =>
    obtain ⟨k,i,rfl,rfl⟩:=hl v rfl
    simp only [Option.getD_some] at h3 ⊢
    simp [Instr.sliceBounds,Sem.run_bind,Sem.run_pure,Result.andThen,bound k'' i'' cap _ w h1.1 h1.2,bound k' i' i''.toNat _ w h2.1 (by omega),bound k i i'.toNat _ w h3.1 (by omega)]

theorem Q03.cut {w:World} {Sh:Nat→Prop} {v:Value} {xs:List AV} {sz:Nat} (h:Q03 w Sh v (.sl xs)) (hz:∀ x ∈ xs,(cellsOf x).length=sz) :
  ∃ A n c,v=.slice A n c∧n=xs.length∧n ≤ c∨(∃ A c,v=.slice A 0 c∧xs=[]):=by
 cases h with
 | sl0 a c=>exact ⟨none,0,0,.inr ⟨a,c,rfl,rfl⟩⟩
 | sl1 b o c sz' xs f hb hc hz' hm hr=>exact ⟨_,_,c,.inl ⟨rfl,rfl,hc⟩⟩

theorem Q03.cut_rep {w:World} {Sh:Nat→Prop} {A:Option Addr} {n cp:Nat} {xs:List AV} {sz l h m:Nat} (hs:Q03 w Sh (.slice A n cp) (.sl xs)) (hz:∀ x ∈ xs,(cellsOf x).length=sz) (hlh:l ≤ h) (hhm:h ≤ m) (hmn:h ≤ xs.length) :
  Q03 w Sh (.slice (if m=l then A else A.map (·.add (l * sz))) (h - l) (m - l)) (.sl ((xs.take h).drop l)):=by
 by_cases he:l=h
 ·subst he
  have e:(xs.take l).drop l=[]:=by apply List.drop_eq_nil_of_le; simp; omega
  rw [e,Nat.sub_self]
  exact .sl0 _ _
 ·have hlt:l < h:=by omega
  have hml:¬ m=l:=by omega
  rw [if_neg hml]
  cases hs with
  | sl0 a c=>simp at hmn; omega
  | sl1 b o c sz' xs f hb hc hz' hm hr =>
   have hsz:sz'=sz:=by
    have h0:0 < xs.length:=by omega
    have:=hz' 0 h0
    rw [← this]
    refine hz _ ?_
    have e:av xs 0=xs[0]:=by simp [av,List.getD_eq_getElem?_getD,h0]
    rw [e]; exact List.getElem_mem h0
   subst hsz
   have hlen:((xs.take h).drop l).length=h - l:=by simp; omega
   have hav:∀ i,i < h - l→av ((xs.take h).drop l) i=av xs (l + i):=by
    intro i hi
    simp only [av,List.getD_eq_getElem?_getD,List.getElem?_drop,List.getElem?_take,if_pos (show l + i < h by omega)]
   have:=Q03.sl1 (w:=w) (Sh:=Sh) b (o + l * sz') (m - l) sz' ((xs.take h).drop l) (fun i j=>f (l + i) j) hb (by rw [hlen]; omega)
    (fun i hi=>by rw [hlen] at hi; rw [hav i hi]; exact hz' _ (by omega))
    (fun i j hi hj=>by
     rw [hlen] at hi
     have:=hm (l + i) j (by omega) hj
     rw [← this]
     congr 2
     rw [Nat.add_mul]; omega)
    (fun i j hi hj=>by
     rw [hlen] at hi
     rw [hav i hi] at hj ⊢
     exact hr (l + i) j (by omega) hj)
   rw [hlen] at this
   simpa [Q2a] using this

def Q4b (TI:Nat→Option Q1r) (nt:Nat) (o:Oper) (σ:Q0d) (t:Nat) (x:Operand) (lo hi mx:Option Operand):Option Ev :=
 match shp TI t,Q48 σ lo,Q48 σ hi,Q48 σ mx with
 | some (.slice e),some l,some h,some m =>
  match TI e,opv σ x with
  | some ei,.sl xs =>
   bif (mx.isNone || hi.isSome) then
    qv nt o (.sl ((xs.take (h.getD xs.length).toNat).drop (l.getD 0).toNat)) (opr x ++ Q49 lo ++ Q49 hi ++ Q49 mx) []
     [(∀ x ∈ xs,(cellsOf x).length=ei.size)∧0 ≤ l.getD 0∧l.getD 0 ≤ h.getD xs.length∧h.getD xs.length ≤ m.getD xs.length∧m.getD xs.length ≤ (xs.length:Int)]
   else none
  | _,_=>none
 | some .string,some l,some h,some none =>
  match opv σ x with
  | .str s=>qv nt o (.str (s.extract (l.getD 0).toNat (h.getD s.size).toNat)) (opr x ++ Q49 lo ++ Q49 hi ++ Q49 mx) [] [0 ≤ l.getD 0∧l.getD 0 ≤ h.getD s.size∧h.getD s.size ≤ (s.size:Int)]
  | _=>none
 | _,_,_,_=>none

theorem Q4c {τ:Q0d} {β:Nat→Value} {fp:Nat→Nat→Prop} {Sh:Nat→Prop} {a:Act} {w:World} (hs:SR c β fp Sh τ a w) (lo:Option Operand) (l:Option Int) (hl:Q48 σ lo=some l) (hag:∀ t ∈ Q49 lo,τ.T t=σ.T t) :
  (∀ v,lo.map a.eval=some v→∃ k i,v=.int k i∧l=some i)∧(lo.map a.eval=none→l=none):=by
 cases lo with
 | none=>simp only [Q48,Option.some.injEq] at hl; subst hl; exact ⟨fun v h=>by simp at h,fun _=>rfl⟩
 | some x =>
  refine ⟨fun v h=>?_,fun h=>by simp at h⟩
  simp only [Option.map_some,Option.some.injEq] at h
  have h1:=hs.opd x
  rw [Q2k x hag] at h1
  simp only [Q48] at hl
  split at hl
  ·rename_i k i hx
   rw [hx] at h1
   simp only [Option.some.injEq] at hl
   exact ⟨k,i,by rw [← h]; exact h1.int_inv,hl.symm⟩
  ·cases hl

theorem Q4d {TI:Nat→Option Q1r} (hTI:Q20 P TI) (t:Nat) (x:Operand) (lo hi mx:Option Operand) (ho:o.op=.slice t x lo hi mx):Q2o P c o σ (Q4b TI c.nt o σ t x lo hi mx):=by
 unfold Q4b
 split
 ·rename_i e l h m hsh hl hh hm
  obtain ⟨ti,hti,hshp⟩:=Q2l hsh
  split
  ·rename_i ei xs hei hx
   refine .ite (fun hb=>?_) (fun _=>.none)
   refine Q2p fun hobs τ ht _ β fp Sh a w hs=>?_
   have t1:∀ t ∈ opr x,τ.T t=σ.T t:=fun t h=>ht t (by simp [h])
   have t2:∀ t ∈ Q49 lo,τ.T t=σ.T t:=fun t h=>ht t (by simp [h])
   have t3:∀ t ∈ Q49 hi,τ.T t=σ.T t:=fun t h=>ht t (by simp [h])
   have t4:∀ t ∈ Q49 mx,τ.T t=σ.T t:=fun t h=>ht t (by simp [h])
   have h1:=hs.opd x; rw [Q2k x t1,hx] at h1
   obtain ⟨l1,l2⟩:=Q4c hs lo l hl t2
   obtain ⟨h1',h2'⟩:=Q4c hs hi h hh t3
   obtain ⟨m1,m2⟩:=Q4c hs mx m hm t4
   obtain ⟨hz,b1,b2,b3,b4⟩:=hobs _ (List.mem_singleton.2 rfl)
   obtain ⟨d,hd,h3⟩:=Q26 hTI hti w
   rw [hshp] at h3
   have:d=.slice e:=by cases d <;> simp [Q1q] at h3 <;> simp [h3]
   subst this
   have hsz:=Q24 hTI hei w
   have hform:∃ A n cp,a.eval x=.slice A n cp∧n=xs.length∧n ≤ cp:=by
    have hsl:=h1.sl_inv
    generalize a.eval x=v at hsl
    cases hsl with
    | sl0 a c=>exact ⟨a,0,c,rfl,rfl,by omega⟩
    | sl1 b o c sz' xs f hb hc hz' hm hr=>exact ⟨_,_,c,rfl,rfl,hc⟩
   obtain ⟨A,n,cp,he,rfl,hcp⟩:=hform
   -- without a bound of the capacity the cut keeps the row's own
   have hmx:m.getD (xs.length:Int) ≤ (cp:Int):=by omega
   have hsb:(Instr.sliceBounds true xs.length cp (lo.map a.eval) (hi.map a.eval) (mx.map a.eval)).run P w=.ok ((l.getD 0).toNat,(h.getD xs.length).toNat,(m.getD cp).toNat) w:=by
    refine Q4a true xs.length cp _ _ _ l h m l1 l2 h1' h2' m1 m2 ?_ ?_ ⟨b1,b2⟩ ?_ w
    ·cases m with
     | none=>simp
     | some q=>simp only [Option.getD_some] at *; omega
    ·cases m with
     | none=>simp only [Option.getD_none] at *; omega
     | some q=>simp only [Option.getD_some] at *; omega
    ·simp only [Bool.or_eq_true,Option.isNone_iff_eq_none] at hb
     rcases hb with hb | hb
     ·left; rw [hb]; rfl
     ·right; cases hi with
      | none=>simp at hb
      | some _=>simp
   refine ⟨.slice (if (m.getD cp).toNat=(l.getD 0).toNat then A else A.map (·.add ((l.getD 0).toNat * ei.size))) ((h.getD xs.length).toNat - (l.getD 0).toNat) ((m.getD cp).toNat - (l.getD 0).toNat),?_,?_⟩
   ·simp only [execOp,ho,he,Instr.sliceAt,Instr.slice,Sem.run_bind,hd,Result.andThen,hsb,hsz,Sem.run_pure]
   ·have hsl:=h1.sl_inv
    rw [he] at hsl
    refine .base _ _ (hsl.cut_rep hz (by omega) ?_ (by omega))
    cases m with
    | none=>simp only [Option.getD_none] at *; omega
    | some q=>simp only [Option.getD_some] at *; omega
  ·exact .none
 ·rename_i l h hsh hl hh hm
  obtain ⟨ti,hti,hshp⟩:=Q2l hsh
  split
  ·rename_i s hx
   refine Q2p fun hobs τ ht _ β fp Sh a w hs=>?_
   have t1:∀ t ∈ opr x,τ.T t=σ.T t:=fun t h=>ht t (by simp [h])
   have t2:∀ t ∈ Q49 lo,τ.T t=σ.T t:=fun t h=>ht t (by simp [h])
   have t3:∀ t ∈ Q49 hi,τ.T t=σ.T t:=fun t h=>ht t (by simp [h])
   have t4:∀ t ∈ Q49 mx,τ.T t=σ.T t:=fun t h=>ht t (by simp [h])
   have h1:=hs.opd x; rw [Q2k x t1,hx] at h1
   obtain ⟨l1,l2⟩:=Q4c hs lo l hl t2
   obtain ⟨h1',h2'⟩:=Q4c hs hi h hh t3
   have hmx:mx=none:=by
    cases mx with
    | none=>rfl
    | some y=>simp only [Q48] at hm; split at hm <;> simp at hm
   subst hmx
   obtain ⟨b1,b2,b3⟩:=hobs _ (List.mem_singleton.2 rfl)
   obtain ⟨d,hd,h3⟩:=Q26 hTI hti w
   rw [hshp] at h3
   have:d=.string:=by cases d <;> simp [Q1q] at h3 <;> rfl
   subst this
   have hsb:(Instr.sliceBounds false s.size s.size (lo.map a.eval) (hi.map a.eval) none).run P w=.ok ((l.getD 0).toNat,(h.getD s.size).toNat,s.size) w :=
    Q4a false s.size s.size _ _ none l h none l1 l2 h1' h2' (fun v h=>by cases h) (fun _=>rfl) (by simp) (by simp only [Option.getD_none]; omega) ⟨b1,b2⟩ (.inl rfl) w
   refine ⟨.string (s.extract (l.getD 0).toNat (h.getD s.size).toNat),?_,.base _ _ (.str _)⟩
   simp only [execOp,ho,h1.str_inv,Instr.sliceAt,Instr.slice,Sem.run_bind,hd,Result.andThen,Option.map_none,Option.isSome_none,Bool.false_eq_true,if_false,hsb,Sem.run_pure]
  ·exact .none
 ·exact .none

def Q4e (σ:Q0d):AV→Option (Nat × List Nat)
 | .sl xs=>some (xs.length,[])
 | .nils=>some (0,[])
 | .str s=>some (s.size,[])
 | .rs id=>match σ.O id with | some (.arr xs)=>some (xs.length,[id]) | _=>none
 | _=>none

def Q4f:Option Shp→Bool
 | some (.slice _)=>true
 | some .string=>true
 | _=>false
def Q4g:AV→Bool
 | .str _=>true
 | _=>false

def Q4h (TI:Nat→Option Q1r) (nt:Nat) (o:Oper) (σ:Q0d) (t:Nat) (x:Operand):Option Ev :=
 match Q4e σ (opv σ x),shp TI t with
 | some (n,ob),some (.slice _)=>bif Q4g (opv σ x) then none else qv nt o (.int .i64 (n:Int)) (opr x) ob []
 | some (n,ob),some .string=>bif Q4g (opv σ x) then qv nt o (.int .i64 (n:Int)) (opr x) ob [] else none
 | _,_=>none

theorem Q4i {τ:Q0d} {β:Nat→Value} {fp:Nat→Nat→Prop} {Sh:Nat→Prop} {a:Act} {w:World} (hs:SR c β fp Sh τ a w) {v:Value} {x:AV} {n:Nat} {ob:List Nat} (hv:Q0i w Sh β v x) (hl:Q4e σ x=some (n,ob))
  (hob:∀ k ∈ ob,τ.O k=σ.O k) (hst:Q4g x=false):∃ A cp,v=.slice A n cp:=by
 unfold Q4e at hl
 split at hl
 ·rename_i xs
  simp only [Option.some.injEq,Prod.mk.injEq] at hl
  obtain ⟨rfl,rfl⟩:=hl
  have hsl:=hv.sl_inv
  cases hsl with
  | sl0 a c=>exact ⟨a,c,rfl⟩
  | sl1 b o c sz' xs f hb hc hz' hm hr=>exact ⟨_,c,rfl⟩
 ·simp only [Option.some.injEq,Prod.mk.injEq] at hl
  obtain ⟨rfl,rfl⟩:=hl
  exact ⟨none,0,hv.nils_inv⟩
 ·simp [Q4g] at hst
 ·rename_i id
  split at hl
  ·rename_i xs hO
   simp only [Option.some.injEq,Prod.mk.injEq] at hl
   obtain ⟨rfl,rfl⟩:=hl
   have hO':τ.O id=some (.arr xs):=(hob id (by simp)).trans hO
   have hown:Q04 w Sh (fp id) (β id) (.osl xs):=hs.ob id _ hO'
   rw [hv.rs_inv]
   generalize β id=q at hown
   cases hown with
   | val S v x h=>cases h
   | osl0 S=>exact ⟨none,0,rfl⟩
   | osl S g c sz e cur xs Si hg hc hc0 hm hs hz h hSg hS hd=>exact ⟨_,c,rfl⟩
  ·cases hl
 ·cases hl

theorem Q4j {TI:Nat→Option Q1r} (hTI:Q20 P TI) (t:Nat) (x:Operand) (ho:o.op=.call { callee:=.builtin .len,args:=#[x],argTypes:=#[t] }):Q2o P c o σ (Q4h TI c.nt o σ t x):=by
 have run:∀ (a:Act) (w:World) (u:Value),(Builtin.len_ #[t] o.type #[a.eval x]).run P w=.ok u w→(execOp a.eval o).run P w=.ok (.value u) w:=by
  intro a w u h
  simp only [execOp,ho,resolve,Sem.run_bind,Sem.run_pure,Result.andThen,invoke,builtin]
  simp [h,Sem.run_bind,Sem.run_pure,Result.andThen,pure]
 unfold Q4h
 split
 ·rename_i n ob e hl hsh
  obtain ⟨ti,hti,hshp⟩:=Q2l hsh
  refine .ite (fun _=>.none) (fun hst=>Q2p fun hobs τ ht hob β fp Sh a w hs=>?_)
  have h1:=hs.opd x; rw [Q2k x ht] at h1
  obtain ⟨A,cp,he⟩:=Q4i hs h1 hl hob hst
  obtain ⟨d,hd,h3⟩:=Q26 hTI hti w
  rw [hshp] at h3
  have:d=.slice e:=by cases d <;> simp [Q1q] at h3 <;> simp [h3]
  subst this
  refine ⟨_,run a w (.int .i64 (n:Int)) ?_,.base _ _ (.int _ _)⟩
  simp [Builtin.len_,he,Sem.run_bind,Sem.run_pure,Result.andThen,hd,goInt]
 ·rename_i n ob hl hsh
  obtain ⟨ti,hti,hshp⟩:=Q2l hsh
  refine .ite (fun hst=>Q2p fun hobs τ ht hob β fp Sh a w hs=>?_) (fun _=>.none)
  have h1:=hs.opd x; rw [Q2k x ht] at h1
  have:∃ s,opv σ x=.str s:=by cases hx:opv σ x <;> simp [Q4g,hx] at hst; exact ⟨_,rfl⟩
  obtain ⟨s,hx⟩:=this
  rw [hx] at h1 hl
  simp only [Q4e,Option.some.injEq,Prod.mk.injEq] at hl
  obtain ⟨rfl,rfl⟩:=hl
  obtain ⟨d,hd,h3⟩:=Q26 hTI hti w
  rw [hshp] at h3
  have:d=.string:=by cases d <;> simp [Q1q] at h3 <;> rfl
  subst this
  refine ⟨_,run a w (.int .i64 (s.size:Int)) ?_,.base _ _ (.int _ _)⟩
  simp [Builtin.len_,h1.str_inv,Sem.run_bind,Sem.run_pure,Result.andThen,hd,goInt]
 ·exact .none

def mnx (isMax:Bool) (x y:Int):Int:=bif isMax then (if x < y then y else x) else (if y < x then y else x)
def Q4k (nt:Nat) (o:Oper) (σ:Q0d) (isMax:Bool) (x y:Operand):Option Ev :=
 match opv σ x,opv σ y with
 | .int k a,.int k' b=>bif k == k' then qv nt o (.int k (mnx isMax a b)) (opr x ++ opr y) [] [] else none
 | _,_=>none
theorem Q4l (isMax:Bool) (x y:Operand) (ts:Array TypeId) (ho:o.op=.call { callee:=.builtin (if isMax then .max else .min),args:=#[x,y],argTypes:=ts }):Q2o P c o σ (Q4k c.nt o σ isMax x y):=by
 unfold Q4k
 split
 ·rename_i k a' k' b' hx hy
  refine .ite (fun hk=>Q2p fun hobs τ ht _ β fp Sh a w hs=>?_) (fun _=>.none)
  have h1:=hs.opd x; rw [Q2k x (fun t h=>ht t (List.mem_append_left _ h)),hx] at h1
  have h2:=hs.opd y; rw [Q2k y (fun t h=>ht t (List.mem_append_right _ h)),hy] at h2
  refine ⟨.int k (mnx isMax a' b'),?_,.base _ _ (.int _ _)⟩
  cases isMax <;> simp [execOp,ho,resolve,Sem.run_bind,Sem.run_pure,Result.andThen,invoke,builtin,h1.int_inv,h2.int_inv,Builtin.min_,Builtin.max_,Builtin.min2,Builtin.max2,mnx,pure,List.foldlM]
 ·exact .none

end
end Go.Am
