/- Operations that look into structs, rows and strings: told by functions on abstract values, and these are right. -/
import Derived.Test.YtifijafaaljamaaDoorAmE
set_option linter.unusedSimpArgs false
set_option linter.unusedVariables false
namespace Go.Am
open Go.RowKit

section
variable {P:Program} {c:Ctx} {o:Oper} {σ:Q0d}

theorem Q3q {d:TypeDesc} {fs:List (Nat × Nat)} {i fo ft:Nat} (h:Q1q d=.struct fs) (hi:fs[i]?=some (fo,ft)):∃ fields f,d=.struct fields∧fields[i]?=some f∧f.offset=fo∧f.type=ft:=by
 cases d <;> simp [Q1q] at h
 rename_i fields
 subst h
 simp only [List.getElem?_map] at hi
 cases hf:fields[i]? with
 | none=>simp [hf] at hi
 | some f =>
  simp [hf] at hi
  exact ⟨fields,f,rfl,hf,hi.1,hi.2⟩

def Q3r (TI:Nat→Option Q1r) (nt:Nat) (o:Oper) (σ:Q0d) (t:Nat) (x:Operand) (i:Nat):Option Ev :=
 match shp TI t with
 | some (.struct fs) =>
  match fs[i]? with
  | some (fo,ft) =>
   match TI ft with
   | some fi =>
    bif Nat.beq fi.size 0 then none else
    match opv σ x with
    | .ra id off=>qv nt o (.ra id (off + fo)) (opr x) [] []
    | .ea id sz j off=>qv nt o (.ea id sz j (off + fo)) (opr x) [] []
    | .ptr cs off=>qv nt o (.ptr cs (off + fo)) (opr x) [] []
    | _=>none
   | none=>none
  | none=>none
 | _=>none
theorem Q3s {TI:Nat→Option Q1r} (hTI:Q20 P TI) (t:Nat) (x:Operand) (i:Nat) (ho:o.op=.fieldAddr t x i):Q2o P c o σ (Q3r TI c.nt o σ t x i):=by
 unfold Q3r
 split
 ·rename_i fs hsh
  split
  ·rename_i fo ft hfi
   split
   ·rename_i fi hft
    obtain ⟨ti,hti,hshp⟩:=Q2l hsh
    refine .ite (fun _=>.none) (fun hne=>?_)
    have hne:fi.size ≠ 0:=by intro e; rw [e] at hne; simp at hne
    have run:∀ (a:Act) (w:World) (b off:Nat),a.eval x=.pointer (some ⟨b,off,none⟩)→(execOp a.eval o).run P w=.ok (.value (.pointer (some ⟨b,off + fo,none⟩))) w:=by
     intro a w b off he
     obtain ⟨d,hd,h3⟩:=Q26 hTI hti w
     rw [hshp] at h3
     obtain ⟨fields,f,rfl,hf,hfo,hft'⟩:=Q3q h3 hfi
     subst hft'
     have hsz:=Q24 hTI hft w
     simp only [execOp,ho,he,Instr.fieldAt,Instr.sureAddr,Sem.run_bind,hd,Result.andThen,hf,Sem.run_pure,fieldPlace,hsz,if_neg hne,Q2a,hfo]
    split
    ·rename_i id off hx
     refine Q2p fun hobs τ ht _ β fp Sh a w hs=>?_
     have h1:=hs.opd x; rw [Q2k x ht,hx] at h1
     obtain ⟨g,hg,e1⟩:=h1.ra_inv
     exact ⟨_,run a w g off e1,.ra id (off + fo) g hg⟩
    ·rename_i id sz j off hx
     refine Q2p fun hobs τ ht _ β fp Sh a w hs=>?_
     have h1:=hs.opd x; rw [Q2k x ht,hx] at h1
     obtain ⟨g,n,c',hg,e1⟩:=h1.ea_inv
     exact ⟨_,run a w g _ e1,by rw [Nat.add_assoc]; exact .ea id sz j (off + fo) g n c' hg⟩
    ·rename_i cs off hx
     refine Q2p fun hobs τ ht _ β fp Sh a w hs=>?_
     have h1:=hs.opd x; rw [Q2k x ht,hx] at h1
     obtain ⟨b,o',f,e1,hb,hm,hr⟩:=h1.ptr_inv
     exact ⟨_,run a w b _ e1,by rw [Nat.add_assoc]; exact .base _ _ (.ptr b o' cs (off + fo) f hb hm hr)⟩
    ·exact .none
   ·exact .none
  ·exact .none
 ·exact .none

def Q3t (agg:Bool) (cs:List AV) (off n:Nat):AV:=bif agg then .agg ((cs.drop off).take n) else av cs off

theorem Q3u (cs:List AV) (off n i:Nat) (hi:i < n):av ((cs.drop off).take n) i=av cs (off + i):=by
 simp only [av,List.getD_eq_getElem?_getD,List.getElem?_take,if_pos hi,List.getElem?_drop]

def Q3v (TI:Nat→Option Q1r) (nt:Nat) (o:Oper) (σ:Q0d) (t:Nat) (x:Operand) (i:Nat):Option Ev :=
 match shp TI t with
 | some (.struct fs) =>
  match fs[i]? with
  | some (fo,ft) =>
   match TI ft,opv σ x with
   | some fi,.agg cs=>bif Nat.ble (fo + fi.size) cs.length && Nat.ble 1 fi.size then qv nt o (Q3t (Q27 fi.shp) cs fo fi.size) (opr x) [] [] else none
   | _,_=>none
  | none=>none
 | _=>none
theorem Q3w {w:World} {Sh:Nat→Prop} {β:Nat→Value} {cc:Array Value} {cs:List AV} {fo:Nat} {fi:Q1r} (hsz:cc.size=cs.length) (h:∀ i,i < cs.length→Q0i w Sh β (cc.getD i undef) (av cs i))
  (h1:fo + fi.size ≤ cs.length) (h2:1 ≤ fi.size):Q0i w Sh β (if Q27 fi.shp then .agg (cc.extract fo (fo + fi.size)) else cc.getD fo undef) (Q3t (Q27 fi.shp) cs fo fi.size):=by
 unfold Q3t
 cases Q27 fi.shp with
 | true =>
  simp only [if_true,cond_true]
  refine .agg _ _ (by simp; omega) (fun i hi=>?_)
  have hi':i < fi.size:=by simp at hi; omega
  rw [Q3u _ _ _ _ hi']
  have e:(cc.extract fo (fo + fi.size)).getD i undef=cc.getD (fo + i) undef:=by
   have e1:(cc.extract fo (fo + fi.size))[i]?=cc[fo + i]?:=by rw [Array.getElem?_extract,if_pos (by omega)]
   simp only [Array.getD_eq_getD_getElem?,e1]
  rw [e]
  exact h _ (by omega)
 | false =>
  simp only [cond_false,Bool.false_eq_true,if_false]
  exact h _ (by omega)
theorem Q3x {TI:Nat→Option Q1r} (hTI:Q20 P TI) (t:Nat) (x:Operand) (i:Nat) (ho:o.op=.field t x i):Q2o P c o σ (Q3v TI c.nt o σ t x i):=by
 unfold Q3v
 split
 ·rename_i fs hsh
  split
  ·rename_i fo ft hfi
   split
   ·rename_i fi cs hft hx
    obtain ⟨ti,hti,hshp⟩:=Q2l hsh
    refine .ite (fun hb=>?_) (fun _=>.none)
    simp only [Bool.and_eq_true,Nat.ble_eq] at hb
    refine Q2p fun hobs τ ht _ β fp Sh a w hs=>?_
    have h1:=hs.opd x; rw [Q2k x ht,hx] at h1
    obtain ⟨cc,e1,hsz,hh⟩:=h1.agg_inv
    refine ⟨_,?_,Q3w hsz hh hb.1 hb.2⟩
    obtain ⟨d,hd,h3⟩:=Q26 hTI hti w
    rw [hshp] at h3
    obtain ⟨fields,f,rfl,hf,hfo,hft'⟩:=Q3q h3 hfi
    subst hft'
    have hszr:=Q24 hTI hft w
    have hagg:=Q29 hTI hft w
    simp only [execOp,ho,e1,Instr.field,asAgg,Sem.run_bind,hd,Result.andThen,hf,Sem.run_pure,part,hagg,hfo]
    cases Q27 fi.shp with
    | true=>simp only [if_true,Sem.run_bind,hszr,Result.andThen]; rfl
    | false =>
     have:fo < cc.size:=by omega
     simp [this,Sem.run_pure]
   ·exact .none
  ·exact .none
 ·exact .none

def plain:AV→Bool
 | .int _ _ | .bool _ | .str _ | .nils | .nilp | .sl _ | .ptr _ _=>true
 | _=>false
theorem Q04.plain {w:World} {Sh S:Nat→Prop} {v:Value} {x:AV} (h:Q04 w Sh S v x) (hx:plain x=true):Q03 w Sh v x:=by
 cases h <;> first | assumption | simp [Am.plain] at hx

theorem Q03.sl_elem {w:World} {Sh:Nat→Prop} {v:Value} {xs:List AV} {x:AV} {i sz:Nat} (h:Q03 w Sh v (.sl xs)) (hx:xs[i]?=some x) (hsz:(cellsOf x).length=sz) :
  ∃ (b o n c:Nat) (f:Nat→Value),v=.slice (some ⟨b,o,none⟩) n c∧i < n∧n=xs.length∧Sh b∧(∀ j,j < sz→w.cell? ⟨b,o + (i * sz + j),none⟩=some (f j))∧∀ j,j < sz→Q03 w Sh (f j) (av (cellsOf x) j):=by
 have hlt:i < xs.length:=(List.getElem?_eq_some_iff.1 hx).1
 have hav:av xs i=x:=by simp [av,List.getD_eq_getElem?_getD,hx]
 cases h with
 | sl0 a c=>simp at hlt
 | sl1 b o c sz' xs f hb hc hz hm hr =>
  have hz':=hz i hlt
  rw [hav,hsz] at hz'
  subst hz'
  refine ⟨b,o,xs.length,c,f i,rfl,hlt,rfl,hb,fun j hj=>hm i j hlt hj,fun j hj=>?_⟩
  have:=hr i j hlt (by rw [hav,hsz]; exact hj)
  rwa [hav] at this

def Q3y (TI:Nat→Option Q1r) (nt:Nat) (o:Oper) (σ:Q0d) (t:Nat) (x y:Operand) (r:Orc):Option Ev :=
 match shp TI t with
 | some (.slice e) =>
  match TI e,opv σ y with
  | some ei,.int _ i =>
   match opv σ x,r with
   | .sl xs,.el x0=>bif Nat.beq (cellsOf x0).length ei.size then qv nt o (.ptr (cellsOf x0) 0) (opr x ++ opr y) [] [0 ≤ i∧xs[i.toNat]?=some x0] else none
   | .rs id,_ =>
    match σ.O id with
    | some (.arr xs)=>qv nt o (.ea id ei.size i.toNat 0) (opr x ++ opr y) [id] [0 ≤ i∧i.toNat < xs.length]
    | _=>none
   | _,_=>none
  | _,_=>none
 | some (.array n e) =>
  match TI e,opv σ y,opv σ x with
  | some ei,.int _ i,.ra id off=>qv nt o (.ra id (off + i.toNat * ei.size)) (opr x ++ opr y) [] [0 ≤ i∧i < (n:Int)]
  | some ei,.int _ i,.ptr cs off=>qv nt o (.ptr cs (off + i.toNat * ei.size)) (opr x ++ opr y) [] [0 ≤ i∧i < (n:Int)]
  | _,_,_=>none
 | _=>none

theorem Q3z {w:World} {Sh S:Nat→Prop} {v:Value} {xs:List AV} (h:Q04 w Sh S v (.osl xs)) (hne:0 < xs.length):∃ g c,v=.slice (some ⟨g,0,none⟩) xs.length c:=by
 cases h with
 | val S v x h=>cases h
 | osl0 S=>simp at hne
 | osl S g c sz e cur xs Si hg hc hc0 hm hs hz h hSg hS hd=>exact ⟨g,c,rfl⟩

theorem Q40 {TI:Nat→Option Q1r} (hTI:Q20 P TI) (t:Nat) (x y:Operand) (r:Orc) (ho:o.op=.indexAddr t x y):Q2o P c o σ (Q3y TI c.nt o σ t x y r):=by
 have ox:∀ {τ:Q0d},(∀ t ∈ opr x ++ opr y,τ.T t=σ.T t)→opv τ x=opv σ x:=fun ht=>Q2k x (fun t h=>ht t (List.mem_append_left _ h))
 have oy:∀ {τ:Q0d},(∀ t ∈ opr x ++ opr y,τ.T t=σ.T t)→opv τ y=opv σ y:=fun ht=>Q2k y (fun t h=>ht t (List.mem_append_right _ h))
 unfold Q3y
 split
 ·rename_i e hsh
  obtain ⟨ti,hti,hshp⟩:=Q2l hsh
  split
  ·rename_i ei k i hei hy
   have run:∀ (a:Act) (w:World) (b off n cp:Nat),a.eval x=.slice (some ⟨b,off,none⟩) n cp→a.eval y=.int k i→0 ≤ i→i.toNat < n →
     (execOp a.eval o).run P w=.ok (.value (.pointer (some ⟨b,off + i.toNat * ei.size,none⟩))) w:=by
    intro a w b off n cp he hey h0 hlt
    obtain ⟨d,hd,h3⟩:=Q26 hTI hti w
    rw [hshp] at h3
    have:d=.slice e:=by cases d <;> simp [Q1q] at h3 <;> simp [h3]
    subst this
    have hsz:=Q24 hTI hei w
    have hin:0 ≤ i∧i < (n:Int):=by omega
    simp only [execOp,ho,he,hey,Instr.indexAt,asIntOf,Sem.run_bind,hd,Result.andThen,Sem.run_pure,if_pos hin,hsz,Q2a]
   split
   ·rename_i xs x0 hx
    refine .ite (fun hb=>?_) (fun _=>.none)
    have hb:(cellsOf x0).length=ei.size:=Nat.eq_of_beq_eq_true hb
    refine Q2p fun hobs τ ht _ β fp Sh a w hs=>?_
    have h1:=hs.opd x; rw [ox ht,hx] at h1
    have h2:=hs.opd y; rw [oy ht,hy] at h2
    obtain ⟨h0,hel⟩:=hobs _ (List.mem_singleton.2 rfl)
    obtain ⟨b,o',n,cp,f,e1,hlt,hn,hSb,hm,hr⟩:=h1.sl_inv.sl_elem hel hb
    refine ⟨_,run a w b o' n cp e1 h2.int_inv h0 hlt,?_⟩
    have:=Q03.ptr (w:=w) (Sh:=Sh) b (o' + i.toNat * ei.size) (cellsOf x0) 0 f hSb (fun j hj=>by rw [Nat.add_assoc]; exact hm j (hb ▸ hj)) (fun j hj=>hr j (hb ▸ hj))
    exact .base _ _ this
   ·rename_i _ id hx
    split
    ·rename_i xs hO
     refine Q2p fun hobs τ ht hob β fp Sh a w hs=>?_
     have h1:=hs.opd x; rw [ox ht,hx] at h1
     have h2:=hs.opd y; rw [oy ht,hy] at h2
     obtain ⟨h0,hlt⟩:=hobs _ (List.mem_singleton.2 rfl)
     have hO':τ.O id=some (.arr xs):=(hob id (by simp)).trans hO
     have hown:Q04 w Sh (fp id) (β id) (.osl xs):=hs.ob id _ hO'
     obtain ⟨g,cp,hg⟩:=Q3z hown (by omega)
     have e1:=h1.rs_inv
     rw [hg] at e1
     refine ⟨_,run a w g 0 _ cp e1 h2.int_inv h0 hlt,?_⟩
     have:=Q0i.ea (w:=w) (Sh:=Sh) (β:=β) id ei.size i.toNat 0 g _ cp hg
     simpa using this
    ·exact .none
   ·exact .none
  ·exact .none
 ·rename_i n e hsh
  obtain ⟨ti,hti,hshp⟩:=Q2l hsh
  have run:∀ (a:Act) (w:World) (b off:Nat) (ei:Q1r) (k:IntKind) (i:Int),TI e=some ei→a.eval x=.pointer (some ⟨b,off,none⟩)→a.eval y=.int k i→0 ≤ i∧i < (n:Int) →
     (execOp a.eval o).run P w=.ok (.value (.pointer (some ⟨b,off + i.toNat * ei.size,none⟩))) w:=by
    intro a w b off ei k i hei he hey hin
    obtain ⟨d,hd,h3⟩:=Q26 hTI hti w
    rw [hshp] at h3
    have:d=.array n e:=by cases d <;> simp [Q1q] at h3 <;> simp [h3]
    subst this
    have hsz:=Q24 hTI hei w
    simp only [execOp,ho,he,hey,Instr.indexAt,asIntOf,Sem.run_bind,hd,Result.andThen,Sem.run_pure,Instr.sureAddr]
    by_cases h1:n ≤ 1
    ·simp [Sem.run_bind,Sem.run_pure,Result.andThen,hd,hin,hsz,Q2a,h1,pure]
    ·simp [Sem.run_bind,Sem.run_pure,Result.andThen,hd,hin,hsz,Q2a,h1,pure]
  split
  ·rename_i ei k i id off hei hy hx
   refine Q2p fun hobs τ ht _ β fp Sh a w hs=>?_
   have h1:=hs.opd x; rw [ox ht,hx] at h1
   have h2:=hs.opd y; rw [oy ht,hy] at h2
   obtain ⟨g,hg,e1⟩:=h1.ra_inv
   exact ⟨_,run a w g off ei k i hei e1 h2.int_inv (hobs _ (List.mem_singleton.2 rfl)),.ra id _ g hg⟩
  ·rename_i ei k i cs off hei hy hx
   refine Q2p fun hobs τ ht _ β fp Sh a w hs=>?_
   have h1:=hs.opd x; rw [ox ht,hx] at h1
   have h2:=hs.opd y; rw [oy ht,hy] at h2
   obtain ⟨b,o',f,e1,hb,hm,hr⟩:=h1.ptr_inv
   refine ⟨_,run a w b _ ei k i hei e1 h2.int_inv (hobs _ (List.mem_singleton.2 rfl)),?_⟩
   rw [Nat.add_assoc]
   exact .base _ _ (.ptr b o' cs _ f hb hm hr)
  ·exact .none
 ·exact .none

theorem Q41 (b off n:Nat) (w:World) (f:Nat→Value) (h:∀ j,j < n→w.cell? ⟨b,off + j,none⟩=some (f j)):(loadCells ⟨b,off,none⟩ n).run P w=.ok ((List.range n).map f).toArray w :=
 run_loadCells w _ n f (fun j hj=>by rw [Q2a]; exact h j hj)

def Q42 (fi:Q1r) (cs:List AV) (off:Nat):AV:=Q3t (Q27 fi.shp) cs off fi.size
def Q43 (fi:Q1r) (cs:List AV) (off:Nat):Bool:=Nat.ble (off + fi.size) cs.length && (Q27 fi.shp || Nat.beq fi.size 1)

theorem Q44 {TI:Nat→Option Q1r} (hTI:Q20 P TI) {t:Nat} {fi:Q1r} (ht:TI t=some fi) {w:World} {Sh:Nat→Prop} {β:Nat→Value} {b o' off:Nat} {cs:List AV} {f:Nat→Value}
  (hfit:Q43 fi cs off=true) (hm:∀ j,off ≤ j→j < off + fi.size→w.cell? ⟨b,o' + j,none⟩=some (f j)) (hr:∀ j,off ≤ j→j < off + fi.size→Q0i w Sh β (f j) (av cs j)) :
  ∃ u,(loadVar t ⟨b,o' + off,none⟩).run P w=.ok u w∧Q0i w Sh β u (Q42 fi cs off):=by
 simp only [Q43,Bool.and_eq_true,Nat.ble_eq,Bool.or_eq_true] at hfit
 obtain ⟨hle,hk⟩:=hfit
 have hagg:=Q29 hTI ht w
 have hsz:=Q24 hTI ht w
 unfold Q42 Q3t
 cases hs:Q27 fi.shp with
 | true =>
  refine ⟨.agg ((List.range fi.size).map fun j=>f (off + j)).toArray,?_,?_⟩
  ·simp only [loadVar,Sem.run_bind,hagg,hs,Result.andThen,if_true,hsz]
   rw [Q41 b (o' + off) fi.size w (fun j=>f (off + j)) (fun j hj=>by rw [Nat.add_assoc]; exact hm _ (by omega) (by omega))]
   rfl
  ·simp only [cond_true]
   refine .agg _ _ (by simp; omega) (fun i hi=>?_)
   have hi':i < fi.size:=by simp at hi; omega
   rw [Q3u _ _ _ _ hi']
   have e:(List.map (fun j=>f (off + j)) (List.range fi.size)).toArray.getD i undef=f (off + i):=by simp [Array.getD,hi']
   rw [e]
   exact hr _ (by omega) (by omega)
 | false =>
  have h1:fi.size=1:=by
   rcases hk with hk | hk
   ·rw [hs] at hk; cases hk
   ·exact Nat.eq_of_beq_eq_true hk
  refine ⟨f off,?_,?_⟩
  ·simp only [loadVar,Sem.run_bind,hagg,hs,Result.andThen,Bool.false_eq_true,if_false]
   simp only [load,Sem.run,hm off (Nat.le_refl _) (by omega)]
  ·simp only [cond_false]
   exact hr off (Nat.le_refl _) (by omega)

def Q45 (TI:Nat→Option Q1r) (nt:Nat) (o:Oper) (σ:Q0d) (t:Nat) (x:Operand) (r:Orc):Option Ev :=
 match TI t with
 | some fi =>
  match opv σ x with
  | .ra id off =>
   match σ.O id with
   | some (.box cs)=>bif Q43 fi cs off then qv nt o (Q42 fi cs off) (opr x) [id] [] else none
   | _=>none
  | .ptr cs off=>bif Q43 fi cs off then qv nt o (Q42 fi cs off) (opr x) [] [] else none
  | .ea id sz i off =>
   match σ.O id,r with
   | some (.arr xs),.el x0=>bif Q43 fi (cellsOf x0) off && Nat.beq (cellsOf x0).length sz && (((cellsOf x0).drop off).take fi.size).all plain then qv nt o (Q42 fi (cellsOf x0) off) (opr x) [id] [xs[i]?=some x0] else none
   | _,_=>none
  | _=>none
 | none=>none

theorem Q46 {w:World} {Sh S:Nat→Prop} {v:Value} {xs:List AV} {x:AV} {i:Nat} (h:Q04 w Sh S v (.osl xs)) (hx:xs[i]?=some x) :
  ∃ (g n c:Nat) (f:Nat→Value) (Si:Nat→Nat→Prop),v=.slice (some ⟨g,0,none⟩) n c∧(∀ j,j < (cellsOf x).length→w.cell? ⟨g,i * (cellsOf x).length + j,none⟩=some (f j))∧∀ j,j < (cellsOf x).length→Q04 w Sh (Si j) (f j) (av (cellsOf x) j):=by
 have hlt:i < xs.length:=(List.getElem?_eq_some_iff.1 hx).1
 have hav:av xs i=x:=by simp [av,List.getD_eq_getElem?_getD,hx]
 cases h with
 | val S v x h=>cases h
 | osl0 S=>simp at hlt
 | osl S g c sz e cur xs Si hg hc hc0 hm hs hz h hSg hS hd =>
  have hz':=hz i hlt
  rw [hav] at hz'
  refine ⟨g,xs.length,c,fun j=>cur.getD (i * sz + j) undef,Si i,rfl,fun j hj=>?_,fun j hj=>?_⟩
  ·rw [hz'] at hj ⊢
   exact Q0a hg _ (by rw [hs]; exact Q0b hlt hc hj)
  ·have:=h i j hlt (by rw [hav]; exact hj)
   rwa [hav] at this

theorem Q47 {TI:Nat→Option Q1r} (hTI:Q20 P TI) (t:Nat) (x:Operand) (r:Orc) (ho:o.op=.load t x):Q2o P c o σ (Q45 TI c.nt o σ t x r):=by
 have run:∀ (a:Act) (w:World) (A:Addr) (u:Value),a.eval x=.pointer (some A)→(loadVar t A).run P w=.ok u w→(execOp a.eval o).run P w=.ok (.value u) w:=by
  intro a w A u he hl
  simp only [execOp,ho,he,Instr.loadAt,Instr.sureAddr,Sem.run_bind,Sem.run_pure,Result.andThen,hl]
 unfold Q45
 split
 ·rename_i fi hfi
  split
  ·rename_i id off hx
   split
   ·rename_i cs hO
    refine .ite (fun hfit=>?_) (fun _=>.none)
    refine Q2p fun hobs τ ht hob β fp Sh a w hs=>?_
    have h1:=hs.opd x; rw [Q2k x ht,hx] at h1
    obtain ⟨g,hg,e1⟩:=h1.ra_inv
    have hO':τ.O id=some (.box cs):=(hob id (by simp)).trans hO
    obtain ⟨g',e,cc,hv,hblk,hsz,hcs,_⟩:=hs.ob id _ hO'
    rw [hg] at hv
    simp only [Value.pointer.injEq,Option.some.injEq,Addr.mk.injEq,and_true] at hv
    subst hv
    have hle:off + fi.size ≤ cs.length:=by simp only [Q43,Bool.and_eq_true,Nat.ble_eq] at hfit; exact hfit.1
    obtain ⟨u,hu,hrep⟩:=Q44 (Sh:=Sh) (β:=β) hTI hfi (w:=w) (b:=g) (o':=0) (f:=fun j=>cc.getD j undef) hfit
     (fun j _ hj=>by rw [Nat.zero_add]; exact Q0a hblk j (by omega)) (fun j _ hj=>hcs j (by omega))
    rw [Nat.zero_add] at hu
    exact ⟨u,run a w _ u e1 hu,hrep⟩
   ·exact .none
  ·rename_i cs off hx
   refine .ite (fun hfit=>?_) (fun _=>.none)
   refine Q2p fun hobs τ ht hob β fp Sh a w hs=>?_
   have h1:=hs.opd x; rw [Q2k x ht,hx] at h1
   obtain ⟨b,o',f,e1,hb,hm,hr⟩:=h1.ptr_inv
   have hle:off + fi.size ≤ cs.length:=by simp only [Q43,Bool.and_eq_true,Nat.ble_eq] at hfit; exact hfit.1
   obtain ⟨u,hu,hrep⟩:=Q44 (Sh:=Sh) (β:=β) hTI hfi (w:=w) (b:=b) (o':=o') (f:=f) hfit (fun j _ hj=>hm j (by omega)) (fun j _ hj=>.base _ _ (hr j (by omega)))
   exact ⟨u,run a w _ u e1 hu,hrep⟩
  ·rename_i id sz i off hx
   split
   ·rename_i xs x0 hO
    refine .ite (fun hb=>?_) (fun _=>.none)
    simp only [Bool.and_eq_true] at hb
    obtain ⟨⟨hfit,hsz⟩,hpl⟩:=hb
    have hsz:(cellsOf x0).length=sz:=Nat.eq_of_beq_eq_true hsz
    refine Q2p fun hobs τ ht hob β fp Sh a w hs=>?_
    have h1:=hs.opd x; rw [Q2k x ht,hx] at h1
    obtain ⟨g,n,c',hg,e1⟩:=h1.ea_inv
    have hO':τ.O id=some (.arr xs):=(hob id (by simp)).trans hO
    have hown:Q04 w Sh (fp id) (β id) (.osl xs):=hs.ob id _ hO'
    obtain ⟨g',n',c2,f,Si,hv,hm,hr⟩:=Q46 hown (hobs _ (List.mem_singleton.2 rfl))
    rw [hg] at hv
    simp only [Value.slice.injEq,Option.some.injEq,Addr.mk.injEq,and_true] at hv
    obtain ⟨rfl,_,_⟩:=hv
    have hle:off + fi.size ≤ (cellsOf x0).length:=by simp only [Q43,Bool.and_eq_true,Nat.ble_eq] at hfit; exact hfit.1
    obtain ⟨u,hu,hrep⟩:=Q44 (Sh:=Sh) (β:=β) hTI hfi (w:=w) (b:=g) (o':=i * sz) (f:=f) hfit (fun j _ hj=>by rw [← hsz]; exact hm j (by omega))
     (fun j hj1 hj=>.base _ _ ((hr j (by omega)).plain (by
      rw [List.all_eq_true] at hpl
      refine hpl _ ?_
      have e:av (cellsOf x0) j=(cellsOf x0)[j]'(by omega):=by
       have:j < (cellsOf x0).length:=by omega
       simp [av,List.getD_eq_getElem?_getD,this]
      rw [e,List.mem_iff_getElem?]
      refine ⟨j - off,?_⟩
      rw [List.getElem?_take,if_pos (by omega),List.getElem?_drop,show off + (j - off)=j by omega,List.getElem?_eq_getElem])))
    exact ⟨u,run a w _ u e1 hu,hrep⟩
   ·exact .none
  ·exact .none
 ·exact .none

end
end Go.Am
