/- What a row reads as an argument is borne by memory as an abstract value of its type. -/
import Derived.Test.YtifijafaaljamaaDoorAmV
set_option linter.unusedSimpArgs false
set_option linter.unusedVariables false
namespace Go.Am
open Go.RowKit

def Qgo (agg:Bool) (ys:List AV):AV:=bif agg then .agg ys else av ys 0

def Qgp (R:Nat→List AV→Prop):List (Nat × Nat)→List AV→Prop
 | [],xs=>xs=[]
 | (_,ft) :: r,xs=>∃ ys zs,xs=ys ++ zs∧R ft ys∧Qgp R r zs
def Qgq (TI:Nat→Option Q1r) (e:Nat):Bool:=match TI e with | some ei=>Q27 ei.shp | none=>false
def Okc (TI:Nat→Option Q1r):Nat→Nat→List AV→Prop
 | 0,_,_=>False
 | n + 1,t,xs =>
  match shp TI t with
  | some (.int k)=>∃ m,xs=[.int k m]∧(Lit.int k m).wf=true
  | some .bool=>∃ b,xs=[.bool b]
  | some .string=>∃ s,xs=[.str s]∧s.size ≤ maxLen
  | some (.slice e)=>∃ l:List (List AV),xs=[.sl (l.map (Qgo (Qgq TI e)))]∧l.length ≤ maxLen∧∀ ys ∈ l,Okc TI n e ys
  | some (.struct fs)=>Qgp (Okc TI n) fs xs
  | _=>False

theorem Qgr {α β:Type} {f:α→Option β}:∀ (l:List α) (out:List β),l.mapM f=some out→out.length=l.length∧∀ i (h:i < l.length),f l[i]=out[i]?
 | [],out,h=>by
  simp only [List.mapM_nil] at h
  cases h
  exact ⟨rfl,fun i hi=>by simp at hi⟩
 | a :: l,out,h=>by
  rw [List.mapM_cons] at h
  cases ha:f a with
  | none=>rw [ha] at h; cases h
  | some b =>
   rw [ha] at h
   cases hr:l.mapM f with
   | none=>rw [hr] at h; cases h
   | some bs =>
    rw [hr] at h
    cases h
    obtain ⟨h1,h2⟩:=Qgr l bs hr
    refine ⟨by simp [h1],fun i hi=>?_⟩
    cases i with
    | zero=>simpa using ha
    | succ i=>simpa using h2 i (by simpa using hi)

def Qgs (TI:Nat→Option Q1r) (rts:List Nat):Nat→List (Nat × Nat)→Nat→Bool
 | o,[],n=>Nat.beq o n
 | o,(fo,ft) :: r,n=>Nat.beq fo o && rts.contains ft && (match TI ft with | some fi=>Qgs TI rts (o + fi.size) r n | none=>false)
def Qgt (TI:Nat→Option Q1r) (rts:List Nat):Bool :=
 rts.all fun t=>match TI t with
  | some i=>match i.shp with
   | .int _ | .bool | .string=>Nat.beq i.size 1
   | .slice e=>Nat.beq i.size 1 && rts.contains e && (match TI e with | some ei=>Nat.ble 1 ei.size | none=>false)
   | .struct fs=>Qgs TI rts 0 fs i.size
   | _=>false
  | none=>false

section
variable {H:Type} {enc:TypeId × Value→H} {P:Program} {TI:Nat→Option Q1r}

theorem Qgu {w:World} {base:Nat} {a:Addr} {n:Nat} {cs:List Value} (h:w.cells? base a n=some cs):cs.length=n∧∀ j,j < n→w.cell? (a.add j)=some (cs.getD j undef):=by
 unfold World.cells? at h
 split at h
 ·obtain ⟨h1,h2⟩:=Qgr _ _ h
  simp only [List.length_range] at h1 h2
  refine ⟨h1,fun j hj=>?_⟩
  have:=h2 j hj
  simp only [List.getElem_range] at this
  rw [this,List.getD_eq_getElem?_getD,List.getElem?_eq_getElem (by omega)]
  rfl
 ·cases h
theorem Qgv {w:World} {a:Addr} {v:Value} (h:w.cell? a=some v):a.block < w.heap.size∧a.spot=none:=by
 unfold World.cell? at h
 split at h
 ·rename_i c _ _ hb
  refine ⟨(Array.getElem?_eq_some_iff.1 hb).1,?_⟩
  split at h
  ·cases h
  ·rename_i hs
   cases ha:a.spot with
   | none=>rfl
   | some _=>rw [ha] at hs; simp at hs
 ·cases h

def Qgw (TI:Nat→Option Q1r) (w:World) (n t:Nat) (cs:List Value):Prop :=
 ∃ xs,Okc TI n t xs∧cs.length=xs.length∧∀ j,j < xs.length→Q03 w (fun b=>b < w.heap.size) (cs.getD j undef) (av xs j)

theorem Qgx {n t:Nat} {i:Q1r} {ys:List AV} (h:Okc TI n t ys) (hi:TI t=some i):cellsOf (Qgo (Q27 i.shp) ys)=ys:=by
 have hs:shp TI t=some i.shp:=by unfold shp; rw [hi]; rfl
 cases n with
 | zero=>exact h.elim
 | succ n =>
  unfold Okc at h
  rw [hs] at h
  cases hq:i.shp with
  | int k=>rw [hq] at h; obtain ⟨m,rfl,_⟩:=h; rfl
  | bool=>rw [hq] at h; obtain ⟨m,rfl⟩:=h; rfl
  | string=>rw [hq] at h; obtain ⟨m,rfl,_⟩:=h; rfl
  | slice e=>rw [hq] at h; obtain ⟨l,rfl,_⟩:=h; rfl
  | struct fs=>rfl
  | array n e=>rfl
  | pointer e=>rw [hq] at h; exact h.elim
  | other=>rw [hq] at h; exact h.elim

theorem Qgy {w:World} {Sh:Nat→Prop} {v:Value} {x:AV} (h:Q03 w Sh v x):([v]:List Value).length=([x]:List AV).length∧∀ j,j < ([x]:List AV).length→Q03 w Sh (([v]:List Value).getD j undef) (av [x] j) :=
 ⟨rfl,fun j hj=>by
  have:j=0:=by simpa using hj
  subst this; exact h⟩

section
variable {w:World} {sp:Nat→Bool} {held:Bool} {n t:Nat} {cs:List Value} {x:DataW H × List MemPlace}
theorem Qgz (hu:P.underlying t=some .bool) (h:DataW.trod enc P w 0 sp held (n + 1) t cs=some x):∃ b,cs=[.bool b]:=by
 unfold DataW.trod at h
 rw [hu] at h
 rcases cs with _ | ⟨v,_ | ⟨v',r⟩⟩
 ·cases h
 ·cases v <;> first | exact ⟨_,rfl⟩ | cases h
 ·cases v <;> cases h
theorem Qh0 {k:IntKind} (hu:P.underlying t=some (.int k)) (h:DataW.trod enc P w 0 sp held (n + 1) t cs=some x):∃ m,cs=[.int k m]∧(Lit.int k m).wf=true:=by
 unfold DataW.trod at h
 rw [hu] at h
 rcases cs with _ | ⟨v,_ | ⟨v',r⟩⟩
 ·cases h
 ·cases v <;> first | cases h | skip
  rename_i k' m
  simp only at h
  split at h
  ·rename_i hh
   obtain ⟨rfl,h2⟩:=hh
   exact ⟨_,rfl,h2⟩
  ·cases h
 ·cases v <;> cases h
theorem Qh1 (hu:P.underlying t=some .string) (h:DataW.trod enc P w 0 sp held (n + 1) t cs=some x):∃ s,cs=[.string s]∧s.size ≤ maxLen:=by
 unfold DataW.trod at h
 rw [hu] at h
 rcases cs with _ | ⟨v,_ | ⟨v',r⟩⟩
 ·cases h
 ·cases v <;> first | cases h | skip
  rename_i s
  simp only at h
  split at h
  ·rename_i hh
   exact ⟨_,rfl,hh⟩
  ·cases h
 ·cases v <;> cases h
theorem Qh2 {e:Nat} (hu:P.underlying t=some (.slice e)) (h:DataW.trod enc P w 0 sp held (n + 1) t cs=some x) :
  cs=[.slice none 0 0]∨∃ a len cap,cs=[.slice (some a) len cap]∧len ≤ cap∧cap ≤ maxLen∧∀ i,i < len→∃ cs' x',w.cells? 0 (a.add (i * P.cellsOf e)) (P.cellsOf e)=some cs'∧DataW.trod enc P w 0 sp held n e cs'=some x':=by
 unfold DataW.trod at h
 rw [hu] at h
 rcases cs with _ | ⟨v,_ | ⟨v',r⟩⟩
 ·cases h
 ·cases v <;> first | cases h | skip
  rename_i a len cap
  cases a with
  | none =>
   left
   cases len with
   | zero =>
    cases cap with
    | zero=>rfl
    | succ c=>cases h
   | succ l=>cases h
  | some a =>
   right
   simp only at h
   split at h
   ·rename_i hh
    refine ⟨a,len,cap,rfl,hh.2.1,hh.2.2,fun i hi=>?_⟩
    cases hm:(List.range len).mapM (fun i=>(w.cells? 0 (a.add (i * P.cellsOf e)) (P.cellsOf e)).bind (DataW.trod enc P w 0 sp held n e)) with
    | none=>rw [hm] at h; cases h
    | some els =>
     obtain ⟨h1,h2⟩:=Qgr _ _ hm
     simp only [List.length_range] at h1 h2
     have:=h2 i hi
     simp only [List.getElem_range] at this
     rw [List.getElem?_eq_getElem (by omega)] at this
     cases hc:w.cells? 0 (a.add (i * P.cellsOf e)) (P.cellsOf e) with
     | none=>rw [hc] at this; cases this
     | some cs'=>rw [hc] at this; exact ⟨cs',_,rfl,this⟩
   ·cases h
 ·cases v <;> first | cases h | skip
  rename_i a l c
  cases a with
  | none=>cases l <;> cases c <;> cases h
  | some a=>cases h
theorem Qh3 {fs:Array Field} (hu:P.underlying t=some (.struct fs)) (h:DataW.trod enc P w 0 sp held (n + 1) t cs=some x) :
  cs.length=P.cellsOf t∧∀ f ∈ fs.toList,∃ x',DataW.trod enc P w 0 sp held n f.type ((cs.drop f.offset).take (P.cellsOf f.type))=some x':=by
 unfold DataW.trod at h
 rw [hu] at h
 simp only at h
 split at h
 ·rename_i hh
  refine ⟨hh,fun f hf=>?_⟩
  cases hm:(fs.toList.mapM fun f=>DataW.trod enc P w 0 sp held n f.type ((cs.drop f.offset).take (P.cellsOf f.type))) with
  | none=>rw [hm] at h; cases h
  | some els =>
   obtain ⟨h1,h2⟩:=Qgr _ _ hm
   obtain ⟨i,hi,rfl⟩:=List.mem_iff_getElem.1 hf
   have:=h2 i hi
   rw [List.getElem?_eq_getElem (by omega)] at this
   exact ⟨_,this⟩
 ·cases h
end

theorem Qh4 {rts:List Nat} {n:Nat}:∀ (l:List (Nat × Nat)) (o:Nat),Qgs TI rts o l n=true→o ≤ n
 | [],o,h=>by have:=Nat.eq_of_beq_eq_true h; omega
 | (fo,ft) :: r,o,h=>by
  simp only [Qgs,Bool.and_eq_true] at h
  obtain ⟨_,h⟩:=h
  cases hf:TI ft with
  | none=>rw [hf] at h; cases h
  | some fi=>rw [hf] at h; have:=Qh4 r _ h; omega
theorem Qh5 (hTI:Q20 P TI) {t:Nat} {i:Q1r} (hi:TI t=some i):∃ desc,P.underlying t=some desc∧Q1q desc=i.shp∧P.cellsOf t=i.size:=by
 obtain ⟨h1,h2,_,_⟩:=hTI t i hi
 cases hu:P.underlying t with
 | none=>rw [hu] at h2; cases h2
 | some desc =>
  rw [hu] at h2
  simp only [Option.map_some,Option.some.injEq] at h2
  refine ⟨desc,rfl,h2,?_⟩
  unfold Program.cellsOf
  cases hp:P.info? t with
  | none=>rw [hp] at h1; cases h1
  | some q=>rw [hp] at h1; simp only [Option.map_some,Option.some.injEq,Prod.mk.injEq] at h1; simp [h1.1]

theorem Qh6 (hTI:Q20 P TI) {rts:List Nat} (hcl:Qgt TI rts=true) {w:World} {sp:Nat→Bool} {held:Bool}:∀ (fuel t:Nat) (cs:List Value) (x:DataW H × List MemPlace),t ∈ rts→DataW.trod enc P w 0 sp held fuel t cs=some x→Qgw TI w fuel t cs
 | 0,t,cs,x,_,h=>by simp only [DataW.trod] at h; cases h
 | fuel + 1,t,cs,x,ht,h=>by
  have ih:=Qh6 hTI hcl (w:=w) (sp:=sp) (held:=held) fuel
  have hcl':=hcl
  unfold Qgt at hcl'
  rw [List.all_eq_true] at hcl'
  have hc:=hcl' t ht
  cases hi:TI t with
  | none=>rw [hi] at hc; cases hc
  | some i =>
   rw [hi] at hc
   simp only at hc
   obtain ⟨desc,hu,hs,hco⟩:=Qh5 hTI hi
   have hshp:shp TI t=some (Q1q desc):=by unfold shp; rw [hi,hs]; rfl
   rw [← hs] at hc
   cases desc with
   | bool =>
    obtain ⟨b,rfl⟩:=Qgz hu h
    obtain ⟨l1,l2⟩:=Qgy (w:=w) (Sh:=fun b=>b < w.heap.size) (.bool b)
    exact ⟨[.bool b],by unfold Okc; rw [hshp]; exact ⟨b,rfl⟩,l1,l2⟩
   | int k =>
    obtain ⟨m,rfl,hm⟩:=Qh0 hu h
    obtain ⟨l1,l2⟩:=Qgy (w:=w) (Sh:=fun b=>b < w.heap.size) (.int k m)
    exact ⟨[.int k m],by unfold Okc; rw [hshp]; exact ⟨m,rfl,hm⟩,l1,l2⟩
   | string =>
    obtain ⟨m,rfl,hm⟩:=Qh1 hu h
    obtain ⟨l1,l2⟩:=Qgy (w:=w) (Sh:=fun b=>b < w.heap.size) (.str m)
    exact ⟨[.str m],by unfold Okc; rw [hshp]; exact ⟨m,rfl,hm⟩,l1,l2⟩
   | slice e =>
    simp only [Q1q,Bool.and_eq_true] at hc
    obtain ⟨⟨_,hmem⟩,he⟩:=hc
    cases hei:TI e with
    | none=>rw [hei] at he; cases he
    | some ei =>
     rw [hei] at he
     have he1:=Nat.le_of_ble_eq_true he
     obtain ⟨_,_,_,hce⟩:=Qh5 hTI hei
     rcases Qh2 hu h with rfl | ⟨a,len,cap,rfl,hlc,hcm,hels⟩
     ·obtain ⟨l1,l2⟩:=Qgy (w:=w) (Sh:=fun b=>b < w.heap.size) (.sl0 none 0)
      exact ⟨[.sl []],by unfold Okc; rw [hshp]; exact ⟨[],rfl,by simp,fun ys h=>(by cases h)⟩,l1,l2⟩
     ·by_cases h0:len=0
      ·subst h0
       obtain ⟨l1,l2⟩:=Qgy (w:=w) (Sh:=fun b=>b < w.heap.size) (.sl0 (some a) cap)
       exact ⟨[.sl []],by unfold Okc; rw [hshp]; exact ⟨[],rfl,by simp,fun ys h=>(by cases h)⟩,l1,l2⟩
      ·-- the elements
       have hel:∀ i,∃ (cs':List Value) (ys:List AV),i < len→w.cells? 0 (a.add (i * P.cellsOf e)) (P.cellsOf e)=some cs'∧Okc TI fuel e ys∧cs'.length=ys.length∧∀ j,j < ys.length→Q03 w (fun b=>b < w.heap.size) (cs'.getD j undef) (av ys j):=fun i=>by
        by_cases hil:i < len
        ·obtain ⟨cs',x',q1,q2⟩:=hels i hil
         obtain ⟨ys,r1,r2,r3⟩:=ih e cs' x' (List.contains_iff_mem.1 hmem) q2
         exact ⟨cs',ys,fun _=>⟨q1,r1,r2,r3⟩⟩
        ·exact ⟨[],[],fun h=>absurd h hil⟩
       obtain ⟨csf,hel⟩:=Classical.axiomOfChoice hel
       obtain ⟨ysf,hel⟩:=Classical.axiomOfChoice hel
       have ha:a=⟨a.block,a.off,none⟩∧a.block < w.heap.size:=by
        obtain ⟨q1,_⟩:=hel 0 (by omega)
        obtain ⟨_,q3⟩:=Qgu q1
        have:=q3 0 (by omega)
        rw [Nat.zero_mul] at this
        have e0:(a.add 0).add 0=a:=by simp [Addr.add]
        rw [e0] at this
        obtain ⟨b1,b2⟩:=Qgv this
        refine ⟨?_,b1⟩
        cases a
        simp only at b2
        subst b2
        rfl
       obtain ⟨ha,hblk⟩:=ha
       have hyl:∀ i,i < len→(ysf i).length=ei.size:=fun i hil=>by
        obtain ⟨q1,_,q3,_⟩:=hel i hil
        have:=(Qgu q1).1
        omega
       have hpk:∀ i,i < len→cellsOf (Qgo (Q27 ei.shp) (ysf i))=ysf i:=fun i hil=>by
        obtain ⟨_,q2,_⟩:=hel i hil
        exact Qgx q2 hei
       let xs:List AV:=(List.range len).map fun i=>Qgo (Q27 ei.shp) (ysf i)
       have hxl:xs.length=len:=by simp [xs]
       have hxa:∀ i,i < len→av xs i=Qgo (Q27 ei.shp) (ysf i):=fun i hil=>by
        rw [Qda (by rw [hxl]; exact hil)]
        simp [xs]
       have hrep:Q03 w (fun b=>b < w.heap.size) (.slice (some ⟨a.block,a.off,none⟩) xs.length cap) (.sl xs):=by
        refine .sl1 a.block a.off cap ei.size xs (fun i j=>(csf i).getD j undef) hblk (by omega) (fun i hi'=>?_) (fun i j hi' hj=>?_) (fun i j hi' hj=>?_)
        ·rw [hxl] at hi'
         rw [hxa i hi',hpk i hi']; exact hyl i hi'
        ·rw [hxl] at hi'
         obtain ⟨q1,_⟩:=hel i hi'
         have:=(Qgu q1).2 j (by omega)
         rw [ha,Q2a,Q2a,hce] at this
         rw [← Nat.add_assoc]
         exact this
        ·rw [hxl] at hi'
         obtain ⟨_,_,_,q4⟩:=hel i hi'
         rw [hxa i hi',hpk i hi'] at hj ⊢
         exact q4 j hj
       rw [← ha,hxl] at hrep
       obtain ⟨l1,l2⟩:=Qgy hrep
       refine ⟨[.sl xs],?_,l1,l2⟩
       unfold Okc
       rw [hshp]
       refine ⟨(List.range len).map ysf,?_,by simp; omega,fun ys hys=>?_⟩
       ·have:Qgq TI e=Q27 ei.shp:=by unfold Qgq; rw [hei]
        rw [this,List.map_map]; rfl
       ·obtain ⟨i,hi',rfl⟩:=List.mem_map.1 hys
        exact (hel i (by simpa using hi')).2.1
   | struct fs =>
    obtain ⟨hlen,hfs⟩:=Qh3 hu h
    simp only [Q1q] at hc
    have key:∀ (l:List Field) (o:Nat),(∀ f ∈ l,∃ x',DataW.trod enc P w 0 sp held fuel f.type ((cs.drop f.offset).take (P.cellsOf f.type))=some x')→Qgs TI rts o (l.map fun f=>(f.offset,f.type)) i.size=true→o ≤ cs.length →
      ∃ xs,Qgp (Okc TI fuel) (l.map fun f=>(f.offset,f.type)) xs∧(cs.drop o).length=xs.length∧∀ j,j < xs.length→Q03 w (fun b=>b < w.heap.size) ((cs.drop o).getD j undef) (av xs j):=by
     intro l
     induction l with
     | nil =>
      intro o _ ho _
      have ho:=Nat.eq_of_beq_eq_true ho
      refine ⟨[],rfl,?_,fun j hj=>by simp at hj⟩
      simp; omega
     | cons f l ihl =>
      intro o hl ho hle
      simp only [List.map_cons,Qgs,Bool.and_eq_true] at ho
      obtain ⟨⟨ho1,ho2⟩,ho3⟩:=ho
      have ho1:=Nat.eq_of_beq_eq_true ho1
      cases hfi:TI f.type with
      | none=>rw [hfi] at ho3; cases ho3
      | some fi =>
       rw [hfi] at ho3
       obtain ⟨_,_,_,hcf⟩:=Qh5 hTI hfi
       obtain ⟨x',hx'⟩:=hl f List.mem_cons_self
       obtain ⟨ys,r1,r2,r3⟩:=ih f.type _ x' (List.contains_iff_mem.1 ho2) hx'
       rw [ho1,hcf] at r2 r3
       have hsum:=Qh4 _ _ ho3
       have hcl2:cs.length=i.size:=by omega
       have hyl:ys.length=fi.size:=by
        rw [List.length_take,List.length_drop] at r2
        omega
       obtain ⟨xs,k1,k2,k3⟩:=ihl (o + fi.size) (fun f' hf'=>hl f' (List.mem_cons_of_mem _ hf')) ho3 (by omega)
       refine ⟨ys ++ xs,⟨ys,xs,rfl,r1,k1⟩,?_,fun j hj=>?_⟩
       ·rw [List.length_append,← k2,hyl,List.length_drop,List.length_drop]; omega
       ·by_cases hjy:j < ys.length
        ·have h1:=r3 j hjy
         have e1:((cs.drop o).take fi.size).getD j undef=(cs.drop o).getD j undef:=by
          rw [List.getD_eq_getElem?_getD,List.getD_eq_getElem?_getD,List.getElem?_take,if_pos (by omega)]
         have e2:av (ys ++ xs) j=av ys j:=by
          simp only [av,List.getD_eq_getElem?_getD,List.getElem?_append_left hjy]
         rw [e2,← e1]; exact h1
        ·have hjx:j - ys.length < xs.length:=by rw [List.length_append] at hj; omega
         have h1:=k3 (j - ys.length) hjx
         have e1:(cs.drop (o + fi.size)).getD (j - ys.length) undef=(cs.drop o).getD j undef:=by
          rw [List.getD_eq_getElem?_getD,List.getD_eq_getElem?_getD,List.getElem?_drop,List.getElem?_drop]
          congr 2
          omega
         have e2:av (ys ++ xs) j=av xs (j - ys.length):=by
          simp only [av,List.getD_eq_getElem?_getD,List.getElem?_append_right (by omega:ys.length ≤ j)]
         rw [e2,← e1]; exact h1
    obtain ⟨xs,k1,k2,k3⟩:=key fs.toList 0 hfs hc (Nat.zero_le _)
    rw [List.drop_zero] at k2 k3
    exact ⟨xs,by unfold Okc; rw [hshp]; exact k1,k2,k3⟩
   | _=>simp [Q1q] at hc
end
end Go.Am
