/- append, make and literals of rows. -/
import Derived.Test.YtifijafaaljamaaDoorAmI
set_option linter.unusedSimpArgs false
set_option linter.unusedVariables false
namespace Go.Am
open Go.RowKit

def Q5u:AV→Bool
 | .osl _=>true
 | _=>false
def Q5v (sz:Nat) (x:AV):Bool:=Nat.beq (cellsOf x).length sz && (cellsOf x).all fun y=>plain y || Q5u y
theorem Q5w {sz:Nat} {x:AV} (h:Q5v sz x=true):(cellsOf x).length=sz:=by
 simp only [Q5v,Bool.and_eq_true] at h; exact Nat.eq_of_beq_eq_true h.1
theorem Q5x {l:List AV} {i:Nat} (h:i < l.length):av l i ∈ l:=by
 have e:av l i=l[i]:=by simp [av,List.getD_eq_getElem?_getD,h]
 rw [e]; exact List.getElem_mem h
theorem Q5y {w:World} {Sh S:Nat→Prop} {v:Value} {sz j:Nat} {x:AV} (h:Q5v sz x=true) (hj:j < (cellsOf x).length) (hv:Q04 w Sh S v (av (cellsOf x) j)):v.oneCell'=true:=by
 simp only [Q5v,Bool.and_eq_true,List.all_eq_true] at h
 have h2:=h.2 _ (Q5x hj)
 generalize av (cellsOf x) j=y at hv h2
 cases hv with
 | val S v y hs =>
  cases hs <;> first | rfl | simp [plain,Q5u] at h2
 | agg=>simp [plain,Q5u] at h2
 | tup=>simp [plain,Q5u] at h2
 | osl0=>rfl
 | osl=>rfl
 | optr=>rfl

theorem Q5z {l m:List AV} {i:Nat} (h:i < l.length):av (l ++ m) i=av l i:=by
 simp only [av,List.getD_eq_getElem?_getD,List.getElem?_append_left h]
theorem Q60 {l m:List AV} {i:Nat} (h:l.length ≤ i):av (l ++ m) i=av m (i - l.length):=by
 simp only [av,List.getD_eq_getElem?_getD,List.getElem?_append_right h]

theorem Q61 {a j sz:Nat} (h:j < sz):(a * sz + j) / sz=a:=by
 rw [Nat.mul_comm,Nat.mul_add_div (by omega),Nat.div_eq_of_lt h,Nat.add_zero]
theorem Q62 {a j sz:Nat} (h:j < sz):(a * sz + j) % sz=j:=by
 rw [Nat.mul_comm,Nat.mul_add_mod,Nat.mod_eq_of_lt h]

def Q63 (f:Nat→Nat→Value) (m sz:Nat):List Value:=(List.range (m * sz)).map fun p=>f (p / sz) (p % sz)
theorem Q64 (f:Nat→Nat→Value) (m sz:Nat):(Q63 f m sz).length=m * sz:=by simp [Q63]
theorem Q65 (f:Nat→Nat→Value) {m sz i j:Nat} (hi:i < m) (hj:j < sz):(Q63 f m sz).getD (i * sz + j) undef=f i j:=by
 have h:i * sz + j < m * sz:=Q0b hi (Nat.le_refl _) hj
 simp [Q63,List.getD_eq_getElem?_getD,h,Q61 hj,Q62 hj]
theorem Q66 {f:Nat→Nat→Value} {m sz:Nat} {u:Value} (h:u ∈ Q63 f m sz):∃ i j,i < m∧j < sz∧u=f i j:=by
 simp only [Q63,List.mem_map,List.mem_range] at h
 obtain ⟨p,hp,rfl⟩:=h
 have hsz:0 < sz:=by
  rcases Nat.eq_zero_or_pos sz with e | e
  ·subst e; simp at hp
  ·exact e
 exact ⟨p / sz,p % sz,Nat.div_lt_of_lt_mul (by rwa [Nat.mul_comm] at hp),Nat.mod_lt _ hsz,rfl⟩
theorem Q67 {f:Nat→Nat→Value} {m sz b o:Nat} {w:World} (h:∀ i j,i < m→j < sz→w.cell? ⟨b,o + (i * sz + j),none⟩=some (f i j)) :
  ∀ p u,(Q63 f m sz)[p]?=some u→w.cell? ((⟨b,o,none⟩:Addr).add p)=some u:=by
 intro p u hu
 have hlt:p < m * sz:=by
  have:=(List.getElem?_eq_some_iff.1 hu).1
  rwa [Q64] at this
 have hsz:0 < sz:=by
  rcases Nat.eq_zero_or_pos sz with e | e
  ·subst e; simp at hlt
  ·exact e
 have h1:p / sz < m:=Nat.div_lt_of_lt_mul (by rwa [Nat.mul_comm] at hlt)
 have h2:p % sz < sz:=Nat.mod_lt _ hsz
 have h3:p / sz * sz + p % sz=p:=by rw [Nat.mul_comm]; exact Nat.div_add_mod p sz
 have:=h _ _ h1 h2
 rw [h3] at this
 rw [Q2a,this]
 have h4:=Q65 f h1 h2
 rw [h3,List.getD_eq_getElem?_getD,hu] at h4
 simp at h4
 rw [h4]

section
variable {P:Program}

theorem Q68 (w:World) (t ty e e':TypeId) (i:TypeInfo) (ht:P.underlying t=some (.slice e)) (hi:P.info? e=some i)
  (g sLen sCap:Nat) (cur:Array Value) (hg:w.heap[g]?=some (.cells cur e' (0,0)))
  (a:Addr) (m c:Nat) (news:List Value) (hl:news.length=m * i.size) (hnews:∀ j u,news[j]?=some u→w.cell? (a.add j)=some u) (h1:∀ u ∈ news,u.oneCell'=true)
  (hroom:sLen + m ≤ sCap) (hfit:sLen * i.size + news.length ≤ cur.size) :
  (Builtin.append_ #[t,t] ty #[.slice (some ⟨g,0,none⟩) sLen sCap,.slice (some a) m c]).run P w =
   .ok (.slice (some ⟨g,0,none⟩) (sLen + m) sCap) (w.setRow g (Q59 cur (sLen * i.size) news)):=by
 have hf:=run_firstCells_some (P:=P) w i.size m a m c news hl hnews
 have hst:=run_storeCells_at (P:=P) g (sLen * i.size) e' news 0 cur w hg (by simpa using hfit) h1
 simp only [Nat.add_zero] at hst
 simp [Builtin.append_,run_underlying ht,sizeOf,typeInfo,hi,Builtin.lenOf,hroom,hf,Addr.add_lit,hst,Q59]

theorem Q69 (w:World) (t ty e:TypeId) (i:TypeInfo) (ht:P.underlying t=some (.slice e)) (hi:P.info? e=some i) (A B:Option Addr) (n cap c:Nat) (h:n ≤ cap) :
  (Builtin.append_ #[t,t] ty #[.slice A n cap,.slice B 0 c]).run P w=.ok (.slice A n cap) w:=by
 cases A <;> cases B <;> simp [Builtin.append_,run_underlying ht,sizeOf,typeInfo,hi,Builtin.lenOf,h,Builtin.firstCells,loadCells,loadCellsFrom,storeCells]

def Q6a (w:World) (Sh S:Nat→Prop) (v:Value) (xs:List AV) (sz:Nat):Prop :=
 (v=.slice none 0 0∧xs=[])∨∃ (g c:Nat) (e:TypeId) (cur:Array Value) (Si:Nat→Nat→Nat→Prop),v=.slice (some ⟨g,0,none⟩) xs.length c∧w.heap[g]?=some (.cells cur e (0,0))∧xs.length ≤ c∧c ≤ maxLen∧cur.size=c * sz ∧
  (∀ i j,i < xs.length→j < (cellsOf (av xs i)).length→Q04 w Sh (Si i j) (cur.getD (i * sz + j) undef) (av (cellsOf (av xs i)) j))∧S g∧(∀ i j b,i < xs.length→j < sz→Si i j b→S b∧b ≠ g) ∧
  (∀ i j i' j' b,i < xs.length→j < sz→i' < xs.length→j' < sz→Si i j b→Si i' j' b→i=i'∧j=j')
theorem Q04.oslR {w:World} {Sh S:Nat→Prop} {v:Value} {xs:List AV} {sz:Nat} (h:Q04 w Sh S v (.osl xs)) (hz:∀ x ∈ xs,(cellsOf x).length=sz):Q6a w Sh S v xs sz:=by
 cases h with
 | val S v x h=>cases h
 | osl0 S=>exact .inl ⟨rfl,rfl⟩
 | osl S g c sz' e cur xs Si hg hc hc0 hm hs hz' h hSg hS hd =>
  rcases Nat.eq_zero_or_pos xs.length with h0 | h0
  ·exact .inr ⟨g,c,e,cur,Si,rfl,hg,hc,hm,by rw [hs,hc0 h0]; simp,fun i j hi=>by omega,hSg,fun i j b hi=>by omega,fun i j i' j' b hi=>by omega⟩
  ·have:sz'=sz:=by rw [← hz' 0 h0,hz _ (Q5x h0)]
   subst this
   exact .inr ⟨g,c,e,cur,Si,rfl,hg,hc,hm,hs,h,hSg,hS,hd⟩

theorem Q6b {TI:Nat→Option Q1r} (hTI:Q20 P TI) {t e:Nat} {ei:Q1r} (hsh:shp TI t=some (.slice e)) (hei:TI e=some ei) (hsz0:0 < ei.size) {w:World} {Sh S1 S2:Nat→Prop} {v:Value} {xs ys:List AV}
  (hold:Q6a w Sh S1 v xs ei.size) (hS1:∀ b,S1 b→¬ Sh b∧b < w.heap.size) (hShlt:∀ b,Sh b→b < w.heap.size) {b o cp:Nat} (f:Nat→Nat→Value) (Sy:Nat→Nat→Nat→Prop)
  (hcell:∀ i j,i < ys.length→j < ei.size→w.cell? ⟨b,o + (i * ei.size + j),none⟩=some (f i j)) (hrep:∀ i j,i < ys.length→j < ei.size→Q04 w Sh (Sy i j) (f i j) (av (cellsOf (av ys i)) j))
  (hSy:∀ i j bb,i < ys.length→j < ei.size→Sy i j bb→S2 bb) (hdy:∀ i j i' j' bb,i < ys.length→j < ei.size→i' < ys.length→j' < ei.size→Sy i j bb→Sy i' j' bb→i=i'∧j=j')
  (hS2:∀ bb,S2 bb→¬ S1 bb∧bb < w.heap.size) (helem:∀ x ∈ xs ++ ys,Q5v ei.size x=true) (hne:0 < ys.length) (hb:(xs.length + ys.length) * ei.bytes ≤ 140737488355328) (hlen63:xs.length + ys.length ≤ 9223372036854775807) (ty:TypeId) :
  ∃ v' w',(Builtin.append_ #[t,t] ty #[v,.slice (some ⟨b,o,none⟩) ys.length cp]).run P w=.ok v' w' ∧
   Q04 w' Sh (fun bb=>S1 bb∨S2 bb∨(w.heap.size ≤ bb∧bb < w'.heap.size)) v' (.osl (xs ++ ys))∧Fr S1 w w'∧v'.oneCell'=true:=by
 obtain ⟨ti,hti,hshp⟩:=Q2l hsh
 obtain ⟨d,hd,h3⟩:=Q22 hTI hti
 rw [hshp] at h3
 have:d=.slice e:=by cases d <;> simp [Q1q] at h3 <;> simp [h3]
 subst this
 obtain ⟨i,hi,his,hib,hiz⟩:=Q21 hTI hei
 obtain ⟨_,_,_,hzl⟩:=hTI e ei hei
 have hzsize:(toV ei.zero).cells.size=ei.size:=by
  obtain ⟨_,_,hsv,hzl⟩:=hTI e ei hei
  have hzok:okv ei.zero=true:=by revert hsv; cases ei.zero <;> simp [Q1w,Q1v,okv]
  have hzr:Q0i w Sh (fun _=>undef) (toV ei.zero) ei.zero:=.base _ _ (Q1y w Sh _ hsv)
  exact (Q4v hzr hzok).1.trans hzl
 have hnl:(Q63 f ys.length ei.size).length=ys.length * ei.size:=Q64 _ _ _
 have hnl':(Q63 f ys.length ei.size).length=ys.length * i.size:=by rw [his]; exact hnl
 have hnews:=Q67 hcell
 have hy:∀ k,k < ys.length→Q5v ei.size (av ys k)=true:=fun k hk=>helem _ (List.mem_append_right _ (Q5x hk))
 have hylen:∀ k,k < ys.length→(cellsOf (av ys k)).length=ei.size:=fun k hk=>Q5w (hy k hk)
 have hone:∀ u ∈ Q63 f ys.length ei.size,u.oneCell'=true:=by
  intro u hu
  obtain ⟨i',j',h1,h2,rfl⟩:=Q66 hu
  exact Q5y (hy i' h1) (by rw [hylen i' h1]; exact h2) (hrep i' j' h1 h2)
 -- what a new row bears
 have fresh:∀ (olds:List Value) (cap n:Nat) (Sx:Nat→Nat→Nat→Prop) (w':World) (old:Nat),olds.length=xs.length * ei.size→(∀ i j,i < xs.length→j < ei.size→Q04 w Sh (Sx i j) (olds.getD (i * ei.size + j) undef) (av (cellsOf (av xs i)) j)) →
   (∀ i j bb,i < xs.length→j < ei.size→Sx i j bb→S1 bb)→(∀ i j i' j' bb,i < xs.length→j < ei.size→i' < xs.length→j' < ei.size→Sx i j bb→Sx i' j' bb→i=i'∧j=j') →
   xs.length + ys.length ≤ cap→cap ≤ maxLen →
   w'=w.drew.alloc (.cells (olds.toArray ++ (Q63 f ys.length ei.size).toArray ++ Builtin.zeroCells (toV ei.zero).cells (cap - (xs.length + ys.length))) e) →
   Q04 w' Sh (fun bb=>S1 bb∨S2 bb∨(w.heap.size ≤ bb∧bb < w'.heap.size)) (.slice (some ⟨w.heap.size,0,none⟩) (xs.length + ys.length) cap) (.osl (xs ++ ys))∧Fr S1 w w':=by
  intro olds cap n Sx w' old hol hor hSx hdx hc1 hc2 hw'
  have hfr:Fr S1 w w':=by
   subst hw'
   exact ⟨rfl,rfl,rfl,by simp,fun k hk _=>heap_alloc_old w.drew _ k hk⟩
  have hnew:w'.heap[w.heap.size]?=some (.cells (olds.toArray ++ (Q63 f ys.length ei.size).toArray ++ Builtin.zeroCells (toV ei.zero).cells (cap - (xs.length + ys.length))) e (0,0)):=by
   subst hw'; exact heap_alloc_new w.drew _
  have hwsz:w'.heap.size=w.heap.size + 1:=by subst hw'; simp
  have hShold:∀ bb,Sh bb→w'.heap[bb]?=w.heap[bb]?:=fun bb h=>hfr.block bb (hShlt bb h) (fun hx=>(hS1 bb hx).1 h)
  have hold':∀ bb,bb < w.heap.size→w'.heap[bb]?=w.heap[bb]?:=fun bb h=>by subst hw'; exact heap_alloc_old w.drew _ bb h
  refine ⟨?_,hfr⟩
  have e0:∀ (l:List Value) (k:Nat),l.toArray.getD k undef=(l[k]?).getD undef:=fun l k=>by simp [Array.getD_eq_getD_getElem?]
  have hidx1:∀ i j,i < xs.length→j < ei.size→(olds.toArray ++ (Q63 f ys.length ei.size).toArray ++ Builtin.zeroCells (toV ei.zero).cells (cap - (xs.length + ys.length))).getD (i * ei.size + j) undef=olds.getD (i * ei.size + j) undef:=by
   intro i j hi hj
   have hlt:i * ei.size + j < olds.length:=by rw [hol]; exact Q0b hi (Nat.le_refl _) hj
   simp only [Array.getD_eq_getD_getElem?,List.getD_eq_getElem?_getD]
   rw [Array.getElem?_append_left (by simp; omega),Array.getElem?_append_left (by simpa using hlt)]
   simp
  have hidx2:∀ i j,i < ys.length→j < ei.size→(olds.toArray ++ (Q63 f ys.length ei.size).toArray ++ Builtin.zeroCells (toV ei.zero).cells (cap - (xs.length + ys.length))).getD ((xs.length + i) * ei.size + j) undef=f i j:=by
   intro i j hi hj
   have hlt:i * ei.size + j < (Q63 f ys.length ei.size).length:=by rw [hnl]; exact Q0b hi (Nat.le_refl _) hj
   have he:(xs.length + i) * ei.size + j=olds.length + (i * ei.size + j):=by rw [Nat.add_mul,hol,Nat.add_assoc]
   simp only [Array.getD_eq_getD_getElem?]
   rw [he,Array.getElem?_append_left (by simp; omega),Array.getElem?_append_right (by simp)]
   have:=Q65 f hi hj
   rw [List.getD_eq_getElem?_getD] at this
   simpa using this
  have:=Q04.osl (w:=w') (Sh:=Sh) (fun bb=>S1 bb∨S2 bb∨(w.heap.size ≤ bb∧bb < w'.heap.size)) w.heap.size cap ei.size e _ (xs ++ ys)
   (fun i j=>if i < xs.length then Sx i j else Sy (i - xs.length) j) hnew (by rw [List.length_append]; exact hc1) (by rw [List.length_append]; omega) hc2
   (by simp only [Array.size_append,List.size_toArray,hol,hnl,size_zeroCells,hzsize,← Nat.add_mul]; congr 1; omega)
   (fun i hi=>Q5w (helem _ (Q5x hi)))
   (fun i j hi hj=>by
    rw [List.length_append] at hi
    by_cases h:i < xs.length
    ·rw [Q5z h] at hj ⊢
     have hj':j < ei.size:=by rw [Q5w (helem _ (List.mem_append_left _ (Q5x h)))] at hj; exact hj
     rw [hidx1 i j h hj',if_pos h]
     exact (hor i j h hj').mono hShold (fun bb hbb=>hold' bb (hS1 bb (hSx i j bb h hj' hbb)).2) (fun _ h=>h) (fun _ h=>h)
    ·have hle:xs.length ≤ i:=by omega
     rw [Q60 hle] at hj ⊢
     have hi':i - xs.length < ys.length:=by omega
     have hj':j < ei.size:=by rw [hylen _ hi'] at hj; exact hj
     have:=hidx2 (i - xs.length) j hi' hj'
     rw [show xs.length + (i - xs.length)=i by omega] at this
     rw [this,if_neg h]
     exact (hrep _ j hi' hj').mono hShold (fun bb hbb=>hold' bb (hS2 bb (hSy _ j bb hi' hj' hbb)).2) (fun _ h=>h) (fun _ h=>h))
   (.inr (.inr ⟨Nat.le_refl _,by omega⟩))
   (fun i j bb hi hj hbb=>by
    rw [List.length_append] at hi
    by_cases h:i < xs.length
    ·rw [if_pos h] at hbb
     have:=hSx i j bb h hj hbb
     exact ⟨.inl this,by have:=(hS1 bb this).2; omega⟩
    ·rw [if_neg h] at hbb
     have:=hSy _ j bb (by omega) hj hbb
     exact ⟨.inr (.inl this),by have:=(hS2 bb this).2; omega⟩)
   (fun i j i' j' bb hi hj hi' hj' h1 h2=>by
    rw [List.length_append] at hi hi'
    by_cases h:i < xs.length <;> by_cases h':i' < xs.length
    ·rw [if_pos h] at h1; rw [if_pos h'] at h2; exact hdx i j i' j' bb h hj h' hj' h1 h2
    ·rw [if_pos h] at h1; rw [if_neg h'] at h2
     exact absurd (hSx i j bb h hj h1) (hS2 bb (hSy _ j' bb (by omega) hj' h2)).1
    ·rw [if_neg h] at h1; rw [if_pos h'] at h2
     exact absurd (hSx i' j' bb h' hj' h2) (hS2 bb (hSy _ j bb (by omega) hj h1)).1
    ·rw [if_neg h] at h1; rw [if_neg h'] at h2
     have:=hdy _ j _ j' bb (by omega) hj (by omega) hj' h1 h2
     omega)
  rwa [List.length_append] at this
 rcases hold with ⟨rfl,rfl⟩ | ⟨g,c,e',cur,Si,rfl,hg,hc,hm,hcs,h,hSg,hS,hd'⟩
 ·
  have hr:=run_append_nil (P:=P) w t ty e i (toV ei.zero) hd hi hiz ⟨b,o,none⟩ ys.length cp _ hnl' hnews hne (by simp at hlen63; omega) (by rw [hib]; simp at hb; omega)
  have hf:=fresh [] (grownCap w ys.length 0 e) 0 (fun _ _ _=>False) _ 0 (by simp) (fun i j h=>by simp at h) (fun i j bb h=>by simp at h) (fun i j i' j' bb h=>by simp at h)
   (by simpa using grownCap_ge w ys.length 0 e) (grownCap_le_maxLen w ys.length 0 e (by simp only [maxLen]; simp at hlen63; omega)) rfl
  refine ⟨_,_,hr,?_,?_,rfl⟩
  ·simpa using hf.1
  ·simpa using hf.2
 ·
  have hxlen:∀ k,k < xs.length→(cellsOf (av xs k)).length=ei.size:=fun k hk=>Q5w (helem _ (List.mem_append_left _ (Q5x hk)))
  by_cases hroom:xs.length + ys.length ≤ c
  ·have hfit:xs.length * i.size + (Q63 f ys.length ei.size).length ≤ cur.size:=by rw [hnl,hcs,his,← Nat.add_mul]; exact Nat.mul_le_mul_right _ hroom
   have hr:=Q68 (P:=P) w t ty e e' i hd hi g xs.length c cur hg ⟨b,o,none⟩ ys.length cp _ hnl' hnews hone hroom hfit
   rw [his] at hr hfit
   have hg':=setRow_heap w g cur (Q59 cur (xs.length * ei.size) (Q63 f ys.length ei.size)) e' _ hg
   have hother:∀ bb,bb ≠ g→(w.setRow g (Q59 cur (xs.length * ei.size) (Q63 f ys.length ei.size))).heap[bb]?=w.heap[bb]?:=fun bb h=>setRow_other w g bb _ h
   have hwsz:(w.setRow g (Q59 cur (xs.length * ei.size) (Q63 f ys.length ei.size))).heap.size=w.heap.size:=by simp [World.setRow]
   refine ⟨_,_,hr,?_,⟨rfl,rfl,rfl,by simp [World.setRow],fun bb _ hb=>hother bb (fun e=>hb (e ▸ hSg))⟩,rfl⟩
   have hShg:∀ bb,Sh bb→bb ≠ g:=fun bb hb e=>(hS1 g hSg).1 (e ▸ hb)
   have:=Q04.osl (w:=w.setRow g (Q59 cur (xs.length * ei.size) (Q63 f ys.length ei.size))) (Sh:=Sh) (fun bb=>S1 bb∨S2 bb∨(w.heap.size ≤ bb∧bb < (w.setRow g (Q59 cur (xs.length * ei.size) (Q63 f ys.length ei.size))).heap.size)) g c ei.size e' _ (xs ++ ys)
    (fun i j=>if i < xs.length then Si i j else Sy (i - xs.length) j) hg' (by rw [List.length_append]; exact hroom) (by rw [List.length_append]; omega) hm
    (by rw [Q5b _ _ _ hfit]; exact hcs)
    (fun i hi=>Q5w (helem _ (Q5x hi)))
    (fun i j hi hj=>by
     rw [List.length_append] at hi
     rw [Q5a _ _ _ _ hfit]
     by_cases hlt:i < xs.length
     ·rw [Q5z hlt] at hj ⊢
      have hj':j < ei.size:=by rw [hxlen i hlt] at hj; exact hj
      have hpos:i * ei.size + j < xs.length * ei.size:=Q0b hlt (Nat.le_refl _) hj'
      rw [if_pos hlt,if_neg (by omega)]
      have h0:=h i j hlt hj
      exact h0.mono (fun bb hbb=>hother bb (hShg bb hbb)) (fun bb hbb=>hother bb (hS i j bb hlt hj' hbb).2) (fun _ h=>h) (fun _ h=>h)
     ·have hle:xs.length ≤ i:=by omega
      rw [Q60 hle] at hj ⊢
      have hi':i - xs.length < ys.length:=by omega
      have hj':j < ei.size:=by rw [hylen _ hi'] at hj; exact hj
      have hpos:(i - xs.length) * ei.size + j < ys.length * ei.size:=Q0b hi' (Nat.le_refl _) hj'
      have heq:i * ei.size + j=xs.length * ei.size + ((i - xs.length) * ei.size + j):=by
       rw [← Nat.add_assoc,← Nat.add_mul]; congr 2; omega
      rw [if_neg hlt,if_pos (by rw [hnl]; omega),heq,Nat.add_sub_cancel_left,Q65 f hi' hj']
      exact (hrep _ j hi' hj').mono (fun bb hbb=>hother bb (hShg bb hbb)) (fun bb hbb=>hother bb (fun e=>(hS2 bb (hSy _ j bb hi' hj' hbb)).1 (e ▸ hSg))) (fun _ h=>h) (fun _ h=>h))
    (.inl hSg)
    (fun i j bb hi hj hbb=>by
     rw [List.length_append] at hi
     by_cases hlt:i < xs.length
     ·rw [if_pos hlt] at hbb
      have:=hS i j bb hlt hj hbb
      exact ⟨.inl this.1,this.2⟩
     ·rw [if_neg hlt] at hbb
      have:=hSy _ j bb (by omega) hj hbb
      exact ⟨.inr (.inl this),fun e=>(hS2 bb this).1 (e ▸ hSg)⟩)
    (fun i j i' j' bb hi hj hi' hj' h1 h2=>by
     rw [List.length_append] at hi hi'
     by_cases hl:i < xs.length <;> by_cases hl':i' < xs.length
     ·rw [if_pos hl] at h1; rw [if_pos hl'] at h2; exact hd' i j i' j' bb hl hj hl' hj' h1 h2
     ·rw [if_pos hl] at h1; rw [if_neg hl'] at h2
      exact absurd (hS i j bb hl hj h1).1 (hS2 bb (hSy _ j' bb (by omega) hj' h2)).1
     ·rw [if_neg hl] at h1; rw [if_pos hl'] at h2
      exact absurd (hS i' j' bb hl' hj' h2).1 (hS2 bb (hSy _ j bb (by omega) hj h1)).1
     ·rw [if_neg hl] at h1; rw [if_neg hl'] at h2
      have:=hdy _ j _ j' bb (by omega) hj (by omega) hj' h1 h2
      omega)
   rwa [List.length_append] at this
  ·-- a new row
   have holds:∀ j u,(cur.toList.take (xs.length * ei.size))[j]?=some u→w.cell? ((⟨g,0,none⟩:Addr).add j)=some u:=by
    intro j u hu
    rw [List.getElem?_take] at hu
    split at hu
    ·rw [Q2a,Nat.zero_add]
     simp only [World.cell?,hg]
     simpa using hu
    ·cases hu
   have hol:(cur.toList.take (xs.length * ei.size)).length=xs.length * ei.size:=by
    have:xs.length * ei.size ≤ cur.size:=by rw [hcs]; exact Nat.mul_le_mul_right _ hc
    simp; omega
   have hr:=run_append_grow (P:=P) w t ty e i (toV ei.zero) hd hi hiz ⟨g,0,none⟩ xs.length c (cur.toList.take (xs.length * ei.size)) (by rw [his]; exact hol) holds ⟨b,o,none⟩ ys.length cp _ hnl' hnews (by omega) (by omega)
    (by rw [hib]; exact growslice_fits (by omega) hb)
   have hf:=fresh (cur.toList.take (xs.length * ei.size)) (grownCap w (xs.length + ys.length) c e) 0 Si _ 0 hol
    (fun i j hi hj=>by
     have hpos:i * ei.size + j < xs.length * ei.size:=Q0b hi (Nat.le_refl _) hj
     have h0:=h i j hi (by rw [hxlen i hi]; exact hj)
     have e1:(cur.toList.take (xs.length * ei.size)).getD (i * ei.size + j) undef=cur.getD (i * ei.size + j) undef:=by
      rw [List.getD_eq_getElem?_getD,List.getElem?_take,if_pos hpos]
      simp [Array.getD_eq_getD_getElem?]
     rw [e1]; exact h0)
    (fun i j bb hi hj hbb=>(hS i j bb hi hj hbb).1)
    (fun i j i' j' bb hi hj hi' hj' h1 h2=>hd' i j i' j' bb hi hj hi' hj' h1 h2)
    (grownCap_ge w _ c e) (grownCap_le_maxLen w _ c e (by simp only [maxLen]; omega)) rfl
   exact ⟨_,_,hr,hf.1,hf.2,rfl⟩
end

end Go.Am
