/- The rules for regions. -/
import Derived.Test.YtifijafaaljamaaDoorAmQ
set_option linter.unusedSimpArgs false
set_option linter.unusedVariables false
namespace Go.Am
open Go.RowKit

def Qcd (ops:List Oper) (ah:List (List Nat)) (pl:List PL) (T:List (Nat × AV)) (O:List (Nat × Q0c)):Bool :=
 Q0y pl ah && Q0x ops ah && Q0z pl && Q10 pl && Q11 ops && (pl.all fun p=>p.wr.new.all (Qc5 T O))
def Qce (pl:List PL) (T:List (Nat × AV)) (O:List (Nat × Q0c)):Bool:=Q0z pl && Q10 pl && (pl.all fun p=>p.wr.new.all (Qc5 T O))

def Qcf (ops:List Oper) (ah:Option (List (List Nat))) (pl:List PL) (T:List (Nat × AV)) (O:List (Nat × Q0c)):Bool :=
 match ah with
 | some ah=>Qcd ops ah pl T O
 | none=>Qce pl T O

structure Reg where
 T:List (Nat × AV)
 O:List (Nat × Option Q0c)
 obs:List Prop

def Qcg (TI:Nat→Option Q1r) (P:Program) (nt:Nat) (ops:Array Oper) (ah:Option (List (List Nat))) (rs:List (Option Orc)) (T:List (Nat × AV)) (O:List (Nat × Q0c)) (kt ko:List Nat):Option Reg :=
 match Qc2 TI P nt ops.toList ops.toList rs (mkS T O) with
 | some run =>
  bif Qcf ops.toList ah run.pl T O then
   some ⟨kt.map fun k=>(k,run.st.T k),ko.map fun k=>(k,run.st.O k),run.obs⟩
  else none
 | none=>none

theorem Qch {β:Type} (d:β) (f:Nat→β):∀ (l:List Nat) (t:Nat),lk d (l.map fun k=>(k,f k)) t=d∨lk d (l.map fun k=>(k,f k)) t=f t
 | [],t=>.inl rfl
 | k :: l,t=>by
  simp only [List.map_cons,lk]
  cases h:Nat.beq t k with
  | true=>rw [Nat.eq_of_beq_eq_true h]; exact .inr rfl
  | false=>exact Qch d f l t

def Qci (l:List (Nat × Option Q0c)):List (Nat × Q0c):=l.filterMap fun p=>p.2.map fun o=>(p.1,o)
theorem Qcj (f:Nat→Option Q0c):∀ (l:List Nat) (t:Nat),lk none ((Qci (l.map fun k=>(k,f k))).map fun p=>(p.1,some p.2)) t=none∨lk none ((Qci (l.map fun k=>(k,f k))).map fun p=>(p.1,some p.2)) t=f t
 | [],t=>.inl rfl
 | k :: l,t=>by
  have ih:=Qcj f l t
  simp only [List.map_cons,Qci,List.filterMap_cons] at ih ⊢
  cases hf:f k with
  | none=>simpa using ih
  | some o =>
   simp only [Option.map_some,List.map_cons,lk]
   cases h:Nat.beq t k with
   | true=>rw [Nat.eq_of_beq_eq_true h,hf]; exact .inr rfl
   | false=>exact ih

theorem Qck {pl:List PL} {n:Nat} (hn:pl.length=n) {pre:Nat→Nat→Prop} {T:List (Nat × AV)} {O:List (Nat × Q0c)} (hpairs:∀ i j,i < j→j < n→Q0v (pl.getD i default) (pl.getD j default)=true→pre i j) (hl:Qce pl T O=true):Q1f n pl pre (mkS T O):=by
 simp only [Qce,Bool.and_eq_true] at hl
 obtain ⟨⟨hm,hnw⟩,hf⟩:=hl
 refine ⟨hpairs,fun i hi k hk=>?_,fun j hj k hk=>?_,fun j hj k hk=>?_⟩
 ·simp only [Q0z,List.all_eq_true,List.mem_range] at hm
  have:=hm i (by omega) k hk
  simpa [List.contains_iff_mem,or_assoc] using this
 ·simp only [Q10,List.all_eq_true,List.mem_range,Bool.and_eq_true,Bool.not_eq_true'] at hnw
  obtain ⟨h1,h2⟩:=hnw j (by omega) k hk
  refine ⟨List.contains_iff_mem.1 h1,fun i hi=>?_⟩
  obtain ⟨h3,h4⟩:=h2 i hi
  exact ⟨fun h=>by rw [List.contains_iff_mem.2 h] at h3; exact absurd h3 (by decide),fun h=>by rw [List.contains_iff_mem.2 h] at h4; exact absurd h4 (by decide)⟩
 ·rw [List.all_eq_true] at hf
  have hmem:pl.getD j default ∈ pl:=by
   have hjl:j < pl.length:=by omega
   rw [List.getD_eq_getElem?_getD,List.getElem?_eq_getElem hjl]; exact List.getElem_mem hjl
  have:=hf _ hmem
  rw [List.all_eq_true] at this
  exact Qc7 (this k hk)

theorem Qcl (X:Nat→Prop) (w:World):Fr X w { w with drawn:=w.drawn + 1 }:=⟨rfl,rfl,rfl,Nat.le_refl _,fun _ _ _=>rfl⟩

section
variable {P:Program} {c:Ctx} {Q:Exit→Q0d→Prop}

theorem Qcm {TI:Nat→Option Q1r} {nt:Nat} {ops:Array Oper} {ah:Option (List (List Nat))} {rs:List (Option Orc)} {T:List (Nat × AV)} {O:List (Nat × Q0c)} {kt ko:List Nat} {r:Reg} (h:Qcg TI P nt ops ah rs T O kt ko=some r) :
  ∃ run,Qc2 TI P nt ops.toList ops.toList rs (mkS T O)=some run∧Qcf ops.toList ah run.pl T O=true∧r=⟨kt.map fun k=>(k,run.st.T k),ko.map fun k=>(k,run.st.O k),run.obs⟩:=by
 unfold Qcg at h
 split at h
 ·rename_i run hrun
  cases hb:Qcf ops.toList ah run.pl T O with
  | false=>rw [hb] at h; cases h
  | true =>
   rw [hb] at h
   simp only [cond_true,Option.some.injEq] at h
   exact ⟨run,hrun,hb,h.symm⟩
 ·cases h

theorem Qcn {c:Ctx} {σ:Q0d} {a:Act} {w:World} (kt ko:List Nat) (h:SRx c σ a w):SRx c (mkS (kt.map fun k=>(k,σ.T k)) (Qci (ko.map fun k=>(k,σ.O k)))) a w :=
 h.le (fun t=>Qch AV.undef σ.T kt t) (fun k=>Qcj σ.O ko k)

theorem Wp.region {TI:Nat→Option Q1r} (hTI:Q20 P TI) (hmix:P.follows .mixedOrders=true) {id:Nat} {ops:Array Oper} {draw:Bool} {ah:Option (List (List Nat))} {rs:List (Option Orc)} {T T':List (Nat × AV)} {O:List (Nat × Q0c)} {O':List (Nat × Option Q0c)} {obs:List Prop} {kt ko:List Nat}
  (hev:Qcg TI P c.nt ops ah rs T O kt ko=some ⟨T',O',obs⟩) (hdraw:(draw=false∧ah=none)∨ah.isSome=true) (hobs:∀ p ∈ obs,p) (hQ:Q .normal (mkS T' (Qci O'))):Wp P c (.region id ops draw) Q (mkS T O):=by
 obtain ⟨run,hrun,hplan,hr⟩:=Qcm hev
 simp only [Reg.mk.injEq] at hr
 obtain ⟨rfl,rfl,rfl⟩:=hr
 obtain ⟨q1,q2,q3⟩:=Qc4 (c:=c) hTI ops.toList rs (mkS T O) 0 run (fun i hi=>by simp) hrun hobs
 have hlen:ops.toList.length=ops.size:=by simp
 rw [hlen] at q1 q2 q3
 simp only [Nat.zero_add] at q3
 have fin:∀ a w,SRx c (st run.pl (fun _=>true) (mkS T O) ops.size) a w→∃ σ',Q .normal σ'∧SRx c σ' a w:=fun a w h=>⟨_,hQ,Qcn kt ko (q2 ▸ h)⟩
 intro a w hs
 -- in the text's order
 have line:Qce run.pl T O=true→∀ (w:World),SRx c (mkS T O) a w→wpOps P ops (fun e a' w'=>∃ σ',Q e σ'∧SRx c σ' a' w') (List.range ops.size) a w:=by
  intro hl w hs
  have hp:Q1f ops.size run.pl (fun i j=>i < j) (mkS T O):=Qck q1 (fun i j h _ _=>h) hl
  have key:∀ d j a w,j + d=ops.size→SRx c (st run.pl (fun _=>true) (mkS T O) j) a w→wpOps P ops (fun e a' w'=>∃ σ',Q e σ'∧SRx c σ' a' w') (List.range' j d) a w:=by
   intro d
   induction d with
   | zero =>
    intro j a w hj h
    have:j=ops.size:=by omega
    subst this
    simp only [List.range'_zero,wpOps]
    exact fin a w h
   | succ d ih =>
    intro j a w hj h
    have hjn:j < ops.size:=by omega
    rw [List.range'_succ,wpOps_cons]
    have hcut:∀ k,k=ops.size→st run.pl (fun i=>decide (i < j)) (mkS T O) k=st run.pl (fun _=>true) (mkS T O) j:=fun k hk=>by
     subst hk
     refine Q0d.ext' (fun t=>?_) (fun t=>?_)
     ·rw [Q16,Q16]; exact Q14 _ _ (by omega)
     ·rw [Q17,Q17]; exact Q14 _ _ (by omega)
    have hfresh:=Q1k hp (m:=fun i=>decide (i < j)) (fun i j' h1 h2 h3=>by simp at h3 ⊢; omega) hjn (by simp) (fun i h=>by simpa using h)
    rw [hcut _ rfl] at hfresh
    refine q3 j hjn _ ⟨fun _ _=>rfl,fun _ _=>rfl⟩ hfresh a w h _ _ ?_
    intro a' w' h'
    refine ih (j + 1) a' w' (by omega) ?_
    have e:st run.pl (fun _=>true) (mkS T O) (j + 1)=(st run.pl (fun _=>true) (mkS T O) j).app (run.pl.getD j default).wr:=by simp [st]
    rw [e]; exact h'
  have:=key ops.size 0 a w (by omega) hs
  rwa [← List.range_eq_range'] at this
 cases draw with
 | false =>
  refine wp_region (line ?_ w hs)
  cases ah with
  | none=>exact hplan
  | some ah =>
   simp only [Qcf,Qcd,Bool.and_eq_true] at hplan
   simp only [Qce,Bool.and_eq_true]
   exact ⟨⟨hplan.1.1.1.2,hplan.1.1.2⟩,hplan.2⟩
 | true =>
  cases ah with
  | none=>rcases hdraw with ⟨h,_⟩ | h <;> cases h
  | some ah =>
   simp only [Qcf,Qcd,Bool.and_eq_true] at hplan
   obtain ⟨⟨⟨⟨⟨hpairs,hah⟩,hmn⟩,hnw⟩,hback⟩,hfr⟩:=hplan
   have hback':∀ i j,Q1o ops i j→i < j:=by
    rintro i j ⟨o,ho,e,he,hb,rfl⟩
    simp only [Q11,List.all_eq_true,List.mem_range] at hback
    have hjn:j < ops.size:=(Array.getElem?_eq_some_iff.1 ho).1
    have eo:ops.toList.getD j default=o:=by simp [List.getD_eq_getElem?_getD,ho]
    have:=hback j (by simpa using hjn) e (by rw [eo]; simpa using he)
    simp only [hb,Bool.not_true,Bool.false_or] at this
    simpa [Nat.blt_eq] using this
   have hdir:∀ j k,j < ops.size→k ∈ Q0w (ops.toList.getD j default)→Q1o ops k j:=by
    intro j k hj hk
    have ho:ops[j]?=some ops[j]:=Array.getElem?_eq_getElem hj
    have eo:ops.toList.getD j default=ops[j]:=by simp [List.getD_eq_getElem?_getD,hj]
    rw [eo] at hk
    simp only [Q0w,List.mem_map,List.mem_filter] at hk
    obtain ⟨e,⟨he,hb⟩,rfl⟩:=hk
    exact ⟨_,ho,e,by simpa using he,hb,rfl⟩
   have hstep:∀ i j,i ∈ ah.getD j []→j < ops.size→Q1o ops i j∨∃ k,Q1o ops k j∧i ∈ ah.getD k []:=by
    intro i j hi hj
    simp only [Q0x,List.all_eq_true,List.mem_range,List.any_eq_true,Bool.or_eq_true] at hah
    obtain ⟨k,hk,h⟩:=hah j (by simpa using hj) i hi
    rcases h with h | h
    ·have:=Nat.eq_of_beq_eq_true h; subst this; exact .inl (hdir j k hj hk)
    ·exact .inr ⟨k,hdir j k hj hk,List.contains_iff_mem.1 h⟩
   have hp:Q1f ops.size run.pl (fun i j=>i ∈ ah.getD j []) (mkS T O):=Qck q1 (fun i j hij hj hc=>by
    simp only [Q0y,List.all_eq_true,List.mem_range] at hpairs
    have:=hpairs j (by omega) i hij
    rw [hc] at this
    simpa [List.contains_iff_mem] using this) (by simp only [Qce,Bool.and_eq_true]; exact ⟨⟨hmn,hnw⟩,hfr⟩)
   have hcl:∀ m:Nat→Bool,(∀ i j,Q1o ops i j→j < ops.size→m j=true→m i=true)→∀ i j,i ∈ ah.getD j []→j < ops.size→m j=true→m i=true:=by
    intro m hm i j
    induction j using Nat.strongRecOn with
    | _ j ih =>
     intro hi hj hmj
     rcases hstep i j hi hj with h | ⟨k,hk,h⟩
     ·exact hm i j h hj hmj
     ·have hkj:=hback' k j hk
      exact ih k hkj h (by omega) (hm k j hk hj hmj)
   refine wp_region_any hmix ?_
   refine Q1p hp hback' hcl (fun m hm j hj hall i hi=>?_) q3 fin ops.size _ a _ (by simp) ?_ (fun i j h hj hl=>?_) ?_
   ·rcases hstep i j hi hj with h | ⟨k,hk,h⟩
    ·exact hall i h
    ·exact hcl m hm i k h (Nat.lt_trans (hback' k j hk) hj) (hall k hk)
   ·unfold Q1m
    rw [List.filter_eq_self.2]
    ·simp
    ·intro i hi
     rw [List.mem_range] at hi
     simp [Array.getD,hi]
   ·simp [Array.getD] at hl
   ·have:st run.pl (fun i=>(Array.replicate ops.size false).getD i false) (mkS T O) ops.size=mkS T O:=by
     have:∀ k,st run.pl (fun i=>(Array.replicate ops.size false).getD i false) (mkS T O) k=mkS T O:=by
      intro k
      induction k with
      | zero=>rfl
      | succ k ih =>
       have e:(Array.replicate ops.size false).getD k false=false:=by simp [Array.getD]
       simp only [st,e,Bool.false_eq_true,if_false]
       exact ih
     exact this _
    rw [this]
    obtain ⟨β,fp,Sh,hs⟩:=hs
    exact ⟨β,fp,Sh,hs.world (Qcl _ w)⟩
end

end Go.Am
