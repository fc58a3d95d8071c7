/- Own rows that are given up: from then on they are only read (frozen). -/
import Derived.Test.YtifijafaaljamaaDoorAmU
namespace Go.Am
open Go.RowKit

theorem Q0l.share {w:World} {Sh S:Nat→Prop} {v:Value} {xs:List AV} (h:Q0l w Sh S v xs):Q03 w (fun b=>Sh b∨S b) v (.sl xs):=by
 rcases h with ⟨rfl,rfl⟩ | ⟨g,c,e,cur,h⟩
 ·exact .sl0 none 0
 ·rw [h.hv]
  refine .sl1 g 0 c 1 xs (fun i j=>cur.getD (i * 1 + j) undef) (.inr h.hSg) h.hc (fun i hi=>by rw [h.h1 _ (Q5x hi)]; rfl) (fun i j hi hj=>by rw [Nat.zero_add]; exact Q0a h.hg _ (by rw [h.hs]; have:=h.hc; omega)) (fun i j hi hj=>?_)
  have e1:=h.h1 _ (Q5x hi)
  rw [e1] at hj ⊢
  have:j=0:=by simp at hj; exact hj
  subst this
  rw [Nat.mul_one,Nat.add_zero]
  exact (h.h i hi).mono (fun _ _=>rfl) (fun _ hb=>.inl hb)
theorem SRx.frzYX {c:Ctx} {σ:Q0d} {a:Act} {w:World} (h:SRx c σ a w) (k:Nat) (xs:List AV) (hO:σ.O k=some (.ary xs)) :
  SRx c ⟨fun t=>frz k (.sl xs) (σ.T t),fun q=>bif Nat.beq q k then none else (σ.O q).map (Qaz k (.sl xs))⟩ a w :=
 h.frzG k _ (by rw [hO]; rfl) (fun β fp Sh hs=>by
  have hown:Q0l w Sh (fp k) (β k) xs:=hs.ob k _ hO
  exact hown.share)
theorem Qfw {T:List (Nat × AV)} (f:AV→AV) (hf:f .undef=.undef) (t:Nat):lk .undef (T.map fun p=>(p.1,f p.2)) t=f (lk .undef T t):=by
 induction T with
 | nil=>exact hf.symm
 | cons p T ih =>
  show (bif Nat.beq t p.1 then f p.2 else lk .undef (T.map fun p=>(p.1,f p.2)) t)=f (bif Nat.beq t p.1 then p.2 else lk .undef T t)
  cases Nat.beq t p.1 with
  | true=>rfl
  | false=>exact ih
theorem Qfx {O:List (Nat × Q0c)} (k:Nat) (f:Q0c→Q0c) (q:Nat):lkO ((O.filter fun p=>!Nat.beq p.1 k).map fun p=>(p.1,f p.2)) q=(bif Nat.beq q k then none else (lkO O q).map f):=by
 induction O with
 | nil =>
  show none=(bif Nat.beq q k then none else none)
  cases Nat.beq q k <;> rfl
 | cons p O ih =>
  rw [List.filter_cons]
  have e:lkO (p :: O) q=(bif Nat.beq q p.1 then some p.2 else lkO O q):=rfl
  rw [e]
  cases hb:Nat.beq p.1 k with
  | true =>
   rw [if_neg (by simp),ih]
   have hp:=Nat.eq_of_beq_eq_true hb
   cases hq:Nat.beq q k with
   | true=>rfl
   | false =>
    have:Nat.beq q p.1=false:=by rw [hp]; exact hq
    rw [this]; rfl
  | false =>
   rw [if_pos (by simp),List.map_cons]
   have e2:∀ L:List (Nat × Q0c),lkO ((p.1,f p.2) :: L) q=(bif Nat.beq q p.1 then some (f p.2) else lkO L q):=fun L=>rfl
   rw [e2,ih]
   cases hq:Nat.beq q p.1 with
   | true =>
    have hp:=Nat.eq_of_beq_eq_true hq
    have:Nat.beq q k=false:=by rw [hp]; exact hb
    rw [this]; rfl
   | false=>rfl
theorem SRx.frzL {c:Ctx} {a:Act} {w:World} {T T':List (Nat × AV)} {O O':List (Nat × Q0c)} (k:Nat) {xs xs':List AV} (h:SRx c (mkS T O) a w) (hO:lkO O k=some (.arr xs)) (hs:Q05 xs=xs') (hT:T.map (fun p=>(p.1,frz k (.sl xs') p.2))=T')
  (hO':((O.filter fun p=>!Nat.beq p.1 k).map fun p=>(p.1,Qaz k (.sl xs') p.2))=O'):SRx c (mkS T' O') a w:=by
 subst hs hT hO'
 have:=h.frzX k xs hO
 refine this.le (fun t=>.inr ?_) (fun q=>.inr ?_)
 ·exact Qfw (frz k (.sl (Q05 xs))) rfl t
 ·exact Qfx k (Qaz k (.sl (Q05 xs))) q
theorem SRx.frzC {c:Ctx} {a:Act} {w:World} {T:List (Nat × AV)} {O:List (Nat × Q0c)} (k:Nat) {xs xs':List AV} (h:SRx c (mkS T O) a w) (hO:lkO O k=some (.arr xs)) (hs:Q05 xs=xs') :
  SRx c (mkS (T.map fun p=>(p.1,frz k (.sl xs') p.2)) ((O.filter fun p=>!Nat.beq p.1 k).map fun p=>(p.1,Qaz k (.sl xs') p.2))) a w:=h.frzL k hO hs rfl rfl
theorem SRx.frzYL {c:Ctx} {a:Act} {w:World} {T T':List (Nat × AV)} {O O':List (Nat × Q0c)} (k:Nat) {xs:List AV} (h:SRx c (mkS T O) a w) (hO:lkO O k=some (.ary xs)) (hT:T.map (fun p=>(p.1,frz k (.sl xs) p.2))=T')
  (hO':((O.filter fun p=>!Nat.beq p.1 k).map fun p=>(p.1,Qaz k (.sl xs) p.2))=O'):SRx c (mkS T' O') a w:=by
 subst hT hO'
 have:=h.frzYX k xs hO
 refine this.le (fun t=>.inr ?_) (fun q=>.inr ?_)
 ·exact Qfw (frz k (.sl xs)) rfl t
 ·exact Qfx k (Qaz k (.sl xs)) q
end Go.Am
