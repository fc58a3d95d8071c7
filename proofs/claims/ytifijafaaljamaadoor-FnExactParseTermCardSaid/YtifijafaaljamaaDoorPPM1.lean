/- Plain laws of the printed functions. -/
import Derived.Test.YtifijafaaljamaaDoorPPM0
set_option linter.unusedSimpArgs false
set_option linter.unusedVariables false
namespace Go.Am
def nod (X:List UInt8):Prop:=∀ b r,X=b :: r→Ked b=false
theorem Khd:∀ (d:List UInt8) (acc n:Nat),Lib.decFrom acc d=some n→acc ≤ n
 | [],acc,n,h=>by simp [Lib.decFrom] at h; omega
 | b :: d,acc,n,h=>by
  simp only [Lib.decFrom] at h
  cases hv:Lib.digitVal b with
  | none=>rw [hv] at h; cases h
  | some v =>
   rw [hv] at h
   have:=Khd d _ n h
   omega
theorem Khe {b:UInt8} (h:Ked b=true):Lib.digitVal b=some (b.toNat - 48)∧(wr (IntKind.u8.wrap ((b.toNat:Int) - 48))=((b.toNat - 48:Nat):Int))∧b.toNat - 48 ≤ 9:=by
 unfold Ked at h
 simp only [Bool.and_eq_true,decide_eq_true_eq] at h
 refine ⟨by unfold Lib.digitVal; rw [if_pos h],?_,by omega⟩
 obtain ⟨d,hd⟩:∃ d:Nat,(b.toNat:Int) - 48=d:=⟨b.toNat - 48,by omega⟩
 have hd9:d ≤ 9:=by omega
 have e:b.toNat - 48=d:=by omega
 rw [hd,e]
 have:d=0∨d=1∨d=2∨d=3∨d=4∨d=5∨d=6∨d=7∨d=8∨d=9:=by omega
 rcases this with rfl | rfl | rfl | rfl | rfl | rfl | rfl | rfl | rfl | rfl <;> rfl
theorem Khf {t:ByteArray} {p:Nat} (hp:p ≤ t.size) (ht:t.size ≤ 1048576):∀ (d:List UInt8) (i acc n:Nat) (X:List UInt8),i ≤ t.size→(tl t).drop i=d ++ X→(∀ b ∈ d,Ked b=true)→nod X→i + d.length ≤ p + 3→Lib.decFrom acc d=some n→n ≤ 99999 →
  K3k (t,(p:Int),(acc:Int),(i:Int))=some ((n:Int),((i + d.length:Nat):Int)):=by
 intro d
 induction d with
 | nil =>
  intro i acc n X hi hd hdg hX hl hn hn2
  simp only [Lib.decFrom,Option.some.injEq] at hn
  subst hn
  rw [K3k.eq_def]
  simp only
  rw [Kbl (x:=(p:Int) + 3) (by omega) (by omega)]
  cases X with
  | nil =>
   have:=Kbu hd
   rw [Kew] at this
   rw [Kbp this]
   rfl
  | cons b r =>
   have hb:=hX b r rfl
   rw [Kbo (Kex hd).1]
   simp only [if_true]
   rw [Kf0 hd]
   unfold Ked at hb
   by_cases h3:(i:Int) < (p:Int) + 3
   ·rw [decide_eq_true h3]
    simp only [if_true,bs]
    by_cases a:48 ≤ b.toNat
    ·rw [decide_eq_true (by omega:(b.toNat:Int) ≥ 48),if_pos rfl]
     rw [decide_eq_true a,Bool.true_and,decide_eq_false_iff_not] at hb
     rw [decide_eq_false (by omega:¬ (b.toNat:Int) ≤ 57)]
     rfl
    ·rw [decide_eq_false (by omega:¬ (b.toNat:Int) ≥ 48)]
     rfl
   ·rw [decide_eq_false h3]
    rfl
 | cons b d ih =>
  intro i acc n X hi hd hdg hX hl hn hn2
  have hb:=hdg b List.mem_cons_self
  obtain ⟨v1,v2,v3⟩:=Khe hb
  simp only [Lib.decFrom,v1] at hn
  have hge:=Khd _ _ _ hn
  rw [List.cons_append] at hd
  obtain ⟨h1,h2⟩:=Kex hd
  simp only [List.length_cons] at hl
  unfold Ked at hb
  simp only [Bool.and_eq_true,decide_eq_true_eq] at hb
  rw [K3k.eq_def]
  simp only
  rw [Kbl (x:=(p:Int) + 3) (by omega) (by omega),Kbo h1,decide_eq_true (by omega:(i:Int) < (p:Int) + 3),Kf0 hd]
  simp only [if_true,bs]
  rw [decide_eq_true (by omega:(b.toNat:Int) ≥ 48),decide_eq_true (by omega:(b.toNat:Int) ≤ 57)]
  simp only [if_true,bs]
  rw [v2,Kbl (x:=10 * (acc:Int)) (by omega) (by omega),Kbl (by omega) (by omega),Kbn (by omega),show 10 * (acc:Int) + ((b.toNat - 48:Nat):Int)=((acc * 10 + (b.toNat - 48):Nat):Int) by omega]
  rw [ih (i + 1) _ n X (by omega) h2 (fun c hc=>hdg c (List.mem_cons_of_mem _ hc)) hX (by omega) hn hn2,List.length_cons]
  congr 3; omega
theorem Khg {t:ByteArray} {p n:Nat} {X:List UInt8} (hp:p ≤ t.size) (ht:t.size ≤ 1048576) (hn:n ≤ 999) (hd:(tl t).drop p=Lib.decDigits n ++ X) (hX:nod X) :
  K3n (t,(p:Int))=some ((n:Int),((p + (Lib.decDigits n).length:Nat):Int)):=by
 have hl:=(Keh n).2.2 (by omega)
 have:=Khf hp ht _ p 0 n X hp hd (Kef n) hX (by omega) (Kek n) (by omega)
 rw [show ((0:Nat):Int)=0 from rfl] at this
 unfold K3n
 simp only
 rw [this,bs]
 have hne:(Lib.decDigits n).length ≠ 0:=fun e=>Keg n (List.length_eq_zero_iff.1 e)
 rw [show (((p + (Lib.decDigits n).length:Nat):Int) == (p:Int))=false by rw [beq_eq_false_iff_ne]; omega]
 rfl
theorem Khh:((List.range' 2 11).all fun a=>((List.range' 2 11).all fun b=>a == b || !(wdL (a:Int)).isPrefixOf (wdL (b:Int))))=true:=by kernel_rfl
theorem Khi {a b:Nat} (ha:2 ≤ a∧a ≤ 12) (hb:2 ≤ b∧b ≤ 12) (h:a ≠ b):¬ wdL (a:Int) <+: wdL (b:Int):=by
 have q:=Khh
 rw [List.all_eq_true] at q
 have q:=q a (List.mem_range'_1.2 (by omega))
 rw [List.all_eq_true] at q
 have q:=q b (List.mem_range'_1.2 (by omega))
 rw [Bool.or_eq_true,beq_iff_eq,Bool.not_eq_true'] at q
 intro hp
 rw [← List.isPrefixOf_iff_prefix] at hp
 rcases q with q | q
 ·exact h q
 ·rw [hp] at q; cases q
theorem Khj {a b:Nat} (ha:2 ≤ a∧a ≤ 12) (hb:2 ≤ b∧b ≤ 12) (h:a ≠ b) (Z:List UInt8):¬ wdL (a:Int) <+: wdL (b:Int) ++ Z:=by
 intro hp
 rcases List.prefix_or_prefix_of_prefix hp (List.prefix_append _ Z) with h1 | h1
 ·exact Khi ha hb h h1
 ·exact Khi hb ha (Ne.symm h) h1
theorem Khk:((List.range' 2 11).all fun a=>match wdL (a:Int) with | b :: _=>decide (97 ≤ b.toNat) && decide (b.toNat ≤ 115) | []=>false)=true:=by kernel_rfl
theorem Khl {a:Nat} (ha:2 ≤ a∧a ≤ 12):∃ b r,wdL (a:Int)=b :: r∧97 ≤ b.toNat∧b.toNat ≤ 115:=by
 have q:=Khk
 rw [List.all_eq_true] at q
 have q:=q a (List.mem_range'_1.2 (by omega))
 split at q
 ·rename_i b r e
  rw [Bool.and_eq_true,decide_eq_true_eq,decide_eq_true_eq] at q
  exact ⟨b,r,e,q.1,q.2⟩
 ·cases q
theorem wsz (op:Int):(Kd0 op).size=(wdL op).length:=Keb _
theorem Khm {t:ByteArray} {p a:Nat} (ht:t.size ≤ 1048576) (hp:p ≤ t.size) (ha:2 ≤ a∧a ≤ 12) (h:¬ wdL (a:Int) <+: (tl t).drop p) :
  K58 (t,(p:Int),(a:Int))=K58 (t,(p:Int),((a + 1:Nat):Int)):=by
 have hw:=Kh2 (a:Int)
 rw [K58.eq_def]
 simp only
 rw [decide_eq_true (by omega:(a:Int) ≤ 12),if_pos rfl,Kh7 (by omega) (by omega),bs,wsz,Kbl (x:=(p:Int) + ((wdL (a:Int)).length:Int)) (by omega) (by omega)]
 have hv:((if decide ((p:Int) + ((wdL (a:Int)).length:Int) ≥ (t.size:Int))=true then some true else Qev t (some (p:Int)) (some ((p:Int) + ((wdL (a:Int)).length:Int))) >>= fun c=>some (!(c.toList == (Kd0 (a:Int)).toList))):Option Bool)=some true:=by
  by_cases hlt:p + (wdL (a:Int)).length < t.size
  ·rw [decide_eq_false (by omega),if_neg (by decide)]
   have hs:(tl t).drop p=((tl t).drop p).take (wdL (a:Int)).length ++ ((tl t).drop p).drop (wdL (a:Int)).length:=(List.take_append_drop _ _).symm
   have hc:=Kf2 hp hs
   have hl:(((tl t).drop p).take (wdL (a:Int)).length).length=(wdL (a:Int)).length:=by
    rw [List.length_take,List.length_drop,Kew]; exact Nat.min_eq_left (Nat.le_sub_of_add_le (by have q:=Nat.le_of_lt hlt; rwa [Nat.add_comm] at q))
   rw [hl] at hc
   rw [show (p:Int) + ((wdL (a:Int)).length:Int)=((p + (wdL (a:Int)).length:Nat):Int) by omega,hc,bs,Ke7,Kh9,Ke7]
   congr 1
   rw [Bool.not_eq_true',beq_eq_false_iff_ne]
   intro e
   exact h ⟨_,by rw [← e]; exact hs.symm⟩
  ·rw [decide_eq_true (by omega),if_pos rfl]
 rw [hv,bs]
 simp only [if_true,bs]
 rw [Kbn (by omega)]
theorem Khn {t:ByteArray} {p a:Nat} {N:Int} {ty:List Int} {X:List UInt8} (ht:t.size ≤ 1048576) (hp:p ≤ t.size) (ha:2 ≤ a∧a ≤ 12) (hN:Kcy (a:Int)=true→-1 ≤ N∧N ≤ 15) (hN0:Kcy (a:Int)=false→N=0)
  (hty:Kcz (a:Int)=true→wtB ty=true) (hty0:Kcz (a:Int)=false→ty=[]) (hd:(tl t).drop p=hdT (a:Int) N ty ++ 40 :: X) :
  K58 (t,(p:Int),(a:Int))=some (.inr (⟨(a:Int),N,ty,[]⟩,((p + (hdT (a:Int) N ty).length + 1:Nat):Int))):=by
 have hw:=Kh2 (a:Int)
 have hdl:(tl t).drop (p + (hdT (a:Int) N ty).length)=40 :: X:=Kez hd
 have hend:=(Kex hdl).1
 have hlen:(hdT (a:Int) N ty).length=(wdL (a:Int)).length + ((if Kcy (a:Int)=true then 58 :: gt N else []).length + (if Kcz (a:Int)=true then 58 :: tyT ty else []).length):=by
  unfold hdT; rw [List.length_append,List.length_append]
 rw [K58.eq_def]
 simp only
 rw [decide_eq_true (by omega:(a:Int) ≤ 12),if_pos rfl,Kh7 (by omega) (by omega),bs,wsz,Kbl (x:=(p:Int) + ((wdL (a:Int)).length:Int)) (by omega) (by omega)]
 have e1:(p:Int) + ((wdL (a:Int)).length:Int)=((p + (wdL (a:Int)).length:Nat):Int):=by omega
 have hd1:(tl t).drop p=wdL (a:Int) ++ ((if Kcy (a:Int)=true then 58 :: gt N else []) ++ ((if Kcz (a:Int)=true then 58 :: tyT ty else []) ++ 40 :: X)):=by
  rw [hd]; unfold hdT; simp only [List.append_assoc]
 have hp1:=Kfo hp hd1
 have hd2:=Kez hd1
 rw [e1,decide_eq_false (by omega),if_neg (by decide),Kf2 hp hd1,bs,Kh9,Ke7,beq_self_eq_true,bs]
 simp only [Bool.not_true,Bool.false_eq_true,if_false]
 have nb58:((58:Int) != 58)=false:=rfl
 have eb40:((40:Int) == 40)=true:=rfl
 have last:∀ y:Nat,y=p + (hdT (a:Int) N ty).length→decide ((y:Int) < (t.size:Int))=true∧Qft t (y:Int)=some 40∧wr ((y:Int) + 1)=((y + 1:Nat):Int):=by
  rintro y rfl
  exact ⟨Kbo hend,Kf0 hdl,Kbn (by omega)⟩
 have codes:∀ x:Nat,Kcz (a:Int)=true→x ≤ t.size→(tl t).drop x=58 :: (tyT ty ++ 40 :: X)→Qft t (x:Int)=some 58∧wr ((x:Int) + 1)=((x + 1:Nat):Int)∧K51 (t,((x + 1:Nat):Int))=some (ty,((x + 1 + (tyT ty).length:Nat):Int)):=by
  intro x e hx hdx
  obtain ⟨q1,q2⟩:=Kex hdx
  exact ⟨Kf0 hdx,Kbn (by omega),Kgq ht (by omega) q2 (hty e)⟩
 have hread:∀ (x:Nat) (s:UInt8),-1 ≤ N→N ≤ 15→x ≤ t.size→Ked s=false→s ≠ 63→∀ Z,(tl t).drop x=gt N ++ s :: Z→K4d (t,(x:Int),(s.toNat:Int))=some (N,((x + (gt N).length + 1:Nat):Int)):=by
  intro x s a1 a2 hx hs h63 Z hZ
  rcases Kfw (t:=t) (p:=x) s hs h63 hx ht with ⟨g,post,hg,hr⟩ | ⟨hn,_⟩
  ·obtain ⟨e1,_⟩:=Kfv hs h63 hg ⟨a1,a2,hZ⟩
   subst e1; exact hr
  ·exact absurd ⟨a1,a2,hZ⟩ (hn N Z)
 have lt0:∀ y:Nat,decide (((y:Nat):Int) < 0)=false:=fun y=>decide_eq_false (by omega)
 simp only [Kd3,Kd4,bs]
 cases e:Kcy (a:Int) with
 | true =>
  obtain ⟨a1,a2⟩:=hN e
  have dN:decide (N < -1)=false:=decide_eq_false (by omega)
  simp only [e,if_true,List.cons_append,List.length_cons] at hd2 hlen
  obtain ⟨q1,q2⟩:=Kex hd2
  have f1:Qft t ((p + (wdL (a:Int)).length:Nat):Int)=some 58:=Kf0 hd2
  have f2:wr (((p + (wdL (a:Int)).length:Nat):Int) + 1)=((p + (wdL (a:Int)).length + 1:Nat):Int):=Kbn (by omega)
  cases e2:Kcz (a:Int) with
  | true =>
   simp only [e2,if_true,List.cons_append,List.length_cons] at q2 hlen
   have f3:=hread (p + (wdL (a:Int)).length + 1) 58 a1 a2 (by omega) (by decide) (by decide) _ q2
   rw [show (((58:UInt8).toNat:Int))=58 from rfl] at f3
   have hx:=Kfo (by omega:p + (wdL (a:Int)).length + 1 ≤ t.size) q2
   have hdx:=Kez q2
   have f5:wr (((p + (wdL (a:Int)).length + 1 + (gt N).length + 1:Nat):Int) - 1)=((p + (wdL (a:Int)).length + 1 + (gt N).length:Nat):Int):=by rw [Kbl (by omega) (by omega)]; omega
   obtain ⟨f6,f7,f8⟩:=codes _ e2 hx hdx
   obtain ⟨f9,f10,f11⟩:=last (p + (wdL (a:Int)).length + 1 + (gt N).length + 1 + (tyT ty).length) (by omega)
   have fe:p + (hdT (a:Int) N ty).length=p + (wdL (a:Int)).length + 1 + (gt N).length + 1 + (tyT ty).length:=by omega
   rw [fe]
   simp only [if_true,bs,f1,nb58,Bool.false_eq_true,if_false,f2,f3,dN,f5,f6,f7,f8,lt0,f9,f10,eb40,f11]
  | false =>
   simp only [e2,Bool.false_eq_true,if_false,List.nil_append,List.length_nil,Nat.add_zero] at q2 hlen
   have f3:=hread (p + (wdL (a:Int)).length + 1) 40 a1 a2 (by omega) (by decide) (by decide) _ q2
   rw [show (((40:UInt8).toNat:Int))=40 from rfl] at f3
   have hx:=Kfo (by omega:p + (wdL (a:Int)).length + 1 ≤ t.size) q2
   have f5:wr (((p + (wdL (a:Int)).length + 1 + (gt N).length + 1:Nat):Int) - 1)=((p + (wdL (a:Int)).length + 1 + (gt N).length:Nat):Int):=by rw [Kbl (by omega) (by omega)]; omega
   obtain ⟨f9,f10,f11⟩:=last (p + (wdL (a:Int)).length + 1 + (gt N).length) (by omega)
   have fe:p + (hdT (a:Int) N ty).length=p + (wdL (a:Int)).length + 1 + (gt N).length:=by omega
   rw [fe]
   have ft:=hty0 e2
   simp only [if_true,bs,f1,nb58,Bool.false_eq_true,if_false,f2,f3,dN,f5,f9,f10,eb40,f11,ft]
 | false =>
  simp only [e,Bool.false_eq_true,if_false,List.nil_append,List.length_nil,Nat.zero_add] at hd2 hlen
  have fN:=hN0 e
  cases e2:Kcz (a:Int) with
  | true =>
   simp only [e2,if_true,List.cons_append,List.length_cons] at hd2 hlen
   obtain ⟨f6,f7,f8⟩:=codes _ e2 hp1 hd2
   obtain ⟨f9,f10,f11⟩:=last (p + (wdL (a:Int)).length + 1 + (tyT ty).length) (by omega)
   have fe:p + (hdT (a:Int) N ty).length=p + (wdL (a:Int)).length + 1 + (tyT ty).length:=by omega
   rw [fe]
   simp only [if_true,bs,nb58,Bool.false_eq_true,if_false,f6,f7,f8,lt0,f9,f10,eb40,f11,fN]
  | false =>
   simp only [e2,Bool.false_eq_true,if_false,List.nil_append,List.length_nil,Nat.add_zero] at hd2 hlen
   obtain ⟨f9,f10,f11⟩:=last (p + (wdL (a:Int)).length) (by omega)
   have fe:p + (hdT (a:Int) N ty).length=p + (wdL (a:Int)).length:=by omega
   rw [fe]
   have ft:=hty0 e2
   simp only [if_true,bs,Bool.false_eq_true,if_false,f9,f10,eb40,f11,fN,ft]
theorem Kho {t:ByteArray} {p:Nat} {op N:Int} {ty:List Int} {X:List UInt8} (ht:t.size ≤ 1048576) (hp:p ≤ t.size) (ha:2 ≤ op∧op ≤ 12) (hN:Kcy op=true→-1 ≤ N∧N ≤ 15) (hN0:Kcy op=false→N=0)
  (hty:Kcz op=true→wtB ty=true) (hty0:Kcz op=false→ty=[]) (hd:(tl t).drop p=hdT op N ty ++ 40 :: X) :
  K5b (t,(p:Int))=some (⟨op,N,ty,[]⟩,((p + (hdT op N ty).length + 1:Nat):Int)):=by
 obtain ⟨b,rfl⟩:∃ b:Nat,op=b:=⟨op.toNat,by omega⟩
 have hb:2 ≤ b∧b ≤ 12:=by omega
 have go:∀ (k a:Nat),a + k=b→2 ≤ a→K58 (t,(p:Int),(a:Int))=K58 (t,(p:Int),(b:Int)):=by
  intro k
  induction k with
  | zero=>intro a h1 h2; rw [show a=b by omega]
  | succ k ih =>
   intro a h1 h2
   rw [Khm ht hp (by omega) (by rw [hd]; unfold hdT; rw [List.append_assoc]; exact Khj (by omega) hb (by omega) _)]
   exact ih (a + 1) (by omega) (by omega)
 unfold K5b
 simp only
 have h2:=go (b - 2) 2 (by omega) (by omega)
 rw [show ((2:Nat):Int)=2 from rfl] at h2
 rw [h2,Khn ht hp hb hN hN0 hty hty0 hd,bs]
theorem Khp (ks:List K06) (X:List UInt8):nod (txQ false ks ++ 41 :: X):=by
 intro b r h
 cases ks with
 | nil=>rw [txQ,List.nil_append] at h; rw [← (List.cons.inj h).1]; rfl
 | cons k ks=>rw [txQ] at h; rw [← (List.cons.inj h).1]; rfl
theorem Khq {N:Int} (h:0 ≤ N):gt N=Lib.decDigits N.toNat:=by unfold gt; rw [if_neg (by omega)]
mutual
theorem Khr:∀ (x:K06) (t:ByteArray) (p left:Nat) (X:List UInt8),okW x=true→t.size ≤ 1048576→p ≤ t.size→(tl t).drop p=txT x ++ X→nod X→tsz x ≤ left→left ≤ 1000 →
  K5i (t,(p:Int),(left:Int))=some (x,((p + (txT x).length:Nat):Int),((left - tsz x:Nat):Int))
 | ⟨op,N,ty,ks⟩,t,p,left,X,h,ht,hp,hd,hX,hl,hl2=>by
  obtain ⟨h1,h2,h3,h4,h5,h6,h7,h8,h9⟩:=Kh0 h
  have hmany:=Kh1 h1
  have hop:0 ≤ op∧op ≤ 12:=by simp only [inB,Bool.and_eq_true,decide_eq_true_eq] at h1; omega
  rw [tsz] at hl
  rw [tsz,K5i.eq_def]
  simp only
  have dl:decide ((left:Int) ≤ 0)=false:=decide_eq_false (by omega)
  by_cases e0:op=0
  ·subst e0
   obtain ⟨a,b⟩:=h3 rfl
   have hks:ks=[]:=List.length_eq_zero_iff.1 (by have:=hmany.2.2 (.inl rfl); omega)
   have hty:ty=[]:=h8 (by decide)
   subst hks hty
   rw [txT,if_pos rfl] at hd ⊢
   rw [List.cons_append,Khq a] at hd
   obtain ⟨q1,q2⟩:=Kex hd
   have hn:=Khg (t:=t) (p:=p + 1) (n:=N.toNat) (by omega) ht (by omega) q2 hX
   rw [show ((N.toNat:Nat):Int)=N by omega] at hn
   have dN:decide (N < 0)=false:=decide_eq_false (by omega)
   have dp:decide ((p:Int) ≥ (t.size:Int))=false:=decide_eq_false (by omega)
   have f1:Qft t (p:Int)=some 120:=Kf0 hd
   have f2:wr ((p:Int) + 1)=((p + 1:Nat):Int):=Kbn (by omega)
   have f3:wr ((left:Int) - 1)=((left - (1 + Kcp []):Nat):Int):=by rw [Kcp,Kbl (by omega) (by omega)]; omega
   simp only [dp,dl,Bool.false_eq_true,if_false,bs,f1,beq_self_eq_true,if_true,f2,hn,dN,f3,Khq a,List.length_cons]
   congr 4; omega
  ·by_cases e1:op=1
   ·subst e1
    obtain ⟨a,b⟩:=h4 rfl
    have hks:ks=[]:=List.length_eq_zero_iff.1 (by have:=hmany.2.2 (.inr rfl); omega)
    have hty:ty=[]:=h8 (by decide)
    subst hks hty
    have htx:txT ⟨1,N,[],[]⟩=gt N:=by rw [txT,if_neg (by decide),if_pos rfl]
    rw [htx] at hd ⊢
    have hN:∃ n:Nat,n ≤ 2∧N=n:=⟨N.toNat,by omega,by omega⟩
    obtain ⟨n,hn,rfl⟩:=hN
    have hg:gt (n:Int)=[UInt8.ofNat (48 + n)]:=by rw [Ker,Kec,if_pos (by omega)]
    rw [hg] at hd ⊢
    rw [List.cons_append,List.nil_append] at hd
    obtain ⟨q1,q2⟩:=Kex hd
    have dp:decide ((p:Int) ≥ (t.size:Int))=false:=decide_eq_false (by omega)
    have f1:=Kf0 hd
    rw [Kee n (by omega)] at f1
    have f2:wr ((p:Int) + 1)=((p + 1:Nat):Int):=Kbn (by omega)
    have f3:wr ((left:Int) - 1)=((left - (1 + Kcp []):Nat):Int):=by rw [Kcp,Kbl (by omega) (by omega)]; omega
    have f4:(((48 + n:Nat):Int) == 120)=false:=by rw [beq_eq_false_iff_ne]; omega
    have f5:decide (((48 + n:Nat):Int) ≥ 48)=true:=decide_eq_true (by omega)
    have f6:decide (((48 + n:Nat):Int) ≤ 57)=true:=decide_eq_true (by omega)
    have f7:wr (IntKind.u8.wrap (((48 + n:Nat):Int) - 48))=(n:Int):=by
     have:n=0∨n=1∨n=2:=by omega
     rcases this with rfl | rfl | rfl <;> rfl
    simp only [dp,dl,Bool.false_eq_true,if_false,bs,f1,if_true,f2,f3,f4,f5,f6,f7,List.length_cons,List.length_nil,Nat.zero_add]
   ·rw [txT,if_neg e0,if_neg e1,List.append_assoc,List.append_assoc] at hd
    rw [txT,if_neg e0,if_neg e1]
    have hm1:=hmany.2.1 (by omega)
    have hq:∃ k ks',ks=k :: ks':=by
     cases ks with
     | nil=>simp at h2; omega
     | cons k ks'=>exact ⟨k,ks',rfl⟩
    have hq40:txQ true ks ++ ([41] ++ X)=40 :: ((txQ false ks ++ 41 :: X).drop 1):=by
     obtain ⟨k,ks',rfl⟩:=hq
     rw [txQ,txQ]; simp
    have hqlen:(txQ true ks).length=(txQ false ks).length:=by
     obtain ⟨k,ks',rfl⟩:=hq
     rw [txQ,txQ]; simp
    have hqpos:1 ≤ (txQ false ks).length:=by
     obtain ⟨k,ks',rfl⟩:=hq
     rw [txQ]; simp
    rw [hq40] at hd
    have hhead:=Kho ht hp ⟨by omega,hop.2⟩ (h5 e0 e1) (h6 e0 e1) h7 h8 hd
    have hdl:=Kez hd
    obtain ⟨q1,q2⟩:=Kex hdl
    obtain ⟨b,r,hw,hb1,hb2⟩:=Khl (a:=op.toNat) (by omega)
    rw [show ((op.toNat:Nat):Int)=op by omega] at hw
    have hfirst:(tl t).drop p=b :: (r ++ ((if Kcy op=true then 58 :: gt N else []) ++ (if Kcz op=true then 58 :: tyT ty else [])) ++ 40 :: ((txQ false ks ++ 41 :: X).drop 1)):=by
     rw [hd]; unfold hdT; rw [hw]; simp
    obtain ⟨z1,_⟩:=Kex hfirst
    have dp:decide ((p:Int) ≥ (t.size:Int))=false:=decide_eq_false (by omega)
    have f1:=Kf0 hfirst
    have f4:((b.toNat:Int) == 120)=false:=by rw [beq_eq_false_iff_ne]; omega
    have f5:decide ((b.toNat:Int) ≥ 48)=true:=decide_eq_true (by omega)
    have f6:decide ((b.toNat:Int) ≤ 57)=false:=decide_eq_false (by omega)
    have f3:wr ((left:Int) - 1)=((left - 1:Nat):Int):=by rw [Kbl (by omega) (by omega)]; omega
    have hl0:=Khs ks ⟨op,N,ty,[]⟩ t [] (p + (hdT op N ty).length + 1) (left - 1) X h9 ht (by omega) q2 (by simp only [List.length_nil,Nat.zero_add]; exact h2.symm) (by simp; omega) (by omega) (by omega)
    rw [show (([]:List K06).length:Int)=0 from rfl,List.nil_append] at hl0
    simp only [dp,dl,Bool.false_eq_true,if_false,bs,f1,f4,f5,f6,if_true,hhead,f3,hl0]
    congr 3
    ·rw [List.length_append,List.length_append,hqlen]
     simp only [List.length_cons,List.length_nil]; omega
    ·omega
theorem Khs:∀ (ks:List K06) (hd:K06) (t:ByteArray) (acc:List K06) (p left:Nat) (X:List UInt8),Kgv ks=true→t.size ≤ 1048576→p ≤ t.size→(tl t).drop p=(txQ false ks ++ 41 :: X).drop 1 →
  Kcx hd.fOp=((acc.length + ks.length:Nat):Int)→acc.length + ks.length ≤ 1000→Kcp ks ≤ left→left ≤ 1000 →
  K5j (t,hd,(left:Int),acc,(p:Int),(acc.length:Int))=some (.inl (((left - Kcp ks:Nat):Int),acc ++ ks,((p + (txQ false ks).length:Nat):Int)))
 | [],hd,t,acc,p,left,X,h,ht,hp,hdr,hm,hm2,hl,hl2=>by
  rw [K5j.eq_def]
  simp only
  rw [Kd2,hm]
  have d1:decide ((p:Int) ≥ 0)=true:=decide_eq_true (by omega)
  have d2:decide ((acc.length:Int) < ((acc.length + ([]:List K06).length:Nat):Int))=false:=decide_eq_false (by simp)
  have d3:decide ((acc.length:Int) < (acc.length:Int))=false:=decide_eq_false (by omega)
  simp only [d1,if_true,bs,d2,d3,Bool.false_eq_true,if_false,List.append_nil,txQ,Kcp,List.length_nil,Nat.add_zero,Nat.sub_zero]
 | k :: ks,hd,t,acc,p,left,X,h,ht,hp,hdr,hm,hm2,hl,hl2=>by
  rw [Kgv,Bool.and_eq_true] at h
  rw [Kcp] at hl
  rw [txQ,List.cons_append,List.drop_succ_cons,List.drop_zero,List.append_assoc] at hdr
  simp only [List.length_cons] at hm hm2
  have hk:=Khr k t p left _ h.1 ht hp hdr (Khp ks X) (by omega) hl2
  have hp2:=Kfo hp hdr
  have hdr2:=Kez hdr
  rw [K5j.eq_def]
  simp only
  rw [Kd2,hm]
  have d1:decide ((p:Int) ≥ 0)=true:=decide_eq_true (by omega)
  have d2:decide ((acc.length:Int) < ((acc.length + (ks.length + 1):Nat):Int))=true:=decide_eq_true (by omega)
  have d3:decide (((p + (txT k).length:Nat):Int) < 0)=false:=decide_eq_false (by omega)
  have f1:wr (((acc.length + (ks.length + 1):Nat):Int) - 1)=((acc.length + ks.length:Nat):Int):=by rw [Kbl (by omega) (by omega)]; omega
  have hf:Qey (acc.length + [k].length) 64=some ():=Kdr (by simp; omega)
  have hstop:∃ s:UInt8,((if ((acc.length:Int) == ((acc.length + ks.length:Nat):Int))=true then some 41 else some 44:Option Int))=some (s.toNat:Int)∧(tl t).drop (p + (txT k).length)=s :: ((txQ false ks ++ 41 :: X).drop 1):=by
   cases ks with
   | nil=>exact ⟨41,by simp,by rw [hdr2,txQ]; rfl⟩
   | cons k2 ks2 =>
    refine ⟨44,?_,by rw [hdr2,txQ]; simp⟩
    rw [show ((acc.length:Int) == ((acc.length + (k2 :: ks2).length:Nat):Int))=false by rw [beq_eq_false_iff_ne]; simp; omega]
    rfl
  obtain ⟨s,hs1,hs2⟩:=hstop
  obtain ⟨q1,q2⟩:=Kex hs2
  have d4:decide (((p + (txT k).length:Nat):Int) ≥ (t.size:Int))=false:=decide_eq_false (by omega)
  have f2:=Kf0 hs2
  have f3:wr (((p + (txT k).length:Nat):Int) + 1)=((p + (txT k).length + 1:Nat):Int):=Kbn (by omega)
  have f4:wr ((acc.length:Int) + 1)=((acc ++ [k]).length:Int):=by rw [Kbn (by omega)]; simp
  simp only [d1,if_true,bs,d2,hk,f1,hs1,d3,d4,f2,bne_self_eq_false,Bool.false_eq_true,if_false,hf,f3,f4]
  rw [Khs ks hd t (acc ++ [k]) (p + (txT k).length + 1) (left - tsz k) X h.2 ht (by omega) q2 (by rw [hm]; congr 1; simp; omega) (by simp; omega) (by omega) (by omega)]
  have e1:left - tsz k - Kcp ks=left - Kcp (k :: ks):=by rw [Kcp]; omega
  have e2:acc ++ [k] ++ ks=acc ++ k :: ks:=by simp
  have e3:p + (txT k).length + 1 + (txQ false ks).length=p + (txQ false (k :: ks)).length:=by rw [txQ]; simp; omega
  rw [e1,e2,e3]
end
theorem Kht {t:ByteArray} {p n:Nat} {f:Bool} {l:Int} {X:List UInt8} (hp:p ≤ t.size) (ht:t.size ≤ 1048576) (hn:n ≤ 999) (hd:(tl t).drop p=Lib.decDigits n ++ X) (hX:nod X) :
  K83 ⟨t,(p:Int),f,l⟩=some ((n:Int),⟨t,((p + (Lib.decDigits n).length:Nat):Int),f,l⟩):=by
 have hg:dgs 3 ((tl t).drop p)=Lib.decDigits n:=by rw [hd]; exact Kfg _ _ _ (Kef n) ((Keh n).2.2 (by omega)) hX
 rcases Kfj (f:=f) (l:=l) hp ht with ⟨m,_,h1,h2⟩ | ⟨h1,_⟩
 ·rw [hg] at h1
  rw [h2,Kem h1]
 ·exact absurd hg (h1 n)
theorem Khu {t:ByteArray} {p:Nat} {l N:Int} {s:UInt8} {X:List UInt8} (hp:p ≤ t.size) (ht:t.size ≤ 1048576) (h1:-1 ≤ N) (h2:N ≤ 15) (hs:Ked s=false) (hd:(tl t).drop p=gt N ++ s :: X) :
  K8f ⟨t,(p:Int),false,l⟩=some (N,⟨t,((p + (gt N).length:Nat):Int),false,l⟩):=by
 rcases Kfp (l:=l) hp ht with ⟨g,R',_,_,_,hr,hu⟩ | ⟨_,_,_,_,hn⟩
 ·rw [hr,hu s X N h1 h2 hs hd]
 ·exact absurd hd (hn s X N h1 h2 hs)
theorem Khv {op:Int} (h:inB op 0 12=true):K89 op=some (⟨Kd0 op,Kcx op,Kcy op,Kcz op⟩,true):=by
 rw [Kd6]; unfold Kd5; rw [if_pos h]
theorem Khw {a:Nat} (h:a ≤ 12):inB (a:Int) 0 12=true:=by simp only [inB,Bool.and_eq_true,decide_eq_true_eq]; omega
theorem Khx {t:ByteArray} {p a:Nat} {r0:K07} {L:Int} (ht:t.size ≤ 1048576) (hp:p ≤ t.size) (ha:a ≤ 12) (h:¬ wdL (a:Int) <+: (tl t).drop p) :
  K8v (r0,t,(p:Int),false,L,(a:Int))=K8v (r0,t,(p:Int),false,L,((a + 1:Nat):Int)):=by
 rw [K8v.eq_def]
 simp only
 have tk:=Kf9 (l:=L) h hp ht
 rw [← Kh9] at tk
 have f1:wr ((a:Int) + 1)=((a + 1:Nat):Int):=Kbn (by omega)
 have d1:decide ((a:Int) ≤ 12)=true:=decide_eq_true (by omega)
 simp only [d1,if_true,Khv (Khw ha),bs,tk,Bool.false_eq_true,if_false,f1]
theorem Khy {t:ByteArray} {p:Int} {r0:K07} {L:Int} {f:Bool}:K8v (r0,t,p,f,L,13)=some (.inl (t,p,f,L)):=by
 rw [K8v.eq_def]; rfl
theorem Khz {t:ByteArray} {p:Nat} {r0:K07} {L:Int} (ht:t.size ≤ 1048576) (hp:p ≤ t.size):∀ (k a:Nat),a + k ≤ 13→(∀ b,a ≤ b→b < a + k→¬ wdL (b:Int) <+: (tl t).drop p) →
  K8v (r0,t,(p:Int),false,L,(a:Int))=K8v (r0,t,(p:Int),false,L,((a + k:Nat):Int)):=by
 intro k
 induction k with
 | zero=>intro a _ _; rfl
 | succ k ih =>
  intro a h1 h2
  rw [Khx ht hp (by omega) (h2 a (Nat.le_refl _) (by omega)),ih (a + 1) (by omega) (fun b b1 b2=>h2 b (by omega) (by omega))]
  congr 7; omega
mutual
theorem Ki0:∀ (x:K06) (t:ByteArray) (p left:Nat) (X:List UInt8),okW x=true→t.size ≤ 1048576→p ≤ t.size→(tl t).drop p=txT x ++ X→nod X→tsz x ≤ left→left ≤ 1000 →
  K8u ⟨t,(p:Int),false,(left:Int)⟩=some (x,⟨t,((p + (txT x).length:Nat):Int),false,((left - tsz x:Nat):Int)⟩)
 | ⟨op,N,ty,ks⟩,t,p,left,X,h,ht,hp,hd,hX,hl,hl2=>by
  obtain ⟨h1,h2,h3,h4,h5,h6,h7,h8,h9⟩:=Kh0 h
  have hmany:=Kh1 h1
  have hop:0 ≤ op∧op ≤ 12:=by simp only [inB,Bool.and_eq_true,decide_eq_true_eq] at h1; omega
  rw [tsz] at hl
  rw [tsz,K8u.eq_def]
  simp only
  have f3:wr ((left:Int) - 1)=((left - 1:Nat):Int):=by rw [Kbl (by omega) (by omega)]; omega
  have d1:decide ((((left - 1:Nat)):Int) < 0)=false:=decide_eq_false (by omega)
  simp only [f3,d1,Bool.false_eq_true,if_false,bs]
  rw [show (ByteArray.mk #[120])=bt [120] from rfl]
  by_cases e0:op=0
  ·subst e0
   obtain ⟨a,b⟩:=h3 rfl
   have hks:ks=[]:=List.length_eq_zero_iff.1 (by have:=hmany.2.2 (.inl rfl); omega)
   have hty:ty=[]:=h8 (by decide)
   subst hks hty
   have htx:txT ⟨0,N,[],[]⟩=120 :: gt N:=by rw [txT,if_pos rfl]
   rw [htx] at hd ⊢
   rw [List.cons_append,Khq a] at hd
   obtain ⟨q1,q2⟩:=Kex hd
   have hn:=Kht (t:=t) (p:=p + 1) (n:=N.toNat) (f:=false) (l:=((left - 1:Nat):Int)) (by omega) ht (by omega) q2 hX
   rw [show ((N.toNat:Nat):Int)=N by omega] at hn
   rw [Kfk hd ht,bs]
   simp only [if_true]
   rw [hn,bs,Khq a]
   have e1:p + 1 + (Lib.decDigits N.toNat).length=p + (120 :: Lib.decDigits N.toNat).length:=by simp; omega
   have e2:left - 1=left - (1 + Kcp []):=by rw [Kcp]
   rw [e1,e2]
  ·by_cases e1:op=1
   ·subst e1
    obtain ⟨a,b⟩:=h4 rfl
    have hks:ks=[]:=List.length_eq_zero_iff.1 (by have:=hmany.2.2 (.inr rfl); omega)
    have hty:ty=[]:=h8 (by decide)
    subst hks hty
    have htx:txT ⟨1,N,[],[]⟩=gt N:=by rw [txT,if_neg (by decide),if_pos rfl]
    rw [htx] at hd ⊢
    rw [Khq a] at hd ⊢
    have hfst:∃ c r,(tl t).drop p=c :: r∧Ked c=true:=by
     cases hq:Lib.decDigits N.toNat with
     | nil=>exact absurd hq (Keg _)
     | cons c r=>exact ⟨c,r ++ X,by rw [hd,hq]; rfl,Kef N.toNat c (by rw [hq]; exact List.mem_cons_self)⟩
    obtain ⟨c,r,hc,hcd⟩:=hfst
    have hcd2:c.toNat ≤ 57:=by unfold Ked at hcd; simp only [Bool.and_eq_true,decide_eq_true_eq] at hcd; omega
    have hx:∀ R,(tl t).drop p ≠ 120 :: R:=fun R e=>by
     rw [hc] at e
     have:=(List.cons.inj e).1
     subst this
     exact absurd hcd2 (by decide)
    have hno:∀ b:Nat,2 ≤ b→b < 2 + 11→¬ wdL (b:Int) <+: (tl t).drop p:=by
     rintro b b1 b2 ⟨Z,hZ⟩
     obtain ⟨w,u,hw,w1,w2⟩:=Khl (a:=b) (by omega)
     rw [hw,hc] at hZ
     have:=(List.cons.inj hZ).1
     subst this
     omega
    have hgo:=Khz (r0:=⟨t,(p:Int),false,(left:Int)⟩) (L:=((left - 1:Nat):Int)) ht hp 11 2 (by omega) hno
    rw [show ((2:Nat):Int)=2 from rfl,show ((2 + 11:Nat):Int)=13 from rfl,Khy] at hgo
    have hn:=Kht (t:=t) (p:=p) (n:=N.toNat) (f:=false) (l:=((left - 1:Nat):Int)) hp ht (by omega) hd hX
    rw [show ((N.toNat:Nat):Int)=N by omega] at hn
    rw [Kfl hx hp ht,bs]
    simp only [Bool.false_eq_true,if_false]
    rw [hgo,bs]
    simp only
    rw [hn,bs]
    have e2:left - 1=left - (1 + Kcp []):=by rw [Kcp]
    rw [e2]
   ·have htx:txT ⟨op,N,ty,ks⟩=hdT op N ty ++ (txQ true ks ++ [41]):=by rw [txT,if_neg e0,if_neg e1]
    rw [htx] at hd ⊢
    rw [List.append_assoc,List.append_assoc,List.cons_append,List.nil_append] at hd
    obtain ⟨b,hbb⟩:∃ b:Nat,op=b:=⟨op.toNat,by omega⟩
    have hb:2 ≤ b∧b ≤ 12:=by omega
    obtain ⟨w,u,hw,w1,w2⟩:=Khl hb
    rw [← hbb] at hw
    have hx:∀ R,(tl t).drop p ≠ 120 :: R:=fun R e=>by
     rw [hd] at e
     unfold hdT at e
     rw [hw] at e
     have:=(List.cons.inj e).1
     subst this
     exact absurd w2 (by decide)
    rw [Kfl hx hp ht,bs]
    simp only [Bool.false_eq_true,if_false]
    have hgo:=Khz (r0:=⟨t,(p:Int),false,(left:Int)⟩) (L:=((left - 1:Nat):Int)) ht hp (b - 2) 2 (by omega) (fun c c1 c2=>by
     rw [hd]; unfold hdT; rw [List.append_assoc,hbb]; exact Khj (by omega) hb (by omega) _)
    rw [show ((2:Nat):Int)=2 from rfl,show 2 + (b - 2)=b by omega,← hbb] at hgo
    rw [hgo,K8v.eq_def]
    have dop:decide (op ≤ 12)=true:=decide_eq_true (by omega)
    have hd1:(tl t).drop p=wdL op ++ ((if Kcy op=true then 58 :: gt N else []) ++ ((if Kcz op=true then 58 :: tyT ty else []) ++ (txQ true ks ++ 41 :: X))):=by
     rw [hd]; unfold hdT; simp only [List.append_assoc]
    have tk:=Kf8 (l:=((left - 1:Nat):Int)) hd1 hp ht
    rw [← Kh9] at tk
    have hp1:=Kfo hp hd1
    have hd2:=Kez hd1
    simp only [dop,if_true,Khv h1,bs,tk]
    have hm1:=hmany.2.1 (by omega)
    have hq:∃ c Z,txQ true ks ++ 41 :: X=c :: Z∧Ked c=false:=by
     cases ks with
     | nil=>exact ⟨41,X,by rw [txQ]; rfl,rfl⟩
     | cons k ks'=>exact ⟨40,_,by rw [txQ]; rfl,rfl⟩
    -- the grade
    have s1:∃ x1:Nat,x1=p + (wdL op).length + (if Kcy op=true then 58 :: gt N else []).length∧x1 ≤ t.size∧(tl t).drop x1=(if Kcz op=true then 58 :: tyT ty else []) ++ (txQ true ks ++ 41 :: X) ∧
      ((if Kcy op=true then K8c (⟨t,((p + (wdL op).length:Nat):Int),false,((left - 1:Nat):Int)⟩,ByteArray.mk #[58]) >>= fun o=>K8f o >>= fun (r,o2)=>some (o2.fs,o2.fat,o2.ffail,o2.fleft,r) else some (t,((p + (wdL op).length:Nat):Int),false,((left - 1:Nat):Int),0):Option (ByteArray × Int × Bool × Int × Int)))=some (t,((x1:Nat):Int),false,((left - 1:Nat):Int),N):=by
     cases e:Kcy op with
     | true =>
      simp only [e,if_true,List.cons_append] at hd2 ⊢
      obtain ⟨a1,a2⟩:=h5 e0 e1 e
      obtain ⟨q1,q2⟩:=Kex hd2
      have hsep:∃ s Z,Ked s=false∧(tl t).drop (p + (wdL op).length + 1)=gt N ++ s :: Z:=by
       cases e2:Kcz op with
       | true=>simp only [e2,if_true,List.cons_append] at q2; exact ⟨58,_,rfl,q2⟩
       | false =>
        simp only [e2,Bool.false_eq_true,if_false,List.nil_append] at q2
        obtain ⟨c,Z,hc,hcd⟩:=hq
        rw [hc] at q2
        exact ⟨c,Z,hcd,q2⟩
      obtain ⟨s,Z,hs,hZ⟩:=hsep
      refine ⟨p + (wdL op).length + 1 + (gt N).length,by simp only [List.length_cons]; omega,Kfo (by omega) q2,Kez q2,?_⟩
      rw [show (ByteArray.mk #[58])=bt [58] from rfl,Kfm hd2 ht,bs,Khu (by omega) ht a1 a2 hs hZ,bs]
     | false =>
      simp only [e,Bool.false_eq_true,if_false,List.nil_append] at hd2 ⊢
      exact ⟨p + (wdL op).length,by simp,hp1,hd2,by rw [h6 e0 e1 e]⟩
    obtain ⟨x1,hx1,hx1s,hd3,hs1⟩:=s1
    rw [hs1,bs]
    -- the type
    have s2:∃ x2:Nat,x2=x1 + (if Kcz op=true then 58 :: tyT ty else []).length∧x2 ≤ t.size∧(tl t).drop x2=txQ true ks ++ 41 :: X ∧
      ((if Kcz op=true then K8c (⟨t,((x1:Nat):Int),false,((left - 1:Nat):Int)⟩,ByteArray.mk #[58]) >>= fun o=>K8p o >>= fun (r,o2)=>some (o2.fs,o2.fat,o2.ffail,o2.fleft,r) else some (t,((x1:Nat):Int),false,((left - 1:Nat):Int),[]):Option (ByteArray × Int × Bool × Int × List Int)))=some (t,((x2:Nat):Int),false,((left - 1:Nat):Int),ty):=by
     cases e:Kcz op with
     | true =>
      simp only [e,if_true,List.cons_append] at hd3 ⊢
      obtain ⟨q1,q2⟩:=Kex hd3
      refine ⟨x1 + 1 + (tyT ty).length,by simp only [List.length_cons]; omega,Kfo (by omega) q2,Kez q2,?_⟩
      rw [show (ByteArray.mk #[58])=bt [58] from rfl,Kfm hd3 ht,bs,Kgr ht (by omega) q2 (h7 e),bs]
     | false =>
      simp only [e,Bool.false_eq_true,if_false,List.nil_append] at hd3 ⊢
      exact ⟨x1,by simp,hx1s,hd3,by rw [h8 e]⟩
    obtain ⟨x2,hx2,hx2s,hd4,hs2⟩:=s2
    simp only
    rw [hs2,bs]
    have hl0:=Ki1 ks op ⟨Kd0 op,Kcx op,Kcy op,Kcz op⟩ N ty t [] x2 (left - 1) X h9 ht hx2s hd4 (by show Kcx op=_; rw [List.length_nil,Nat.zero_add]; exact h2.symm) (by simp; omega) (by omega) (by omega)
    rw [show (([]:List K06).length:Int)=0 from rfl,show (([]:List K06).length == 0)=true from rfl,List.nil_append] at hl0
    simp only
    rw [hl0,bs]
    have hd5:(tl t).drop (x2 + (txQ true ks).length)=41 :: X:=by
     have:=Kez hd4
     exact this
    simp only
    rw [show (ByteArray.mk #[41])=bt [41] from rfl,Kfm hd5 ht]
    simp only [bs]
    have hlen:(hdT op N ty).length=(wdL op).length + ((if Kcy op=true then 58 :: gt N else []).length + (if Kcz op=true then 58 :: tyT ty else []).length):=by
     unfold hdT; rw [List.length_append,List.length_append]
    have ee1:x2 + (txQ true ks).length + 1=p + (hdT op N ty ++ (txQ true ks ++ [41])).length:=by
     rw [List.length_append,List.length_append,hlen]; simp only [List.length_cons,List.length_nil]; omega
    have ee2:left - 1 - Kcp ks=left - (1 + Kcp ks):=by omega
    rw [ee1,ee2]
theorem Ki1:∀ (ks:List K06) (op:Int) (f:K08) (N:Int) (ty:List Int) (t:ByteArray) (acc:List K06) (p left:Nat) (X:List UInt8),Kgv ks=true→t.size ≤ 1048576→p ≤ t.size→(tl t).drop p=txQ (acc.length == 0) ks ++ 41 :: X →
  f.fkids=((acc.length + ks.length:Nat):Int)→acc.length + ks.length ≤ 1000→Kcp ks ≤ left→left ≤ 1000 →
  K8w (op,f,N,ty,t,(p:Int),false,(left:Int),acc,(acc.length:Int))=some (t,((p + (txQ (acc.length == 0) ks).length:Nat):Int),false,((left - Kcp ks:Nat):Int),acc ++ ks)
 | [],op,f,N,ty,t,acc,p,left,X,h,ht,hp,hd,hm,hm2,hl,hl2=>by
  rw [K8w.eq_def]
  simp only
  have d2:decide ((acc.length:Int) < f.fkids)=false:=decide_eq_false (by rw [hm]; simp)
  simp only [d2,Bool.false_eq_true,if_false,bs,List.append_nil,txQ,Kcp,List.length_nil,Nat.add_zero,Nat.sub_zero]
 | k :: ks,op,f,N,ty,t,acc,p,left,X,h,ht,hp,hd,hm,hm2,hl,hl2=>by
  rw [Kgv,Bool.and_eq_true] at h
  rw [Kcp] at hl
  simp only [List.length_cons] at hm hm2
  rw [txQ,List.cons_append,List.append_assoc] at hd
  obtain ⟨q1,q2⟩:=Kex hd
  have hk:=Ki0 k t (p + 1) left _ h.1 ht (by omega) q2 (Khp ks X) (by omega) hl2
  have hp2:=Kfo (by omega:p + 1 ≤ t.size) q2
  have hd2:=Kez q2
  rw [K8w.eq_def]
  simp only
  have d2:decide ((acc.length:Int) < f.fkids)=true:=decide_eq_true (by rw [hm]; omega)
  have hf:Qey (acc.length + [k].length) 64=some ():=Kdr (by simp; omega)
  have f4:wr ((acc.length:Int) + 1)=((acc ++ [k]).length:Int):=by rw [Kbn (by omega)]; simp
  have sep:((if ((acc.length:Int) == 0)=true then K8c (⟨t,(p:Int),false,(left:Int)⟩,ByteArray.mk #[40]) >>= fun o=>some (o.fs,o.fat,o.ffail,o.fleft) else K8c (⟨t,(p:Int),false,(left:Int)⟩,ByteArray.mk #[44]) >>= fun o=>some (o.fs,o.fat,o.ffail,o.fleft):Option (ByteArray × Int × Bool × Int)))=some (t,((p + 1:Nat):Int),false,(left:Int)):=by
   have e:((acc.length:Int) == 0)=(acc.length == 0):=by rw [Bool.eq_iff_iff,beq_iff_eq,beq_iff_eq]; omega
   rw [e]
   cases hc:acc.length == 0 with
   | true =>
    rw [hc,if_pos rfl] at hd
    rw [if_pos rfl,show (ByteArray.mk #[40])=bt [40] from rfl,Kfm hd ht,bs]
   | false =>
    rw [hc,if_neg (by decide)] at hd
    rw [if_neg (by decide),show (ByteArray.mk #[44])=bt [44] from rfl,Kfm hd ht,bs]
  simp only [d2,if_true,Bool.not_false,bs]
  rw [sep,bs]
  simp only
  rw [hk,bs]
  simp only
  rw [hf,bs,f4]
  have hne:((acc ++ [k]).length == 0)=false:=by simp
  have hrec:=Ki1 ks op f N ty t (acc ++ [k]) (p + 1 + (txT k).length) (left - tsz k) X h.2 ht hp2 (by rw [hne]; exact hd2) (by rw [hm]; congr 1; simp; omega) (by simp; omega) (by omega) (by omega)
  rw [hrec,hne]
  have e1:left - tsz k - Kcp ks=left - Kcp (k :: ks):=by rw [Kcp]; omega
  have e2:acc ++ [k] ++ ks=acc ++ k :: ks:=by simp
  have e3:p + 1 + (txT k).length + (txQ false ks).length=p + (txQ (acc.length == 0) (k :: ks)).length:=by rw [txQ]; simp; omega
  rw [e1,e2,e3]
end
theorem Ki2 {t:ByteArray} {p:Int} {L:Int} (h1:-1000 ≤ L) (h2:L ≤ 1000):K8u ⟨t,p,true,L⟩=some (⟨0,0,[],[]⟩,⟨t,p,true,L - 1⟩):=by
 rw [K8u.eq_def]
 simp only
 rw [Kbl (by omega) (by omega)]
 cases decide (L - 1 < 0) <;> rfl
theorem Ki3 {t:ByteArray} {p:Nat} {L:Int} (hp:p ≤ t.size) (ht:t.size ≤ 1048576):∃ v q,q ≤ t.size∧K8f ⟨t,(p:Int),true,L⟩=some (v,⟨t,((q:Nat):Int),true,L⟩):=by
 unfold K8f
 simp only
 rw [Kf7,bs]
 simp only [Bool.false_eq_true,if_false]
 obtain ⟨S,hS⟩:=Kfd 3 ((tl t).drop p)
 have hq:=Kfo hp hS
 rcases Kfj (f:=true) (l:=L) hp ht with ⟨n,hn,hd,hr⟩ | ⟨hd,hr⟩
 ·rw [hd] at hq
  rw [hr,bs]
  cases decide ((n:Int) ≥ 16) <;> exact ⟨_,_,hq,rfl⟩
 ·rw [hr,bs]
  exact ⟨_,_,hq,rfl⟩
theorem Ki4 {t:ByteArray} {p:Nat} {L:Int} (hp:p ≤ t.size) (ht:t.size ≤ 1048576) :
  ∃ v q f,q ≤ t.size∧(K8c (⟨t,(p:Int),false,L⟩,ByteArray.mk #[58]) >>= fun o=>K8f o >>= fun (r,o2)=>some (o2.fs,o2.fat,o2.ffail,o2.fleft,r))=some (t,((q:Nat):Int),f,L,v) ∧
   (f=false→(tl t).drop p=(58 :: gt v) ++ (tl t).drop q∧p ≤ q):=by
 rw [show (ByteArray.mk #[58])=bt [58] from rfl]
 by_cases h:∃ R,(tl t).drop p=58 :: R
 ·obtain ⟨R,hR⟩:=h
  obtain ⟨q1,q2⟩:=Kex hR
  rw [Kfm hR ht,bs]
  rcases Kfp (t:=t) (p:=p + 1) (l:=L) (by omega) ht with ⟨g,R',_,_,hd,hr,_⟩ | ⟨v,q,hq,hr,_⟩
  ·rw [hr,bs]
   refine ⟨g,_,false,Kfo (by omega) hd,rfl,fun _=>⟨?_,by omega⟩⟩
   rw [Kez hd,hR,← q2,hd]; rfl
  ·rw [hr,bs]
   exact ⟨v,q,true,hq,rfl,fun h=>by cases h⟩
 ·rw [Kfn (fun R e=>h ⟨R,e⟩) hp ht,bs]
  obtain ⟨v,q,hq,hr⟩:=Ki3 (L:=L) hp ht
  rw [hr,bs]
  exact ⟨v,q,true,hq,rfl,fun h=>by cases h⟩
theorem Ki5 {t:ByteArray} {p:Nat} {L:Int} {f:Bool} (hp:p ≤ t.size) (ht:t.size ≤ 1048576) :
  ∃ l q f',q ≤ t.size∧(K8c (⟨t,(p:Int),f,L⟩,ByteArray.mk #[58]) >>= fun o=>K8p o >>= fun (r,o2)=>some (o2.fs,o2.fat,o2.ffail,o2.fleft,r))=some (t,((q:Nat):Int),f',L,l) ∧
   (f'=false→f=false∧(tl t).drop p=(58 :: tyT l) ++ (tl t).drop q∧p + l.length + 1 ≤ q):=by
 rw [show (ByteArray.mk #[58])=bt [58] from rfl]
 cases f with
 | true =>
  rw [Kfc,bs,Kgu,bs]
  exact ⟨_,p,true,hp,rfl,fun h=>by cases h⟩
 | false =>
  by_cases h:∃ R,(tl t).drop p=58 :: R
  ·obtain ⟨R,hR⟩:=h
   obtain ⟨q1,q2⟩:=Kex hR
   rw [Kfm hR ht,bs]
   obtain ⟨l,q,f',hq,_,hr,hf⟩:=Kgt (t:=t) (p:=p + 1) (L:=L) ht (by omega)
   rw [hr,bs]
   refine ⟨l,q,f',hq,rfl,fun h=>⟨rfl,?_,?_⟩⟩
   ·rw [hR,← q2,(hf h).1]; rfl
   ·have:=(hf h).2; omega
  ·rw [Kfn (fun R e=>h ⟨R,e⟩) hp ht,bs,Kgu,bs]
   exact ⟨_,p,true,hp,rfl,fun h=>by cases h⟩
theorem Ki6 {t:ByteArray} {p:Nat} {L:Int} {f:Bool} (c:UInt8) (hp:p ≤ t.size) (ht:t.size ≤ 1048576) :
  ∃ q f',q ≤ t.size∧K8c (⟨t,(p:Int),f,L⟩,bt [c])=some ⟨t,((q:Nat):Int),f',L⟩∧(f'=false→f=false∧(tl t).drop p=c :: (tl t).drop q∧q=p + 1):=by
 cases f with
 | true=>exact ⟨p,true,hp,Kfc _,fun h=>by cases h⟩
 | false =>
  by_cases h:∃ R,(tl t).drop p=c :: R
  ·obtain ⟨R,hR⟩:=h
   obtain ⟨q1,q2⟩:=Kex hR
   exact ⟨p + 1,false,by omega,Kfm hR ht,fun _=>⟨rfl,by rw [q2]; exact hR,rfl⟩⟩
  ·exact ⟨p,true,hp,Kfn (fun R e=>h ⟨R,e⟩) hp ht,fun h=>by cases h⟩
def Any (t:ByteArray) (p:Nat) (L:Int) (r:Option (K06 × K07)):Prop :=
 ∃ x q f L',r=some (x,⟨t,((q:Nat):Int),f,L'⟩)∧q ≤ t.size∧-10 ≤ L'∧L' < L∧(f=false→0 ≤ L'∧(tl t).drop p=txT x ++ (tl t).drop q∧tms x + p ≤ q)
theorem Ki7 {t:ByteArray} (ht:t.size ≤ 1048576) (op N:Int) (ty:List Int) (F:K08) (L0:Nat) (hL0:L0 ≤ 1000) (IH:∀ L:Nat,L < L0→∀ p,p ≤ t.size→Any t p L (K8u ⟨t,(p:Int),false,(L:Int)⟩)) :
  ∀ (r:Nat) (acc:List K06) (p:Nat) (f:Bool) (L:Int),F.fkids=((acc.length + r:Nat):Int)→acc.length + r ≤ 1000→p ≤ t.size→-10 ≤ L→L < L0→(f=false→0 ≤ L) →
   ∃ ks q f' L',K8w (op,F,N,ty,t,(p:Int),f,L,acc,(acc.length:Int))=some (t,((q:Nat):Int),f',L',acc ++ ks)∧q ≤ t.size∧-10 ≤ L'∧L' < L0 ∧
    (f'=false→f=false∧0 ≤ L'∧(tl t).drop p=txQ (acc.length == 0) ks ++ (tl t).drop q∧Kcq ks + ks.length + p ≤ q):=by
 intro r
 induction r with
 | zero =>
  intro acc p f L hF hr hp hL hL2 hf
  rw [K8w.eq_def]
  simp only
  have d2:decide ((acc.length:Int) < F.fkids)=false:=decide_eq_false (by rw [hF]; simp)
  simp only [d2,Bool.false_eq_true,if_false,bs]
  exact ⟨[],p,f,L,by simp,hp,by omega,hL2,fun h=>⟨h,hf h,by rw [txQ]; rfl,by simp [Kcq]⟩⟩
 | succ r ih =>
  intro acc p f L hF hr hp hL hL2 hf
  rw [K8w.eq_def]
  simp only
  have d2:decide ((acc.length:Int) < F.fkids)=true:=decide_eq_true (by rw [hF]; omega)
  have f4:∀ k:K06,wr ((acc.length:Int) + 1)=((acc ++ [k]).length:Int):=fun k=>by rw [Kbn (by omega)]; simp
  have hfit:∀ k:K06,Qey (acc.length + [k].length) 64=some ():=fun k=>Kdr (by simp; omega)
  cases f with
  | true =>
   simp only [d2,if_true,Bool.not_true,bs,Bool.false_eq_true,if_false]
   exact ⟨[],p,true,L,by simp,hp,by omega,hL2,fun h=>by cases h⟩
  | false =>
   simp only [d2,if_true,Bool.not_false,bs]
   have hL0':=hf rfl
   have sep:∃ q f',q ≤ t.size∧((if ((acc.length:Int) == 0)=true then K8c (⟨t,(p:Int),false,L⟩,ByteArray.mk #[40]) >>= fun o=>some (o.fs,o.fat,o.ffail,o.fleft) else K8c (⟨t,(p:Int),false,L⟩,ByteArray.mk #[44]) >>= fun o=>some (o.fs,o.fat,o.ffail,o.fleft):Option (ByteArray × Int × Bool × Int)))=some (t,((q:Nat):Int),f',L) ∧
     (f'=false→(tl t).drop p=(if (acc.length == 0)=true then 40 else 44) :: (tl t).drop q∧q=p + 1):=by
    have e:((acc.length:Int) == 0)=(acc.length == 0):=by rw [Bool.eq_iff_iff,beq_iff_eq,beq_iff_eq]; omega
    rw [e]
    cases hc:acc.length == 0 with
    | true =>
     obtain ⟨q,f',h1,h2,h3⟩:=Ki6 (L:=L) (f:=false) 40 hp ht
     rw [if_pos rfl,show (ByteArray.mk #[40])=bt [40] from rfl,h2,bs]
     exact ⟨q,f',h1,rfl,fun h=>⟨(h3 h).2.1,(h3 h).2.2⟩⟩
    | false =>
     obtain ⟨q,f',h1,h2,h3⟩:=Ki6 (L:=L) (f:=false) 44 hp ht
     rw [if_neg (by decide),show (ByteArray.mk #[44])=bt [44] from rfl,h2,bs]
     exact ⟨q,f',h1,rfl,fun h=>⟨(h3 h).2.1,(h3 h).2.2⟩⟩
   obtain ⟨q,f',hq,hs,hf'⟩:=sep
   rw [hs,bs]
   simp only
   obtain ⟨n,rfl⟩:∃ n:Nat,L=n:=⟨L.toNat,by omega⟩
   cases f' with
   | true =>
    rw [Ki2 (by omega) (by omega),bs]
    simp only
    rw [hfit,bs,f4 ⟨0,0,[],[]⟩]
    obtain ⟨ks,q2,f2,L2,h1,h2,h3,h4,h5⟩:=ih (acc ++ [⟨0,0,[],[]⟩]) q true ((n:Int) - 1) (by rw [hF]; simp; omega) (by simp; omega) hq (by omega) (by omega) (fun h=>by cases h)
    rw [h1]
    exact ⟨⟨0,0,[],[]⟩ :: ks,q2,f2,L2,by simp,h2,h3,h4,fun h=>by have:=(h5 h).1; cases this⟩
   | false =>
    obtain ⟨e1,e2⟩:=hf' rfl
    obtain ⟨x,q1,f1,L1,g1,g2,g3,g4,g5⟩:=IH n (by omega) q hq
    rw [g1,bs]
    simp only
    rw [hfit,bs,f4 x]
    obtain ⟨ks,q2,f2,L2,h1,h2,h3,h4,h5⟩:=ih (acc ++ [x]) q1 f1 L1 (by rw [hF]; simp; omega) (by simp; omega) g2 g3 (by omega) (fun h=>(g5 h).1)
    rw [h1]
    refine ⟨x :: ks,q2,f2,L2,by simp,h2,h3,h4,fun h=>?_⟩
    obtain ⟨a1,a2,a3,a4⟩:=h5 h
    obtain ⟨b1,b2,b3⟩:=g5 a1
    refine ⟨trivial,a2,?_,?_⟩
    ·rw [e1,b2,a3,txQ,show ((acc ++ [x]).length == 0)=false by simp]
     simp
    ·rw [Kcq,List.length_cons]; omega
theorem Ki8 {t:ByteArray} {p:Nat} {L:Int} {f:Bool} (hp:p ≤ t.size) (ht:t.size ≤ 1048576) :
  ∃ v q f',q ≤ t.size∧K83 ⟨t,(p:Int),f,L⟩=some (v,⟨t,((q:Nat):Int),f',L⟩)∧(f'=false→f=false∧(tl t).drop p=gt v ++ (tl t).drop q∧p ≤ q):=by
 obtain ⟨S,hS⟩:=Kfd 3 ((tl t).drop p)
 have hq:=Kfo hp hS
 rcases Kfj (f:=f) (l:=L) hp ht with ⟨n,hn,hd,hr⟩ | ⟨hd,hr⟩
 ·rw [hd] at hq hS
  refine ⟨_,_,f,hq,hr,fun h=>⟨h,?_,by omega⟩⟩
  rw [Ker,Kez hS]; exact hS
 ·exact ⟨_,_,true,hq,hr,fun h=>by cases h⟩
theorem Ki9 {a b:Nat} (ha:2 ≤ a∧a ≤ 12) (hb:2 ≤ b∧b ≤ 12) {R:List UInt8} (h1:wdL (a:Int) <+: R) (h2:wdL (b:Int) <+: R):a=b:=by
 rcases Nat.decEq a b with h | h
 ·rcases List.prefix_or_prefix_of_prefix h1 h2 with q | q
  ·exact absurd q (Khi ha hb h)
  ·exact absurd q (Khi hb ha (Ne.symm h))
 ·exact h
theorem Kia {t:ByteArray} (ht:t.size ≤ 1048576):∀ (L:Nat),L ≤ 1000→∀ p,p ≤ t.size→Any t p L (K8u ⟨t,(p:Int),false,(L:Int)⟩):=by
 intro L
 induction L using Nat.strongRecOn with
 | ind L IH =>
  intro hL p hp
  rw [K8u.eq_def]
  simp only
  by_cases h0:L=0
  ·subst h0
   rw [show wr (((0:Nat):Int) - 1)=-1 from rfl]
   exact ⟨_,p,true,-1,rfl,hp,by omega,by omega,fun h=>by cases h⟩
  ·have f3:wr ((L:Int) - 1)=((L - 1:Nat):Int):=by rw [Kbl (by omega) (by omega)]; omega
   have d1:decide ((((L - 1:Nat)):Int) < 0)=false:=decide_eq_false (by omega)
   simp only [f3,d1,Bool.false_eq_true,if_false,bs]
   rw [show (ByteArray.mk #[120])=bt [120] from rfl]
   by_cases hx:∃ R,(tl t).drop p=120 :: R
   ·obtain ⟨R,hR⟩:=hx
    obtain ⟨q1,q2⟩:=Kex hR
    rw [Kfk hR ht,bs]
    simp only [if_true]
    obtain ⟨v,q,f',hq,hr,hf⟩:=Ki8 (t:=t) (p:=p + 1) (L:=((L - 1:Nat):Int)) (f:=false) (by omega) ht
    rw [hr,bs]
    refine ⟨_,q,f',_,rfl,hq,by omega,by omega,fun h=>⟨by omega,?_,?_⟩⟩
    ·rw [txT,if_pos rfl,hR,← q2,(hf h).2.1]; rfl
    ·rw [tms]; simp [Kcq]; have:=(hf h).2.2; omega
   ·have hx:∀ R,(tl t).drop p ≠ 120 :: R:=fun R e=>hx ⟨R,e⟩
    rw [Kfl hx hp ht,bs]
    simp only [Bool.false_eq_true,if_false]
    by_cases hw:∃ a:Nat,(2 ≤ a∧a ≤ 12)∧wdL (a:Int) <+: (tl t).drop p
    ·obtain ⟨a,ha,hpre⟩:=hw
     have hgo:=Khz (r0:=⟨t,(p:Int),false,(L:Int)⟩) (L:=((L - 1:Nat):Int)) ht hp (a - 2) 2 (by omega) (fun c c1 c2 hc=>by
      have:=Ki9 (by omega) ha hc hpre; omega)
     rw [show ((2:Nat):Int)=2 from rfl,show 2 + (a - 2)=a by omega] at hgo
     rw [hgo,K8v.eq_def]
     obtain ⟨R,hR⟩:=hpre
     have hR:(tl t).drop p=wdL (a:Int) ++ R:=hR.symm
     have tk:=Kf8 (l:=((L - 1:Nat):Int)) hR hp ht
     rw [← Kh9] at tk
     have hp1:=Kfo hp hR
     have hd2:=Kez hR
     have da:decide ((a:Int) ≤ 12)=true:=decide_eq_true (by omega)
     have hmany:=Kh1 (Khw ha.2)
     have hm0:0 ≤ Kcx (a:Int):=by have:=hmany.2.1 (by omega); omega
     simp only [da,if_true,Khv (Khw ha.2),bs,tk]
     -- the grade
     have s1:∃ v q f,q ≤ t.size∧((if Kcy (a:Int)=true then K8c (⟨t,((p + (wdL (a:Int)).length:Nat):Int),false,((L - 1:Nat):Int)⟩,ByteArray.mk #[58]) >>= fun o=>K8f o >>= fun (r,o2)=>some (o2.fs,o2.fat,o2.ffail,o2.fleft,r) else some (t,((p + (wdL (a:Int)).length:Nat):Int),false,((L - 1:Nat):Int),0):Option (ByteArray × Int × Bool × Int × Int)))=some (t,((q:Nat):Int),f,((L - 1:Nat):Int),v) ∧
       (f=false→R=(if Kcy (a:Int)=true then 58 :: gt v else []) ++ (tl t).drop q∧p ≤ q):=by
      cases e:Kcy (a:Int) with
      | true =>
       simp only [if_true]
       obtain ⟨v,q,f,h1,h2,h3⟩:=Ki4 (p:=p + (wdL (a:Int)).length) (L:=((L - 1:Nat):Int)) hp1 ht
       exact ⟨v,q,f,h1,h2,fun h=>⟨by rw [← hd2]; exact (h3 h).1,by have:=(h3 h).2; omega⟩⟩
      | false =>
       simp only [Bool.false_eq_true,if_false,List.nil_append]
       exact ⟨0,_,false,hp1,rfl,fun _=>⟨hd2.symm,by omega⟩⟩
     obtain ⟨v,q1,f1,hq1,hs1,hf1⟩:=s1
     rw [hs1,bs]
     simp only
     -- the type
     have s2:∃ l q f,q ≤ t.size∧((if Kcz (a:Int)=true then K8c (⟨t,((q1:Nat):Int),f1,((L - 1:Nat):Int)⟩,ByteArray.mk #[58]) >>= fun o=>K8p o >>= fun (r,o2)=>some (o2.fs,o2.fat,o2.ffail,o2.fleft,r) else some (t,((q1:Nat):Int),f1,((L - 1:Nat):Int),[]):Option (ByteArray × Int × Bool × Int × List Int)))=some (t,((q:Nat):Int),f,((L - 1:Nat):Int),l) ∧
       (f=false→f1=false∧(tl t).drop q1=(if Kcz (a:Int)=true then 58 :: tyT l else []) ++ (tl t).drop q∧q1 + l.length ≤ q):=by
      cases e:Kcz (a:Int) with
      | true =>
       simp only [if_true]
       obtain ⟨l,q,f,h1,h2,h3⟩:=Ki5 (p:=q1) (L:=((L - 1:Nat):Int)) (f:=f1) hq1 ht
       exact ⟨l,q,f,h1,h2,fun h=>⟨(h3 h).1,(h3 h).2.1,by have:=(h3 h).2.2; omega⟩⟩
      | false =>
       simp only [Bool.false_eq_true,if_false,List.nil_append]
       exact ⟨[],_,f1,hq1,rfl,fun h=>⟨h,rfl,by simp⟩⟩
     obtain ⟨l,q2,f2,hq2,hs2,hf2⟩:=s2
     rw [hs2,bs]
     simp only
     obtain ⟨ks,q3,f3',L3,hs3,hq3,hL3,hL3',hf3⟩:=Ki7 ht (a:Int) v l ⟨Kd0 (a:Int),Kcx (a:Int),Kcy (a:Int),Kcz (a:Int)⟩ L hL (fun L' h p hp=>IH L' h (by omega) p hp) (Kcx (a:Int)).toNat [] q2 f2 ((L - 1:Nat):Int)
      (by show Kcx (a:Int)=_; simp; omega) (by simp; omega) hq2 (by omega) (by omega) (fun _=>by omega)
     rw [show (([]:List K06).length:Int)=0 from rfl,List.nil_append] at hs3
     rw [hs3,bs]
     simp only
     obtain ⟨q4,f4,hq4,hs4,hf4⟩:=Ki6 (t:=t) (p:=q3) (L:=L3) (f:=f3') 41 hq3 ht
     rw [show (ByteArray.mk #[41])=bt [41] from rfl,hs4]
     simp only [bs]
     refine ⟨_,q4,f4,L3,rfl,hq4,hL3,hL3',fun h=>?_⟩
     obtain ⟨a1,a2,a3⟩:=hf4 h
     obtain ⟨b1,b2,b3,b4⟩:=hf3 a1
     obtain ⟨c1,c2,c3⟩:=hf2 b1
     obtain ⟨d1,d2⟩:=hf1 c1
     refine ⟨b2,?_,?_⟩
     ·rw [txT,if_neg (by omega),if_neg (by omega),hR,d1,c2,b3,a2]
      unfold hdT
      simp
     ·rw [tms]; omega
    ·have hgo:=Khz (r0:=⟨t,(p:Int),false,(L:Int)⟩) (L:=((L - 1:Nat):Int)) ht hp 11 2 (by omega) (fun b b1 b2 hb=>hw ⟨b,by omega,hb⟩)
     rw [show ((2:Nat):Int)=2 from rfl,show ((2 + 11:Nat):Int)=13 from rfl,Khy] at hgo
     rw [hgo,bs]
     simp only
     obtain ⟨v,q,f',hq,hr,hf⟩:=Ki8 (t:=t) (p:=p) (L:=((L - 1:Nat):Int)) (f:=false) hp ht
     rw [hr,bs]
     refine ⟨_,q,f',_,rfl,hq,by omega,by omega,fun h=>⟨by omega,?_,?_⟩⟩
     ·rw [txT,if_neg (by decide),if_pos rfl]; exact (hf h).2.1
     ·rw [tms]; simp [Kcq]; exact (hf h).2.2
theorem Kib {t:ByteArray} {a:Int} (ht:t.size ≤ 1048576):∀ (k i:Nat) (n:Int),i + k=t.size→∃ n' q,K3k (t,a,n,(i:Int))=some (n',((q:Nat):Int))∧i ≤ q∧q ≤ t.size:=by
 intro k
 induction k with
 | zero =>
  intro i n hi
  rw [K3k.eq_def]
  simp only
  rw [Kbp (by omega)]
  exact ⟨n,i,rfl,Nat.le_refl _,by omega⟩
 | succ k ih =>
  intro i n hi
  rw [K3k.eq_def]
  simp only
  have hlt:i < t.size:=by omega
  obtain ⟨b,R,hR⟩:∃ b R,(tl t).drop i=b :: R:=by
   cases h:(tl t).drop i with
   | nil=>have:=Kbu h; rw [Kew] at this; omega
   | cons b R=>exact ⟨b,R,rfl⟩
  rw [Kbo hlt,Kf0 hR]
  simp only [if_true,bs]
  have hw:∀ v:Bool,∃ n' q,((if v=true then K3k (t,a,wr (wr (10 * n) + wr (IntKind.u8.wrap ((b.toNat:Int) - 48))),wr ((i:Int) + 1)) else some (n,(i:Int))):Option (Int × Int))=some (n',((q:Nat):Int))∧i ≤ q∧q ≤ t.size:=by
   intro v
   cases v with
   | false=>exact ⟨n,i,rfl,Nat.le_refl _,by omega⟩
   | true =>
    rw [if_pos rfl,Kbn (by omega)]
    obtain ⟨n',q,h1,h2,h3⟩:=ih (i + 1) _ (by omega)
    exact ⟨n',q,h1,by omega,h3⟩
  cases decide ((i:Int) < wr (a + 3)) with
  | false=>exact hw false
  | true =>
   cases decide ((b.toNat:Int) ≥ 48) with
   | false=>exact hw false
   | true=>exact hw (decide ((b.toNat:Int) ≤ 57))
theorem Kic {t:ByteArray} {p:Nat} (ht:t.size ≤ 1048576) (hp:p ≤ t.size):∃ v q,K3n (t,(p:Int))=some (v,((q:Nat):Int))∧p ≤ q∧q ≤ t.size:=by
 unfold K3n
 simp only
 obtain ⟨n',q,h1,h2,h3⟩:=Kib (a:=(p:Int)) ht (t.size - p) p 0 (by omega)
 rw [h1,bs]
 by_cases e:(((q:Nat):Int) == (p:Int))=true
 ·rw [e]; exact ⟨_,p,rfl,Nat.le_refl _,hp⟩
 ·rw [Bool.eq_false_iff.2 e]; exact ⟨_,q,rfl,h2,h3⟩
theorem Kid {t:ByteArray} {p:Nat} (ht:t.size ≤ 1048576) (hp:p ≤ t.size):∃ l e,K51 (t,(p:Int))=some (l,e)∧(e=-1∨∃ q:Nat,e=q∧q ≤ t.size∧p + l.length ≤ q):=by
 have h:=Kgc (t:=t) (l:=0) ht 40 p [] 1 rfl hp (by simp) (fun rest=>rfl)
 obtain ⟨l',q',f',_,_,hr',hf'⟩:=Kgt (L:=0) ht hp
 unfold K8p at hr'
 simp only at hr'
 rw [show ((1:Nat):Int)=1 from rfl] at h
 unfold K51
 simp only
 rcases h with ⟨q,out',hq,hl,hsk,hs,hr⟩ | ⟨hs,_⟩
 ·rw [hr,bs] at hr'
  rw [hs,bs]
  simp only [Option.some.injEq,Prod.mk.injEq,K07.mk.injEq,true_and,and_true] at hr'
  obtain ⟨e1,e2,e3⟩:=hr'
  subst e1
  have e4:q=q':=by omega
  subst e4
  refine ⟨_,_,rfl,.inr ⟨q,rfl,hq,(hf' e3.symm).2⟩⟩
 ·rw [hs,bs]
  exact ⟨_,_,rfl,.inl rfl⟩
theorem Kie {t:ByteArray} {p:Nat} (h:p < t.size):∃ b R,(tl t).drop p=b :: R:=by
 cases hd:(tl t).drop p with
 | nil=>have:=Kbu hd; rw [Kew] at this; omega
 | cons b R=>exact ⟨b,R,rfl⟩
def Kif (t:ByteArray) (p:Nat) (x:K06) (e:Int):Prop:=x.fKids=[]∧(e=-1∨∃ q:Nat,e=q∧q ≤ t.size∧x.fType.length + p + 1 ≤ q)
theorem Kig {t:ByteArray} {p:Nat} (ht:t.size ≤ 1048576) (hp:p ≤ t.size):∀ (k a:Nat),a + k=13→2 ≤ a→∃ r,K58 (t,(p:Int),(a:Int))=some r∧(∀ x e,r=.inr (x,e)→Kif t p x e):=by
 intro k
 induction k with
 | zero =>
  intro a h1 h2
  rw [K58.eq_def]
  simp only
  rw [decide_eq_false (by omega),if_neg (by decide)]
  exact ⟨_,rfl,fun x e h=>by cases h⟩
 | succ k ih =>
  intro a h1 h2
  have next:=ih (a + 1) (by omega) (by omega)
  by_cases hpre:wdL (a:Int) <+: (tl t).drop p∧p + (wdL (a:Int)).length < t.size
  ·obtain ⟨⟨R,hR⟩,hlt⟩:=hpre
   have hR:(tl t).drop p=wdL (a:Int) ++ R:=hR.symm
   have hw:=Kh2 (a:Int)
   rw [K58.eq_def]
   simp only
   have e1:wr ((p:Int) + ((wdL (a:Int)).length:Int))=((p + (wdL (a:Int)).length:Nat):Int):=by rw [Kbl (by omega) (by omega)]; omega
   have d0:decide ((a:Int) ≤ 12)=true:=decide_eq_true (by omega)
   have d1:decide (((p + (wdL (a:Int)).length:Nat):Int) ≥ (t.size:Int))=false:=decide_eq_false (by omega)
   have f1:wr ((a:Int) + 1)=((a + 1:Nat):Int):=Kbn (by omega)
   have hs:=Kf2 hp hR
   have hc:(!((bt (wdL (a:Int))).toList == (Kd0 (a:Int)).toList))=false:=by rw [Kh9,beq_self_eq_true]; rfl
   simp only [d0,if_true,Kh7 (op:=(a:Int)) (by omega) (by omega),bs,wsz,e1,d1,Bool.false_eq_true,if_false,hs,hc,Kd3,Kd4,f1]
   -- behind a type
   have fin:∀ (q:Nat) (M:Int) (l:List Int),q ≤ t.size→l.length + p ≤ q→∃ r,((((if decide (((q:Nat):Int) < (t.size:Int))=true then Qft t ((q:Nat):Int) >>= fun e=>some (e == 40) else some false):Option Bool) >>= fun v=>if v=true then some (Sum.inr (α:=Unit) (K06.mk (a:Int) M l [],wr (((q:Nat):Int) + 1))) else some (.inl ())) >>= fun fl=>match fl with | .inl ()=>K58 (t,(p:Int),((a + 1:Nat):Int)) | .inr r=>some (.inr r))=some r∧(∀ x e,r=.inr (x,e)→Kif t p x e):=by
    intro q M l hq hl
    by_cases hqt:q < t.size
    ·obtain ⟨b,Z,hZ⟩:=Kie hqt
     rw [Kbo hqt,if_pos rfl,Kf0 hZ,bs,bs]
     cases ((b.toNat:Int) == 40) with
     | true =>
      rw [if_pos rfl,bs,Kbn (by omega)]
      refine ⟨_,rfl,fun x e h=>?_⟩
      simp only [Sum.inr.injEq,Prod.mk.injEq] at h
      obtain ⟨rfl,rfl⟩:=h
      exact ⟨rfl,.inr ⟨q + 1,rfl,hqt,by show l.length + p + 1 ≤ q + 1; omega⟩⟩
     | false=>rw [if_neg (by decide),bs]; exact next
    ·rw [Kbp (by omega),if_neg (by decide),bs,if_neg (by decide),bs]
     exact next
   have bad:∀ (M:Int),∃ r,(some (Sum.inr (α:=Unit) (K06.mk (a:Int) M [] [],(-1:Int))) >>= fun fl=>match fl with | .inl ()=>K58 (t,(p:Int),((a + 1:Nat):Int)) | .inr r=>some (.inr r))=some r∧(∀ x e,r=.inr (x,e)→Kif t p x e):=by
    intro M
    rw [bs]
    refine ⟨_,rfl,fun x e h=>?_⟩
    simp only [Sum.inr.injEq,Prod.mk.injEq] at h
    obtain ⟨rfl,rfl⟩:=h
    exact ⟨rfl,.inl rfl⟩
   -- behind a grade
   have mid:∀ (q:Nat) (M:Int),q < t.size→p ≤ q→∃ r,(((((if Kcz (a:Int)=true then Qft t ((q:Nat):Int) >>= fun e=>if (e != 58)=true then some (Sum.inl ()) else K51 (t,wr (((q:Nat):Int) + 1)) >>= fun (r0,r1)=>if decide (r1 < 0)=true then some (.inr (.inr (K06.mk (a:Int) M [] [],-1))) else some (.inr (.inl (r1,r0))) else some (.inr (.inl (((q:Nat):Int),[]))):Option (Unit ⊕ ((Int × List Int) ⊕ (K06 × Int))))) >>= fun fl=>match fl with
     | .inl ()=>some (.inl ())
     | .inr (.inl (end_41,t_42))=>((if decide (end_41 < (t.size:Int))=true then Qft t end_41 >>= fun e=>some (e == 40) else some false):Option Bool) >>= fun v=>if v=true then some (.inr (K06.mk (a:Int) M t_42 [],wr (end_41 + 1))) else some (.inl ())
     | .inr (.inr r)=>some (.inr r)):Option (Unit ⊕ (K06 × Int))) >>= fun fl=>match fl with | .inl ()=>K58 (t,(p:Int),((a + 1:Nat):Int)) | .inr r=>some (.inr r))=some r∧(∀ x e,r=.inr (x,e)→Kif t p x e):=by
    intro q M hq hpq
    cases e:Kcz (a:Int) with
    | true =>
     obtain ⟨b,Z,hZ⟩:=Kie hq
     rw [if_pos rfl,Kf0 hZ,bs]
     cases hb:((b.toNat:Int) != 58) with
     | true=>rw [if_pos rfl,bs]; exact next
     | false =>
      rw [if_neg (by decide),Kbn (by omega)]
      obtain ⟨l,e,h1,h2⟩:=Kid (p:=q + 1) ht (by omega)
      rw [h1,bs]
      rcases h2 with rfl | ⟨q2,rfl,h3,h4⟩
      ·simp only [show decide ((-1:Int) < 0)=true from rfl,if_true,bs]
       exact bad M
      ·have d:decide (((q2:Nat):Int) < 0)=false:=decide_eq_false (by omega)
       simp only [d,Bool.false_eq_true,if_false,bs]
       exact fin q2 M l h3 (by omega)
    | false =>
     rw [if_neg (by decide),bs]
     exact fin q M [] (by omega) (by simp; omega)
   cases e:Kcy (a:Int) with
   | true =>
    obtain ⟨b,Z,hZ⟩:=Kie hlt
    simp only [if_true,Kf0 hZ,bs]
    have hrd:∀ s:UInt8,Ked s=false→s ≠ 63→∃ r,(((((if ((b.toNat:Int) != 58)=true then some (Sum.inl ()) else K4d (t,wr (((p + (wdL (a:Int)).length:Nat):Int) + 1),(s.toNat:Int)) >>= fun (r0,r1)=>if decide (r0 < -1)=true then some (.inr (.inr (K06.mk (a:Int) 0 [] [],-1))) else some (.inr (.inl (wr (r1 - 1),r0)))):Option (Unit ⊕ ((Int × Int) ⊕ (K06 × Int)))) >>= fun fl=>match fl with
      | .inl ()=>some (.inl ())
      | .inr (.inl (end_35,t_36))=>(((if Kcz (a:Int)=true then Qft t end_35 >>= fun e=>if (e != 58)=true then some (Sum.inl ()) else K51 (t,wr (end_35 + 1)) >>= fun (r0,r1)=>if decide (r1 < 0)=true then some (.inr (.inr (K06.mk (a:Int) t_36 [] [],-1))) else some (.inr (.inl (r1,r0))) else some (.inr (.inl (end_35,[]))):Option (Unit ⊕ ((Int × List Int) ⊕ (K06 × Int))))) >>= fun fl=>match fl with
       | .inl ()=>some (.inl ())
       | .inr (.inl (end_41,t_42))=>((if decide (end_41 < (t.size:Int))=true then Qft t end_41 >>= fun e=>some (e == 40) else some false):Option Bool) >>= fun v=>if v=true then some (.inr (K06.mk (a:Int) t_36 t_42 [],wr (end_41 + 1))) else some (.inl ())
       | .inr (.inr r)=>some (.inr r))
      | .inr (.inr r)=>some (.inr r)):Option (Unit ⊕ (K06 × Int))) >>= fun fl=>match fl with | .inl ()=>K58 (t,(p:Int),((a + 1:Nat):Int)) | .inr r=>some (.inr r))=some r∧(∀ x e,r=.inr (x,e)→Kif t p x e):=by
     intro s hs h63
     cases hb:((b.toNat:Int) != 58) with
     | true=>rw [if_pos rfl,bs]; exact next
     | false =>
      rw [if_neg (by decide),Kbn (by omega)]
      rcases Kfw (t:=t) (p:=p + (wdL (a:Int)).length + 1) s hs h63 (by omega) ht with ⟨g,post,hg,hr⟩ | ⟨_,e,hr⟩
      ·obtain ⟨g1,g2,g3⟩:=hg
       have hend:=Kez g3
       have hl2:=(Kex hend).1
       have ee:wr (((p + (wdL (a:Int)).length + 1 + (gt g).length + 1:Nat):Int) - 1)=((p + (wdL (a:Int)).length + 1 + (gt g).length:Nat):Int):=by rw [Kbl (by omega) (by omega)]; omega
       rw [hr,bs]
       simp only [show decide (g < -1)=false from decide_eq_false (by omega),Bool.false_eq_true,if_false,bs,ee]
       exact mid _ g hl2 (by omega)
      ·rw [hr,bs]
       simp only [show decide ((-2:Int) < -1)=true from rfl,if_true,bs]
       exact bad 0
    cases e2:Kcz (a:Int) with
    | true =>
     have:=hrd 58 (by decide) (by decide)
     rw [e2] at this
     exact this
    | false =>
     have:=hrd 40 (by decide) (by decide)
     rw [e2] at this
     exact this
   | false =>
    simp only [Bool.false_eq_true,if_false,bs]
    exact mid _ 0 hlt (by omega)
  ·have hskip:K58 (t,(p:Int),(a:Int))=K58 (t,(p:Int),((a + 1:Nat):Int)):=by
    by_cases h2:wdL (a:Int) <+: (tl t).drop p
    ·have hge:¬ p + (wdL (a:Int)).length < t.size:=fun h=>hpre ⟨h2,h⟩
     have hw:=Kh2 (a:Int)
     rw [K58.eq_def]
     simp only
     have e1:wr ((p:Int) + ((wdL (a:Int)).length:Int))=((p + (wdL (a:Int)).length:Nat):Int):=by rw [Kbl (by omega) (by omega)]; omega
     have d0:decide ((a:Int) ≤ 12)=true:=decide_eq_true (by omega)
     have d1:decide (((p + (wdL (a:Int)).length:Nat):Int) ≥ (t.size:Int))=true:=decide_eq_true (by omega)
     have f1:wr ((a:Int) + 1)=((a + 1:Nat):Int):=Kbn (by omega)
     simp only [d0,if_true,Kh7 (op:=(a:Int)) (by omega) (by omega),bs,wsz,e1,d1,f1]
    ·exact Khm ht hp (by omega) h2
   rw [hskip]
   exact next
theorem Kih {t:ByteArray} {p:Nat} (ht:t.size ≤ 1048576) (hp:p ≤ t.size):∃ x e,K5b (t,(p:Int))=some (x,e)∧Kif t p x e:=by
 obtain ⟨r,h1,h2⟩:=Kig ht hp 11 2 rfl (Nat.le_refl _)
 rw [show ((2:Nat):Int)=2 from rfl] at h1
 unfold K5b
 simp only
 rw [h1,bs]
 cases r with
 | inl u=>exact ⟨_,_,rfl,rfl,.inl rfl⟩
 | inr r=>exact ⟨r.1,r.2,rfl,h2 r.1 r.2 rfl⟩
def Kii (t:ByteArray) (p left:Nat) (r:Option (K06 × Int × Int)):Prop :=
 ∃ x e n,r=some (x,e,n)∧(e=-1∨∃ q m:Nat,e=q∧n=m∧q ≤ t.size∧tms x + p ≤ q∧m < left)
theorem Kij {t:ByteArray} (ht:t.size ≤ 1048576) (h:K06) (L0:Nat) (hL0:L0 ≤ 1000) (IH:∀ L:Nat,L < L0→∀ p,p ≤ t.size→Kii t p L (K5i (t,(p:Int),(L:Int)))) :
  ∀ (r:Nat) (acc:List K06) (p L:Nat),Kcx h.fOp ≤ ((acc.length + r:Nat):Int)→acc.length + r ≤ 1000→p ≤ t.size→L < L0 →
   (∃ x,K5j (t,h,(L:Int),acc,(p:Int),(acc.length:Int))=some (.inr (x,-1,0))) ∨
   (∃ (ks:List K06) (q m:Nat),K5j (t,h,(L:Int),acc,(p:Int),(acc.length:Int))=some (.inl ((m:Int),acc ++ ks,((q:Nat):Int)))∧q ≤ t.size∧m < L0∧Kcq ks + ks.length + p ≤ q):=by
 intro r
 induction r with
 | zero =>
  intro acc p L hm hr hp hL
  rw [K5j.eq_def]
  simp only
  have d1:decide ((p:Int) ≥ 0)=true:=decide_eq_true (by omega)
  have d2:decide ((acc.length:Int) < Kcx h.fOp)=false:=decide_eq_false (by omega)
  simp only [d1,if_true,Kd2,bs,d2,Bool.false_eq_true,if_false]
  exact .inr ⟨[],p,L,by simp,hp,hL,by simp [Kcq]⟩
 | succ r ih =>
  intro acc p L hm hr hp hL
  rw [K5j.eq_def]
  simp only
  have d1:decide ((p:Int) ≥ 0)=true:=decide_eq_true (by omega)
  simp only [d1,if_true,Kd2,bs]
  cases hd:decide ((acc.length:Int) < Kcx h.fOp) with
  | false =>
   simp only [Bool.false_eq_true,if_false]
   exact .inr ⟨[],p,L,by simp,hp,hL,by simp [Kcq]⟩
  | true =>
   simp only [if_true]
   obtain ⟨x,e,n,hx,hxe⟩:=IH L hL p hp
   rw [hx,bs]
   simp only
   have hst:∃ s:Int,(if ((acc.length:Int) == wr (Kcx h.fOp - 1))=true then some 41 else some 44:Option Int)=some s:=by
    cases ((acc.length:Int) == wr (Kcx h.fOp - 1)) <;> exact ⟨_,rfl⟩
   obtain ⟨s,hs⟩:=hst
   rw [hs,bs]
   rcases hxe with rfl | ⟨q,m,rfl,rfl,hq,hq2,hm2⟩
   ·rw [show decide ((-1:Int) < 0)=true from rfl]
    simp only [if_true,bs]
    exact .inl ⟨_,rfl⟩
   ·have d3:decide (((q:Nat):Int) < 0)=false:=decide_eq_false (by omega)
    simp only [d3,Bool.false_eq_true,if_false]
    by_cases hqt:q < t.size
    ·obtain ⟨b,Z,hZ⟩:=Kie hqt
     have d4:decide (((q:Nat):Int) ≥ (t.size:Int))=false:=decide_eq_false (by omega)
     simp only [d4,Bool.false_eq_true,if_false,Kf0 hZ,bs]
     cases hb:((b.toNat:Int) != s) with
     | true=>simp only [if_true]; exact .inl ⟨_,rfl⟩
     | false =>
      have hf:Qey (acc.length + [x].length) 64=some ():=Kdr (by simp; omega)
      have f4:wr ((acc.length:Int) + 1)=((acc ++ [x]).length:Int):=by rw [Kbn (by omega)]; simp
      simp only [Bool.false_eq_true,if_false,hf,bs,f4]
      rw [Kbn (by omega)]
      rcases ih (acc ++ [x]) (q + 1) m (by simp; omega) (by simp; omega) hqt (by omega) with ⟨y,hy⟩ | ⟨ks,q2,m2,h1,h2,h3,h4⟩
      ·exact .inl ⟨y,hy⟩
      ·refine .inr ⟨x :: ks,q2,m2,by rw [h1]; simp,h2,h3,?_⟩
       rw [Kcq,List.length_cons]; omega
    ·have d4:decide (((q:Nat):Int) ≥ (t.size:Int))=true:=decide_eq_true (by omega)
     simp only [d4,if_true,bs]
     exact .inl ⟨_,rfl⟩
theorem Kik {t:ByteArray} (ht:t.size ≤ 1048576):∀ (L:Nat),L ≤ 1000→∀ p,p ≤ t.size→Kii t p L (K5i (t,(p:Int),(L:Int))):=by
 intro L
 induction L using Nat.strongRecOn with
 | ind L IH =>
  intro hL p hp
  rw [K5i.eq_def]
  simp only
  by_cases h0:p < t.size∧0 < L
  ·obtain ⟨hpt,hL0⟩:=h0
   obtain ⟨b,R,hR⟩:=Kie hpt
   have d1:decide ((p:Int) ≥ (t.size:Int))=false:=decide_eq_false (by omega)
   have d2:decide ((L:Int) ≤ 0)=false:=decide_eq_false (by omega)
   have f3:wr ((L:Int) - 1)=((L - 1:Nat):Int):=by rw [Kbl (by omega) (by omega)]; omega
   have f2:wr ((p:Int) + 1)=((p + 1:Nat):Int):=Kbn (by omega)
   simp only [d1,d2,Bool.false_eq_true,if_false,bs,Kf0 hR,f2,f3]
   cases h120:((b.toNat:Int) == 120) with
   | true =>
    simp only [if_true]
    obtain ⟨v,q,hv,hq1,hq2⟩:=Kic (p:=p + 1) ht (by omega)
    rw [hv,bs]
    simp only
    cases decide (v < 0) with
    | true=>exact ⟨_,_,_,rfl,.inl rfl⟩
    | false=>exact ⟨_,_,_,rfl,.inr ⟨q,L - 1,rfl,rfl,hq2,by rw [tms]; simp [Kcq]; omega,by omega⟩⟩
   | false =>
    simp only [Bool.false_eq_true,if_false]
    have hdig:∀ v:Bool,Kii t p L (if v=true then some (⟨1,wr (IntKind.u8.wrap ((b.toNat:Int) - 48)),[],[]⟩,((p + 1:Nat):Int),((L - 1:Nat):Int)) else
      K5b (t,(p:Int)) >>= fun (r0,r1)=>K5j (t,r0,((L - 1:Nat):Int),r0.fKids,r1,0) >>= fun fl=>match fl with
       | .inl (left_31,t_32,next_33)=>some (K06.mk r0.fOp r0.fN r0.fType t_32,next_33,left_31)
       | .inr r=>some r):=by
     intro v
     cases v with
     | true=>exact ⟨_,_,_,rfl,.inr ⟨p + 1,L - 1,rfl,rfl,hpt,by rw [tms]; simp [Kcq],by omega⟩⟩
     | false =>
      rw [if_neg (by decide)]
      obtain ⟨x,e,hx,hk,he⟩:=Kih (p:=p) ht hp
      rw [hx,bs]
      simp only
      rw [hk]
      rcases he with rfl | ⟨q,rfl,hq,hq2⟩
      ·rw [K5j.eq_def]
       simp only [show decide ((-1:Int) ≥ 0)=false from rfl,Bool.false_eq_true,if_false,bs]
       exact ⟨_,_,_,rfl,.inl rfl⟩
      ·have hmany:Kcx x.fOp ≤ 3:=by
        cases hin:inB x.fOp 0 12 with
        | true=>exact (Kh1 hin).1
        | false=>unfold Kcx; rw [hin,if_neg (by decide)]; decide
       have hkk:=Kij ht x L hL (fun L' h p hp=>IH L' h (by omega) p hp) 3 [] q (L - 1) (by simpa using hmany) (by simp) hq (by omega)
       rw [show (([]:List K06).length:Int)=0 from rfl] at hkk
       rcases hkk with ⟨y,hy⟩ | ⟨ks,q2,m,h1,h2,h3,h4⟩
       ·rw [hy,bs]
        exact ⟨_,_,_,rfl,.inl rfl⟩
       ·rw [h1,bs]
        simp only [List.nil_append]
        exact ⟨_,_,_,rfl,.inr ⟨q2,m,rfl,rfl,h2,by rw [tms]; omega,h3⟩⟩
    cases decide ((b.toNat:Int) ≥ 48) with
    | true=>exact hdig (decide ((b.toNat:Int) ≤ 57))
    | false=>exact hdig false
  ·have hv:((if decide ((p:Int) ≥ (t.size:Int))=true then some true else some (decide ((L:Int) ≤ 0))):Option Bool)=some true:=by
    by_cases h1:p < t.size
    ·rw [decide_eq_false (by omega),if_neg (by decide),decide_eq_true (by omega)]
    ·rw [decide_eq_true (by omega),if_pos rfl]
   rw [hv,bs,if_pos rfl]
   exact ⟨_,_,_,rfl,.inl rfl⟩
theorem Kil {x:K06} (h:okW x=true):txT x ≠ []:=by
 obtain ⟨op,N,ty,ks⟩:=x
 rw [txT]
 split
 ·simp
 ·split
  ·rename_i e0 e1
   have:=(Kh0 h).2.2.2.1 e1
   rw [Khq this.1]; exact Keg _
  ·simp
theorem Kim:nod []:=fun b r h=>by cases h
theorem Kin (s:ByteArray) (hs:s.size ≤ 1048576):∃ w0 w1,K7l s=some (w0,w1)∧K9x s=some (w0,w1)∧tms w0 ≤ 1099511627776:=by
 have hz:tms ⟨0,0,[],[]⟩ ≤ 1099511627776:=by rw [tms]; simp [Kcq]
 obtain ⟨x,e,n,hx,hxe⟩:=Kik hs 400 (by omega) 0 (Nat.zero_le _)
 obtain ⟨y,q,f,L',hy,hq,_,_,hf⟩:=Kia hs 400 (by omega) 0 (Nat.zero_le _)
 rw [show ((0:Nat):Int)=0 from rfl,show ((400:Nat):Int)=400 from rfl] at hx hy
 -- where a written term stands in the text,both read it
 have both:∀ z:K06,wB z=true→s.data.toList=txT z→K5i (s,0,400)=some (z,(s.size:Int),((400 - tsz z:Nat):Int))∧K8u ⟨s,0,false,400⟩=some (z,⟨s,(s.size:Int),false,((400 - tsz z:Nat):Int)⟩):=by
  intro z hz hst
  obtain ⟨z1,z2⟩:=Kgz hz
  have hd:(tl s).drop 0=txT z ++ []:=by rw [List.drop_zero,List.append_nil]; exact hst
  have h1:=Khr z s 0 400 [] z1 hs (Nat.zero_le _) hd Kim z2 (by omega)
  have h2:=Ki0 z s 0 400 [] z1 hs (Nat.zero_le _) hd Kim z2 (by omega)
  have e:0 + (txT z).length=s.size:=by rw [← hst,← Keb]; omega
  rw [e] at h1 h2
  exact ⟨h1,h2⟩
 have hne:∀ z:K06,wB z=true→s.data.toList=txT z→(s.toList == ByteArray.empty.toList)=false:=by
  intro z hz hst
  rw [beq_eq_false_iff_ne,ByteArray.toList_eq,ByteArray.toList_eq,hst]
  exact Kil (Kgz hz).1
 by_cases hex:∃ z,wB z=true∧s.data.toList=txT z
 ·obtain ⟨z,hz1,hst⟩:=hex
  obtain ⟨b1,b2⟩:=both z hz1 hst
  have hzm:tms z ≤ 1099511627776:=by
   rw [b1] at hx
   simp only [Option.some.injEq,Prod.mk.injEq] at hx
   obtain ⟨rfl,rfl,_⟩:=hx
   rcases hxe with h | ⟨q,m,h1,h2,h3,h4,h5⟩
   ·omega
   ·omega
  refine ⟨z,true,?_,?_,hzm⟩
  ·unfold K7l
   rw [b1,bs]
   simp only [bne_self_eq_false,Bool.false_eq_true,if_false]
   rw [Khc hzm,bs,if_pos hz1,Ke7,ByteArray.toList_eq,hst,beq_self_eq_true]
   simp only [if_true,bs]
   have:=hne z hz1 hst
   rw [ByteArray.toList_eq,hst] at this
   rw [this]; rfl
  ·unfold K9x
   rw [b2,bs]
   simp only [bne_self_eq_false,Bool.false_eq_true,if_false]
   rw [Kdn z hzm,bs,hz1]; rfl
 ·refine ⟨⟨0,0,[],[]⟩,false,?_,?_,hz⟩
  ·unfold K7l
   rw [hx,bs]
   simp only
   by_cases he:(e != (s.size:Int))=true
   ·rw [he]; rfl
   ·have he2:e=(s.size:Int):=by simpa using he
    rw [Bool.eq_false_iff.2 he]
    simp only [Bool.false_eq_true,if_false]
    have hxm:tms x ≤ 1099511627776:=by
     rcases hxe with h | ⟨q,m,h1,h2,h3,h4,h5⟩
     ·omega
     ·omega
    rw [Khc hxm,bs]
    by_cases hw:wB x=true
    ·rw [if_pos hw,Ke7,ByteArray.toList_eq]
     rw [show (txT x == s.data.toList)=false by rw [beq_eq_false_iff_ne]; exact fun e=>hex ⟨x,hw,e.symm⟩]
     rfl
    ·rw [if_neg hw]
     cases hq:(ByteArray.empty.toList == s.toList) with
     | false=>rfl
     | true =>
      rw [if_pos rfl,bs]
      rw [beq_iff_eq] at hq
      rw [hq,beq_self_eq_true]; rfl
  ·unfold K9x
   rw [hy,bs]
   simp only
   cases f with
   | true=>rfl
   | false =>
    obtain ⟨f1,f2,f3⟩:=hf rfl
    simp only [Bool.false_eq_true,if_false]
    by_cases he:(((q:Nat):Int) != (s.size:Int))=true
    ·rw [he]; rfl
    ·have he1:((q:Nat):Int)=(s.size:Int):=by simpa using he
     have he2:q=s.size:=by omega
     rw [Bool.eq_false_iff.2 he]
     simp only [Bool.false_eq_true,if_false]
     rw [Kdn y (by omega),bs]
     have hd:(tl s).drop q=[]:=List.drop_eq_nil_of_le (by rw [Kew]; omega)
     rw [List.drop_zero,hd,List.append_nil] at f2
     cases hw:wB y with
     | true=>exact absurd ⟨y,hw,f2⟩ hex
     | false=>rfl
theorem Kio (x0:ByteArray) (hx0:x0.size ≤ 9223372036854775807):Kbi x0=some true:=by
 unfold Kbi
 by_cases gx0:x0.size ≤ 1048576
 ·rw [decide_eq_false (by omega),if_neg (by decide)]
  obtain ⟨w0,w1,s1,s2,c0⟩:=Kin x0 gx0
  obtain ⟨N0,n0,n0'⟩:=Ke3 w0 1 (by omega) (by omega)
  have y0:=Kdx w0
  rw [show ((1:Nat):Int)=1 from rfl] at n0 n0'
  simp only [s1,s2,bs,Kdp w0 (by omega),n0,n0' w0.fOp w0.fN,Ke4,if_true,if_false,Bool.false_eq_true,Kbq,Bool.not_true,Bool.not_false,Ke5,beq_self_eq_true]
  repeat (rw [decide_eq_false (by omega)]; simp only [bs,Bool.false_eq_true,if_false,if_true,Kbq,Ke4,Bool.not_true,n0,n0' w0.fOp w0.fN])
 ·rw [decide_eq_true (by omega),if_pos rfl]
end Go.Am
