/- Plain laws of the printed functions. -/
import Derived.Test.YtckgdfakjjdodaaGreatPSN0
set_option linter.unusedSimpArgs false
set_option linter.unusedVariables false
namespace Go.Am
theorem Kzz (k:Nat) (h:k ≤ 1048576):Kf7 (k:Int)=some (Kyx (List.replicate k 0)):=by
 unfold Kf7
 rw [Int.toNat_natCast,Kxs (by constructor <;> omega),bs]
 unfold Kyx
 rw [List.map_replicate]
 rfl
theorem V00 (ctx front:List (List Int)) (h:ctx.length + front.length ≤ 1048576):Kf4 (ctx,front)=some (front ++ ctx):=by
 unfold Kf4
 simp only
 rw [Kvt (by simp; omega),bs,Kvt (by omega),bs]
theorem V01 (ps:List (List Int)) (hp:ps.length ≤ 1099511627776):∀ (l:List (List Int)) (i:Nat) (out:List Int),ps.drop i=l→out.length + l.flatten.length ≤ 1099511627776→Kdp (ps,out,(i:Int))=some (out ++ l.flatten):=by
 intro l
 induction l with
 | nil =>
  intro i out hd _
  rw [Kdp.eq_def]
  simp only
  rw [Kst (Ktw hd)]
  simp
 | cons x l ih =>
  intro i out hd ho
  obtain ⟨h1,h2,h3⟩:=Ktv hd
  rw [List.flatten_cons,List.length_append] at ho
  rw [Kdp.eq_def]
  simp only
  rw [Kss h1,if_pos rfl,h2,bs,Kvt (by omega),bs,Ksr (by omega),ih (i + 1) _ h3 (by rw [List.length_append]; omega),List.flatten_cons,List.append_assoc]
theorem V02 (c:Int) (ps:List (List Int)) (hp:ps.length ≤ 1048576) (h:ps.flatten.length ≤ 1048576):Kds (c,ps)=some (c :: ps.flatten):=by
 unfold Kds
 simp only
 rw [show (0:Int)=((0:Nat):Int) from rfl,V01 ps (by omega) ps 0 [c] rfl (by rw [List.length_singleton]; omega)]
 rfl
theorem V03 (ps:List (List (Int))) (hp:ps.length ≤ 1099511627776):∀ (l:List (List (Int))) (i sz:Nat),ps.drop i=l→sz + l.flatten.length ≤ 1099511627776→Kox (ps,(sz:Int),(i:Int))=some (((sz + l.flatten.length:Nat)):Int):=by
 intro l
 induction l with
 | nil =>
  intro i sz hd _
  rw [Kox.eq_def]
  simp only
  rw [Kst (Ktw hd)]
  simp
 | cons x l ih =>
  intro i sz hd ho
  obtain ⟨h1,h2,h3⟩:=Ktv hd
  rw [List.flatten_cons,List.length_append] at ho
  have e:wr ((sz:Int) + (x.length:Int))=((sz + x.length:Nat):Int):=Kx2 (by omega) (by omega)
  rw [Kox.eq_def]
  simp only
  rw [Kss h1,if_pos rfl,h2,bs,e,decide_eq_false (by omega),if_neg (by decide),bs,Ksr (by omega),ih (i + 1) _ h3 (by omega),List.flatten_cons,List.length_append,Nat.add_assoc]
theorem V04 (ps:List (List (Int))) (hp:ps.length ≤ 1099511627776):∀ (l:List (List (Int))) (i:Nat) (out:List (Int)),ps.drop i=l→out.length + l.flatten.length ≤ 1099511627776→Kp1 (ps,out,(i:Int))=some (out ++ l.flatten):=by
 intro l
 induction l with
 | nil =>
  intro i out hd _
  rw [Kp1.eq_def]
  simp only
  rw [Kst (Ktw hd)]
  simp
 | cons x l ih =>
  intro i out hd ho
  obtain ⟨h1,h2,h3⟩:=Ktv hd
  rw [List.flatten_cons,List.length_append] at ho
  rw [Kp1.eq_def]
  simp only
  rw [Kss h1,if_pos rfl,h2,bs,Kvt (by omega),bs,Ksr (by omega),ih (i + 1) _ h3 (by rw [List.length_append]; omega),List.flatten_cons,List.append_assoc]
theorem V05 (k:Nat) (h:k ≤ 1048576):Kot (k:Int)=some ():=by
 unfold Kot
 have e:wr ((k:Int) - wr (0 - 0))=(k:Int):=by rw [Ksp (x:=0 - 0) (by decide) (by decide),Ksp (by omega) (by omega)]; omega
 rw [decide_eq_false (by omega),if_neg (by decide),e]
 by_cases hk:k=0
 ·subst hk; rfl
 ·rw [decide_eq_true (by omega),if_pos rfl,Int.toNat_natCast,Kxs (by constructor <;> omega),bs]
theorem V06 (ps:List (List (Int))) (hp:ps.length ≤ 1048576) (h:ps.flatten.length ≤ 1048576):Kp4 ps=some ps.flatten:=by
 unfold Kp4
 have h0:=V03 ps (by omega) ps 0 0 rfl (by omega)
 rw [Nat.zero_add] at h0
 rw [show (0:Int)=((0:Nat):Int) from rfl,h0,bs,V05 _ h,bs,V04 ps (by omega) ps 0 [] rfl (by rw [List.length_nil]; omega)]
 rfl
theorem V07 (ps:List (List (List Int))) (hp:ps.length ≤ 1099511627776):∀ (l:List (List (List Int))) (i sz:Nat),ps.drop i=l→sz + l.flatten.length ≤ 1099511627776→Kni (ps,(sz:Int),(i:Int))=some (((sz + l.flatten.length:Nat)):Int):=by
 intro l
 induction l with
 | nil =>
  intro i sz hd _
  rw [Kni.eq_def]
  simp only
  rw [Kst (Ktw hd)]
  simp
 | cons x l ih =>
  intro i sz hd ho
  obtain ⟨h1,h2,h3⟩:=Ktv hd
  rw [List.flatten_cons,List.length_append] at ho
  have e:wr ((sz:Int) + (x.length:Int))=((sz + x.length:Nat):Int):=Kx2 (by omega) (by omega)
  rw [Kni.eq_def]
  simp only
  rw [Kss h1,if_pos rfl,h2,bs,e,decide_eq_false (by omega),if_neg (by decide),bs,Ksr (by omega),ih (i + 1) _ h3 (by omega),List.flatten_cons,List.length_append,Nat.add_assoc]
theorem V08 (ps:List (List (List Int))) (hp:ps.length ≤ 1099511627776):∀ (l:List (List (List Int))) (i:Nat) (out:List (List Int)),ps.drop i=l→out.length + l.flatten.length ≤ 1099511627776→Knm (ps,out,(i:Int))=some (out ++ l.flatten):=by
 intro l
 induction l with
 | nil =>
  intro i out hd _
  rw [Knm.eq_def]
  simp only
  rw [Kst (Ktw hd)]
  simp
 | cons x l ih =>
  intro i out hd ho
  obtain ⟨h1,h2,h3⟩:=Ktv hd
  rw [List.flatten_cons,List.length_append] at ho
  rw [Knm.eq_def]
  simp only
  rw [Kss h1,if_pos rfl,h2,bs,Kvt (by omega),bs,Ksr (by omega),ih (i + 1) _ h3 (by rw [List.length_append]; omega),List.flatten_cons,List.append_assoc]
theorem V09 (k:Nat) (h:k ≤ 1048576):Kne (k:Int)=some ():=by
 unfold Kne
 have e:wr ((k:Int) - wr (0 - 0))=(k:Int):=by rw [Ksp (x:=0 - 0) (by decide) (by decide),Ksp (by omega) (by omega)]; omega
 rw [decide_eq_false (by omega),if_neg (by decide),e]
 by_cases hk:k=0
 ·subst hk; rfl
 ·rw [decide_eq_true (by omega),if_pos rfl,Int.toNat_natCast,Kxs (by constructor <;> omega),bs]
theorem V0a (ps:List (List (List Int))) (hp:ps.length ≤ 1048576) (h:ps.flatten.length ≤ 1048576):Knp ps=some ps.flatten:=by
 unfold Knp
 have h0:=V07 ps (by omega) ps 0 0 rfl (by omega)
 rw [Nat.zero_add] at h0
 rw [show (0:Int)=((0:Nat):Int) from rfl,h0,bs,V09 _ h,bs,V08 ps (by omega) ps 0 [] rfl (by rw [List.length_nil]; omega)]
 rfl
def V0b (s:K00) (ctx:List (List Int)):Bool:=decide (ctx.length ≤ 8) && ctx.all (yN s.fSize true)
theorem sYn {s:K00} {ty:List Int} (h:ty.length ≤ 1099511627776):(Kse ty >>= fun r=>if r=true then Ksg (ty,s.fSize,true) >>= fun q=>some (!q) else some true)=some (!yN s.fSize true ty):=by
 rw [Kui ty h,bs]
 unfold yN
 cases wtB ty with
 | false=>rfl
 | true=>rw [if_pos rfl,Kuo ty h,bs]; rfl
theorem V0c (s:K00) (ctx:List (List Int)) (hc:ctx.length ≤ 1048576) (hl:∀ ty ∈ ctx,ty.length ≤ 1099511627776):∀ (l:List (List Int)) (i:Nat),ctx.drop i=l→Ksl (s,ctx,(i:Int))=some (if l.all (yN s.fSize true) then .inl () else .inr false):=by
 intro l
 induction l with
 | nil =>
  intro i hd
  rw [Ksl.eq_def]
  simp only
  rw [Kst (Ktw hd)]; rfl
 | cons x l ih =>
  intro i hd
  obtain ⟨h1,h2,h3⟩:=Ktv hd
  have hx:x ∈ ctx:=List.mem_of_mem_drop (i:=i) (by rw [hd]; exact List.mem_cons_self)
  rw [Ksl.eq_def]
  simp only
  rw [Kss h1,if_pos rfl]
  simp only [h2,bs]
  rw [sYn (hl x hx),bs,Ksr (by omega),ih (i + 1) h3,List.all_cons]
  cases yN s.fSize true x <;> cases l.all (yN s.fSize true) <;> rfl
theorem V0d (s:K00) (ctx:List (List Int)) (hc:ctx.length ≤ 1048576) (hl:∀ ty ∈ ctx,ty.length ≤ 1099511627776):Ksm (s,ctx)=some (V0b s ctx):=by
 unfold Ksm V0b
 simp only
 by_cases h:ctx.length ≤ 8
 ·rw [decide_eq_false (by omega),decide_eq_true h,if_neg (by decide),show (0:Int)=((0:Nat):Int) from rfl,V0c s ctx hc hl ctx 0 rfl,bs]
  cases ctx.all (yN s.fSize true) <;> rfl
 ·rw [decide_eq_true (by omega),decide_eq_false h,if_pos rfl]; rfl
theorem V0e (s:K00) (ctx:List (List Int)) (hc:ctx.length ≤ 1048576) (hl:∀ ty ∈ ctx,ty.length ≤ 1099511627776):∀ (l:List (List Int)) (i:Nat),ctx.drop i=l→∃ r,Km8 (ctx,s,(i:Int))=some r∧(match r with | .inl _=>l.all (Kwv s)=true | .inr j=>l.all (Kwv s)=false∧0 ≤ j):=by
 intro l
 induction l with
 | nil =>
  intro i hd
  rw [Km8.eq_def]
  simp only
  rw [Kst (Ktw hd)]
  exact ⟨_,rfl,rfl⟩
 | cons x l ih =>
  intro i hd
  obtain ⟨h1,h2,h3⟩:=Ktv hd
  have hx:x ∈ ctx:=List.mem_of_mem_drop (i:=i) (by rw [hd]; exact List.mem_cons_self)
  rw [Km8.eq_def]
  simp only
  rw [Kss h1,if_pos rfl,h2,bs]
  unfold Km4
  simp only
  rw [Kwx s x (hl x hx)]
  simp only [bs]
  cases hle:Kwv s x with
  | true =>
   obtain ⟨r,hr,hm⟩:=ih (i + 1) h3
   refine ⟨r,?_,?_⟩
   ·rw [if_neg (by simp),Ksr (by omega)]; exact hr
   ·rw [List.all_cons,hle,Bool.true_and]; exact hm
  | false=>exact ⟨_,if_pos rfl,by simp [List.all_cons,hle]⟩
theorem V0f (s:K00) (hs:Kw7 s=true) (ctx:List (List Int)) (hc:ctx.length ≤ 1048576) (hl:∀ ty ∈ ctx,ty.length ≤ 1099511627776):Kmh (s,ctx)=some (V0b s ctx):=by
 have e:ctx.all (Kwv s)=ctx.all (yN s.fSize true):=by
  congr 1
  funext ty
  exact Kx0 (Kw8 hs) ty
 unfold Kmh V0b
 simp only
 by_cases h:ctx.length ≤ 8
 ·rw [decide_eq_true (by omega:(ctx.length:Int) ≤ 8),decide_eq_true h,if_pos rfl]
  obtain ⟨r,hr,hm⟩:=V0e s ctx hc hl ctx 0 rfl
  unfold Kme Kmb
  simp only
  rw [show (0:Int)=((0:Nat):Int) from rfl,hr]
  rw [e] at hm
  cases r with
  | inl _=>simp only [bs] at hm ⊢; rw [hm]; rfl
  | inr j =>
   simp only [bs] at hm ⊢
   rw [hm.1,decide_eq_true (by omega)]; rfl
 ·rw [decide_eq_false (by omega),decide_eq_false h,if_neg (by decide)]; rfl
theorem V0g {s:K00} (ty:List Int) (h:ty.length ≤ 1099511627776):Kmn (ty,s)=some (Kwv s ty):=by
 unfold Kmn
 simp only
 rw [Kwx s ty h,bs]
mutual
theorem V0h (s:K00):∀ (t:K01) (n nodes:Nat),tms t ≤ 1099511627776→n + 2 * tms t ≤ 35184372088832→nodes ≤ 400→Kmu (t,(n:Int),s,s,(nodes:Int))=some (Kvm (tOk (Kws s) (Kwv s) n t) nodes (tsz t))
 | ⟨op,N,ty,ks⟩,n,nodes,ht,hn,hd=>by
  rw [tms] at ht hn
  rw [Kmu.eq_def,tOk,tsz]
  simp only
  rw [Kv9,bs]
  unfold Kv8
  cases hop:inB op 0 12
  ·simp [Kvg,hop,Kvm]
  ·simp only [if_true]
   rw [Ksr (by omega)]
   by_cases h4:nodes + 1 ≤ 400
   ·rw [decide_eq_false (by omega:¬ ((nodes + 1:Nat):Int) > 400)]
    by_cases hk:(ks.length:Int)=Kv0 op
    ·rw [show ((ks.length:Int) != Kv0 op)=false by rw [hk]; exact Ksu]
     simp only [Bool.false_eq_true,if_false,bs]
     refine (Kup (x:=Kve (Kws s) (n:Int) ⟨op,N,ty,ks⟩) ?_).trans ?_
     ·unfold Kve
      simp only [iIn,Ksp (x:=(n:Int) - 1) (by omega) (by omega),Kwt,bs]
      cases op == 0 <;> cases op == 1 <;> cases Kv1 op <;> rfl
     refine (Kup (x:=Kve (Kws s) (n:Int) ⟨op,N,ty,ks⟩ && Kvf (Kwv s) ⟨op,N,ty,ks⟩) ?_).trans ?_
     ·unfold Kvf
      simp only [V0g ty (by omega),bs]
      cases Kv2 op <;> cases Kve (Kws s) (n:Int) ⟨op,N,ty,ks⟩ <;> rfl
     have e:Kvg (Kws s) (Kwv s) (n:Int) ⟨op,N,ty,ks⟩=(Kve (Kws s) (n:Int) ⟨op,N,ty,ks⟩ && Kvf (Kwv s) ⟨op,N,ty,ks⟩):=by
      unfold Kvg
      simp only
      rw [hop,hk]; simp
     rw [e]
     cases Kve (Kws s) (n:Int) ⟨op,N,ty,ks⟩ && Kvf (Kwv s) ⟨op,N,ty,ks⟩
     ·simp [Kvm]
     ·have h:=V0i s ks ⟨op,N,ty,ks⟩ n (nodes + 1) 0 rfl (by simp only; omega) (by omega) (by omega) h4
      rw [if_pos rfl,show (0:Int)=((0:Nat):Int) from rfl,h]
      simp only [Bool.true_and]
      unfold Kvm
      rw [show nodes + (1 + Kuq ks)=nodes + 1 + Kuq ks by omega]
      cases Kvh (Kws s) (Kwv s) op n 0 ks && decide (nodes + 1 + Kuq ks ≤ 400) <;> rfl
    ·rw [show ((ks.length:Int) != Kv0 op)=true by simpa using hk]
     have e:Kvg (Kws s) (Kwv s) (n:Int) ⟨op,N,ty,ks⟩=false:=by
      unfold Kvg
      simp only
      rw [show ((ks.length:Int) == Kv0 op)=false by simpa using hk]; simp
     simp [e,Kvm]
   ·rw [decide_eq_true (by omega:((nodes + 1:Nat):Int) > 400)]
    have:¬ nodes + (1 + Kuq ks) ≤ 400:=by omega
    simp [Kvm,this]
theorem V0i (s:K00):∀ (ks:List K01) (t:K01) (n nodes i:Nat),t.fKids.drop i=ks→t.fKids.length ≤ 1099511627776→Kur ks ≤ 1099511627776→n + 2 * (ks.length + Kur ks) ≤ 35184372088832→nodes ≤ 400 →
  Kmv (t,(n:Int),s,s,(nodes:Int),(i:Int))=some (if Kvh (Kws s) (Kwv s) t.fOp n i ks && decide (nodes + Kuq ks ≤ 400) then .inl ((nodes + Kuq ks:Nat):Int) else .inr 401)
 | [],t,n,nodes,i,hd,hk,ht,hn,h4=>by
  rw [Kmv.eq_def,Kvh,Kuq]
  simp only
  rw [Kst (Ktw hd)]
  simp [h4]
 | k :: ks,t,n,nodes,i,hd,hk,ht,hn,h4=>by
  obtain ⟨hi,hx,hd'⟩:=Ktv hd
  rw [Kur] at ht hn
  rw [List.length_cons] at hn
  have ha:=Kvb t.fOp (i:Int)
  rw [Kmv.eq_def,Kvh,Kuq]
  simp only
  rw [Kss hi,if_pos rfl,hx,bs,Kvd,bs,Ksp (by omega) (by omega),show (n:Int) + ((Kva t.fOp (i:Int):Nat):Int)=((n + Kva t.fOp (i:Int):Nat):Int) by omega]
  rw [V0h s k (n + Kva t.fOp (i:Int)) nodes (by omega) (by omega) h4,bs,Ksr (by omega)]
  unfold Kvm
  cases tOk (Kws s) (Kwv s) (n + Kva t.fOp (i:Int)) k
  ·rfl
  ·by_cases q:nodes + tsz k ≤ 400
   ·rw [decide_eq_true q,Bool.true_and,if_pos rfl,decide_eq_false (by omega:¬ ((nodes + tsz k:Nat):Int) > 400),if_neg (by decide),V0i s ks t n (nodes + tsz k) (i + 1) hd' hk (by omega) (by omega) q,Nat.add_assoc,Bool.true_and]
   ·rw [decide_eq_false q,decide_eq_false (by omega:¬ nodes + (tsz k + Kuq ks) ≤ 400)]
    simp
end
theorem V0j {s:K00} {n:Nat} (h:Tab s n):Kws s=gN s.fSize true:=by
 funext g
 rw [Kwy h]
 unfold gN inB
 rw [h.size]
 rw [Bool.eq_iff_iff]
 simp
 omega
theorem V0k (s:K00) (hs:Kw7 s=true) (t:K01) (n:Nat) (hn:n ≤ 8) (ht:tms t ≤ 1099511627776):Kn1 (s,t,(n:Int))=some (Kyi s t n):=by
 have hy:Kwv s=yN s.fSize true:=funext fun ty=>Kx0 (Kw8 hs) ty
 unfold Kn1 Kyi
 simp only
 rw [iIn,bs,hs]
 have:inB (n:Int) 0 8=true:=by unfold inB; rw [decide_eq_true (by omega),decide_eq_true (by omega)]; rfl
 have hc:=V0h s t n 0 ht (by omega) (by omega)
 rw [V0j (Kw8 hs),hy] at hc
 rw [this,if_pos rfl,show (0:Int)=((0:Nat):Int) from rfl,hc,bs]
 unfold Kvm
 rw [Nat.zero_add]
 cases tOk (gN s.fSize true) (yN s.fSize true) n t
 ·simp [bs]
 ·by_cases h:tsz t ≤ 400
  ·simp [bs,h]; omega
  ·simp [bs,h]
def V0l (s:K00) (ctx:List (List Int)) (t:K01):Bool:=Kw7 s && V0b s ctx && Kyi s t ctx.length
theorem V0m (s:K00) (ctx:List (List Int)) (t:K01) (hc:ctx.length ≤ 1048576) (hl:∀ ty ∈ ctx,ty.length ≤ 1099511627776) (ht:tms t ≤ 1099511627776):Ksn (s,ctx,t)=some (V0l s ctx t):=by
 unfold Ksn V0l
 simp only
 rw [Kw9,bs]
 cases hs:Kw7 s
 ·rfl
 ·rw [if_pos rfl,V0d s ctx hc hl,bs]
  cases h2:V0b s ctx
  ·rfl
  ·have h8:ctx.length ≤ 8:=by
    unfold V0b at h2
    simp only [Bool.and_eq_true,decide_eq_true_eq] at h2
    exact h2.1
   rw [if_pos rfl,Kyj s t _ h8 ht]
   rfl
theorem V0n (s:K00) (ctx:List (List Int)) (t:K01) (hc:ctx.length ≤ 1048576) (hl:∀ ty ∈ ctx,ty.length ≤ 1099511627776) (ht:tms t ≤ 1099511627776) :
  Kqq (s,ctx,t)=if V0l s ctx t then (Kqj (⟨s⟩,ctx,t) >>= fun r=>some (some r)) else some none:=by
 unfold Kqq V0l
 simp only
 rw [Kwa,bs]
 cases hs:Kw7 s
 ·rfl
 ·rw [if_pos rfl,V0f s hs ctx hc hl,bs]
  cases h2:V0b s ctx
  ·rfl
  ·have h8:ctx.length ≤ 8:=by
    unfold V0b at h2
    simp only [Bool.and_eq_true,decide_eq_true_eq] at h2
    exact h2.1
   rw [if_pos rfl,V0k s hs t _ h8 ht,bs]
   cases Kyi s t ctx.length <;> rfl
def TyS (s:K00) (ty:List Int):Prop:=yN s.fSize true ty=true
theorem V0o {s:K00} {ty:List Int} (h:TyS s ty):ty.length ≤ 40:=by
 unfold TyS yN at h
 rw [Bool.and_eq_true] at h
 exact Kvq h.1
theorem V0p {s:K00} {ty:List Int} (h:TyS s ty):∃ T:Ty,T.ok∧ty=T.code∧T.code.length ≤ 40∧T.code.all (Kul s.fSize true)=true:=by
 have hl:=V0o h
 unfold TyS yN at h
 rw [Bool.and_eq_true] at h
 obtain ⟨T,h1,rfl,_⟩:=Kwi h.1
 exact ⟨T,h1,rfl,hl,h.2⟩
theorem V0q {s:K00} {T:Ty} (h:T.ok) (hl:T.code.length ≤ 40) (hc:T.code.all (Kul s.fSize true)=true):TyS s T.code:=by
 unfold TyS yN
 rw [Kwj h hl,hc]; rfl
structure V0r (s:K00) (c:Int) (a b:List Int):Prop where
 ya:TyS s a
 yb:TyS s b
 p0:Key (c :: (a ++ b),0)=some a
 p1:Key (c :: (a ++ b),1)=some b
 pp:Kn8 (c :: (a ++ b))=some [a,b]
structure V0s (s:K00) (c:Int) (a:List Int):Prop where
 ya:TyS s a
 p0:Key (c :: a,0)=some a
 pp:Kn8 (c :: a)=some [a]
theorem V0t {s:K00} {c:Int} (hc:c=35∨c=36):Kul s.fSize true c=false:=by
 rcases hc with rfl | rfl
 ·unfold Kul Kuk
  rw [show Ktz 35=2 from rfl]; simp
 ·unfold Kul Kuk
  rw [show Ktz 36=1 from rfl]; simp
theorem V0u {s:K00}:TyS s [0]:=V0q (T:=.num) trivial (by decide) (by
 show (Kul s.fSize true 0 && true)=true
 unfold Kul
 rw [show Ktz 0=0 from rfl]; simp)
section
variable {s:K00} {n:Nat} (hs:Kz2 s n)
include hs
theorem V0v {c:Int} (hc:3 ≤ c∧c ≤ 18):Kul s.fSize true c=true ↔ c - 3 < (n:Int):=by
 have hk:Ktz c=2:=by rcases Ku3 c with h | h | h | h <;> omega
 unfold Kul Kuk
 rw [hk,hs.tab.size,if_neg (by omega),if_neg (by omega)]
 simp
 omega
theorem V0w {c:Int} (hc:19 ≤ c∧c ≤ 34):Kul s.fSize true c=true ↔ c - 19 < (n:Int):=by
 have hk:Ktz c=1:=by rcases Ku3 c with h | h | h | h <;> omega
 unfold Kul Kuk
 rw [hk,hs.tab.size,if_neg (by omega),if_pos (by omega)]
 simp
 omega
theorem V0x {ty:List Int} (h:TyS s ty):ty=[0]∨(∃ a b,ty=1 :: (a ++ b)∧V0r s 1 a b)∨(∃ a b,ty=2 :: (a ++ b)∧V0r s 2 a b) ∨
  (∃ (g:Nat) (a b:List Int),g < n∧g ≤ 15∧ty=(3 + (g:Int)) :: (a ++ b)∧V0r s (3 + (g:Int)) a b)∨(∃ (g:Nat) (a:List Int),g < n∧g ≤ 15∧ty=(19 + (g:Int)) :: a∧V0s s (19 + (g:Int)) a):=by
 obtain ⟨T,hT,rfl,hl,hc⟩:=V0p h
 cases T with
 | num=>exact .inl rfl
 | bin c a b =>
  have B:=Kxr hT (by omega)
  have hl':=hl
  rw [Ty.code,List.length_cons,List.length_append] at hl'
  rw [Ty.code,List.all_cons,List.all_append,Bool.and_eq_true,Bool.and_eq_true] at hc
  have hP:V0r s c a.code b.code:=⟨V0q B.ok.1 (by omega) hc.2.1,V0q B.ok.2 (by omega) hc.2.2,B.p0,B.p1,B.pp⟩
  have hk:=hT.1
  rcases Ku3 c with ⟨q,e⟩ | ⟨q,e⟩ | ⟨q,e⟩ | ⟨q,e⟩
  ·rw [e] at hk; exact absurd hk (by decide)
  ·rcases q with rfl | rfl | q | rfl
   ·exact .inr (.inl ⟨_,_,rfl,hP⟩)
   ·exact .inr (.inr (.inl ⟨_,_,rfl,hP⟩))
   ·have:=(V0v hs q).1 hc.1
    obtain ⟨g,hg⟩:∃ g:Nat,c=3 + (g:Int):=⟨(c - 3).toNat,by omega⟩
    subst hg
    exact .inr (.inr (.inr (.inl ⟨g,_,_,by omega,by omega,rfl,hP⟩)))
   ·rw [V0t (s:=s) (.inl rfl)] at hc; exact absurd hc.1 (by decide)
  ·rw [e] at hk; exact absurd hk (by decide)
  ·rw [e] at hk; exact absurd hk (by decide)
 | un c a =>
  have B:=unP hT (by omega)
  have hl':=hl
  rw [Ty.code,List.length_cons] at hl'
  rw [Ty.code,List.all_cons,Bool.and_eq_true] at hc
  have hP:V0s s c a.code:=⟨V0q B.ok (by omega) hc.2,B.p0,B.pp⟩
  have hk:=hT.1
  rcases Ku3 c with ⟨q,e⟩ | ⟨q,e⟩ | ⟨q,e⟩ | ⟨q,e⟩
  ·rw [e] at hk; exact absurd hk (by decide)
  ·rw [e] at hk; exact absurd hk (by decide)
  ·rcases q with q | rfl
   ·have:=(V0w hs q).1 hc.1
    obtain ⟨g,hg⟩:∃ g:Nat,c=19 + (g:Int):=⟨(c - 19).toNat,by omega⟩
    subst hg
    exact .inr (.inr (.inr (.inr ⟨g,_,by omega,by omega,rfl,hP⟩)))
   ·rw [V0t (s:=s) (.inr rfl)] at hc; exact absurd hc.1 (by decide)
  ·rw [e] at hk; exact absurd hk (by decide)
theorem V0y {c:Int} {a b:List Int} (ha:TyS s a) (hb:TyS s b) (hc:c=1∨c=2∨∃ g:Nat,g < n∧c=3 + (g:Int)) (hl:(c :: (a ++ b)).length ≤ 40):TyS s (c :: (a ++ b)):=by
 obtain ⟨A,hA,rfl,_,hAc⟩:=V0p ha
 obtain ⟨B,hB,rfl,_,hBc⟩:=V0p hb
 have hn:=hs.tab.hi
 have hk:Ktz c=2∧Kul s.fSize true c=true:=by
  rcases hc with rfl | rfl | ⟨g,hg,rfl⟩
  ·exact ⟨rfl,by unfold Kul; rw [show Ktz 1=2 from rfl]; simp⟩
  ·exact ⟨rfl,by unfold Kul; rw [show Ktz 2=2 from rfl]; simp⟩
  ·refine ⟨by rcases Ku3 (3 + (g:Int)) with h | h | h | h <;> omega,(V0v hs (by omega)).2 (by omega)⟩
 have:TyS s (Ty.bin c A B).code:=V0q ⟨hk.1,hA,hB⟩ hl (by rw [Ty.code,List.all_cons,List.all_append,hk.2,hAc,hBc]; rfl)
 exact this
theorem V0z {g:Nat} (hg:g < n) {a:List Int} (ha:TyS s a) (hl:((19 + (g:Int)) :: a).length ≤ 40):TyS s ((19 + (g:Int)) :: a):=by
 obtain ⟨A,hA,rfl,_,hAc⟩:=V0p ha
 have hn:=hs.tab.hi
 have hk:Ktz (19 + (g:Int))=1:=by rcases Ku3 (19 + (g:Int)) with h | h | h | h <;> omega
 have:TyS s (Ty.un (19 + (g:Int)) A).code:=V0q ⟨hk,hA⟩ hl (by rw [Ty.code,List.all_cons,(V0w hs (by omega)).2 (by omega),hAc]; rfl)
 exact this
theorem V10 {x:Int} (h:gN s.fSize true x=true):∃ g:Nat,x=(g:Int)∧g < n:=by
 unfold gN at h
 rw [hs.tab.size] at h
 simp at h
 exact ⟨x.toNat,by omega,by omega⟩
end
structure V11 (s:K00) (n:Nat) (k:K01) (m:Nat):Prop where
 ok:tOk (gN s.fSize true) (yN s.fSize true) n k=true
 sz:tsz k + 1 ≤ m
theorem nd1 {s:K00} {n m:Nat} {op N:Int} {ty:List Int} {ks:List K01} (h:tOk (gN s.fSize true) (yN s.fSize true) n ⟨op,N,ty,ks⟩=true) (hm:tsz ⟨op,N,ty,ks⟩ ≤ m) (hk:Kv0 op=1):∃ a,ks=[a]∧V11 s (n + Kva op 0) a m:=by
 obtain ⟨h1,h2⟩:=Kvr h
 obtain ⟨a,rfl⟩:=Kyg (l:=ks) (beq_iff_eq.2 (by rw [← hk]; exact (Kvu h1).2))
 simp only at h2
 rw [Kye,Bool.and_eq_true] at h2
 rw [Kyt] at hm
 exact ⟨a,rfl,h2.1,by omega⟩
theorem nd2 {s:K00} {n m:Nat} {op N:Int} {ty:List Int} {ks:List K01} (h:tOk (gN s.fSize true) (yN s.fSize true) n ⟨op,N,ty,ks⟩=true) (hm:tsz ⟨op,N,ty,ks⟩ ≤ m) (hk:Kv0 op=2):∃ a b,ks=[a,b]∧V11 s (n + Kva op 0) a m∧V11 s (n + Kva op 1) b m:=by
 obtain ⟨h1,h2⟩:=Kvr h
 obtain ⟨a,b,rfl⟩:=Kyh (l:=ks) (beq_iff_eq.2 (by rw [← hk]; exact (Kvu h1).2))
 simp only at h2
 rw [Kye,Kye,Bool.and_eq_true,Bool.and_eq_true] at h2
 rw [Kyu] at hm
 exact ⟨a,b,rfl,⟨h2.1,by omega⟩,⟨h2.2.1,by omega⟩⟩
theorem nd3 {s:K00} {n m:Nat} {op N:Int} {ty:List Int} {ks:List K01} (h:tOk (gN s.fSize true) (yN s.fSize true) n ⟨op,N,ty,ks⟩=true) (hm:tsz ⟨op,N,ty,ks⟩ ≤ m) (hk:Kv0 op=3):∃ a b c,ks=[a,b,c]∧V11 s (n + Kva op 0) a m∧V11 s (n + Kva op 1) b m∧V11 s (n + Kva op 2) c m:=by
 obtain ⟨h1,h2⟩:=Kvr h
 obtain ⟨a,b,c,rfl⟩:=Kyw (l:=ks) (by rw [← hk]; exact (Kvu h1).2)
 simp only at h2
 rw [Kye,Kye,Kye,Bool.and_eq_true,Bool.and_eq_true,Bool.and_eq_true] at h2
 rw [Kyv] at hm
 exact ⟨a,b,c,rfl,⟨h2.1,by omega⟩,⟨h2.2.1,by omega⟩,⟨h2.2.2.1,by omega⟩⟩
theorem V12 {s:K00} {n:Nat} {t:K01} (h:tOk (gN s.fSize true) (yN s.fSize true) n t=true) (hg:Kv1 t.fOp=true):gN s.fSize true t.fN=true:=by
 have h1:=(Kvr h).1
 unfold Kvg Kve at h1
 simp only [Bool.and_eq_true] at h1
 have h2:=h1.1.2
 have hop:(t.fOp == 0)=false∧(t.fOp == 1)=false:=by
  simp only [Kv1,Bool.or_eq_true,beq_iff_eq] at hg
  constructor <;> rw [beq_eq_false_iff_ne] <;> omega
 rw [hop.1,hop.2,hg] at h2
 simpa using h2
theorem V13 {s:K00} {n:Nat} {t:K01} (h:tOk (gN s.fSize true) (yN s.fSize true) n t=true) (hg:Kv2 t.fOp=true):TyS s t.fType:=by
 have h1:=(Kvr h).1
 unfold Kvg Kvf at h1
 simp only [Bool.and_eq_true] at h1
 have h2:=h1.2
 rw [hg] at h2
 show yN s.fSize true t.fType=true
 simpa using h2
theorem V14 {s:K00} {n:Nat} {t:K01} (h:tOk (gN s.fSize true) (yN s.fSize true) n t=true) (hg:t.fOp=0):∃ i:Nat,t.fN=(i:Int)∧i < n∧t.fKids=[]:=by
 have h1:=(Kvr h).1
 have hl:=(Kvu h1).2
 unfold Kvg Kve at h1
 simp only [Bool.and_eq_true] at h1
 have h2:=h1.1.2
 rw [hg] at h2 hl
 simp [inB] at h2
 refine ⟨t.fN.toNat,by omega,by omega,?_⟩
 have:(t.fKids.length:Int)=0:=hl
 exact List.eq_nil_of_length_eq_zero (by omega)
theorem V15 {s:K00} {n:Nat} {t:K01} (h:tOk (gN s.fSize true) (yN s.fSize true) n t=true) (hg:t.fOp=1):t.fKids=[]:=by
 have h1:=(Kvr h).1
 have hl:=(Kvu h1).2
 rw [hg] at hl
 have:(t.fKids.length:Int)=0:=hl
 exact List.eq_nil_of_length_eq_zero (by omega)
def V16 (t:K01) (out:List K04) (w:Nat):Option (List (List Int)) :=
 (if (decide ((w:Int) > 0))=true then some (true) else some ((t.fOp == 9))) >>= fun v =>
 if v=true then
  (if (decide ((w:Int) > 0))=true then (idx out 0) >>= fun e=>some (e.fty) else some ([])) >>= fun first=>(Knb (t,(w:Int),first)) >>= fun r=>some (r)
 else some ([])
def V17 (p0:K06) (ctx:List (List Int)) (t:K01) (out:List K04) (needs used:List (List Int)) (w:Nat) (more:List (List Int)) (y:K04):Option (((List K04) × (List (List Int)) × (List (List Int))) ⊕ (K04)) :=
 if (y.ffault != 0)=true then
  (Qe6 ([(w:Int)].length + y.fpath.length) 8) >>= fun _=>some (.inr (K04.mk [] [] [] y.ffault ([(w:Int)] ++ y.fpath)))
 else
  (Knt (p0,t,(w:Int),y.fty)) >>= fun f =>
  if (f != 0)=true then some (.inr (K04.mk [] [] [] f []))
  else
   (if (t.fOp == 10)=true then
    if ((w:Int) == 1)=true then
     (idx out 0) >>= fun e=>(Kn8 e.fty) >>= fun r=>(idx r 0) >>= fun q=>(Ko0 (y.fty,q)) >>= fun b=>some ((!b))
    else some (false)
   else some (false)) >>= fun v =>
   if v=true then some (.inr (K04.mk [] [] [] 3 []))
   else
    (Qe6 (out.length + [y].length) 8) >>= fun _ =>
    (cut y.fneeds none (some (more.length:Int)) none) >>= fun c1 =>
    (Qe6 (used.length + [c1].length) 24) >>= fun _ =>
    (cut y.fneeds (some (more.length:Int)) none none) >>= fun c2 =>
    (Qe6 (needs.length + [c2].length) 24) >>= fun _ =>
    Kqk (p0,ctx,t,(out ++ [y]),(needs ++ [c2]),(used ++ [c1]),(wr ((w:Int) + 1)))
theorem V18 {p0:K06} {ctx:List (List Int)} {t:K01} {out:List K04} {needs used:List (List Int)} {w:Nat} {k:K01} {more:List (List Int)} {y:K04} (hw:w < t.fKids.length) (hk:idx t.fKids (w:Int)=some k) (hm:V16 t out w=some more)
  (hc:ctx.length + more.length ≤ 1000000) (hy:Kqj (p0,more ++ ctx,k)=some y):Kqk (p0,ctx,t,out,needs,used,(w:Int))=V17 p0 ctx t out needs used w more y:=by
 rw [Kqk.eq_def]
 simp only
 rw [Kss hw,if_pos rfl,hk,bs]
 have key:∀ {β:Type} (R:List (List Int)→Option β),((if (decide ((w:Int) > 0))=true then some (true) else some ((t.fOp == 9))) >>= fun v =>
   (if v=true then (if (decide ((w:Int) > 0))=true then (idx out 0) >>= fun e=>some (e.fty) else some ([])) >>= fun first=>(Knb (t,(w:Int),first)) >>= fun r=>some (r) else some ([])) >>= R)=(V16 t out w >>= R):=fun R=>by
  unfold V16
  simp only [Option.bind_eq_bind,Option.bind_assoc]
 refine (key _).trans ?_
 rw [hm,bs,V0a [more,ctx] (by simp) (by simp; omega),bs]
 simp only [List.flatten_cons,List.flatten_nil,List.append_nil]
 rw [hy,bs]
 rfl
theorem V19 {p0:K06} {ctx:List (List Int)} {t:K01} {out:List K04} {needs used:List (List Int)} {w:Nat} (hw:t.fKids.length ≤ w):Kqk (p0,ctx,t,out,needs,used,(w:Int))=some (.inl (out,needs,used)):=by
 rw [Kqk.eq_def]
 simp only
 rw [Kst hw]; rfl
theorem V1a {α:Type} {l:List α} {m:Nat} (h:m ≤ l.length):cut l none (some (m:Int)) none=some (l.take m):=by
 unfold cut
 simp only [Option.getD_none,Option.getD_some,Int.toNat_natCast,Int.toNat_zero,List.drop_zero]
 rw [if_pos (by omega)]
theorem V1b {α:Type} {l:List α} {m:Nat} (h:m ≤ l.length):cut l (some (m:Int)) none none=some (l.drop m):=by
 unfold cut
 simp only [Option.getD_none,Option.getD_some,Int.toNat_natCast]
 rw [if_pos (by omega),List.take_length]
def V1c (t:K01) (out:List K04) (w:Nat) (y:K04):Option Bool :=
 if (t.fOp == 10)=true then
  if ((w:Int) == 1)=true then
   (idx out 0) >>= fun e=>(Kn8 e.fty) >>= fun r=>(idx r 0) >>= fun q=>(Ko0 (y.fty,q)) >>= fun b=>some ((!b))
  else some (false)
 else some (false)
section
variable {p0:K06} {ctx:List (List Int)} {t:K01} {out:List K04} {needs used:List (List Int)} {w:Nat} {more:List (List Int)} {y:K04}
theorem V1d (h:y.ffault ≠ 0) (hp:y.fpath.length ≤ 1000000):V17 p0 ctx t out needs used w more y=some (.inr ⟨[],[],[],y.ffault,(w:Int) :: y.fpath⟩):=by
 unfold V17
 rw [if_pos (bne_iff_ne.2 h),Kvt (by simp; omega),bs]
 rfl
theorem V1e {f:Int} (h:y.ffault=0) (hf:Knt (p0,t,(w:Int),y.fty)=some f) (hf0:f ≠ 0):V17 p0 ctx t out needs used w more y=some (.inr ⟨[],[],[],f,[]⟩):=by
 unfold V17
 rw [if_neg (by simp [h]),hf,bs,if_pos (bne_iff_ne.2 hf0)]
theorem V1f (h:y.ffault=0) (hf:Knt (p0,t,(w:Int),y.fty)=some 0) (ha:V1c t out w y=some true):V17 p0 ctx t out needs used w more y=some (.inr ⟨[],[],[],3,[]⟩):=by
 unfold V17
 rw [if_neg (by simp [h]),hf,bs,if_neg (by simp)]
 refine (congrArg (· >>= _) (show _=some true from ha)).trans ?_
 rw [bs,if_pos rfl]
theorem V1g {ns:List Nat} (h:y.ffault=0) (hf:Knt (p0,t,(w:Int),y.fty)=some 0) (ha:V1c t out w y=some false) (hn:y.fneeds=Kyx ns) (hl:more.length ≤ ns.length)
  (h1:out.length ≤ 1000000) (h2:needs.length ≤ 1000000) (h3:used.length ≤ 1000000) (h4:w ≤ 1000000) :
  V17 p0 ctx t out needs used w more y=Kqk (p0,ctx,t,(out ++ [y]),(needs ++ [Kyx (ns.drop more.length)]),(used ++ [Kyx (ns.take more.length)]),((w + 1:Nat):Int)):=by
 unfold V17
 rw [if_neg (by simp [h]),hf,bs,if_neg (by simp)]
 refine (congrArg (· >>= _) (show _=some false from ha)).trans ?_
 rw [bs,if_neg (by simp),Kvt (by simp; omega),bs,hn,V1a (by rw [Kyy]; exact hl),bs,Kvt (by simp; omega),bs,V1b (by rw [Kyy]; exact hl),bs,Kvt (by simp; omega),bs,Ksr (by omega),Kz0,Kyz]
theorem V1h {r:K04} (hc:ctx.length ≤ 1000000) (h:Kqk (p0,ctx,t,[],[],[],((0:Nat):Int))=some (.inr r)):Kqj (p0,ctx,t)=some r:=by
 rw [Kqj.eq_def]
 simp only
 rw [Kxs (by simp; omega),bs,show (0:Int)=((0:Nat):Int) from rfl,h]
 rfl
theorem V1i {o:List K04} {nd us:List (List Int)} {f:Int} {g:K04} (hc:ctx.length ≤ 1000000) (h:Kqk (p0,ctx,t,[],[],[],((0:Nat):Int))=some (.inl (o,nd,us)))
  (hf:Kqe (p0,⟨[],Kyx (List.replicate ctx.length 0),o,0,[]⟩,ctx,t,nd,us)=some (f,g)) (hg:g.fpath=[]:=by rfl):Kqj (p0,ctx,t)=some (if f=0 then ⟨g.fty,g.fneeds,g.fkids,0,g.fpath⟩ else ⟨[],[],[],f,[]⟩):=by
 have e:Kyx (List.replicate ctx.length 0)=List.replicate (Int.toNat (ctx.length:Int)) (0:Int):=by
  unfold Kyx; rw [List.map_replicate,Int.toNat_natCast]; rfl
 rw [e] at hf
 rw [Kqj.eq_def]
 simp only
 rw [Kxs (by simp; omega),bs,show Kqk (p0,ctx,t,[],[],[],0)=some (.inl (o,nd,us)) from h,bs]
 simp only
 rw [hf,bs]
 simp only
 by_cases hz:f=0
 ·subst hz; first | (rw [if_neg (by simp),if_pos rfl]; done) | rw [if_neg (by simp),if_pos rfl,hg]
 ·rw [if_pos (bne_iff_ne.2 hz),if_neg hz]
theorem V1j (h:t.fOp ≠ 10):V1c t out w y=some false:=by
 unfold V1c
 rw [if_neg (by simpa using h)]
theorem V1k (h:w ≠ 1):V1c t out w y=some false:=by
 unfold V1c
 have:((w:Int) == 1)=false:=by rw [beq_eq_false_iff_ne]; omega
 rw [this]
 simp
end
section
variable {s:K00} {n:Nat} (hs:Kz2 s n) {N:Int} {ty:List Int} {ks:List K01} {w:Nat} {c:Int} {r:List Int}
theorem V1l {op:Int} (h:(op=4∨op=6∨op=7∨op=9∨op=11)∨(w ≠ 0∧(op=3∨op=5∨op=8∨op=10∨op=12))):Knt (⟨s⟩,⟨op,N,ty,ks⟩,(w:Int),c :: r)=some 0:=by
 have hw:∀ hw:w ≠ 0,((w:Int) == 0)=false:=fun hw=>by rw [beq_eq_false_iff_ne]; omega
 unfold Knt
 rcases h with (rfl | rfl | rfl | rfl | rfl) | ⟨h0,(rfl | rfl | rfl | rfl | rfl)⟩
 all_goals first | simp [Kx1,Ku5,hw h0] | (by_cases h0:w=0 <;> simp [Kx1,Ku5,h0])
theorem V1m:Knt (⟨s⟩,⟨2,N,ty,ks⟩,(w:Int),c :: r)=some (if (Ku4 c).1=0 then 0 else 2):=by
 unfold Knt
 by_cases h:(Ku4 c).1=0 <;> simp [Kx1,Ku5,h]
theorem V1n:Knt (⟨s⟩,⟨3,N,ty,ks⟩,((0:Nat):Int),c :: r)=some (if (Ku4 c).1=0 then 0 else 2):=by
 unfold Knt
 by_cases h:(Ku4 c).1=0 <;> simp [Kx1,Ku5,h]
theorem V1o:Knt (⟨s⟩,⟨10,N,ty,ks⟩,((0:Nat):Int),c :: r)=some (if (Ku4 c).1=3 then 0 else 6):=by
 unfold Knt
 by_cases h:(Ku4 c).1=3 <;> simp [Kx1,Ku5,h]
include hs
theorem V1p {g:Nat} (hg:g < n):Knt (⟨s⟩,⟨5,(g:Int),ty,ks⟩,((0:Nat):Int),c :: r)=some (if (Ku4 c).1=1 then (if le s n 1 g then 0 else 8) else 4):=by
 have hl:=iLe hs.tab (Kz4 hs) hg
 unfold Knt
 by_cases h:(Ku4 c).1=1 <;> cases hle:le s n 1 g <;> simp [Kx1,Ku5,h,show Kki (s,1,(g:Int))=some (le s n 1 g) from hl,hle]
theorem V1q {g:Nat} (hg:g < n):Knt (⟨s⟩,⟨8,(g:Int),ty,ks⟩,((0:Nat):Int),c :: r)=some (if (Ku4 c).1=2 then (if le s n 1 g then 0 else 8) else 5):=by
 have hl:=iLe hs.tab (Kz4 hs) hg
 unfold Knt
 by_cases h:(Ku4 c).1=2 <;> cases hle:le s n 1 g <;> simp [Kx1,Ku5,h,show Kki (s,1,(g:Int))=some (le s n 1 g) from hl,hle]
theorem V1r {g:Nat} (hg:g < n):Knt (⟨s⟩,⟨12,(g:Int),ty,ks⟩,((0:Nat):Int),c :: r)=some (if (Ku4 c).1=4 then (if le s n 1 g then 0 else 8) else 7):=by
 have hl:=iLe hs.tab (Kz4 hs) hg
 unfold Knt
 by_cases h:(Ku4 c).1=4 <;> cases hle:le s n 1 g <;> simp [Kx1,Ku5,h,show Kki (s,1,(g:Int))=some (le s n 1 g) from hl,hle]
end
def V1s (ty:List Int) (ns:List Nat) (kids:List K04):Int × K04:=(if ty.length > 40 then 3 else 0,⟨ty,Kyx ns,kids,0,[]⟩)
theorem V1t {α:Type} (x:α) (l:List α):idx (x :: l) 0=some x:=rfl
theorem V1u {α:Type} (x y:α) (l:List α):idx (x :: y :: l) 1=some y:=rfl
theorem V1v {α:Type} (x y z:α) (l:List α):idx (x :: y :: z :: l) 2=some z:=rfl
section
variable {s:K00} {n:Nat} (hs:Kz2 s n) {N:Int} {ty:List Int} {ks:List K01} {ctx us:List (List Int)} {z:List Int} {y0 y1 y2:K04} {a b d:List Nat}
theorem V1w {i:Nat} {q:List Int} {zs:List Nat} (hi:ctx[i]?=some q) (hz:i < zs.length) (hq:q.length ≤ 40):Kqe (⟨s⟩,⟨[],Kyx zs,[],0,[]⟩,ctx,⟨0,(i:Int),ty,ks⟩,[],[])=some (V1s q (zs.set i 1) []):=by
 obtain ⟨h1,h2⟩:=List.getElem?_eq_some_iff.1 hi
 have e1:idx ctx (i:Int)=some q:=by rw [Ksq h1,h2]
 have e2:idx (Kyx zs) (i:Int)=some ((zs[i]:Nat):Int):=by rw [Ksq (by rw [Kyy]; exact hz)]; simp [Kyx]
 have e3:List.set (Kyx zs) i 1=Kyx (zs.set i 1):=by unfold Kyx; rw [List.map_set]; rfl
 have h40:¬ ((q.length:Int) > 40):=by omega
 unfold Kqe Kpu V1s
 simp [e1,e2,e3,Kvw q (by omega),show ¬ (40 < (q.length:Int)) by omega,show ¬ (40 < q.length) by omega]
theorem V1x {zs:List Nat}:Kqe (⟨s⟩,⟨[],Kyx zs,[],0,[]⟩,ctx,⟨1,N,ty,ks⟩,[],[])=some (V1s [0] zs []):=by
 unfold Kqe Kpu V1s
 simp
theorem V1y (hy:y0.fty.length ≤ 1000) (ht:ty.length ≤ 1000):Kqe (⟨s⟩,⟨[],z,[y0],0,[]⟩,ctx,⟨6,N,ty,ks⟩,[Kyx a],us)=some (V1s (2 :: (y0.fty ++ ty)) a [y0]):=by
 have hc:=V06 [[2],y0.fty,ty] (by simp) (by simp; omega)
 unfold Kqe Kpu V1s Kog
 simp only [List.flatten_cons,List.flatten_nil,List.append_nil,List.singleton_append,List.cons_append,List.nil_append] at hc
 simp [V1t,V1u,hc]
 split <;> rename_i q40
 ·rw [if_pos (by omega)]
 ·rw [if_neg (by omega)]
theorem V1z (hy:y0.fty.length ≤ 1000) (ht:ty.length ≤ 1000):Kqe (⟨s⟩,⟨[],z,[y0],0,[]⟩,ctx,⟨7,N,ty,ks⟩,[Kyx a],us)=some (V1s (2 :: (ty ++ y0.fty)) a [y0]):=by
 have hc:=V06 [[2],ty,y0.fty] (by simp) (by simp; omega)
 unfold Kqe Kpu V1s Kog
 simp only [List.flatten_cons,List.flatten_nil,List.append_nil,List.singleton_append,List.cons_append,List.nil_append] at hc
 simp [V1t,V1u,hc]
 split <;> rename_i q40
 ·rw [if_pos (by omega)]
 ·rw [if_neg (by omega)]
include hs
theorem V20 (ha:Kzd n a) (hb:Kzd n b) (hl:a.length ≤ 1000000) (hab:a.length=b.length):Kqe (⟨s⟩,⟨[],z,[y0,y1],0,[]⟩,ctx,⟨2,N,ty,ks⟩,[Kyx a,Kyx b],us)=some (V1s [0] (Kza s n a b) [y0,y1]):=by
 have h:=Kzs hs a b ha hb (by omega) hab
 unfold Kqe Kpu V1s
 simp [V1t,V1u,h]
theorem V21 (ha:Kzd n a) (hb:Kzd n b) (hd:Kzd n d) (hl:a.length ≤ 1000000) (hab:a.length=b.length) (had:a.length=d.length) (h2:y2.fty.length ≤ 1000) (h1:y1.fty.length ≤ 40) :
  Kqe (⟨s⟩,⟨[],z,[y0,y1,y2],0,[]⟩,ctx,⟨3,N,ty,ks⟩,[Kyx a,Kyx b,Kyx d],us)=some (if y1.fty=y2.fty then V1s y1.fty (Kza s n a (Kzc s n b d)) [y0,y1,y2] else (3,⟨[],z,[y0,y1,y2],0,[]⟩)):=by
 have hj:=Kzu hs b d hb hd (by omega) (by omega)
 have hlj:(Kzc s n b d).length=a.length:=by unfold Kzc; rw [List.length_zipWith]; omega
 have h:=Kzs hs a (Kzc s n b d) ha (Kzi hs hb hd) (by omega) hlj.symm
 have he:=Kyb y1.fty y2.fty (by omega)
 unfold Kqe Kpu V1s Kog
 by_cases hq:y1.fty=y2.fty
 ·rw [show (y1.fty == y2.fty)=true from beq_iff_eq.2 hq] at he
  rw [if_pos hq]
  simp [V1t,V1u,V1v,he,hj,h,show ¬ (40 < (y1.fty.length:Int)) by omega,show ¬ (40 < y1.fty.length) by omega]
 ·rw [show (y1.fty == y2.fty)=false from beq_eq_false_iff_ne.2 hq] at he
  rw [if_neg hq]
  simp [V1t,V1u,V1v,he]
theorem V22 (ha:Kzd n a) (hb:Kzd n b) (hl:a.length ≤ 1000000) (hab:a.length=b.length) (h0:y0.fty.length ≤ 1000) (h1:y1.fty.length ≤ 1000) :
  Kqe (⟨s⟩,⟨[],z,[y0,y1],0,[]⟩,ctx,⟨4,N,ty,ks⟩,[Kyx a,Kyx b],us)=some (V1s (1 :: (y0.fty ++ y1.fty)) (Kza s n a b) [y0,y1]):=by
 have h:=Kzs hs a b ha hb (by omega) hab
 have hc:=V06 [[1],y0.fty,y1.fty] (by simp) (by simp; omega)
 unfold Kqe Kpu V1s Kog
 simp only [List.flatten_cons,List.flatten_nil,List.append_nil,List.singleton_append,List.cons_append,List.nil_append] at hc
 simp [V1t,V1u,hc,h]
 split <;> rename_i q40
 ·rw [if_pos (by omega)]
 ·rw [if_neg (by omega)]
theorem V23 {g:Nat} (hg:g < n) {u:List Nat} (hu:Kzd n u) (hul:u.length ≤ 1000000) (hy:y0.fty.length ≤ 1000) (ht:ty.length ≤ 1000) :
  Kqe (⟨s⟩,⟨[],z,[y0],0,[]⟩,ctx,⟨9,(g:Int),ty,ks⟩,[Kyx a],[Kyx u])=some (if (u.all fun x=>le s n x g)=true then V1s ((3 + (g:Int)) :: (ty ++ y0.fty)) a [y0] else (9,⟨[],z,[y0],0,[]⟩)):=by
 have hn:=hs.tab.hi
 have e:=Kzy hs g hg u hu (by omega)
 have hw:wr (3 + (g:Int))=3 + (g:Int):=Ksp (by omega) (by omega)
 have hc:=V06 [[3 + (g:Int)],ty,y0.fty] (by simp) (by simp; omega)
 unfold Kqe Kpu V1s Kog
 simp only [List.flatten_cons,List.flatten_nil,List.append_nil,List.singleton_append,List.cons_append,List.nil_append] at hc
 cases hq:(u.all fun x=>le s n x g) with
 | true =>
  rw [hq] at e
  simp [V1t,V1u,e,hc,hw]
  split <;> rename_i q40
  ·rw [if_pos (by omega)]
  ·rw [if_neg (by omega)]
 | false =>
  rw [hq] at e
  simp [V1t,V1u,e]
theorem V24 {g:Nat} (hg:g < n) (ha:Kzd n a) (hl:a.length ≤ 1000000) (hy:y0.fty.length ≤ 1000) :
  Kqe (⟨s⟩,⟨[],z,[y0],0,[]⟩,ctx,⟨11,(g:Int),ty,ks⟩,[Kyx a],us)=some (V1s ((19 + (g:Int)) :: y0.fty) (Kzb s n g a) [y0]):=by
 have hn:=hs.tab.hi
 have e:=Kzw hs g hg a ha (by omega)
 have hw:wr (19 + (g:Int))=19 + (g:Int):=Ksp (by omega) (by omega)
 have hc:=V06 [[19 + (g:Int)],y0.fty] (by simp) (by simp; omega)
 unfold Kqe Kpu V1s Kog
 simp only [List.flatten_cons,List.flatten_nil,List.append_nil,List.singleton_append,List.cons_append,List.nil_append] at hc
 simp [V1t,V1u,hc,hw,e]
 split <;> rename_i q40
 ·rw [if_pos (by omega)]
 ·rw [if_neg (by omega)]
theorem V25 {g:Nat} (hg:g < n) {p q:List Int} (hty:y0.fty=(3 + (g:Int)) :: (p ++ q)) (hP:V0r s (3 + (g:Int)) p q) (ha:Kzd n a) (hb:Kzd n b) (hl:a.length ≤ 1000000) (hab:a.length=b.length) :
  Kqe (⟨s⟩,⟨[],z,[y0,y1],0,[]⟩,ctx,⟨10,N,ty,ks⟩,[Kyx a,Kyx b],us)=some (V1s q (Kza s n a (Kzb s n g b)) [y0,y1]):=by
 have hn:=hs.tab.hi
 have e:=Kzw hs g hg b hb (by omega)
 have hlj:(Kzb s n g b).length=a.length:=by unfold Kzb; rw [List.length_map]; omega
 have h:=Kzs hs a (Kzb s n g b) ha (Kzh hs hg hb) (by omega) hlj.symm
 have hsh:Ku4 (3 + (g:Int))=(3,(g:Int)):=by
  rcases Ku6 (3 + (g:Int)) with h | h | h | h | h | h | h | h <;> first | omega | (obtain ⟨_,e⟩:=h; rw [e]; congr 1; omega)
 have hq:=V0o hP.yb
 have pp:=hP.pp
 rw [← hty] at pp
 have i0:idx y0.fty 0=some (3 + (g:Int)):=by rw [hty]; rfl
 unfold Kqe Kpu V1s Kog
 simp [V1t,V1u,i0,Ku5,hsh,pp,e,h,show ¬ (40 < (q.length:Int)) by omega,show ¬ (40 < q.length) by omega]
theorem V26 {g:Nat} (hg:g < n) {u:List Nat} {us':List Int} (hu:Kzd n u) (hul:u.length ≤ 1000000) (ha:Kzd n a) (hb:Kzd n b) (hl:a.length ≤ 1000000) (hab:a.length=b.length) (h1:y1.fty.length ≤ 40) :
  Kqe (⟨s⟩,⟨[],z,[y0,y1],0,[]⟩,ctx,⟨5,(g:Int),ty,ks⟩,[Kyx a,Kyx b],[us',Kyx u])=some (if (u.all fun x=>le s n x g)=true then V1s y1.fty (Kza s n (Kzb s n g a) b) [y0,y1] else (9,⟨[],z,[y0,y1],0,[]⟩)):=by
 have e:=Kzy hs g hg u hu (by omega)
 have e2:=Kzw hs g hg a ha (by omega)
 have hlj:(Kzb s n g a).length=a.length:=by unfold Kzb; rw [List.length_map]
 have h:=Kzs hs (Kzb s n g a) b (Kzh hs hg ha) hb (by omega) (by omega)
 unfold Kqe Kpu V1s Kog
 cases hq:(u.all fun x=>le s n x g) with
 | true =>
  rw [hq] at e
  simp [V1t,V1u,e,e2,h,show ¬ (40 < (y1.fty.length:Int)) by omega,show ¬ (40 < y1.fty.length) by omega]
 | false =>
  rw [hq] at e
  simp [V1t,V1u,e]
theorem V27 {g m:Nat} (hg:g < n) (hm:m < n) {p:List Int} (hty:y0.fty=(19 + (m:Int)) :: p) {u:List Nat} {us':List Int} (hu:Kzd n u) (hul:u.length ≤ 1000000) (ha:Kzd n a) (hb:Kzd n b) (hl:a.length ≤ 1000000) (hab:a.length=b.length) (h1:y1.fty.length ≤ 40) :
  Kqe (⟨s⟩,⟨[],z,[y0,y1],0,[]⟩,ctx,⟨12,(g:Int),ty,ks⟩,[Kyx a,Kyx b],[us',Kyx u])=some (if (u.all fun x=>le s n x (ti s n g m))=true then V1s y1.fty (Kza s n (Kzb s n g a) b) [y0,y1] else (9,⟨[],z,[y0,y1],0,[]⟩)):=by
 have hn:=hs.tab.hi
 have e0:=Kt5 hs.tab hg hm
 have e:=Kzy hs (ti s n g m) (Ksy hs.tab hg hm) u hu (by omega)
 have e2:=Kzw hs g hg a ha (by omega)
 have hlj:(Kzb s n g a).length=a.length:=by unfold Kzb; rw [List.length_map]
 have h:=Kzs hs (Kzb s n g a) b (Kzh hs hg ha) hb (by omega) (by omega)
 have hsh:Ku4 (19 + (m:Int))=(4,(m:Int)):=by
  rcases Ku6 (19 + (m:Int)) with h | h | h | h | h | h | h | h <;> first | omega | (obtain ⟨_,e⟩:=h; rw [e]; congr 1; omega)
 have i0:idx y0.fty 0=some (19 + (m:Int)):=by rw [hty]; rfl
 unfold Kqe Kpu V1s Kog
 cases hq:(u.all fun x=>le s n x (ti s n g m)) with
 | true =>
  rw [hq] at e
  simp [V1t,V1u,i0,Ku5,hsh,e0,e,e2,h,show ¬ (40 < (y1.fty.length:Int)) by omega,show ¬ (40 < y1.fty.length) by omega]
 | false =>
  rw [hq] at e
  simp [V1t,V1u,i0,Ku5,hsh,e0,e]
theorem V28 {g:Nat} (hg:g < n) {u v:List Nat} {us':List Int} (hu:Kzd n u) (hul:u.length ≤ 1000000) (hv:Kzd n v) (hvl:v.length ≤ 1000000) (ha:Kzd n a) (hb:Kzd n b) (hd:Kzd n d) (hl:a.length ≤ 1000000) (hab:a.length=b.length) (had:a.length=d.length) (h2:y2.fty.length ≤ 1000) (h1:y1.fty.length ≤ 40) :
  Kqe (⟨s⟩,⟨[],z,[y0,y1,y2],0,[]⟩,ctx,⟨8,(g:Int),ty,ks⟩,[Kyx a,Kyx b,Kyx d],[us',Kyx u,Kyx v]) =
   some (if y1.fty=y2.fty then (if (u.all fun x=>le s n x g)=true∧(v.all fun x=>le s n x g)=true then V1s y1.fty (Kza s n (Kzb s n g a) (Kzc s n b d)) [y0,y1,y2] else (9,⟨[],z,[y0,y1,y2],0,[]⟩)) else (3,⟨[],z,[y0,y1,y2],0,[]⟩)):=by
 have e:=Kzy hs g hg u hu (by omega)
 have e':=Kzy hs g hg v hv (by omega)
 have e2:=Kzw hs g hg a ha (by omega)
 have hj:=Kzu hs b d hb hd (by omega) (by omega)
 have hlj:(Kzc s n b d).length=a.length:=by unfold Kzc; rw [List.length_zipWith]; omega
 have hls:(Kzb s n g a).length=a.length:=by unfold Kzb; rw [List.length_map]
 have h:=Kzs hs (Kzb s n g a) (Kzc s n b d) (Kzh hs hg ha) (Kzi hs hb hd) (by omega) (by omega)
 have he:=Kyb y1.fty y2.fty (by omega)
 unfold Kqe Kpu V1s Kog
 by_cases hq:y1.fty=y2.fty
 ·rw [show (y1.fty == y2.fty)=true from beq_iff_eq.2 hq] at he
  rw [if_pos hq]
  cases hu':(u.all fun x=>le s n x g) with
  | false =>
   rw [hu'] at e
   simp [V1t,V1u,V1v,he,e]
  | true =>
   rw [hu'] at e
   cases hv':(v.all fun x=>le s n x g) with
   | false =>
    rw [hv'] at e'
    simp [V1t,V1u,V1v,he,e,e']
   | true =>
    rw [hv'] at e'
    simp [V1t,V1u,V1v,he,e,e',e2,hj,h,show ¬ (40 < (y1.fty.length:Int)) by omega,show ¬ (40 < y1.fty.length) by omega]
 ·rw [show (y1.fty == y2.fty)=false from beq_eq_false_iff_ne.2 hq] at he
  rw [if_neg hq]
  simp [V1t,V1u,V1v,he]
end
def V29 (t:K01) (i:Nat) (kids:List K04):List (List Int):=(Knb (t,(i:Int),(match kids with | []=>[] | y :: _=>y.fty))).getD []
structure V2a (s:K00) (ctx:List (List Int)) (t:K01) (kids:List K04) (i:Nat) (k:K01) (y:K04):Prop where
 im:Kqj (⟨s⟩,V29 t i kids ++ ctx,k)=some y
 fa:y.ffault=0
 ty:∀ q ∈ V29 t i kids,TyS s q
 ln:(V29 t i kids).length=Kva t.fOp i
structure V2b (s:K00) (n:Nat) (ctx:List (List Int)) (t:K01) (x:K03) (y:K04):Prop where
 sp:Kg0 (s,ctx,t)=some x
 im:Kqj (⟨s⟩,ctx,t)=some y
 ty:y.fty=x.fty
 ne:y.fneeds=x.fneeds
 fa:y.ffault=x.ffault
 pa:y.fpath=x.fpath
 pl:x.fpath.length + 1 ≤ tsz t
 bd:x.ffault ≠ 0→x.fty=[]∧x.fneeds=[]
 gd:x.ffault=0→TyS s x.fty∧x.fpath=[]∧∃ ns:List Nat,x.fneeds=Kyx ns∧ns.length=ctx.length∧Kzd n ns
 kd:x.ffault=0→y.fkids.length=t.fKids.length∧∀ (i:Nat) (k:K01),t.fKids[i]?=some k→∃ yk,y.fkids[i]?=some yk∧V2a s ctx t y.fkids i k yk
section
variable {s:K00} {n:Nat} {ctx:List (List Int)} {t:K01}
theorem V2b.bad {f:Int} {p:List Int} (sp:Kg0 (s,ctx,t)=some ⟨[],[],f,p⟩) (im:Kqj (⟨s⟩,ctx,t)=some ⟨[],[],[],f,p⟩) (hf:f ≠ 0) (hp:p.length + 1 ≤ tsz t):∃ x y,V2b s n ctx t x y :=
 ⟨_,_,{ sp:=sp,im:=im,ty:=rfl,ne:=rfl,fa:=rfl,pa:=rfl,pl:=hp,bd:=fun _=>⟨rfl,rfl⟩,gd:=fun h=>absurd h hf,kd:=fun h=>absurd h hf }⟩
theorem V2b.good {q:List Int} {ns:List Nat} {kids:List K04} (sp:Kg0 (s,ctx,t)=some ⟨q,Kyx ns,0,[]⟩) (im:Kqj (⟨s⟩,ctx,t)=some ⟨q,Kyx ns,kids,0,[]⟩) (hp:1 ≤ tsz t) (hq:TyS s q) (hl:ns.length=ctx.length) (hb:Kzd n ns)
  (kl:kids.length=t.fKids.length) (kd:∀ (i:Nat) (k:K01),t.fKids[i]?=some k→∃ yk,kids[i]?=some yk∧V2a s ctx t kids i k yk):∃ x y,V2b s n ctx t x y :=
 ⟨_,_,{ sp:=sp,im:=im,ty:=rfl,ne:=rfl,fa:=rfl,pa:=rfl,pl:=by simpa using hp,bd:=fun h=>absurd rfl h,gd:=fun _=>⟨hq,rfl,ns,rfl,hl,hb⟩,kd:=fun _=>⟨kl,kd⟩ }⟩
theorem V2b.done {q:List Int} {ns:List Nat} {kids:List K04} (sp:Kg0 (s,ctx,t)=Kfk (q,Kyx ns)) (im:Kqj (⟨s⟩,ctx,t)=some (if (V1s q ns kids).1=0 then ⟨(V1s q ns kids).2.fty,(V1s q ns kids).2.fneeds,(V1s q ns kids).2.fkids,0,(V1s q ns kids).2.fpath⟩ else ⟨[],[],[],(V1s q ns kids).1,[]⟩)) (hp:1 ≤ tsz t)
  (hq:q.length ≤ 40→TyS s q) (hl:ns.length=ctx.length) (hb:Kzd n ns) (kl:kids.length=t.fKids.length) (kd:∀ (i:Nat) (k:K01),t.fKids[i]?=some k→∃ yk,kids[i]?=some yk∧V2a s ctx t kids i k yk):∃ x y,V2b s n ctx t x y:=by
 unfold Kfk Kfa at sp
 simp only at sp
 unfold V1s at im
 by_cases h:q.length > 40
 ·rw [decide_eq_true (by omega),if_pos rfl,bs] at sp
  rw [if_pos h,if_neg (by simp)] at im
  exact V2b.bad sp im (by decide) (by simpa using hp)
 ·rw [decide_eq_false (by omega),if_neg (by decide)] at sp
  rw [if_neg h,if_pos rfl] at im
  exact V2b.good sp im hp (hq (by omega)) hl hb kl kd
theorem V2c {i:Nat} {k:K01} {x:K03} {y:K04} {c:List (List Int)} (hk:t.fKids[i]?=some k) (h:V2b s n c k x y) (hf:x.ffault=0):Kg2 (s,c,t,(i:Int))=some x:=by
 obtain ⟨h1,h2⟩:=List.getElem?_eq_some_iff.1 hk
 rw [Kg2.eq_def]
 simp only
 rw [Ksq h1,h2,bs,h.sp,bs,if_neg (by simp [hf]),bs]
theorem V2d {i:Nat} {k:K01} {x:K03} {y:K04} {c:List (List Int)} (hk:t.fKids[i]?=some k) (h:V2b s n c k x y) (hz:tsz k ≤ 1000000) (hf:x.ffault ≠ 0):Kg2 (s,c,t,(i:Int))=some ⟨[],[],x.ffault,(i:Int) :: x.fpath⟩:=by
 obtain ⟨h1,h2⟩:=List.getElem?_eq_some_iff.1 hk
 have hp:=h.pl
 obtain ⟨q1,q2⟩:=h.bd hf
 rw [Kg2.eq_def]
 simp only
 rw [Ksq h1,h2,bs,h.sp,bs,if_pos (bne_iff_ne.2 hf),Kvt (by simp; omega),bs,bs,q1,q2]
 rfl
variable {out:List K04} {nd us:List (List Int)} {w:Nat} {k:K01} {m:List (List Int)} {x:K03} {y:K04}
theorem V2e (hk:t.fKids[w]?=some k) (hm:V16 t out w=some m) (r:V2b s n (m ++ ctx) k x y) (hz:tsz k ≤ 1000000) (hc:ctx.length + m.length ≤ 1000000) (hf:x.ffault ≠ 0) :
  Kqk (⟨s⟩,ctx,t,out,nd,us,(w:Int))=some (.inr ⟨[],[],[],x.ffault,(w:Int) :: x.fpath⟩):=by
 obtain ⟨h1,h2⟩:=List.getElem?_eq_some_iff.1 hk
 have hp:=r.pl
 rw [V18 h1 (by rw [Ksq h1,h2]) hm hc r.im,V1d (by rw [r.fa]; exact hf) (by rw [r.pa]; omega),r.fa,r.pa]
theorem V2f {f:Int} (hk:t.fKids[w]?=some k) (hm:V16 t out w=some m) (r:V2b s n (m ++ ctx) k x y) (hc:ctx.length + m.length ≤ 1000000) (hf:x.ffault=0) (h:Knt (⟨s⟩,t,(w:Int),x.fty)=some f) (hf0:f ≠ 0) :
  Kqk (⟨s⟩,ctx,t,out,nd,us,(w:Int))=some (.inr ⟨[],[],[],f,[]⟩):=by
 obtain ⟨h1,h2⟩:=List.getElem?_eq_some_iff.1 hk
 rw [V18 h1 (by rw [Ksq h1,h2]) hm hc r.im,V1e (by rw [r.fa]; exact hf) (by rw [r.ty]; exact h) hf0]
theorem V2g (hk:t.fKids[w]?=some k) (hm:V16 t out w=some m) (r:V2b s n (m ++ ctx) k x y) (hc:ctx.length + m.length ≤ 1000000) (hf:x.ffault=0) (h:Knt (⟨s⟩,t,(w:Int),x.fty)=some 0) (ha:V1c t out w y=some true) :
  Kqk (⟨s⟩,ctx,t,out,nd,us,(w:Int))=some (.inr ⟨[],[],[],3,[]⟩):=by
 obtain ⟨h1,h2⟩:=List.getElem?_eq_some_iff.1 hk
 rw [V18 h1 (by rw [Ksq h1,h2]) hm hc r.im,V1f (by rw [r.fa]; exact hf) (by rw [r.ty]; exact h) ha]
theorem V2h {ns:List Nat} (hk:t.fKids[w]?=some k) (hm:V16 t out w=some m) (r:V2b s n (m ++ ctx) k x y) (hc:ctx.length + m.length ≤ 1000000) (hf:x.ffault=0) (h:Knt (⟨s⟩,t,(w:Int),x.fty)=some 0) (ha:V1c t out w y=some false)
  (hn:x.fneeds=Kyx ns) (hl:m.length ≤ ns.length) (h1':out.length ≤ 1000000) (h2':nd.length ≤ 1000000) (h3':us.length ≤ 1000000) (h4':w ≤ 1000000) :
  Kqk (⟨s⟩,ctx,t,out,nd,us,(w:Int))=Kqk (⟨s⟩,ctx,t,(out ++ [y]),(nd ++ [Kyx (ns.drop m.length)]),(us ++ [Kyx (ns.take m.length)]),((w + 1:Nat):Int)):=by
 obtain ⟨h1,h2⟩:=List.getElem?_eq_some_iff.1 hk
 rw [V18 h1 (by rw [Ksq h1,h2]) hm hc r.im,V1g (by rw [r.fa]; exact hf) (by rw [r.ty]; exact h) ha (by rw [r.ne]; exact hn) hl h1' h2' h3' h4']
end
theorem V2i {op N:Int} {ty:List Int} {ks:List K01} {i:Nat} {q:List Int} (h9:op ≠ 9) (h:Kva op (i:Int)=0):Knb (⟨op,N,ty,ks⟩,(i:Int),q)=some []:=by
 unfold Knb
 simp only
 rw [if_neg (by simpa using h9),Kvd,bs,h]
 rfl
theorem V2j {N:Int} {ty:List Int} {ks:List K01} {i:Nat} {q:List Int}:Knb (⟨9,N,ty,ks⟩,(i:Int),q)=some [ty]:=by
 unfold Knb
 simp only
 rw [if_pos (by decide)]
theorem V2k {s:K00} {N:Int} {ty:List Int} {ks:List K01} {p q:List Int} (h:V0r s 1 p q):Knb (⟨5,N,ty,ks⟩,((1:Nat):Int),1 :: (p ++ q))=some [q,p]:=by
 unfold Knb
 simp only
 rw [if_neg (by decide),Kvd,bs,show Kva 5 ((1:Nat):Int)=2 from rfl,if_neg (by decide),h.pp,bs,if_pos (by decide)]
 rfl
theorem V2l {s:K00} {N:Int} {ty:List Int} {ks:List K01} {p q:List Int} (h:V0r s 2 p q):Knb (⟨8,N,ty,ks⟩,((1:Nat):Int),2 :: (p ++ q))=some [p]:=by
 unfold Knb
 simp only
 rw [if_neg (by decide),Kvd,bs,show Kva 8 ((1:Nat):Int)=1 from rfl,if_neg (by decide),h.pp,bs,if_neg (by decide),if_pos (by decide)]
 rfl
theorem V2m {s:K00} {N:Int} {ty:List Int} {ks:List K01} {p q:List Int} (h:V0r s 2 p q):Knb (⟨8,N,ty,ks⟩,((2:Nat):Int),2 :: (p ++ q))=some [q]:=by
 unfold Knb
 simp only
 rw [if_neg (by decide),Kvd,bs,show Kva 8 ((2:Nat):Int)=1 from rfl,if_neg (by decide),h.pp,bs,if_neg (by decide),if_pos (by decide)]
 rfl
theorem V2n {s:K00} {N c:Int} {ty:List Int} {ks:List K01} {p:List Int} (h:V0s s c p):Knb (⟨12,N,ty,ks⟩,((1:Nat):Int),c :: p)=some [p]:=by
 unfold Knb
 simp only
 rw [if_neg (by decide),Kvd,bs,show Kva 12 ((1:Nat):Int)=1 from rfl,if_neg (by decide),h.pp,bs,if_neg (by decide),if_neg (by decide)]
theorem V2o {op N:Int} {ty:List Int} {ks:List K01} (h9:op ≠ 9):V16 ⟨op,N,ty,ks⟩ [] 0=some []:=by
 unfold V16
 simp [h9]
theorem V2p {N:Int} {ty:List Int} {ks:List K01}:V16 ⟨9,N,ty,ks⟩ [] 0=some [ty]:=by
 unfold V16
 have:=@V2j N ty ks 0 []
 simp at this ⊢
 rw [this]
theorem V2q {t:K01} {w:Nat} {y0:K04} {l:List K04} {m:List (List Int)} (hw:0 < w) (h:Knb (t,(w:Int),y0.fty)=some m):V16 t (y0 :: l) w=some m:=by
 unfold V16
 rw [show decide ((w:Int) > 0)=true from decide_eq_true (by omega),if_pos rfl,bs,if_pos rfl,if_pos rfl,V1t,bs,bs,h,bs]
theorem V2r {t:K01} {i:Nat} {y0:K04} {l:List K04} {m:List (List Int)} (h:Knb (t,(i:Int),y0.fty)=some m):V29 t i (y0 :: l)=m:=by
 unfold V29
 simp only
 rw [h]; rfl
theorem kd1 {s:K00} {ctx:List (List Int)} {op N:Int} {ty:List Int} {k0:K01} {y0:K04} (h0:V2a s ctx ⟨op,N,ty,[k0]⟩ [y0] 0 k0 y0) :
  ∀ (i:Nat) (k:K01),(⟨op,N,ty,[k0]⟩:K01).fKids[i]?=some k→∃ yk,[y0][i]?=some yk∧V2a s ctx ⟨op,N,ty,[k0]⟩ [y0] i k yk:=by
 intro i k hk
 match i,hk with
 | 0,hk=>cases hk; exact ⟨y0,rfl,h0⟩
 | i + 1,hk=>simp at hk
theorem kd2 {s:K00} {ctx:List (List Int)} {op N:Int} {ty:List Int} {k0 k1:K01} {y0 y1:K04} (h0:V2a s ctx ⟨op,N,ty,[k0,k1]⟩ [y0,y1] 0 k0 y0) (h1:V2a s ctx ⟨op,N,ty,[k0,k1]⟩ [y0,y1] 1 k1 y1) :
  ∀ (i:Nat) (k:K01),(⟨op,N,ty,[k0,k1]⟩:K01).fKids[i]?=some k→∃ yk,[y0,y1][i]?=some yk∧V2a s ctx ⟨op,N,ty,[k0,k1]⟩ [y0,y1] i k yk:=by
 intro i k hk
 match i,hk with
 | 0,hk=>cases hk; exact ⟨y0,rfl,h0⟩
 | 1,hk=>cases hk; exact ⟨y1,rfl,h1⟩
 | i + 2,hk=>simp at hk
theorem kd3 {s:K00} {ctx:List (List Int)} {op N:Int} {ty:List Int} {k0 k1 k2:K01} {y0 y1 y2:K04} (h0:V2a s ctx ⟨op,N,ty,[k0,k1,k2]⟩ [y0,y1,y2] 0 k0 y0) (h1:V2a s ctx ⟨op,N,ty,[k0,k1,k2]⟩ [y0,y1,y2] 1 k1 y1) (h2:V2a s ctx ⟨op,N,ty,[k0,k1,k2]⟩ [y0,y1,y2] 2 k2 y2) :
  ∀ (i:Nat) (k:K01),(⟨op,N,ty,[k0,k1,k2]⟩:K01).fKids[i]?=some k→∃ yk,[y0,y1,y2][i]?=some yk∧V2a s ctx ⟨op,N,ty,[k0,k1,k2]⟩ [y0,y1,y2] i k yk:=by
 intro i k hk
 match i,hk with
 | 0,hk=>cases hk; exact ⟨y0,rfl,h0⟩
 | 1,hk=>cases hk; exact ⟨y1,rfl,h1⟩
 | 2,hk=>cases hk; exact ⟨y2,rfl,h2⟩
 | i + 3,hk=>simp at hk
theorem V2a.mk' {s:K00} {n:Nat} {ctx m:List (List Int)} {t k:K01} {y0:K04} {l:List K04} {i:Nat} {x:K03} {y:K04} (ha:Knb (t,(i:Int),y0.fty)=some m) (r:V2b s n (m ++ ctx) k x y) (hf:x.ffault=0) (hm:∀ q ∈ m,TyS s q) (hl:m.length=Kva t.fOp i):V2a s ctx t (y0 :: l) i k y:=by
 have e:=V2r (l:=l) ha
 exact ⟨by rw [e]; exact r.im,by rw [r.fa]; exact hf,by rw [e]; exact hm,by rw [e]; exact hl⟩
def V2s (s:K00) (n sz:Nat):Prop:=∀ (k:K01) (c:List (List Int)),V11 s c.length k sz→(∀ q ∈ c,TyS s q)→c.length + 2 * tsz k ≤ 1000000→∃ x y,V2b s n c k x y
theorem V2t {X:Option K04} {q:List Int} {ns:List Nat} {kids:List K04} (h:q.length ≤ 40) (im:X=some (if (V1s q ns kids).1=0 then (⟨(V1s q ns kids).2.fty,(V1s q ns kids).2.fneeds,(V1s q ns kids).2.fkids,0,(V1s q ns kids).2.fpath⟩:K04) else ⟨[],[],[],(V1s q ns kids).1,[]⟩)):X=some ⟨q,Kyx ns,kids,0,[]⟩:=by
 rw [im]
 unfold V1s
 simp only
 rw [show (if q.length > 40 then (3:Int) else 0)=0 from if_neg (by omega),if_pos rfl]
section
variable {s:K00} {n:Nat} (hs:Kz2 s n) {ctx:List (List Int)} {N:Int} {ty:List Int} {ks:List K01}
theorem V2u {op:Int} {k0:K01} {l:List K01} {x0:K03} {y0:K04} (h0:op ≠ 0) (h1:op ≠ 1) (h9:op ≠ 9) (hb:ctx.length + 2 * tsz (⟨op,N,ty,k0 :: l⟩:K01) ≤ 1000000) (r0:V2b s n ctx k0 x0 y0) (f0:x0.ffault ≠ 0) :
  ∃ x y,V2b s n ctx ⟨op,N,ty,k0 :: l⟩ x y:=by
 have hz:tsz k0 + 1 ≤ tsz (⟨op,N,ty,k0 :: l⟩:K01):=by rw [tsz,Kuq]; omega
 have e0:Kg2 (s,ctx,⟨op,N,ty,k0 :: l⟩,0)=some ⟨[],[],x0.ffault,0 :: x0.fpath⟩:=V2d (i:=0) rfl r0 (by omega) f0
 refine V2b.bad (f:=x0.ffault) (p:=0 :: x0.fpath) ?_ (V1h (by omega) (V2e (m:=[]) rfl (V2o h9) r0 (by omega) (by simp; omega) f0)) f0 (by have:=r0.pl; simp; omega)
 rw [Kg0.eq_def]
 simp [h0,h1,h9,e0,f0]
include hs
theorem V2v {t:K01} (ht:t.fOp=0) (h:tOk (gN s.fSize true) (yN s.fSize true) ctx.length t=true) (hc:∀ q ∈ ctx,TyS s q) (hb:ctx.length + 2 * tsz t ≤ 1000000):∃ x y,V2b s n ctx t x y:=by
 obtain ⟨i,hi,hl,hk⟩:=V14 h ht
 obtain ⟨op,N,ty,ks⟩:=t
 simp only at ht hi hk
 subst ht; subst hi; subst hk
 have hq:ctx[i]?=some ctx[i]:=List.getElem?_eq_getElem hl
 have hy:=hc ctx[i] (List.getElem_mem hl)
 have e1:idx ctx (i:Int)=some ctx[i]:=Ksq hl
 have hz:=Kzz ctx.length (by omega)
 have e2:idx (Kyx (List.replicate ctx.length 0)) (i:Int)=some (((List.replicate ctx.length (0:Nat))[i]'(by simpa using hl):Nat):Int):=by
  rw [Ksq (by rw [Kyy]; simpa using hl)]; simp [Kyx]
 have e3:List.set (Kyx (List.replicate ctx.length 0)) i 1=Kyx ((List.replicate ctx.length 0).set i 1):=by unfold Kyx; rw [List.map_set]; rfl
 have hf:=V1w (s:=s) (ty:=ty) (ks:=[]) (zs:=List.replicate ctx.length 0) hq (by simpa using hl) (V0o hy)
 have im:=V1i (p0:=⟨s⟩) (t:=⟨0,(i:Int),ty,[]⟩) (by omega) (V19 (Nat.le_refl _)) hf
 refine V2b.good (q:=ctx[i]) (ns:=(List.replicate ctx.length 0).set i 1) (kids:=[]) ?_ ?_ (by rw [tsz]; omega) hy (by simp) ?_ rfl (fun i k hk=>by simp at hk)
 ·rw [Kg0.eq_def]
  simp [hz,e1,e2,Kvv ctx[i] (by have:=V0o hy; omega),e3]
 ·exact V2t (V0o hy) im
 ·intro x hx
  have h1:=Kz4 hs
  rcases List.mem_or_eq_of_mem_set hx with h | rfl
  ·rw [List.eq_of_mem_replicate h]; omega
  ·exact h1
theorem V2w {t:K01} (ht:t.fOp=1) (h:tOk (gN s.fSize true) (yN s.fSize true) ctx.length t=true) (hb:ctx.length + 2 * tsz t ≤ 1000000):∃ x y,V2b s n ctx t x y:=by
 have hk:=V15 h ht
 obtain ⟨op,N,ty,ks⟩:=t
 simp only at ht hk
 subst ht; subst hk
 have hz:=Kzz ctx.length (by omega)
 have hf:=V1x (s:=s) (N:=N) (ty:=ty) (ks:=[]) (ctx:=ctx) (zs:=List.replicate ctx.length 0)
 have im:=V1i (p0:=⟨s⟩) (t:=⟨1,N,ty,[]⟩) (by omega) (V19 (Nat.le_refl _)) hf
 refine V2b.good (q:=[0]) (ns:=List.replicate ctx.length 0) (kids:=[]) ?_ ?_ (by rw [tsz]; omega) V0u (by simp) ?_ rfl (fun i k hk=>by simp at hk)
 ·rw [Kg0.eq_def]
  simp [hz]
 ·exact V2t (by decide) im
 ·intro x hx
  rw [List.eq_of_mem_replicate hx]
  exact Kz5 hs
theorem V2x {q:List Int} (hq:TyS s q):∃ c r,q=c :: r∧((Ku4 c).1=0 ↔ c=0)∧(c=0→q=[0]):=by
 rcases V0x hs hq with rfl | ⟨a,b,rfl,_⟩ | ⟨a,b,rfl,_⟩ | ⟨g,a,b,hg,h15,rfl,_⟩ | ⟨g,a,hg,h15,rfl,_⟩
 ·exact ⟨0,[],rfl,by decide,fun _=>rfl⟩
 ·exact ⟨1,_,rfl,by decide,fun h=>absurd h (by decide)⟩
 ·exact ⟨2,_,rfl,by decide,fun h=>absurd h (by decide)⟩
 ·refine ⟨_,_,rfl,?_,fun h=>by omega⟩
  rcases Ku6 (3 + (g:Int)) with h | h | h | h | h | h | h | h <;> first | omega | (obtain ⟨_,e⟩:=h; rw [e]; simp; omega)
 ·refine ⟨_,_,rfl,?_,fun h=>by omega⟩
  rcases Ku6 (19 + (g:Int)) with h | h | h | h | h | h | h | h <;> first | omega | (obtain ⟨_,e⟩:=h; rw [e]; simp; omega)
theorem V2y (ih:V2s s n (tsz (⟨6,N,ty,ks⟩:K01))) (h:tOk (gN s.fSize true) (yN s.fSize true) ctx.length ⟨6,N,ty,ks⟩=true) (hc:∀ q ∈ ctx,TyS s q) (hb:ctx.length + 2 * tsz (⟨6,N,ty,ks⟩:K01) ≤ 1000000):∃ x y,V2b s n ctx ⟨6,N,ty,ks⟩ x y:=by
 obtain ⟨k0,rfl,p0⟩:=nd1 h (Nat.le_refl _) rfl
 have hz:=Kyt 6 N ty k0
 have hy:TyS s ty:=V13 h rfl
 have ly:=V0o hy
 obtain ⟨x0,y0,r0⟩:=ih k0 ctx p0 hc (by omega)
 by_cases f0:x0.ffault=0
 rotate_left
 ·exact V2u (by decide) (by decide) (by decide) hb r0 f0
 obtain ⟨g0,q0,a,na,la,ba⟩:=r0.gd f0
 obtain ⟨c0,t0,ht0,hn0,hz0⟩:=V2x hs g0
 have L0:=V0o g0
 have e0:Kg2 (s,ctx,⟨6,N,ty,[k0]⟩,0)=some x0:=V2c (i:=0) rfl r0 f0
 have o0:=V2h (out:=[]) (nd:=[]) (us:=[]) (w:=0) (t:=⟨6,N,ty,[k0]⟩) (m:=[]) rfl (V2o (by decide)) r0 (by simp; omega) f0 (by rw [ht0]; exact V1l (.inl (by decide))) (V1j (show (6:Int) ≠ 10 by decide)) na (by simp <;> omega) (by simp) (by simp) (by simp) (by simp)
 have hf:=V1y (s:=s) (N:=N) (ty:=ty) (ks:=[k0]) (ctx:=ctx) (us:=[Kyx []]) (z:=Kyx (List.replicate ctx.length 0)) (y0:=y0) (a:=a) (by rw [r0.ty]; omega) (by omega)
 have im:=V1i (p0:=⟨s⟩) (t:=⟨6,N,ty,[k0]⟩) (ctx:=ctx) (by omega) (o0.trans (V19 (Nat.le_refl _))) hf
 rw [r0.ty] at im
 refine V2b.done (q:=2 :: (x0.fty ++ ty)) (ns:=a) (kids:=[y0]) ?_ im (by omega) (fun hl=>V0y hs g0 hy (.inr (.inl rfl)) hl) la ba rfl (kd1 (V2a.mk' (V2i (by decide) rfl) r0 f0 (fun _ h=>by cases h) rfl))
 have hg:=V02 2 [x0.fty,ty] (by simp) (by simp; omega)
 simp only [List.flatten_cons,List.flatten_nil,List.append_nil] at hg
 rw [Kg0.eq_def]
 simp [e0,f0,hg,na]
theorem V2z (ih:V2s s n (tsz (⟨7,N,ty,ks⟩:K01))) (h:tOk (gN s.fSize true) (yN s.fSize true) ctx.length ⟨7,N,ty,ks⟩=true) (hc:∀ q ∈ ctx,TyS s q) (hb:ctx.length + 2 * tsz (⟨7,N,ty,ks⟩:K01) ≤ 1000000):∃ x y,V2b s n ctx ⟨7,N,ty,ks⟩ x y:=by
 obtain ⟨k0,rfl,p0⟩:=nd1 h (Nat.le_refl _) rfl
 have hz:=Kyt 7 N ty k0
 have hy:TyS s ty:=V13 h rfl
 have ly:=V0o hy
 obtain ⟨x0,y0,r0⟩:=ih k0 ctx p0 hc (by omega)
 by_cases f0:x0.ffault=0
 rotate_left
 ·exact V2u (by decide) (by decide) (by decide) hb r0 f0
 obtain ⟨g0,q0,a,na,la,ba⟩:=r0.gd f0
 obtain ⟨c0,t0,ht0,hn0,hz0⟩:=V2x hs g0
 have L0:=V0o g0
 have e0:Kg2 (s,ctx,⟨7,N,ty,[k0]⟩,0)=some x0:=V2c (i:=0) rfl r0 f0
 have o0:=V2h (out:=[]) (nd:=[]) (us:=[]) (w:=0) (t:=⟨7,N,ty,[k0]⟩) (m:=[]) rfl (V2o (by decide)) r0 (by simp; omega) f0 (by rw [ht0]; exact V1l (.inl (by decide))) (V1j (show (7:Int) ≠ 10 by decide)) na (by simp <;> omega) (by simp) (by simp) (by simp) (by simp)
 have hf:=V1z (s:=s) (N:=N) (ty:=ty) (ks:=[k0]) (ctx:=ctx) (us:=[Kyx []]) (z:=Kyx (List.replicate ctx.length 0)) (y0:=y0) (a:=a) (by rw [r0.ty]; omega) (by omega)
 have im:=V1i (p0:=⟨s⟩) (t:=⟨7,N,ty,[k0]⟩) (ctx:=ctx) (by omega) (o0.trans (V19 (Nat.le_refl _))) hf
 rw [r0.ty] at im
 refine V2b.done (q:=2 :: (ty ++ x0.fty)) (ns:=a) (kids:=[y0]) ?_ im (by omega) (fun hl=>V0y hs hy g0 (.inr (.inl rfl)) hl) la ba rfl (kd1 (V2a.mk' (V2i (by decide) rfl) r0 f0 (fun _ h=>by cases h) rfl))
 have hg:=V02 2 [ty,x0.fty] (by simp) (by simp; omega)
 simp only [List.flatten_cons,List.flatten_nil,List.append_nil] at hg
 rw [Kg0.eq_def]
 simp [e0,f0,hg,na]
theorem V30 (ih:V2s s n (tsz (⟨11,N,ty,ks⟩:K01))) (h:tOk (gN s.fSize true) (yN s.fSize true) ctx.length ⟨11,N,ty,ks⟩=true) (hc:∀ q ∈ ctx,TyS s q) (hb:ctx.length + 2 * tsz (⟨11,N,ty,ks⟩:K01) ≤ 1000000):∃ x y,V2b s n ctx ⟨11,N,ty,ks⟩ x y:=by
 obtain ⟨k0,rfl,p0⟩:=nd1 h (Nat.le_refl _) rfl
 have hz:=Kyt 11 N ty k0
 obtain ⟨g,hN,hg'⟩:=V10 hs (V12 h rfl)
 simp only at hN
 subst hN
 obtain ⟨x0,y0,r0⟩:=ih k0 ctx p0 hc (by omega)
 by_cases f0:x0.ffault=0
 rotate_left
 ·exact V2u (by decide) (by decide) (by decide) hb r0 f0
 obtain ⟨g0,q0,a,na,la,ba⟩:=r0.gd f0
 obtain ⟨c0,t0,ht0,hn0,hz0⟩:=V2x hs g0
 have L0:=V0o g0
 have e0:Kg2 (s,ctx,⟨11,(g:Int),ty,[k0]⟩,0)=some x0:=V2c (i:=0) rfl r0 f0
 have o0:=V2h (out:=[]) (nd:=[]) (us:=[]) (w:=0) (t:=⟨11,(g:Int),ty,[k0]⟩) (m:=[]) rfl (V2o (by decide)) r0 (by simp; omega) f0 (by rw [ht0]; exact V1l (.inl (by decide))) (V1j (show (11:Int) ≠ 10 by decide)) na (by simp <;> omega) (by simp) (by simp) (by simp) (by simp)
 have hf:=V24 (ty:=ty) (ks:=[k0]) (ctx:=ctx) (us:=[Kyx []]) (z:=Kyx (List.replicate ctx.length 0)) (y0:=y0) (a:=a) hs hg' ba (by omega) (by rw [r0.ty]; omega)
 have im:=V1i (p0:=⟨s⟩) (t:=⟨11,(g:Int),ty,[k0]⟩) (ctx:=ctx) (by omega) (o0.trans (V19 (Nat.le_refl _))) hf
 rw [r0.ty] at im
 have hn:=hs.tab.hi
 refine V2b.done (q:=(19 + (g:Int)) :: x0.fty) (ns:=Kzb s n g a) (kids:=[y0]) ?_ im (by omega) (fun hl=>V0z hs hg' g0 hl) (by unfold Kzb; rw [List.length_map]; exact la) (Kzh hs hg' ba) rfl (kd1 (V2a.mk' (V2i (by decide) rfl) r0 f0 (fun _ h=>by cases h) rfl))
 have hg:=V02 (19 + (g:Int)) [x0.fty] (by simp) (by simp; omega)
 simp only [List.flatten_cons,List.flatten_nil,List.append_nil] at hg
 have hsc:=Kzh hs hg' ba
 have hz0:=Kzk hs hsc
 rw [show (Kzb s n g a).length=ctx.length by unfold Kzb; rw [List.length_map]; exact la] at hz0
 have hsum:=Kzm hs g hg' (List.replicate ctx.length 0) a (fun x hx=>by rw [List.eq_of_mem_replicate hx]; exact Kz5 hs) ba (by simp; omega) (by simp [la])
 rw [hz0] at hsum
 have hw:wr (19 + (g:Int))=19 + (g:Int):=Ksp (by omega) (by omega)
 rw [Kg0.eq_def]
 simp [e0,f0,hg,na,hw,Kzz ctx.length (by omega),hsum]
theorem V31 (ih:V2s s n (tsz (⟨9,N,ty,ks⟩:K01))) (h:tOk (gN s.fSize true) (yN s.fSize true) ctx.length ⟨9,N,ty,ks⟩=true) (hc:∀ q ∈ ctx,TyS s q) (hb:ctx.length + 2 * tsz (⟨9,N,ty,ks⟩:K01) ≤ 1000000):∃ x y,V2b s n ctx ⟨9,N,ty,ks⟩ x y:=by
 obtain ⟨k0,rfl,p0⟩:=nd1 h (Nat.le_refl _) rfl
 have hz:=Kyt 9 N ty k0
 obtain ⟨g,hN,hg'⟩:=V10 hs (V12 h rfl)
 simp only at hN
 subst hN
 have hy:TyS s ty:=V13 h rfl
 have ly:=V0o hy
 have hn:=hs.tab.hi
 have p0':V11 s ([ty] ++ ctx).length k0 (tsz (⟨9,(g:Int),ty,[k0]⟩:K01)):=by
  have e:([ty] ++ ctx).length=ctx.length + Kva 9 0:=by simp [Kva]
  rw [e]; exact p0
 obtain ⟨x0,y0,r0⟩:=ih k0 ([ty] ++ ctx) p0' (fun q hq=>by rcases List.mem_cons.1 hq with rfl | hq; exact hy; exact hc q hq) (by simp; omega)
 have hw9:=V00 ctx [ty] (by simp; omega)
 by_cases f0:x0.ffault=0
 rotate_left
 ·have e0:Kg2 (s,ty :: ctx,⟨9,(g:Int),ty,[k0]⟩,0)=some ⟨[],[],x0.ffault,0 :: x0.fpath⟩:=V2d (i:=0) rfl r0 (by omega) f0
  refine V2b.bad (f:=x0.ffault) (p:=0 :: x0.fpath) ?_ (V1h (by omega) (V2e (m:=[ty]) rfl V2p r0 (by omega) (by simp; omega) f0)) f0 (by have:=r0.pl; simp; omega)
  rw [Kg0.eq_def]
  simp [hw9,e0,f0]
 obtain ⟨g0,q0,a,na,la,ba⟩:=r0.gd f0
 obtain ⟨c0,t0,ht0,hn0,hz0⟩:=V2x hs g0
 have L0:=V0o g0
 have e0:Kg2 (s,ty :: ctx,⟨9,(g:Int),ty,[k0]⟩,0)=some x0:=V2c (i:=0) rfl r0 f0
 have la':a.length=ctx.length + 1:=by rw [la]; simp
 obtain ⟨u0,a',rfl⟩:∃ u0 a',a=u0 :: a':=by cases a with | nil=>simp at la' | cons u a'=>exact ⟨u,a',rfl⟩
 obtain ⟨hu0,ba'⟩:=Kze ba
 have o0:=V2h (out:=[]) (nd:=[]) (us:=[]) (w:=0) (t:=⟨9,(g:Int),ty,[k0]⟩) (m:=[ty]) rfl V2p r0 (by simp; omega) f0 (by rw [ht0]; exact V1l (.inl (by decide))) (V1j (show (9:Int) ≠ 10 by decide)) na (by simp <;> omega) (by simp) (by simp) (by simp) (by simp)
 simp only [List.length_cons,List.length_nil,Nat.zero_add,List.drop_succ_cons,List.drop_zero,List.take_succ_cons,List.take_zero,List.nil_append] at o0
 have hf:=V23 (ty:=ty) (ks:=[k0]) (ctx:=ctx) (z:=Kyx (List.replicate ctx.length 0)) (y0:=y0) (a:=a') (u:=[u0]) hs hg' (fun x hx=>by simp at hx; rw [hx]; exact hu0) (by simp) (by rw [r0.ty]; omega) (by omega)
 have hl0:=o0.trans (V19 (Nat.le_refl _))
 have hle:=sLe hs.tab hu0 hg'
 have hw:wr (3 + (g:Int))=3 + (g:Int):=Ksp (by omega) (by omega)
 have hi0:idx x0.fneeds 0=some (u0:Int):=by rw [na]; rfl
 simp only [List.all_cons,List.all_nil,Bool.and_true] at hf
 cases hl:le s n u0 g with
 | false =>
  rw [hl,if_neg (by decide)] at hf
  refine V2b.bad (f:=9) (p:=[]) ?_ (V1i (by omega) hl0 hf) (by decide) (by simp; omega)
  rw [Kg0.eq_def]
  simp [hw9,e0,f0,hi0,hle,hl,Kfa]
 | true =>
  rw [hl,if_pos rfl] at hf
  have im:=V1i (by omega) hl0 hf
  rw [r0.ty] at im
  refine V2b.done (q:=(3 + (g:Int)) :: (ty ++ x0.fty)) (ns:=a') (kids:=[y0]) ?_ im (by omega) (fun hl=>V0y hs hy g0 (.inr (.inr ⟨g,hg',rfl⟩)) hl) (by simpa using la') ba' rfl (kd1 (V2a.mk' (m:=[ty]) V2j r0 f0 (fun q hq=>by simp at hq; rw [hq]; exact hy) rfl))
  have hg:=V02 (3 + (g:Int)) [ty,x0.fty] (by simp) (by simp; omega)
  simp only [List.flatten_cons,List.flatten_nil,List.append_nil] at hg
  have hcut:cut x0.fneeds (some 1) none none=some (Kyx a'):=by rw [na]; exact Kxo _ _
  rw [Kg0.eq_def]
  simp [hw9,e0,f0,hi0,hle,hl,hg,hw,hcut,Kvv (Kyx a') (by rw [Kyy]; simp at la'; omega)]
theorem V32 (ih:V2s s n (tsz (⟨4,N,ty,ks⟩:K01))) (h:tOk (gN s.fSize true) (yN s.fSize true) ctx.length ⟨4,N,ty,ks⟩=true) (hc:∀ q ∈ ctx,TyS s q) (hb:ctx.length + 2 * tsz (⟨4,N,ty,ks⟩:K01) ≤ 1000000):∃ x y,V2b s n ctx ⟨4,N,ty,ks⟩ x y:=by
 obtain ⟨k0,k1,rfl,p0,p1⟩:=nd2 h (Nat.le_refl _) rfl
 have hz:=Kyu 4 N ty k0 k1
 obtain ⟨x0,y0,r0⟩:=ih k0 ctx p0 hc (by omega)
 obtain ⟨x1,y1,r1⟩:=ih k1 ctx p1 hc (by omega)
 by_cases f0:x0.ffault=0
 rotate_left
 ·exact V2u (by decide) (by decide) (by decide) hb r0 f0
 obtain ⟨g0,q0,a,na,la,ba⟩:=r0.gd f0
 obtain ⟨c0,t0,ht0,hn0,hz0⟩:=V2x hs g0
 have L0:=V0o g0
 have e0:Kg2 (s,ctx,⟨4,N,ty,[k0,k1]⟩,0)=some x0:=V2c (i:=0) rfl r0 f0
 have o0:=V2h (out:=[]) (nd:=[]) (us:=[]) (w:=0) (t:=⟨4,N,ty,[k0,k1]⟩) (m:=[]) rfl (V2o (by decide)) r0 (by simp; omega) f0 (by rw [ht0]; exact V1l (.inl (by decide))) (V1j (show (4:Int) ≠ 10 by decide)) na (by simp <;> omega) (by simp) (by simp) (by simp) (by simp)
 have m1:V16 ⟨4,N,ty,[k0,k1]⟩ [y0] 1=some []:=V2q (by decide) (V2i (by decide) rfl)
 by_cases f1:x1.ffault=0
 rotate_left
 ·have e1:Kg2 (s,ctx,⟨4,N,ty,[k0,k1]⟩,1)=some ⟨[],[],x1.ffault,1 :: x1.fpath⟩:=V2d (i:=1) rfl r1 (by omega) f1
  refine V2b.bad (f:=x1.ffault) (p:=1 :: x1.fpath) ?_ (V1h (by omega) (o0.trans (V2e (m:=[]) rfl m1 r1 (by omega) (by simp; omega) f1))) f1 (by have:=r1.pl; simp; omega)
  rw [Kg0.eq_def]
  simp [e0,f0,e1,f1]
 obtain ⟨g1,q1,b,nb,lb,bb⟩:=r1.gd f1
 obtain ⟨c1,t1,ht1,hn1,hz1⟩:=V2x hs g1
 have L1:=V0o g1
 have e1:Kg2 (s,ctx,⟨4,N,ty,[k0,k1]⟩,1)=some x1:=V2c (i:=1) rfl r1 f1
 have o1:=V2h (out:=[y0]) (nd:=[Kyx a]) (us:=[Kyx []]) (w:=1) (t:=⟨4,N,ty,[k0,k1]⟩) (m:=[]) rfl m1 r1 (by simp; omega) f1 (by rw [ht1]; exact V1l (.inl (by decide))) (V1j (show (4:Int) ≠ 10 by decide)) nb (by simp <;> omega) (by simp) (by simp) (by simp) (by simp)
 have hf:=V22 (N:=N) (ty:=ty) (ks:=[k0,k1]) (ctx:=ctx) (us:=[Kyx [],Kyx []]) (z:=Kyx (List.replicate ctx.length 0)) (y0:=y0) (y1:=y1) hs ba bb (by omega) (by omega) (by rw [r0.ty]; omega) (by rw [r1.ty]; omega)
 have im:=V1i (p0:=⟨s⟩) (t:=⟨4,N,ty,[k0,k1]⟩) (ctx:=ctx) (by omega) (o0.trans (o1.trans (V19 (Nat.le_refl _)))) hf
 rw [r0.ty,r1.ty] at im
 refine V2b.done (q:=1 :: (x0.fty ++ x1.fty)) (ns:=Kza s n a b) (kids:=[y0,y1]) ?_ im (by omega) (fun hl=>V0y hs g0 g1 (.inl rfl) hl) (by unfold Kza; rw [List.length_zipWith]; omega) (Kzg hs ba bb) rfl (kd2 (V2a.mk' (V2i (by decide) rfl) r0 f0 (fun _ h=>by cases h) rfl) (V2a.mk' (V2i (by decide) rfl) r1 f1 (fun _ h=>by cases h) rfl))
 have hg:=V02 1 [x0.fty,x1.fty] (by simp) (by simp; omega)
 simp only [List.flatten_cons,List.flatten_nil,List.append_nil] at hg
 rw [Kg0.eq_def]
 simp [e0,f0,e1,f1,hg,na,nb,Kzn hs a b ba bb (by omega) (by omega)]
theorem V33 (ih:V2s s n (tsz (⟨2,N,ty,ks⟩:K01))) (h:tOk (gN s.fSize true) (yN s.fSize true) ctx.length ⟨2,N,ty,ks⟩=true) (hc:∀ q ∈ ctx,TyS s q) (hb:ctx.length + 2 * tsz (⟨2,N,ty,ks⟩:K01) ≤ 1000000):∃ x y,V2b s n ctx ⟨2,N,ty,ks⟩ x y:=by
 obtain ⟨k0,k1,rfl,p0,p1⟩:=nd2 h (Nat.le_refl _) rfl
 have hz:=Kyu 2 N ty k0 k1
 obtain ⟨x0,y0,r0⟩:=ih k0 ctx p0 hc (by omega)
 obtain ⟨x1,y1,r1⟩:=ih k1 ctx p1 hc (by omega)
 by_cases f0:x0.ffault=0
 rotate_left
 ·exact V2u (by decide) (by decide) (by decide) hb r0 f0
 obtain ⟨g0,q0,a,na,la,ba⟩:=r0.gd f0
 obtain ⟨c0,t0,ht0,hn0,hz0⟩:=V2x hs g0
 have L0:=V0o g0
 have e0:Kg2 (s,ctx,⟨2,N,ty,[k0,k1]⟩,0)=some x0:=V2c (i:=0) rfl r0 f0
 have i0:idx x0.fty 0=some c0:=by rw [ht0]; rfl
 by_cases z0:c0=0
 rotate_left
 ·refine V2b.bad (f:=2) (p:=[]) ?_ (V1h (by omega) (V2f (m:=[]) rfl (V2o (by decide)) r0 (by simp; omega) f0 (by rw [ht0,V1m,if_neg (by rw [hn0]; exact z0)]) (by decide))) (by decide) (by simp; omega)
  rw [Kg0.eq_def]
  simp [e0,f0,i0,z0,Kfa]
 have u0:=hz0 z0
 have s0:(Ku4 c0).1=0:=hn0.2 z0
 have o0:=V2h (out:=[]) (nd:=[]) (us:=[]) (w:=0) (t:=⟨2,N,ty,[k0,k1]⟩) (m:=[]) rfl (V2o (by decide)) r0 (by simp; omega) f0 (by rw [ht0,V1m,if_pos s0]) (V1j (show (2:Int) ≠ 10 by decide)) na (by simp <;> omega) (by simp) (by simp) (by simp) (by simp)
 have m1:V16 ⟨2,N,ty,[k0,k1]⟩ [y0] 1=some []:=V2q (by decide) (V2i (by decide) rfl)
 by_cases f1:x1.ffault=0
 rotate_left
 ·have e1:Kg2 (s,ctx,⟨2,N,ty,[k0,k1]⟩,1)=some ⟨[],[],x1.ffault,1 :: x1.fpath⟩:=V2d (i:=1) rfl r1 (by omega) f1
  refine V2b.bad (f:=x1.ffault) (p:=1 :: x1.fpath) ?_ (V1h (by omega) (o0.trans (V2e (m:=[]) rfl m1 r1 (by omega) (by simp; omega) f1))) f1 (by have:=r1.pl; simp; omega)
  rw [Kg0.eq_def]
  simp [e0,f0,i0,z0,Kg3.eq_def,e1,f1]
 obtain ⟨g1,q1,b,nb,lb,bb⟩:=r1.gd f1
 obtain ⟨c1,t1,ht1,hn1,hz1⟩:=V2x hs g1
 have L1:=V0o g1
 have e1:Kg2 (s,ctx,⟨2,N,ty,[k0,k1]⟩,1)=some x1:=V2c (i:=1) rfl r1 f1
 have i1:idx x1.fty 0=some c1:=by rw [ht1]; rfl
 by_cases z1:c1=0
 rotate_left
 ·refine V2b.bad (f:=2) (p:=[]) ?_ (V1h (by omega) (o0.trans (V2f (m:=[]) rfl m1 r1 (by simp; omega) f1 (by rw [ht1,V1m,if_neg (by rw [hn1]; exact z1)]) (by decide)))) (by decide) (by simp; omega)
  rw [Kg0.eq_def]
  simp [e0,f0,i0,z0,e1,f1,i1,z1,Kfa,Kg3.eq_def]
 have u1:=hz1 z1
 have s1:(Ku4 c1).1=0:=hn1.2 z1
 have o1:=V2h (out:=[y0]) (nd:=[Kyx a]) (us:=[Kyx []]) (w:=1) (t:=⟨2,N,ty,[k0,k1]⟩) (m:=[]) rfl m1 r1 (by simp; omega) f1 (by rw [ht1,V1m,if_pos s1]) (V1j (show (2:Int) ≠ 10 by decide)) nb (by simp <;> omega) (by simp) (by simp) (by simp) (by simp)
 have hf:=V20 (N:=N) (ty:=ty) (ks:=[k0,k1]) (ctx:=ctx) (us:=[Kyx [],Kyx []]) (z:=Kyx (List.replicate ctx.length 0)) (y0:=y0) (y1:=y1) hs ba bb (by omega) (by omega)
 have im:=V1i (p0:=⟨s⟩) (t:=⟨2,N,ty,[k0,k1]⟩) (ctx:=ctx) (by omega) (o0.trans (o1.trans (V19 (Nat.le_refl _)))) hf
 replace im:=V2t (q:=[0]) (ns:=Kza s n a b) (kids:=[y0,y1]) (by decide) im
 refine V2b.good (q:=[0]) (ns:=Kza s n a b) (kids:=[y0,y1]) ?_ im (by omega) V0u (by unfold Kza; rw [List.length_zipWith]; omega) (Kzg hs ba bb) rfl (kd2 (V2a.mk' (V2i (by decide) rfl) r0 f0 (fun _ h=>by cases h) rfl) (V2a.mk' (V2i (by decide) rfl) r1 f1 (fun _ h=>by cases h) rfl))
 rw [Kg0.eq_def]
 simp [e0,f0,i0,z0,e1,f1,i1,z1,na,nb,u1,V1t,Kzn hs a b ba bb (by omega) (by omega),Kg3.eq_def]
theorem V34 (ih:V2s s n (tsz (⟨3,N,ty,ks⟩:K01))) (h:tOk (gN s.fSize true) (yN s.fSize true) ctx.length ⟨3,N,ty,ks⟩=true) (hc:∀ q ∈ ctx,TyS s q) (hb:ctx.length + 2 * tsz (⟨3,N,ty,ks⟩:K01) ≤ 1000000):∃ x y,V2b s n ctx ⟨3,N,ty,ks⟩ x y:=by
 obtain ⟨k0,k1,k2,rfl,p0,p1,p2⟩:=nd3 h (Nat.le_refl _) rfl
 have hz:=Kyv 3 N ty k0 k1 k2
 obtain ⟨x0,y0,r0⟩:=ih k0 ctx p0 hc (by omega)
 obtain ⟨x1,y1,r1⟩:=ih k1 ctx p1 hc (by omega)
 obtain ⟨x2,y2,r2⟩:=ih k2 ctx p2 hc (by omega)
 by_cases f0:x0.ffault=0
 rotate_left
 ·exact V2u (by decide) (by decide) (by decide) hb r0 f0
 obtain ⟨g0,q0,a,na,la,ba⟩:=r0.gd f0
 obtain ⟨c0,t0,ht0,hn0,hz0⟩:=V2x hs g0
 have L0:=V0o g0
 have e0:Kg2 (s,ctx,⟨3,N,ty,[k0,k1,k2]⟩,0)=some x0:=V2c (i:=0) rfl r0 f0
 have i0:idx x0.fty 0=some c0:=by rw [ht0]; rfl
 by_cases z0:c0=0
 rotate_left
 ·refine V2b.bad (f:=2) (p:=[]) ?_ (V1h (by omega) (V2f (m:=[]) rfl (V2o (by decide)) r0 (by simp; omega) f0 (by rw [ht0,V1n,if_neg (by rw [hn0]; exact z0)]) (by decide))) (by decide) (by simp; omega)
  rw [Kg0.eq_def]
  simp [e0,f0,i0,z0,Kfa]
 have u0:=hz0 z0
 have s0:(Ku4 c0).1=0:=hn0.2 z0
 have o0:=V2h (out:=[]) (nd:=[]) (us:=[]) (w:=0) (t:=⟨3,N,ty,[k0,k1,k2]⟩) (m:=[]) rfl (V2o (by decide)) r0 (by simp; omega) f0 (by rw [ht0,V1n,if_pos s0]) (V1j (show (3:Int) ≠ 10 by decide)) na (by simp <;> omega) (by simp) (by simp) (by simp) (by simp)
 have m1:V16 ⟨3,N,ty,[k0,k1,k2]⟩ [y0] 1=some []:=V2q (by decide) (V2i (by decide) rfl)
 by_cases f1:x1.ffault=0
 rotate_left
 ·have e1:Kg2 (s,ctx,⟨3,N,ty,[k0,k1,k2]⟩,1)=some ⟨[],[],x1.ffault,1 :: x1.fpath⟩:=V2d (i:=1) rfl r1 (by omega) f1
  refine V2b.bad (f:=x1.ffault) (p:=1 :: x1.fpath) ?_ (V1h (by omega) (o0.trans (V2e (m:=[]) rfl m1 r1 (by omega) (by simp; omega) f1))) f1 (by have:=r1.pl; simp; omega)
  rw [Kg0.eq_def]
  simp [e0,f0,i0,z0,Kg3.eq_def,e1,f1]
 obtain ⟨g1,q1,b,nb,lb,bb⟩:=r1.gd f1
 obtain ⟨c1,t1,ht1,hn1,hz1⟩:=V2x hs g1
 have L1:=V0o g1
 have e1:Kg2 (s,ctx,⟨3,N,ty,[k0,k1,k2]⟩,1)=some x1:=V2c (i:=1) rfl r1 f1
 have o1:=V2h (out:=[y0]) (nd:=[Kyx a]) (us:=[Kyx []]) (w:=1) (t:=⟨3,N,ty,[k0,k1,k2]⟩) (m:=[]) rfl m1 r1 (by simp; omega) f1 (by rw [ht1]; exact V1l (.inr (by decide))) (V1j (show (3:Int) ≠ 10 by decide)) nb (by simp <;> omega) (by simp) (by simp) (by simp) (by simp)
 have m2:V16 ⟨3,N,ty,[k0,k1,k2]⟩ [y0,y1] 2=some []:=V2q (by decide) (V2i (by decide) rfl)
 by_cases f2:x2.ffault=0
 rotate_left
 ·have e2:Kg2 (s,ctx,⟨3,N,ty,[k0,k1,k2]⟩,2)=some ⟨[],[],x2.ffault,2 :: x2.fpath⟩:=V2d (i:=2) rfl r2 (by omega) f2
  refine V2b.bad (f:=x2.ffault) (p:=2 :: x2.fpath) ?_ (V1h (by omega) (o0.trans (o1.trans (V2e (m:=[]) rfl m2 r2 (by omega) (by simp; omega) f2)))) f2 (by have:=r2.pl; simp; omega)
  rw [Kg0.eq_def]
  simp [e0,f0,i0,z0,e1,f1,Kg3.eq_def,e2,f2]
 obtain ⟨g2,q2,d,nd,ld,bd⟩:=r2.gd f2
 obtain ⟨c2,t2,ht2,hn2,hz2⟩:=V2x hs g2
 have L2:=V0o g2
 have e2:Kg2 (s,ctx,⟨3,N,ty,[k0,k1,k2]⟩,2)=some x2:=V2c (i:=2) rfl r2 f2
 have o2:=V2h (out:=[y0,y1]) (nd:=[Kyx a,Kyx b]) (us:=[Kyx [],Kyx []]) (w:=2) (t:=⟨3,N,ty,[k0,k1,k2]⟩) (m:=[]) rfl m2 r2 (by simp; omega) f2 (by rw [ht2]; exact V1l (.inr (by decide))) (V1j (show (3:Int) ≠ 10 by decide)) nd (by simp <;> omega) (by simp) (by simp) (by simp) (by simp)
 have hf:=V21 (N:=N) (ty:=ty) (ks:=[k0,k1,k2]) (ctx:=ctx) (us:=[Kyx [],Kyx [],Kyx []]) (z:=Kyx (List.replicate ctx.length 0)) (y0:=y0) (y1:=y1) (y2:=y2) hs ba bb bd (by omega) (by omega) (by omega) (by rw [r2.ty]; omega) (by rw [r1.ty]; omega)
 have hl0:=o0.trans (o1.trans (o2.trans (V19 (Nat.le_refl _))))
 
 have hsm:=Ky9 x1.fty x2.fty (by omega)
 have lj:(Kzc s n b d).length=ctx.length:=by unfold Kzc; rw [List.length_zipWith]; omega
 rw [r1.ty,r2.ty] at hf
 by_cases hq:x1.fty=x2.fty
 ·rw [if_pos hq] at hf
  have im:=V1i (by omega) hl0 hf
  replace im:=V2t (q:=x1.fty) (ns:=Kza s n a (Kzc s n b d)) (kids:=[y0,y1,y2]) (by omega) im
  refine V2b.good (q:=x1.fty) (ns:=Kza s n a (Kzc s n b d)) (kids:=[y0,y1,y2]) ?_ im (by omega) g1 (by unfold Kza; rw [List.length_zipWith]; omega) (Kzg hs ba (Kzi hs bb bd)) rfl (kd3 (V2a.mk' (V2i (by decide) rfl) r0 f0 (fun _ h=>by cases h) rfl) (V2a.mk' (V2i (by decide) rfl) r1 f1 (fun _ h=>by cases h) rfl) (V2a.mk' (V2i (by decide) rfl) r2 f2 (fun _ h=>by cases h) rfl))
  rw [show (x1.fty == x2.fty)=true from beq_iff_eq.2 hq] at hsm
  rw [Kg0.eq_def]
  simp [e0,f0,i0,z0,e1,f1,e2,f2,hsm,na,nb,nd,Kzp hs b d bb bd (by omega) (by omega),Kzn hs a (Kzc s n b d) ba (Kzi hs bb bd) (by omega) (by omega),Kg3.eq_def]
 ·rw [if_neg hq] at hf
  refine V2b.bad (f:=3) (p:=[]) ?_ (V1i (by omega) hl0 hf) (by decide) (by simp; omega)
  rw [show (x1.fty == x2.fty)=false from beq_eq_false_iff_ne.2 hq] at hsm
  rw [Kg0.eq_def]
  simp [e0,f0,i0,z0,e1,f1,e2,f2,hsm,Kg3.eq_def,Kfa]
end
theorem V35 (g:Nat) (h:g ≤ 15):Ku4 (3 + (g:Int))=(3,(g:Int)):=by
 rcases Ku6 (3 + (g:Int)) with h | h | h | h | h | h | h | h <;> first | omega | (obtain ⟨_,e⟩:=h; rw [e]; congr 1; omega)
theorem V36 (g:Nat) (h:g ≤ 15):Ku4 (19 + (g:Int))=(4,(g:Int)):=by
 rcases Ku6 (19 + (g:Int)) with h | h | h | h | h | h | h | h <;> first | omega | (obtain ⟨_,e⟩:=h; rw [e]; congr 1; omega)
theorem V37 (g:Nat) (h:g ≤ 15):Ktx (3 + (g:Int))=true:=by unfold Ktx inB; simp; omega
theorem V38 (g:Nat) (h:g ≤ 15):Ktx (19 + (g:Int))=false:=by unfold Ktx inB; simp; omega
theorem V39 (g:Nat) (h:g ≤ 15):Kty (3 + (g:Int))=false:=by unfold Kty inB; simp; omega
theorem V3a (g:Nat) (h:g ≤ 15):Kty (19 + (g:Int))=true:=by unfold Kty inB; simp; omega
theorem V3b (g:Nat) (h:g ≤ 15):Kf1 (3 + (g:Int))=some (g:Int):=by
 rw [Kum (by rcases Ku3 (3 + (g:Int)) with h | h | h | h <;> omega)]
 unfold Kuk
 rw [if_neg (by omega),if_neg (by omega)]
 congr 1; omega
theorem V3c (g:Nat) (h:g ≤ 15):Kf1 (19 + (g:Int))=some (g:Int):=by
 rw [Kum (by rcases Ku3 (19 + (g:Int)) with h | h | h | h <;> omega)]
 unfold Kuk
 rw [if_neg (by omega),if_pos (by omega)]
 congr 1; omega
section
variable {s:K00} {n:Nat} (hs:Kz2 s n) {ctx:List (List Int)} {N:Int} {ty:List Int} {ks:List K01}
include hs
structure V3d (s:K00) (n:Nat) (q:List Int) (c:Int):Prop where
 arr:(Ku4 c).1=3→∃ (g:Nat) (a b:List Int),g < n∧g ≤ 15∧c=3 + (g:Int)∧q=c :: (a ++ b)∧V0r s (3 + (g:Int)) a b
 pair:(Ku4 c).1=1→∃ (a b:List Int),c=1∧q=c :: (a ++ b)∧V0r s 1 a b
 sum:(Ku4 c).1=2→∃ (a b:List Int),c=2∧q=c :: (a ++ b)∧V0r s 2 a b
 box:(Ku4 c).1=4→∃ (g:Nat) (a:List Int),g < n∧g ≤ 15∧c=19 + (g:Int)∧q=c :: a∧V0s s (19 + (g:Int)) a
 arrB:Ktx c=true ↔ (Ku4 c).1=3
 boxB:Kty c=true ↔ (Ku4 c).1=4
 one:c=1 ↔ (Ku4 c).1=1
 two:c=2 ↔ (Ku4 c).1=2
theorem V3e {q:List Int} (hq:TyS s q) {c:Int} {r:List Int} (e:q=c :: r):V3d s n q c:=by
 rcases V0x hs hq with rfl | ⟨a,b,rfl,P⟩ | ⟨a,b,rfl,P⟩ | ⟨g,a,b,hg,h15,rfl,P⟩ | ⟨g,a,hg,h15,rfl,P⟩
 ·cases e
  refine ⟨fun h=>?_,fun h=>?_,fun h=>?_,fun h=>?_,by decide,by decide,by decide,by decide⟩ <;> exact absurd h (by decide)
 ·cases e
  refine ⟨fun h=>absurd h (by decide),fun _=>⟨a,b,rfl,rfl,P⟩,fun h=>absurd h (by decide),fun h=>absurd h (by decide),by decide,by decide,by decide,by decide⟩
 ·cases e
  refine ⟨fun h=>absurd h (by decide),fun h=>absurd h (by decide),fun _=>⟨a,b,rfl,rfl,P⟩,fun h=>absurd h (by decide),by decide,by decide,by decide,by decide⟩
 ·cases e
  have hsh:=V35 g h15
  refine ⟨fun _=>⟨g,a,b,hg,h15,rfl,rfl,P⟩,fun h=>?_,fun h=>?_,fun h=>?_,?_,?_,?_,?_⟩
  ·rw [hsh] at h; simp at h
  ·rw [hsh] at h; simp at h
  ·rw [hsh] at h; simp at h
  ·rw [hsh,V37 g h15]; simp
  ·rw [hsh,V39 g h15]; simp
  ·rw [hsh]; simp; omega
  ·rw [hsh]; simp; omega
 ·cases e
  have hsh:=V36 g h15
  refine ⟨fun h=>?_,fun h=>?_,fun h=>?_,fun _=>⟨g,_,hg,h15,rfl,rfl,P⟩,?_,?_,?_,?_⟩
  ·rw [hsh] at h; simp at h
  ·rw [hsh] at h; simp at h
  ·rw [hsh] at h; simp at h
  ·rw [hsh,V38 g h15]; simp
  ·rw [hsh,V3a g h15]; simp
  ·rw [hsh]; simp; omega
  ·rw [hsh]; simp; omega
theorem V3f (ih:V2s s n (tsz (⟨10,N,ty,ks⟩:K01))) (h:tOk (gN s.fSize true) (yN s.fSize true) ctx.length ⟨10,N,ty,ks⟩=true) (hc:∀ q ∈ ctx,TyS s q) (hb:ctx.length + 2 * tsz (⟨10,N,ty,ks⟩:K01) ≤ 1000000):∃ x y,V2b s n ctx ⟨10,N,ty,ks⟩ x y:=by
 obtain ⟨k0,k1,rfl,p0,p1⟩:=nd2 h (Nat.le_refl _) rfl
 have hz:=Kyu 10 N ty k0 k1
 obtain ⟨x0,y0,r0⟩:=ih k0 ctx p0 hc (by omega)
 obtain ⟨x1,y1,r1⟩:=ih k1 ctx p1 hc (by omega)
 by_cases f0:x0.ffault=0
 rotate_left
 ·exact V2u (by decide) (by decide) (by decide) hb r0 f0
 obtain ⟨g0,q0,a,na,la,ba⟩:=r0.gd f0
 obtain ⟨c0,t0,ht0,hn0,hz0⟩:=V2x hs g0
 have L0:=V0o g0
 have e0:Kg2 (s,ctx,⟨10,N,ty,[k0,k1]⟩,0)=some x0:=V2c (i:=0) rfl r0 f0
 have C:=V3e hs g0 ht0
 have i0:idx x0.fty 0=some c0:=by rw [ht0]; rfl
 by_cases z0:(Ku4 c0).1=3
 rotate_left
 ·have w0:Ktx c0=false:=by cases h:Ktx c0 with | true=>exact absurd (C.arrB.1 h) z0 | false=>rfl
  refine V2b.bad (f:=6) (p:=[]) ?_ (V1h (by omega) (V2f (m:=[]) rfl (V2o (by decide)) r0 (by simp; omega) f0 (by rw [ht0,V1o,if_neg z0]) (by decide))) (by decide) (by simp; omega)
  rw [Kg0.eq_def]
  simp [e0,f0,i0,Ku0,w0,Kfa]
 obtain ⟨g,p,q,hg,h15,hcg,hq,P⟩:=C.arr z0
 have w0:Ktx c0=true:=C.arrB.2 z0
 have o0:=V2h (out:=[]) (nd:=[]) (us:=[]) (w:=0) (t:=⟨10,N,ty,[k0,k1]⟩) (m:=[]) rfl (V2o (by decide)) r0 (by simp; omega) f0 (by rw [ht0,V1o,if_pos z0]) (V1k (by decide)) na (by simp <;> omega) (by simp) (by simp) (by simp) (by simp)
 have m1:V16 ⟨10,N,ty,[k0,k1]⟩ [y0] 1=some []:=V2q (by decide) (V2i (by decide) rfl)
 by_cases f1:x1.ffault=0
 rotate_left
 ·have e1:Kg2 (s,ctx,⟨10,N,ty,[k0,k1]⟩,1)=some ⟨[],[],x1.ffault,1 :: x1.fpath⟩:=V2d (i:=1) rfl r1 (by omega) f1
  refine V2b.bad (f:=x1.ffault) (p:=1 :: x1.fpath) ?_ (V1h (by omega) (o0.trans (V2e (m:=[]) rfl m1 r1 (by omega) (by simp; omega) f1))) f1 (by have:=r1.pl; simp; omega)
  rw [Kg0.eq_def]
  simp [e0,f0,i0,Ku0,w0,e1,f1]
 obtain ⟨g1,q1,b,nb,lb,bb⟩:=r1.gd f1
 obtain ⟨c1,t1,ht1,hn1,hz1⟩:=V2x hs g1
 have L1:=V0o g1
 have e1:Kg2 (s,ctx,⟨10,N,ty,[k0,k1]⟩,1)=some x1:=V2c (i:=1) rfl r1 f1
 have hp0:Key (x0.fty,0)=some p:=by rw [hq,hcg]; exact P.p0
 have hp1:Key (x0.fty,1)=some q:=by rw [hq,hcg]; exact P.p1
 have hpp:Kn8 y0.fty=some [p,q]:=by rw [r0.ty,hq,hcg]; exact P.pp
 have Lp:=V0o P.ya
 have Lq:=V0o P.yb
 have hsm:=Ky9 x1.fty p (by omega)
 have hsi:=Kyb x1.fty p (by omega)
 have ha:V1c ⟨10,N,ty,[k0,k1]⟩ [y0] 1 y1=some (!(x1.fty == p)):=by
  unfold V1c
  rw [if_pos (show ((10:Int) == 10)=true by decide),if_pos (by decide),V1t,bs,hpp,bs,V1t,bs,r1.ty,hsi,bs]
 by_cases hqq:x1.fty=p
 rotate_left
 ·rw [show (x1.fty == p)=false from beq_eq_false_iff_ne.2 hqq] at hsm ha
  refine V2b.bad (f:=3) (p:=[]) ?_ (V1h (by omega) (o0.trans (V2g (m:=[]) rfl m1 r1 (by simp; omega) f1 (by rw [ht1]; exact V1l (.inr (by decide))) ha))) (by decide) (by simp; omega)
  rw [Kg0.eq_def]
  simp [e0,f0,i0,Ku0,w0,e1,f1,hp0,hsm,Kfa]
 rw [show (x1.fty == p)=true from beq_iff_eq.2 hqq] at hsm ha
 have o1:=V2h (out:=[y0]) (nd:=[Kyx a]) (us:=[Kyx []]) (w:=1) (t:=⟨10,N,ty,[k0,k1]⟩) (m:=[]) rfl m1 r1 (by simp; omega) f1 (by rw [ht1]; exact V1l (.inr (by decide))) ha nb (by simp <;> omega) (by simp) (by simp) (by simp) (by simp)
 have hf:=V25 (N:=N) (ty:=ty) (ks:=[k0,k1]) (ctx:=ctx) (us:=[Kyx [],Kyx []]) (z:=Kyx (List.replicate ctx.length 0)) (y0:=y0) (y1:=y1) hs hg (p:=p) (q:=q) (by rw [r0.ty,hq,hcg]) P ba bb (by omega) (by omega)
 have im:=V2t (q:=q) (ns:=Kza s n a (Kzb s n g b)) (kids:=[y0,y1]) Lq (V1i (p0:=⟨s⟩) (t:=⟨10,N,ty,[k0,k1]⟩) (ctx:=ctx) (by omega) (o0.trans (o1.trans (V19 (Nat.le_refl _)))) hf)
 have lsc:(Kzb s n g b).length=ctx.length:=by unfold Kzb; rw [List.length_map]; exact lb
 refine V2b.good (q:=q) (ns:=Kza s n a (Kzb s n g b)) (kids:=[y0,y1]) ?_ im (by omega) P.yb (by unfold Kza; rw [List.length_zipWith]; omega) (Kzg hs ba (Kzh hs hg bb)) rfl (kd2 (V2a.mk' (V2i (by decide) rfl) r0 f0 (fun _ h=>by cases h) rfl) (V2a.mk' (V2i (by decide) rfl) r1 f1 (fun _ h=>by cases h) rfl))
 have hgr:Kf1 c0=some (g:Int):=by rw [hcg]; exact V3b g h15
 rw [Kg0.eq_def]
 simp [e0,f0,i0,Ku0,w0,e1,f1,hp0,hp1,hsm,hgr,na,nb,Kzm hs g hg a b ba bb (by omega) (by omega)]
theorem V3g (ih:V2s s n (tsz (⟨5,N,ty,ks⟩:K01))) (h:tOk (gN s.fSize true) (yN s.fSize true) ctx.length ⟨5,N,ty,ks⟩=true) (hc:∀ q ∈ ctx,TyS s q) (hb:ctx.length + 2 * tsz (⟨5,N,ty,ks⟩:K01) ≤ 1000000):∃ x y,V2b s n ctx ⟨5,N,ty,ks⟩ x y:=by
 obtain ⟨k0,k1,rfl,p0,p1⟩:=nd2 h (Nat.le_refl _) rfl
 have hz:=Kyu 5 N ty k0 k1
 obtain ⟨g,hN,hg⟩:=V10 hs (V12 h rfl)
 simp only at hN
 subst hN
 obtain ⟨x0,y0,r0⟩:=ih k0 ctx p0 hc (by omega)
 by_cases f0:x0.ffault=0
 rotate_left
 ·exact V2u (by decide) (by decide) (by decide) hb r0 f0
 obtain ⟨g0,q0,a,na,la,ba⟩:=r0.gd f0
 obtain ⟨c0,t0,ht0,hn0,hz0⟩:=V2x hs g0
 have L0:=V0o g0
 have e0:Kg2 (s,ctx,⟨5,(g:Int),ty,[k0,k1]⟩,0)=some x0:=V2c (i:=0) rfl r0 f0
 have C:=V3e hs g0 ht0
 have i0:idx x0.fty 0=some c0:=by rw [ht0]; rfl
 by_cases z0:(Ku4 c0).1=1
 rotate_left
 ·have w0:c0 ≠ 1:=fun h=>z0 (C.one.1 h)
  refine V2b.bad (f:=4) (p:=[]) ?_ (V1h (by omega) (V2f (m:=[]) rfl (V2o (by decide)) r0 (by simp; omega) f0 (by rw [ht0,V1p hs hg,if_neg z0]) (by decide))) (by decide) (by simp; omega)
  rw [Kg0.eq_def]
  simp [e0,f0,i0,Kg1.eq_def,w0,Kfa]
 obtain ⟨p,q,hcg,hq,P⟩:=C.pair z0
 have hle:=sLe hs.tab (Kz4 hs) hg
 cases hl:le s n 1 g with
 | false =>
  have hl2:Kbu (s,1,(g:Int))=some false:=by rw [← hl]; exact hle
  refine V2b.bad (f:=8) (p:=[]) ?_ (V1h (by omega) (V2f (m:=[]) rfl (V2o (by decide)) r0 (by simp; omega) f0 (by rw [ht0,V1p hs hg,if_pos z0,hl]; rfl) (by decide))) (by decide) (by simp; omega)
  rw [Kg0.eq_def]
  simp [e0,f0,i0,Kg1.eq_def,hcg,hl2,Kfa]
 | true =>
 have hl2:Kbu (s,1,(g:Int))=some true:=by rw [← hl]; exact hle
 have o0:=V2h (out:=[]) (nd:=[]) (us:=[]) (w:=0) (t:=⟨5,(g:Int),ty,[k0,k1]⟩) (m:=[]) rfl (V2o (by decide)) r0 (by simp; omega) f0 (by rw [ht0,V1p hs hg,if_pos z0,hl]; rfl) (V1j (show (5:Int) ≠ 10 by decide)) na (by simp <;> omega) (by simp) (by simp) (by simp) (by simp)
 have hp0:Key (x0.fty,0)=some p:=by rw [hq,hcg]; exact P.p0
 have hp1:Key (x0.fty,1)=some q:=by rw [hq,hcg]; exact P.p1
 have ad:Knb (⟨5,(g:Int),ty,[k0,k1]⟩,((1:Nat):Int),y0.fty)=some [q,p]:=by rw [r0.ty,hq,hcg]; exact V2k P
 have hm':∀ z ∈ [q,p],TyS s z:=fun z hz=>by simp at hz; rcases hz with rfl | rfl; exact P.yb; exact P.ya
 have m1:V16 ⟨5,(g:Int),ty,[k0,k1]⟩ [y0] 1=some [q,p]:=V2q (by decide) ad
 have p1':V11 s ([q,p] ++ ctx).length k1 (tsz (⟨5,(g:Int),ty,[k0,k1]⟩:K01)):=by
  have e:([q,p] ++ ctx).length=ctx.length + Kva 5 1:=by simp [Kva]
  rw [e]; exact p1
 obtain ⟨x1,y1,r1⟩:=ih k1 ([q,p] ++ ctx) p1' (fun z hz=>by rcases List.mem_append.1 hz with hz | hz; exact hm' z hz; exact hc z hz) (by simp; omega)
 have hwc:=V00 ctx [q,p] (by simp; omega)
 by_cases f1:x1.ffault=0
 rotate_left
 ·have e1:Kg2 (s,q :: p :: ctx,⟨5,(g:Int),ty,[k0,k1]⟩,1)=some ⟨[],[],x1.ffault,1 :: x1.fpath⟩:=V2d (i:=1) rfl r1 (by omega) f1
  refine V2b.bad (f:=x1.ffault) (p:=1 :: x1.fpath) ?_ (V1h (by omega) (o0.trans (V2e (m:=[q,p]) rfl m1 r1 (by omega) (by simp; omega) f1))) f1 (by have:=r1.pl; simp; omega)
  rw [Kg0.eq_def]
  simp [e0,f0,i0,Kg1.eq_def,hcg,hl2,hp0,hp1,hwc,e1,f1]
 obtain ⟨g1,q1,b,nb,lb,bb⟩:=r1.gd f1
 obtain ⟨c1,t1,ht1,hn1,hz1⟩:=V2x hs g1
 have L1:=V0o g1
 have e1:Kg2 (s,q :: p :: ctx,⟨5,(g:Int),ty,[k0,k1]⟩,1)=some x1:=V2c (i:=1) rfl r1 f1
 have lb':b.length=ctx.length + 2:=by rw [lb]; simp
 obtain ⟨u0,u1,b',rfl⟩:∃ u0 u1 b',b=u0 :: u1 :: b':=by match b,lb' with | u0 :: u1 :: b',_=>exact ⟨u0,u1,b',rfl⟩ | [_],h=>simp at h | [],h=>simp at h
 obtain ⟨hu0,bb1⟩:=Kze bb
 obtain ⟨hu1,bb'⟩:=Kze bb1
 have o1:=V2h (out:=[y0]) (nd:=[Kyx a]) (us:=[Kyx []]) (w:=1) (t:=⟨5,(g:Int),ty,[k0,k1]⟩) (m:=[q,p]) rfl m1 r1 (by simp; omega) f1 (by rw [ht1]; exact V1l (.inr (by decide))) (V1j (show (5:Int) ≠ 10 by decide)) nb (by simp <;> omega) (by simp) (by simp) (by simp) (by simp)
 simp only [List.length_cons,List.length_nil,Nat.zero_add,List.drop_succ_cons,List.drop_zero,List.take_succ_cons,List.take_zero,List.nil_append] at o1
 have hl0:=o0.trans (o1.trans (V19 (Nat.le_refl _)))
 have lbc:b'.length=ctx.length:=by simp at lb'; omega
 have i1:idx x1.fneeds 0=some (u0:Int):=by rw [nb]; rfl
 have hcut:cut x1.fneeds (some (2:Int)) none none=some (Kyx b'):=by
  rw [nb]
  have:=V1b (l:=Kyx (u0 :: u1 :: b')) (m:=2) (by simp [Kyx])
  exact this
 have hcp:=Kvv (Kyx b') (by rw [Kyy]; omega)
 have i2:idx x1.fneeds 1=some (u1:Int):=by rw [nb]; rfl
 have hle0:=sLe hs.tab hu0 hg
 have hle1:=sLe hs.tab hu1 hg
 have hf:=V26 (ty:=ty) (ks:=[k0,k1]) (ctx:=ctx) (z:=Kyx (List.replicate ctx.length 0)) (y0:=y0) (y1:=y1) (us':=Kyx []) (u:=[u0,u1]) hs hg (fun x hx=>by simp at hx; rcases hx with rfl | rfl; exact hu0; exact hu1) (by simp) ba bb' (by omega) (by omega) (by rw [r1.ty]; omega)
 simp only [List.all_cons,List.all_nil,Bool.and_true] at hf
 have es:=e1
 cases hal:(le s n u0 g && le s n u1 g) with
 | false =>
  rw [hal,if_neg (by decide)] at hf
  refine V2b.bad (f:=9) (p:=[]) ?_ (V1i (by omega) hl0 hf) (by decide) (by simp; omega)
  rw [Kg0.eq_def]
  simp [e0,f0,i0,Kg1.eq_def,hcg,hl2,hp0,hp1,hwc,e1,f1,i1,i2,hcut,hcp,hle0,hle1,Kfa]
  cases q1:le s n u1 g with
  | false=>simp
  | true=>rw [q1,Bool.and_true] at hal; simp [hal]
 | true =>
  rw [hal,if_pos rfl] at hf
  have im:=V2t (q:=y1.fty) (ns:=Kza s n (Kzb s n g a) b') (kids:=[y0,y1]) (by rw [r1.ty]; omega) (V1i (by omega) hl0 hf)
  rw [r1.ty] at im
  have lsc:(Kzb s n g a).length=ctx.length:=by unfold Kzb; rw [List.length_map]; exact la
  have hsc:=Kzh hs hg ba
  have hz0:=Kzk hs hsc
  rw [lsc] at hz0
  have hsum:=Kzm hs g hg (List.replicate ctx.length 0) a (fun x hx=>by rw [List.eq_of_mem_replicate hx]; exact Kz5 hs) ba (by simp; omega) (by simp [la])
  rw [hz0] at hsum
  have hs2:=Kzn hs (Kzb s n g a) b' hsc bb' (by omega) (by omega)
  refine V2b.good (q:=x1.fty) (ns:=Kza s n (Kzb s n g a) b') (kids:=[y0,y1]) ?_ im (by omega) g1 (by unfold Kza; rw [List.length_zipWith]; omega) (Kzg hs hsc bb') rfl (kd2 (V2a.mk' (V2i (by decide) rfl) r0 f0 (fun _ h=>by cases h) rfl) (V2a.mk' ad r1 f1 hm' rfl))
  rw [Kg0.eq_def]
  rw [Bool.and_eq_true] at hal
  simp [e0,f0,i0,Kg1.eq_def,hcg,hl2,hp0,hp1,hwc,e1,f1,i1,i2,hcut,hcp,hle0,hle1,hal.1,hal.2,na,Kzz ctx.length (by omega),hsum,hs2]
theorem V3h (ih:V2s s n (tsz (⟨12,N,ty,ks⟩:K01))) (h:tOk (gN s.fSize true) (yN s.fSize true) ctx.length ⟨12,N,ty,ks⟩=true) (hc:∀ q ∈ ctx,TyS s q) (hb:ctx.length + 2 * tsz (⟨12,N,ty,ks⟩:K01) ≤ 1000000):∃ x y,V2b s n ctx ⟨12,N,ty,ks⟩ x y:=by
 obtain ⟨k0,k1,rfl,p0,p1⟩:=nd2 h (Nat.le_refl _) rfl
 have hz:=Kyu 12 N ty k0 k1
 obtain ⟨g,hN,hg⟩:=V10 hs (V12 h rfl)
 simp only at hN
 subst hN
 obtain ⟨x0,y0,r0⟩:=ih k0 ctx p0 hc (by omega)
 by_cases f0:x0.ffault=0
 rotate_left
 ·exact V2u (by decide) (by decide) (by decide) hb r0 f0
 obtain ⟨g0,q0,a,na,la,ba⟩:=r0.gd f0
 obtain ⟨c0,t0,ht0,hn0,hz0⟩:=V2x hs g0
 have L0:=V0o g0
 have e0:Kg2 (s,ctx,⟨12,(g:Int),ty,[k0,k1]⟩,0)=some x0:=V2c (i:=0) rfl r0 f0
 have C:=V3e hs g0 ht0
 have i0:idx x0.fty 0=some c0:=by rw [ht0]; rfl
 by_cases z0:(Ku4 c0).1=4
 rotate_left
 ·have w0:Kty c0=false:=by cases h:Kty c0 with | true=>exact absurd (C.boxB.1 h) z0 | false=>rfl
  refine V2b.bad (f:=7) (p:=[]) ?_ (V1h (by omega) (V2f (m:=[]) rfl (V2o (by decide)) r0 (by simp; omega) f0 (by rw [ht0,V1r hs hg,if_neg z0]) (by decide))) (by decide) (by simp; omega)
  rw [Kg0.eq_def]
  simp [e0,f0,i0,Kg1.eq_def,Ku1,w0,Kfa]
 obtain ⟨m,p,hm,h15,hcg,hq,P⟩:=C.box z0
 have w0:Kty c0=true:=C.boxB.2 z0
 have hle:=sLe hs.tab (Kz4 hs) hg
 cases hl:le s n 1 g with
 | false =>
  have hl2:Kbu (s,1,(g:Int))=some false:=by rw [← hl]; exact hle
  refine V2b.bad (f:=8) (p:=[]) ?_ (V1h (by omega) (V2f (m:=[]) rfl (V2o (by decide)) r0 (by simp; omega) f0 (by rw [ht0,V1r hs hg,if_pos z0,hl]; rfl) (by decide))) (by decide) (by simp; omega)
  rw [Kg0.eq_def]
  simp [e0,f0,i0,Kg1.eq_def,Ku1,w0,hl2,Kfa]
 | true =>
 have hl2:Kbu (s,1,(g:Int))=some true:=by rw [← hl]; exact hle
 have o0:=V2h (out:=[]) (nd:=[]) (us:=[]) (w:=0) (t:=⟨12,(g:Int),ty,[k0,k1]⟩) (m:=[]) rfl (V2o (by decide)) r0 (by simp; omega) f0 (by rw [ht0,V1r hs hg,if_pos z0,hl]; rfl) (V1j (show (12:Int) ≠ 10 by decide)) na (by simp <;> omega) (by simp) (by simp) (by simp) (by simp)
 have hp0:Key (x0.fty,0)=some p:=by rw [hq,hcg]; exact P.p0
 have ad:Knb (⟨12,(g:Int),ty,[k0,k1]⟩,((1:Nat):Int),y0.fty)=some [p]:=by rw [r0.ty,hq,hcg]; exact V2n P
 have hm':∀ z ∈ [p],TyS s z:=fun z hz=>by simp at hz; rw [hz]; exact P.ya
 have hgr:Kf1 c0=some (m:Int):=by rw [hcg]; exact V3c m h15
 have m1:V16 ⟨12,(g:Int),ty,[k0,k1]⟩ [y0] 1=some [p]:=V2q (by decide) ad
 have p1':V11 s ([p] ++ ctx).length k1 (tsz (⟨12,(g:Int),ty,[k0,k1]⟩:K01)):=by
  have e:([p] ++ ctx).length=ctx.length + Kva 12 1:=by simp [Kva]
  rw [e]; exact p1
 obtain ⟨x1,y1,r1⟩:=ih k1 ([p] ++ ctx) p1' (fun z hz=>by rcases List.mem_append.1 hz with hz | hz; exact hm' z hz; exact hc z hz) (by simp; omega)
 have hwc:=V00 ctx [p] (by simp; omega)
 by_cases f1:x1.ffault=0
 rotate_left
 ·have e1:Kg2 (s,p :: ctx,⟨12,(g:Int),ty,[k0,k1]⟩,1)=some ⟨[],[],x1.ffault,1 :: x1.fpath⟩:=V2d (i:=1) rfl r1 (by omega) f1
  refine V2b.bad (f:=x1.ffault) (p:=1 :: x1.fpath) ?_ (V1h (by omega) (o0.trans (V2e (m:=[p]) rfl m1 r1 (by omega) (by simp; omega) f1))) f1 (by have:=r1.pl; simp; omega)
  rw [Kg0.eq_def]
  simp [e0,f0,i0,Kg1.eq_def,Ku1,w0,hl2,hp0,hwc,e1,f1]
 obtain ⟨g1,q1,b,nb,lb,bb⟩:=r1.gd f1
 obtain ⟨c1,t1,ht1,hn1,hz1⟩:=V2x hs g1
 have L1:=V0o g1
 have e1:Kg2 (s,p :: ctx,⟨12,(g:Int),ty,[k0,k1]⟩,1)=some x1:=V2c (i:=1) rfl r1 f1
 have lb':b.length=ctx.length + 1:=by rw [lb]; simp
 obtain ⟨u0,b',rfl⟩:∃ u0 b',b=u0 :: b':=by match b,lb' with | u0 :: b',_=>exact ⟨u0,b',rfl⟩ | [],h=>simp at h
 obtain ⟨hu0,bb'⟩:=Kze bb
 have o1:=V2h (out:=[y0]) (nd:=[Kyx a]) (us:=[Kyx []]) (w:=1) (t:=⟨12,(g:Int),ty,[k0,k1]⟩) (m:=[p]) rfl m1 r1 (by simp; omega) f1 (by rw [ht1]; exact V1l (.inr (by decide))) (V1j (show (12:Int) ≠ 10 by decide)) nb (by simp <;> omega) (by simp) (by simp) (by simp) (by simp)
 simp only [List.length_cons,List.length_nil,Nat.zero_add,List.drop_succ_cons,List.drop_zero,List.take_succ_cons,List.take_zero,List.nil_append] at o1
 have hl0:=o0.trans (o1.trans (V19 (Nat.le_refl _)))
 have lbc:b'.length=ctx.length:=by simp at lb'; omega
 have i1:idx x1.fneeds 0=some (u0:Int):=by rw [nb]; rfl
 have hcut:cut x1.fneeds (some (1:Int)) none none=some (Kyx b'):=by
  rw [nb]
  have:=V1b (l:=Kyx (u0 :: b')) (m:=1) (by simp [Kyx])
  exact this
 have hcp:=Kvv (Kyx b') (by rw [Kyy]; omega)
 have hmul:=Kt3 hs.tab hg hm
 have htm:=Ksy hs.tab hg hm
 have hle0:=sLe hs.tab hu0 htm
 have hf:=V27 (ty:=ty) (ks:=[k0,k1]) (ctx:=ctx) (z:=Kyx (List.replicate ctx.length 0)) (y0:=y0) (y1:=y1) (us':=Kyx []) (u:=[u0]) hs hg hm (p:=p) (by rw [r0.ty,hq,hcg]) (fun x hx=>by simp at hx; rw [hx]; exact hu0) (by simp) ba bb' (by omega) (by omega) (by rw [r1.ty]; omega)
 simp only [List.all_cons,List.all_nil,Bool.and_true] at hf
 have es:=e1
 cases hal:(le s n u0 (ti s n g m)) with
 | false =>
  rw [hal,if_neg (by decide)] at hf
  refine V2b.bad (f:=9) (p:=[]) ?_ (V1i (by omega) hl0 hf) (by decide) (by simp; omega)
  rw [Kg0.eq_def]
  simp [e0,f0,i0,Kg1.eq_def,Ku1,w0,hl2,hp0,hwc,e1,f1,i1,hcut,hcp,hgr,hmul,hle0,hal,Kfa]
 | true =>
  rw [hal,if_pos rfl] at hf
  have im:=V2t (q:=y1.fty) (ns:=Kza s n (Kzb s n g a) b') (kids:=[y0,y1]) (by rw [r1.ty]; omega) (V1i (by omega) hl0 hf)
  rw [r1.ty] at im
  have lsc:(Kzb s n g a).length=ctx.length:=by unfold Kzb; rw [List.length_map]; exact la
  have hsc:=Kzh hs hg ba
  have hz0:=Kzk hs hsc
  rw [lsc] at hz0
  have hsum:=Kzm hs g hg (List.replicate ctx.length 0) a (fun x hx=>by rw [List.eq_of_mem_replicate hx]; exact Kz5 hs) ba (by simp; omega) (by simp [la])
  rw [hz0] at hsum
  have hs2:=Kzn hs (Kzb s n g a) b' hsc bb' (by omega) (by omega)
  refine V2b.good (q:=x1.fty) (ns:=Kza s n (Kzb s n g a) b') (kids:=[y0,y1]) ?_ im (by omega) g1 (by unfold Kza; rw [List.length_zipWith]; omega) (Kzg hs hsc bb') rfl (kd2 (V2a.mk' (V2i (by decide) rfl) r0 f0 (fun _ h=>by cases h) rfl) (V2a.mk' ad r1 f1 hm' rfl))
  rw [Kg0.eq_def]
  simp [e0,f0,i0,Kg1.eq_def,Ku1,w0,hl2,hp0,hwc,e1,f1,i1,hcut,hcp,hgr,hmul,hle0,hal,na,Kzz ctx.length (by omega),hsum,hs2]
theorem V3i (ih:V2s s n (tsz (⟨8,N,ty,ks⟩:K01))) (h:tOk (gN s.fSize true) (yN s.fSize true) ctx.length ⟨8,N,ty,ks⟩=true) (hc:∀ q ∈ ctx,TyS s q) (hb:ctx.length + 2 * tsz (⟨8,N,ty,ks⟩:K01) ≤ 1000000):∃ x y,V2b s n ctx ⟨8,N,ty,ks⟩ x y:=by
 obtain ⟨k0,k1,k2,rfl,p0,p1,p2⟩:=nd3 h (Nat.le_refl _) rfl
 have hz:=Kyv 8 N ty k0 k1 k2
 obtain ⟨g,hN,hg⟩:=V10 hs (V12 h rfl)
 simp only at hN
 subst hN
 obtain ⟨x0,y0,r0⟩:=ih k0 ctx p0 hc (by omega)
 by_cases f0:x0.ffault=0
 rotate_left
 ·exact V2u (by decide) (by decide) (by decide) hb r0 f0
 obtain ⟨g0,q0,a,na,la,ba⟩:=r0.gd f0
 obtain ⟨c0,t0,ht0,hn0,hz0⟩:=V2x hs g0
 have L0:=V0o g0
 have e0:Kg2 (s,ctx,⟨8,(g:Int),ty,[k0,k1,k2]⟩,0)=some x0:=V2c (i:=0) rfl r0 f0
 have C:=V3e hs g0 ht0
 have i0:idx x0.fty 0=some c0:=by rw [ht0]; rfl
 by_cases z0:(Ku4 c0).1=2
 rotate_left
 ·have w0:c0 ≠ 2:=fun h=>z0 (C.two.1 h)
  refine V2b.bad (f:=5) (p:=[]) ?_ (V1h (by omega) (V2f (m:=[]) rfl (V2o (by decide)) r0 (by simp; omega) f0 (by rw [ht0,V1q hs hg,if_neg z0]) (by decide))) (by decide) (by simp; omega)
  rw [Kg0.eq_def]
  simp [e0,f0,i0,Kg1.eq_def,w0,Kfa]
 obtain ⟨p,q,hcg,hq,P⟩:=C.sum z0
 have hle:=sLe hs.tab (Kz4 hs) hg
 cases hl:le s n 1 g with
 | false =>
  have hl2:Kbu (s,1,(g:Int))=some false:=by rw [← hl]; exact hle
  refine V2b.bad (f:=8) (p:=[]) ?_ (V1h (by omega) (V2f (m:=[]) rfl (V2o (by decide)) r0 (by simp; omega) f0 (by rw [ht0,V1q hs hg,if_pos z0,hl]; rfl) (by decide))) (by decide) (by simp; omega)
  rw [Kg0.eq_def]
  simp [e0,f0,i0,Kg1.eq_def,hcg,hl2,Kfa]
 | true =>
 have hl2:Kbu (s,1,(g:Int))=some true:=by rw [← hl]; exact hle
 have o0:=V2h (out:=[]) (nd:=[]) (us:=[]) (w:=0) (t:=⟨8,(g:Int),ty,[k0,k1,k2]⟩) (m:=[]) rfl (V2o (by decide)) r0 (by simp; omega) f0 (by rw [ht0,V1q hs hg,if_pos z0,hl]; rfl) (V1j (show (8:Int) ≠ 10 by decide)) na (by simp <;> omega) (by simp) (by simp) (by simp) (by simp)
 have hp0:Key (x0.fty,0)=some p:=by rw [hq,hcg]; exact P.p0
 have hp1:Key (x0.fty,1)=some q:=by rw [hq,hcg]; exact P.p1
 have ad1:Knb (⟨8,(g:Int),ty,[k0,k1,k2]⟩,((1:Nat):Int),y0.fty)=some [p]:=by rw [r0.ty,hq,hcg]; exact V2l P
 have ad2:Knb (⟨8,(g:Int),ty,[k0,k1,k2]⟩,((2:Nat):Int),y0.fty)=some [q]:=by rw [r0.ty,hq,hcg]; exact V2m P
 have hm1:∀ z ∈ [p],TyS s z:=fun z hz=>by simp at hz; rw [hz]; exact P.ya
 have hm2:∀ z ∈ [q],TyS s z:=fun z hz=>by simp at hz; rw [hz]; exact P.yb
 have m1:V16 ⟨8,(g:Int),ty,[k0,k1,k2]⟩ [y0] 1=some [p]:=V2q (by decide) ad1
 have p1':V11 s ([p] ++ ctx).length k1 (tsz (⟨8,(g:Int),ty,[k0,k1,k2]⟩:K01)):=by
  have e:([p] ++ ctx).length=ctx.length + Kva 8 1:=by simp [Kva]
  rw [e]; exact p1
 obtain ⟨x1,y1,r1⟩:=ih k1 ([p] ++ ctx) p1' (fun z hz=>by rcases List.mem_append.1 hz with hz | hz; exact hm1 z hz; exact hc z hz) (by simp; omega)
 have hw1:=V00 ctx [p] (by simp; omega)
 by_cases f1:x1.ffault=0
 rotate_left
 ·have e1:Kg2 (s,p :: ctx,⟨8,(g:Int),ty,[k0,k1,k2]⟩,1)=some ⟨[],[],x1.ffault,1 :: x1.fpath⟩:=V2d (i:=1) rfl r1 (by omega) f1
  refine V2b.bad (f:=x1.ffault) (p:=1 :: x1.fpath) ?_ (V1h (by omega) (o0.trans (V2e (m:=[p]) rfl m1 r1 (by omega) (by simp; omega) f1))) f1 (by have:=r1.pl; simp; omega)
  rw [Kg0.eq_def]
  simp [e0,f0,i0,Kg1.eq_def,hcg,hl2,hp0,hp1,hw1,e1,f1]
 obtain ⟨g1,q1,b,nb,lb,bb⟩:=r1.gd f1
 obtain ⟨c1,t1,ht1,hn1,hz1⟩:=V2x hs g1
 have L1:=V0o g1
 have e1:Kg2 (s,p :: ctx,⟨8,(g:Int),ty,[k0,k1,k2]⟩,1)=some x1:=V2c (i:=1) rfl r1 f1
 have lb':b.length=ctx.length + 1:=by rw [lb]; simp
 obtain ⟨u0,b',rfl⟩:∃ u0 b',b=u0 :: b':=by match b,lb' with | u0 :: b',_=>exact ⟨u0,b',rfl⟩ | [],h=>simp at h
 obtain ⟨hu0,bb'⟩:=Kze bb
 have lbc:b'.length=ctx.length:=by simp at lb'; omega
 have i1:idx x1.fneeds 0=some (u0:Int):=by rw [nb]; rfl
 have hcut1:cut x1.fneeds (some (1:Int)) none none=some (Kyx b'):=by rw [nb]; exact Kxo _ _
 have hcp1:=Kvv (Kyx b') (by rw [Kyy]; omega)
 have o1:=V2h (out:=[y0]) (nd:=[Kyx a]) (us:=[Kyx []]) (w:=1) (t:=⟨8,(g:Int),ty,[k0,k1,k2]⟩) (m:=[p]) rfl m1 r1 (by simp; omega) f1 (by rw [ht1]; exact V1l (.inr (by decide))) (V1j (show (8:Int) ≠ 10 by decide)) nb (by simp <;> omega) (by simp) (by simp) (by simp) (by simp)
 simp only [List.length_cons,List.length_nil,Nat.zero_add,List.drop_succ_cons,List.drop_zero,List.take_succ_cons,List.take_zero,List.nil_append,List.cons_append] at o1
 have m2:V16 ⟨8,(g:Int),ty,[k0,k1,k2]⟩ [y0,y1] 2=some [q]:=V2q (by decide) ad2
 have p2':V11 s ([q] ++ ctx).length k2 (tsz (⟨8,(g:Int),ty,[k0,k1,k2]⟩:K01)):=by
  have e:([q] ++ ctx).length=ctx.length + Kva 8 2:=by simp [Kva]
  rw [e]; exact p2
 obtain ⟨x2,y2,r2⟩:=ih k2 ([q] ++ ctx) p2' (fun z hz=>by rcases List.mem_append.1 hz with hz | hz; exact hm2 z hz; exact hc z hz) (by simp; omega)
 have hw2:=V00 ctx [q] (by simp; omega)
 by_cases f2:x2.ffault=0
 rotate_left
 ·have e2:Kg2 (s,q :: ctx,⟨8,(g:Int),ty,[k0,k1,k2]⟩,2)=some ⟨[],[],x2.ffault,2 :: x2.fpath⟩:=V2d (i:=2) rfl r2 (by omega) f2
  refine V2b.bad (f:=x2.ffault) (p:=2 :: x2.fpath) ?_ (V1h (by omega) (o0.trans (o1.trans (V2e (m:=[q]) rfl m2 r2 (by omega) (by simp; omega) f2)))) f2 (by have:=r2.pl; simp; omega)
  rw [Kg0.eq_def]
  simp [e0,f0,i0,Kg1.eq_def,hcg,hl2,hp0,hp1,hw1,e1,f1,hcut1,hcp1,hw2,e2,f2]
 obtain ⟨g2,q2,d,nd,ld,bd⟩:=r2.gd f2
 obtain ⟨c2,t2,ht2,hn2,hz2⟩:=V2x hs g2
 have L2:=V0o g2
 have e2:Kg2 (s,q :: ctx,⟨8,(g:Int),ty,[k0,k1,k2]⟩,2)=some x2:=V2c (i:=2) rfl r2 f2
 have ld':d.length=ctx.length + 1:=by rw [ld]; simp
 obtain ⟨v0,d',rfl⟩:∃ v0 d',d=v0 :: d':=by match d,ld' with | v0 :: d',_=>exact ⟨v0,d',rfl⟩ | [],h=>simp at h
 obtain ⟨hv0,bd'⟩:=Kze bd
 have ldc:d'.length=ctx.length:=by simp at ld'; omega
 have i2:idx x2.fneeds 0=some (v0:Int):=by rw [nd]; rfl
 have hcut2:cut x2.fneeds (some (1:Int)) none none=some (Kyx d'):=by rw [nd]; exact Kxo _ _
 have o2:=V2h (out:=[y0,y1]) (nd:=[Kyx a,Kyx b']) (us:=[Kyx [],Kyx [u0]]) (w:=2) (t:=⟨8,(g:Int),ty,[k0,k1,k2]⟩) (m:=[q]) rfl m2 r2 (by simp; omega) f2 (by rw [ht2]; exact V1l (.inr (by decide))) (V1j (show (8:Int) ≠ 10 by decide)) nd (by simp <;> omega) (by simp) (by simp) (by simp) (by simp)
 simp only [List.length_cons,List.length_nil,Nat.zero_add,List.drop_succ_cons,List.drop_zero,List.take_succ_cons,List.take_zero,List.nil_append,List.cons_append] at o2
 have hl0:=o0.trans (o1.trans (o2.trans (V19 (Nat.le_refl _))))
 have hle0:=sLe hs.tab hu0 hg
 have hle1:=sLe hs.tab hv0 hg
 have hf:=V28 (ty:=ty) (ks:=[k0,k1,k2]) (ctx:=ctx) (z:=Kyx (List.replicate ctx.length 0)) (y0:=y0) (y1:=y1) (y2:=y2) (us':=Kyx []) (u:=[u0]) (v:=[v0]) hs hg (fun x hx=>by simp at hx; rw [hx]; exact hu0) (by simp) (fun x hx=>by simp at hx; rw [hx]; exact hv0) (by simp) ba bb' bd' (by omega) (by omega) (by omega) (by rw [r2.ty]; omega) (by rw [r1.ty]; omega)
 simp only [List.all_cons,List.all_nil,Bool.and_true] at hf
 rw [r1.ty,r2.ty] at hf
 have hsm:=Ky9 x1.fty x2.fty (by omega)
 have hj:=Kzp hs b' d' bb' bd' (by omega) (by omega)
 have lj:(Kzc s n b' d').length=ctx.length:=by unfold Kzc; rw [List.length_zipWith]; omega
 by_cases hqq:x1.fty=x2.fty
 rotate_left
 ·rw [if_neg hqq] at hf
  rw [show (x1.fty == x2.fty)=false from beq_eq_false_iff_ne.2 hqq] at hsm
  refine V2b.bad (f:=3) (p:=[]) ?_ (V1i (by omega) hl0 hf) (by decide) (by simp; omega)
  rw [Kg0.eq_def]
  simp [e0,f0,i0,Kg1.eq_def,hcg,hl2,hp0,hp1,hw1,e1,f1,hcut1,hcp1,hw2,e2,f2,hsm,Kfa]
 rw [if_pos hqq] at hf
 rw [show (x1.fty == x2.fty)=true from beq_iff_eq.2 hqq] at hsm
 by_cases hal:le s n u0 g=true∧le s n v0 g=true
 rotate_left
 ·rw [if_neg hal] at hf
  refine V2b.bad (f:=9) (p:=[]) ?_ (V1i (by omega) hl0 hf) (by decide) (by simp; omega)
  rw [Kg0.eq_def]
  simp [e0,f0,i0,Kg1.eq_def,hcg,hl2,hp0,hp1,hw1,e1,f1,hcut1,hcp1,hw2,e2,f2,hsm,i1,i2,hle0,hle1,hcut2,hj,Kfa]
  cases q1:le s n v0 g with
  | false=>simp
  | true =>
   cases q2:le s n u0 g with
   | false=>simp
   | true=>exact absurd ⟨q2,q1⟩ hal
 rw [if_pos hal] at hf
 have im:=V2t (q:=x1.fty) (ns:=Kza s n (Kzb s n g a) (Kzc s n b' d')) (kids:=[y0,y1,y2]) (by omega) (V1i (by omega) hl0 hf)
 have lsc:(Kzb s n g a).length=ctx.length:=by unfold Kzb; rw [List.length_map]; exact la
 have hsc:=Kzh hs hg ba
 have hz0:=Kzk hs hsc
 rw [lsc] at hz0
 have hsum:=Kzm hs g hg (List.replicate ctx.length 0) a (fun x hx=>by rw [List.eq_of_mem_replicate hx]; exact Kz5 hs) ba (by simp; omega) (by simp [la])
 rw [hz0] at hsum
 have hs2:=Kzn hs (Kzb s n g a) (Kzc s n b' d') hsc (Kzi hs bb' bd') (by omega) (by omega)
 refine V2b.good (q:=x1.fty) (ns:=Kza s n (Kzb s n g a) (Kzc s n b' d')) (kids:=[y0,y1,y2]) ?_ im (by omega) g1 (by unfold Kza; rw [List.length_zipWith]; omega) (Kzg hs hsc (Kzi hs bb' bd')) rfl (kd3 (V2a.mk' (V2i (by decide) rfl) r0 f0 (fun _ h=>by cases h) rfl) (V2a.mk' ad1 r1 f1 hm1 rfl) (V2a.mk' ad2 r2 f2 hm2 rfl))
 rw [Kg0.eq_def]
 simp [e0,f0,i0,Kg1.eq_def,hcg,hl2,hp0,hp1,hw1,e1,f1,hcut1,hcp1,hw2,e2,f2,hsm,i1,i2,hle0,hle1,hal.1,hal.2,hcut2,hj,na,Kzz ctx.length (by omega),hsum,hs2]
theorem V3j:∀ (m:Nat) (t:K01) (ctx:List (List Int)),tsz t ≤ m→tOk (gN s.fSize true) (yN s.fSize true) ctx.length t=true→(∀ q ∈ ctx,TyS s q)→ctx.length + 2 * tsz t ≤ 1000000→∃ x y,V2b s n ctx t x y
 | 0,t,ctx,hm,_,_,_=>by obtain ⟨op,N,ty,ks⟩:=t; rw [tsz] at hm; omega
 | m + 1,t,ctx,hm,h,hc,hb=>by
  have ih:V2s s n (tsz t):=fun k c hk hc hb=>V3j m k c (by have:=hk.sz; omega) hk.ok hc hb
  obtain ⟨op,N,ty,ks⟩:=t
  have hop:=(Kvu (Kvr h).1).1
  simp only at hop
  rcases Kv4 hop with rfl | rfl | rfl | rfl | rfl | rfl | rfl | rfl | rfl | rfl | rfl | rfl | rfl
  ·exact V2v hs rfl h hc hb
  ·exact V2w hs rfl h hb
  ·exact V33 hs ih h hc hb
  ·exact V34 hs ih h hc hb
  ·exact V32 hs ih h hc hb
  ·exact V3g hs ih h hc hb
  ·exact V2y hs ih h hc hb
  ·exact V2z hs ih h hc hb
  ·exact V3i hs ih h hc hb
  ·exact V31 hs ih h hc hb
  ·exact V3f hs ih h hc hb
  ·exact V30 hs ih h hc hb
  ·exact V3h hs ih h hc hb
end
theorem V3k {l:List (List Int)} {v:List Int} (h:v ∈ l):v.length ≤ lms l:=by
 have:=Kxm h
 unfold lms; omega
theorem V3l {s:K00} {ctx:List (List Int)} {t:K01} (h:V0l s ctx t=true):Kz2 s s.fSize.toNat∧ctx.length ≤ 8∧(∀ q ∈ ctx,TyS s q)∧tsz t ≤ 400∧tOk (gN s.fSize true) (yN s.fSize true) ctx.length t=true:=by
 unfold V0l V0b Kyi at h
 simp only [Bool.and_eq_true,decide_eq_true_eq,List.all_eq_true] at h
 exact ⟨Kz3 h.1.1,h.1.2.1,fun q hq=>h.1.2.2 q hq,h.2.1.2,h.2.2⟩
theorem V3m {s:K00} {ctx:List (List Int)} {t:K01} (h:V0l s ctx t=true):∃ x y,V2b s s.fSize.toNat ctx t x y:=by
 obtain ⟨h1,h2,h3,h4,h5⟩:=V3l h
 exact V3j h1 (tsz t) t ctx (Nat.le_refl _) h5 h3 (by omega)
theorem V3n {s:K00} {ctx:List (List Int)} {t:K01} (hc:lms ctx ≤ 1048576) (ht:tms t ≤ 1099511627776) :
  (V0l s ctx t=false∧Ksn (s,ctx,t)=some false∧Kqq (s,ctx,t)=some none) ∨
  (V0l s ctx t=true∧Ksn (s,ctx,t)=some true∧∃ x y,V2b s s.fSize.toNat ctx t x y∧Kqq (s,ctx,t)=some (some y)):=by
 have hl:∀ ty ∈ ctx,ty.length ≤ 1099511627776:=fun ty h=>by have:=V3k h; omega
 have hc':ctx.length ≤ 1048576:=by unfold lms at hc; omega
 have h1:=V0m s ctx t hc' hl ht
 have h2:=V0n s ctx t hc' hl ht
 cases h:V0l s ctx t with
 | false=>rw [h] at h1 h2; exact .inl ⟨rfl,h1,by simpa using h2⟩
 | true =>
  rw [h] at h1 h2
  obtain ⟨x,y,r⟩:=V3m h
  refine .inr ⟨rfl,h1,x,y,r,?_⟩
  rw [if_pos rfl,r.im,bs] at h2
  exact h2
theorem V3o (s:K00) (ctx:List (List Int)) (t:K01) (hc:lms ctx ≤ 1048576) (ht:tms t ≤ 1099511627776) :
  (Kso (s,ctx,t)=some ([],[],false)∧Kqt (s,ctx,t)=some ([],[],false)∧(V0l s ctx t=false∨∃ x y,V2b s s.fSize.toNat ctx t x y∧x.ffault ≠ 0)) ∨
  ∃ x y,V2b s s.fSize.toNat ctx t x y∧x.ffault=0∧V0l s ctx t=true∧Kso (s,ctx,t)=some (x.fty,x.fneeds,true)∧Kqt (s,ctx,t)=some (x.fty,x.fneeds,true)∧Kqq (s,ctx,t)=some (some y):=by
 unfold Kso Kqt
 simp only
 rcases V3n (s:=s) hc ht with ⟨h0,h1,h2⟩ | ⟨h0,h1,x,y,r,h2⟩
 ·rw [h1,h2]
  exact .inl ⟨rfl,rfl,.inl h0⟩
 ·rw [h1,h2,bs,bs,if_pos rfl,r.sp,bs]
  by_cases hf:x.ffault=0
  ·obtain ⟨g,_,ns,hn,hl,_⟩:=r.gd hf
   have:=V0o g
   obtain ⟨_,h8,_⟩:=V3l h0
   refine .inr ⟨x,y,r,hf,h0,by rw [if_neg (by simp [hf])],?_,rfl⟩
   simp only
   rw [if_neg (by rw [r.fa]; simp [hf]),r.ty,Kvw x.fty (by omega),bs,r.ne,Kvw x.fneeds (by rw [hn,Kyy]; omega),bs]
  ·refine .inl ⟨by rw [if_pos (bne_iff_ne.2 hf)],?_,.inr ⟨x,y,r,hf⟩⟩
   simp only
   rw [if_pos (by rw [r.fa]; exact bne_iff_ne.2 hf)]
end Go.Am
