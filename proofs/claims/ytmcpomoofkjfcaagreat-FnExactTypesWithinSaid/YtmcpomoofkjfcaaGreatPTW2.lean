/- Plain laws of the printed functions. -/
import Derived.Test.YtmcpomoofkjfcaaGreatPTW1
set_option linter.unusedSimpArgs false
set_option linter.unusedVariables false
namespace Go.Am
theorem V0k {α:Type} {l:List α} {i:Nat} {x:α} (h:l[i]?=some x):idx l (i:Int)=some x:=by
 unfold idx
 rw [if_pos (by omega)]
 simpa using h
theorem V0l:∀ l:List K01,l.length ≤ Krs l
 | []=>by simp [Krs]
 | t :: l=>by have:=V0l l; rw [Krs,List.length_cons,Krv]; omega
structure V0m (s:K00) (ctx:List (List Int)) (t:K01) (y:K03) (r:List (List Int)):Prop where
 sp:Kfq (s,ctx,t)=some r
 im:Kmp y=some r
 ln:r.length=tsz t
 el:∀ v ∈ r,v.length ≤ 40
section
variable {s:K00} {n:Nat} (hs:Kvw s n)
include hs
theorem V0n {ctx:List (List Int)} {t:K01} {y:K03} (g:V0i s ctx t y) (ih:∀ (k:K01) (c:List (List Int)) (yk:K03),tsz k < tsz t→V0i s c k yk→∃ r,V0m s c k yk r) :
  ∀ (ks:List K01) (i:Nat) (out:List (List Int)),t.fKids.drop i=ks→out.length + Krs ks ≤ 1000000→(∀ v ∈ out,v.length ≤ 40) →
  ∃ r,Kfr (s,ctx,t,out,(i:Int))=some r∧Kmq (y,out,(i:Int))=some r∧r.length=out.length + Krs ks∧∀ v ∈ r,v.length ≤ 40:=by
 intro ks
 induction ks with
 | nil =>
  intro i out hd ho he
  rw [Kfr.eq_def,Kmq.eq_def]
  simp only
  rw [Kpk (Kqy hd),Kpk (by rw [g.many hs]; exact Kqy hd)]
  exact ⟨out,rfl,rfl,rfl,he⟩
 | cons k ks ihl =>
  intro i out hd ho he
  obtain ⟨h1,h2,h3⟩:=Kqx hd
  have hk:t.fKids[i]?=some k:=by
   have:=List.getElem?_drop (xs:=t.fKids) (i:=i) (j:=0)
   rw [hd] at this
   simpa using this.symm
  have hm:k ∈ t.fKids:=List.mem_of_getElem? hk
  obtain ⟨yk,e1,gk,el⟩:=g.kid hs hk
  obtain ⟨r,wr1,wr2,wr3,wr4⟩:=ih k _ yk (by have:=Kue hm; omega) gk
  rw [show Krs (k :: ks)=tsz k + Krs ks from by rw [Krs]] at ho
  have hc:=g.bd
  have hb:t.fKids.length ≤ 1000000:=by have:=V0l t.fKids; rw [Krv] at hc; omega
  obtain ⟨r',r1,r2,r3,r4⟩:=ihl (i + 1) (out ++ r) h3 (by rw [List.length_append,wr3]; omega) (fun v hv=>(List.mem_append.1 hv).elim (he v) (wr4 v))
  rw [List.length_append,wr3] at r3
  refine ⟨r',?_,?_,by rw [r3,Krs]; omega,r4⟩
  ·rw [Kfr.eq_def]
   simp only
   rw [Kpj h1,if_pos rfl,Kse,bs]
   have fin:(idx t.fKids (i:Int) >>= fun e=>Kfq (s,Kz3 t i y.fkids ++ ctx,e) >>= fun r=>Qd6 (out.length + r.length) 24 >>= fun _=>Kfr (s,ctx,t,out ++ r,wr ((i:Int) + 1)))=some r':=by
    rw [h2,bs,wr1,bs,Kt0 (by rw [wr3]; omega),bs,Kpi (by omega),r1]
   rcases g.inner hs h1 with ⟨a0,ae⟩ | ⟨o9,a1,ae⟩ | ⟨o5,a2,k0,x0,a,b,q1,q2,q3,q4,ae⟩ | ⟨n9,n5,a1,k0,x0,a,q1,q2,q3,ae⟩
   ·rw [a0,if_neg (by decide),if_neg (by decide),bs,bs]
    rw [ae,List.nil_append] at fin
    exact fin
   ·rw [a1,if_neg (by decide),if_pos (by decide),if_pos (by rw [o9]; decide),Kwu ctx [t.fType] (by simp; omega),bs,bs,bs,bs]
    rw [ae] at fin
    exact fin
   ·rw [a2,if_pos (by decide),show (0:Int)=((0:Nat):Int) from rfl,V0k q1,bs,q2,bs,q4,bs,show ((0:Nat):Int)=0 from rfl,q3,bs,Kwu ctx [b,a] (by simp; omega),bs,bs]
    rw [ae] at fin
    exact fin
   ·rw [a1,if_neg (by decide),if_pos (by decide),if_neg (by simpa using n9),show (0:Int)=((0:Nat):Int) from rfl,V0k q1,bs,q2,bs,q3,bs,Kwu ctx [a] (by simp; omega),bs,bs,bs,bs]
    rw [ae] at fin
    exact fin
  ·rw [Kmq.eq_def]
   simp only
   rw [Kpj (by rw [g.many hs]; exact h1),if_pos rfl,V0k e1,bs,wr2,bs,Kt0 (by rw [wr3]; omega),bs,Kpi (by omega)]
   exact r2
theorem V0o:∀ (m:Nat) (t:K01) (ctx:List (List Int)) (y:K03),tsz t ≤ m→V0i s ctx t y→∃ r,V0m s ctx t y r
 | 0,t,ctx,y,hm,_=>by rw [Krv] at hm; omega
 | m + 1,t,ctx,y,hm,g=>by
  obtain ⟨x,r,hf,hx,hy⟩:=g.tell hs
  have hl:=Kxi hy
  obtain ⟨w,r1,r2,r3,r4⟩:=V0n hs g (fun k c yk hk gk=>V0o m k c yk (by omega) gk) t.fKids 0 [y.fty] rfl (by have:=g.bd; rw [Krv] at this; simp; omega) (fun v hv=>by rw [List.mem_singleton.1 hv]; exact hl)
  refine ⟨w,?_,?_,by rw [r3,Krv]; rfl,r4⟩
  ·rw [Kfq.eq_def]
   simp only
   rw [r.sp,bs,hx,show (0:Int)=((0:Nat):Int) from rfl,r1,bs]
  ·rw [Kmp.eq_def]
   rw [Kt3 y.fty (by omega),bs,show (0:Int)=((0:Nat):Int) from rfl,r2,bs]
end
theorem V0p {r:List (List Int)} (h1:r.length ≤ 400) (h2:∀ v ∈ r,v.length ≤ 40):lok r:=by
 have:∀ l:List (List Int),(∀ v ∈ l,v.length ≤ 40)→lct l ≤ l.length * 41:=by
  intro l
  induction l with
  | nil=>intro _; simp [lct]
  | cons x l ih =>
   intro h
   have h1:=ih (fun v hv=>h v (List.mem_cons_of_mem _ hv))
   have h2:=h x List.mem_cons_self
   simp [lct] at h1 ⊢
   omega
 have:=this r h2
 exact Kvm (by unfold lms; omega)
theorem V0q (x0:K00) (x1:List (List Int)) (x2:K01) (b0:sms x0 ≤ 1048576) (b1:lms x1 ≤ 1048576) (b2:tms x2 ≤ 1048576) (h2:tln x2) :
  ∃ w0,Kfx (x0,x1,x2)=some w0∧Kmw (x0,x1,x2)=some w0∧lok w0:=by
 unfold Kfx Kmw
 simp only
 rcases V0h (s:=x0) b1 (by omega:tms x2 ≤ 1099511627776) with ⟨h0,q1,q2⟩ | ⟨h0,q1,x,y,r,q2⟩
 ·unfold Kfm
  simp only
  rw [q1,q2,bs,bs,if_neg (by decide),bs]
  exact ⟨[],rfl,rfl,V0p (by decide) (fun v hv=>by cases hv)⟩
 ·unfold Kfm
  simp only
  rw [q1,q2,bs,bs,if_pos rfl,r.sp,bs]
  by_cases hf:x.ffault=0
  ·obtain ⟨hs,_,_,h4,_⟩:=V0f h0
   obtain ⟨w,a1,a2,a3,a4⟩:=V0o hs (tsz x2) x2 x1 y (Nat.le_refl _) (V0j h0 r hf)
   refine ⟨w,?_,?_,V0p (by omega) a4⟩
   ·rw [if_neg (by simp [hf]),bs]
    dsimp only
    rw [if_pos rfl,a1,bs]
   ·dsimp only
    rw [if_neg (by rw [r.fa]; simp [hf]),a2,bs]
  ·refine ⟨[],?_,?_,V0p (by decide) (fun v hv=>by cases hv)⟩
   ·rw [if_pos (bne_iff_ne.2 hf),bs]; rfl
   ·dsimp only
    rw [if_pos (by rw [r.fa]; exact bne_iff_ne.2 hf)]
theorem V0r (x0:K00) (x1:List (List Int)) (x2:K01) (hx0:sln x0) (hx1:lln x1) (hx2:tln x2):Kpd (x0,x1,x2)=some true:=by
 unfold Kpd
 simp only
 rw [Kua x0 (1048576) hx0 (by omega) (by omega),bs]
 rcases Ksp (1048576) (sms x0) with ⟨e0,l0⟩ | ⟨e0,l0⟩
 ·rw [e0]; rfl
 ·rw [e0,decide_eq_false (by omega),if_neg (by decide)]
  rw [Kvo x1 (1048576 - (sms x0:Int)) hx1 (by omega) (by omega),bs]
  rcases Ksp (1048576 - (sms x0:Int)) (lms x1) with ⟨e1,l1⟩ | ⟨e1,l1⟩
  ·rw [e1]; rfl
  ·rw [e1,decide_eq_false (by omega),if_neg (by decide)]
   rw [Kss x2 (1048576 - (sms x0:Int) - (lms x1:Int)) hx2 (by omega) (by omega),bs]
   rcases Ksp (1048576 - (sms x0:Int) - (lms x1:Int)) (tms x2) with ⟨e2,l2⟩ | ⟨e2,l2⟩
   ·rw [e2]; rfl
   ·rw [e2,decide_eq_false (by omega),if_neg (by decide)]
    have bx0:sms x0 ≤ 1048576:=by omega
    have bx1:lms x1 ≤ 1048576:=by omega
    have bx2:tms x2 ≤ 1048576:=by omega
    obtain ⟨w0,s1,s2,c0⟩:=V0q x0 x1 x2 bx0 bx1 bx2 hx2
    obtain ⟨Mx0,mx0⟩:=Kv6 x0 (1) (by omega) (by omega)
    have qx1:=Kvm (l:=x1) (by omega)
    have zx1:=qx1.2
    obtain ⟨Mx1,mx1⟩:=Kuy x1 (1 + sms x0) qx1 (by omega)
    obtain ⟨Mx2,mx2⟩:=Kuq x2 (1 + sms x0 + lct x1) (by omega) (by omega)
    have zx2:=Kuk x2
    have y0:=c0.2
    obtain ⟨N0,n0,n0'⟩:=Kuw w0 (1) c0 (by omega)
    rw [show ((1:Nat):Int)=1 from rfl] at mx0 n0 n0'
    simp only [s1,s2,bs,Kub (s:=x0) (by omega),Kuc (s:=x0) (by omega),Kvq x1 (by omega),Kuu x1 (Kvm (by omega)),Ksu x2 (by omega),Ksw x2 (by omega),Kuu w0 c0,mx0,mx1,mx2,n0,n0',Kur,if_true,if_false,Bool.false_eq_true,Kpq,Bool.not_true,Bool.not_false,Kv1,beq_self_eq_true]
    repeat (rw [decide_eq_false (by omega)]; simp only [bs,Bool.false_eq_true,if_false,if_true,Kpq,Kur,Bool.not_true,n0,n0'])
end Go.Am
