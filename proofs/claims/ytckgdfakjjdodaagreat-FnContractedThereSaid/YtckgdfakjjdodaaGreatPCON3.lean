/- Plain laws of the printed functions. -/
import Derived.Test.YtckgdfakjjdodaaGreatPCON2
set_option linter.unusedSimpArgs false
set_option linter.unusedVariables false
namespace Go.Am
mutual
theorem V5g:∀ t:K00,tsz t ≤ 1 + tms t
 | ⟨_,_,_,ks⟩=>by rw [tsz,tms]; have:=V5h ks; omega
theorem V5h:∀ ks:List K00,Kqj ks ≤ ks.length + Kqk ks
 | []=>by rw [Kqj]; omega
 | k :: ks=>by rw [Kqj,Kqk,List.length_cons]; have:=V5g k; have:=V5h ks; omega
end
theorem V5i:∀ (n:Nat) (t:K00) (c:K01) (out:List Int),tsz t ≤ n→tms t ≤ 1048576→out.length + n ≤ 1048576→V10 c →
  Gv (Kip (c.fb,c.fi,c.fh,t.fOp,t.fN,t.fType,t.fKids,out)) (fun r=>r.2.2.2.length ≤ out.length + n∧V10 ⟨r.1,r.2.1,r.2.2.1⟩):=by
 intro n
 induction n with
 | zero=>intro t c out hn; have:=Kqm t; omega
 | succ n ih =>
  intro t c out hn hm ho h
  have hm2:=Kql t
  have hs2:=Kqm t
  rw [Kip.eq_def]
  simp only
  refine Gv.bind (Q:=fun r:List Int × Int × Int × Bool=>V10 ⟨r.1,r.2.1,r.2.2.1⟩∧(r.2.2.2=true→0 < t.fKids.length)) (.ite (fun hk=>?_) (fun _=>.of ⟨h,fun q=>by cases q⟩)) ?_
  ·have hk:=of_decide_eq_true hk
   refine Gv.bind (V17 h 3) ?_
   rintro ⟨y,c1⟩ ⟨_,h4⟩
   exact .of ⟨h4,fun _=>by omega⟩
  rintro ⟨b,fi,fh,v⟩ ⟨h4,hv⟩
  simp only at h4 hv ⊢
  refine .ite (fun hv1=>?_) (fun _=>.of ⟨by simp only; omega,h4⟩)
  have hk:=hv hv1
  refine Gv.bind (V17 h4 _) ?_
  rintro ⟨j,c2⟩ ⟨⟨hj,_⟩,h5⟩
  simp only at hj h5 ⊢
  obtain ⟨hj0,hj1⟩:=hj (by omega)
  obtain ⟨m,rfl⟩:=Int.eq_ofNat_of_zero_le hj0
  have hm3:m < t.fKids.length:=by omega
  rw [Krs (by simp; omega),bs,Kon hm3,bs]
  have h6:tsz t.fKids[m] ≤ Kqj t.fKids:=Kt6 (List.getElem_mem hm3)
  have h7:=Kt5 (List.getElem_mem hm3)
  refine (ih t.fKids[m] c2 (out ++ [(m:Int)]) (by omega) (by omega) (by simp; omega) h5).mono ?_
  rintro ⟨a,b,d,e⟩ ⟨z1,z2⟩
  refine ⟨?_,z2⟩
  simp at z1 ⊢; omega
theorem V5j {c:K01} (h:V10 c) {t:K00} (hb:tms t ≤ 40000):Gv (Kis (c,t)) (fun r=>r.1.length ≤ 1000000∧V10 r.2):=by
 unfold Kis
 simp only
 have hsz:tsz t ≤ 40001:=by
  have:=V5g t
  omega
 rw [(Ku7 t (by omega)).1,bs]
 have hl:∀ q ∈ (if wB t then Krx t [] else []),q.length ≤ 160000:=by
  intro q hq
  cases hw:wB t
  ·rw [hw] at hq; cases hq
  ·rw [hw,if_pos rfl] at hq
   have h1:=Ku3 hq
   have h2:=Ku5 t []
   have h3:=(Ktm hw).2
   have h4:(([]:List Int).length + tsz t) * tsz t ≤ 400 * 400:=Nat.mul_le_mul (by simpa using h3) h3
   omega
 generalize (if wB t then Krx t [] else [])=R at hl ⊢
 refine Gv.bind (Q:=fun r:List Int × Int × Int × Bool=>V10 ⟨r.1,r.2.1,r.2.2.1⟩∧(r.2.2.2=true→0 < R.length)) (.ite (fun hk=>?_) (fun _=>.of ⟨h,fun q=>by cases q⟩)) ?_
 ·have hk:=of_decide_eq_true hk
  refine Gv.bind (V17 h 3) ?_
  rintro ⟨y,c1⟩ ⟨_,h4⟩
  exact .of ⟨h4,fun _=>by omega⟩
 rintro ⟨b,fi,fh,v⟩ ⟨h4,hv⟩
 simp only at h4 hv ⊢
 refine .ite (fun hv1=>?_) (fun _=>?_)
 ·have hk:=hv hv1
  refine Gv.bind (V17 h4 _) ?_
  rintro ⟨j,c2⟩ ⟨⟨hj,_⟩,h5⟩
  simp only at hj h5 ⊢
  obtain ⟨hj0,hj1⟩:=hj (by omega)
  obtain ⟨m,rfl⟩:=Int.eq_ofNat_of_zero_le hj0
  have hm3:m < R.length:=by omega
  have hq:=hl _ (List.getElem_mem hm3)
  rw [Kon hm3,bs,Ks2 _ (by omega),bs]
  exact .of ⟨by simp only; omega,h5⟩
 ·refine Gv.bind (V5i 40001 t ⟨b,fi,fh⟩ [] hsz (by omega) (by simp) h4) ?_
  rintro ⟨b1,f1,g1,out⟩ ⟨h5,h6⟩
  simp only [List.length_nil,Nat.zero_add] at h5 h6 ⊢
  refine Gv.bind (V18 h6 14) ?_
  rintro ⟨w,c3⟩ h7
  simp only at h7 ⊢
  refine Gv.bind (Q:=fun r:List Int × List Int × Int × Int=>r.1.length ≤ 1000000∧V10 ⟨r.2.1,r.2.2.1,r.2.2.2⟩) (.ite (fun _=>?_) (fun _=>.of ⟨by simp only; omega,h7⟩)) ?_
  ·refine Gv.bind (V1a h7) ?_
   rintro ⟨x,c4⟩ ⟨_,h8⟩
   simp only at h8 ⊢
   rw [Krs (by simp; omega),bs]
   exact .of ⟨by simp; omega,h8⟩
  ·rintro ⟨a1,a2,a3,a4⟩ ⟨z1,z2⟩
   exact .of ⟨z1,z2⟩
theorem V5k:∀ (p:List Int) (t x:K00),atP t p=some x→Kua p t x=t
 | [],t,x,h=>by rw [atP] at h; cases h; rw [Kua]
 | i :: p,t,x,h=>by
  obtain ⟨k,h1,h2,h3,h4,h5,h6⟩:=Kub h
  rw [Kua,h4,V5k p k x h6,← h4,Kud h2,List.set_getElem_self,Ku0]
theorem V5l {t:K00} (hb:tms t ≤ 1099511627776) (hw:wB t=true):Kmt (t,t)=some true:=by
 unfold Kmt
 simp only
 rw [Krk t hb,hw,bs,if_pos rfl,bs,if_pos rfl,V5e t t hb hb,bs,Kwo]
 rfl
def V5m (t:K00) (p:List Int):Option K00 :=
 if wB t then (atP t p).bind fun x=>if Kru x then (Klc x).bind fun c=>if wB (Kua p t c) then some (Kua p t c) else none else none else none
theorem V5n (t:K00) (p:List Int) (ht:tms t ≤ 1048576) (hp:p.length ≤ 1048576):Kli (t,p)=some (okT (V5m t p)):=by
 unfold Kli V5m
 simp only
 rw [Krk t (by omega),bs]
 cases hw:wB t
 ·rfl
 ·obtain ⟨hw1,hw2⟩:=Ktm hw
  simp only [if_true]
  rw [iAt t p (by omega) (by omega),bs]
  cases h:atP t p with
  | none=>rfl
  | some x =>
   obtain ⟨m,m1,m2⟩:=Kwl p t x 8 h hw1
   have xs:=Kwm p t x h
   have hpl:=Kuf p t x h
   have hm:=Krv (Krq m2).1
   simp only [okT,if_true,Option.bind_some]
   rw [Ks7 x hm]
   cases hr:Kru x
   ·rfl
   ·obtain ⟨c,c1,c2,c3,c4⟩:=Kwk m2 (by omega) (by omega) hr
    have cm:=(Kvt c m c3).1
    have hs:=Kue c p t x h
    have s2:=Kuj c (by omega) p t x h (by omega) (by omega)
    have w2:=Krk (Kua p t c) (by omega)
    simp only [bs,Bool.not_true,Bool.false_eq_true,if_false,c2,s2,w2,if_true,Option.bind_some]
    cases wB (Kua p t c) <;> rfl
theorem V5o (x:K00) (hx:tms x ≤ 1048576) (n:Nat) (hn:n ≤ 900000) (hok:tOk (gN 16 false) wtB n x=true):∃ z b,Klr x=some (z,b)∧(b=true→Kru x=true∧Klc x=some z∧wB z=true∧tOk (gN 16 false) wtB 8 z=true):=by
 unfold Klr
 have e:Klo x=some (wB x && Kru x):=by
  unfold Klo
  rw [Krk x (by omega)]
  cases h:wB x
  ·rfl
  ·have hm:=Krv (Krq (Ktm h).1).1
   rw [bs,if_pos rfl,Ks7 x hm]
   rfl
 rw [e]
 cases hr:wB x && Kru x
 ·exact ⟨noT,false,rfl,fun h=>by cases h⟩
 ·rw [Bool.and_eq_true] at hr
  obtain ⟨hw,hz⟩:=Ktm hr.1
  obtain ⟨c,c1,c2,c3,c4⟩:=Kwk hw hz (by decide) hr.2
  have cm:=(Kvt c 8 c3).1
  simp only [bs,if_true,c2]
  rw [Krk c (by omega),bs]
  cases h:wB c
  ·exact ⟨noT,false,rfl,fun h=>by cases h⟩
  ·exact ⟨c,true,rfl,fun _=>⟨hr.2,rfl,h,c3⟩⟩
theorem V5p (t:K00) (p:List Int) (ht:tms t ≤ 1000000) (hp:p.length ≤ 1048576) (code:List Int) (e1:K7y code=some false) (e2:Kiv code=some (t,p)):Kn4 code=some true:=by
 unfold Kn4
 rw [e1,bs,if_neg (by decide),e2,bs]
 simp only
 rw [V5n t p (by omega) hp,bs,Ku2 t p (by omega) (by omega),bs]
 cases hw:wB t
 ·have:V5m t p=none:=by unfold V5m; rw [hw]; rfl
  rw [this,Ku1 t p (by omega) (by omega),hw]
  rfl
 ·cases hx:atP t p with
  | none =>
   have:V5m t p=none:=by unfold V5m; rw [hw,hx]; rfl
   rw [this,Ku1 t p (by omega) (by omega),hw,hx]
   rfl
  | some x =>
   obtain ⟨hw1,hw2⟩:=Ktm hw
   obtain ⟨m,m1,m2⟩:=Kwl p t x 8 hx hw1
   have xs:=Kwm p t x hx
   have hpl:=Kuf p t x hx
   obtain ⟨x1,x2⟩:=Ktv hx
   simp only [if_true,okT]
   have last:Km8 (t,p,x)=some (t,true):=by
    rw [(Kus t p x (by omega) hp (by omega) (x2 _ (Kti (by omega) t (Ktn hw)))).2]
    unfold Kur
    rw [hw,hx,V5k p t x hx,hw,decide_eq_true (by omega)]
    rfl
   have fin:(Km8 (t,p,x) >>= fun a=>(if a.2=true then (Kmt (a.1,t)) >>= fun b=>some b else some false) >>= fun v=>some v)=some true:=by
    rw [last,bs]
    simp only [if_true]
    rw [V5l (by omega) hw]; rfl
   obtain ⟨z,b,q1,q2⟩:=V5o x (by omega) m (by omega) m2
   rw [q1,bs]
   simp only
   cases hc:V5m t p with
   | none=>exact fin
   | some y =>
    simp only [if_true,bs]
    cases b
    ·exact fin
    ·obtain ⟨r1,r2,r3,r4⟩:=q2 rfl
     have hz:=(Ktm r3).2
     have zm:=(Kvt z 8 r4).1
     have hset:wB (Kua p t z)=true∧y=Kua p t z:=by
      unfold V5m at hc
      rw [hw,hx,if_pos rfl,Option.bind_some,r1,if_pos rfl,r2,Option.bind_some] at hc
      split at hc
      ·rename_i q; exact ⟨q,(Option.some.inj hc).symm⟩
      ·cases hc
     have hrep:Km8 (t,p,z)=some (Kua p t z,true):=by
      rw [(Kus t p z (by omega) hp (by omega) (Kti (by omega) z (Ktn r3))).2]
      unfold Kur
      rw [hw,hx,hset.1,decide_eq_true hz]
      rfl
     have hs:=Kue z p t x hx
     simp only [if_true]
     rw [hrep,bs]
     simp only [if_true]
     rw [hset.2,V5l (by omega) hset.1,bs]
     exact fin
theorem V5q (code:List Int) (w:code.length ≤ maxLen∧∀ v ∈ code,0 ≤ v∧v ≤ 255):Kn4 code=some true:=by
 by_cases hbig:(code.length:Int) > 1048576
 ·unfold Kn4 K7y
  rw [bs,decide_eq_true hbig,if_pos rfl]
 have e1:K7y code=some false:=by unfold K7y; rw [decide_eq_false hbig]
 obtain ⟨c0,e0,h0⟩:=V14 code (by omega) w.2
 obtain ⟨d,hd,e2⟩:=V4x code (by omega)
 obtain ⟨⟨t,c1⟩,e3,⟨⟨q1,q2⟩,q3⟩⟩:=V5d h0 hd
 obtain ⟨⟨p,c2⟩,e4,⟨q4,q5⟩⟩:=V5j q3 q2
 simp only at q2 q4 e4
 refine V5p t p (by omega) (by omega) code e1 ?_
 unfold Kiv
 rw [e0,bs,e2,bs,e3]
 show (Kis (c1,t) >>= fun a=>some (t,a.1))=some (t,p)
 rw [e4]
 rfl
end Go.Am
