/- Plain laws of the printed functions. -/
import Derived.Test.YtckgdfakjjdodaaGreatPSEC0
set_option linter.unusedSimpArgs false
set_option linter.unusedVariables false
namespace Go.Am
theorem Kss (x y:Int) (l r:List Int):(x :: l == y :: r)=(x == y && l == r):=rfl
theorem Kst (a b:List Int) (ha:a.length ≤ 1099511627776) (hab:a.length=b.length):∀ (l r:List Int) (i:Nat),a.drop i=l→b.drop i=r→Klb (a,b,(i:Int))=some (if l == r then .inl () else .inr false):=by
 intro l
 induction l with
 | nil =>
  intro r i h1 h2
  have hi:=Knt h1
  rw [Klb.eq_def]
  simp only
  rw [Kmq hi]
  have:r=[]:=by rw [← h2]; exact List.drop_eq_nil_of_le (by omega)
  subst this; rfl
 | cons x l ih =>
  intro r i h1 h2
  obtain ⟨hi,hx,hd⟩:=Kns h1
  cases r with
  | nil=>have:=Knt h2; omega
  | cons y r =>
   obtain ⟨_,hy,hd2⟩:=Kns h2
   rw [Klb.eq_def]
   simp only
   rw [Kmp hi,if_pos rfl,hx,hy,bs,bs,Kmo (by omega),ih r (i + 1) hd hd2,Kss]
   by_cases e:x=y
   ·subst e; simp
   ·rw [bne_iff_ne.2 e,if_pos rfl,beq_eq_false_iff_ne.2 e]; rfl
theorem Ksu (a b:List Int) (hb:b.length ≤ 1099511627776):Klc (a,b)=some (a == b):=by
 unfold Klc
 simp only
 by_cases h:a.length=b.length
 ·rw [h,Kmr,if_neg (by decide)]
  have:=Kst a b (by omega) h a b 0 rfl rfl
  rw [show ((0:Nat):Int)=0 from rfl] at this
  rw [this]
  cases a == b <;> rfl
 ·rw [bne_iff_ne.2 (by omega),if_pos rfl]
  have:a ≠ b:=fun e=>h (by rw [e])
  rw [beq_eq_false_iff_ne.2 this]
theorem Ksv (a b:List Int) (ha:a.length ≤ 1099511627776) (hab:a.length=b.length):∀ (l r:List Int) (i:Nat),a.drop i=l→b.drop i=r→Kiw (a,b,(i:Int))=some (if l == r then .inl () else .inr false):=by
 intro l
 induction l with
 | nil =>
  intro r i h1 h2
  have hi:=Knt h1
  rw [Kiw.eq_def]
  simp only
  rw [Kmq hi]
  have:r=[]:=by rw [← h2]; exact List.drop_eq_nil_of_le (by omega)
  subst this; rfl
 | cons x l ih =>
  intro r i h1 h2
  obtain ⟨hi,hx,hd⟩:=Kns h1
  cases r with
  | nil=>have:=Knt h2; omega
  | cons y r =>
   obtain ⟨_,hy,hd2⟩:=Kns h2
   rw [Kiw.eq_def]
   simp only
   rw [Kmp hi,if_pos rfl,hx,hy,bs,bs,Kmo (by omega),ih r (i + 1) hd hd2,Kss]
   by_cases e:x=y
   ·subst e; simp
   ·rw [bne_iff_ne.2 e,if_pos rfl,beq_eq_false_iff_ne.2 e]; rfl
theorem Ksw (a b:List Int) (hb:b.length ≤ 1099511627776):Kiz (a,b)=some (a == b):=by
 unfold Kiz
 simp only
 by_cases h:a.length=b.length
 ·rw [h,Kmr,if_neg (by decide)]
  have:=Ksv a b (by omega) h a b 0 rfl rfl
  rw [show ((0:Nat):Int)=0 from rfl] at this
  rw [this]
  cases a == b <;> rfl
 ·rw [bne_iff_ne.2 (by omega),if_pos rfl]
  have:a ≠ b:=fun e=>h (by rw [e])
  rw [beq_eq_false_iff_ne.2 this]
def vB:Ty→K02→Bool
 | .num,⟨op,N,ty,ks⟩=>op == 1 && inB N 0 2 && (ty.length:Int) == 0 && (ks.length:Int) == 0
 | .bin c a b,⟨op,N,ty,ks⟩ =>
  if c=1 then op == 4 && N == 0 && (ty.length:Int) == 0 && (match ks with | [k,m]=>vB a k && vB b m | _=>false)
  else N == 0 && (match ks with | [k]=>if op=6 then ty == b.code && vB a k else if op=7 then ty == a.code && vB b k else false | _=>false)
 | .un c a,⟨op,N,ty,ks⟩=>op == 11 && N == Koh c && (ty.length:Int) == 0 && (match ks with | [k]=>vB a k | _=>false)
theorem Ksx (op N:Int) (ty:List Int) (ks:List K02):vB .num ⟨op,N,ty,ks⟩=(op == 1 && inB N 0 2 && (ty.length:Int) == 0 && (ks.length:Int) == 0):=rfl
theorem Ksy (c:Int) (a b:Ty) (op N:Int) (ty:List Int) (ks:List K02):vB (.bin c a b) ⟨op,N,ty,ks⟩=(if c=1 then op == 4 && N == 0 && (ty.length:Int) == 0 && (match ks with | [k,m]=>vB a k && vB b m | _=>false)
  else N == 0 && (match ks with | [k]=>if op=6 then ty == b.code && vB a k else if op=7 then ty == a.code && vB b k else false | _=>false)):=rfl
theorem Ksz (c:Int) (a:Ty) (op N:Int) (ty:List Int) (ks:List K02):vB (.un c a) ⟨op,N,ty,ks⟩=(op == 11 && N == Koh c && (ty.length:Int) == 0 && (match ks with | [k]=>vB a k | _=>false)):=rfl
theorem d20:((2:Int) == 0)=false:=rfl
theorem d21:((2:Int) == 1)=false:=rfl
theorem d22:((2:Int) == 2)=true:=rfl
theorem Kt0 (T:Ty):∀ v:K02,T.ok→T.dat→T.code.length ≤ 1048576→Kj6 (T.code,v)=some (vB T v):=by
 induction T with
 | num =>
  intro ⟨op,N,ty,ks⟩ _ _ _
  rw [Kj6.eq_def,Ty.code,Ksx]
  simp only [Krf,bs]
  rw [Ko2,Ks0,iIn]
  simp only [bs]
  cases op == 1 <;> cases inB N 0 2 <;> cases (ty.length:Int) == 0 <;> rfl
 | bin c a b iha ihb =>
  intro ⟨op,N,ty,ks⟩ h hd hl
  have P:=Krz h hl
  have la:=P.la
  rw [Ty.code,Kj6.eq_def]
  simp only [Krf,bs]
  rw [P.pp,Ksy,Ko2]
  simp only [bs]
  rcases Krw h.1 with ⟨rfl,e⟩ | ⟨rfl,e⟩ | ⟨h0,h1,_,e⟩
  ·rw [e,if_pos rfl]
   simp only [Krf,Krg,bs]
   match ks with
   | []=>cases op == 4 <;> cases N == 0 <;> cases (ty.length:Int) == 0 <;> rfl
   | [k]=>cases op == 4 <;> cases N == 0 <;> cases (ty.length:Int) == 0 <;> rfl
   | [k,m] =>
    simp only [Krf,Krg,bs,iha k P.ok.1 hd.2.1 (by omega),ihb m P.ok.2 hd.2.2 (by omega)]
    cases op == 4 <;> cases N == 0 <;> cases (ty.length:Int) == 0 <;> cases vB a k <;> cases vB b m <;> rfl
   | k :: m :: o :: ks =>
    have:(((k :: m :: o :: ks).length:Int) == 2)=false:=beq_eq_false_iff_ne.2 (by simp only [List.length_cons]; omega)
    rw [this]
    cases op == 4 <;> cases N == 0 <;> cases (ty.length:Int) == 0 <;> rfl
  ·rw [e,if_neg (by decide)]
   simp only [Krf,Krg,bs,d20,d21,d22,Bool.false_eq_true,if_false,if_true]
   by_cases hN:N=0
   ·subst hN
    match ks with
    | []=>rfl
    | [k] =>
     by_cases h6:op=6
     ·subst h6
      have e1:wr (1 - 0)=1:=by decide
      have e0:wr (6 - 6)=0:=by decide
      refine (Kom (x:=false) rfl).trans ?_
      simp only [Bool.false_eq_true,if_false,e1,e0,Krf,Krg,bs]
      rw [Ksw ty b.code (by omega),iha k P.ok.1 hd.2.1 (by omega)]
      cases ty == b.code <;> rfl
     ·by_cases h7:op=7
      ·subst h7
       have e1:wr (1 - 1)=0:=by decide
       have e0:wr (7 - 6)=1:=by decide
       refine (Kom (x:=false) rfl).trans ?_
       simp only [Bool.false_eq_true,if_false,e1,e0,Krf,Krg,bs]
       rw [Ksw ty a.code (by omega),ihb k P.ok.2 hd.2.2 (by omega)]
       cases ty == a.code <;> rfl
      ·refine (Kom (x:=true) (by rw [bne_iff_ne.2 h6,bne_iff_ne.2 h7]; rfl)).trans ?_
       show some false=some (if op=6 then ty == b.code && vB a k else if op=7 then ty == a.code && vB b k else false)
       rw [if_neg h6,if_neg h7]
    | k :: m :: ks =>
     have:(((k :: m :: ks).length:Int) != 1)=true:=bne_iff_ne.2 (by simp only [List.length_cons]; omega)
     rw [this]; rfl
   ·rw [bne_iff_ne.2 hN,beq_eq_false_iff_ne.2 hN]; rfl
  ·exact absurd hd.1 (by omega)
 | un c a ih =>
  intro ⟨op,N,ty,ks⟩ h hd hl
  have P:=unP h hl
  have la:=P.la
  obtain ⟨h0,h1,h2,e⟩:=Krx h.1
  rw [Ty.code,Kj6.eq_def]
  simp only [Krf,bs]
  rw [P.pp,Ksz,Ko2,e]
  simp only [bs]
  match ks with
  | []=>cases op == 11 <;> cases N == Koh c <;> cases (ty.length:Int) == 0 <;> rfl
  | [k] =>
   simp only [Krf,Krg,bs,ih k P.ok hd (by omega)]
   cases op == 11 <;> cases N == Koh c <;> cases (ty.length:Int) == 0 <;> rfl
  | k :: m :: ks =>
   have:(((k :: m :: ks).length:Int) == 1)=false:=beq_eq_false_iff_ne.2 (by simp only [List.length_cons]; omega)
   rw [this]
   cases op == 11 <;> cases N == Koh c <;> cases (ty.length:Int) == 0 <;> rfl
theorem Kt1 {α:Type} {l:List α} (h:((l.length:Int) == 0)=true):l=[]:=by
 rw [beq_iff_eq] at h; exact List.length_eq_zero_iff.1 (by omega)
theorem Kt2 (g:Int→Bool) (y:List Int→Bool) (n:Nat) (op N:Int) (ty:List Int) (ks:List K02):tOk g y n ⟨op,N,ty,ks⟩=(Kpc g y (n:Int) ⟨op,N,ty,ks⟩ && Kpd g y op n 0 ks):=Kpe ..
theorem Kt3 (g:Int→Bool) (y:List Int→Bool) (op:Int) (n i:Nat) (k:K02) (ks:List K02):Kpd g y op n i (k :: ks)=(tOk g y (n + Kp6 op i) k && Kpd g y op n (i + 1) ks):=by rw [Kpd]
theorem Kt4 (g:Int→Bool) (y:List Int→Bool) (op:Int) (n i:Nat):Kpd g y op n i []=true:=by rw [Kpd]
structure Kt5 (g:Int→Bool) (y:List Int→Bool) (T:Ty):Prop where
 un:∀ c a,T=.un c a→g (Koh c)=true
 y:y T.code=true
def Kt6 (P:Ty→Prop):Ty→Prop
 | .num=>P .num
 | .bin c a b=>P (.bin c a b)∧Kt6 P a∧Kt6 P b
 | .un c a=>P (.un c a)∧Kt6 P a
theorem Kt7 {P:Ty→Prop} {T:Ty} (h:Kt6 P T):P T:=by cases T <;> first | exact h | exact h.1
theorem Kt8 (op N:Int) (ty:List Int) (ks:List K02):tsz ⟨op,N,ty,ks⟩=1 + Kon ks:=by rw [tsz]
theorem Kt9 (g:Int→Bool) (y:List Int→Bool) (T:Ty):∀ (v:K02) (n:Nat),T.dat→Kt6 (Kt5 g y) T→vB T v=true→tOk g y n v=true∧tsz v ≤ T.code.length:=by
 induction T with
 | num =>
  intro ⟨op,N,ty,ks⟩ n _ hT h
  simp only [Ksx,Bool.and_eq_true] at h
  obtain ⟨⟨⟨h1,h2⟩,h3⟩,h4⟩:=h
  have h1:=eq_of_beq h1
  have h3:=Kt1 h3
  have h4:=Kt1 h4
  subst h1 h3 h4
  rw [Kt2,Kt8]
  refine ⟨?_,by simp [Kon,Ty.code]⟩
  simp [Kpc,Kpa,Kpb,h2,Kt4,show inB 1 0 12=true from rfl,Kow,Koy]
 | bin c a b iha ihb =>
  intro ⟨op,N,ty,ks⟩ n hd hT h
  rw [Ksy] at h
  rw [Ty.code,List.length_cons,List.length_append]
  rcases hd.1 with rfl | rfl
  ·rw [if_pos rfl] at h
   simp only [Bool.and_eq_true] at h
   obtain ⟨⟨⟨h1,h2⟩,h3⟩,h4⟩:=h
   have h1:=eq_of_beq h1
   have h2:=eq_of_beq h2
   have h3:=Kt1 h3
   subst h1 h2 h3
   match ks,h4 with
   | [k,m],h4 =>
    simp only [Bool.and_eq_true] at h4
    obtain ⟨p1,q1⟩:=iha k (n + Kp6 4 0) hd.2.1 hT.2.1 h4.1
    obtain ⟨p2,q2⟩:=ihb m (n + Kp6 4 1) hd.2.2 hT.2.2 h4.2
    rw [Kt2,Kt8,Kt3,Kt3,Kt4]
    refine ⟨?_,by simp only [Kon]; omega⟩
    simp [Kpc,Kpa,Kpb,inB,Kow,Koy,Kox]
    exact ⟨p1,p2⟩
  ·rw [if_neg (by decide)] at h
   simp only [Bool.and_eq_true] at h
   obtain ⟨h2,h4⟩:=h
   have h2:=eq_of_beq h2
   subst h2
   match ks,h4 with
   | [k],h4 =>
    simp only at h4
    by_cases h6:op=6
    ·subst h6
     rw [if_pos rfl,Bool.and_eq_true] at h4
     obtain ⟨p1,q1⟩:=iha k (n + Kp6 6 0) hd.2.1 hT.2.1 h4.2
     have h5:=eq_of_beq h4.1
     subst h5
     rw [Kt2,Kt8,Kt3,Kt4]
     refine ⟨?_,by simp only [Kon]; omega⟩
     simp [Kpc,Kpa,Kpb,inB,Kow,Koy,Kox,(Kt7 hT.2.2).y]
     exact p1
    ·rw [if_neg h6] at h4
     by_cases h7:op=7
     ·subst h7
      rw [if_pos rfl,Bool.and_eq_true] at h4
      obtain ⟨p1,q1⟩:=ihb k (n + Kp6 7 0) hd.2.2 hT.2.2 h4.2
      have h5:=eq_of_beq h4.1
      subst h5
      rw [Kt2,Kt8,Kt3,Kt4]
      refine ⟨?_,by simp only [Kon]; omega⟩
      simp [Kpc,Kpa,Kpb,inB,Kow,Koy,Kox,(Kt7 hT.2.1).y]
      exact p1
     ·rw [if_neg h7] at h4; cases h4
 | un c a ih =>
  intro ⟨op,N,ty,ks⟩ n hd hT h
  simp only [Ksz,Bool.and_eq_true] at h
  obtain ⟨⟨⟨h1,h2⟩,h3⟩,h4⟩:=h
  have h1:=eq_of_beq h1
  have h2:=eq_of_beq h2
  have h3:=Kt1 h3
  subst h1 h2 h3
  rw [Ty.code,List.length_cons]
  match ks,h4 with
  | [k],h4 =>
   simp only at h4
   obtain ⟨p1,q1⟩:=ih k (n + Kp6 11 0) hd hT.2 h4
   rw [Kt2,Kt8,Kt3,Kt4]
   refine ⟨?_,by simp only [Kon]; omega⟩
   simp [Kpc,Kpa,Kpb,inB,Kow,Koy,Kox,hT.1.un c a rfl]
   exact p1
theorem Kta {l:List K02} (h:((l.length:Int) == 1)=true):∃ k,l=[k]:=by
 rw [beq_iff_eq] at h; match l,h with | [k],_=>exact ⟨k,rfl⟩ | [],h=>exact absurd h (by simp) | _ :: _ :: _,h=>exact absurd h (by simp only [List.length_cons]; omega)
theorem Ktb {l:List K02} (h:((l.length:Int) == 2)=true):∃ k m,l=[k,m]:=by
 rw [beq_iff_eq] at h; match l,h with | [k,m],_=>exact ⟨k,m,rfl⟩ | [],h=>exact absurd h (by simp) | [_],h=>exact absurd h (by simp) | _ :: _ :: _ :: _,h=>exact absurd h (by simp only [List.length_cons]; omega)
theorem Ktc (g:Int→Bool) (y:List Int→Bool) (T:Ty):∀ (v:K02) (n:Nat),T.ok→T.dat→T.code.length ≤ 1048576→tOk g y n v=true→Kld (T.code,v)=some (vB T v):=by
 induction T with
 | num =>
  intro ⟨op,N,ty,ks⟩ n _ _ _ hv
  rw [Kld.eq_def,Ty.code,Ksx]
  simp only [Krf,bs]
  by_cases h1:op=1
  ·subst h1
   rw [Kt2] at hv
   simp [Kpc,Kpa,Kpb,Kow,Koy,Kpd,inB] at hv
   simp [hv,inB]
  ·rw [beq_eq_false_iff_ne.2 h1]; rfl
 | bin c a b iha ihb =>
  intro ⟨op,N,ty,ks⟩ n h hd hl hv
  have P:=Krz h hl
  have la:=P.la
  rw [Ty.code,Kld.eq_def]
  simp only [Krf,bs]
  rw [P.p0,P.p1,Ksy]
  simp only [bs]
  rw [Kt2] at hv
  rcases hd.1 with rfl | rfl
  ·rw [if_pos rfl]
   by_cases h1:op=4
   ·subst h1
    simp [Kpc,Kpa,Kpb,Kow,Koy,Kox,inB] at hv
    obtain ⟨k,m,rfl⟩:=Ktb (l:=ks) (beq_iff_eq.2 hv.1.1.1)
    rw [Kt3,Kt3,Bool.and_eq_true,Bool.and_eq_true] at hv
    rw [Krf,Krg,bs,bs,iha k _ P.ok.1 hd.2.1 (by omega) hv.2.1,ihb m _ P.ok.2 hd.2.2 (by omega) hv.2.2.1]
    simp [hv.1.1.2,hv.1.2,bs]
    cases vB a k <;> rfl
   ·rw [beq_eq_false_iff_ne.2 h1]; rfl
  ·rw [if_neg (by decide)]
   simp only [d20,d21,d22,Bool.false_eq_true,if_false,if_true,bs]
   by_cases h6:op=6
   ·subst h6
    simp [Kpc,Kpa,Kpb,Kow,Koy,Kox,inB] at hv
    obtain ⟨k,rfl⟩:=Kta (l:=ks) (beq_iff_eq.2 hv.1.1.1)
    rw [Kt3,Bool.and_eq_true] at hv
    simp only [Krf,bs]
    rw [Ksu ty b.code (by omega),iha k _ P.ok.1 hd.2.1 (by omega) hv.2.1,hv.1.1.2]
    cases ty == b.code <;> cases vB a k <;> rfl
   ·by_cases h7:op=7
    ·subst h7
     simp [Kpc,Kpa,Kpb,Kow,Koy,Kox,inB] at hv
     obtain ⟨k,rfl⟩:=Kta (l:=ks) (beq_iff_eq.2 hv.1.1.1)
     rw [Kt3,Bool.and_eq_true] at hv
     simp only [Krf,bs]
     rw [Ksu ty a.code (by omega),ihb k _ P.ok.2 hd.2.2 (by omega) hv.2.1,hv.1.1.2]
     cases ty == a.code <;> cases vB b k <;> rfl
    ·rw [beq_eq_false_iff_ne.2 h6,beq_eq_false_iff_ne.2 h7]
     match ks with
     | []=>cases N == 0 <;> rfl
     | [k] =>
      show _=some (N == 0 && (if op=6 then ty == b.code && vB a k else if op=7 then ty == a.code && vB b k else false))
      rw [if_neg h6,if_neg h7]
      cases N == 0 <;> rfl
     | k :: m :: ks=>cases N == 0 <;> rfl
 | un c a ih =>
  intro ⟨op,N,ty,ks⟩ n h hd hl hv
  have P:=unP h hl
  have la:=P.la
  obtain ⟨h0,h1,h2,e⟩:=Krx h.1
  rw [Ty.code,Kld.eq_def]
  simp only [Krf,bs]
  rw [beq_eq_false_iff_ne.2 h0.1,beq_eq_false_iff_ne.2 h0.2.1,beq_eq_false_iff_ne.2 h0.2.2,P.p0,Ksz,Koj (by rw [h.1]; decide)]
  simp only [bs]
  rw [Kt2] at hv
  by_cases q:op=11
  ·subst q
   simp [Kpc,Kpa,Kpb,Kow,Koy,Kox,inB] at hv
   obtain ⟨k,rfl⟩:=Kta (l:=ks) (beq_iff_eq.2 hv.1.1.1)
   rw [Kt3,Bool.and_eq_true] at hv
   simp only [Krf,bs,Bool.false_eq_true,if_false]
   rw [ih k _ P.ok hd (by omega) hv.2.1,hv.1.2]
   cases N == Koh c <;> cases vB a k <;> rfl
  ·rw [beq_eq_false_iff_ne.2 q]; rfl
def Ktd (s:K00) (t:K02) (n:Nat):Bool:=Kq6 s && decide (tsz t ≤ 400) && tOk (gN s.fSize true) (yN s.fSize true) n t
theorem Kte (s:K00) (t:K02) (n:Nat) (hn:n ≤ 8) (ht:tms t ≤ 1099511627776):Kla (s,t,(n:Int))=some (Ktd s t n):=by
 unfold Kla Ktd
 simp only
 rw [Kq8,bs]
 cases Kq6 s
 ·rfl
 ·rw [if_pos rfl,sIn,bs]
  have:inB (n:Int) 0 8=true:=by unfold inB; rw [decide_eq_true (by omega),decide_eq_true (by omega)]; rfl
  have hl:=Kou t 400 ht (by decide)
  rw [show ((400:Nat):Int)=400 from rfl] at hl
  rw [this,if_pos rfl,hl,bs]
  by_cases h:tsz t ≤ 400
  ·rw [Kor h,decide_eq_true (by omega),decide_eq_true h,if_pos rfl,Kpg _ _ t n ht (by omega)]
   cases tOk (gN s.fSize true) (yN s.fSize true) n t <;> rfl
  ·rw [Kos h,decide_eq_false h]; rfl
theorem Ktf {s:K00} {T:Ty} (h:T.ok) (hl:T.code.length ≤ 40) (hc:T.code.all (Koi s.fSize true)=true):Kt6 (Kt5 (gN s.fSize true) (yN s.fSize true)) T:=by
 have hy:∀ K:Ty,K.ok→K.code.length ≤ 40→K.code.all (Koi s.fSize true)=true→yN s.fSize true K.code=true:=by
  intro K h1 h2 h3
  unfold yN
  rw [Kqi h1 h2,h3]; rfl
 induction T with
 | num=>exact ⟨fun c a e=>(by cases e),hy _ h hl hc⟩
 | bin c a b iha ihb =>
  have hc':=hc
  have hl':=hl
  rw [Ty.code,List.length_cons,List.length_append] at hl'
  rw [Ty.code,List.all_cons,List.all_append,Bool.and_eq_true,Bool.and_eq_true] at hc'
  exact ⟨⟨fun c a e=>(by cases e),hy _ h hl hc⟩,iha h.2.1 (by omega) hc'.2.1,ihb h.2.2 (by omega) hc'.2.2⟩
 | un c a ih =>
  have hc':=hc
  have hl':=hl
  rw [Ty.code,List.length_cons] at hl'
  rw [Ty.code,List.all_cons,Bool.and_eq_true] at hc'
  refine ⟨⟨fun d e q=>?_,hy _ h hl hc⟩,ih h.2 (by omega) hc'.2⟩
  cases q
  have hk:=h.1
  have h1:=hc'.1
  have h3:c > 2:=by rcases Ko0 c with q | q | q | q <;> omega
  unfold Koi at h1
  rw [hk,decide_eq_true h3] at h1
  unfold gN
  simp only [show decide ((1:Int) > 0)=true from rfl,Bool.true_and,Bool.not_eq_true',Bool.or_eq_false_iff,decide_eq_false_iff_not] at h1 ⊢
  refine ⟨⟨h1.1,by omega⟩,h1.2⟩
mutual
def put (u:K02):Int→K02→K02
 | d,⟨op,N,ty,ks⟩=>if op == 0 && N == d then shf d 0 u else ⟨op,if op == 0 && decide (N > d) then N - 1 else N,ty,Ktg u op d 0 ks⟩
def Ktg (u:K02):Int→Int→Nat→List K02→List K02
 | _,_,_,[]=>[]
 | op,d,j,k :: ks=>put u (d + ((Kp6 op (j:Int):Nat):Int)) k :: Ktg u op d (j + 1) ks
end
mutual
theorem Kth {g:Int→Bool}:∀ (t:K02) (n:Nat),tOk g wtB n t=true→tms t + 3 ≤ 43 * tsz t + 3∧t.fKids.length ≤ 3
 | ⟨op,N,ty,ks⟩,n,h=>by
  obtain ⟨h1,h2⟩:=Kpq h
  have h3:=(Kpr h1).2
  have h4:=Kpt h1
  have h5:=Kti ks op n 0 h2
  have h6:Kow op ≤ 3:=by rcases Kp0 h4.1 with h | h | h | h | h | h | h | h | h | h | h | h | h <;> (simp only at h; subst h; decide)
  have h7:=h4.2
  simp only at h3 h7 ⊢
  rw [tms,tsz]; omega
theorem Kti {g:Int→Bool}:∀ (ks:List K02) (op:Int) (n i:Nat),Kpd g wtB op n i ks=true→Koo ks ≤ 43 * Kon ks
 | [],op,n,i,h=>by rw [Koo]; omega
 | k :: ks,op,n,i,h=>by
  rw [Kt3,Bool.and_eq_true] at h
  have h1:=(Kth k _ h.1).1
  have h2:=Kti ks op n (i + 1) h.2
  rw [Koo,Kon]; omega
end
theorem Ktj (op N:Int) (ty:List Int) (a:K02):tsz ⟨op,N,ty,[a]⟩=1 + tsz a:=by simp [tsz,Kon]
theorem Ktk (op N:Int) (ty:List Int) (a b:K02):tsz ⟨op,N,ty,[a,b]⟩=1 + (tsz a + tsz b):=by simp [tsz,Kon]
theorem Ktl (op N:Int) (ty:List Int) (a b c:K02):tsz ⟨op,N,ty,[a,b,c]⟩=1 + (tsz a + (tsz b + tsz c)):=by simp [tsz,Kon]
theorem Ktm {l:List K02} (h:(l.length:Int)=3):∃ a b c,l=[a,b,c]:=by
 match l,h with | [a,b,c],_=>exact ⟨a,b,c,rfl⟩ | [],h=>exact absurd h (by simp) | [_],h=>exact absurd h (by simp) | [_,_],h=>exact absurd h (by simp) | _ :: _ :: _ :: _ :: _,h=>exact absurd h (by simp only [List.length_cons]; omega)
theorem Ktn {v:K02} (h:vB .num v=true):∃ N,v=⟨1,N,[],[]⟩∧0 ≤ N∧N ≤ 2:=by
 obtain ⟨op,N,ty,ks⟩:=v
 simp only [vB,Bool.and_eq_true] at h
 obtain ⟨⟨⟨h1,h2⟩,h3⟩,h4⟩:=h
 have h1:=eq_of_beq h1
 have h3:=Kt1 h3
 have h4:=Kt1 h4
 subst h1 h3 h4
 unfold inB at h2
 simp only [Bool.and_eq_true,decide_eq_true_eq] at h2
 exact ⟨N,rfl,h2.1,h2.2⟩
theorem Kto {a b:Ty} {v:K02} (h:vB (.bin 1 a b) v=true):∃ k m,v=⟨4,0,[],[k,m]⟩∧vB a k=true∧vB b m=true:=by
 obtain ⟨op,N,ty,ks⟩:=v
 rw [Ksy,if_pos rfl] at h
 simp only [Bool.and_eq_true] at h
 obtain ⟨⟨⟨h1,h2⟩,h3⟩,h4⟩:=h
 have h1:=eq_of_beq h1
 have h2:=eq_of_beq h2
 have h3:=Kt1 h3
 subst h1 h2 h3
 match ks,h4 with
 | [k,m],h4 =>
  simp only [Bool.and_eq_true] at h4
  exact ⟨k,m,rfl,h4.1,h4.2⟩
theorem Ktp {a b:Ty} {v:K02} (h:vB (.bin 2 a b) v=true):(∃ k,v=⟨6,0,b.code,[k]⟩∧vB a k=true)∨(∃ k,v=⟨7,0,a.code,[k]⟩∧vB b k=true):=by
 obtain ⟨op,N,ty,ks⟩:=v
 rw [Ksy,if_neg (by decide)] at h
 simp only [Bool.and_eq_true] at h
 obtain ⟨h2,h4⟩:=h
 have h2:=eq_of_beq h2
 subst h2
 match ks,h4 with
 | [k],h4 =>
  simp only at h4
  by_cases h6:op=6
  ·subst h6
   rw [if_pos rfl,Bool.and_eq_true] at h4
   have h5:=eq_of_beq h4.1
   subst h5
   exact .inl ⟨k,rfl,h4.2⟩
  ·rw [if_neg h6] at h4
   by_cases h7:op=7
   ·subst h7
    rw [if_pos rfl,Bool.and_eq_true] at h4
    have h5:=eq_of_beq h4.1
    subst h5
    exact .inr ⟨k,rfl,h4.2⟩
   ·rw [if_neg h7] at h4; cases h4
theorem Ktq {c:Int} {a:Ty} {v:K02} (h:vB (.un c a) v=true):∃ k,v=⟨11,Koh c,[],[k]⟩∧vB a k=true:=by
 obtain ⟨op,N,ty,ks⟩:=v
 simp only [Ksz,Bool.and_eq_true] at h
 obtain ⟨⟨⟨h1,h2⟩,h3⟩,h4⟩:=h
 have h1:=eq_of_beq h1
 have h2:=eq_of_beq h2
 have h3:=Kt1 h3
 subst h1 h2 h3
 match ks,h4 with
 | [k],h4=>exact ⟨k,rfl,h4⟩
def Ktr (v:K02) (i:Nat):K02:=v.fKids.getD i noT
def plV:Ty→K02→Nat
 | .num,v=>v.fN.toNat
 | .bin c a b,v=>if c=1 then plV a (Ktr v 0) * Krd b + plV b (Ktr v 1) else if v.fOp=6 then plV a (Ktr v 0) else Krd a + plV b (Ktr v 0)
 | .un _ a,v=>plV a (Ktr v 0)
theorem Kts {a b:Ty} (h:Krd (.bin 1 a b) ≤ 300):Krd (.bin 1 a b)=Krd a * Krd b∧Krd a ≤ 300∧Krd b ≤ 300:=by
 rw [Krd,if_pos rfl] at h ⊢
 have h1:=(Kre a).1
 have h2:=(Kre b).1
 have h3:Krd a ≤ Krd a * Krd b:=Nat.le_mul_of_pos_right _ h2
 have h4:Krd b ≤ Krd a * Krd b:=Nat.le_mul_of_pos_left _ h1
 omega
theorem Ktt {c:Int} {a b:Ty} (hc:c ≠ 1) (h:Krd (.bin c a b) ≤ 300):Krd (.bin c a b)=Krd a + Krd b∧Krd a ≤ 300∧Krd b ≤ 300:=by
 rw [Krd,if_neg hc] at h ⊢
 omega
theorem Ktu (T:Ty):∀ k:Nat,T.dat→Krd T ≤ 300→k < Krd T→plV T (vAt T k)=k:=by
 induction T with
 | num=>intro k _ _ _; rw [vAt,plV]; exact Int.toNat_natCast k
 | bin c a b iha ihb =>
  intro k hd hc hk
  rcases hd.1 with rfl | rfl
  ·obtain ⟨e,c1,c2⟩:=Kts hc
   have hpos:=(Kre b).1
   rw [e] at hk
   have d1:k / Krd b < Krd a:=(Nat.div_lt_iff_lt_mul hpos).2 hk
   have d2:k % Krd b < Krd b:=Nat.mod_lt _ hpos
   have d3:=Nat.div_add_mod k (Krd b)
   rw [vAt,if_pos rfl,plV,if_pos rfl,← Int.ofNat_tdiv,← Int.ofNat_tmod]
   generalize k / Krd b=q at d1 d3 ⊢
   generalize k % Krd b=r at d2 d3 ⊢
   rw [Kmm (by omega) (by omega)]
   simp only [Ktr,List.getD_cons_zero,List.getD_cons_succ]
   rw [iha _ hd.2.1 c1 d1,ihb _ hd.2.2 c2 d2,Nat.mul_comm]
   exact d3
  ·obtain ⟨e,c1,c2⟩:=Ktt (by decide) hc
   rw [e] at hk
   rw [vAt,if_neg (by decide:¬ (2:Int)=1)]
   by_cases h:(k:Int) < (Krd a:Int)
   ·rw [if_pos h,plV,if_neg (by decide:¬ (2:Int)=1)]
    simp only [Ktr,List.getD_cons_zero,if_true]
    exact iha k hd.2.1 c1 (by omega)
   ·rw [if_neg h,plV,if_neg (by decide:¬ (2:Int)=1),Kmm (by omega) (by omega),show (k:Int) - (Krd a:Int)=((k - Krd a:Nat):Int) by omega]
    simp only [Ktr,List.getD_cons_zero]
    rw [if_neg (by decide:¬ (7:Int)=6),ihb _ hd.2.2 c2 (by omega)]; omega
 | un c a ih =>
  intro k hd hc hk
  rw [vAt,plV]
  simp only [Ktr,List.getD_cons_zero]
  exact ih k hd hc hk
def Ktv (view:List Int):Ty→K02→K02
 | .num,v=>v
 | .bin c a b,v=>if c=1 then ⟨4,0,[],[Ktv view a (Ktr v 0),Ktv view b (Ktr v 1)]⟩ else if v.fOp=6 then ⟨6,0,b.code,[Ktv view a (Ktr v 0)]⟩ else ⟨7,0,a.code,[Ktv view b (Ktr v 0)]⟩
 | .un c a,v=>⟨11,Koh c,[],[if view.contains (Koh c) then Ktv view a (Ktr v 0) else dfl a]⟩
theorem Ktw (view:List Int) (T:Ty):∀ v,vB T v=true→tms (Ktv view T v) ≤ 3 * T.code.length:=by
 induction T with
 | num=>intro v h; obtain ⟨N,rfl,_⟩:=Ktn h; simp [Ktv,tms,Koo]
 | bin c a b iha ihb =>
  intro v h
  rw [Ktv,Ty.code,List.length_cons,List.length_append]
  by_cases hc:c=1
  ·subst hc
   obtain ⟨k,m,rfl,h1,h2⟩:=Kto h
   have:=iha k h1
   have:=ihb m h2
   rw [if_pos rfl]
   simp only [tms,Koo,Ktr,List.getD_cons_zero,List.getD_cons_succ,List.length_cons,List.length_nil]; omega
  ·rw [if_neg hc]
   have h':vB (.bin 2 a b) v=true:=by
    obtain ⟨op,N,ty,ks⟩:=v
    rw [Ksy,if_neg hc] at h
    rw [Ksy,if_neg (by decide)]; exact h
   rcases Ktp h' with ⟨k,rfl,h1⟩ | ⟨k,rfl,h1⟩
   ·have:=iha k h1
    simp only [tms,Koo,Ktr,List.getD_cons_zero,if_true,List.length_cons,List.length_nil]; omega
   ·have:=ihb k h1
    simp only [Ktr,List.getD_cons_zero]
    rw [if_neg (by decide:¬ (7:Int)=6)]
    simp only [tms,Koo,List.length_cons,List.length_nil]; omega
 | un c a ih =>
  intro v h
  obtain ⟨k,rfl,h1⟩:=Ktq h
  have:=ih k h1
  have:=Ks1 a
  rw [Ktv,Ty.code,List.length_cons]
  simp only [tms,Koo,Ktr,List.getD_cons_zero,List.length_cons,List.length_nil]
  split <;> omega
theorem Ktx {s:K00} {T:Ty} (v:K02) (h:(Kr8 s T.code && Kqs T.code)=true) (h1:T.ok) (h2:T.dat) (h4:T.code.length ≤ 40) (hv:tms v ≤ 1048576):Kle (s,T.code,v)=some (vB T v):=by
 unfold Kle
 simp only
 rw [Kra s T.code (by omega),h]
 rw [bs,if_pos rfl]
 have e:=Kte s v 0 (by decide) (by omega)
 rw [show ((0:Nat):Int)=0 from rfl] at e
 rw [e,bs]
 cases ht:Ktd s v 0
 ·have:vB T v=false:=by
   rw [Bool.eq_false_iff]
   intro hb
   unfold Kr8 Kr2 at h
   simp only [Bool.and_eq_true] at h
   have T':=Kq7 h.1.1
   have hc:=h.1.2.2
   rw [show Kr1 s=Koi s.fSize true from funext fun c=>Kr6 T'] at hc
   obtain ⟨p,q⟩:=Kt9 _ _ T v 0 h2 (Ktf h1 h4 hc) hb
   unfold Ktd at ht
   rw [h.1.1,decide_eq_true (by omega),p] at ht
   cases ht
  rw [this]; rfl
 ·rw [if_pos rfl]
  unfold Ktd at ht
  rw [Bool.and_eq_true] at ht
  rw [Ktc _ _ T v 0 h1 h2 (by omega) ht.2]; rfl
theorem Kty {s:K00} {T:Ty} (v:K02) (h:(Kr8 s T.code && Kqs T.code)=true) (h1:T.ok) (h2:T.dat) (h4:T.code.length ≤ 40) (hv:tms v ≤ 1048576):Kle (s,T.code,v)=some (vB T v)∧Kj9 (s,T.code,v)=some (vB T v):=by
 refine ⟨Ktx v h h1 h2 h4 hv,?_⟩
 unfold Kj9
 simp only
 rw [Krc s T.code (by omega),h]
 rw [bs,if_pos rfl,Kt0 T v h1 h2 (by omega)]
 rfl
theorem Ktz (view:List Int) (hvw:view.length ≤ 1099511627776) (T:Ty):∀ v:K02,T.ok→T.dat→T.code.length ≤ 1048576→tms v ≤ 1048576→vB T v=true→Kjn (view,T.code,v)=some (Ktv view T v):=by
 induction T with
 | num =>
  intro v _ _ _ hm hv
  obtain ⟨N,rfl,_⟩:=Ktn hv
  rw [Ty.code,Kjn.eq_def]
  simp only [Krf,bs]
  rw [Ko2,Ks0,Krr _ (by omega)]
  rfl
 | bin c a b iha ihb =>
  intro v h hd hl hm hv
  have P:=Krz h hl
  have la:=P.la
  rw [Ty.code,Kjn.eq_def]
  simp only [Krf,bs]
  rw [P.pp,Ko2,Krr v (by omega)]
  rcases Krw h.1 with ⟨rfl,e⟩ | ⟨rfl,e⟩ | ⟨h0,h1,_,e⟩
  ·obtain ⟨k,m,rfl,h1,h2⟩:=Kto hv
   simp only [tms,Koo] at hm
   rw [e]
   simp only [bs,Krf,Krg]
   rw [iha k P.ok.1 hd.2.1 (by omega) (by omega) h1,ihb m P.ok.2 hd.2.2 (by omega) (by omega) h2]
   rfl
  ·rw [e]
   rcases Ktp hv with ⟨k,rfl,h1⟩ | ⟨k,rfl,h1⟩
   ·simp only [tms,Koo] at hm
    simp only [bs,Krf,Krg,show wr (6 - 6)=0 from by decide]
    rw [iha k P.ok.1 hd.2.1 (by omega) (by omega) h1]
    rfl
   ·simp only [tms,Koo] at hm
    simp only [bs,Krf,Krg,show wr (7 - 6)=1 from by decide]
    rw [ihb k P.ok.2 hd.2.2 (by omega) (by omega) h1]
    rfl
  ·exact absurd hd.1 (by omega)
 | un c a ih =>
  intro v h hd hl hm hv
  have P:=unP h hl
  have la:=P.la
  obtain ⟨h0,h1,h2,e⟩:=Krx h.1
  obtain ⟨k,rfl,q⟩:=Ktq hv
  rw [Ty.code,Kjn.eq_def]
  simp only [Krf,bs]
  rw [P.pp,Ko2,e,Krr _ (by omega),Ktv]
  simp only [tms,Koo] at hm
  simp only [Krf,bs,Ksn view _ hvw,ih k P.ok hd (by omega) (by omega) q,Ks2 a P.ok (by omega)]
  cases view.contains (Koh c) <;> rfl
mutual
def tEq:K02→K02→Bool
 | ⟨o,N,t,k⟩,⟨o',N',t',k'⟩=>o == o' && N == N' && t == t' && (k.length == k'.length) && Ku0 k k'
def Ku0:List K02→List K02→Bool
 | [],_=>true
 | _ :: _,[]=>false
 | a :: k,b :: k'=>tEq a b && Ku0 k k'
end
mutual
theorem Ku1:∀ (a b:K02),tEq a b=true→a=b
 | ⟨o,N,t,k⟩,⟨o',N',t',k'⟩,h=>by
  rw [tEq] at h
  simp only [Bool.and_eq_true,beq_iff_eq] at h
  obtain ⟨⟨⟨⟨h1,h2⟩,h3⟩,h4⟩,h5⟩:=h
  rw [h1,h2,h3,Ku2 k k' h4 h5]
theorem Ku2:∀ (k k':List K02),k.length=k'.length→Ku0 k k'=true→k=k'
 | [],[],_,_=>rfl
 | [],_ :: _,h,_=>by simp at h
 | _ :: _,[],h,_=>by simp at h
 | a :: k,b :: k',hl,h=>by
  rw [Ku0,Bool.and_eq_true] at h
  rw [Ku1 a b h.1,Ku2 k k' (by simpa using hl) h.2]
end
mutual
theorem Ku3:∀ (a:K02),tEq a a=true
 | ⟨o,N,t,k⟩=>by rw [tEq,Ku4 k]; simp
theorem Ku4:∀ (k:List K02),Ku0 k k=true
 | []=>by rw [Ku0]
 | a :: k=>by rw [Ku0,Ku3 a,Ku4 k]; rfl
end
def Ku5 (l:List Nat):List Int:=l.map fun x:Nat=>(x:Int)
theorem Ku6 (l:List Nat):(Ku5 l).length=l.length:=List.length_map ..
theorem Ku7 (l:List Nat) (i:Nat):(Ku5 l).drop i=Ku5 (l.drop i):=(List.map_drop ..).symm
theorem Ku8 (l:List Nat) (i:Nat):(Ku5 l).take i=Ku5 (l.take i):=(List.map_take ..).symm
theorem Ku9 {l r:List Nat} {x i:Nat} (h:l.drop i=x :: r):i < l.length∧idx (Ku5 l) (i:Int)=some (x:Int)∧l.drop (i + 1)=r:=by
 have h2:(Ku5 l).drop i=(x:Int) :: Ku5 r:=by rw [Ku7,h]; rfl
 obtain ⟨q1,q2,q3⟩:=Kns h2
 rw [Ku6] at q1
 refine ⟨q1,q2,?_⟩
 rw [← List.drop_drop,h]
 rfl
structure Kua (s:K00) (n:Nat):Prop where
 tab:Tab s n
 one:∀ a,a < n→Kn5 s n a=true
 two:∀ a b,a < n→b < n→Kni s n a b=true
theorem Kub {s:K00} (h:Kq6 s=true):Kua s s.fSize.toNat:=by
 have ht:=Kq7 h
 unfold Kq6 at h
 simp only [Bool.and_eq_true] at h
 have hm:=h.2
 unfold Knl at hm
 rw [List.all_eq_true] at hm
 refine ⟨ht,fun a ha=>?_,fun a b ha hb=>?_⟩
 ·have:=hm a (by rw [List.mem_range'_1]; omega)
  simp only [Bool.and_eq_true] at this
  exact this.1
 ·have:=hm a (by rw [List.mem_range'_1]; omega)
  simp only [Bool.and_eq_true,List.all_eq_true] at this
  exact (this.2 b (by rw [List.mem_range'_1]; omega)).1
section
variable {s:K00} {n:Nat} (hs:Kua s n)
include hs
theorem Kuc:1 < n:=by have:=hs.tab.lo; omega
theorem Kud:0 < n:=by have:=hs.tab.lo; omega
theorem Kue {a:Nat} (ha:a < n):pl s n 0 a=a:=by
 have:=hs.one a ha
 simp only [Kn5,Bool.and_eq_true,beq_iff_eq] at this
 exact this.1.1.1.1.1
theorem Kuf {a:Nat} (ha:a < n):ti s n 1 a=a:=by
 have:=hs.one a ha
 simp only [Kn5,Bool.and_eq_true,beq_iff_eq] at this
 exact this.1.1.1.1.2
def Kug (s:K00) (n a b:Nat):Nat:=(Knb s n a b).toNat
theorem Kuh {a b:Nat} (ha:a < n) (hb:b < n):Knb s n a b=((Kug s n a b:Nat):Int)∧Kug s n a b < n:=by
 have h:=hs.two a b ha hb
 simp only [Kni,Bool.and_eq_true,decide_eq_true_eq] at h
 have h0:=h.2
 unfold Kug
 refine ⟨by omega,?_⟩
 unfold Knb at h0 ⊢
 cases hf:(List.range' 0 n).find? (jok s n a b) with
 | none=>rw [hf] at h0; exact absurd h0 (by decide)
 | some g =>
  have:=List.mem_of_find?_eq_some hf
  rw [List.mem_range'_1] at this
  simp only [Int.toNat_natCast]
  omega
end
def Kui (s:K00) (n:Nat) (a b:List Nat):List Nat:=List.zipWith (pl s n) a b
def Kuj (s:K00) (n g:Nat) (a:List Nat):List Nat:=a.map (ti s n g)
def Kuk (s:K00) (n:Nat) (a b:List Nat):List Nat:=List.zipWith (Kug s n) a b
def Kul (n:Nat) (l:List Nat):Prop:=∀ x ∈ l,x < n
theorem Kum {n x:Nat} {l:List Nat} (h:Kul n (x :: l)):x < n∧Kul n l:=⟨h x List.mem_cons_self,fun y hy=>h y (List.mem_cons_of_mem _ hy)⟩
theorem Kun {n:Nat} {l:List Nat} (h:Kul n l) (i:Nat):Kul n (l.drop i):=fun x hx=>h x (List.mem_of_mem_drop hx)
section
variable {s:K00} {n:Nat} (hs:Kua s n)
include hs
theorem Kuo:∀ {a b:List Nat},Kul n a→Kul n b→Kul n (Kui s n a b)
 | [],_,_,_=>fun x hx=>by cases hx
 | _ :: _,[],_,_=>fun x hx=>by cases hx
 | x :: a,y :: b,ha,hb=>fun z hz=>by
  obtain ⟨h1,h2⟩:=Kum ha
  obtain ⟨h3,h4⟩:=Kum hb
  rcases List.mem_cons.1 hz with rfl | hz
  ·exact Kmu hs.tab h1 h3
  ·exact Kuo h2 h4 z hz
theorem Kup {g:Nat} (hg:g < n) {a:List Nat} (ha:Kul n a):Kul n (Kuj s n g a):=fun x hx=>by
 obtain ⟨y,hy,rfl⟩:=List.mem_map.1 hx
 exact Kmv hs.tab hg (ha y hy)
theorem Kuq:∀ {a b:List Nat},Kul n a→Kul n b→Kul n (Kuk s n a b)
 | [],_,_,_=>fun x hx=>by cases hx
 | _ :: _,[],_,_=>fun x hx=>by cases hx
 | x :: a,y :: b,ha,hb=>fun z hz=>by
  obtain ⟨h1,h2⟩:=Kum ha
  obtain ⟨h3,h4⟩:=Kum hb
  rcases List.mem_cons.1 hz with rfl | hz
  ·exact (Kuh hs h1 h3).2
  ·exact Kuq h2 h4 z hz
theorem Kur {a:List Nat} (ha:Kul n a):Kuj s n 1 a=a:=by
 induction a with
 | nil=>rfl
 | cons x a ih =>
  obtain ⟨h1,h2⟩:=Kum ha
  show ti s n 1 x :: Kuj s n 1 a=_
  rw [Kuf hs h1,ih h2]
theorem Kus {a:List Nat} (ha:Kul n a):Kui s n (List.replicate a.length 0) a=a:=by
 induction a with
 | nil=>rfl
 | cons x a ih =>
  obtain ⟨h1,h2⟩:=Kum ha
  show pl s n 0 x :: Kui s n (List.replicate a.length 0) a=_
  rw [Kue hs h1,ih h2]
theorem Kut (g:Nat) (hg:g < n) (a b:List Nat) (ha:Kul n a) (hb:Kul n b) (hl:a.length ≤ 1099511627776):∀ (al bl:List Nat) (i:Nat) (out:List Int),a.drop i=al→b.drop i=bl→al.length=bl.length→out.length + al.length ≤ 1099511627776 →
  Kll (s,Ku5 a,(g:Int),Ku5 b,out,(i:Int))=some (out ++ Ku5 (Kui s n al (Kuj s n g bl))):=by
 intro al
 induction al with
 | nil =>
  intro bl i out hd _ _ _
  rw [Kll.eq_def]
  simp only
  rw [Ku6,Kmq (Knt hd)]
  simp [Kui,Ku5]
 | cons x al ih =>
  intro bl i out hd hd2 hll ho
  cases bl with
  | nil=>simp at hll
  | cons y bl =>
   obtain ⟨h1,h2,h3⟩:=Ku9 hd
   obtain ⟨k1,k2,k3⟩:=Ku9 hd2
   have hx:x < n:=Kun ha i x (by rw [hd]; exact List.mem_cons_self)
   have hy:y < n:=Kun hb i y (by rw [hd2]; exact List.mem_cons_self)
   rw [Kll.eq_def]
   simp only
   simp only [List.length_cons] at ho hll
   rw [Ku6,Kmp h1,if_pos rfl,h2,bs,k2,bs,Kn0 hs.tab hg hy,bs,Kmz hs.tab hx (Kmv hs.tab hg hy),bs,Kps (by simp; omega),bs,Kmo (by omega),ih bl (i + 1) _ h3 k3 (by omega) (by simp; omega)]
   rw [List.append_assoc]
   rfl
theorem Kuu (g:Nat) (hg:g < n) (a b:List Nat) (ha:Kul n a) (hb:Kul n b) (hl:a.length ≤ 1048576) (hab:a.length=b.length):Klm (s,Ku5 a,(g:Int),Ku5 b)=some (Ku5 (Kui s n a (Kuj s n g b))):=by
 unfold Klm
 simp only
 rw [show (0:Int)=((0:Nat):Int) from rfl,Kut hs g hg a b ha hb (by omega) a b 0 [] rfl rfl hab (by simp; omega)]
 rfl
theorem Kuv (a b:List Nat) (ha:Kul n a) (hb:Kul n b) (hl:a.length ≤ 1048576) (hab:a.length=b.length):Klm (s,Ku5 a,1,Ku5 b)=some (Ku5 (Kui s n a b)):=by
 have:=Kuu hs 1 (Kuc hs) a b ha hb hl hab
 rw [Kur hs hb] at this
 exact this
theorem Kuw (a b:List Nat) (ha:Kul n a) (hb:Kul n b) (hl:a.length ≤ 1099511627776):∀ (al bl:List Nat) (i:Nat) (out:List Int),a.drop i=al→b.drop i=bl→al.length=bl.length→out.length + al.length ≤ 1099511627776 →
  Klo (s,Ku5 a,Ku5 b,out,(i:Int))=some (out ++ Ku5 (Kuk s n al bl)):=by
 intro al
 induction al with
 | nil =>
  intro bl i out hd _ _ _
  rw [Klo.eq_def]
  simp only
  rw [Ku6,Kmq (Knt hd)]
  simp [Kuk,Ku5]
 | cons x al ih =>
  intro bl i out hd hd2 hll ho
  cases bl with
  | nil=>simp at hll
  | cons y bl =>
   obtain ⟨h1,h2,h3⟩:=Ku9 hd
   obtain ⟨k1,k2,k3⟩:=Ku9 hd2
   have hx:x < n:=Kun ha i x (by rw [hd]; exact List.mem_cons_self)
   have hy:y < n:=Kun hb i y (by rw [hd2]; exact List.mem_cons_self)
   rw [Klo.eq_def]
   simp only
   simp only [List.length_cons] at ho hll
   rw [Ku6,Kmp h1,if_pos rfl,h2,bs,k2,bs,Kng hs.tab hx hy,bs,(Kuh hs hx hy).1,Kps (by simp; omega),bs,Kmo (by omega),ih bl (i + 1) _ h3 k3 (by omega) (by simp; omega)]
   rw [List.append_assoc]
   rfl
theorem Kux (a b:List Nat) (ha:Kul n a) (hb:Kul n b) (hl:a.length ≤ 1048576) (hab:a.length=b.length):Klp (s,Ku5 a,Ku5 b)=some (Ku5 (Kuk s n a b)):=by
 unfold Klp
 simp only
 rw [show (0:Int)=((0:Nat):Int) from rfl,Kuw hs a b ha hb (by omega) a b 0 [] rfl rfl hab (by simp; omega)]
 rfl
end
theorem Kuy {α:Type} {out:List α} {i:Nat} (h:i < out.length) (x:α):(out.set i x).take (i + 1)=out.take i ++ [x]:=by
 rw [List.take_set,List.take_succ_eq_append_getElem h,List.set_append_right _ _ (by simp; omega)]
 simp [Nat.min_eq_left (Nat.le_of_lt h)]
section
variable {s:K00} {n:Nat} (hs:Kua s n)
include hs
theorem Kuz (a b:List Nat) (ha:Kul n a) (hb:Kul n b) (hl:a.length ≤ 1099511627776):∀ (al bl:List Nat) (i:Nat) (out:List Int),a.drop i=al→b.drop i=bl→al.length=bl.length→out.length=a.length →
  Km0 (s,Ku5 a,Ku5 b,out,(i:Int))=some (out.take i ++ Ku5 (Kui s n al bl)):=by
 intro al
 induction al with
 | nil =>
  intro bl i out hd _ _ ho
  rw [Km0.eq_def]
  simp only
  have:=Knt hd
  rw [Ku6,Kmq this]
  simp [Kui,Ku5,List.take_of_length_le (show out.length ≤ i by omega)]
 | cons x al ih =>
  intro bl i out hd hd2 hll ho
  cases bl with
  | nil=>simp at hll
  | cons y bl =>
   obtain ⟨h1,h2,h3⟩:=Ku9 hd
   obtain ⟨k1,k2,k3⟩:=Ku9 hd2
   have hx:x < n:=Kun ha i x (by rw [hd]; exact List.mem_cons_self)
   have hy:y < n:=Kun hb i y (by rw [hd2]; exact List.mem_cons_self)
   rw [Km0.eq_def]
   simp only
   simp only [List.length_cons] at hll
   have hio:i < out.length:=by omega
   rw [Ku6,Kmp h1,if_pos rfl,h2,bs,k2,bs,Kn1 hs.tab hx hy,bs,Kmn hio,bs,Kmo (by omega),Int.toNat_natCast,ih bl (i + 1) _ h3 k3 (by omega) (by rw [List.length_set]; exact ho)]
   rw [Kuy hio,List.append_assoc]
   rfl
theorem Kv0 (a b:List Nat) (ha:Kul n a) (hb:Kul n b) (hl:a.length ≤ 1048576) (hab:a.length=b.length):Km2 (⟨s⟩,Ku5 a,Ku5 b)=some (Ku5 (Kui s n a b)):=by
 unfold Km2 Km1
 simp only
 rw [Ku6,Ks4 (by simp; omega),bs,Int.toNat_natCast,show (0:Int)=((0:Nat):Int) from rfl]
 rw [show (List.replicate a.length (((0:Nat):Int)))=List.replicate a.length (0:Int) from rfl,Kuz hs a b ha hb (by omega) a b 0 _ rfl rfl hab (by simp)]
 rfl
theorem Kv1 (a b:List Nat) (ha:Kul n a) (hb:Kul n b) (hl:a.length ≤ 1099511627776):∀ (al bl:List Nat) (i:Nat) (out:List Int),a.drop i=al→b.drop i=bl→al.length=bl.length→out.length=a.length →
  Km4 (s,Ku5 a,Ku5 b,out,(i:Int))=some (out.take i ++ Ku5 (Kuk s n al bl)):=by
 intro al
 induction al with
 | nil =>
  intro bl i out hd _ _ ho
  rw [Km4.eq_def]
  simp only
  have:=Knt hd
  rw [Ku6,Kmq this]
  simp [Kuk,Ku5,List.take_of_length_le (show out.length ≤ i by omega)]
 | cons x al ih =>
  intro bl i out hd hd2 hll ho
  cases bl with
  | nil=>simp at hll
  | cons y bl =>
   obtain ⟨h1,h2,h3⟩:=Ku9 hd
   obtain ⟨k1,k2,k3⟩:=Ku9 hd2
   have hx:x < n:=Kun ha i x (by rw [hd]; exact List.mem_cons_self)
   have hy:y < n:=Kun hb i y (by rw [hd2]; exact List.mem_cons_self)
   rw [Km4.eq_def]
   simp only
   simp only [List.length_cons] at hll
   have hio:i < out.length:=by omega
   rw [Ku6,Kmp h1,if_pos rfl,h2,bs,k2,bs,Knh hs.tab hx hy,bs,(Kuh hs hx hy).1,Kmn hio,bs,Kmo (by omega),Int.toNat_natCast,ih bl (i + 1) _ h3 k3 (by omega) (by rw [List.length_set]; exact ho)]
   rw [Kuy hio,List.append_assoc]
   rfl
theorem Kv2 (a b:List Nat) (ha:Kul n a) (hb:Kul n b) (hl:a.length ≤ 1048576) (hab:a.length=b.length):Km6 (⟨s⟩,Ku5 a,Ku5 b)=some (Ku5 (Kuk s n a b)):=by
 unfold Km6 Km5
 simp only
 rw [Ku6,Ks4 (by simp; omega),bs,Int.toNat_natCast,show (0:Int)=((0:Nat):Int) from rfl]
 rw [show (List.replicate a.length (((0:Nat):Int)))=List.replicate a.length (0:Int) from rfl,Kv1 hs a b ha hb (by omega) a b 0 _ rfl rfl hab (by simp)]
 rfl
theorem Kv3 (g:Nat) (hg:g < n) (a:List Nat) (ha:Kul n a) (hl:a.length ≤ 1099511627776):∀ (al:List Nat) (i:Nat) (out:List Int),a.drop i=al→out.length=a.length →
  Kmg (⟨s⟩,(g:Int),Ku5 a,out,(i:Int))=some (out.take i ++ Ku5 (Kuj s n g al)):=by
 intro al
 induction al with
 | nil =>
  intro i out hd ho
  rw [Kmg.eq_def]
  simp only
  have:=Knt hd
  rw [Ku6,Kmq this]
  simp [Kuj,Ku5,List.take_of_length_le (show out.length ≤ i by omega)]
 | cons x al ih =>
  intro i out hd ho
  obtain ⟨h1,h2,h3⟩:=Ku9 hd
  have hx:x < n:=Kun ha i x (by rw [hd]; exact List.mem_cons_self)
  rw [Kmg.eq_def]
  simp only
  have hio:i < out.length:=by omega
  rw [Ku6,Kmp h1,if_pos rfl,h2,bs,Kn2 hs.tab hg hx,bs,Kmn hio,bs,Kmo (by omega),Int.toNat_natCast,ih (i + 1) _ h3 (by rw [List.length_set]; exact ho)]
  rw [Kuy hio,List.append_assoc]
  rfl
theorem Kv4 (g:Nat) (hg:g < n) (a:List Nat) (ha:Kul n a) (hl:a.length ≤ 1048576):Kmh (⟨s⟩,(g:Int),Ku5 a)=some (Ku5 (Kuj s n g a)):=by
 unfold Kmh
 simp only
 rw [Ku6,Ks4 (by simp; omega),bs,Int.toNat_natCast,show (0:Int)=((0:Nat):Int) from rfl]
 rw [show (List.replicate a.length (((0:Nat):Int)))=List.replicate a.length (0:Int) from rfl,Kv3 hs g hg a ha (by omega) a 0 _ rfl (by simp)]
 rfl
theorem Kv5 (g:Nat) (hg:g < n) (a:List Nat) (ha:Kul n a) (hl:a.length ≤ 1099511627776):∀ (al:List Nat) (i:Nat),a.drop i=al →
  ∃ r,Kmc (Ku5 a,⟨s⟩,(g:Int),(i:Int))=some r∧(match r with | .inl _=>(al.all fun x=>le s n x g)=true | .inr j=>(al.all fun x=>le s n x g)=false∧0 ≤ j):=by
 intro al
 induction al with
 | nil =>
  intro i hd
  rw [Kmc.eq_def]
  simp only
  rw [Ku6,Kmq (Knt hd)]
  exact ⟨_,rfl,rfl⟩
 | cons x al ih =>
  intro i hd
  obtain ⟨h1,h2,h3⟩:=Ku9 hd
  have hx:x < n:=Kun ha i x (by rw [hd]; exact List.mem_cons_self)
  rw [Kmc.eq_def]
  simp only
  rw [Ku6,Kmp h1,if_pos rfl,h2,bs]
  unfold Kmb
  simp only
  rw [iLe hs.tab hx hg]
  simp only [bs]
  cases hle:le s n x g with
  | true =>
   obtain ⟨r,hr,hm⟩:=ih (i + 1) h3
   refine ⟨r,?_,?_⟩
   ·rw [if_neg (by simp),Kmo (by omega)]; exact hr
   ·rw [List.all_cons,hle,Bool.true_and]; exact hm
  | false =>
   exact ⟨_,if_pos rfl,by simp [List.all_cons,hle]⟩
theorem Kv6 (g:Nat) (hg:g < n) (a:List Nat) (ha:Kul n a) (hl:a.length ≤ 1048576):Kmf (⟨s⟩,Ku5 a,(g:Int))=some (a.all fun x=>le s n x g):=by
 obtain ⟨r,hr,hm⟩:=Kv5 hs g hg a ha (by omega) a 0 rfl
 unfold Kmf Kme Kmd
 simp only
 rw [show (0:Int)=((0:Nat):Int) from rfl,hr]
 cases r with
 | inl _=>simp only [bs] at hm ⊢; rw [hm]; rfl
 | inr j =>
  simp only [bs] at hm ⊢
  rw [hm.1,decide_eq_true (by omega)]; rfl
end
theorem Kv7 (k:Nat) (h:k ≤ 1048576):Kli (k:Int)=some (Ku5 (List.replicate k 0)):=by
 unfold Kli
 rw [Int.toNat_natCast,Ks4 (by constructor <;> omega),bs]
 unfold Ku5
 rw [List.map_replicate]
 rfl
theorem Kv8 (ctx front:List (List Int)) (h:ctx.length + front.length ≤ 1048576):Klj (ctx,front)=some (front ++ ctx):=by
 unfold Klj
 simp only
 rw [Kps (by simp; omega),bs,Kps (by omega),bs]
theorem Kv9 (ps:List (List Int)) (hp:ps.length ≤ 1099511627776):∀ (l:List (List Int)) (i:Nat) (out:List Int),ps.drop i=l→out.length + l.flatten.length ≤ 1099511627776→Kai (ps,out,(i:Int))=some (out ++ l.flatten):=by
 intro l
 induction l with
 | nil =>
  intro i out hd _
  rw [Kai.eq_def]
  simp only
  rw [Kmq (Knt hd)]
  simp
 | cons x l ih =>
  intro i out hd ho
  obtain ⟨h1,h2,h3⟩:=Kns hd
  rw [List.flatten_cons,List.length_append] at ho
  rw [Kai.eq_def]
  simp only
  rw [Kmp h1,if_pos rfl,h2,bs,Kps (by omega),bs,Kmo (by omega),ih (i + 1) _ h3 (by rw [List.length_append]; omega),List.flatten_cons,List.append_assoc]
theorem Kva (c:Int) (ps:List (List Int)) (hp:ps.length ≤ 1048576) (h:ps.flatten.length ≤ 1048576):Kal (c,ps)=some (c :: ps.flatten):=by
 unfold Kal
 simp only
 rw [show (0:Int)=((0:Nat):Int) from rfl,Kv9 ps (by omega) ps 0 [c] rfl (by rw [List.length_singleton]; omega)]
 rfl
theorem Kvb (ps:List (List (Int))) (hp:ps.length ≤ 1099511627776):∀ (l:List (List (Int))) (i sz:Nat),ps.drop i=l→sz + l.flatten.length ≤ 1099511627776→Km8 (ps,(sz:Int),(i:Int))=some (((sz + l.flatten.length:Nat)):Int):=by
 intro l
 induction l with
 | nil =>
  intro i sz hd _
  rw [Km8.eq_def]
  simp only
  rw [Kmq (Knt hd)]
  simp
 | cons x l ih =>
  intro i sz hd ho
  obtain ⟨h1,h2,h3⟩:=Kns hd
  rw [List.flatten_cons,List.length_append] at ho
  have e:wr ((sz:Int) + (x.length:Int))=((sz + x.length:Nat):Int):=Kri (by omega) (by omega)
  rw [Km8.eq_def]
  simp only
  rw [Kmp h1,if_pos rfl,h2,bs,e,decide_eq_false (by omega),if_neg (by decide),bs,Kmo (by omega),ih (i + 1) _ h3 (by omega),List.flatten_cons,List.length_append,Nat.add_assoc]
theorem Kvc (ps:List (List (Int))) (hp:ps.length ≤ 1099511627776):∀ (l:List (List (Int))) (i:Nat) (out:List (Int)),ps.drop i=l→out.length + l.flatten.length ≤ 1099511627776→Km9 (ps,out,(i:Int))=some (out ++ l.flatten):=by
 intro l
 induction l with
 | nil =>
  intro i out hd _
  rw [Km9.eq_def]
  simp only
  rw [Kmq (Knt hd)]
  simp
 | cons x l ih =>
  intro i out hd ho
  obtain ⟨h1,h2,h3⟩:=Kns hd
  rw [List.flatten_cons,List.length_append] at ho
  rw [Km9.eq_def]
  simp only
  rw [Kmp h1,if_pos rfl,h2,bs,Kps (by omega),bs,Kmo (by omega),ih (i + 1) _ h3 (by rw [List.length_append]; omega),List.flatten_cons,List.append_assoc]
theorem Kvd (k:Nat) (h:k ≤ 1048576):Km7 (k:Int)=some ():=by
 unfold Km7
 have e:wr ((k:Int) - wr (0 - 0))=(k:Int):=by rw [Kmm (x:=0 - 0) (by decide) (by decide),Kmm (by omega) (by omega)]; omega
 rw [decide_eq_false (by omega),if_neg (by decide),e]
 by_cases hk:k=0
 ·subst hk; rfl
 ·rw [decide_eq_true (by omega),if_pos rfl,Int.toNat_natCast,Ks4 (by constructor <;> omega),bs]
theorem Kve (ps:List (List (Int))) (hp:ps.length ≤ 1048576) (h:ps.flatten.length ≤ 1048576):Kma ps=some ps.flatten:=by
 unfold Kma
 have h0:=Kvb ps (by omega) ps 0 0 rfl (by omega)
 rw [Nat.zero_add] at h0
 rw [show (0:Int)=((0:Nat):Int) from rfl,h0,bs,Kvd _ h,bs,Kvc ps (by omega) ps 0 [] rfl (by rw [List.length_nil]; omega)]
 rfl
theorem Kvf (ps:List (List (List Int))) (hp:ps.length ≤ 1099511627776):∀ (l:List (List (List Int))) (i sz:Nat),ps.drop i=l→sz + l.flatten.length ≤ 1099511627776→Klw (ps,(sz:Int),(i:Int))=some (((sz + l.flatten.length:Nat)):Int):=by
 intro l
 induction l with
 | nil =>
  intro i sz hd _
  rw [Klw.eq_def]
  simp only
  rw [Kmq (Knt hd)]
  simp
 | cons x l ih =>
  intro i sz hd ho
  obtain ⟨h1,h2,h3⟩:=Kns hd
  rw [List.flatten_cons,List.length_append] at ho
  have e:wr ((sz:Int) + (x.length:Int))=((sz + x.length:Nat):Int):=Kri (by omega) (by omega)
  rw [Klw.eq_def]
  simp only
  rw [Kmp h1,if_pos rfl,h2,bs,e,decide_eq_false (by omega),if_neg (by decide),bs,Kmo (by omega),ih (i + 1) _ h3 (by omega),List.flatten_cons,List.length_append,Nat.add_assoc]
theorem Kvg (ps:List (List (List Int))) (hp:ps.length ≤ 1099511627776):∀ (l:List (List (List Int))) (i:Nat) (out:List (List Int)),ps.drop i=l→out.length + l.flatten.length ≤ 1099511627776→Klx (ps,out,(i:Int))=some (out ++ l.flatten):=by
 intro l
 induction l with
 | nil =>
  intro i out hd _
  rw [Klx.eq_def]
  simp only
  rw [Kmq (Knt hd)]
  simp
 | cons x l ih =>
  intro i out hd ho
  obtain ⟨h1,h2,h3⟩:=Kns hd
  rw [List.flatten_cons,List.length_append] at ho
  rw [Klx.eq_def]
  simp only
  rw [Kmp h1,if_pos rfl,h2,bs,Kps (by omega),bs,Kmo (by omega),ih (i + 1) _ h3 (by rw [List.length_append]; omega),List.flatten_cons,List.append_assoc]
theorem Kvh (k:Nat) (h:k ≤ 1048576):Klv (k:Int)=some ():=by
 unfold Klv
 have e:wr ((k:Int) - wr (0 - 0))=(k:Int):=by rw [Kmm (x:=0 - 0) (by decide) (by decide),Kmm (by omega) (by omega)]; omega
 rw [decide_eq_false (by omega),if_neg (by decide),e]
 by_cases hk:k=0
 ·subst hk; rfl
 ·rw [decide_eq_true (by omega),if_pos rfl,Int.toNat_natCast,Ks4 (by constructor <;> omega),bs]
theorem Kvi (ps:List (List (List Int))) (hp:ps.length ≤ 1048576) (h:ps.flatten.length ≤ 1048576):Kly ps=some ps.flatten:=by
 unfold Kly
 have h0:=Kvf ps (by omega) ps 0 0 rfl (by omega)
 rw [Nat.zero_add] at h0
 rw [show (0:Int)=((0:Nat):Int) from rfl,h0,bs,Kvh _ h,bs,Kvg ps (by omega) ps 0 [] rfl (by rw [List.length_nil]; omega)]
 rfl
def TyS (s:K00) (ty:List Int):Prop:=yN s.fSize true ty=true
theorem Kvj {s:K00} {ty:List Int} (h:TyS s ty):ty.length ≤ 40:=by
 unfold TyS yN at h
 rw [Bool.and_eq_true] at h
 exact Kpp h.1
theorem Kvk {s:K00} {ty:List Int} (h:TyS s ty):∃ T:Ty,T.ok∧ty=T.code∧T.code.length ≤ 40∧T.code.all (Koi s.fSize true)=true:=by
 have hl:=Kvj h
 unfold TyS yN at h
 rw [Bool.and_eq_true] at h
 obtain ⟨T,h1,rfl,_⟩:=Kqh h.1
 exact ⟨T,h1,rfl,hl,h.2⟩
theorem Kvl {s:K00} {T:Ty} (h:T.ok) (hl:T.code.length ≤ 40) (hc:T.code.all (Koi s.fSize true)=true):TyS s T.code:=by
 unfold TyS yN
 rw [Kqi h hl,hc]; rfl
structure Kvm (s:K00) (c:Int) (a b:List Int):Prop where
 ya:TyS s a
 yb:TyS s b
 p0:Ki0 (c :: (a ++ b),0)=some a
 p1:Ki0 (c :: (a ++ b),1)=some b
 pp:Kfv (c :: (a ++ b))=some [a,b]
structure Kvn (s:K00) (c:Int) (a:List Int):Prop where
 ya:TyS s a
 p0:Ki0 (c :: a,0)=some a
 pp:Kfv (c :: a)=some [a]
theorem Kvo {s:K00} {c:Int} (hc:c=35∨c=36):Koi s.fSize true c=false:=by
 rcases hc with rfl | rfl
 ·unfold Koi Koh
  rw [show Knw 35=2 from rfl]; simp
 ·unfold Koi Koh
  rw [show Knw 36=1 from rfl]; simp
theorem Kvp {s:K00}:TyS s [0]:=Kvl (T:=.num) trivial (by decide) (by
 show (Koi s.fSize true 0 && true)=true
 unfold Koi
 rw [show Knw 0=0 from rfl]; simp)
section
variable {s:K00} {n:Nat} (hs:Kua s n)
include hs
theorem Kvq {c:Int} (hc:3 ≤ c∧c ≤ 18):Koi s.fSize true c=true ↔ c - 3 < (n:Int):=by
 have hk:Knw c=2:=by rcases Ko0 c with h | h | h | h <;> omega
 unfold Koi Koh
 rw [hk,hs.tab.size,if_neg (by omega),if_neg (by omega)]
 simp
 omega
theorem Kvr {c:Int} (hc:19 ≤ c∧c ≤ 34):Koi s.fSize true c=true ↔ c - 19 < (n:Int):=by
 have hk:Knw c=1:=by rcases Ko0 c with h | h | h | h <;> omega
 unfold Koi Koh
 rw [hk,hs.tab.size,if_neg (by omega),if_pos (by omega)]
 simp
 omega
theorem Kvs {ty:List Int} (h:TyS s ty):ty=[0]∨(∃ a b,ty=1 :: (a ++ b)∧Kvm s 1 a b)∨(∃ a b,ty=2 :: (a ++ b)∧Kvm s 2 a b) ∨
  (∃ (g:Nat) (a b:List Int),g < n∧g ≤ 15∧ty=(3 + (g:Int)) :: (a ++ b)∧Kvm s (3 + (g:Int)) a b)∨(∃ (g:Nat) (a:List Int),g < n∧g ≤ 15∧ty=(19 + (g:Int)) :: a∧Kvn s (19 + (g:Int)) a):=by
 obtain ⟨T,hT,rfl,hl,hc⟩:=Kvk h
 cases T with
 | num=>exact .inl rfl
 | bin c a b =>
  have B:=Krz hT (by omega)
  have hl':=hl
  rw [Ty.code,List.length_cons,List.length_append] at hl'
  rw [Ty.code,List.all_cons,List.all_append,Bool.and_eq_true,Bool.and_eq_true] at hc
  have hP:Kvm s c a.code b.code:=⟨Kvl B.ok.1 (by omega) hc.2.1,Kvl B.ok.2 (by omega) hc.2.2,B.p0,B.p1,B.pp⟩
  have hk:=hT.1
  rcases Ko0 c with ⟨q,e⟩ | ⟨q,e⟩ | ⟨q,e⟩ | ⟨q,e⟩
  ·rw [e] at hk; exact absurd hk (by decide)
  ·rcases q with rfl | rfl | q | rfl
   ·exact .inr (.inl ⟨_,_,rfl,hP⟩)
   ·exact .inr (.inr (.inl ⟨_,_,rfl,hP⟩))
   ·have:=(Kvq hs q).1 hc.1
    obtain ⟨g,hg⟩:∃ g:Nat,c=3 + (g:Int):=⟨(c - 3).toNat,by omega⟩
    subst hg
    exact .inr (.inr (.inr (.inl ⟨g,_,_,by omega,by omega,rfl,hP⟩)))
   ·rw [Kvo (s:=s) (.inl rfl)] at hc; exact absurd hc.1 (by decide)
  ·rw [e] at hk; exact absurd hk (by decide)
  ·rw [e] at hk; exact absurd hk (by decide)
 | un c a =>
  have B:=unP hT (by omega)
  have hl':=hl
  rw [Ty.code,List.length_cons] at hl'
  rw [Ty.code,List.all_cons,Bool.and_eq_true] at hc
  have hP:Kvn s c a.code:=⟨Kvl B.ok (by omega) hc.2,B.p0,B.pp⟩
  have hk:=hT.1
  rcases Ko0 c with ⟨q,e⟩ | ⟨q,e⟩ | ⟨q,e⟩ | ⟨q,e⟩
  ·rw [e] at hk; exact absurd hk (by decide)
  ·rw [e] at hk; exact absurd hk (by decide)
  ·rcases q with q | rfl
   ·have:=(Kvr hs q).1 hc.1
    obtain ⟨g,hg⟩:∃ g:Nat,c=19 + (g:Int):=⟨(c - 19).toNat,by omega⟩
    subst hg
    exact .inr (.inr (.inr (.inr ⟨g,_,by omega,by omega,rfl,hP⟩)))
   ·rw [Kvo (s:=s) (.inr rfl)] at hc; exact absurd hc.1 (by decide)
  ·rw [e] at hk; exact absurd hk (by decide)
theorem Kvt {c:Int} {a b:List Int} (ha:TyS s a) (hb:TyS s b) (hc:c=1∨c=2∨∃ g:Nat,g < n∧c=3 + (g:Int)) (hl:(c :: (a ++ b)).length ≤ 40):TyS s (c :: (a ++ b)):=by
 obtain ⟨A,hA,rfl,_,hAc⟩:=Kvk ha
 obtain ⟨B,hB,rfl,_,hBc⟩:=Kvk hb
 have hn:=hs.tab.hi
 have hk:Knw c=2∧Koi s.fSize true c=true:=by
  rcases hc with rfl | rfl | ⟨g,hg,rfl⟩
  ·exact ⟨rfl,by unfold Koi; rw [show Knw 1=2 from rfl]; simp⟩
  ·exact ⟨rfl,by unfold Koi; rw [show Knw 2=2 from rfl]; simp⟩
  ·refine ⟨by rcases Ko0 (3 + (g:Int)) with h | h | h | h <;> omega,(Kvq hs (by omega)).2 (by omega)⟩
 have:TyS s (Ty.bin c A B).code:=Kvl ⟨hk.1,hA,hB⟩ hl (by rw [Ty.code,List.all_cons,List.all_append,hk.2,hAc,hBc]; rfl)
 exact this
theorem Kvu {g:Nat} (hg:g < n) {a:List Int} (ha:TyS s a) (hl:((19 + (g:Int)) :: a).length ≤ 40):TyS s ((19 + (g:Int)) :: a):=by
 obtain ⟨A,hA,rfl,_,hAc⟩:=Kvk ha
 have hn:=hs.tab.hi
 have hk:Knw (19 + (g:Int))=1:=by rcases Ko0 (19 + (g:Int)) with h | h | h | h <;> omega
 have:TyS s (Ty.un (19 + (g:Int)) A).code:=Kvl ⟨hk,hA⟩ hl (by rw [Ty.code,List.all_cons,(Kvr hs (by omega)).2 (by omega),hAc]; rfl)
 exact this
theorem Kvv {x:Int} (h:gN s.fSize true x=true):∃ g:Nat,x=(g:Int)∧g < n:=by
 unfold gN at h
 rw [hs.tab.size] at h
 simp at h
 exact ⟨x.toNat,by omega,by omega⟩
end
structure Kvw (s:K00) (n:Nat) (k:K02) (m:Nat):Prop where
 ok:tOk (gN s.fSize true) (yN s.fSize true) n k=true
 sz:tsz k + 1 ≤ m
theorem nd1 {s:K00} {n m:Nat} {op N:Int} {ty:List Int} {ks:List K02} (h:tOk (gN s.fSize true) (yN s.fSize true) n ⟨op,N,ty,ks⟩=true) (hm:tsz ⟨op,N,ty,ks⟩ ≤ m) (hk:Kow op=1):∃ a,ks=[a]∧Kvw s (n + Kp6 op 0) a m:=by
 obtain ⟨h1,h2⟩:=Kpq h
 obtain ⟨a,rfl⟩:=Kta (l:=ks) (beq_iff_eq.2 (by rw [← hk]; exact (Kpt h1).2))
 simp only at h2
 rw [Kt3,Bool.and_eq_true] at h2
 rw [Ktj] at hm
 exact ⟨a,rfl,h2.1,by omega⟩
theorem nd2 {s:K00} {n m:Nat} {op N:Int} {ty:List Int} {ks:List K02} (h:tOk (gN s.fSize true) (yN s.fSize true) n ⟨op,N,ty,ks⟩=true) (hm:tsz ⟨op,N,ty,ks⟩ ≤ m) (hk:Kow op=2):∃ a b,ks=[a,b]∧Kvw s (n + Kp6 op 0) a m∧Kvw s (n + Kp6 op 1) b m:=by
 obtain ⟨h1,h2⟩:=Kpq h
 obtain ⟨a,b,rfl⟩:=Ktb (l:=ks) (beq_iff_eq.2 (by rw [← hk]; exact (Kpt h1).2))
 simp only at h2
 rw [Kt3,Kt3,Bool.and_eq_true,Bool.and_eq_true] at h2
 rw [Ktk] at hm
 exact ⟨a,b,rfl,⟨h2.1,by omega⟩,⟨h2.2.1,by omega⟩⟩
theorem nd3 {s:K00} {n m:Nat} {op N:Int} {ty:List Int} {ks:List K02} (h:tOk (gN s.fSize true) (yN s.fSize true) n ⟨op,N,ty,ks⟩=true) (hm:tsz ⟨op,N,ty,ks⟩ ≤ m) (hk:Kow op=3):∃ a b c,ks=[a,b,c]∧Kvw s (n + Kp6 op 0) a m∧Kvw s (n + Kp6 op 1) b m∧Kvw s (n + Kp6 op 2) c m:=by
 obtain ⟨h1,h2⟩:=Kpq h
 obtain ⟨a,b,c,rfl⟩:=Ktm (l:=ks) (by rw [← hk]; exact (Kpt h1).2)
 simp only at h2
 rw [Kt3,Kt3,Kt3,Bool.and_eq_true,Bool.and_eq_true,Bool.and_eq_true] at h2
 rw [Ktl] at hm
 exact ⟨a,b,c,rfl,⟨h2.1,by omega⟩,⟨h2.2.1,by omega⟩,⟨h2.2.2.1,by omega⟩⟩
theorem Kvx {s:K00} {n:Nat} {t:K02} (h:tOk (gN s.fSize true) (yN s.fSize true) n t=true) (hg:Kox t.fOp=true):gN s.fSize true t.fN=true:=by
 have h1:=(Kpq h).1
 unfold Kpc Kpa at h1
 simp only [Bool.and_eq_true] at h1
 have h2:=h1.1.2
 have hop:(t.fOp == 0)=false∧(t.fOp == 1)=false:=by
  simp only [Kox,Bool.or_eq_true,beq_iff_eq] at hg
  constructor <;> rw [beq_eq_false_iff_ne] <;> omega
 rw [hop.1,hop.2,hg] at h2
 simpa using h2
theorem Kvy {s:K00} {n:Nat} {t:K02} (h:tOk (gN s.fSize true) (yN s.fSize true) n t=true) (hg:Koy t.fOp=true):TyS s t.fType:=by
 have h1:=(Kpq h).1
 unfold Kpc Kpb at h1
 simp only [Bool.and_eq_true] at h1
 have h2:=h1.2
 rw [hg] at h2
 show yN s.fSize true t.fType=true
 simpa using h2
theorem Kvz {s:K00} {n:Nat} {t:K02} (h:tOk (gN s.fSize true) (yN s.fSize true) n t=true) (hg:t.fOp=0):∃ i:Nat,t.fN=(i:Int)∧i < n∧t.fKids=[]:=by
 have h1:=(Kpq h).1
 have hl:=(Kpt h1).2
 unfold Kpc Kpa at h1
 simp only [Bool.and_eq_true] at h1
 have h2:=h1.1.2
 rw [hg] at h2 hl
 simp [inB] at h2
 refine ⟨t.fN.toNat,by omega,by omega,?_⟩
 have:(t.fKids.length:Int)=0:=hl
 exact List.eq_nil_of_length_eq_zero (by omega)
theorem Kw0 {s:K00} {n:Nat} {t:K02} (h:tOk (gN s.fSize true) (yN s.fSize true) n t=true) (hg:t.fOp=1):t.fKids=[]:=by
 have h1:=(Kpq h).1
 have hl:=(Kpt h1).2
 rw [hg] at hl
 have:(t.fKids.length:Int)=0:=hl
 exact List.eq_nil_of_length_eq_zero (by omega)
def Kw1 (t:K02) (out:List Klg) (w:Nat):Option (List (List Int)) :=
 (if (decide ((w:Int) > 0))=true then some (true) else some ((t.fOp == 9))) >>= fun v =>
 if v=true then
  (if (decide ((w:Int) > 0))=true then (idx out 0) >>= fun e=>some (e.fty) else some ([])) >>= fun first=>(Klu (t,(w:Int),first)) >>= fun r=>some (r)
 else some ([])
def Kw2 (p0:Klh) (ctx:List (List Int)) (t:K02) (out:List Klg) (needs used:List (List Int)) (w:Nat) (more:List (List Int)) (y:Klg):Option (((List Klg) × (List (List Int)) × (List (List Int))) ⊕ (Klg)) :=
 if (y.ffault != 0)=true then
  (Qe5 ([(w:Int)].length + y.fpath.length) 8) >>= fun _=>some (.inr (Klg.mk [] [] [] y.ffault ([(w:Int)] ++ y.fpath)))
 else
  (Klz (p0,t,(w:Int),y.fty)) >>= fun f =>
  if (f != 0)=true then some (.inr (Klg.mk [] [] [] f []))
  else
   (if (t.fOp == 10)=true then
    if ((w:Int) == 1)=true then
     (idx out 0) >>= fun e=>(Kfv e.fty) >>= fun r=>(idx r 0) >>= fun q=>(Kiz (y.fty,q)) >>= fun b=>some ((!b))
    else some (false)
   else some (false)) >>= fun v =>
   if v=true then some (.inr (Klg.mk [] [] [] 3 []))
   else
    (Qe5 (out.length + [y].length) 8) >>= fun _ =>
    (cut y.fneeds none (some (more.length:Int)) none) >>= fun c1 =>
    (Qe5 (used.length + [c1].length) 24) >>= fun _ =>
    (cut y.fneeds (some (more.length:Int)) none none) >>= fun c2 =>
    (Qe5 (needs.length + [c2].length) 24) >>= fun _ =>
    Kml (p0,ctx,t,(out ++ [y]),(needs ++ [c2]),(used ++ [c1]),(wr ((w:Int) + 1)))
theorem Kw3 {p0:Klh} {ctx:List (List Int)} {t:K02} {out:List Klg} {needs used:List (List Int)} {w:Nat} {k:K02} {more:List (List Int)} {y:Klg} (hw:w < t.fKids.length) (hk:idx t.fKids (w:Int)=some k) (hm:Kw1 t out w=some more)
  (hc:ctx.length + more.length ≤ 1000000) (hy:Kmk (p0,more ++ ctx,k)=some y):Kml (p0,ctx,t,out,needs,used,(w:Int))=Kw2 p0 ctx t out needs used w more y:=by
 rw [Kml.eq_def]
 simp only
 rw [Kmp hw,if_pos rfl,hk,bs]
 have key:∀ {β:Type} (R:List (List Int)→Option β),((if (decide ((w:Int) > 0))=true then some (true) else some ((t.fOp == 9))) >>= fun v =>
   (if v=true then (if (decide ((w:Int) > 0))=true then (idx out 0) >>= fun e=>some (e.fty) else some ([])) >>= fun first=>(Klu (t,(w:Int),first)) >>= fun r=>some (r) else some ([])) >>= R)=(Kw1 t out w >>= R):=fun R=>by
  unfold Kw1
  simp only [Option.bind_eq_bind,Option.bind_assoc]
 refine (key _).trans ?_
 rw [hm,bs,Kvi [more,ctx] (by simp) (by simp; omega),bs]
 simp only [List.flatten_cons,List.flatten_nil,List.append_nil]
 rw [hy,bs]
 rfl
theorem Kw4 {p0:Klh} {ctx:List (List Int)} {t:K02} {out:List Klg} {needs used:List (List Int)} {w:Nat} (hw:t.fKids.length ≤ w):Kml (p0,ctx,t,out,needs,used,(w:Int))=some (.inl (out,needs,used)):=by
 rw [Kml.eq_def]
 simp only
 rw [Kmq hw]; rfl
theorem Kw5 {α:Type} {l:List α} {m:Nat} (h:m ≤ l.length):cut l none (some (m:Int)) none=some (l.take m):=by
 unfold cut
 simp only [Option.getD_none,Option.getD_some,Int.toNat_natCast,Int.toNat_zero,List.drop_zero]
 rw [if_pos (by omega)]
theorem Kw6 {α:Type} {l:List α} {m:Nat} (h:m ≤ l.length):cut l (some (m:Int)) none none=some (l.drop m):=by
 unfold cut
 simp only [Option.getD_none,Option.getD_some,Int.toNat_natCast]
 rw [if_pos (by omega),List.take_length]
def Kw7 (t:K02) (out:List Klg) (w:Nat) (y:Klg):Option Bool :=
 if (t.fOp == 10)=true then
  if ((w:Int) == 1)=true then
   (idx out 0) >>= fun e=>(Kfv e.fty) >>= fun r=>(idx r 0) >>= fun q=>(Kiz (y.fty,q)) >>= fun b=>some ((!b))
  else some (false)
 else some (false)
section
variable {p0:Klh} {ctx:List (List Int)} {t:K02} {out:List Klg} {needs used:List (List Int)} {w:Nat} {more:List (List Int)} {y:Klg}
theorem Kw8 (h:y.ffault ≠ 0) (hp:y.fpath.length ≤ 1000000):Kw2 p0 ctx t out needs used w more y=some (.inr ⟨[],[],[],y.ffault,(w:Int) :: y.fpath⟩):=by
 unfold Kw2
 rw [if_pos (bne_iff_ne.2 h),Kps (by simp; omega),bs]
 rfl
theorem Kw9 {f:Int} (h:y.ffault=0) (hf:Klz (p0,t,(w:Int),y.fty)=some f) (hf0:f ≠ 0):Kw2 p0 ctx t out needs used w more y=some (.inr ⟨[],[],[],f,[]⟩):=by
 unfold Kw2
 rw [if_neg (by simp [h]),hf,bs,if_pos (bne_iff_ne.2 hf0)]
theorem Kwa (h:y.ffault=0) (hf:Klz (p0,t,(w:Int),y.fty)=some 0) (ha:Kw7 t out w y=some true):Kw2 p0 ctx t out needs used w more y=some (.inr ⟨[],[],[],3,[]⟩):=by
 unfold Kw2
 rw [if_neg (by simp [h]),hf,bs,if_neg (by simp)]
 refine (congrArg (· >>= _) (show _=some true from ha)).trans ?_
 rw [bs,if_pos rfl]
theorem Kwb {ns:List Nat} (h:y.ffault=0) (hf:Klz (p0,t,(w:Int),y.fty)=some 0) (ha:Kw7 t out w y=some false) (hn:y.fneeds=Ku5 ns) (hl:more.length ≤ ns.length)
  (h1:out.length ≤ 1000000) (h2:needs.length ≤ 1000000) (h3:used.length ≤ 1000000) (h4:w ≤ 1000000) :
  Kw2 p0 ctx t out needs used w more y=Kml (p0,ctx,t,(out ++ [y]),(needs ++ [Ku5 (ns.drop more.length)]),(used ++ [Ku5 (ns.take more.length)]),((w + 1:Nat):Int)):=by
 unfold Kw2
 rw [if_neg (by simp [h]),hf,bs,if_neg (by simp)]
 refine (congrArg (· >>= _) (show _=some false from ha)).trans ?_
 rw [bs,if_neg (by simp),Kps (by simp; omega),bs,hn,Kw5 (by rw [Ku6]; exact hl),bs,Kps (by simp; omega),bs,Kw6 (by rw [Ku6]; exact hl),bs,Kps (by simp; omega),bs,Kmo (by omega),Ku8,Ku7]
theorem Kwc {r:Klg} (hc:ctx.length ≤ 1000000) (h:Kml (p0,ctx,t,[],[],[],((0:Nat):Int))=some (.inr r)):Kmk (p0,ctx,t)=some r:=by
 rw [Kmk.eq_def]
 simp only
 rw [Ks4 (by simp; omega),bs,show (0:Int)=((0:Nat):Int) from rfl,h]
 rfl
theorem Kwd {o:List Klg} {nd us:List (List Int)} {f:Int} {g:Klg} (hc:ctx.length ≤ 1000000) (h:Kml (p0,ctx,t,[],[],[],((0:Nat):Int))=some (.inl (o,nd,us)))
  (hf:Kmj (p0,⟨[],Ku5 (List.replicate ctx.length 0),o,0,[]⟩,ctx,t,nd,us)=some (f,g)) (hg:g.fpath=[]:=by rfl):Kmk (p0,ctx,t)=some (if f=0 then ⟨g.fty,g.fneeds,g.fkids,0,g.fpath⟩ else ⟨[],[],[],f,[]⟩):=by
 have e:Ku5 (List.replicate ctx.length 0)=List.replicate (Int.toNat (ctx.length:Int)) (0:Int):=by
  unfold Ku5; rw [List.map_replicate,Int.toNat_natCast]; rfl
 rw [e] at hf
 rw [Kmk.eq_def]
 simp only
 rw [Ks4 (by simp; omega),bs,show Kml (p0,ctx,t,[],[],[],0)=some (.inl (o,nd,us)) from h,bs]
 simp only
 rw [hf,bs]
 simp only
 by_cases hz:f=0
 ·subst hz; first | (rw [if_neg (by simp),if_pos rfl]; done) | rw [if_neg (by simp),if_pos rfl,hg]
 ·rw [if_pos (bne_iff_ne.2 hz),if_neg hz]
theorem Kwe (h:t.fOp ≠ 10):Kw7 t out w y=some false:=by
 unfold Kw7
 rw [if_neg (by simpa using h)]
theorem Kwf (h:w ≠ 1):Kw7 t out w y=some false:=by
 unfold Kw7
 have:((w:Int) == 1)=false:=by rw [beq_eq_false_iff_ne]; omega
 rw [this]
 simp
end
section
variable {s:K00} {n:Nat} (hs:Kua s n) {N:Int} {ty:List Int} {ks:List K02} {w:Nat} {c:Int} {r:List Int}
theorem Kwg {op:Int} (h:(op=4∨op=6∨op=7∨op=9∨op=11)∨(w ≠ 0∧(op=3∨op=5∨op=8∨op=10∨op=12))):Klz (⟨s⟩,⟨op,N,ty,ks⟩,(w:Int),c :: r)=some 0:=by
 have hw:∀ hw:w ≠ 0,((w:Int) == 0)=false:=fun hw=>by rw [beq_eq_false_iff_ne]; omega
 unfold Klz
 rcases h with (rfl | rfl | rfl | rfl | rfl) | ⟨h0,(rfl | rfl | rfl | rfl | rfl)⟩
 all_goals first | simp [Krf,Ko2,hw h0] | (by_cases h0:w=0 <;> simp [Krf,Ko2,h0])
theorem Kwh:Klz (⟨s⟩,⟨2,N,ty,ks⟩,(w:Int),c :: r)=some (if (Ko1 c).1=0 then 0 else 2):=by
 unfold Klz
 by_cases h:(Ko1 c).1=0 <;> simp [Krf,Ko2,h]
theorem Kwi:Klz (⟨s⟩,⟨3,N,ty,ks⟩,((0:Nat):Int),c :: r)=some (if (Ko1 c).1=0 then 0 else 2):=by
 unfold Klz
 by_cases h:(Ko1 c).1=0 <;> simp [Krf,Ko2,h]
theorem Kwj:Klz (⟨s⟩,⟨10,N,ty,ks⟩,((0:Nat):Int),c :: r)=some (if (Ko1 c).1=3 then 0 else 6):=by
 unfold Klz
 by_cases h:(Ko1 c).1=3 <;> simp [Krf,Ko2,h]
include hs
theorem Kwk {g:Nat} (hg:g < n):Klz (⟨s⟩,⟨5,(g:Int),ty,ks⟩,((0:Nat):Int),c :: r)=some (if (Ko1 c).1=1 then (if le s n 1 g then 0 else 8) else 4):=by
 have hl:=iLe hs.tab (Kuc hs) hg
 unfold Klz
 by_cases h:(Ko1 c).1=1 <;> cases hle:le s n 1 g <;> simp [Krf,Ko2,h,show Kd2 (s,1,(g:Int))=some (le s n 1 g) from hl,hle]
theorem Kwl {g:Nat} (hg:g < n):Klz (⟨s⟩,⟨8,(g:Int),ty,ks⟩,((0:Nat):Int),c :: r)=some (if (Ko1 c).1=2 then (if le s n 1 g then 0 else 8) else 5):=by
 have hl:=iLe hs.tab (Kuc hs) hg
 unfold Klz
 by_cases h:(Ko1 c).1=2 <;> cases hle:le s n 1 g <;> simp [Krf,Ko2,h,show Kd2 (s,1,(g:Int))=some (le s n 1 g) from hl,hle]
theorem Kwm {g:Nat} (hg:g < n):Klz (⟨s⟩,⟨12,(g:Int),ty,ks⟩,((0:Nat):Int),c :: r)=some (if (Ko1 c).1=4 then (if le s n 1 g then 0 else 8) else 7):=by
 have hl:=iLe hs.tab (Kuc hs) hg
 unfold Klz
 by_cases h:(Ko1 c).1=4 <;> cases hle:le s n 1 g <;> simp [Krf,Ko2,h,show Kd2 (s,1,(g:Int))=some (le s n 1 g) from hl,hle]
end
def Kwn (ty:List Int) (ns:List Nat) (kids:List Klg):Int × Klg:=(if ty.length > 40 then 3 else 0,⟨ty,Ku5 ns,kids,0,[]⟩)
theorem Kwo {α:Type} (x:α) (l:List α):idx (x :: l) 0=some x:=rfl
theorem Kwp {α:Type} (x y:α) (l:List α):idx (x :: y :: l) 1=some y:=rfl
theorem Kwq {α:Type} (x y z:α) (l:List α):idx (x :: y :: z :: l) 2=some z:=rfl
section
variable {s:K00} {n:Nat} (hs:Kua s n) {N:Int} {ty:List Int} {ks:List K02} {ctx us:List (List Int)} {z:List Int} {y0 y1 y2:Klg} {a b d:List Nat}
theorem Kwr {i:Nat} {q:List Int} {zs:List Nat} (hi:ctx[i]?=some q) (hz:i < zs.length) (hq:q.length ≤ 40):Kmj (⟨s⟩,⟨[],Ku5 zs,[],0,[]⟩,ctx,⟨0,(i:Int),ty,ks⟩,[],[])=some (Kwn q (zs.set i 1) []):=by
 obtain ⟨h1,h2⟩:=List.getElem?_eq_some_iff.1 hi
 have e1:idx ctx (i:Int)=some q:=by rw [Kmn h1,h2]
 have e2:idx (Ku5 zs) (i:Int)=some ((zs[i]:Nat):Int):=by rw [Kmn (by rw [Ku6]; exact hz)]; simp [Ku5]
 have e3:List.set (Ku5 zs) i 1=Ku5 (zs.set i 1):=by unfold Ku5; rw [List.map_set]; rfl
 have h40:¬ ((q.length:Int) > 40):=by omega
 unfold Kmj Kmi Kwn
 simp [e1,e2,e3,Kpv q (by omega),show ¬ (40 < (q.length:Int)) by omega,show ¬ (40 < q.length) by omega]
theorem Kws {zs:List Nat}:Kmj (⟨s⟩,⟨[],Ku5 zs,[],0,[]⟩,ctx,⟨1,N,ty,ks⟩,[],[])=some (Kwn [0] zs []):=by
 unfold Kmj Kmi Kwn
 simp
theorem Kwt (hy:y0.fty.length ≤ 1000) (ht:ty.length ≤ 1000):Kmj (⟨s⟩,⟨[],z,[y0],0,[]⟩,ctx,⟨6,N,ty,ks⟩,[Ku5 a],us)=some (Kwn (2 :: (y0.fty ++ ty)) a [y0]):=by
 have hc:=Kve [[2],y0.fty,ty] (by simp) (by simp; omega)
 unfold Kmj Kmi Kwn Km3
 simp only [List.flatten_cons,List.flatten_nil,List.append_nil,List.singleton_append,List.cons_append,List.nil_append] at hc
 simp [Kwo,Kwp,hc]
 split <;> rename_i q40
 ·rw [if_pos (by omega)]
 ·rw [if_neg (by omega)]
theorem Kwu (hy:y0.fty.length ≤ 1000) (ht:ty.length ≤ 1000):Kmj (⟨s⟩,⟨[],z,[y0],0,[]⟩,ctx,⟨7,N,ty,ks⟩,[Ku5 a],us)=some (Kwn (2 :: (ty ++ y0.fty)) a [y0]):=by
 have hc:=Kve [[2],ty,y0.fty] (by simp) (by simp; omega)
 unfold Kmj Kmi Kwn Km3
 simp only [List.flatten_cons,List.flatten_nil,List.append_nil,List.singleton_append,List.cons_append,List.nil_append] at hc
 simp [Kwo,Kwp,hc]
 split <;> rename_i q40
 ·rw [if_pos (by omega)]
 ·rw [if_neg (by omega)]
include hs
theorem Kwv (ha:Kul n a) (hb:Kul n b) (hl:a.length ≤ 1000000) (hab:a.length=b.length):Kmj (⟨s⟩,⟨[],z,[y0,y1],0,[]⟩,ctx,⟨2,N,ty,ks⟩,[Ku5 a,Ku5 b],us)=some (Kwn [0] (Kui s n a b) [y0,y1]):=by
 have h:=Kv0 hs a b ha hb (by omega) hab
 unfold Kmj Kmi Kwn
 simp [Kwo,Kwp,h]
theorem Kww (ha:Kul n a) (hb:Kul n b) (hd:Kul n d) (hl:a.length ≤ 1000000) (hab:a.length=b.length) (had:a.length=d.length) (h2:y2.fty.length ≤ 1000) (h1:y1.fty.length ≤ 40) :
  Kmj (⟨s⟩,⟨[],z,[y0,y1,y2],0,[]⟩,ctx,⟨3,N,ty,ks⟩,[Ku5 a,Ku5 b,Ku5 d],us)=some (if y1.fty=y2.fty then Kwn y1.fty (Kui s n a (Kuk s n b d)) [y0,y1,y2] else (3,⟨[],z,[y0,y1,y2],0,[]⟩)):=by
 have hj:=Kv2 hs b d hb hd (by omega) (by omega)
 have hlj:(Kuk s n b d).length=a.length:=by unfold Kuk; rw [List.length_zipWith]; omega
 have h:=Kv0 hs a (Kuk s n b d) ha (Kuq hs hb hd) (by omega) hlj.symm
 have he:=Ksw y1.fty y2.fty (by omega)
 unfold Kmj Kmi Kwn Km3
 by_cases hq:y1.fty=y2.fty
 ·rw [show (y1.fty == y2.fty)=true from beq_iff_eq.2 hq] at he
  rw [if_pos hq]
  simp [Kwo,Kwp,Kwq,he,hj,h,show ¬ (40 < (y1.fty.length:Int)) by omega,show ¬ (40 < y1.fty.length) by omega]
 ·rw [show (y1.fty == y2.fty)=false from beq_eq_false_iff_ne.2 hq] at he
  rw [if_neg hq]
  simp [Kwo,Kwp,Kwq,he]
theorem Kwx (ha:Kul n a) (hb:Kul n b) (hl:a.length ≤ 1000000) (hab:a.length=b.length) (h0:y0.fty.length ≤ 1000) (h1:y1.fty.length ≤ 1000) :
  Kmj (⟨s⟩,⟨[],z,[y0,y1],0,[]⟩,ctx,⟨4,N,ty,ks⟩,[Ku5 a,Ku5 b],us)=some (Kwn (1 :: (y0.fty ++ y1.fty)) (Kui s n a b) [y0,y1]):=by
 have h:=Kv0 hs a b ha hb (by omega) hab
 have hc:=Kve [[1],y0.fty,y1.fty] (by simp) (by simp; omega)
 unfold Kmj Kmi Kwn Km3
 simp only [List.flatten_cons,List.flatten_nil,List.append_nil,List.singleton_append,List.cons_append,List.nil_append] at hc
 simp [Kwo,Kwp,hc,h]
 split <;> rename_i q40
 ·rw [if_pos (by omega)]
 ·rw [if_neg (by omega)]
theorem Kwy {g:Nat} (hg:g < n) {u:List Nat} (hu:Kul n u) (hul:u.length ≤ 1000000) (hy:y0.fty.length ≤ 1000) (ht:ty.length ≤ 1000) :
  Kmj (⟨s⟩,⟨[],z,[y0],0,[]⟩,ctx,⟨9,(g:Int),ty,ks⟩,[Ku5 a],[Ku5 u])=some (if (u.all fun x=>le s n x g)=true then Kwn ((3 + (g:Int)) :: (ty ++ y0.fty)) a [y0] else (9,⟨[],z,[y0],0,[]⟩)):=by
 have hn:=hs.tab.hi
 have e:=Kv6 hs g hg u hu (by omega)
 have hw:wr (3 + (g:Int))=3 + (g:Int):=Kmm (by omega) (by omega)
 have hc:=Kve [[3 + (g:Int)],ty,y0.fty] (by simp) (by simp; omega)
 unfold Kmj Kmi Kwn Km3
 simp only [List.flatten_cons,List.flatten_nil,List.append_nil,List.singleton_append,List.cons_append,List.nil_append] at hc
 cases hq:(u.all fun x=>le s n x g) with
 | true =>
  rw [hq] at e
  simp [Kwo,Kwp,e,hc,hw]
  split <;> rename_i q40
  ·rw [if_pos (by omega)]
  ·rw [if_neg (by omega)]
 | false =>
  rw [hq] at e
  simp [Kwo,Kwp,e]
theorem Kwz {g:Nat} (hg:g < n) (ha:Kul n a) (hl:a.length ≤ 1000000) (hy:y0.fty.length ≤ 1000) :
  Kmj (⟨s⟩,⟨[],z,[y0],0,[]⟩,ctx,⟨11,(g:Int),ty,ks⟩,[Ku5 a],us)=some (Kwn ((19 + (g:Int)) :: y0.fty) (Kuj s n g a) [y0]):=by
 have hn:=hs.tab.hi
 have e:=Kv4 hs g hg a ha (by omega)
 have hw:wr (19 + (g:Int))=19 + (g:Int):=Kmm (by omega) (by omega)
 have hc:=Kve [[19 + (g:Int)],y0.fty] (by simp) (by simp; omega)
 unfold Kmj Kmi Kwn Km3
 simp only [List.flatten_cons,List.flatten_nil,List.append_nil,List.singleton_append,List.cons_append,List.nil_append] at hc
 simp [Kwo,Kwp,hc,hw,e]
 split <;> rename_i q40
 ·rw [if_pos (by omega)]
 ·rw [if_neg (by omega)]
theorem Kx0 {g:Nat} (hg:g < n) {p q:List Int} (hty:y0.fty=(3 + (g:Int)) :: (p ++ q)) (hP:Kvm s (3 + (g:Int)) p q) (ha:Kul n a) (hb:Kul n b) (hl:a.length ≤ 1000000) (hab:a.length=b.length) :
  Kmj (⟨s⟩,⟨[],z,[y0,y1],0,[]⟩,ctx,⟨10,N,ty,ks⟩,[Ku5 a,Ku5 b],us)=some (Kwn q (Kui s n a (Kuj s n g b)) [y0,y1]):=by
 have hn:=hs.tab.hi
 have e:=Kv4 hs g hg b hb (by omega)
 have hlj:(Kuj s n g b).length=a.length:=by unfold Kuj; rw [List.length_map]; omega
 have h:=Kv0 hs a (Kuj s n g b) ha (Kup hs hg hb) (by omega) hlj.symm
 have hsh:Ko1 (3 + (g:Int))=(3,(g:Int)):=by
  rcases Ko3 (3 + (g:Int)) with h | h | h | h | h | h | h | h <;> first | omega | (obtain ⟨_,e⟩:=h; rw [e]; congr 1; omega)
 have hq:=Kvj hP.yb
 have pp:=hP.pp
 rw [← hty] at pp
 have i0:idx y0.fty 0=some (3 + (g:Int)):=by rw [hty]; rfl
 unfold Kmj Kmi Kwn Km3
 simp [Kwo,Kwp,i0,Ko2,hsh,pp,e,h,show ¬ (40 < (q.length:Int)) by omega,show ¬ (40 < q.length) by omega]
theorem Kx1 {g:Nat} (hg:g < n) {u:List Nat} {us':List Int} (hu:Kul n u) (hul:u.length ≤ 1000000) (ha:Kul n a) (hb:Kul n b) (hl:a.length ≤ 1000000) (hab:a.length=b.length) (h1:y1.fty.length ≤ 40) :
  Kmj (⟨s⟩,⟨[],z,[y0,y1],0,[]⟩,ctx,⟨5,(g:Int),ty,ks⟩,[Ku5 a,Ku5 b],[us',Ku5 u])=some (if (u.all fun x=>le s n x g)=true then Kwn y1.fty (Kui s n (Kuj s n g a) b) [y0,y1] else (9,⟨[],z,[y0,y1],0,[]⟩)):=by
 have e:=Kv6 hs g hg u hu (by omega)
 have e2:=Kv4 hs g hg a ha (by omega)
 have hlj:(Kuj s n g a).length=a.length:=by unfold Kuj; rw [List.length_map]
 have h:=Kv0 hs (Kuj s n g a) b (Kup hs hg ha) hb (by omega) (by omega)
 unfold Kmj Kmi Kwn Km3
 cases hq:(u.all fun x=>le s n x g) with
 | true =>
  rw [hq] at e
  simp [Kwo,Kwp,e,e2,h,show ¬ (40 < (y1.fty.length:Int)) by omega,show ¬ (40 < y1.fty.length) by omega]
 | false =>
  rw [hq] at e
  simp [Kwo,Kwp,e]
theorem Kx2 {g m:Nat} (hg:g < n) (hm:m < n) {p:List Int} (hty:y0.fty=(19 + (m:Int)) :: p) {u:List Nat} {us':List Int} (hu:Kul n u) (hul:u.length ≤ 1000000) (ha:Kul n a) (hb:Kul n b) (hl:a.length ≤ 1000000) (hab:a.length=b.length) (h1:y1.fty.length ≤ 40) :
  Kmj (⟨s⟩,⟨[],z,[y0,y1],0,[]⟩,ctx,⟨12,(g:Int),ty,ks⟩,[Ku5 a,Ku5 b],[us',Ku5 u])=some (if (u.all fun x=>le s n x (ti s n g m))=true then Kwn y1.fty (Kui s n (Kuj s n g a) b) [y0,y1] else (9,⟨[],z,[y0,y1],0,[]⟩)):=by
 have hn:=hs.tab.hi
 have e0:=Kn2 hs.tab hg hm
 have e:=Kv6 hs (ti s n g m) (Kmv hs.tab hg hm) u hu (by omega)
 have e2:=Kv4 hs g hg a ha (by omega)
 have hlj:(Kuj s n g a).length=a.length:=by unfold Kuj; rw [List.length_map]
 have h:=Kv0 hs (Kuj s n g a) b (Kup hs hg ha) hb (by omega) (by omega)
 have hsh:Ko1 (19 + (m:Int))=(4,(m:Int)):=by
  rcases Ko3 (19 + (m:Int)) with h | h | h | h | h | h | h | h <;> first | omega | (obtain ⟨_,e⟩:=h; rw [e]; congr 1; omega)
 have i0:idx y0.fty 0=some (19 + (m:Int)):=by rw [hty]; rfl
 unfold Kmj Kmi Kwn Km3
 cases hq:(u.all fun x=>le s n x (ti s n g m)) with
 | true =>
  rw [hq] at e
  simp [Kwo,Kwp,i0,Ko2,hsh,e0,e,e2,h,show ¬ (40 < (y1.fty.length:Int)) by omega,show ¬ (40 < y1.fty.length) by omega]
 | false =>
  rw [hq] at e
  simp [Kwo,Kwp,i0,Ko2,hsh,e0,e]
theorem Kx3 {g:Nat} (hg:g < n) {u v:List Nat} {us':List Int} (hu:Kul n u) (hul:u.length ≤ 1000000) (hv:Kul n v) (hvl:v.length ≤ 1000000) (ha:Kul n a) (hb:Kul n b) (hd:Kul n d) (hl:a.length ≤ 1000000) (hab:a.length=b.length) (had:a.length=d.length) (h2:y2.fty.length ≤ 1000) (h1:y1.fty.length ≤ 40) :
  Kmj (⟨s⟩,⟨[],z,[y0,y1,y2],0,[]⟩,ctx,⟨8,(g:Int),ty,ks⟩,[Ku5 a,Ku5 b,Ku5 d],[us',Ku5 u,Ku5 v]) =
   some (if y1.fty=y2.fty then (if (u.all fun x=>le s n x g)=true∧(v.all fun x=>le s n x g)=true then Kwn y1.fty (Kui s n (Kuj s n g a) (Kuk s n b d)) [y0,y1,y2] else (9,⟨[],z,[y0,y1,y2],0,[]⟩)) else (3,⟨[],z,[y0,y1,y2],0,[]⟩)):=by
 have e:=Kv6 hs g hg u hu (by omega)
 have e':=Kv6 hs g hg v hv (by omega)
 have e2:=Kv4 hs g hg a ha (by omega)
 have hj:=Kv2 hs b d hb hd (by omega) (by omega)
 have hlj:(Kuk s n b d).length=a.length:=by unfold Kuk; rw [List.length_zipWith]; omega
 have hls:(Kuj s n g a).length=a.length:=by unfold Kuj; rw [List.length_map]
 have h:=Kv0 hs (Kuj s n g a) (Kuk s n b d) (Kup hs hg ha) (Kuq hs hb hd) (by omega) (by omega)
 have he:=Ksw y1.fty y2.fty (by omega)
 unfold Kmj Kmi Kwn Km3
 by_cases hq:y1.fty=y2.fty
 ·rw [show (y1.fty == y2.fty)=true from beq_iff_eq.2 hq] at he
  rw [if_pos hq]
  cases hu':(u.all fun x=>le s n x g) with
  | false =>
   rw [hu'] at e
   simp [Kwo,Kwp,Kwq,he,e]
  | true =>
   rw [hu'] at e
   cases hv':(v.all fun x=>le s n x g) with
   | false =>
    rw [hv'] at e'
    simp [Kwo,Kwp,Kwq,he,e,e']
   | true =>
    rw [hv'] at e'
    simp [Kwo,Kwp,Kwq,he,e,e',e2,hj,h,show ¬ (40 < (y1.fty.length:Int)) by omega,show ¬ (40 < y1.fty.length) by omega]
 ·rw [show (y1.fty == y2.fty)=false from beq_eq_false_iff_ne.2 hq] at he
  rw [if_neg hq]
  simp [Kwo,Kwp,Kwq,he]
end
def Kx4 (t:K02) (i:Nat) (kids:List Klg):List (List Int):=(Klu (t,(i:Int),(match kids with | []=>[] | y :: _=>y.fty))).getD []
structure Kx5 (s:K00) (ctx:List (List Int)) (t:K02) (kids:List Klg) (i:Nat) (k:K02) (y:Klg):Prop where
 im:Kmk (⟨s⟩,Kx4 t i kids ++ ctx,k)=some y
 fa:y.ffault=0
 ty:∀ q ∈ Kx4 t i kids,TyS s q
 ln:(Kx4 t i kids).length=Kp6 t.fOp i
structure Kx6 (s:K00) (n:Nat) (ctx:List (List Int)) (t:K02) (x:Klf) (y:Klg):Prop where
 sp:Klq (s,ctx,t)=some x
 im:Kmk (⟨s⟩,ctx,t)=some y
 ty:y.fty=x.fty
 ne:y.fneeds=x.fneeds
 fa:y.ffault=x.ffault
 pa:y.fpath=x.fpath
 pl:x.fpath.length + 1 ≤ tsz t
 bd:x.ffault ≠ 0→x.fty=[]∧x.fneeds=[]
 gd:x.ffault=0→TyS s x.fty∧x.fpath=[]∧∃ ns:List Nat,x.fneeds=Ku5 ns∧ns.length=ctx.length∧Kul n ns
 kd:x.ffault=0→y.fkids.length=t.fKids.length∧∀ (i:Nat) (k:K02),t.fKids[i]?=some k→∃ yk,y.fkids[i]?=some yk∧Kx5 s ctx t y.fkids i k yk
section
variable {s:K00} {n:Nat} {ctx:List (List Int)} {t:K02}
theorem Kx6.bad {f:Int} {p:List Int} (sp:Klq (s,ctx,t)=some ⟨[],[],f,p⟩) (im:Kmk (⟨s⟩,ctx,t)=some ⟨[],[],[],f,p⟩) (hf:f ≠ 0) (hp:p.length + 1 ≤ tsz t):∃ x y,Kx6 s n ctx t x y :=
 ⟨_,_,{ sp:=sp,im:=im,ty:=rfl,ne:=rfl,fa:=rfl,pa:=rfl,pl:=hp,bd:=fun _=>⟨rfl,rfl⟩,gd:=fun h=>absurd h hf,kd:=fun h=>absurd h hf }⟩
theorem Kx6.good {q:List Int} {ns:List Nat} {kids:List Klg} (sp:Klq (s,ctx,t)=some ⟨q,Ku5 ns,0,[]⟩) (im:Kmk (⟨s⟩,ctx,t)=some ⟨q,Ku5 ns,kids,0,[]⟩) (hp:1 ≤ tsz t) (hq:TyS s q) (hl:ns.length=ctx.length) (hb:Kul n ns)
  (kl:kids.length=t.fKids.length) (kd:∀ (i:Nat) (k:K02),t.fKids[i]?=some k→∃ yk,kids[i]?=some yk∧Kx5 s ctx t kids i k yk):∃ x y,Kx6 s n ctx t x y :=
 ⟨_,_,{ sp:=sp,im:=im,ty:=rfl,ne:=rfl,fa:=rfl,pa:=rfl,pl:=by simpa using hp,bd:=fun h=>absurd rfl h,gd:=fun _=>⟨hq,rfl,ns,rfl,hl,hb⟩,kd:=fun _=>⟨kl,kd⟩ }⟩
theorem Kx6.done {q:List Int} {ns:List Nat} {kids:List Klg} (sp:Klq (s,ctx,t)=Kln (q,Ku5 ns)) (im:Kmk (⟨s⟩,ctx,t)=some (if (Kwn q ns kids).1=0 then ⟨(Kwn q ns kids).2.fty,(Kwn q ns kids).2.fneeds,(Kwn q ns kids).2.fkids,0,(Kwn q ns kids).2.fpath⟩ else ⟨[],[],[],(Kwn q ns kids).1,[]⟩)) (hp:1 ≤ tsz t)
  (hq:q.length ≤ 40→TyS s q) (hl:ns.length=ctx.length) (hb:Kul n ns) (kl:kids.length=t.fKids.length) (kd:∀ (i:Nat) (k:K02),t.fKids[i]?=some k→∃ yk,kids[i]?=some yk∧Kx5 s ctx t kids i k yk):∃ x y,Kx6 s n ctx t x y:=by
 unfold Kln Klk at sp
 simp only at sp
 unfold Kwn at im
 by_cases h:q.length > 40
 ·rw [decide_eq_true (by omega),if_pos rfl,bs] at sp
  rw [if_pos h,if_neg (by simp)] at im
  exact Kx6.bad sp im (by decide) (by simpa using hp)
 ·rw [decide_eq_false (by omega),if_neg (by decide)] at sp
  rw [if_neg h,if_pos rfl] at im
  exact Kx6.good sp im hp (hq (by omega)) hl hb kl kd
theorem Kx7 {i:Nat} {k:K02} {x:Klf} {y:Klg} {c:List (List Int)} (hk:t.fKids[i]?=some k) (h:Kx6 s n c k x y) (hf:x.ffault=0):Kls (s,c,t,(i:Int))=some x:=by
 obtain ⟨h1,h2⟩:=List.getElem?_eq_some_iff.1 hk
 rw [Kls.eq_def]
 simp only
 rw [Kmn h1,h2,bs,h.sp,bs,if_neg (by simp [hf]),bs]
theorem Kx8 {i:Nat} {k:K02} {x:Klf} {y:Klg} {c:List (List Int)} (hk:t.fKids[i]?=some k) (h:Kx6 s n c k x y) (hz:tsz k ≤ 1000000) (hf:x.ffault ≠ 0):Kls (s,c,t,(i:Int))=some ⟨[],[],x.ffault,(i:Int) :: x.fpath⟩:=by
 obtain ⟨h1,h2⟩:=List.getElem?_eq_some_iff.1 hk
 have hp:=h.pl
 obtain ⟨q1,q2⟩:=h.bd hf
 rw [Kls.eq_def]
 simp only
 rw [Kmn h1,h2,bs,h.sp,bs,if_pos (bne_iff_ne.2 hf),Kps (by simp; omega),bs,bs,q1,q2]
 rfl
variable {out:List Klg} {nd us:List (List Int)} {w:Nat} {k:K02} {m:List (List Int)} {x:Klf} {y:Klg}
theorem Kx9 (hk:t.fKids[w]?=some k) (hm:Kw1 t out w=some m) (r:Kx6 s n (m ++ ctx) k x y) (hz:tsz k ≤ 1000000) (hc:ctx.length + m.length ≤ 1000000) (hf:x.ffault ≠ 0) :
  Kml (⟨s⟩,ctx,t,out,nd,us,(w:Int))=some (.inr ⟨[],[],[],x.ffault,(w:Int) :: x.fpath⟩):=by
 obtain ⟨h1,h2⟩:=List.getElem?_eq_some_iff.1 hk
 have hp:=r.pl
 rw [Kw3 h1 (by rw [Kmn h1,h2]) hm hc r.im,Kw8 (by rw [r.fa]; exact hf) (by rw [r.pa]; omega),r.fa,r.pa]
theorem Kxa {f:Int} (hk:t.fKids[w]?=some k) (hm:Kw1 t out w=some m) (r:Kx6 s n (m ++ ctx) k x y) (hc:ctx.length + m.length ≤ 1000000) (hf:x.ffault=0) (h:Klz (⟨s⟩,t,(w:Int),x.fty)=some f) (hf0:f ≠ 0) :
  Kml (⟨s⟩,ctx,t,out,nd,us,(w:Int))=some (.inr ⟨[],[],[],f,[]⟩):=by
 obtain ⟨h1,h2⟩:=List.getElem?_eq_some_iff.1 hk
 rw [Kw3 h1 (by rw [Kmn h1,h2]) hm hc r.im,Kw9 (by rw [r.fa]; exact hf) (by rw [r.ty]; exact h) hf0]
theorem Kxb (hk:t.fKids[w]?=some k) (hm:Kw1 t out w=some m) (r:Kx6 s n (m ++ ctx) k x y) (hc:ctx.length + m.length ≤ 1000000) (hf:x.ffault=0) (h:Klz (⟨s⟩,t,(w:Int),x.fty)=some 0) (ha:Kw7 t out w y=some true) :
  Kml (⟨s⟩,ctx,t,out,nd,us,(w:Int))=some (.inr ⟨[],[],[],3,[]⟩):=by
 obtain ⟨h1,h2⟩:=List.getElem?_eq_some_iff.1 hk
 rw [Kw3 h1 (by rw [Kmn h1,h2]) hm hc r.im,Kwa (by rw [r.fa]; exact hf) (by rw [r.ty]; exact h) ha]
theorem Kxc {ns:List Nat} (hk:t.fKids[w]?=some k) (hm:Kw1 t out w=some m) (r:Kx6 s n (m ++ ctx) k x y) (hc:ctx.length + m.length ≤ 1000000) (hf:x.ffault=0) (h:Klz (⟨s⟩,t,(w:Int),x.fty)=some 0) (ha:Kw7 t out w y=some false)
  (hn:x.fneeds=Ku5 ns) (hl:m.length ≤ ns.length) (h1':out.length ≤ 1000000) (h2':nd.length ≤ 1000000) (h3':us.length ≤ 1000000) (h4':w ≤ 1000000) :
  Kml (⟨s⟩,ctx,t,out,nd,us,(w:Int))=Kml (⟨s⟩,ctx,t,(out ++ [y]),(nd ++ [Ku5 (ns.drop m.length)]),(us ++ [Ku5 (ns.take m.length)]),((w + 1:Nat):Int)):=by
 obtain ⟨h1,h2⟩:=List.getElem?_eq_some_iff.1 hk
 rw [Kw3 h1 (by rw [Kmn h1,h2]) hm hc r.im,Kwb (by rw [r.fa]; exact hf) (by rw [r.ty]; exact h) ha (by rw [r.ne]; exact hn) hl h1' h2' h3' h4']
end
theorem Kxd {op N:Int} {ty:List Int} {ks:List K02} {i:Nat} {q:List Int} (h9:op ≠ 9) (h:Kp6 op (i:Int)=0):Klu (⟨op,N,ty,ks⟩,(i:Int),q)=some []:=by
 unfold Klu
 simp only
 rw [if_neg (by simpa using h9),Kp9,bs,h]
 rfl
theorem Kxe {N:Int} {ty:List Int} {ks:List K02} {i:Nat} {q:List Int}:Klu (⟨9,N,ty,ks⟩,(i:Int),q)=some [ty]:=by
 unfold Klu
 simp only
 rw [if_pos (by decide)]
theorem Kxf {s:K00} {N:Int} {ty:List Int} {ks:List K02} {p q:List Int} (h:Kvm s 1 p q):Klu (⟨5,N,ty,ks⟩,((1:Nat):Int),1 :: (p ++ q))=some [q,p]:=by
 unfold Klu
 simp only
 rw [if_neg (by decide),Kp9,bs,show Kp6 5 ((1:Nat):Int)=2 from rfl,if_neg (by decide),h.pp,bs,if_pos (by decide)]
 rfl
theorem Kxg {s:K00} {N:Int} {ty:List Int} {ks:List K02} {p q:List Int} (h:Kvm s 2 p q):Klu (⟨8,N,ty,ks⟩,((1:Nat):Int),2 :: (p ++ q))=some [p]:=by
 unfold Klu
 simp only
 rw [if_neg (by decide),Kp9,bs,show Kp6 8 ((1:Nat):Int)=1 from rfl,if_neg (by decide),h.pp,bs,if_neg (by decide),if_pos (by decide)]
 rfl
theorem Kxh {s:K00} {N:Int} {ty:List Int} {ks:List K02} {p q:List Int} (h:Kvm s 2 p q):Klu (⟨8,N,ty,ks⟩,((2:Nat):Int),2 :: (p ++ q))=some [q]:=by
 unfold Klu
 simp only
 rw [if_neg (by decide),Kp9,bs,show Kp6 8 ((2:Nat):Int)=1 from rfl,if_neg (by decide),h.pp,bs,if_neg (by decide),if_pos (by decide)]
 rfl
theorem Kxi {s:K00} {N c:Int} {ty:List Int} {ks:List K02} {p:List Int} (h:Kvn s c p):Klu (⟨12,N,ty,ks⟩,((1:Nat):Int),c :: p)=some [p]:=by
 unfold Klu
 simp only
 rw [if_neg (by decide),Kp9,bs,show Kp6 12 ((1:Nat):Int)=1 from rfl,if_neg (by decide),h.pp,bs,if_neg (by decide),if_neg (by decide)]
theorem Kxj {op N:Int} {ty:List Int} {ks:List K02} (h9:op ≠ 9):Kw1 ⟨op,N,ty,ks⟩ [] 0=some []:=by
 unfold Kw1
 simp [h9]
theorem Kxk {N:Int} {ty:List Int} {ks:List K02}:Kw1 ⟨9,N,ty,ks⟩ [] 0=some [ty]:=by
 unfold Kw1
 have:=@Kxe N ty ks 0 []
 simp at this ⊢
 rw [this]
theorem Kxl {t:K02} {w:Nat} {y0:Klg} {l:List Klg} {m:List (List Int)} (hw:0 < w) (h:Klu (t,(w:Int),y0.fty)=some m):Kw1 t (y0 :: l) w=some m:=by
 unfold Kw1
 rw [show decide ((w:Int) > 0)=true from decide_eq_true (by omega),if_pos rfl,bs,if_pos rfl,if_pos rfl,Kwo,bs,bs,h,bs]
theorem Kxm {t:K02} {i:Nat} {y0:Klg} {l:List Klg} {m:List (List Int)} (h:Klu (t,(i:Int),y0.fty)=some m):Kx4 t i (y0 :: l)=m:=by
 unfold Kx4
 simp only
 rw [h]; rfl
theorem kd1 {s:K00} {ctx:List (List Int)} {op N:Int} {ty:List Int} {k0:K02} {y0:Klg} (h0:Kx5 s ctx ⟨op,N,ty,[k0]⟩ [y0] 0 k0 y0) :
  ∀ (i:Nat) (k:K02),(⟨op,N,ty,[k0]⟩:K02).fKids[i]?=some k→∃ yk,[y0][i]?=some yk∧Kx5 s ctx ⟨op,N,ty,[k0]⟩ [y0] i k yk:=by
 intro i k hk
 match i,hk with
 | 0,hk=>cases hk; exact ⟨y0,rfl,h0⟩
 | i + 1,hk=>simp at hk
theorem kd2 {s:K00} {ctx:List (List Int)} {op N:Int} {ty:List Int} {k0 k1:K02} {y0 y1:Klg} (h0:Kx5 s ctx ⟨op,N,ty,[k0,k1]⟩ [y0,y1] 0 k0 y0) (h1:Kx5 s ctx ⟨op,N,ty,[k0,k1]⟩ [y0,y1] 1 k1 y1) :
  ∀ (i:Nat) (k:K02),(⟨op,N,ty,[k0,k1]⟩:K02).fKids[i]?=some k→∃ yk,[y0,y1][i]?=some yk∧Kx5 s ctx ⟨op,N,ty,[k0,k1]⟩ [y0,y1] i k yk:=by
 intro i k hk
 match i,hk with
 | 0,hk=>cases hk; exact ⟨y0,rfl,h0⟩
 | 1,hk=>cases hk; exact ⟨y1,rfl,h1⟩
 | i + 2,hk=>simp at hk
theorem kd3 {s:K00} {ctx:List (List Int)} {op N:Int} {ty:List Int} {k0 k1 k2:K02} {y0 y1 y2:Klg} (h0:Kx5 s ctx ⟨op,N,ty,[k0,k1,k2]⟩ [y0,y1,y2] 0 k0 y0) (h1:Kx5 s ctx ⟨op,N,ty,[k0,k1,k2]⟩ [y0,y1,y2] 1 k1 y1) (h2:Kx5 s ctx ⟨op,N,ty,[k0,k1,k2]⟩ [y0,y1,y2] 2 k2 y2) :
  ∀ (i:Nat) (k:K02),(⟨op,N,ty,[k0,k1,k2]⟩:K02).fKids[i]?=some k→∃ yk,[y0,y1,y2][i]?=some yk∧Kx5 s ctx ⟨op,N,ty,[k0,k1,k2]⟩ [y0,y1,y2] i k yk:=by
 intro i k hk
 match i,hk with
 | 0,hk=>cases hk; exact ⟨y0,rfl,h0⟩
 | 1,hk=>cases hk; exact ⟨y1,rfl,h1⟩
 | 2,hk=>cases hk; exact ⟨y2,rfl,h2⟩
 | i + 3,hk=>simp at hk
theorem Kx5.mk' {s:K00} {n:Nat} {ctx m:List (List Int)} {t k:K02} {y0:Klg} {l:List Klg} {i:Nat} {x:Klf} {y:Klg} (ha:Klu (t,(i:Int),y0.fty)=some m) (r:Kx6 s n (m ++ ctx) k x y) (hf:x.ffault=0) (hm:∀ q ∈ m,TyS s q) (hl:m.length=Kp6 t.fOp i):Kx5 s ctx t (y0 :: l) i k y:=by
 have e:=Kxm (l:=l) ha
 exact ⟨by rw [e]; exact r.im,by rw [r.fa]; exact hf,by rw [e]; exact hm,by rw [e]; exact hl⟩
def Kxn (s:K00) (n sz:Nat):Prop:=∀ (k:K02) (c:List (List Int)),Kvw s c.length k sz→(∀ q ∈ c,TyS s q)→c.length + 2 * tsz k ≤ 1000000→∃ x y,Kx6 s n c k x y
theorem Kxo {X:Option Klg} {q:List Int} {ns:List Nat} {kids:List Klg} (h:q.length ≤ 40) (im:X=some (if (Kwn q ns kids).1=0 then (⟨(Kwn q ns kids).2.fty,(Kwn q ns kids).2.fneeds,(Kwn q ns kids).2.fkids,0,(Kwn q ns kids).2.fpath⟩:Klg) else ⟨[],[],[],(Kwn q ns kids).1,[]⟩)):X=some ⟨q,Ku5 ns,kids,0,[]⟩:=by
 rw [im]
 unfold Kwn
 simp only
 rw [show (if q.length > 40 then (3:Int) else 0)=0 from if_neg (by omega),if_pos rfl]
section
variable {s:K00} {n:Nat} (hs:Kua s n) {ctx:List (List Int)} {N:Int} {ty:List Int} {ks:List K02}
theorem Kxp {op:Int} {k0:K02} {l:List K02} {x0:Klf} {y0:Klg} (h0:op ≠ 0) (h1:op ≠ 1) (h9:op ≠ 9) (hb:ctx.length + 2 * tsz (⟨op,N,ty,k0 :: l⟩:K02) ≤ 1000000) (r0:Kx6 s n ctx k0 x0 y0) (f0:x0.ffault ≠ 0) :
  ∃ x y,Kx6 s n ctx ⟨op,N,ty,k0 :: l⟩ x y:=by
 have hz:tsz k0 + 1 ≤ tsz (⟨op,N,ty,k0 :: l⟩:K02):=by rw [tsz,Kon]; omega
 have e0:Kls (s,ctx,⟨op,N,ty,k0 :: l⟩,0)=some ⟨[],[],x0.ffault,0 :: x0.fpath⟩:=Kx8 (i:=0) rfl r0 (by omega) f0
 refine Kx6.bad (f:=x0.ffault) (p:=0 :: x0.fpath) ?_ (Kwc (by omega) (Kx9 (m:=[]) rfl (Kxj h9) r0 (by omega) (by simp; omega) f0)) f0 (by have:=r0.pl; simp; omega)
 rw [Klq.eq_def]
 simp [h0,h1,h9,e0,f0]
include hs
theorem Kxq {t:K02} (ht:t.fOp=0) (h:tOk (gN s.fSize true) (yN s.fSize true) ctx.length t=true) (hc:∀ q ∈ ctx,TyS s q) (hb:ctx.length + 2 * tsz t ≤ 1000000):∃ x y,Kx6 s n ctx t x y:=by
 obtain ⟨i,hi,hl,hk⟩:=Kvz h ht
 obtain ⟨op,N,ty,ks⟩:=t
 simp only at ht hi hk
 subst ht; subst hi; subst hk
 have hq:ctx[i]?=some ctx[i]:=List.getElem?_eq_getElem hl
 have hy:=hc ctx[i] (List.getElem_mem hl)
 have e1:idx ctx (i:Int)=some ctx[i]:=Kmn hl
 have hz:=Kv7 ctx.length (by omega)
 have e2:idx (Ku5 (List.replicate ctx.length 0)) (i:Int)=some (((List.replicate ctx.length (0:Nat))[i]'(by simpa using hl):Nat):Int):=by
  rw [Kmn (by rw [Ku6]; simpa using hl)]; simp [Ku5]
 have e3:List.set (Ku5 (List.replicate ctx.length 0)) i 1=Ku5 ((List.replicate ctx.length 0).set i 1):=by unfold Ku5; rw [List.map_set]; rfl
 have hf:=Kwr (s:=s) (ty:=ty) (ks:=[]) (zs:=List.replicate ctx.length 0) hq (by simpa using hl) (Kvj hy)
 have im:=Kwd (p0:=⟨s⟩) (t:=⟨0,(i:Int),ty,[]⟩) (by omega) (Kw4 (Nat.le_refl _)) hf
 refine Kx6.good (q:=ctx[i]) (ns:=(List.replicate ctx.length 0).set i 1) (kids:=[]) ?_ ?_ (by rw [tsz]; omega) hy (by simp) ?_ rfl (fun i k hk=>by simp at hk)
 ·rw [Klq.eq_def]
  simp [hz,e1,e2,Kpu ctx[i] (by have:=Kvj hy; omega),e3]
 ·exact Kxo (Kvj hy) im
 ·intro x hx
  have h1:=Kuc hs
  rcases List.mem_or_eq_of_mem_set hx with h | rfl
  ·rw [List.eq_of_mem_replicate h]; omega
  ·exact h1
theorem Kxr {t:K02} (ht:t.fOp=1) (h:tOk (gN s.fSize true) (yN s.fSize true) ctx.length t=true) (hb:ctx.length + 2 * tsz t ≤ 1000000):∃ x y,Kx6 s n ctx t x y:=by
 have hk:=Kw0 h ht
 obtain ⟨op,N,ty,ks⟩:=t
 simp only at ht hk
 subst ht; subst hk
 have hz:=Kv7 ctx.length (by omega)
 have hf:=Kws (s:=s) (N:=N) (ty:=ty) (ks:=[]) (ctx:=ctx) (zs:=List.replicate ctx.length 0)
 have im:=Kwd (p0:=⟨s⟩) (t:=⟨1,N,ty,[]⟩) (by omega) (Kw4 (Nat.le_refl _)) hf
 refine Kx6.good (q:=[0]) (ns:=List.replicate ctx.length 0) (kids:=[]) ?_ ?_ (by rw [tsz]; omega) Kvp (by simp) ?_ rfl (fun i k hk=>by simp at hk)
 ·rw [Klq.eq_def]
  simp [hz]
 ·exact Kxo (by decide) im
 ·intro x hx
  rw [List.eq_of_mem_replicate hx]
  exact Kud hs
theorem Kxs {q:List Int} (hq:TyS s q):∃ c r,q=c :: r∧((Ko1 c).1=0 ↔ c=0)∧(c=0→q=[0]):=by
 rcases Kvs hs hq with rfl | ⟨a,b,rfl,_⟩ | ⟨a,b,rfl,_⟩ | ⟨g,a,b,hg,h15,rfl,_⟩ | ⟨g,a,hg,h15,rfl,_⟩
 ·exact ⟨0,[],rfl,by decide,fun _=>rfl⟩
 ·exact ⟨1,_,rfl,by decide,fun h=>absurd h (by decide)⟩
 ·exact ⟨2,_,rfl,by decide,fun h=>absurd h (by decide)⟩
 ·refine ⟨_,_,rfl,?_,fun h=>by omega⟩
  rcases Ko3 (3 + (g:Int)) with h | h | h | h | h | h | h | h <;> first | omega | (obtain ⟨_,e⟩:=h; rw [e]; simp; omega)
 ·refine ⟨_,_,rfl,?_,fun h=>by omega⟩
  rcases Ko3 (19 + (g:Int)) with h | h | h | h | h | h | h | h <;> first | omega | (obtain ⟨_,e⟩:=h; rw [e]; simp; omega)
theorem Kxt (ih:Kxn s n (tsz (⟨6,N,ty,ks⟩:K02))) (h:tOk (gN s.fSize true) (yN s.fSize true) ctx.length ⟨6,N,ty,ks⟩=true) (hc:∀ q ∈ ctx,TyS s q) (hb:ctx.length + 2 * tsz (⟨6,N,ty,ks⟩:K02) ≤ 1000000):∃ x y,Kx6 s n ctx ⟨6,N,ty,ks⟩ x y:=by
 obtain ⟨k0,rfl,p0⟩:=nd1 h (Nat.le_refl _) rfl
 have hz:=Ktj 6 N ty k0
 have hy:TyS s ty:=Kvy h rfl
 have ly:=Kvj hy
 obtain ⟨x0,y0,r0⟩:=ih k0 ctx p0 hc (by omega)
 by_cases f0:x0.ffault=0
 rotate_left
 ·exact Kxp (by decide) (by decide) (by decide) hb r0 f0
 obtain ⟨g0,q0,a,na,la,ba⟩:=r0.gd f0
 obtain ⟨c0,t0,ht0,hn0,hz0⟩:=Kxs hs g0
 have L0:=Kvj g0
 have e0:Kls (s,ctx,⟨6,N,ty,[k0]⟩,0)=some x0:=Kx7 (i:=0) rfl r0 f0
 have o0:=Kxc (out:=[]) (nd:=[]) (us:=[]) (w:=0) (t:=⟨6,N,ty,[k0]⟩) (m:=[]) rfl (Kxj (by decide)) r0 (by simp; omega) f0 (by rw [ht0]; exact Kwg (.inl (by decide))) (Kwe (show (6:Int) ≠ 10 by decide)) na (by simp <;> omega) (by simp) (by simp) (by simp) (by simp)
 have hf:=Kwt (s:=s) (N:=N) (ty:=ty) (ks:=[k0]) (ctx:=ctx) (us:=[Ku5 []]) (z:=Ku5 (List.replicate ctx.length 0)) (y0:=y0) (a:=a) (by rw [r0.ty]; omega) (by omega)
 have im:=Kwd (p0:=⟨s⟩) (t:=⟨6,N,ty,[k0]⟩) (ctx:=ctx) (by omega) (o0.trans (Kw4 (Nat.le_refl _))) hf
 rw [r0.ty] at im
 refine Kx6.done (q:=2 :: (x0.fty ++ ty)) (ns:=a) (kids:=[y0]) ?_ im (by omega) (fun hl=>Kvt hs g0 hy (.inr (.inl rfl)) hl) la ba rfl (kd1 (Kx5.mk' (Kxd (by decide) rfl) r0 f0 (fun _ h=>by cases h) rfl))
 have hg:=Kva 2 [x0.fty,ty] (by simp) (by simp; omega)
 simp only [List.flatten_cons,List.flatten_nil,List.append_nil] at hg
 rw [Klq.eq_def]
 simp [e0,f0,hg,na]
theorem Kxu (ih:Kxn s n (tsz (⟨7,N,ty,ks⟩:K02))) (h:tOk (gN s.fSize true) (yN s.fSize true) ctx.length ⟨7,N,ty,ks⟩=true) (hc:∀ q ∈ ctx,TyS s q) (hb:ctx.length + 2 * tsz (⟨7,N,ty,ks⟩:K02) ≤ 1000000):∃ x y,Kx6 s n ctx ⟨7,N,ty,ks⟩ x y:=by
 obtain ⟨k0,rfl,p0⟩:=nd1 h (Nat.le_refl _) rfl
 have hz:=Ktj 7 N ty k0
 have hy:TyS s ty:=Kvy h rfl
 have ly:=Kvj hy
 obtain ⟨x0,y0,r0⟩:=ih k0 ctx p0 hc (by omega)
 by_cases f0:x0.ffault=0
 rotate_left
 ·exact Kxp (by decide) (by decide) (by decide) hb r0 f0
 obtain ⟨g0,q0,a,na,la,ba⟩:=r0.gd f0
 obtain ⟨c0,t0,ht0,hn0,hz0⟩:=Kxs hs g0
 have L0:=Kvj g0
 have e0:Kls (s,ctx,⟨7,N,ty,[k0]⟩,0)=some x0:=Kx7 (i:=0) rfl r0 f0
 have o0:=Kxc (out:=[]) (nd:=[]) (us:=[]) (w:=0) (t:=⟨7,N,ty,[k0]⟩) (m:=[]) rfl (Kxj (by decide)) r0 (by simp; omega) f0 (by rw [ht0]; exact Kwg (.inl (by decide))) (Kwe (show (7:Int) ≠ 10 by decide)) na (by simp <;> omega) (by simp) (by simp) (by simp) (by simp)
 have hf:=Kwu (s:=s) (N:=N) (ty:=ty) (ks:=[k0]) (ctx:=ctx) (us:=[Ku5 []]) (z:=Ku5 (List.replicate ctx.length 0)) (y0:=y0) (a:=a) (by rw [r0.ty]; omega) (by omega)
 have im:=Kwd (p0:=⟨s⟩) (t:=⟨7,N,ty,[k0]⟩) (ctx:=ctx) (by omega) (o0.trans (Kw4 (Nat.le_refl _))) hf
 rw [r0.ty] at im
 refine Kx6.done (q:=2 :: (ty ++ x0.fty)) (ns:=a) (kids:=[y0]) ?_ im (by omega) (fun hl=>Kvt hs hy g0 (.inr (.inl rfl)) hl) la ba rfl (kd1 (Kx5.mk' (Kxd (by decide) rfl) r0 f0 (fun _ h=>by cases h) rfl))
 have hg:=Kva 2 [ty,x0.fty] (by simp) (by simp; omega)
 simp only [List.flatten_cons,List.flatten_nil,List.append_nil] at hg
 rw [Klq.eq_def]
 simp [e0,f0,hg,na]
theorem Kxv (ih:Kxn s n (tsz (⟨11,N,ty,ks⟩:K02))) (h:tOk (gN s.fSize true) (yN s.fSize true) ctx.length ⟨11,N,ty,ks⟩=true) (hc:∀ q ∈ ctx,TyS s q) (hb:ctx.length + 2 * tsz (⟨11,N,ty,ks⟩:K02) ≤ 1000000):∃ x y,Kx6 s n ctx ⟨11,N,ty,ks⟩ x y:=by
 obtain ⟨k0,rfl,p0⟩:=nd1 h (Nat.le_refl _) rfl
 have hz:=Ktj 11 N ty k0
 obtain ⟨g,hN,hg'⟩:=Kvv hs (Kvx h rfl)
 simp only at hN
 subst hN
 obtain ⟨x0,y0,r0⟩:=ih k0 ctx p0 hc (by omega)
 by_cases f0:x0.ffault=0
 rotate_left
 ·exact Kxp (by decide) (by decide) (by decide) hb r0 f0
 obtain ⟨g0,q0,a,na,la,ba⟩:=r0.gd f0
 obtain ⟨c0,t0,ht0,hn0,hz0⟩:=Kxs hs g0
 have L0:=Kvj g0
 have e0:Kls (s,ctx,⟨11,(g:Int),ty,[k0]⟩,0)=some x0:=Kx7 (i:=0) rfl r0 f0
 have o0:=Kxc (out:=[]) (nd:=[]) (us:=[]) (w:=0) (t:=⟨11,(g:Int),ty,[k0]⟩) (m:=[]) rfl (Kxj (by decide)) r0 (by simp; omega) f0 (by rw [ht0]; exact Kwg (.inl (by decide))) (Kwe (show (11:Int) ≠ 10 by decide)) na (by simp <;> omega) (by simp) (by simp) (by simp) (by simp)
 have hf:=Kwz (ty:=ty) (ks:=[k0]) (ctx:=ctx) (us:=[Ku5 []]) (z:=Ku5 (List.replicate ctx.length 0)) (y0:=y0) (a:=a) hs hg' ba (by omega) (by rw [r0.ty]; omega)
 have im:=Kwd (p0:=⟨s⟩) (t:=⟨11,(g:Int),ty,[k0]⟩) (ctx:=ctx) (by omega) (o0.trans (Kw4 (Nat.le_refl _))) hf
 rw [r0.ty] at im
 have hn:=hs.tab.hi
 refine Kx6.done (q:=(19 + (g:Int)) :: x0.fty) (ns:=Kuj s n g a) (kids:=[y0]) ?_ im (by omega) (fun hl=>Kvu hs hg' g0 hl) (by unfold Kuj; rw [List.length_map]; exact la) (Kup hs hg' ba) rfl (kd1 (Kx5.mk' (Kxd (by decide) rfl) r0 f0 (fun _ h=>by cases h) rfl))
 have hg:=Kva (19 + (g:Int)) [x0.fty] (by simp) (by simp; omega)
 simp only [List.flatten_cons,List.flatten_nil,List.append_nil] at hg
 have hsc:=Kup hs hg' ba
 have hz0:=Kus hs hsc
 rw [show (Kuj s n g a).length=ctx.length by unfold Kuj; rw [List.length_map]; exact la] at hz0
 have hsum:=Kuu hs g hg' (List.replicate ctx.length 0) a (fun x hx=>by rw [List.eq_of_mem_replicate hx]; exact Kud hs) ba (by simp; omega) (by simp [la])
 rw [hz0] at hsum
 have hw:wr (19 + (g:Int))=19 + (g:Int):=Kmm (by omega) (by omega)
 rw [Klq.eq_def]
 simp [e0,f0,hg,na,hw,Kv7 ctx.length (by omega),hsum]
theorem Kxw (ih:Kxn s n (tsz (⟨9,N,ty,ks⟩:K02))) (h:tOk (gN s.fSize true) (yN s.fSize true) ctx.length ⟨9,N,ty,ks⟩=true) (hc:∀ q ∈ ctx,TyS s q) (hb:ctx.length + 2 * tsz (⟨9,N,ty,ks⟩:K02) ≤ 1000000):∃ x y,Kx6 s n ctx ⟨9,N,ty,ks⟩ x y:=by
 obtain ⟨k0,rfl,p0⟩:=nd1 h (Nat.le_refl _) rfl
 have hz:=Ktj 9 N ty k0
 obtain ⟨g,hN,hg'⟩:=Kvv hs (Kvx h rfl)
 simp only at hN
 subst hN
 have hy:TyS s ty:=Kvy h rfl
 have ly:=Kvj hy
 have hn:=hs.tab.hi
 have p0':Kvw s ([ty] ++ ctx).length k0 (tsz (⟨9,(g:Int),ty,[k0]⟩:K02)):=by
  have e:([ty] ++ ctx).length=ctx.length + Kp6 9 0:=by simp [Kp6]
  rw [e]; exact p0
 obtain ⟨x0,y0,r0⟩:=ih k0 ([ty] ++ ctx) p0' (fun q hq=>by rcases List.mem_cons.1 hq with rfl | hq; exact hy; exact hc q hq) (by simp; omega)
 have hw9:=Kv8 ctx [ty] (by simp; omega)
 by_cases f0:x0.ffault=0
 rotate_left
 ·have e0:Kls (s,ty :: ctx,⟨9,(g:Int),ty,[k0]⟩,0)=some ⟨[],[],x0.ffault,0 :: x0.fpath⟩:=Kx8 (i:=0) rfl r0 (by omega) f0
  refine Kx6.bad (f:=x0.ffault) (p:=0 :: x0.fpath) ?_ (Kwc (by omega) (Kx9 (m:=[ty]) rfl Kxk r0 (by omega) (by simp; omega) f0)) f0 (by have:=r0.pl; simp; omega)
  rw [Klq.eq_def]
  simp [hw9,e0,f0]
 obtain ⟨g0,q0,a,na,la,ba⟩:=r0.gd f0
 obtain ⟨c0,t0,ht0,hn0,hz0⟩:=Kxs hs g0
 have L0:=Kvj g0
 have e0:Kls (s,ty :: ctx,⟨9,(g:Int),ty,[k0]⟩,0)=some x0:=Kx7 (i:=0) rfl r0 f0
 have la':a.length=ctx.length + 1:=by rw [la]; simp
 obtain ⟨u0,a',rfl⟩:∃ u0 a',a=u0 :: a':=by cases a with | nil=>simp at la' | cons u a'=>exact ⟨u,a',rfl⟩
 obtain ⟨hu0,ba'⟩:=Kum ba
 have o0:=Kxc (out:=[]) (nd:=[]) (us:=[]) (w:=0) (t:=⟨9,(g:Int),ty,[k0]⟩) (m:=[ty]) rfl Kxk r0 (by simp; omega) f0 (by rw [ht0]; exact Kwg (.inl (by decide))) (Kwe (show (9:Int) ≠ 10 by decide)) na (by simp <;> omega) (by simp) (by simp) (by simp) (by simp)
 simp only [List.length_cons,List.length_nil,Nat.zero_add,List.drop_succ_cons,List.drop_zero,List.take_succ_cons,List.take_zero,List.nil_append] at o0
 have hf:=Kwy (ty:=ty) (ks:=[k0]) (ctx:=ctx) (z:=Ku5 (List.replicate ctx.length 0)) (y0:=y0) (a:=a') (u:=[u0]) hs hg' (fun x hx=>by simp at hx; rw [hx]; exact hu0) (by simp) (by rw [r0.ty]; omega) (by omega)
 have hl0:=o0.trans (Kw4 (Nat.le_refl _))
 have hle:=sLe hs.tab hu0 hg'
 have hw:wr (3 + (g:Int))=3 + (g:Int):=Kmm (by omega) (by omega)
 have hi0:idx x0.fneeds 0=some (u0:Int):=by rw [na]; rfl
 simp only [List.all_cons,List.all_nil,Bool.and_true] at hf
 cases hl:le s n u0 g with
 | false =>
  rw [hl,if_neg (by decide)] at hf
  refine Kx6.bad (f:=9) (p:=[]) ?_ (Kwd (by omega) hl0 hf) (by decide) (by simp; omega)
  rw [Klq.eq_def]
  simp [hw9,e0,f0,hi0,hle,hl,Klk]
 | true =>
  rw [hl,if_pos rfl] at hf
  have im:=Kwd (by omega) hl0 hf
  rw [r0.ty] at im
  refine Kx6.done (q:=(3 + (g:Int)) :: (ty ++ x0.fty)) (ns:=a') (kids:=[y0]) ?_ im (by omega) (fun hl=>Kvt hs hy g0 (.inr (.inr ⟨g,hg',rfl⟩)) hl) (by simpa using la') ba' rfl (kd1 (Kx5.mk' (m:=[ty]) Kxe r0 f0 (fun q hq=>by simp at hq; rw [hq]; exact hy) rfl))
  have hg:=Kva (3 + (g:Int)) [ty,x0.fty] (by simp) (by simp; omega)
  simp only [List.flatten_cons,List.flatten_nil,List.append_nil] at hg
  have hcut:cut x0.fneeds (some 1) none none=some (Ku5 a'):=by rw [na]; exact Kru _ _
  rw [Klq.eq_def]
  simp [hw9,e0,f0,hi0,hle,hl,hg,hw,hcut,Kpu (Ku5 a') (by rw [Ku6]; simp at la'; omega)]
theorem Kxx (ih:Kxn s n (tsz (⟨4,N,ty,ks⟩:K02))) (h:tOk (gN s.fSize true) (yN s.fSize true) ctx.length ⟨4,N,ty,ks⟩=true) (hc:∀ q ∈ ctx,TyS s q) (hb:ctx.length + 2 * tsz (⟨4,N,ty,ks⟩:K02) ≤ 1000000):∃ x y,Kx6 s n ctx ⟨4,N,ty,ks⟩ x y:=by
 obtain ⟨k0,k1,rfl,p0,p1⟩:=nd2 h (Nat.le_refl _) rfl
 have hz:=Ktk 4 N ty k0 k1
 obtain ⟨x0,y0,r0⟩:=ih k0 ctx p0 hc (by omega)
 obtain ⟨x1,y1,r1⟩:=ih k1 ctx p1 hc (by omega)
 by_cases f0:x0.ffault=0
 rotate_left
 ·exact Kxp (by decide) (by decide) (by decide) hb r0 f0
 obtain ⟨g0,q0,a,na,la,ba⟩:=r0.gd f0
 obtain ⟨c0,t0,ht0,hn0,hz0⟩:=Kxs hs g0
 have L0:=Kvj g0
 have e0:Kls (s,ctx,⟨4,N,ty,[k0,k1]⟩,0)=some x0:=Kx7 (i:=0) rfl r0 f0
 have o0:=Kxc (out:=[]) (nd:=[]) (us:=[]) (w:=0) (t:=⟨4,N,ty,[k0,k1]⟩) (m:=[]) rfl (Kxj (by decide)) r0 (by simp; omega) f0 (by rw [ht0]; exact Kwg (.inl (by decide))) (Kwe (show (4:Int) ≠ 10 by decide)) na (by simp <;> omega) (by simp) (by simp) (by simp) (by simp)
 have m1:Kw1 ⟨4,N,ty,[k0,k1]⟩ [y0] 1=some []:=Kxl (by decide) (Kxd (by decide) rfl)
 by_cases f1:x1.ffault=0
 rotate_left
 ·have e1:Kls (s,ctx,⟨4,N,ty,[k0,k1]⟩,1)=some ⟨[],[],x1.ffault,1 :: x1.fpath⟩:=Kx8 (i:=1) rfl r1 (by omega) f1
  refine Kx6.bad (f:=x1.ffault) (p:=1 :: x1.fpath) ?_ (Kwc (by omega) (o0.trans (Kx9 (m:=[]) rfl m1 r1 (by omega) (by simp; omega) f1))) f1 (by have:=r1.pl; simp; omega)
  rw [Klq.eq_def]
  simp [e0,f0,e1,f1]
 obtain ⟨g1,q1,b,nb,lb,bb⟩:=r1.gd f1
 obtain ⟨c1,t1,ht1,hn1,hz1⟩:=Kxs hs g1
 have L1:=Kvj g1
 have e1:Kls (s,ctx,⟨4,N,ty,[k0,k1]⟩,1)=some x1:=Kx7 (i:=1) rfl r1 f1
 have o1:=Kxc (out:=[y0]) (nd:=[Ku5 a]) (us:=[Ku5 []]) (w:=1) (t:=⟨4,N,ty,[k0,k1]⟩) (m:=[]) rfl m1 r1 (by simp; omega) f1 (by rw [ht1]; exact Kwg (.inl (by decide))) (Kwe (show (4:Int) ≠ 10 by decide)) nb (by simp <;> omega) (by simp) (by simp) (by simp) (by simp)
 have hf:=Kwx (N:=N) (ty:=ty) (ks:=[k0,k1]) (ctx:=ctx) (us:=[Ku5 [],Ku5 []]) (z:=Ku5 (List.replicate ctx.length 0)) (y0:=y0) (y1:=y1) hs ba bb (by omega) (by omega) (by rw [r0.ty]; omega) (by rw [r1.ty]; omega)
 have im:=Kwd (p0:=⟨s⟩) (t:=⟨4,N,ty,[k0,k1]⟩) (ctx:=ctx) (by omega) (o0.trans (o1.trans (Kw4 (Nat.le_refl _)))) hf
 rw [r0.ty,r1.ty] at im
 refine Kx6.done (q:=1 :: (x0.fty ++ x1.fty)) (ns:=Kui s n a b) (kids:=[y0,y1]) ?_ im (by omega) (fun hl=>Kvt hs g0 g1 (.inl rfl) hl) (by unfold Kui; rw [List.length_zipWith]; omega) (Kuo hs ba bb) rfl (kd2 (Kx5.mk' (Kxd (by decide) rfl) r0 f0 (fun _ h=>by cases h) rfl) (Kx5.mk' (Kxd (by decide) rfl) r1 f1 (fun _ h=>by cases h) rfl))
 have hg:=Kva 1 [x0.fty,x1.fty] (by simp) (by simp; omega)
 simp only [List.flatten_cons,List.flatten_nil,List.append_nil] at hg
 rw [Klq.eq_def]
 simp [e0,f0,e1,f1,hg,na,nb,Kuv hs a b ba bb (by omega) (by omega)]
theorem Kxy (ih:Kxn s n (tsz (⟨2,N,ty,ks⟩:K02))) (h:tOk (gN s.fSize true) (yN s.fSize true) ctx.length ⟨2,N,ty,ks⟩=true) (hc:∀ q ∈ ctx,TyS s q) (hb:ctx.length + 2 * tsz (⟨2,N,ty,ks⟩:K02) ≤ 1000000):∃ x y,Kx6 s n ctx ⟨2,N,ty,ks⟩ x y:=by
 obtain ⟨k0,k1,rfl,p0,p1⟩:=nd2 h (Nat.le_refl _) rfl
 have hz:=Ktk 2 N ty k0 k1
 obtain ⟨x0,y0,r0⟩:=ih k0 ctx p0 hc (by omega)
 obtain ⟨x1,y1,r1⟩:=ih k1 ctx p1 hc (by omega)
 by_cases f0:x0.ffault=0
 rotate_left
 ·exact Kxp (by decide) (by decide) (by decide) hb r0 f0
 obtain ⟨g0,q0,a,na,la,ba⟩:=r0.gd f0
 obtain ⟨c0,t0,ht0,hn0,hz0⟩:=Kxs hs g0
 have L0:=Kvj g0
 have e0:Kls (s,ctx,⟨2,N,ty,[k0,k1]⟩,0)=some x0:=Kx7 (i:=0) rfl r0 f0
 have i0:idx x0.fty 0=some c0:=by rw [ht0]; rfl
 by_cases z0:c0=0
 rotate_left
 ·refine Kx6.bad (f:=2) (p:=[]) ?_ (Kwc (by omega) (Kxa (m:=[]) rfl (Kxj (by decide)) r0 (by simp; omega) f0 (by rw [ht0,Kwh,if_neg (by rw [hn0]; exact z0)]) (by decide))) (by decide) (by simp; omega)
  rw [Klq.eq_def]
  simp [e0,f0,i0,z0,Klk]
 have u0:=hz0 z0
 have s0:(Ko1 c0).1=0:=hn0.2 z0
 have o0:=Kxc (out:=[]) (nd:=[]) (us:=[]) (w:=0) (t:=⟨2,N,ty,[k0,k1]⟩) (m:=[]) rfl (Kxj (by decide)) r0 (by simp; omega) f0 (by rw [ht0,Kwh,if_pos s0]) (Kwe (show (2:Int) ≠ 10 by decide)) na (by simp <;> omega) (by simp) (by simp) (by simp) (by simp)
 have m1:Kw1 ⟨2,N,ty,[k0,k1]⟩ [y0] 1=some []:=Kxl (by decide) (Kxd (by decide) rfl)
 by_cases f1:x1.ffault=0
 rotate_left
 ·have e1:Kls (s,ctx,⟨2,N,ty,[k0,k1]⟩,1)=some ⟨[],[],x1.ffault,1 :: x1.fpath⟩:=Kx8 (i:=1) rfl r1 (by omega) f1
  refine Kx6.bad (f:=x1.ffault) (p:=1 :: x1.fpath) ?_ (Kwc (by omega) (o0.trans (Kx9 (m:=[]) rfl m1 r1 (by omega) (by simp; omega) f1))) f1 (by have:=r1.pl; simp; omega)
  rw [Klq.eq_def]
  simp [e0,f0,i0,z0,Klt.eq_def,e1,f1]
 obtain ⟨g1,q1,b,nb,lb,bb⟩:=r1.gd f1
 obtain ⟨c1,t1,ht1,hn1,hz1⟩:=Kxs hs g1
 have L1:=Kvj g1
 have e1:Kls (s,ctx,⟨2,N,ty,[k0,k1]⟩,1)=some x1:=Kx7 (i:=1) rfl r1 f1
 have i1:idx x1.fty 0=some c1:=by rw [ht1]; rfl
 by_cases z1:c1=0
 rotate_left
 ·refine Kx6.bad (f:=2) (p:=[]) ?_ (Kwc (by omega) (o0.trans (Kxa (m:=[]) rfl m1 r1 (by simp; omega) f1 (by rw [ht1,Kwh,if_neg (by rw [hn1]; exact z1)]) (by decide)))) (by decide) (by simp; omega)
  rw [Klq.eq_def]
  simp [e0,f0,i0,z0,e1,f1,i1,z1,Klk,Klt.eq_def]
 have u1:=hz1 z1
 have s1:(Ko1 c1).1=0:=hn1.2 z1
 have o1:=Kxc (out:=[y0]) (nd:=[Ku5 a]) (us:=[Ku5 []]) (w:=1) (t:=⟨2,N,ty,[k0,k1]⟩) (m:=[]) rfl m1 r1 (by simp; omega) f1 (by rw [ht1,Kwh,if_pos s1]) (Kwe (show (2:Int) ≠ 10 by decide)) nb (by simp <;> omega) (by simp) (by simp) (by simp) (by simp)
 have hf:=Kwv (N:=N) (ty:=ty) (ks:=[k0,k1]) (ctx:=ctx) (us:=[Ku5 [],Ku5 []]) (z:=Ku5 (List.replicate ctx.length 0)) (y0:=y0) (y1:=y1) hs ba bb (by omega) (by omega)
 have im:=Kwd (p0:=⟨s⟩) (t:=⟨2,N,ty,[k0,k1]⟩) (ctx:=ctx) (by omega) (o0.trans (o1.trans (Kw4 (Nat.le_refl _)))) hf
 replace im:=Kxo (q:=[0]) (ns:=Kui s n a b) (kids:=[y0,y1]) (by decide) im
 refine Kx6.good (q:=[0]) (ns:=Kui s n a b) (kids:=[y0,y1]) ?_ im (by omega) Kvp (by unfold Kui; rw [List.length_zipWith]; omega) (Kuo hs ba bb) rfl (kd2 (Kx5.mk' (Kxd (by decide) rfl) r0 f0 (fun _ h=>by cases h) rfl) (Kx5.mk' (Kxd (by decide) rfl) r1 f1 (fun _ h=>by cases h) rfl))
 rw [Klq.eq_def]
 simp [e0,f0,i0,z0,e1,f1,i1,z1,na,nb,u1,Kwo,Kuv hs a b ba bb (by omega) (by omega),Klt.eq_def]
theorem Kxz (ih:Kxn s n (tsz (⟨3,N,ty,ks⟩:K02))) (h:tOk (gN s.fSize true) (yN s.fSize true) ctx.length ⟨3,N,ty,ks⟩=true) (hc:∀ q ∈ ctx,TyS s q) (hb:ctx.length + 2 * tsz (⟨3,N,ty,ks⟩:K02) ≤ 1000000):∃ x y,Kx6 s n ctx ⟨3,N,ty,ks⟩ x y:=by
 obtain ⟨k0,k1,k2,rfl,p0,p1,p2⟩:=nd3 h (Nat.le_refl _) rfl
 have hz:=Ktl 3 N ty k0 k1 k2
 obtain ⟨x0,y0,r0⟩:=ih k0 ctx p0 hc (by omega)
 obtain ⟨x1,y1,r1⟩:=ih k1 ctx p1 hc (by omega)
 obtain ⟨x2,y2,r2⟩:=ih k2 ctx p2 hc (by omega)
 by_cases f0:x0.ffault=0
 rotate_left
 ·exact Kxp (by decide) (by decide) (by decide) hb r0 f0
 obtain ⟨g0,q0,a,na,la,ba⟩:=r0.gd f0
 obtain ⟨c0,t0,ht0,hn0,hz0⟩:=Kxs hs g0
 have L0:=Kvj g0
 have e0:Kls (s,ctx,⟨3,N,ty,[k0,k1,k2]⟩,0)=some x0:=Kx7 (i:=0) rfl r0 f0
 have i0:idx x0.fty 0=some c0:=by rw [ht0]; rfl
 by_cases z0:c0=0
 rotate_left
 ·refine Kx6.bad (f:=2) (p:=[]) ?_ (Kwc (by omega) (Kxa (m:=[]) rfl (Kxj (by decide)) r0 (by simp; omega) f0 (by rw [ht0,Kwi,if_neg (by rw [hn0]; exact z0)]) (by decide))) (by decide) (by simp; omega)
  rw [Klq.eq_def]
  simp [e0,f0,i0,z0,Klk]
 have u0:=hz0 z0
 have s0:(Ko1 c0).1=0:=hn0.2 z0
 have o0:=Kxc (out:=[]) (nd:=[]) (us:=[]) (w:=0) (t:=⟨3,N,ty,[k0,k1,k2]⟩) (m:=[]) rfl (Kxj (by decide)) r0 (by simp; omega) f0 (by rw [ht0,Kwi,if_pos s0]) (Kwe (show (3:Int) ≠ 10 by decide)) na (by simp <;> omega) (by simp) (by simp) (by simp) (by simp)
 have m1:Kw1 ⟨3,N,ty,[k0,k1,k2]⟩ [y0] 1=some []:=Kxl (by decide) (Kxd (by decide) rfl)
 by_cases f1:x1.ffault=0
 rotate_left
 ·have e1:Kls (s,ctx,⟨3,N,ty,[k0,k1,k2]⟩,1)=some ⟨[],[],x1.ffault,1 :: x1.fpath⟩:=Kx8 (i:=1) rfl r1 (by omega) f1
  refine Kx6.bad (f:=x1.ffault) (p:=1 :: x1.fpath) ?_ (Kwc (by omega) (o0.trans (Kx9 (m:=[]) rfl m1 r1 (by omega) (by simp; omega) f1))) f1 (by have:=r1.pl; simp; omega)
  rw [Klq.eq_def]
  simp [e0,f0,i0,z0,Klt.eq_def,e1,f1]
 obtain ⟨g1,q1,b,nb,lb,bb⟩:=r1.gd f1
 obtain ⟨c1,t1,ht1,hn1,hz1⟩:=Kxs hs g1
 have L1:=Kvj g1
 have e1:Kls (s,ctx,⟨3,N,ty,[k0,k1,k2]⟩,1)=some x1:=Kx7 (i:=1) rfl r1 f1
 have o1:=Kxc (out:=[y0]) (nd:=[Ku5 a]) (us:=[Ku5 []]) (w:=1) (t:=⟨3,N,ty,[k0,k1,k2]⟩) (m:=[]) rfl m1 r1 (by simp; omega) f1 (by rw [ht1]; exact Kwg (.inr (by decide))) (Kwe (show (3:Int) ≠ 10 by decide)) nb (by simp <;> omega) (by simp) (by simp) (by simp) (by simp)
 have m2:Kw1 ⟨3,N,ty,[k0,k1,k2]⟩ [y0,y1] 2=some []:=Kxl (by decide) (Kxd (by decide) rfl)
 by_cases f2:x2.ffault=0
 rotate_left
 ·have e2:Kls (s,ctx,⟨3,N,ty,[k0,k1,k2]⟩,2)=some ⟨[],[],x2.ffault,2 :: x2.fpath⟩:=Kx8 (i:=2) rfl r2 (by omega) f2
  refine Kx6.bad (f:=x2.ffault) (p:=2 :: x2.fpath) ?_ (Kwc (by omega) (o0.trans (o1.trans (Kx9 (m:=[]) rfl m2 r2 (by omega) (by simp; omega) f2)))) f2 (by have:=r2.pl; simp; omega)
  rw [Klq.eq_def]
  simp [e0,f0,i0,z0,e1,f1,Klt.eq_def,e2,f2]
 obtain ⟨g2,q2,d,nd,ld,bd⟩:=r2.gd f2
 obtain ⟨c2,t2,ht2,hn2,hz2⟩:=Kxs hs g2
 have L2:=Kvj g2
 have e2:Kls (s,ctx,⟨3,N,ty,[k0,k1,k2]⟩,2)=some x2:=Kx7 (i:=2) rfl r2 f2
 have o2:=Kxc (out:=[y0,y1]) (nd:=[Ku5 a,Ku5 b]) (us:=[Ku5 [],Ku5 []]) (w:=2) (t:=⟨3,N,ty,[k0,k1,k2]⟩) (m:=[]) rfl m2 r2 (by simp; omega) f2 (by rw [ht2]; exact Kwg (.inr (by decide))) (Kwe (show (3:Int) ≠ 10 by decide)) nd (by simp <;> omega) (by simp) (by simp) (by simp) (by simp)
 have hf:=Kww (N:=N) (ty:=ty) (ks:=[k0,k1,k2]) (ctx:=ctx) (us:=[Ku5 [],Ku5 [],Ku5 []]) (z:=Ku5 (List.replicate ctx.length 0)) (y0:=y0) (y1:=y1) (y2:=y2) hs ba bb bd (by omega) (by omega) (by omega) (by rw [r2.ty]; omega) (by rw [r1.ty]; omega)
 have hl0:=o0.trans (o1.trans (o2.trans (Kw4 (Nat.le_refl _))))
 
 have hsm:=Ksu x1.fty x2.fty (by omega)
 have lj:(Kuk s n b d).length=ctx.length:=by unfold Kuk; rw [List.length_zipWith]; omega
 rw [r1.ty,r2.ty] at hf
 by_cases hq:x1.fty=x2.fty
 ·rw [if_pos hq] at hf
  have im:=Kwd (by omega) hl0 hf
  replace im:=Kxo (q:=x1.fty) (ns:=Kui s n a (Kuk s n b d)) (kids:=[y0,y1,y2]) (by omega) im
  refine Kx6.good (q:=x1.fty) (ns:=Kui s n a (Kuk s n b d)) (kids:=[y0,y1,y2]) ?_ im (by omega) g1 (by unfold Kui; rw [List.length_zipWith]; omega) (Kuo hs ba (Kuq hs bb bd)) rfl (kd3 (Kx5.mk' (Kxd (by decide) rfl) r0 f0 (fun _ h=>by cases h) rfl) (Kx5.mk' (Kxd (by decide) rfl) r1 f1 (fun _ h=>by cases h) rfl) (Kx5.mk' (Kxd (by decide) rfl) r2 f2 (fun _ h=>by cases h) rfl))
  rw [show (x1.fty == x2.fty)=true from beq_iff_eq.2 hq] at hsm
  rw [Klq.eq_def]
  simp [e0,f0,i0,z0,e1,f1,e2,f2,hsm,na,nb,nd,Kux hs b d bb bd (by omega) (by omega),Kuv hs a (Kuk s n b d) ba (Kuq hs bb bd) (by omega) (by omega),Klt.eq_def]
 ·rw [if_neg hq] at hf
  refine Kx6.bad (f:=3) (p:=[]) ?_ (Kwd (by omega) hl0 hf) (by decide) (by simp; omega)
  rw [show (x1.fty == x2.fty)=false from beq_eq_false_iff_ne.2 hq] at hsm
  rw [Klq.eq_def]
  simp [e0,f0,i0,z0,e1,f1,e2,f2,hsm,Klt.eq_def,Klk]
end
end Go.Am
