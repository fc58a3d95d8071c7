/- Plain laws of the printed functions. -/
import Derived.Test.YtckgdfakjjdodaaGreatPFIM1
set_option linter.unusedSimpArgs false
set_option linter.unusedVariables false
namespace Go.Am
structure V4v (s:K00) (ctx:List (List Int)) (t:K01) (y:K04):Prop where
 ok:tOk (gN s.fSize true) (yN s.fSize true) ctx.length t=true
 cx:∀ q ∈ ctx,TyS s q
 bd:ctx.length + 2 * tsz t ≤ 1000000
 im:Kp7 (⟨s⟩,ctx,t)=some y
 fa:y.ffault=0
section
variable {s:K00} {n:Nat} (hs:Kxm s n) {ctx:List (List Int)} {t:K01} {y:K04}
include hs
theorem V4v.tell (g:V4v s ctx t y):∃ x,V0v s n ctx t x y∧x.ffault=0∧x.fty=y.fty∧TyS s y.fty:=by
 obtain ⟨x,y',r⟩:=V23 hs (tsz t) t ctx (Nat.le_refl _) g.ok g.cx g.bd
 have e:=r.im
 rw [g.im] at e
 cases e
 have hf:x.ffault=0:=by rw [← r.fa]; exact g.fa
 exact ⟨x,r,hf,r.ty.symm,by rw [r.ty]; exact (r.gd hf).1⟩
theorem V4v.kid (g:V4v s ctx t y) {i:Nat} {k:K01} (hk:t.fKids[i]?=some k):∃ yk,y.fkids[i]?=some yk∧V4v s (V0t t i y.fkids ++ ctx) k yk∧(V0t t i y.fkids).length=Kuh t.fOp i:=by
 obtain ⟨x,r,hf,_⟩:=g.tell hs
 obtain ⟨yk,h1,h2⟩:=(r.kd hf).2 i k hk
 obtain ⟨hi,hg⟩:=List.getElem?_eq_some_iff.1 hk
 have hm:k ∈ t.fKids:=hg ▸ List.getElem_mem hi
 have h3:=Kwn t.fKids t.fOp ctx.length 0 i hi (Kuy g.ok).2
 rw [hg,Nat.zero_add] at h3
 have h4:=Kwb hm
 have h5:=Kui t.fOp (i:Int)
 have h6:=g.bd
 have h7:=h2.ln
 refine ⟨yk,h1,⟨?_,?_,?_,h2.im,h2.fa⟩,h7⟩
 ·rw [List.length_append,h7,Nat.add_comm]; exact h3
 ·intro q hq
  rcases List.mem_append.1 hq with hq | hq
  ·exact h2.ty q hq
  ·exact g.cx q hq
 ·rw [List.length_append,h7]; omega
theorem V4v.first (g:V4v s ctx t y) (h0:0 < t.fKids.length) (ha:Kuh t.fOp ((0:Nat):Int)=0):∃ k0 y0 x0 l,t.fKids[0]?=some k0∧y.fkids=y0 :: l∧(V0v s n ctx k0 x0 y0∧x0.ffault=0)∧Kfy (s,ctx,k0)=some x0∧x0.fty=y0.fty∧TyS s y0.fty:=by
 have hk:t.fKids[0]?=some t.fKids[0]:=List.getElem?_eq_getElem h0
 obtain ⟨y0,h1,h2,h3⟩:=g.kid hs hk
 rw [ha] at h3
 rw [List.eq_nil_of_length_eq_zero h3,List.nil_append] at h2
 obtain ⟨x0,r,hf,h4,h5⟩:=h2.tell hs
 cases e:y.fkids with
 | nil=>rw [e] at h1; cases h1
 | cons z l =>
  rw [e] at h1
  cases h1
  exact ⟨_,_,x0,l,hk,rfl,⟨r,hf⟩,r.sp,h4,h5⟩
end
theorem V4w {s:K00} {c:Int} {a b:List Int} (hk:Kt7 c=2) (hg:Ktt s.fSize true c=true) (ha:TyS s a) (hb:TyS s b) (hl:a.length + b.length + 1 ≤ 40):TyS s (c :: (a ++ b)):=by
 obtain ⟨A,a1,rfl,a3,a4⟩:=Kz9 ha
 obtain ⟨B,b1,rfl,b3,b4⟩:=Kz9 hb
 refine Kza (T:=.bin c A B) ⟨hk,a1,b1⟩ (by rw [Ty.code,List.length_cons,List.length_append]; omega) ?_
 rw [Ty.code,List.all_cons,List.all_append,hg,a4,b4]; rfl
theorem V4x {s:K00} {c:Int} {a:List Int} (hk:Kt7 c=1) (hg:Ktt s.fSize true c=true) (ha:TyS s a) (hl:a.length + 1 ≤ 40):TyS s (c :: a):=by
 obtain ⟨A,a1,rfl,a3,a4⟩:=Kz9 ha
 refine Kza (T:=.un c A) ⟨hk,a1⟩ (by rw [Ty.code,List.length_cons]; omega) ?_
 rw [Ty.code,List.all_cons,hg,a4]; rfl
theorem V4y {s:K00}:Ktt s.fSize true 1=true:=by unfold Ktt; simp
theorem V4z {s:K00}:Ktt s.fSize true 2=true:=by unfold Ktt; simp
theorem V50 {s:K00} {q:List Int} (h:TyS s q):1 ≤ q.length:=by
 obtain ⟨T,_,rfl,_,_⟩:=Kz9 h
 exact Kvl T
def V51 (s:K00) (m b:Nat) (t:K01):Prop:=tOk (gN s.fSize true) (yN s.fSize true) m t=true∧tsz t ≤ b
def V52 (s:K00) (ctx:List (List Int)):Prop:=∀ q ∈ ctx,TyS s q
theorem V53 {s:K00} {ctx:List (List Int)} {q:List Int} (h:V52 s ctx) (hq:TyS s q):V52 s (q :: ctx):=fun x hx=>by
 rcases List.mem_cons.1 hx with rfl | hx
 ·exact hq
 ·exact h x hx
theorem V54 {s:K00} {m:Nat} {i:Nat} (hi:i < m):V51 s m 1 ⟨0,(i:Int),[],[]⟩:=by
 refine ⟨?_,by simp [tsz,Kty]⟩
 rw [Kup]
 simp [Kuo,Kun,Kul,Kum,inB,Ku7,Ku9]
 omega
theorem V55 {s:K00} {m:Nat} {x:Int} (hx:0 ≤ x∧x < 3):V51 s m 1 ⟨1,x,[],[]⟩:=by
 refine ⟨?_,by simp [tsz,Kty]⟩
 rw [Kup]
 simp [Kuo,Kun,Kul,Kum,inB,Ku7,Ku9]
 omega
theorem V56 {s:K00} {op:Int} {m b1 b2:Nat} {k1 k2:K01} (hop:op=2∨op=4∨op=10) (h1:V51 s m b1 k1) (h2:V51 s m b2 k2):V51 s m (1 + b1 + b2) ⟨op,0,[],[k1,k2]⟩:=by
 refine ⟨?_,by have:=h1.2; have:=h2.2; simp [tsz,Kty]; omega⟩
 rw [Kup]
 rcases hop with rfl | rfl | rfl <;> simp [Kuo,Kun,Kul,Kum,inB,Ku7,Ku9,Ku8,Kuh,h1.1,h2.1]
theorem V57 {s:K00} {m b1 b2 b3:Nat} {k1 k2 k3:K01} (h1:V51 s m b1 k1) (h2:V51 s m b2 k2) (h3:V51 s m b3 k3):V51 s m (1 + b1 + b2 + b3) ⟨3,0,[],[k1,k2,k3]⟩:=by
 refine ⟨?_,by have:=h1.2; have:=h2.2; have:=h3.2; simp [tsz,Kty]; omega⟩
 rw [Kup]
 simp [Kuo,Kun,Kul,Kum,inB,Ku7,Ku9,Ku8,Kuh,h1.1,h2.1,h3.1]
theorem V58 {s:K00} {op:Int} {m b1:Nat} {q:List Int} {k1:K01} (hop:op=6∨op=7) (hq:TyS s q) (h1:V51 s m b1 k1):V51 s m (1 + b1) ⟨op,0,q,[k1]⟩:=by
 have hq:yN s.fSize true q=true:=hq
 refine ⟨?_,by have:=h1.2; simp [tsz,Kty]; omega⟩
 rw [Kup]
 rcases hop with rfl | rfl <;> simp [Kuo,Kun,Kul,Kum,inB,Ku7,Ku9,Ku8,Kuh,h1.1,hq]
section
variable {s:K00} {n:Nat} (hs:Kxm s n)
include hs
theorem V59 {g:Nat} (h:g < n):Kt7 (3 + (g:Int))=2∧Ktt s.fSize true (3 + (g:Int))=true:=by
 have:=hs.tab.hi
 refine ⟨by rcases Ktb (3 + (g:Int)) with q | q | q | q <;> omega,(Kzf hs (by omega)).2 (by omega)⟩
theorem V5a {g:Nat} (h:g < n):Kt7 (19 + (g:Int))=1∧Ktt s.fSize true (19 + (g:Int))=true:=by
 have:=hs.tab.hi
 refine ⟨by rcases Ktb (19 + (g:Int)) with q | q | q | q <;> omega,(Kzg hs (by omega)).2 (by omega)⟩
theorem V5b:∀ (d:Nat) (c:K02) (data:Bool),d ≤ 3→V29 c→Gv (Kdt (c,s,(d:Int),data)) (fun r=>(TyS s r.1∧r.1.length + 1 ≤ 2 ^ (d + 1))∧V29 r.2):=by
 have hsz:=hs.tab.size
 have hlo:=hs.tab.lo
 intro d
 induction d with
 | zero =>
  intro c data _ h
  rw [Kdt.eq_def]
  simp only
  refine Gv.bind (V2g h 6) ?_
  rintro ⟨x,c1⟩ ⟨hx,h1⟩
  simp only at hx h1 ⊢
  rw [show decide (((0:Nat):Int) ≤ 0)=true from rfl,if_pos rfl,bs,if_pos rfl]
  exact .of ⟨⟨Kze,by simp⟩,h1⟩
 | succ d ih =>
  intro c data hd h
  have hp:=V4u (d + 1) (by omega)
  have hp5:2 ^ (d + 1) ≤ 8:=Nat.le_trans (Nat.pow_le_pow_right (by decide) (show d + 1 ≤ 3 by omega)) (by decide)
  have hpe:2 ^ (d + 1 + 1)=2 ^ (d + 1) + 2 ^ (d + 1):=by rw [Nat.pow_succ]; omega
  have hp1:2 ≤ 2 ^ (d + 1):=Nat.le_trans (by decide) (Nat.pow_le_pow_right (n:=2) (by decide) (show 1 ≤ d + 1 by omega))
  have wd:wr (((d + 1:Nat):Int) - 1)=((d:Nat):Int):=by rw [Krx (by omega) (by omega)]; omega
  rw [Kdt.eq_def]
  simp only
  refine Gv.bind (V2g h 6) ?_
  rintro ⟨x,c1⟩ ⟨hx,h1⟩
  simp only at hx h1 ⊢
  rw [show decide (((d + 1:Nat):Int) ≤ 0)=false from decide_eq_false (by omega),if_neg (by decide),bs]
  refine .ite (fun _=>.of ⟨⟨Kze,by simp; omega⟩,h1⟩) (fun _=>?_)
  rw [wd]
  refine Gv.bind (ih c1 data (by omega) h1) ?_
  rintro ⟨a,c2⟩ ⟨⟨ta,ha⟩,h2⟩
  simp only at ta ha h2 ⊢
  refine .ite (fun _=>?_) (fun _=>?_)
  ·refine Gv.bind (V2g h2 _) ?_
   rintro ⟨y,c3⟩ ⟨hy,h3⟩
   simp only at hy h3 ⊢
   have hy:=hy.1 (by omega)
   obtain ⟨g,rfl⟩:∃ g:Nat,y=(g:Int):=⟨y.toNat,by omega⟩
   obtain ⟨k1,k2⟩:=V5a hs (g:=g) (by omega)
   have hb:=hs.tab.hi
   rw [Krx (by omega) (by omega),V4s _ _ (by omega),bs]
   exact .of ⟨⟨V4x k1 k2 ta (by omega),by simp; omega⟩,h3⟩
  refine Gv.bind (Q:=fun _=>True) (.ite (fun _=>.of trivial) (fun _=>.of trivial)) (fun v _=>?_)
  refine .ite (fun _=>?_) (fun _=>.ite (fun _=>?_) (fun _=>?_))
  ·refine Gv.bind (V2g h2 _) ?_
   rintro ⟨y,c3⟩ ⟨hy,h3⟩
   simp only at hy h3 ⊢
   have hy:=hy.1 (by omega)
   obtain ⟨g,rfl⟩:∃ g:Nat,y=(g:Int):=⟨y.toNat,by omega⟩
   obtain ⟨k1,k2⟩:=V59 hs (g:=g) (by omega)
   have hbb:=hs.tab.hi
   refine Gv.bind (ih c3 data (by omega) h3) ?_
   rintro ⟨b,c4⟩ ⟨⟨tb,hb⟩,h4⟩
   simp only at tb hb h4 ⊢
   rw [Krx (by omega) (by omega),V4t _ _ _ (by omega),bs]
   exact .of ⟨⟨V4w k1 k2 ta tb (by omega),by simp; omega⟩,h4⟩
  ·refine Gv.bind (ih c2 data (by omega) h2) ?_
   rintro ⟨b,c4⟩ ⟨⟨tb,hb⟩,h4⟩
   simp only at tb hb h4 ⊢
   rw [V4t _ _ _ (by omega),bs]
   exact .of ⟨⟨V4w rfl V4z ta tb (by omega),by simp; omega⟩,h4⟩
  ·refine Gv.bind (ih c2 data (by omega) h2) ?_
   rintro ⟨b,c4⟩ ⟨⟨tb,hb⟩,h4⟩
   simp only at tb hb h4 ⊢
   rw [V4t _ _ _ (by omega),bs]
   exact .of ⟨⟨V4w rfl V4y ta tb (by omega),by simp; omega⟩,h4⟩
theorem V5c {ctx:List (List Int)} {t:K01} {b:Nat} (hc:V52 s ctx) (hl:ctx.length ≤ 1000) (hb:b ≤ 400000) (h:V51 s ctx.length b t) :
  ∃ x,Kfy (s,ctx,t)=some x∧(x.ffault=0→TyS s x.fty∧∃ ns:List Nat,x.fneeds=Kxh ns∧ns.length=ctx.length∧Kxx n ns):=by
 have:=h.2
 obtain ⟨x,y,r⟩:=V23 hs (tsz t) t ctx (Nat.le_refl _) h.1 hc (by omega)
 exact ⟨x,r.sp,fun hf=>let ⟨g1,_,g2⟩:=r.gd hf; ⟨g1,g2⟩⟩
theorem V5d {ctx:List (List Int)} {t:K01} {b:Nat} (hc:V52 s ctx) (hl:ctx.length ≤ 1000) (hb:b ≤ 400000) (h:V51 s ctx.length b t) (i:Nat) (hi:i < ctx.length) :
  ∃ g:Nat,g < n∧Kgb (s,ctx,t,(i:Int))=some (g:Int):=by
 obtain ⟨x,e,hx⟩:=V5c hs hc hl hb h
 unfold Kgb
 simp only
 rw [e,bs]
 by_cases hf:x.ffault=0
 ·obtain ⟨_,ns,e2,e3,e4⟩:=hx hf
  have hi':i < ns.length:=by omega
  refine ⟨ns[i],e4 _ (List.getElem_mem hi'),?_⟩
  rw [if_neg (by simp [hf]),e2,Kry (by rw [Kxi]; exact hi'),bs]
  simp [Kxh]
 ·rw [if_pos (bne_iff_ne.2 hf)]
  exact ⟨0,Nat.lt_of_lt_of_le (by decide) hs.tab.lo,rfl⟩
theorem V5e {a b:Nat} (ha:a < n) (hb:b < n):∃ g:Nat,g < n∧Kc6 (s,(a:Int),(b:Int))=some (g:Int):=by
 obtain ⟨e,h⟩:=Kxt hs ha hb
 exact ⟨_,h,by rw [Ksr hs.tab ha hb,e]⟩
theorem V5f (c0:K02) {g:Nat} (hg:g < n):∀ (k i:Nat) (c:K02),i + k=3→V29 c→Gv (Kgf (c0,s,(g:Int),c.fb,c.fi,c.fh,(i:Int))) (fun fl=>match fl with | .inl r=>V29 ⟨r.1,r.2.1,r.2.2⟩ | .inr r=>(∃ h:Nat,h < n∧r.1=(h:Int))∧V29 r.2):=by
 have hsz:=hs.tab.size
 have hlo:=hs.tab.lo
 intro k
 induction k with
 | zero =>
  intro i c hi h
  rw [Kgf.eq_def]
  simp only
  rw [decide_eq_false (by omega),if_neg (by decide),bs]
  simp only
  rw [if_neg (by decide)]
  exact .of h
 | succ k ih =>
  intro i c hi h
  rw [Kgf.eq_def]
  simp only
  rw [decide_eq_true (by omega),if_pos rfl]
  refine Gv.bind (Q:=fun r:List Int × Int × Int × Bool=>V29 ⟨r.1,r.2.1,r.2.2.1⟩) (Gv.bind (V2h h 3) (by rintro ⟨x,c1⟩ h1; exact .of h1)) ?_
  rintro ⟨a,b,d,v⟩ h1
  simp only at h1 ⊢
  refine .ite (fun _=>?_) (fun _=>.of h1)
  refine Gv.bind (V2g h1 _) ?_
  rintro ⟨y,c3⟩ ⟨hy,h3⟩
  simp only at hy h3 ⊢
  have hy:=hy.1 (by omega)
  obtain ⟨q,rfl⟩:∃ q:Nat,y=(q:Int):=⟨y.toNat,by omega⟩
  rw [sLe hs.tab hg (by omega),bs]
  refine .ite (fun _=>.of ⟨⟨q,by omega,rfl⟩,h3⟩) (fun _=>?_)
  rw [Krz (by omega)]
  exact ih (i + 1) c3 (by omega) h3
theorem V5g {c:K02} (h:V29 c) {g:Nat} (hg:g < n):Gv (Kgi (c,s,(g:Int))) (fun r=>(∃ h:Nat,h < n∧r.1=(h:Int))∧V29 r.2):=by
 have hsz:=hs.tab.size
 unfold Kgi
 simp only
 rw [decide_eq_false (by omega),if_neg (by decide),decide_eq_false (by omega),bs,if_neg (by decide)]
 have:=V5f hs c hg 3 0 c rfl h
 rw [show ((0:Nat):Int)=0 from rfl] at this
 refine Gv.bind this ?_
 rintro (⟨a,b,d⟩ | ⟨r,c1⟩) q
 ·exact .of ⟨⟨g,hg,rfl⟩,q⟩
 ·exact .of q
theorem V5h {g:Nat} (h:g < n):gN s.fSize true (g:Int)=true:=by
 have:=hs.tab.size
 unfold gN
 simp
 omega
theorem V5i {m b1 b2 g:Nat} {k1 k2:K01} (hg:g < n) (h1:V51 s m b1 k1) (h2:V51 s (m + 2) b2 k2):V51 s m (1 + b1 + b2) ⟨5,(g:Int),[],[k1,k2]⟩:=by
 refine ⟨?_,by have:=h1.2; have:=h2.2; simp [tsz,Kty]; omega⟩
 rw [Kup]
 simp [Kuo,Kun,Kul,Kum,inB,Ku7,Ku9,Ku8,Kuh,h1.1,h2.1,V5h hs hg]
theorem V5j {m b1 b2 b3 g:Nat} {k1 k2 k3:K01} (hg:g < n) (h1:V51 s m b1 k1) (h2:V51 s (m + 1) b2 k2) (h3:V51 s (m + 1) b3 k3):V51 s m (1 + b1 + b2 + b3) ⟨8,(g:Int),[],[k1,k2,k3]⟩:=by
 refine ⟨?_,by have:=h1.2; have:=h2.2; have:=h3.2; simp [tsz,Kty]; omega⟩
 rw [Kup]
 simp [Kuo,Kun,Kul,Kum,inB,Ku7,Ku9,Ku8,Kuh,h1.1,h2.1,h3.1,V5h hs hg]
theorem V5k {m b1 b2 g:Nat} {k1 k2:K01} (hg:g < n) (h1:V51 s m b1 k1) (h2:V51 s (m + 1) b2 k2):V51 s m (1 + b1 + b2) ⟨12,(g:Int),[],[k1,k2]⟩:=by
 refine ⟨?_,by have:=h1.2; have:=h2.2; simp [tsz,Kty]; omega⟩
 rw [Kup]
 simp [Kuo,Kun,Kul,Kum,inB,Ku7,Ku9,Ku8,Kuh,h1.1,h2.1,V5h hs hg]
theorem V5l {m b1 g:Nat} {k1:K01} (hg:g < n) (h1:V51 s m b1 k1):V51 s m (1 + b1) ⟨11,(g:Int),[],[k1]⟩:=by
 refine ⟨?_,by have:=h1.2; simp [tsz,Kty]; omega⟩
 rw [Kup]
 simp [Kuo,Kun,Kul,Kum,inB,Ku7,Ku9,Ku8,Kuh,h1.1,V5h hs hg]
theorem V5m {m b1 g:Nat} {q:List Int} {k1:K01} (hg:g < n) (hq:TyS s q) (h1:V51 s (m + 1) b1 k1):V51 s m (1 + b1) ⟨9,(g:Int),q,[k1]⟩:=by
 have hq:yN s.fSize true q=true:=hq
 refine ⟨?_,by have:=h1.2; simp [tsz,Kty]; omega⟩
 rw [Kup]
 simp [Kuo,Kun,Kul,Kum,inB,Ku7,Ku9,Ku8,Kuh,h1.1,hq,V5h hs hg]
end
theorem V51.mono {s:K00} {m b b':Nat} {t:K01} (h:V51 s m b t) (hb:b ≤ b'):V51 s m b' t:=⟨h.1,Nat.le_trans h.2 hb⟩
theorem sOp (op N:Int) (ks:List K01):Kea (op,N,ks)=some ⟨op,N,[],ks⟩:=rfl
def Dr (s:K00) (m b:Nat) (r:K01 × K02):Prop:=V51 s m b r.1∧V29 r.2
section
variable {s:K00} {n:Nat} (hs:Kxm s n)
theorem V5n {c0 c:K02} (h:V29 c) {ctx:List (List Int)} {ty:List Int} {deep:Int} (hl:ctx.length ≤ 1000) (hty:ty.length ≤ 1000) {f:Int} (hf:0 ≤ f∧f < ctx.length) (hq:∀ q ∈ ctx,q.length ≤ 1000):∀ (k i:Nat),i + k=ctx.length →
  Gv (Kh0 (c0,s,ctx,ty,deep,f,c,(i:Int))) (fun fl=>match fl with | .inl _=>True | .inr r=>Dr s ctx.length 1 r):=by
 intro k
 induction k with
 | zero =>
  intro i hi
  rw [Kh0.eq_def]
  simp only
  rw [Ks1 (by omega),if_neg (by decide)]
  exact .of trivial
 | succ k ih =>
  intro i hi
  obtain ⟨g,rfl⟩:∃ g:Nat,f=(g:Int):=⟨f.toNat,by omega⟩
  have e:Int.tmod (wr ((g:Int) + (i:Int))) (ctx.length:Int)=(((g + i) % ctx.length:Nat):Int):=by
   rw [Kw8 (by omega) (by omega),V31]
  have hm:(g + i) % ctx.length < ctx.length:=Nat.mod_lt _ (by omega)
  have ck:chk ((ctx.length:Int) ≠ 0)=some ():=by unfold chk; rw [if_pos (by omega)]
  rw [Kh0.eq_def]
  simp only
  rw [Ks0 (by omega),if_pos rfl,ck,bs,e,Kry hm,bs,Kwt _ ty (by omega),bs]
  refine .ite (fun _=>?_) (fun _=>?_)
  ·rw [sOp,bs]
   exact .of ⟨V54 hm,h⟩
  ·rw [Krz (by omega)]
   exact ih (i + 1) (by omega)
include hs
theorem V5o {deep:Int} {b:Nat} {ctx:List (List Int)} {p q:List Int} {g:Nat} (hg:g < n) (P:Kzb s (3 + (g:Int)) p q) (hg15:g ≤ 15) (hc:V52 s ctx) (hl:ctx.length ≤ 900) (hb:b ≤ 300000) (hb1:1 ≤ b) (hd:-900 ≤ deep∧deep ≤ 100)
  (H:∀ c,V29 c→Gv (Kh8 (c,s,p :: ctx,q,wr (deep - 1))) (Dr s (ctx.length + 1) b)) (c:K02) (h:V29 c):Gv (Kh9 (c,s,ctx,(3 + (g:Int)) :: (p ++ q),deep)) (Dr s ctx.length (1 + b)):=by
 have hlp:=Kz8 P.ya
 have hlq:=Kz8 P.yb
 have hc':V52 s (p :: ctx):=V53 hc P.ya
 have loop:∀ (k i:Nat) (c:K02) (u1 u2:Int) (u3:List Int) (u4:List K01),i + k=3→V29 c→V51 s (ctx.length + 1) b ⟨u1,u2,u3,u4⟩ →
   Gv (Kha (s,deep,p,q,(g:Int),p :: ctx,c.fb,c.fi,c.fh,u1,u2,u3,u4,(i:Int))) (fun r=>V51 s (ctx.length + 1) b ⟨r.1,r.2.1,r.2.2.1,r.2.2.2.1⟩∧V29 ⟨r.2.2.2.2.1,r.2.2.2.2.2.1,r.2.2.2.2.2.2⟩):=by
  intro k
  induction k with
  | zero =>
   intro i c u1 u2 u3 u4 hi h ht
   rw [Kha.eq_def]
   simp only
   rw [decide_eq_false (by omega),if_neg (by decide),bs,if_neg (by decide)]
   exact .of ⟨ht,h⟩
  | succ k ih =>
   intro i c u1 u2 u3 u4 hi h ht
   rw [Kha.eq_def]
   simp only
   obtain ⟨m,m1,m2⟩:=V5d hs hc' (by simp; omega) (by omega) (t:=⟨u1,u2,u3,u4⟩) (b:=b) (by simpa using ht) 0 (by simp)
   rw [show ((0:Nat):Int)=0 from rfl] at m2
   rw [decide_eq_true (by omega),if_pos rfl,m2,bs,sLe hs.tab m1 hg,bs,bs]
   refine .ite (fun _=>?_) (fun _=>.of ⟨ht,h⟩)
   refine Gv.bind (H c h) ?_
   rintro ⟨⟨x1,x2,x3,x4⟩,c2⟩ ⟨ht2,h2⟩
   simp only at ht2 h2 ⊢
   refine Gv.bind (Q:=fun _=>True) (.ite (fun _=>?_) (fun _=>.of trivial)) (fun v _=>?_)
   ·rw [Kwt p q (by omega),bs]; exact .of trivial
   refine Gv.bind (Q:=fun r:Int × Int × List Int × List K01=>V51 s (ctx.length + 1) b ⟨r.1,r.2.1,r.2.2.1,r.2.2.2⟩) (.ite (fun _=>?_) (fun _=>.of ht2)) ?_
   ·rw [sOp,bs]
    exact .of ((V54 (i:=0) (by omega)).mono hb1)
   ·rintro ⟨a1,a2,a3,a4⟩ ha
    simp only at ha ⊢
    rw [Krz (by omega)]
    exact ih (i + 1) c2 a1 a2 a3 a4 (by omega) h2 ha
 rw [Kh9.eq_def]
 simp only
 have i0:idx ((3 + (g:Int)) :: (p ++ q)) 0=some (3 + (g:Int)):=rfl
 rw [P.p0,bs,P.p1,bs,i0,bs,V1v g hg15,bs,Kyk ctx [p] (by simp; omega),bs]
 refine Gv.bind (H c h) ?_
 rintro ⟨⟨x1,x2,x3,x4⟩,c1⟩ ⟨ht,h1⟩
 simp only at ht h1 ⊢
 refine Gv.bind (loop 3 0 c1 x1 x2 x3 x4 rfl h1 ht) ?_
 rintro ⟨a1,a2,a3,a4,a5,a6,a7⟩ ⟨q1,q2⟩
 exact .of ⟨V5m hs hg P.ya q1,q2⟩
theorem V5p {deep:Int} {f:List Int→Nat} {B:Nat} {ctx:List (List Int)} {ty:List Int} (hd:-900 ≤ deep∧deep ≤ 100) (hc:V52 s ctx) (hl:ctx.length ≤ 900) (hty:TyS s ty)
  (hB:1 ≤ B) (hf1:∀ q,1 ≤ q.length→1 ≤ f q) (hf:∀ q,f q ≤ 300000) (hB2:∀ a b:List Int,a.length + b.length + 1=ty.length→1 + f a + f b ≤ B) (hB1:∀ a:List Int,a.length < ty.length→1 + f a ≤ B) (hBa:0 < deep→1 + f ty + f ty ≤ B)
  (H:∀ c ctx' ty',V29 c→V52 s ctx'→ctx'.length ≤ ctx.length + 1→(ctx'.length=ctx.length∨ty'.length + 2 ≤ ty.length)→TyS s ty'→(ty'.length < ty.length∨0 < deep∧ty'=ty)→Gv (Kh8 (c,s,ctx',ty',wr (deep - 1))) (Dr s ctx'.length (f ty')))
  (HA:0 < deep→∀ c,V29 c→Gv (Khb (c,s,ctx,ty,wr (deep - 1))) (Dr s ctx.length B)) (c:K02) (h:V29 c):Gv (Kh8 (c,s,ctx,ty,deep)) (Dr s ctx.length B):=by
 have htl:=Kz8 hty
 rw [Kh8.eq_def]
 simp only
 refine Gv.bind (V2g h 5) ?_
 rintro ⟨x,c1⟩ ⟨hx,h1⟩
 simp only at hx h1 ⊢
 refine Gv.bind (Q:=fun fl:(List Int × Int × Int) ⊕ (K01 × K02)=>match fl with | .inl r=>V29 ⟨r.1,r.2.1,r.2.2⟩ | .inr r=>Dr s ctx.length B r) (.ite (fun _=>?_) (fun _=>.of h1)) ?_
 ·refine Gv.bind (V2g h1 _) ?_
  rintro ⟨y,c2⟩ ⟨hy,h2⟩
  simp only at hy h2 ⊢
  by_cases h0:ctx.length=0
  ·have e:Kh0 (c,s,ctx,ty,deep,y,c2,0)=some (.inl ()):=by
    rw [Kh0.eq_def]
    simp only
    rw [decide_eq_false (by omega),if_neg (by decide)]
   rw [e,bs]
   exact .of h2
  ·have l0:=V5n (s:=s) (c0:=c) h2 (ctx:=ctx) (ty:=ty) (deep:=deep) (by omega) (by omega) (hy.1 (by omega)) (fun q hq=>by have:=Kz8 (hc q hq); omega) ctx.length 0 (by omega)
   rw [show ((0:Nat):Int)=0 from rfl] at l0
   refine Gv.bind l0 ?_
   rintro (u | r) hr
   ·exact .of h2
   ·exact .of ⟨hr.1.mono hB,hr.2⟩
 rintro (⟨a1,a2,a3⟩ | r) q
 rotate_left
 ·exact .of q
 simp only at q ⊢
 refine Gv.bind (Q:=fun r:List Int × Int × Int × Bool=>V29 ⟨r.1,r.2.1,r.2.2.1⟩∧(r.2.2.2=true→0 < deep)) (.ite (fun hb=>?_) (fun _=>.of ⟨q,fun h=>by cases h⟩)) ?_
 ·have hb:=of_decide_eq_true hb
  exact Gv.bind (V2h q 3) (by rintro ⟨v,c2⟩ h2; exact .of ⟨h2,fun _=>hb⟩)
 rintro ⟨b1,b2,b3,v⟩ ⟨h3,hv⟩
 simp only at h3 hv ⊢
 refine .ite (fun hvt=>?_) (fun _=>?_)
 ·refine Gv.bind (HA (hv hvt) _ h3) ?_
  rintro ⟨t,c4⟩ ht
  exact .of ht
 obtain ⟨c0,t0,rfl⟩:∃ c0 t0,ty=c0 :: t0:=by
  cases ty with
  | nil=>have:=V50 hty; simp at this
  | cons c0 t0=>exact ⟨c0,t0,rfl⟩
 rw [show idx (c0 :: t0) 0=some c0 from rfl,bs]
 have add:Gv ((if (c0 == 0)=true then if decide (deep > 0)=true then Kaa (⟨b1,b2,b3⟩,2) >>= fun (r:Bool × K02)=>some (r.2.fb,r.2.fi,r.2.fh,r.1) else some (b1,b2,b3,false) else some (b1,b2,b3,false)):Option (List Int × Int × Int × Bool)) (fun r=>V29 ⟨r.1,r.2.1,r.2.2.1⟩∧(r.2.2.2=true→0 < deep)):=by
  refine .ite (fun _=>.ite (fun hb=>?_) (fun _=>.of ⟨h3,fun h=>by cases h⟩)) (fun _=>.of ⟨h3,fun h=>by cases h⟩)
  have hb:=of_decide_eq_true hb
  exact Gv.bind (V2h h3 2) (by rintro ⟨v,c2⟩ h2; exact .of ⟨h2,fun _=>hb⟩)
 refine Gv.bind add ?_
 rintro ⟨d1,d2,d3,w⟩ ⟨h4,hw⟩
 simp only at h4 hw ⊢
 refine .ite (fun hwt=>?_) (fun _=>?_)
 ·have hp:=hw hwt
  refine Gv.bind (H _ ctx _ h4 hc (by omega) (.inl rfl) hty (.inr ⟨hp,rfl⟩)) ?_
  rintro ⟨t1,e1⟩ ⟨ht1,k1⟩
  simp only at ht1 k1 ⊢
  refine Gv.bind (H _ ctx _ k1 hc (by omega) (.inl rfl) hty (.inr ⟨hp,rfl⟩)) ?_
  rintro ⟨t2,e2⟩ ⟨ht2,k2⟩
  simp only at ht2 k2 ⊢
  rw [sOp,bs]
  exact .of ⟨(V56 (.inl rfl) ht1 ht2).mono (hBa hp),k2⟩
 rcases Kzh hs hty with e | ⟨a,b,e,P⟩ | ⟨a,b,e,P⟩ | ⟨g,a,b,hg,h15,e,P⟩ | ⟨g,a,hg,h15,e,P⟩
 ·cases e
  rw [if_pos (by decide)]
  refine Gv.bind (V2g h4 3) ?_
  rintro ⟨y,c2⟩ ⟨hy,h2⟩
  simp only at hy h2 ⊢
  rw [sOp,bs]
  exact .of ⟨(V55 (hy.1 (by decide))).mono hB,h2⟩
 ·have hlen:a.length + b.length + 1=(c0 :: t0).length:=by rw [e]; simp
  have la:a.length < (c0 :: t0).length:=by omega
  have lb:b.length < (c0 :: t0).length:=by omega
  cases e
  rw [if_neg (by decide),if_pos (by decide),P.p0,bs]
  refine Gv.bind (H _ ctx _ h4 hc (by omega) (.inl rfl) P.ya (.inl la)) ?_
  rintro ⟨t1,e1⟩ ⟨ht1,k1⟩
  simp only at ht1 k1 ⊢
  rw [P.p1,bs]
  refine Gv.bind (H _ ctx _ k1 hc (by omega) (.inl rfl) P.yb (.inl lb)) ?_
  rintro ⟨t2,e2⟩ ⟨ht2,k2⟩
  simp only at ht2 k2 ⊢
  rw [sOp,bs]
  exact .of ⟨(V56 (.inr (.inl rfl)) ht1 ht2).mono (hB2 a b hlen),k2⟩
 ·have hlen:a.length + b.length + 1=(c0 :: t0).length:=by rw [e]; simp
  have la:a.length < (c0 :: t0).length:=by omega
  have lb:b.length < (c0 :: t0).length:=by omega
  cases e
  rw [if_neg (by decide),if_neg (by decide)]
  refine Gv.bind (Q:=fun r:List Int × Int × Int × Bool=>V29 ⟨r.1,r.2.1,r.2.2.1⟩) (.ite (fun _=>?_) (fun _=>.of h4)) ?_
  ·exact Gv.bind (V2h h4 2) (by rintro ⟨v,c2⟩ h2; exact .of h2)
  rintro ⟨f1,f2,f3,z⟩ h5
  simp only at h5 ⊢
  refine .ite (fun _=>?_) (fun _=>?_)
  ·rw [P.p1,bs,P.p0,bs]
   refine Gv.bind (H _ ctx _ h5 hc (by omega) (.inl rfl) P.ya (.inl la)) ?_
   rintro ⟨t1,e1⟩ ⟨ht1,k1⟩
   simp only at ht1 k1 ⊢
   exact .of ⟨(V58 (.inl rfl) P.yb ht1).mono (hB1 a la),k1⟩
  ·rw [if_pos (by decide),P.p0,bs,P.p1,bs]
   refine Gv.bind (H _ ctx _ h5 hc (by omega) (.inl rfl) P.yb (.inl lb)) ?_
   rintro ⟨t1,e1⟩ ⟨ht1,k1⟩
   simp only at ht1 k1 ⊢
   exact .of ⟨(V58 (.inr rfl) P.ya ht1).mono (hB1 b lb),k1⟩
 ·have hlen:a.length + b.length + 1=(c0 :: t0).length:=by rw [e]; simp
  have hal:=V50 P.ya
  have lb:b.length < (c0 :: t0).length:=by omega
  have lb2:b.length + 2 ≤ (c0 :: t0).length:=by omega
  cases e
  have hbx:Keg (3 + (g:Int))=some false:=by rw [Kt9,V1t g h15]
  rw [if_neg (by simp; omega),if_neg (by simp; omega),if_neg (by simp; omega),bs]
  simp only
  rw [if_neg (by decide),if_neg (by simp; omega),hbx,bs,if_neg (by decide)]
  have F:=V5o hs hg P h15 hc hl (b:=f b) (hf b) (hf1 b (V50 P.yb)) hd (fun c hcc=>H c (a :: ctx) b hcc (V53 hc P.ya) (by simp) (.inr lb2) P.yb (.inl lb)) _ h4
  refine Gv.bind F ?_
  rintro ⟨t1,e1⟩ ⟨ht1,k1⟩
  exact .of ⟨ht1.mono (hB1 b lb),k1⟩
 ·have hlen:a.length + 1=(c0 :: t0).length:=by rw [e]; simp
  have la:a.length < (c0 :: t0).length:=by omega
  cases e
  have hbx:Keg (19 + (g:Int))=some true:=by rw [Kt9,V1u g h15]
  rw [if_neg (by simp; omega),if_neg (by simp; omega),if_neg (by simp; omega),bs]
  simp only
  rw [if_neg (by decide),if_neg (by simp; omega),hbx,bs,if_pos rfl,V1w g h15,bs,P.p0,bs]
  refine Gv.bind (H _ ctx _ h4 hc (by omega) (.inl rfl) P.ya (.inl la)) ?_
  rintro ⟨t1,e1⟩ ⟨ht1,k1⟩
  simp only at ht1 k1 ⊢
  rw [sOp,bs]
  exact .of ⟨(V5l hs hg ht1).mono (hB1 _ la),k1⟩
end
mutual
theorem V5q {g g':Int→Bool} {y y':List Int→Bool} (hg:∀ x,g x=true→g' x=true) (hy:∀ q,y q=true→y' q=true):∀ (t:K01) (n:Nat),tOk g y n t=true→tOk g' y' n t=true
 | ⟨op,N,ty,ks⟩,n,h=>by
  rw [Kwx,Bool.and_eq_true] at h ⊢
  refine ⟨?_,V5r hg hy ks op n 0 h.2⟩
  have h1:=h.1
  unfold Kun Kul Kum at h1 ⊢
  simp only [Bool.and_eq_true] at h1 ⊢
  refine ⟨⟨h1.1.1,?_⟩,?_⟩
  ·have h2:=h1.1.2
   split at h2
   ·rename_i q; rw [if_pos q]; exact h2
   ·rename_i q
    rw [if_neg q]
    split at h2
    ·rename_i q2; rw [if_pos q2]; exact h2
    ·rename_i q2
     rw [if_neg q2]
     split at h2
     ·rename_i q3; rw [if_pos q3]; exact hg _ h2
     ·rename_i q3; rw [if_neg q3]; exact h2
  ·have h2:=h1.2
   split at h2
   ·rename_i q; rw [if_pos q]; exact hy _ h2
   ·rename_i q; rw [if_neg q]; exact h2
theorem V5r {g g':Int→Bool} {y y':List Int→Bool} (hg:∀ x,g x=true→g' x=true) (hy:∀ q,y q=true→y' q=true):∀ (ks:List K01) (op:Int) (n i:Nat),Kuo g y op n i ks=true→Kuo g' y' op n i ks=true
 | [],op,n,i,_=>by rw [Kuo]
 | k :: ks,op,n,i,h=>by
  rw [Kwy,Bool.and_eq_true] at h ⊢
  exact ⟨V5q hg hy k _ h.1,V5r hg hy ks op n (i + 1) h.2⟩
end
theorem V51.tms {s:K00} {m b:Nat} {t:K01} (h:V51 s m b t):tms t ≤ 43 * b:=by
 have h1:=V5q (g':=gN s.fSize true) (y':=wtB) (fun _ h=>h) (fun q hq=>by unfold yN at hq; rw [Bool.and_eq_true] at hq; exact hq.1) t m h.1
 have:=(Kxb t m h1).1
 have:=h.2
 omega
theorem V5s {s:K00} {m b:Nat} {t:K01} (h:V51 s m b t) (hm:m ≤ 1000) (hb:b ≤ 100000):∃ u,Kgp (t,1,0)=some u∧V51 s (m + 1) b u:=by
 have h2:=h.2
 have h3:=h.tms
 refine ⟨shf ((1:Nat):Int) 0 t,?_,?_,?_⟩
 ·exact Kwf 1 1000000 (by decide) (by decide) t 0 (Kwh (by omega) t (Kwj _ _ t m h.1)) (by omega) (by decide) (by omega)
 ·exact Kx9 _ _ 1 t m 0 h.1
 ·rw [Kx5]; exact h.2
def V5t (s:K00) (D b:Nat):Prop:=∀ (deep:Int) (ctx:List (List Int)) (ty:List Int),deep ≤ D→-500 ≤ deep→ty.length ≤ 7→V52 s ctx→ctx.length + 20 * D + 7 ≤ 500→TyS s ty→∀ c,V29 c→Gv (Kh8 (c,s,ctx,ty,deep)) (Dr s ctx.length b)
section
variable {s:K00} {n:Nat} (hs:Kxm s n)
include hs
theorem V5u:∀ (L:Nat) (deep:Int) (ctx:List (List Int)) (ty:List Int),ty.length ≤ L→L ≤ 40→deep ≤ 0→-900 + (ty.length:Int) ≤ deep→V52 s ctx→ctx.length + ty.length ≤ 900→TyS s ty→∀ c,V29 c→Gv (Kh8 (c,s,ctx,ty,deep)) (Dr s ctx.length ty.length):=by
 intro L
 induction L with
 | zero =>
  intro deep ctx ty h1 _ _ _ _ _ ht
  have:=V50 ht
  omega
 | succ L ih =>
  intro deep ctx ty h1 hL hd0 hd hc hl ht c h
  have htp:=V50 ht
  refine V5p hs (f:=fun q=>min q.length 300000) (B:=ty.length) (by omega) hc (by omega) ht htp (fun q hq=>by omega) (fun q=>by omega) (fun a b hab=>by omega) (fun a ha=>by omega) (fun h=>absurd h (by omega)) (fun c' ctx' ty' hc' hcx hlx hor hty' hlt=>?_) (fun h=>absurd h (by omega)) c h
  have hty:ty'.length < ty.length:=by
   rcases hlt with h | h
   ·exact h
   ·omega
  rw [Krx (by omega) (by omega)]
  have:=ih (deep - 1) ctx' ty' (by omega) (by omega) (by omega) (by omega) hcx (by omega) hty' c' hc'
  refine this.mono (fun r hr=>⟨hr.1.mono ?_,hr.2⟩)
  have:=Kz8 hty'
  omega
theorem V5v:V5t s 0 7:=fun deep ctx ty h1 h2 h3 h4 h5 h6 c h =>
 (V5u hs 7 deep ctx ty h3 (by decide) (by omega) (by omega) h4 (by omega) h6 c h).mono (fun r hr=>⟨hr.1.mono h3,hr.2⟩)
theorem V5w {c:K02} (h:V29 c) (data:Bool):Gv (Kdt (c,s,1,data)) (fun r=>(TyS s r.1∧r.1.length ≤ 3)∧V29 r.2) :=
 (V5b hs 1 c data (by decide) h).mono (fun r hr=>⟨⟨hr.1.1,by have:=hr.1.2; omega⟩,hr.2⟩)
theorem V5x {c:K02} (h:V29 c) (data:Bool):Gv (Kdt (c,s,2,data)) (fun r=>(TyS s r.1∧r.1.length ≤ 7)∧V29 r.2) :=
 (V5b hs 2 c data (by decide) h).mono (fun r hr=>⟨⟨hr.1.1,by have:=hr.1.2; omega⟩,hr.2⟩)
theorem V5y {D b:Nat} (IH:V5t s D b) (hb1:7 ≤ b) (hb:b ≤ 90000) {deep:Int} (hd:0 ≤ deep∧deep ≤ D) (hD:D ≤ 10) {ctx:List (List Int)} {ty:List Int} (hc:V52 s ctx) (hl:ctx.length + 2 + 20 * D + 7 ≤ 500) (ht:TyS s ty) (htl:ty.length ≤ 7) (c:K02) (h:V29 c) :
  Gv (Khb (c,s,ctx,ty,deep)) (Dr s ctx.length (5 + 3 * b)):=by
 have h1n:1 < n:=hs.tab.lo
 have hn16:=hs.tab.hi
 rw [Khb.eq_def]
 simp only
 refine Gv.bind (V2g h 6) ?_
 rintro ⟨x,c0⟩ ⟨hx,h0⟩
 simp only at hx h0 ⊢
 refine .ite (fun _=>?_) (fun _=>.ite (fun _=>?_) (fun _=>.ite (fun _=>?_) (fun _=>.ite (fun _=>?_) (fun _=>?_))))
 ·refine Gv.bind (IH deep ctx [0] hd.2 (by omega) (by decide) hc (by omega) Kze _ h0) ?_
  rintro ⟨t1,c1⟩ ⟨k1,h1⟩
  simp only at k1 h1 ⊢
  refine Gv.bind (IH deep ctx ty hd.2 (by omega) htl hc (by omega) ht _ h1) ?_
  rintro ⟨t2,c2⟩ ⟨k2,h2⟩
  simp only at k2 h2 ⊢
  refine Gv.bind (IH deep ctx ty hd.2 (by omega) htl hc (by omega) ht _ h2) ?_
  rintro ⟨t3,c3⟩ ⟨k3,h3⟩
  simp only at k3 h3 ⊢
  rw [sOp,bs]
  exact .of ⟨(V57 k1 k2 k3).mono (by omega),h3⟩
 ·refine Gv.bind (V2h h0 2) ?_
  rintro ⟨v,c1⟩ h1
  simp only at h1 ⊢
  refine Gv.bind (V5w hs h1 v) ?_
  rintro ⟨a,c2⟩ ⟨⟨ta,la⟩,h2⟩
  simp only at ta la h2 ⊢
  refine Gv.bind (V5w hs h2 true) ?_
  rintro ⟨e,c3⟩ ⟨⟨te,le_⟩,h3⟩
  simp only at te le_ h3 ⊢
  have hc':V52 s (e :: a :: ctx):=V53 (V53 hc ta) te
  rw [Kyk ctx [e,a] (by simp; omega),bs]
  refine Gv.bind (IH deep (e :: a :: ctx) ty hd.2 (by omega) htl hc' (by simp; omega) ht _ h3) ?_
  rintro ⟨t1,c4⟩ ⟨k1,h4⟩
  simp only at k1 h4 ⊢
  obtain ⟨g0,z0,n0⟩:=V5d hs hc' (by simp; omega) (by omega) (t:=t1) (b:=b) (by simpa using k1) 0 (by simp)
  obtain ⟨g1,z1,n1⟩:=V5d hs hc' (by simp; omega) (by omega) (t:=t1) (b:=b) (by simpa using k1) 1 (by simp)
  have n0:Kgb (s,[e,a] ++ ctx,t1,0)=some (g0:Int):=n0
  have n1:Kgb (s,[e,a] ++ ctx,t1,1)=some (g1:Int):=n1
  obtain ⟨g2,z2,n2⟩:=V5e hs z0 z1
  obtain ⟨g3,z3,n3⟩:=V5e hs h1n z2
  rw [n0,bs,n1,bs,n2,bs,show (1:Int)=((1:Nat):Int) from rfl,n3,bs]
  refine Gv.bind (V5g hs h4 z3) ?_
  rintro ⟨q,c5⟩ ⟨⟨g4,z4,rfl⟩,h5⟩
  simp only at h5 ⊢
  rw [show ((1:Nat):Int)=1 from rfl,V4t _ _ _ (by omega),bs]
  refine Gv.bind (IH deep ctx (1 :: (a ++ e)) hd.2 (by omega) (by simp; omega) hc (by omega) (V4w rfl V4y ta te (by omega)) _ h5) ?_
  rintro ⟨t2,c6⟩ ⟨k2,h6⟩
  simp only at k2 h6 ⊢
  rw [sOp,bs]
  exact .of ⟨(V5i hs z4 k2 (by simpa using k1)).mono (by omega),h6⟩
 ·refine Gv.bind (V5w hs h0 true) ?_
  rintro ⟨a,c2⟩ ⟨⟨ta,la⟩,h2⟩
  simp only at ta la h2 ⊢
  refine Gv.bind (V5w hs h2 true) ?_
  rintro ⟨e,c3⟩ ⟨⟨te,le_⟩,h3⟩
  simp only at te le_ h3 ⊢
  have hca:V52 s (a :: ctx):=V53 hc ta
  have hce:V52 s (e :: ctx):=V53 hc te
  rw [Kyk ctx [a] (by simp; omega),bs,Kyk ctx [e] (by simp; omega),bs]
  refine Gv.bind (IH deep (a :: ctx) ty hd.2 (by omega) htl hca (by simp; omega) ht _ h3) ?_
  rintro ⟨t1,c4⟩ ⟨k1,h4⟩
  simp only at k1 h4 ⊢
  refine Gv.bind (IH deep (e :: ctx) ty hd.2 (by omega) htl hce (by simp; omega) ht _ h4) ?_
  rintro ⟨t2,c5⟩ ⟨k2,h5⟩
  simp only at k2 h5 ⊢
  obtain ⟨g0,z0,n0⟩:=V5d hs hca (by simp; omega) (by omega) (t:=t1) (b:=b) (by simpa using k1) 0 (by simp)
  obtain ⟨g1,z1,n1⟩:=V5d hs hce (by simp; omega) (by omega) (t:=t2) (b:=b) (by simpa using k2) 0 (by simp)
  have n0:Kgb (s,[a] ++ ctx,t1,0)=some (g0:Int):=n0
  have n1:Kgb (s,[e] ++ ctx,t2,0)=some (g1:Int):=n1
  obtain ⟨g2,z2,n2⟩:=V5e hs z0 z1
  obtain ⟨g3,z3,n3⟩:=V5e hs h1n z2
  rw [n0,bs,n1,bs,n2,bs,show (1:Int)=((1:Nat):Int) from rfl,n3,bs]
  refine Gv.bind (V5g hs h5 z3) ?_
  rintro ⟨q,c6⟩ ⟨⟨g4,z4,rfl⟩,h6⟩
  simp only at h6 ⊢
  rw [V4t _ _ _ (by omega),bs]
  refine Gv.bind (IH deep ctx (2 :: (a ++ e)) hd.2 (by omega) (by simp; omega) hc (by omega) (V4w rfl V4z ta te (by omega)) _ h6) ?_
  rintro ⟨t3,c7⟩ ⟨k3,h7⟩
  simp only at k3 h7 ⊢
  rw [sOp,bs]
  exact .of ⟨(V5j hs z4 k3 (by simpa using k1) (by simpa using k2)).mono (by omega),h7⟩
 ·refine Gv.bind (V2h h0 2) ?_
  rintro ⟨v,c1⟩ h1
  simp only at h1 ⊢
  refine Gv.bind (V5w hs h1 v) ?_
  rintro ⟨a,c2⟩ ⟨⟨ta,la⟩,h2⟩
  simp only at ta la h2 ⊢
  have hca:V52 s (a :: ctx):=V53 hc ta
  rw [Kyk ctx [a] (by simp; omega),bs]
  refine Gv.bind (IH deep (a :: ctx) ty hd.2 (by omega) htl hca (by simp; omega) ht _ h2) ?_
  rintro ⟨t1,c4⟩ ⟨k1,h4⟩
  simp only at k1 h4 ⊢
  obtain ⟨g0,z0,n0⟩:=V5d hs hca (by simp; omega) (by omega) (t:=t1) (b:=b) (by simpa using k1) 0 (by simp)
  have n0:Kgb (s,[a] ++ ctx,t1,0)=some (g0:Int):=n0
  rw [n0,bs]
  refine Gv.bind (V5g hs h4 z0) ?_
  rintro ⟨q,c6⟩ ⟨⟨g4,z4,rfl⟩,h6⟩
  simp only at h6 ⊢
  obtain ⟨k19,l19⟩:=V5a hs z4
  rw [Krx (by omega) (by omega),V4s _ _ (by omega),bs]
  refine Gv.bind (IH deep ctx ((19 + (g4:Int)) :: a) hd.2 (by omega) (by simp; omega) hc (by omega) (V4x k19 l19 ta (by omega)) _ h6) ?_
  rintro ⟨t2,c7⟩ ⟨k2,h7⟩
  simp only at k2 h7 ⊢
  rw [sOp,bs]
  exact .of ⟨(V5k hs h1n k2 (by simpa using k1)).mono (by omega),h7⟩
 ·refine Gv.bind (V2h h0 2) ?_
  rintro ⟨v,c1⟩ h1
  simp only at h1 ⊢
  refine Gv.bind (V5x hs h1 v) ?_
  rintro ⟨a,c2⟩ ⟨⟨ta,la⟩,h2⟩
  simp only at ta la h2 ⊢
  have hca:V52 s (a :: ctx):=V53 hc ta
  rw [Kyk ctx [a] (by simp; omega),bs]
  refine Gv.bind (IH deep (a :: ctx) ty hd.2 (by omega) htl hca (by simp; omega) ht _ h2) ?_
  rintro ⟨t1,c4⟩ ⟨k1,h4⟩
  simp only at k1 h4 ⊢
  obtain ⟨g0,z0,n0⟩:=V5d hs hca (by simp; omega) (by omega) (t:=t1) (b:=b) (by simpa using k1) 0 (by simp)
  have n0:Kgb (s,[a] ++ ctx,t1,0)=some (g0:Int):=n0
  rw [n0,bs]
  refine Gv.bind (V5g hs h4 z0) ?_
  rintro ⟨q,c6⟩ ⟨⟨g4,z4,rfl⟩,h6⟩
  simp only at h6 ⊢
  obtain ⟨k3,l3⟩:=V59 hs z4
  refine Gv.bind (V2h h6 4) ?_
  rintro ⟨w,c7⟩ h7
  simp only at h7 ⊢
  have arg:=IH (deep - 1) ctx a (by omega) (by omega) la hc (by omega) ta c7 h7
  have ew:wr (deep - 1)=deep - 1:=Krx (by omega) (by omega)
  have kf:=V5m hs z4 ta (b1:=b) (by simpa using k1)
  refine Gv.bind (Q:=fun fl:Unit ⊕ (K01 × K02)=>match fl with | .inl _=>True | .inr r=>Dr s ctx.length (5 + 3 * b) r) (.ite (fun _=>?_) (fun _=>.of trivial)) ?_
  ·rw [Krx (by omega) (by omega),V4t _ _ _ (by omega),bs]
   refine .ite (fun hlt=>?_) (fun _=>.of trivial)
   have hlt:=of_decide_eq_true hlt
   rw [sOp,bs,ew]
   refine Gv.bind arg ?_
   rintro ⟨t2,c8⟩ ⟨k2,h8⟩
   simp only at k2 h8 ⊢
   obtain ⟨u,e1,e2⟩:=V5s k2 (by omega) (by omega)
   rw [e1,bs,sOp,bs,sOp,bs]
   have kc:=V56 (.inr (.inr rfl)) (V54 (s:=s) (m:=ctx.length + 1) (i:=0) (by omega)) e2
   have kg:=V5m hs h1n (V4w k3 l3 ta ht (by simp at hlt; omega)) kc
   exact .of ⟨(V56 (.inr (.inr rfl)) kg kf).mono (by omega),h8⟩
  ·rintro (u | r) q
   ·rw [ew]
    refine Gv.bind arg ?_
    rintro ⟨t2,c8⟩ ⟨k2,h8⟩
    simp only at k2 h8 ⊢
    rw [sOp,bs]
    exact .of ⟨(V56 (.inr (.inr rfl)) kf k2).mono (by omega),h8⟩
   ·exact .of q
theorem V5z {D b:Nat} (IH:V5t s D b) (hb1:7 ≤ b) (hb:b ≤ 90000) (hD:D ≤ 10):V5t s (D + 1) (5 + 3 * b):=by
 intro deep ctx ty h1 h2 h3 hc hl ht c h
 by_cases hd:deep ≤ D
 ·exact (IH deep ctx ty hd h2 h3 hc (by omega) ht c h).mono (fun r hr=>⟨hr.1.mono (by omega),hr.2⟩)
 have hdw:wr (deep - 1)=deep - 1:=Krx (by omega) (by omega)
 refine V5p hs (f:=fun _=>b) (B:=5 + 3 * b) (by omega) hc (by omega) ht (by omega) (fun _ _=>by omega) (fun _=>by omega) (fun _ _ _=>by omega) (fun _ _=>by omega) (fun _=>by omega) (fun c' ctx' ty' hc' hcx hlx hor hty' hlt=>?_) (fun _ c' hc'=>?_) c h
 ·rw [hdw]
  refine IH (deep - 1) ctx' ty' (by omega) (by omega) ?_ hcx (by omega) hty' c' hc'
  rcases hlt with q | ⟨_,rfl⟩
  ·omega
  ·exact h3
 ·rw [hdw]
  exact V5y hs IH hb1 hb (by omega) hD hc (by omega) ht h3 c' hc'
theorem V60:V5t s 4 767:=V5z hs (V5z hs (V5z hs (V5z hs (V5v hs) (by decide) (by decide) (by decide)) (by decide) (by decide) (by decide)) (by decide) (by decide) (by decide)) (by decide) (by decide) (by decide)
end
def V61 (s:K00) (n:Nat) (x:Nat) (g:Int):Bool:=Kvy s g && le s n x g.toNat
def V62 (s:K00) (n:Nat) (a:List Nat) (b:List Int):Bool:=(List.zipWith (V61 s n) a b).all id
section
variable {s:K00} {n:Nat} (hs:Kxm s n)
include hs
theorem V63 {g:Int} (h:Kvy s g=true):∃ k:Nat,g=(k:Int)∧k < n:=Kzk hs (by rw [← Kz3 hs.tab]; exact h)
theorem V64 (a:List Nat) (b:List Int) (ha:Kxx n a) (hl:a.length ≤ 1048576):∀ (al:List Nat) (bl:List Int) (i:Nat),a.drop i=al→b.drop i=bl→al.length=bl.length →
  Krh (s,Kxh a,b,(i:Int))=some (if V62 s n al bl then .inl () else .inr false):=by
 intro al
 induction al with
 | nil =>
  intro bl i hd hd2 he
  rw [Krh.eq_def]
  simp only
  rw [Kxi,Ks1 (Kt4 hd)]
  rfl
 | cons x al ih =>
  intro bl i hd hd2 he
  obtain ⟨h1,h2,h3⟩:=Kxl hd
  have hx:x < n:=Kxz ha i x (by rw [hd]; exact List.mem_cons_self)
  match bl,he,hd2 with
  | g :: bl,he,hd2 =>
  obtain ⟨k1,k2,k3⟩:=Kt3 hd2
  rw [Krh.eq_def]
  simp only
  rw [Kxi,Ks0 h1,if_pos rfl,k2,bs,sIn,bs]
  have e:V62 s n (x :: al) (g :: bl)=(V61 s n x g && V62 s n al bl):=rfl
  rw [e]
  unfold V61
  cases hg:Kvy s g with
  | false =>
   unfold Kvy at hg
   rw [hg]
   rfl
  | true =>
   obtain ⟨k,rfl,hk⟩:=V63 hs hg
   have hg':=hg
   unfold Kvy at hg
   rw [hg,if_pos rfl,h2,bs,bs,sLe hs.tab hx hk,bs,bs,Int.toNat_natCast,Bool.true_and]
   cases hle:le s n x k with
   | false=>rfl
   | true =>
    rw [if_neg (by decide),Krz (by omega),ih bl (i + 1) h3 k3 (by simpa using he),Bool.true_and]
theorem V65 (a:List Nat) (b:List Int) (ha:Kxx n a) (hl:b.length ≤ 1048576):∀ (al:List Nat) (bl:List Int) (i:Nat),a.drop i=al→b.drop i=bl→al.length=bl.length →
  Kpl (s,b,Kxh a,(i:Int))=some (if V62 s n al bl then .inl () else .inr false):=by
 intro al
 induction al with
 | nil =>
  intro bl i hd hd2 he
  match bl,he,hd2 with
  | [],he,hd2 =>
  rw [Kpl.eq_def]
  simp only
  rw [Ks1 (Kt4 hd2)]
  rfl
 | cons x al ih =>
  intro bl i hd hd2 he
  obtain ⟨h1,h2,h3⟩:=Kxl hd
  have hx:x < n:=Kxz ha i x (by rw [hd]; exact List.mem_cons_self)
  match bl,he,hd2 with
  | g :: bl,he,hd2 =>
  obtain ⟨k1,k2,k3⟩:=Kt3 hd2
  rw [Kpl.eq_def]
  simp only
  rw [Ks0 k1,if_pos rfl,k2,bs,Kvz,bs]
  have e:V62 s n (x :: al) (g :: bl)=(V61 s n x g && V62 s n al bl):=rfl
  rw [e]
  unfold V61
  cases hg:Kvy s g with
  | false=>rfl
  | true =>
   obtain ⟨k,rfl,hk⟩:=V63 hs hg
   rw [if_pos rfl,h2,bs,iLe hs.tab hx hk,bs,bs,Int.toNat_natCast,Bool.true_and]
   cases hle:le s n x k with
   | false=>rfl
   | true =>
    rw [if_neg (by decide),Krz (by omega),ih bl (i + 1) h3 k3 (by simpa using he),Bool.true_and]
theorem V66 (a:List Nat) (b:List Int) (ha:Kxx n a) (hl:a.length ≤ 1048576):Krk (s,Kxh a,b)=some (decide (a.length=b.length) && V62 s n a b):=by
 unfold Krk
 simp only
 rw [Kxi]
 by_cases h:a.length=b.length
 ·rw [if_neg (by simp [h]),show (0:Int)=((0:Nat):Int) from rfl,V64 hs a b ha hl a b 0 rfl rfl h,bs,decide_eq_true h,Bool.true_and]
  cases V62 s n a b <;> rfl
 ·rw [if_pos (bne_iff_ne.2 (by omega)),decide_eq_false h,Bool.false_and]
end
theorem V67 (x0:K00) (x1:List (List Int)) (x2:List Int) (x3:K01) (x4:List Int) (b0:sms x0 ≤ 1048576) (b1:lms x1 ≤ 1048576) (b2:x2.length ≤ 1048576) (b3:tms x3 ≤ 1048576) (h3:tln x3) (b4:x4.length ≤ 1048576) :
  ∃ w0,Krn (x0,x1,x2,x3,x4)=some w0∧Kpo (x0,x1,x2,x3,x4)=some w0∧(w0=true→x1.length=x2.length):=by
 unfold Krn Kpo
 simp only
 rcases V28 x0 x1 x3 b1 (by omega) with ⟨h1,h2,_⟩ | ⟨x,y,r,hf,hi,h1,h2,_⟩
 ·rw [h1,h2]
  exact ⟨false,rfl,rfl,fun h=>by cases h⟩
 ·obtain ⟨g,_,ns,hn,hl,hb⟩:=r.gd hf
  obtain ⟨hs,h8,_⟩:=V25 hi
  rw [h1,h2]
  simp only [bs,if_true]
  rw [Kwt x.fty x4 (by omega),Kwv x.fty x4 (by omega),bs,bs,hn]
  cases x.fty == x4 with
  | false=>exact ⟨false,rfl,rfl,fun h=>by cases h⟩
  | true =>
   rw [if_pos rfl,if_pos rfl,V66 hs ns x2 hb (by omega),bs,bs,bs]
   refine ⟨_,rfl,?_,fun h=>by simp at h; omega⟩
   by_cases h:ns.length=x2.length
   ·rw [if_neg (by simp; omega),show (0:Int)=((0:Nat):Int) from rfl,V65 hs ns x2 hb b2 ns x2 0 rfl rfl h,bs,decide_eq_true h,Bool.true_and]
    cases V62 x0 x0.fSize.toNat ns x2 <;> rfl
   ·rw [if_pos (bne_iff_ne.2 (by omega)),decide_eq_false h,Bool.false_and]
def V68 (s:K00) (m:Nat) (ctx:List (List Int)):Prop:=V52 s ctx∧ctx.length ≤ m∧∀ q ∈ ctx,q.length ≤ 7
section
variable {s:K00} {n:Nat} (hs:Kxm s n)
include hs
theorem V69 (data:Bool):∀ (k m:Nat) (c:K02) (out:List (List Int)),V29 c→V68 s m out→m + k ≤ 1000→Gv (Kdx (s,data,c.fb,c.fi,c.fh,out,(k:Int))) (fun r=>V68 s (m + k) r.1∧V29 ⟨r.2.1,r.2.2.1,r.2.2.2⟩):=by
 intro k
 induction k with
 | zero =>
  intro m c out h ho hm
  rw [Kdx.eq_def]
  simp only
  rw [decide_eq_false (by omega),if_neg (by decide)]
  exact .of ⟨ho,h⟩
 | succ k ih =>
  intro m c out h ho hm
  have hl:=ho.2.1
  rw [Kdx.eq_def]
  simp only
  rw [decide_eq_true (by omega),if_pos rfl]
  refine Gv.bind (V5x hs h data) ?_
  rintro ⟨a,c1⟩ ⟨⟨ta,la⟩,h1⟩
  simp only at ta la h1 ⊢
  rw [Kv0 (by simp; omega),bs,show wr (((k + 1:Nat):Int) - 1)=(k:Int) from by rw [Krx (by omega) (by omega)]; omega]
  have:=ih (m + 1) c1 (out ++ [a]) h1 ⟨fun q hq=>by
   rcases List.mem_append.1 hq with hq | hq
   ·exact ho.1 q hq
   ·rw [List.mem_singleton.1 hq]; exact ta,by simp; omega,fun q hq=>by
   rcases List.mem_append.1 hq with hq | hq
   ·exact ho.2.2 q hq
   ·rw [List.mem_singleton.1 hq]; exact la⟩ (by omega)
  rw [show m + 1 + k=m + (k + 1) by omega] at this
  exact this
theorem V6a {c:K02} (h:V29 c) (most:Nat) (hm:most ≤ 10) (data:Bool):Gv (Ke0 (c,s,(most:Int),data)) (fun r=>V68 s most r.1∧V29 r.2):=by
 unfold Ke0
 simp only
 rw [Krz (by omega)]
 refine Gv.bind (V2g h _) ?_
 rintro ⟨x,c1⟩ ⟨hx,h1⟩
 simp only at hx h1 ⊢
 have hx:=hx.1 (by omega)
 obtain ⟨k,rfl⟩:∃ k:Nat,x=(k:Int):=⟨x.toNat,by omega⟩
 have ho:V68 s 0 []:=⟨fun q hq=>(by cases hq),Nat.le_refl _,fun q hq=>(by cases hq)⟩
 refine Gv.bind (V69 hs data k 0 c1 [] h1 ho (by omega)) ?_
 rintro ⟨a,b,d,e⟩ ⟨q1,q2⟩
 have l1:=q1.2.1
 simp only at l1
 exact .of ⟨⟨q1.1,by simp only; omega,q1.2.2⟩,q2⟩
theorem V6b {c:K02} (h:V29 c) {ctx:List (List Int)} (hc:V52 s ctx) (hl:ctx.length ≤ 100) {deep:Nat} (hd:2 ≤ deep∧deep ≤ 4) (data:Bool):Gv (Khx (c,s,ctx,(deep:Int),data)) (Dr s ctx.length 767):=by
 have A:=V60 hs
 have loop:∀ (k i:Nat) (c0 c:K02) (u1 u2:Int) (u3:List Int) (u4:List K01),i + k=3→V29 c→V51 s ctx.length 767 ⟨u1,u2,u3,u4⟩ →
   Gv (Khu (c0,s,ctx,(deep:Int),data,c.fb,c.fi,c.fh,u1,u2,u3,u4,(i:Int))) (fun fl=>match fl with | .inl r=>V51 s ctx.length 767 ⟨r.1,r.2.1,r.2.2.1,r.2.2.2.1⟩∧V29 ⟨r.2.2.2.2.1,r.2.2.2.2.2.1,r.2.2.2.2.2.2⟩ | .inr r=>Dr s ctx.length 767 r):=by
  intro k
  induction k with
  | zero =>
   intro i c0 c u1 u2 u3 u4 hi h ht
   rw [Khu.eq_def]
   simp only
   rw [decide_eq_false (by omega),if_neg (by decide)]
   exact .of ⟨ht,h⟩
  | succ k ih =>
   intro i c0 c u1 u2 u3 u4 hi h ht
   have htm:=ht.tms
   rw [Khu.eq_def]
   simp only
   rw [decide_eq_true (by omega),if_pos rfl]
   refine Gv.bind (Q:=fun _=>True) ?_ (fun v _=>?_)
   ·rw [show (120:Int)=((120:Nat):Int) from rfl,Ku5 _ 120 (by omega) (by decide),bs]
    refine .ite (fun _=>?_) (fun _=>.of trivial)
    obtain ⟨x,e,_⟩:=V5c hs hc (by omega) (by decide) ht
    rw [e,bs]
    exact .of trivial
   refine .ite (fun _=>.of ⟨ht,h⟩) (fun _=>?_)
   refine Gv.bind (V5w hs h data) ?_
   rintro ⟨a,c1⟩ ⟨⟨ta,la⟩,h1⟩
   simp only at ta la h1 ⊢
   rw [show (2:Int)=((2:Nat):Int) from rfl,Kw9,bs]
   refine Gv.bind (A ((min deep 2:Nat):Int) ctx a (by omega) (by omega) (by omega) hc (by omega) ta c1 h1) ?_
   rintro ⟨⟨x1,x2,x3,x4⟩,c2⟩ ⟨ht2,h2⟩
   simp only at ht2 h2 ⊢
   rw [Krz (by omega)]
   exact ih (i + 1) c0 c2 x1 x2 x3 x4 (by omega) h2 ht2
 unfold Khx
 simp only
 refine Gv.bind (V5x hs h data) ?_
 rintro ⟨a,c1⟩ ⟨⟨ta,la⟩,h1⟩
 simp only at ta la h1 ⊢
 refine Gv.bind (A (deep:Int) ctx a (by omega) (by omega) la hc (by omega) ta c1 h1) ?_
 rintro ⟨⟨x1,x2,x3,x4⟩,c2⟩ ⟨ht2,h2⟩
 simp only at ht2 h2 ⊢
 have L:=loop 3 0 c c2 x1 x2 x3 x4 rfl h2 ht2
 rw [show ((0:Nat):Int)=0 from rfl] at L
 refine Gv.bind L ?_
 rintro (⟨a1,a2,a3,a4,a5,a6,a7⟩ | r) q
 rotate_left
 ·exact .of q
 obtain ⟨q1,q2⟩:=q
 simp only at q1 q2 ⊢
 have htm:=q1.tms
 rw [show (400:Int)=((400:Nat):Int) from rfl,Ku5 _ 400 (by omega) (by decide),bs]
 refine Gv.bind (Q:=fun r:Int × Int × List Int × List K01=>V51 s ctx.length 767 ⟨r.1,r.2.1,r.2.2.1,r.2.2.2⟩) (.ite (fun _=>?_) (fun _=>.of q1)) ?_
 ·rw [sOp,bs]
  exact .of ((V55 (by decide)).mono (by decide))
 ·rintro ⟨b1,b2,b3,b4⟩ qb
  exact .of ⟨qb,q2⟩
end
theorem V6c {c:K02} (h:V29 c) {deep:Nat} (hd:2 ≤ deep∧deep ≤ 4) (most:Nat) (hm:most ≤ 10) (data:Bool):Gv (Ki0 (c,(deep:Int),(most:Int),data)) (fun r=>r.1 ∈ V4l∧V68 r.1 most r.2.1∧V51 r.1 r.2.1.length 767 r.2.2.1∧V29 r.2.2.2):=by
 unfold Ki0
 simp only
 refine Gv.bind (V4r h) ?_
 rintro ⟨s,c1⟩ ⟨hsy,h1⟩
 simp only at hsy h1 ⊢
 have hs:=Kxn (V4m hsy).1
 refine Gv.bind (V6a hs h1 most hm data) ?_
 rintro ⟨ctx,c2⟩ ⟨hc,h2⟩
 simp only at hc h2 ⊢
 refine Gv.bind (V6b hs h2 hc.1 (by have:=hc.2.1; omega) hd data) ?_
 rintro ⟨t,c3⟩ ⟨ht,h3⟩
 exact .of ⟨hsy,hc,ht,h3⟩
theorem V6d (code:List Int) (hl:code.length ≤ 1048576):∃ d:Nat,(2 ≤ d∧d ≤ 4)∧Ka1 code=some (d:Int):=by
 unfold Ka1
 have h1:code.length / 60 ≤ 1048576:=Nat.le_trans (Nat.div_le_self _ _) hl
 rw [show (60:Int)=((60:Nat):Int) from rfl,V3a]
 generalize code.length / 60=q at *
 rw [Krx (by omega) (by omega),show (2:Int)=((2:Nat):Int) from rfl,Kw9,bs,← Int.natCast_add,Krx (by omega) (by omega)]
 exact ⟨2 + min q 2,by omega,rfl⟩
theorem V68.lms {s:K00} {m:Nat} {ctx:List (List Int)} (h:V68 s m ctx) (hm:m ≤ 10):lms ctx ≤ 100:=by
 have:∀ l:List (List Int),(∀ v ∈ l,v.length ≤ 7)→lct l ≤ l.length * 7:=by
  intro l
  induction l with
  | nil=>intro _; simp [lct]
  | cons x l ih =>
   intro h
   have h1:=ih (fun v hv=>h v (List.mem_cons_of_mem _ hv))
   have h2:=h x List.mem_cons_self
   rw [lct,List.length_cons]
   omega
 have h1:=this ctx h.2.2
 have h2:=h.2.1
 unfold Go.Am.lms
 omega
section
variable {s:K00} {n:Nat} (hs:Kxm s n)
include hs
theorem le_refl {a:Nat} (ha:a < n):le s n a a=true:=by
 have:=hs.one a ha
 simp only [Ksg,Bool.and_eq_true] at this
 exact this.2
theorem V6e {a b:Nat} (ha:a < n) (hb:b < n):le s n a (Kxs s n a b)=true:=by
 have h:=hs.two a b ha hb
 simp only [Kst,Bool.and_eq_true,decide_eq_true_eq] at h
 have h0:=h.2
 unfold Kxs
 unfold Ksm at h0 ⊢
 cases hf:(List.range' 0 n).find? (jok s n a b) with
 | none=>rw [hf] at h0; exact absurd h0 (by decide)
 | some g =>
  have:=List.find?_some hf
  unfold jok at this
  simp only [Bool.and_eq_true] at this
  simp only [Int.toNat_natCast]
  exact this.1.1
end
theorem le_trans {s:K00} (h:Kve s=true) {a b c:Nat} (ha:a < s.fSize.toNat) (hb:b < s.fSize.toNat) (hc:c < s.fSize.toNat) (h1:le s s.fSize.toNat a b=true) (h2:le s s.fSize.toNat b c=true):le s s.fSize.toNat a c=true:=by
 unfold Kve at h
 simp only [Bool.and_eq_true] at h
 have hm:=h.2
 unfold Ksw at hm
 rw [List.all_eq_true] at hm
 have q:=hm a (by rw [List.mem_range'_1]; omega)
 simp only [Bool.and_eq_true,List.all_eq_true] at q
 have q2:=(q.2 b (by rw [List.mem_range'_1]; omega)).2 c (by rw [List.mem_range'_1]; omega)
 unfold Ksh at q2
 simp [h1,h2] at q2
 exact q2.2.1.1.1
inductive V6f (s:K00) (n:Nat):List Int→List Int→Prop where
 | nil:V6f s n [] []
 | cons {b m:List Int} (k h:Nat) (hk:k < n) (hh:h < n) (hl:le s n k h=true) (r:V6f s n b m):V6f s n ((k:Int) :: b) ((h:Int) :: m)
theorem V6f.len {s:K00} {n:Nat} {b m:List Int} (h:V6f s n b m):m.length=b.length:=by
 induction h with
 | nil=>rfl
 | cons k h hk hh hl r ih=>simp [ih]
theorem V6g {s:K00} {n:Nat} (ht:Tab s n) {k:Nat} (hk:k < n):Kvy s (k:Int)=true:=by
 have:=ht.hi
 rw [Kw4 ht]
 unfold inB
 simp
 omega
theorem V6h {s:K00} (sy:Kve s=true) {b m:List Int} (h:V6f s s.fSize.toNat b m):∀ (ns:List Nat),Kxx s.fSize.toNat ns→V62 s s.fSize.toNat ns b=true→V62 s s.fSize.toNat ns m=true:=by
 induction h with
 | nil=>intro ns _ _; cases ns <;> rfl
 | cons k h hk hh hl r ih =>
  intro ns hb hq
  cases ns with
  | nil=>rfl
  | cons x ns =>
   obtain ⟨b1,b2⟩:=Kxy hb
   have e:∀ (g:Int) (l:List Int),V62 s s.fSize.toNat (x :: ns) (g :: l)=(V61 s s.fSize.toNat x g && V62 s s.fSize.toNat ns l):=fun _ _=>rfl
   rw [e,Bool.and_eq_true] at hq ⊢
   refine ⟨?_,ih ns b2 hq.2⟩
   have q:=hq.1
   unfold V61 at q ⊢
   rw [Bool.and_eq_true] at q ⊢
   refine ⟨V6g (Kvf sy) hh,?_⟩
   rw [Int.toNat_natCast] at q ⊢
   exact le_trans sy b1 hk hh q.2 hl
theorem V6i {s:K00} {n:Nat} (hs:Kxm s n):∀ (ns:List Nat),Kxx n ns→V62 s n ns (Kxh ns)=true:=by
 intro ns
 induction ns with
 | nil=>intro _; rfl
 | cons x ns ih =>
  intro hb
  obtain ⟨b1,b2⟩:=Kxy hb
  have e:V62 s n (x :: ns) (Kxh (x :: ns))=(V61 s n x (x:Int) && V62 s n ns (Kxh ns)):=rfl
  rw [e,ih b2,Bool.and_true]
  unfold V61
  rw [V6g hs.tab b1,Int.toNat_natCast,le_refl hs b1]; rfl
theorem V6j {s:K00} {n:Nat}:∀ (ns:List Nat) (b:List Int),ns.length=b.length→V62 s n ns b=true→∀ g ∈ b,Kvy s g=true:=by
 intro ns
 induction ns with
 | nil=>intro b hl _ g hg; cases b with | nil=>cases hg | cons _ _=>simp at hl
 | cons x ns ih =>
  intro b hl hq g hg
  cases b with
  | nil=>cases hg
  | cons y b =>
   have e:V62 s n (x :: ns) (y :: b)=(V61 s n x y && V62 s n ns b):=rfl
   rw [e,Bool.and_eq_true] at hq
   rcases List.mem_cons.1 hg with rfl | hg
   ·have:=hq.1
    unfold V61 at this
    rw [Bool.and_eq_true] at this
    exact this.1
   ·exact ih b (by simpa using hl) hq.2 g hg
theorem V6k {s:K00} {ctx:List (List Int)} {t:K01} {ty:List Int} {ns:List Nat} (hs:Kxm s s.fSize.toNat) (h:Kph (s,ctx,t)=some (ty,Kxh ns,true)) (hn:ns.length=ctx.length) (hb:Kxx s.fSize.toNat ns) (ht:ty.length ≤ 1000) (hc:ctx.length ≤ 1000) (b:List Int) (hbl:b.length ≤ 1000) (q:List Int) (hq:q.length ≤ 1000000) :
  Kpo (s,ctx,b,t,q)=some ((ty == q) && decide (b.length=ctx.length) && V62 s s.fSize.toNat ns b):=by
 unfold Kpo
 simp only
 rw [h,bs]
 simp only [if_true]
 rw [Kwv ty q (by omega),bs]
 cases hq:ty == q with
 | false=>rfl
 | true =>
  rw [if_pos rfl,bs]
  by_cases hl:b.length=ctx.length
  ·rw [if_neg (by simp [hl]),show (0:Int)=((0:Nat):Int) from rfl,V65 hs ns b hb (by omega) ns b 0 rfl rfl (by omega),bs,decide_eq_true hl]
   cases V62 s s.fSize.toNat ns b <;> rfl
  ·rw [if_pos (bne_iff_ne.2 (by omega)),decide_eq_false hl]
   rfl
theorem V6l (code:List Int) (hl:code.length ≤ 1048576) (hb:∀ v ∈ code,0 ≤ v∧v ≤ 255) (i:Nat) (hi:i ≤ 1000):∃ v:Int,Kpr (code,(i:Int))=some v∧0 ≤ v:=by
 unfold Kpr
 simp only
 by_cases h:i < code.length
 ·have:=hb code[i] (List.getElem_mem h)
  rw [Ks0 h,if_pos rfl,Kry h,bs]
  exact ⟨_,rfl,by rw [Krx (by omega) (by omega)]; omega⟩
 ·rw [Ks1 (by omega),if_neg (by decide)]
  refine ⟨_,rfl,Int.tmod_nonneg _ ?_⟩
  rw [Krx (x:=(i:Int) * 7) (by omega) (by omega),Krx (by omega) (by omega)]
  omega
theorem V6m {code:List Int} (hl:code.length ≤ 1048576) (hb:∀ v ∈ code,0 ≤ v∧v ≤ 255) {s:K00} (sy:Kve s=true) {ctx:List (List Int)} {b:List Int} {t:K01} {ty:List Int} (hbl:b.length ≤ 1000) (hh:∀ g ∈ b,Kvy s g=true) :
  ∀ (bl:List Int) (i:Nat) (out:List Int),b.drop i=bl→out.length + bl.length ≤ 2000→∃ m,Krr (code,s,ctx,b,t,ty,out,(i:Int))=some (out ++ m)∧V6f s s.fSize.toNat bl m:=by
 have hs:=Kxn sy
 have hsz:=hs.tab.size
 have hlo:=hs.tab.lo
 intro bl
 induction bl with
 | nil =>
  intro i out hd _
  rw [Krr.eq_def]
  simp only
  rw [Ks1 (Kt4 hd),if_neg (by decide)]
  exact ⟨[],by simp,.nil⟩
 | cons g bl ih =>
  intro i out hd ho
  obtain ⟨h1,h2,h3⟩:=Kt3 hd
  have hg:Kvy s g=true:=hh g (by
   have:g ∈ b.drop i:=by rw [hd]; exact List.mem_cons_self
   exact List.mem_of_mem_drop this)
  obtain ⟨k,rfl,hk⟩:=V63 hs hg
  obtain ⟨v,e,hv⟩:=V6l code hl hb i (by omega)
  have ck:chk (s.fSize ≠ 0)=some ():=by unfold chk; rw [if_pos (by omega)]
  have hm1:=Int.tmod_nonneg s.fSize hv
  have hm2:=Int.tmod_lt_of_pos v (show 0 < s.fSize by omega)
  obtain ⟨h,eh⟩:∃ h:Nat,Int.tmod v s.fSize=(h:Int):=⟨(Int.tmod v s.fSize).toNat,by omega⟩
  have hh':h < s.fSize.toNat:=by omega
  obtain ⟨j1,j2⟩:=Kxt hs hk hh'
  have jg:Kpx (s,(k:Int),(h:Int))=some ((Kxs s s.fSize.toNat k h:Nat):Int):=by
   unfold Kpx Kpu
   simp only
   rw [Kvz,hg,bs,if_pos rfl,Kvz,V6g hs.tab hh',bs,if_pos rfl,Kvh,sy,bs,bs,bs,if_pos rfl,Kss hs.tab hk hh',bs,j1]
  obtain ⟨m,m1,m2⟩:=ih (i + 1) (out ++ [((Kxs s s.fSize.toNat k h:Nat):Int)]) h3 (by simp at ho ⊢; omega)
  refine ⟨((Kxs s s.fSize.toNat k h:Nat):Int) :: m,?_,.cons k _ hk j2 (V6e hs hk hh') m2⟩
  rw [Krr.eq_def]
  simp only
  rw [Ks0 h1,if_pos rfl,h2,bs,e,bs,ck,bs,eh,jg,bs,Kv0 (by simp at ho ⊢; omega),bs,Krz (by omega),m1]
  simp
def V6n (b:List Int):Prop:=b.length ≤ 5
theorem V6o {s:K00} {n:Nat} (hs:Kxm s n) {ctx:List (List Int)} {t:K01} (hc:V52 s ctx) (hl:ctx.length ≤ 3) (ht:V51 s ctx.length 767 t):∀ (k i:Nat) (c:K02) (out:List Int),i + k=ctx.length→V29 c→out.length=i →
  Gv (Kin (s,ctx,t,c.fb,c.fi,c.fh,out,(i:Int))) (fun r=>V29 ⟨r.1,r.2.1,r.2.2.1⟩∧r.2.2.2.length=ctx.length):=by
 intro k
 induction k with
 | zero =>
  intro i c out hi h ho
  rw [Kin.eq_def]
  simp only
  rw [Ks1 (by omega),if_neg (by decide)]
  exact .of ⟨h,by simp only; omega⟩
 | succ k ih =>
  intro i c out hi h ho
  obtain ⟨g,z,e⟩:=V5d hs hc (by omega) (by decide) ht i (by omega)
  rw [Kin.eq_def]
  simp only
  rw [Ks0 (by omega),if_pos rfl,e,bs]
  refine Gv.bind (V5g hs h z) ?_
  rintro ⟨q,c1⟩ ⟨⟨g4,z4,rfl⟩,h1⟩
  simp only at h1 ⊢
  rw [Kv0 (by simp; omega),bs,Krz (by omega)]
  exact ih (i + 1) c1 _ (by omega) h1 (by simp [ho])
theorem V6p {s:K00}:∀ (k i n:Nat) (c:K02) (out:List Int),i + k=n→n ≤ 1000→V29 c→out.length=i→Gv (Kig (s,(n:Int),c.fb,c.fi,c.fh,out,(i:Int))) (fun r=>r.1.length=n∧V29 ⟨r.2.1,r.2.2.1,r.2.2.2⟩):=by
 intro k
 induction k with
 | zero =>
  intro i n c out hi _ h ho
  rw [Kig.eq_def]
  simp only
  rw [Ks1 (by omega),if_neg (by decide)]
  exact .of ⟨by simp only; omega,h⟩
 | succ k ih =>
  intro i n c out hi hn h ho
  rw [Kig.eq_def]
  simp only
  rw [Ks0 (by omega),if_pos rfl]
  have G:Gv (Kic (c,s)) (fun r=>V29 r.2):=by
   unfold Kic
   simp only
   refine Gv.bind (V2h h 30) ?_
   rintro ⟨x,c1⟩ h1
   simp only at h1 ⊢
   refine .ite (fun _=>?_) (fun _=>?_)
   ·refine Gv.bind (V2j h1) ?_
    rintro ⟨y,c2⟩ ⟨_,h2⟩
    exact .of h2
   ·refine Gv.bind (V2g h1 _) ?_
    rintro ⟨y,c2⟩ ⟨_,h2⟩
    exact .of h2
  refine Gv.bind G ?_
  rintro ⟨x,c1⟩ h1
  simp only at h1 ⊢
  rw [Kv0 (by simp; omega),bs,Krz (by omega)]
  exact ih (i + 1) n c1 _ (by omega) hn h1 (by simp [ho])
theorem V6q {s:K00} {c:K02} (h:V29 c) (n:Nat) (hn:n ≤ 1000):Gv (Kij (c,s,(n:Int))) (fun r=>r.1.length=n∧V29 r.2):=by
 unfold Kij
 simp only
 refine Gv.bind (V6p n 0 n c [] (by omega) hn h rfl) ?_
 rintro ⟨a,b,d,e⟩ ⟨q1,q2⟩
 exact .of ⟨q1,q2⟩
theorem V6r (code:List Int) (hl:code.length ≤ 1048576) (hb:∀ v ∈ code,0 ≤ v∧v ≤ 255):Gv (Kiq code) (fun r=>r.1 ∈ V4l∧V68 r.1 3 r.2.1∧V6n r.2.2.1∧V51 r.1 r.2.1.length 767 r.2.2.2.1∧r.2.2.2.2.length ≤ 40):=by
 unfold Kiq
 refine Gv.bind (V2d code hl hb) (fun c0 h0=>?_)
 obtain ⟨d,hd,e⟩:=V6d code hl
 rw [e,bs]
 refine Gv.bind (V2h h0 2) ?_
 rintro ⟨v,c1⟩ h1
 simp only at h1 ⊢
 refine Gv.bind (V6c h1 hd 3 (by decide) v) ?_
 rintro ⟨s,ctx,t,c2⟩ ⟨hsy,hc,ht,h2⟩
 simp only at hsy hc ht h2 ⊢
 have hs:=Kxn (V4m hsy).1
 refine Gv.bind (V6o hs hc.1 hc.2.1 ht ctx.length 0 c2 [] (by omega) h2 rfl) ?_
 rintro ⟨a1,a2,a3,bu⟩ ⟨h3,lb⟩
 simp only at h3 lb ⊢
 obtain ⟨x,ex,hx⟩:=V5c hs hc.1 (by have:=hc.2.1; omega) (by decide) ht
 have hto:∃ q:List Int,Ki3 (s,ctx,t)=some q∧q.length ≤ 40:=by
  unfold Ki3
  simp only
  rw [ex,bs]
  by_cases hf:x.ffault=0
  ·rw [if_neg (by simp [hf])]
   exact ⟨_,rfl,Kz8 (hx hf).1⟩
  ·rw [if_pos (bne_iff_ne.2 hf)]
   exact ⟨[0],rfl,by decide⟩
 obtain ⟨q,eq,lq⟩:=hto
 have hcl:=hc.2.1
 rw [eq,bs]
 refine Gv.bind (V2g h3 8) ?_
 rintro ⟨y,c3⟩ ⟨_,h4⟩
 simp only at h4 ⊢
 refine Gv.bind (Q:=fun r:List Int × List Int=>V6n r.1∧r.2.length ≤ 40) (.ite (fun _=>?_) (fun _=>?_)) ?_
 ·refine Gv.bind (V6q h4 ctx.length (by omega)) ?_
  rintro ⟨gs,c4⟩ ⟨lg,h5⟩
  simp only at lg ⊢
  exact .of ⟨by unfold V6n; simp only; omega,lq⟩
 ·refine Gv.bind (Q:=fun r:List Int × List Int=>V6n r.1∧r.2.length ≤ 40) (.ite (fun _=>?_) (fun _=>?_)) (by rintro ⟨a,b⟩ q; exact .of q)
  ·rw [Kv0 (by simp; omega),bs]
   exact .of ⟨by unfold V6n; simp; omega,lq⟩
  ·refine Gv.bind (Q:=fun r:List Int=>r.length ≤ 40) (.ite (fun _=>?_) (fun _=>.of lq)) (fun r hr=>.of ⟨by unfold V6n; simp only; omega,hr⟩)
   refine Gv.bind (V5x hs h4 true) ?_
   rintro ⟨a,c4⟩ ⟨⟨_,la⟩,h5⟩
   simp only at la
   exact .of (by simp only; omega)
 ·rintro ⟨a,b⟩ ⟨q1,q2⟩
  exact .of ⟨hsy,hc,q1,ht,q2⟩
mutual
theorem V6s (g:Int→Bool) (y:List Int→Bool) (hg:∀ x,g x=true→-9223372036854775808 ≤ x∧x ≤ 9223372036854775807):∀ (t:K01) (n:Nat),tOk g y n t=true→n + 2 * tms t ≤ 9223372036854775807→tln t
 | ⟨op,N,ty,ks⟩,n,h,hb=>by
  rw [Kwx,Bool.and_eq_true] at h
  rw [tms] at hb
  rw [tln]
  refine ⟨by omega,by omega,V6t g y hg ks op n 0 h.2 (by omega),?_⟩
  have h1:=h.1
  unfold Kun Kul at h1
  simp only [Bool.and_eq_true] at h1
  have h2:=h1.1.2
  split at h2
  ·simp only [inB,Bool.and_eq_true,decide_eq_true_eq] at h2; omega
  ·split at h2
   ·simp only [inB,Bool.and_eq_true,decide_eq_true_eq] at h2; omega
   ·split at h2
    ·exact hg N h2
    ·have:=eq_of_beq h2; omega
theorem V6t (g:Int→Bool) (y:List Int→Bool) (hg:∀ x,g x=true→-9223372036854775808 ≤ x∧x ≤ 9223372036854775807):∀ (ks:List K01) (op:Int) (n i:Nat),Kuo g y op n i ks=true→n + 2 * (ks.length + Ktz ks) ≤ 9223372036854775807→Kuu ks
 | [],op,n,i,_,_=>by rw [Kuu]; trivial
 | ⟨o,N,ty,ks1⟩ :: ks,op,n,i,h,hb=>by
  rw [Kwy,Bool.and_eq_true] at h
  rw [Ktz,List.length_cons] at hb
  have:=Kui op i
  rw [Kuu]
  exact ⟨V6s g y hg _ _ h.1 (by omega),V6t g y hg ks op n (i + 1) h.2 (by omega)⟩
end
theorem V6u {s:K00} {n:Nat} (hs:Kxm s n) {m b:Nat} {t:K01} (h:V51 s m b t) (hb:b ≤ 100000) (hm:m ≤ 1000):tln t:=by
 have h3:=h.tms
 have h4:=hs.tab.size
 have h5:=hs.tab.hi
 refine V6s _ _ ?_ t m h.1 (by omega)
 intro x hx
 unfold gN at hx
 simp at hx
 omega
theorem V6v (code:List Int) (w:code.length ≤ maxLen∧∀ v ∈ code,0 ≤ v∧v ≤ 255):Kru code=some true:=by
 unfold Kru K9o
 rw [bs]
 by_cases hbig:(code.length:Int) > 1048576
 ·rw [decide_eq_true hbig,if_pos rfl]
 rw [decide_eq_false hbig,if_neg (by decide)]
 obtain ⟨⟨s,ctx,b,t,ty⟩,e,hsy,hc,hb,ht,hty⟩:=V6r code (by omega) w.2
 simp only at hsy hc hb ht hty
 unfold V6n at hb
 have hcl:=hc.2.1
 have hlm:=hc.lms (by decide)
 have htm:=ht.tms
 obtain ⟨sy,_,hsm⟩:=V4m hsy
 obtain ⟨w0,f1,f2,f3⟩:=V67 s ctx b t ty (by omega) (by omega) (by omega) (by omega) (V6u (Kxn sy) ht (by decide) (by omega)) (by omega)
 rw [e,bs]
 simp only
 rw [f2,bs]
 cases w0 with
 | false=>rw [if_neg (by decide),f1,bs]; rfl
 | true =>
  have hlen:=f3 rfl
  rw [if_pos rfl]
  rcases V28 s ctx t (by omega) (by omega) with ⟨_,h2,_⟩ | ⟨x,y,r,hf,hi,_,h2,_⟩
  ·have:Kpo (s,ctx,b,t,ty)=some false:=by
    unfold Kpo
    simp only
    rw [h2,bs]; rfl
   rw [f2] at this
   cases this
  ·obtain ⟨g,_,ns,hn,hl,hbl⟩:=r.gd hf
   have hs:=Kxn sy
   rw [hn] at h2
   have hxl:=Kz8 g
   have F:=V6k hs h2 hl hbl (by omega) (by omega)
   have f2':=F b (by omega) ty (by omega)
   rw [f2] at f2'
   simp only [Option.some.injEq,Bool.true_eq,Bool.and_eq_true,decide_eq_true_eq] at f2'
   obtain ⟨⟨e1,e2⟩,e3⟩:=f2'
   obtain ⟨m,m1,m2⟩:=V6m (by omega) w.2 sy (ctx:=ctx) (t:=t) (ty:=ty) (b:=b) (by omega) (V6j ns b (by omega) e3) b 0 [] rfl (by simp; omega)
   have hml:=m2.len
   rw [show ((0:Nat):Int)=0 from rfl,List.nil_append] at m1
   rw [m1,bs,h2,bs]
   simp only [if_true]
   rw [F m (by omega) ty (by omega),e1,decide_eq_true (by omega),V6h sy m2 ns hbl e3,bs]
   simp only [Bool.and_self,if_true]
   rw [F (Kxh ns) (by rw [Kxi]; omega) ty (by omega),e1,decide_eq_true (by rw [Kxi]; omega),V6i hs ns hbl]
   rfl
end Go.Am
