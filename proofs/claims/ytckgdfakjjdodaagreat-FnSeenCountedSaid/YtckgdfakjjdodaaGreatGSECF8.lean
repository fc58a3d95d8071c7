/- Walks, printed. -/
import Derived.Test.YtckgdfakjjdodaaGreatGSECF5
set_option linter.unusedVariables false
set_option linter.unusedSimpArgs false
set_option maxRecDepth 100000
namespace Go.Am
open Go Go.Proofs
def Ke9 : Option (List (List Nat)) := rx [[0],[0],[0],[0],[0,1,2,3],[5],[6],[0],[0],[0,7,8],[0,7,8,9],[0,1,2,3,4,7,8,9,10],[0,1,2,3,4,7,8,9,10,11],[0,1,2,3,4,7,8,9,10,11],[0,1,2,3,4,7,8,9,10,11,12,13],[0,1,2,3,4,7,8,9,10,11,12,13,14],[0,1,2,3,4,7,8,9,10,11,12,13,14,15],[17],[18],[19],[19],[19],[19],[19,20,21,22],[24],[25],[19],[19],[19,26,27],[19,26,27,28],[19,20,21,22,23,26,27,28,29],[19,20,21,22,23,26,27,28,29,30],[19,20,21,22,23,26,27,28,29,30],[19,20,21,22,23,26,27,28,29,30,31,32],[19,20,21,22,23,26,27,28,29,30,31,32,33],[19,20,21,22,23,26,27,28,29,30,31,32,33,34],[36],[37],[38],[39],[39],[41],[42],[43],[44],[44],[44],[47],[48],[49],[50],[50],[52],[53],[54],[55],[56]]
def Kea (p : K00 × (List Bool) × Int × Int) : Option ((Unit) ⊕ (Bool)) :=
 match p with
 | (s0,in1,a0,a1) =>
  if (decide (a1 < s0.fSize)) = true then
  ((
  (Kcw (s0,a0,a1)) >>= fun a2 =>
  (idx in1 a2) >>= fun a3 =>
  (idx in1 a0) >>= fun a4 =>
  if a4 = true then
  if (a3 == true) = true then
  (Kcz (s0,a0,a1)) >>= fun a5 =>
  (idx in1 a5) >>= fun a6 =>
  (idx in1 a0) >>= fun a7 =>
  if a7 = true then
  (idx in1 a1) >>= fun a8 =>
  if (a6 == a8) = true then
  (idx in1 a0) >>= fun a9 =>
  if a9 = true then
  (Kd2 (s0,a0,a1)) >>= fun b1 =>
  if b1 = true then
  (idx in1 a1) >>= fun b2 =>
  some ((!b2))
  else
  some (false)
  else
  some (false)
  else
  some (true)
  else
  if (a6 == false) = true then
  (idx in1 a0) >>= fun a9 =>
  if a9 = true then
  (Kd2 (s0,a0,a1)) >>= fun b1 =>
  if b1 = true then
  (idx in1 a1) >>= fun b2 =>
  some ((!b2))
  else
  some (false)
  else
  some (false)
  else
  some (true)
  else
  some (true)
  else
  (idx in1 a1) >>= fun b3 =>
  if (a3 == b3) = true then
  (Kcz (s0,a0,a1)) >>= fun a5 =>
  (idx in1 a5) >>= fun a6 =>
  (idx in1 a0) >>= fun a7 =>
  if a7 = true then
  (idx in1 a1) >>= fun a8 =>
  if (a6 == a8) = true then
  (idx in1 a0) >>= fun a9 =>
  if a9 = true then
  (Kd2 (s0,a0,a1)) >>= fun b1 =>
  if b1 = true then
  (idx in1 a1) >>= fun b2 =>
  some ((!b2))
  else
  some (false)
  else
  some (false)
  else
  some (true)
  else
  if (a6 == false) = true then
  (idx in1 a0) >>= fun a9 =>
  if a9 = true then
  (Kd2 (s0,a0,a1)) >>= fun b1 =>
  if b1 = true then
  (idx in1 a1) >>= fun b2 =>
  some ((!b2))
  else
  some (false)
  else
  some (false)
  else
  some (true)
  else
  some (true)
  ) : Option (Bool)) >>= fun b4 =>
  if b4 = true then
  some (.inr false)
  else
  Kea (s0,in1,a0,(wr (a1 + 1)))
  else
  some (.inl ())
 partial_fixpoint
def Keb (p : K00 × (List Bool) × Int × Int) (fl : (Unit) ⊕ (Bool)) : Prop :=
 match p with
 | (s0,in1,a0,a1) => ∀ c : Ctx,c.nt = 85 → WpL Tryz.prog c (cl (cl (cr (cl (cl (cr (cl (cl (cr (cl (cr (cr K4b)))))))))))) (Ke8 c s0 in1 a0 fl) (mkS [(1,sB in1),(2,.ra 1 0),(5,I a0),(6,I a1)] [(1,K19 s0)])
theorem Kec : ∀ p r,Kea p = some r → Keb p r := by
 refine Kea.partial_correctness Keb ?_
 rintro impl_isView_l0_f impl_isView_l0_ih ⟨s0,in1,a0,a1⟩ r h
 intro c hc
 refine WpL.step ?_
 refine sN ?_
 refine K6n hc 4 [(1,sB in1),(2,.ra 1 0),(5,I a0),(6,I a1),(25,.bool (decide (a1 < s0.fSize)))] ?_
 refine ic h (fun a2 h => ?_) fun a2 h => ?_
 ·refine sk ?_
  refine sN ?_
  refine bk 3 ?_
  refine sN ?_
  obtain ⟨a3,a4,h⟩ := Qds h
  refine Wp.into (x := .normal) (mkS [(1,sB in1),(2,.ra 1 0),(5,I a0),(6,I a1),(84,.bool a3)] [(1,K19 s0)]) ?_ ?_
  ·replace h := a4
   obtain ⟨a5,a6,a7,a8,a9,b1,h⟩ := bq3 h
   rcases is h with ⟨b2,h⟩ | ⟨b2,h⟩
   ·rcases is h with ⟨b3,h⟩ | ⟨b3,h⟩
    ·obtain ⟨b4,b5,b6,b7,b8,b9,h⟩ := bq3 h
     rcases is h with ⟨c0,h⟩ | ⟨c0,h⟩
     ·obtain ⟨c1,c2,h⟩ := Qds h
      rcases is h with ⟨c3,h⟩ | ⟨c3,h⟩
      ·obtain ⟨c4,c5,h⟩ := Qds h
       rcases is h with ⟨c6,h⟩ | ⟨c6,h⟩
       ·obtain ⟨c7,c8,h⟩ := Qds h
        rcases is h with ⟨c9,h⟩ | ⟨c9,h⟩
        ·obtain ⟨d0,d1,h⟩ := Qds h
         refine rgs hc Ke9 [oN,oN,oN,oN,oc (I a5),some (.el (.bool a7)),oN,oN,oN,some (.el (.bool a9)),oN,oN,o_,o_,o_,o_,oT,oN,oN,oN,oN,oN,oN,oc (I b4),some (.el (.bool b6)),oN,oN,oN,some (.el (.bool b8)),oN,oN,oN,oN,some (.el (.bool c1)),oN,oT,oN,oF,oN,oN,oN,some (.el (.bool c4)),oN,oN,oN,oN,oN,oc (.bool c7),oT,oN,oN,oN,some (.el (.bool d0)),oN,oN,oT,oF] [(1,sB in1),(2,.ra 1 0),(5,I a0),(6,I a1),(84,.bool (!d0))] (cq (Kcy _ _ a6) K42 (ab (Qdw (enc := AV.bool) (x := .bool a7) a8 (Qe9 a7)) (Qdw (enc := AV.bool) (x := .bool a9) b1 (Qe9 a9)) (ar 4 (neF b2) (ai b2 (ar 5 (nF b3) (cq (Kd1 _ _ b5) K44 (ab (nF b3) (Qdw (enc := AV.bool) (x := .bool b6) b7 (Qe9 b6)) (ar 4 (nF b3) (ai (Qdw (enc := AV.bool) (x := .bool b8) b9 (Qe9 b8)) (ar 2 (nF b3) (ar 3 c0 (ad (Qdw (enc := AV.bool) (x := .bool c1) c2 (Qe9 c1)) c0 (nF b3) c0 (ar 2 (nF b3) (ar 3 (nF c3) (ai (Qdw (enc := AV.bool) (x := .bool c4) c5 (Qe9 c4)) (ar 2 (nF c3) (ar 4 c6 (cq (Kd4 _ _ c8) K45 (ac (nF c3) c6 (nF c3) (ar 3 c9 (ai (Qdw (enc := AV.bool) (x := .bool d0) d1 (Qe9 d0)) (ar 2 c9 (ac (nF c3) c9 (nF c3) tv))))))))))))))))))))))) ?_
         obtain rfl := os h
         exact Qde.mk
        refine rgs hc Ke9 [oN,oN,oN,oN,oc (I a5),some (.el (.bool a7)),oN,oN,oN,some (.el (.bool a9)),oN,oN,o_,o_,o_,o_,oT,oN,oN,oN,oN,oN,oN,oc (I b4),some (.el (.bool b6)),oN,oN,oN,some (.el (.bool b8)),oN,oN,oN,oN,some (.el (.bool c1)),oN,oT,oN,oF,oN,oN,oN,some (.el (.bool c4)),oN,oN,oN,oN,oN,oc (.bool c7),oT,oN,o_,o_,o_,o_,o_,oF,oF] [(1,sB in1),(2,.ra 1 0),(5,I a0),(6,I a1),(84,.bool false)] (cq (Kcy _ _ a6) K42 (ab (Qdw (enc := AV.bool) (x := .bool a7) a8 (Qe9 a7)) (Qdw (enc := AV.bool) (x := .bool a9) b1 (Qe9 a9)) (ar 4 (neF b2) (ai b2 (ar 5 (nF b3) (cq (Kd1 _ _ b5) K44 (ab (nF b3) (Qdw (enc := AV.bool) (x := .bool b6) b7 (Qe9 b6)) (ar 4 (nF b3) (ai (Qdw (enc := AV.bool) (x := .bool b8) b9 (Qe9 b8)) (ar 2 (nF b3) (ar 3 c0 (ad (Qdw (enc := AV.bool) (x := .bool c1) c2 (Qe9 c1)) c0 (nF b3) c0 (ar 2 (nF b3) (ar 3 (nF c3) (ai (Qdw (enc := AV.bool) (x := .bool c4) c5 (Qe9 c4)) (ar 2 (nF c3) (ar 4 c6 (cq (Kd4 _ _ c8) K45 (ac (nF c3) c6 (nF c3) (ar 5 (neT c9) (ac (nF c3) c9 (nF c3) tv))))))))))))))))))))) ?_
        obtain rfl := os h
        exact Qde.mk
       refine rgs hc Ke9 [oN,oN,oN,oN,oc (I a5),some (.el (.bool a7)),oN,oN,oN,some (.el (.bool a9)),oN,oN,o_,o_,o_,o_,oT,oN,oN,oN,oN,oN,oN,oc (I b4),some (.el (.bool b6)),oN,oN,oN,some (.el (.bool b8)),oN,oN,oN,oN,some (.el (.bool c1)),oN,oT,oN,oF,oN,oN,oN,some (.el (.bool c4)),oN,oN,o_,o_,o_,o_,oF,oN,o_,o_,o_,o_,o_,oF,oF] [(1,sB in1),(2,.ra 1 0),(5,I a0),(6,I a1),(84,.bool false)] (cq (Kcy _ _ a6) K42 (ab (Qdw (enc := AV.bool) (x := .bool a7) a8 (Qe9 a7)) (Qdw (enc := AV.bool) (x := .bool a9) b1 (Qe9 a9)) (ar 4 (neF b2) (ai b2 (ar 5 (nF b3) (cq (Kd1 _ _ b5) K44 (ab (nF b3) (Qdw (enc := AV.bool) (x := .bool b6) b7 (Qe9 b6)) (ar 4 (nF b3) (ai (Qdw (enc := AV.bool) (x := .bool b8) b9 (Qe9 b8)) (ar 2 (nF b3) (ar 3 c0 (ad (Qdw (enc := AV.bool) (x := .bool c1) c2 (Qe9 c1)) c0 (nF b3) c0 (ar 2 (nF b3) (ar 3 (nF c3) (ai (Qdw (enc := AV.bool) (x := .bool c4) c5 (Qe9 c4)) (ar 2 (nF c3) (ar 4 (neT c6) (ac (nF c3) c6 (nF c3) (ar 5 (neT (rfl : false = false)) (ac (nF c3) (rfl : false = false) (nF c3) tv)))))))))))))))))))) ?_
       obtain rfl := os h
       exact Qde.mk
      refine rgs hc Ke9 [oN,oN,oN,oN,oc (I a5),some (.el (.bool a7)),oN,oN,oN,some (.el (.bool a9)),oN,oN,o_,o_,o_,o_,oT,oN,oN,oN,oN,oN,oN,oc (I b4),some (.el (.bool b6)),oN,oN,oN,some (.el (.bool b8)),oN,oN,oN,oN,some (.el (.bool c1)),oN,oT,oN,oF,oN,o_,o_,o_,o_,o_,o_,o_,o_,o_,o_,o_,o_,o_,o_,o_,o_,o_,oT] [(1,sB in1),(2,.ra 1 0),(5,I a0),(6,I a1),(84,.bool true)] (cq (Kcy _ _ a6) K42 (ab (Qdw (enc := AV.bool) (x := .bool a7) a8 (Qe9 a7)) (Qdw (enc := AV.bool) (x := .bool a9) b1 (Qe9 a9)) (ar 4 (neF b2) (ai b2 (ar 5 (nF b3) (cq (Kd1 _ _ b5) K44 (ab (nF b3) (Qdw (enc := AV.bool) (x := .bool b6) b7 (Qe9 b6)) (ar 4 (nF b3) (ai (Qdw (enc := AV.bool) (x := .bool b8) b9 (Qe9 b8)) (ar 2 (nF b3) (ar 3 c0 (ad (Qdw (enc := AV.bool) (x := .bool c1) c2 (Qe9 c1)) c0 (nF b3) c0 (ar 2 (nF b3) (ar 8 (neF (nT c3)) (ai (nT c3) tv))))))))))))))) ?_
      obtain rfl := os h
      exact Qde.mk
     rcases is h with ⟨c3,h⟩ | ⟨c3,h⟩
     ·obtain ⟨c4,c5,h⟩ := Qds h
      rcases is h with ⟨c6,h⟩ | ⟨c6,h⟩
      ·obtain ⟨c7,c8,h⟩ := Qds h
       rcases is h with ⟨c9,h⟩ | ⟨c9,h⟩
       ·obtain ⟨d0,d1,h⟩ := Qds h
        refine rgs hc Ke9 [oN,oN,oN,oN,oc (I a5),some (.el (.bool a7)),oN,oN,oN,some (.el (.bool a9)),oN,oN,o_,o_,o_,o_,oT,oN,oN,oN,oN,oN,oN,oc (I b4),some (.el (.bool b6)),oN,oN,oN,some (.el (.bool b8)),oN,oN,o_,o_,o_,o_,oF,oN,oF,oN,oN,oN,some (.el (.bool c4)),oN,oN,oN,oN,oN,oc (.bool c7),oT,oN,oN,oN,some (.el (.bool d0)),oN,oN,oT,oF] [(1,sB in1),(2,.ra 1 0),(5,I a0),(6,I a1),(84,.bool (!d0))] (cq (Kcy _ _ a6) K42 (ab (Qdw (enc := AV.bool) (x := .bool a7) a8 (Qe9 a7)) (Qdw (enc := AV.bool) (x := .bool a9) b1 (Qe9 a9)) (ar 4 (neF b2) (ai b2 (ar 5 (nF b3) (cq (Kd1 _ _ b5) K44 (ab (nF b3) (Qdw (enc := AV.bool) (x := .bool b6) b7 (Qe9 b6)) (ar 4 (nF b3) (ai (Qdw (enc := AV.bool) (x := .bool b8) b9 (Qe9 b8)) (ar 2 (nF b3) (ar 4 (neT c0) (ab (nF b3) c0 (ar 2 (nF b3) (ar 3 (nF c3) (ai (Qdw (enc := AV.bool) (x := .bool c4) c5 (Qe9 c4)) (ar 2 (nF c3) (ar 4 c6 (cq (Kd4 _ _ c8) K45 (ac (nF c3) c6 (nF c3) (ar 3 c9 (ai (Qdw (enc := AV.bool) (x := .bool d0) d1 (Qe9 d0)) (ar 2 c9 (ac (nF c3) c9 (nF c3) tv))))))))))))))))))))))) ?_
        obtain rfl := os h
        exact Qde.mk
       refine rgs hc Ke9 [oN,oN,oN,oN,oc (I a5),some (.el (.bool a7)),oN,oN,oN,some (.el (.bool a9)),oN,oN,o_,o_,o_,o_,oT,oN,oN,oN,oN,oN,oN,oc (I b4),some (.el (.bool b6)),oN,oN,oN,some (.el (.bool b8)),oN,oN,o_,o_,o_,o_,oF,oN,oF,oN,oN,oN,some (.el (.bool c4)),oN,oN,oN,oN,oN,oc (.bool c7),oT,oN,o_,o_,o_,o_,o_,oF,oF] [(1,sB in1),(2,.ra 1 0),(5,I a0),(6,I a1),(84,.bool false)] (cq (Kcy _ _ a6) K42 (ab (Qdw (enc := AV.bool) (x := .bool a7) a8 (Qe9 a7)) (Qdw (enc := AV.bool) (x := .bool a9) b1 (Qe9 a9)) (ar 4 (neF b2) (ai b2 (ar 5 (nF b3) (cq (Kd1 _ _ b5) K44 (ab (nF b3) (Qdw (enc := AV.bool) (x := .bool b6) b7 (Qe9 b6)) (ar 4 (nF b3) (ai (Qdw (enc := AV.bool) (x := .bool b8) b9 (Qe9 b8)) (ar 2 (nF b3) (ar 4 (neT c0) (ab (nF b3) c0 (ar 2 (nF b3) (ar 3 (nF c3) (ai (Qdw (enc := AV.bool) (x := .bool c4) c5 (Qe9 c4)) (ar 2 (nF c3) (ar 4 c6 (cq (Kd4 _ _ c8) K45 (ac (nF c3) c6 (nF c3) (ar 5 (neT c9) (ac (nF c3) c9 (nF c3) tv))))))))))))))))))))) ?_
       obtain rfl := os h
       exact Qde.mk
      refine rgs hc Ke9 [oN,oN,oN,oN,oc (I a5),some (.el (.bool a7)),oN,oN,oN,some (.el (.bool a9)),oN,oN,o_,o_,o_,o_,oT,oN,oN,oN,oN,oN,oN,oc (I b4),some (.el (.bool b6)),oN,oN,oN,some (.el (.bool b8)),oN,oN,o_,o_,o_,o_,oF,oN,oF,oN,oN,oN,some (.el (.bool c4)),oN,oN,o_,o_,o_,o_,oF,oN,o_,o_,o_,o_,o_,oF,oF] [(1,sB in1),(2,.ra 1 0),(5,I a0),(6,I a1),(84,.bool false)] (cq (Kcy _ _ a6) K42 (ab (Qdw (enc := AV.bool) (x := .bool a7) a8 (Qe9 a7)) (Qdw (enc := AV.bool) (x := .bool a9) b1 (Qe9 a9)) (ar 4 (neF b2) (ai b2 (ar 5 (nF b3) (cq (Kd1 _ _ b5) K44 (ab (nF b3) (Qdw (enc := AV.bool) (x := .bool b6) b7 (Qe9 b6)) (ar 4 (nF b3) (ai (Qdw (enc := AV.bool) (x := .bool b8) b9 (Qe9 b8)) (ar 2 (nF b3) (ar 4 (neT c0) (ab (nF b3) c0 (ar 2 (nF b3) (ar 3 (nF c3) (ai (Qdw (enc := AV.bool) (x := .bool c4) c5 (Qe9 c4)) (ar 2 (nF c3) (ar 4 (neT c6) (ac (nF c3) c6 (nF c3) (ar 5 (neT (rfl : false = false)) (ac (nF c3) (rfl : false = false) (nF c3) tv)))))))))))))))))))) ?_
      obtain rfl := os h
      exact Qde.mk
     refine rgs hc Ke9 [oN,oN,oN,oN,oc (I a5),some (.el (.bool a7)),oN,oN,oN,some (.el (.bool a9)),oN,oN,o_,o_,o_,o_,oT,oN,oN,oN,oN,oN,oN,oc (I b4),some (.el (.bool b6)),oN,oN,oN,some (.el (.bool b8)),oN,oN,o_,o_,o_,o_,oF,oN,oF,oN,o_,o_,o_,o_,o_,o_,o_,o_,o_,o_,o_,o_,o_,o_,o_,o_,o_,oT] [(1,sB in1),(2,.ra 1 0),(5,I a0),(6,I a1),(84,.bool true)] (cq (Kcy _ _ a6) K42 (ab (Qdw (enc := AV.bool) (x := .bool a7) a8 (Qe9 a7)) (Qdw (enc := AV.bool) (x := .bool a9) b1 (Qe9 a9)) (ar 4 (neF b2) (ai b2 (ar 5 (nF b3) (cq (Kd1 _ _ b5) K44 (ab (nF b3) (Qdw (enc := AV.bool) (x := .bool b6) b7 (Qe9 b6)) (ar 4 (nF b3) (ai (Qdw (enc := AV.bool) (x := .bool b8) b9 (Qe9 b8)) (ar 2 (nF b3) (ar 4 (neT c0) (ab (nF b3) c0 (ar 2 (nF b3) (ar 8 (neF (nT c3)) (ai (nT c3) tv))))))))))))))) ?_
     obtain rfl := os h
     exact Qde.mk
    refine rgs hc Ke9 [oN,oN,oN,oN,oc (I a5),some (.el (.bool a7)),oN,oN,oN,some (.el (.bool a9)),oN,oN,o_,o_,o_,o_,oT,oN,oN,o_,o_,o_,o_,o_,o_,o_,o_,o_,o_,o_,o_,o_,o_,o_,o_,o_,o_,oT,oN,o_,o_,o_,o_,o_,o_,o_,o_,o_,o_,o_,o_,o_,o_,o_,o_,o_,oT] [(1,sB in1),(2,.ra 1 0),(5,I a0),(6,I a1),(84,.bool true)] (cq (Kcy _ _ a6) K42 (ab (Qdw (enc := AV.bool) (x := .bool a7) a8 (Qe9 a7)) (Qdw (enc := AV.bool) (x := .bool a9) b1 (Qe9 a9)) (ar 4 (neF b2) (ai b2 (ar 14 (neF (nT b3)) (ai (nT b3) (ar 8 nf (ai tt tv)))))))) ?_
    obtain rfl := os h
    exact Qde.mk
   obtain ⟨d2,d3,h⟩ := Qds h
   rcases is h with ⟨b3,h⟩ | ⟨b3,h⟩
   ·obtain ⟨b4,b5,b6,b7,b8,b9,h⟩ := bq3 h
    rcases is h with ⟨c0,h⟩ | ⟨c0,h⟩
    ·obtain ⟨c1,c2,h⟩ := Qds h
     rcases is h with ⟨c3,h⟩ | ⟨c3,h⟩
     ·obtain ⟨c4,c5,h⟩ := Qds h
      rcases is h with ⟨c6,h⟩ | ⟨c6,h⟩
      ·obtain ⟨c7,c8,h⟩ := Qds h
       rcases is h with ⟨c9,h⟩ | ⟨c9,h⟩
       ·obtain ⟨d0,d1,h⟩ := Qds h
        refine rgs hc Ke9 [oN,oN,oN,oN,oc (I a5),some (.el (.bool a7)),oN,oN,oN,some (.el (.bool a9)),oN,oN,oN,oN,some (.el (.bool d2)),oN,oF,oN,oN,oN,oN,oN,oN,oc (I b4),some (.el (.bool b6)),oN,oN,oN,some (.el (.bool b8)),oN,oN,oN,oN,some (.el (.bool c1)),oN,oT,oN,oF,oN,oN,oN,some (.el (.bool c4)),oN,oN,oN,oN,oN,oc (.bool c7),oT,oN,oN,oN,some (.el (.bool d0)),oN,oN,oT,oF] [(1,sB in1),(2,.ra 1 0),(5,I a0),(6,I a1),(84,.bool (!d0))] (cq (Kcy _ _ a6) K42 (ab (Qdw (enc := AV.bool) (x := .bool a7) a8 (Qe9 a7)) (Qdw (enc := AV.bool) (x := .bool a9) b1 (Qe9 a9)) (ar 3 b2 (ai (Qdw (enc := AV.bool) (x := .bool d2) d3 (Qe9 d2)) (ar 2 b2 (ar 5 (nF b3) (cq (Kd1 _ _ b5) K44 (ab (nF b3) (Qdw (enc := AV.bool) (x := .bool b6) b7 (Qe9 b6)) (ar 4 (nF b3) (ai (Qdw (enc := AV.bool) (x := .bool b8) b9 (Qe9 b8)) (ar 2 (nF b3) (ar 3 c0 (ad (Qdw (enc := AV.bool) (x := .bool c1) c2 (Qe9 c1)) c0 (nF b3) c0 (ar 2 (nF b3) (ar 3 (nF c3) (ai (Qdw (enc := AV.bool) (x := .bool c4) c5 (Qe9 c4)) (ar 2 (nF c3) (ar 4 c6 (cq (Kd4 _ _ c8) K45 (ac (nF c3) c6 (nF c3) (ar 3 c9 (ai (Qdw (enc := AV.bool) (x := .bool d0) d1 (Qe9 d0)) (ar 2 c9 (ac (nF c3) c9 (nF c3) tv)))))))))))))))))))))))) ?_
        obtain rfl := os h
        exact Qde.mk
       refine rgs hc Ke9 [oN,oN,oN,oN,oc (I a5),some (.el (.bool a7)),oN,oN,oN,some (.el (.bool a9)),oN,oN,oN,oN,some (.el (.bool d2)),oN,oF,oN,oN,oN,oN,oN,oN,oc (I b4),some (.el (.bool b6)),oN,oN,oN,some (.el (.bool b8)),oN,oN,oN,oN,some (.el (.bool c1)),oN,oT,oN,oF,oN,oN,oN,some (.el (.bool c4)),oN,oN,oN,oN,oN,oc (.bool c7),oT,oN,o_,o_,o_,o_,o_,oF,oF] [(1,sB in1),(2,.ra 1 0),(5,I a0),(6,I a1),(84,.bool false)] (cq (Kcy _ _ a6) K42 (ab (Qdw (enc := AV.bool) (x := .bool a7) a8 (Qe9 a7)) (Qdw (enc := AV.bool) (x := .bool a9) b1 (Qe9 a9)) (ar 3 b2 (ai (Qdw (enc := AV.bool) (x := .bool d2) d3 (Qe9 d2)) (ar 2 b2 (ar 5 (nF b3) (cq (Kd1 _ _ b5) K44 (ab (nF b3) (Qdw (enc := AV.bool) (x := .bool b6) b7 (Qe9 b6)) (ar 4 (nF b3) (ai (Qdw (enc := AV.bool) (x := .bool b8) b9 (Qe9 b8)) (ar 2 (nF b3) (ar 3 c0 (ad (Qdw (enc := AV.bool) (x := .bool c1) c2 (Qe9 c1)) c0 (nF b3) c0 (ar 2 (nF b3) (ar 3 (nF c3) (ai (Qdw (enc := AV.bool) (x := .bool c4) c5 (Qe9 c4)) (ar 2 (nF c3) (ar 4 c6 (cq (Kd4 _ _ c8) K45 (ac (nF c3) c6 (nF c3) (ar 5 (neT c9) (ac (nF c3) c9 (nF c3) tv)))))))))))))))))))))) ?_
       obtain rfl := os h
       exact Qde.mk
      refine rgs hc Ke9 [oN,oN,oN,oN,oc (I a5),some (.el (.bool a7)),oN,oN,oN,some (.el (.bool a9)),oN,oN,oN,oN,some (.el (.bool d2)),oN,oF,oN,oN,oN,oN,oN,oN,oc (I b4),some (.el (.bool b6)),oN,oN,oN,some (.el (.bool b8)),oN,oN,oN,oN,some (.el (.bool c1)),oN,oT,oN,oF,oN,oN,oN,some (.el (.bool c4)),oN,oN,o_,o_,o_,o_,oF,oN,o_,o_,o_,o_,o_,oF,oF] [(1,sB in1),(2,.ra 1 0),(5,I a0),(6,I a1),(84,.bool false)] (cq (Kcy _ _ a6) K42 (ab (Qdw (enc := AV.bool) (x := .bool a7) a8 (Qe9 a7)) (Qdw (enc := AV.bool) (x := .bool a9) b1 (Qe9 a9)) (ar 3 b2 (ai (Qdw (enc := AV.bool) (x := .bool d2) d3 (Qe9 d2)) (ar 2 b2 (ar 5 (nF b3) (cq (Kd1 _ _ b5) K44 (ab (nF b3) (Qdw (enc := AV.bool) (x := .bool b6) b7 (Qe9 b6)) (ar 4 (nF b3) (ai (Qdw (enc := AV.bool) (x := .bool b8) b9 (Qe9 b8)) (ar 2 (nF b3) (ar 3 c0 (ad (Qdw (enc := AV.bool) (x := .bool c1) c2 (Qe9 c1)) c0 (nF b3) c0 (ar 2 (nF b3) (ar 3 (nF c3) (ai (Qdw (enc := AV.bool) (x := .bool c4) c5 (Qe9 c4)) (ar 2 (nF c3) (ar 4 (neT c6) (ac (nF c3) c6 (nF c3) (ar 5 (neT (rfl : false = false)) (ac (nF c3) (rfl : false = false) (nF c3) tv))))))))))))))))))))) ?_
      obtain rfl := os h
      exact Qde.mk
     refine rgs hc Ke9 [oN,oN,oN,oN,oc (I a5),some (.el (.bool a7)),oN,oN,oN,some (.el (.bool a9)),oN,oN,oN,oN,some (.el (.bool d2)),oN,oF,oN,oN,oN,oN,oN,oN,oc (I b4),some (.el (.bool b6)),oN,oN,oN,some (.el (.bool b8)),oN,oN,oN,oN,some (.el (.bool c1)),oN,oT,oN,oF,oN,o_,o_,o_,o_,o_,o_,o_,o_,o_,o_,o_,o_,o_,o_,o_,o_,o_,oT] [(1,sB in1),(2,.ra 1 0),(5,I a0),(6,I a1),(84,.bool true)] (cq (Kcy _ _ a6) K42 (ab (Qdw (enc := AV.bool) (x := .bool a7) a8 (Qe9 a7)) (Qdw (enc := AV.bool) (x := .bool a9) b1 (Qe9 a9)) (ar 3 b2 (ai (Qdw (enc := AV.bool) (x := .bool d2) d3 (Qe9 d2)) (ar 2 b2 (ar 5 (nF b3) (cq (Kd1 _ _ b5) K44 (ab (nF b3) (Qdw (enc := AV.bool) (x := .bool b6) b7 (Qe9 b6)) (ar 4 (nF b3) (ai (Qdw (enc := AV.bool) (x := .bool b8) b9 (Qe9 b8)) (ar 2 (nF b3) (ar 3 c0 (ad (Qdw (enc := AV.bool) (x := .bool c1) c2 (Qe9 c1)) c0 (nF b3) c0 (ar 2 (nF b3) (ar 8 (neF (nT c3)) (ai (nT c3) tv)))))))))))))))) ?_
     obtain rfl := os h
     exact Qde.mk
    rcases is h with ⟨c3,h⟩ | ⟨c3,h⟩
    ·obtain ⟨c4,c5,h⟩ := Qds h
     rcases is h with ⟨c6,h⟩ | ⟨c6,h⟩
     ·obtain ⟨c7,c8,h⟩ := Qds h
      rcases is h with ⟨c9,h⟩ | ⟨c9,h⟩
      ·obtain ⟨d0,d1,h⟩ := Qds h
       refine rgs hc Ke9 [oN,oN,oN,oN,oc (I a5),some (.el (.bool a7)),oN,oN,oN,some (.el (.bool a9)),oN,oN,oN,oN,some (.el (.bool d2)),oN,oF,oN,oN,oN,oN,oN,oN,oc (I b4),some (.el (.bool b6)),oN,oN,oN,some (.el (.bool b8)),oN,oN,o_,o_,o_,o_,oF,oN,oF,oN,oN,oN,some (.el (.bool c4)),oN,oN,oN,oN,oN,oc (.bool c7),oT,oN,oN,oN,some (.el (.bool d0)),oN,oN,oT,oF] [(1,sB in1),(2,.ra 1 0),(5,I a0),(6,I a1),(84,.bool (!d0))] (cq (Kcy _ _ a6) K42 (ab (Qdw (enc := AV.bool) (x := .bool a7) a8 (Qe9 a7)) (Qdw (enc := AV.bool) (x := .bool a9) b1 (Qe9 a9)) (ar 3 b2 (ai (Qdw (enc := AV.bool) (x := .bool d2) d3 (Qe9 d2)) (ar 2 b2 (ar 5 (nF b3) (cq (Kd1 _ _ b5) K44 (ab (nF b3) (Qdw (enc := AV.bool) (x := .bool b6) b7 (Qe9 b6)) (ar 4 (nF b3) (ai (Qdw (enc := AV.bool) (x := .bool b8) b9 (Qe9 b8)) (ar 2 (nF b3) (ar 4 (neT c0) (ab (nF b3) c0 (ar 2 (nF b3) (ar 3 (nF c3) (ai (Qdw (enc := AV.bool) (x := .bool c4) c5 (Qe9 c4)) (ar 2 (nF c3) (ar 4 c6 (cq (Kd4 _ _ c8) K45 (ac (nF c3) c6 (nF c3) (ar 3 c9 (ai (Qdw (enc := AV.bool) (x := .bool d0) d1 (Qe9 d0)) (ar 2 c9 (ac (nF c3) c9 (nF c3) tv)))))))))))))))))))))))) ?_
       obtain rfl := os h
       exact Qde.mk
      refine rgs hc Ke9 [oN,oN,oN,oN,oc (I a5),some (.el (.bool a7)),oN,oN,oN,some (.el (.bool a9)),oN,oN,oN,oN,some (.el (.bool d2)),oN,oF,oN,oN,oN,oN,oN,oN,oc (I b4),some (.el (.bool b6)),oN,oN,oN,some (.el (.bool b8)),oN,oN,o_,o_,o_,o_,oF,oN,oF,oN,oN,oN,some (.el (.bool c4)),oN,oN,oN,oN,oN,oc (.bool c7),oT,oN,o_,o_,o_,o_,o_,oF,oF] [(1,sB in1),(2,.ra 1 0),(5,I a0),(6,I a1),(84,.bool false)] (cq (Kcy _ _ a6) K42 (ab (Qdw (enc := AV.bool) (x := .bool a7) a8 (Qe9 a7)) (Qdw (enc := AV.bool) (x := .bool a9) b1 (Qe9 a9)) (ar 3 b2 (ai (Qdw (enc := AV.bool) (x := .bool d2) d3 (Qe9 d2)) (ar 2 b2 (ar 5 (nF b3) (cq (Kd1 _ _ b5) K44 (ab (nF b3) (Qdw (enc := AV.bool) (x := .bool b6) b7 (Qe9 b6)) (ar 4 (nF b3) (ai (Qdw (enc := AV.bool) (x := .bool b8) b9 (Qe9 b8)) (ar 2 (nF b3) (ar 4 (neT c0) (ab (nF b3) c0 (ar 2 (nF b3) (ar 3 (nF c3) (ai (Qdw (enc := AV.bool) (x := .bool c4) c5 (Qe9 c4)) (ar 2 (nF c3) (ar 4 c6 (cq (Kd4 _ _ c8) K45 (ac (nF c3) c6 (nF c3) (ar 5 (neT c9) (ac (nF c3) c9 (nF c3) tv)))))))))))))))))))))) ?_
      obtain rfl := os h
      exact Qde.mk
     refine rgs hc Ke9 [oN,oN,oN,oN,oc (I a5),some (.el (.bool a7)),oN,oN,oN,some (.el (.bool a9)),oN,oN,oN,oN,some (.el (.bool d2)),oN,oF,oN,oN,oN,oN,oN,oN,oc (I b4),some (.el (.bool b6)),oN,oN,oN,some (.el (.bool b8)),oN,oN,o_,o_,o_,o_,oF,oN,oF,oN,oN,oN,some (.el (.bool c4)),oN,oN,o_,o_,o_,o_,oF,oN,o_,o_,o_,o_,o_,oF,oF] [(1,sB in1),(2,.ra 1 0),(5,I a0),(6,I a1),(84,.bool false)] (cq (Kcy _ _ a6) K42 (ab (Qdw (enc := AV.bool) (x := .bool a7) a8 (Qe9 a7)) (Qdw (enc := AV.bool) (x := .bool a9) b1 (Qe9 a9)) (ar 3 b2 (ai (Qdw (enc := AV.bool) (x := .bool d2) d3 (Qe9 d2)) (ar 2 b2 (ar 5 (nF b3) (cq (Kd1 _ _ b5) K44 (ab (nF b3) (Qdw (enc := AV.bool) (x := .bool b6) b7 (Qe9 b6)) (ar 4 (nF b3) (ai (Qdw (enc := AV.bool) (x := .bool b8) b9 (Qe9 b8)) (ar 2 (nF b3) (ar 4 (neT c0) (ab (nF b3) c0 (ar 2 (nF b3) (ar 3 (nF c3) (ai (Qdw (enc := AV.bool) (x := .bool c4) c5 (Qe9 c4)) (ar 2 (nF c3) (ar 4 (neT c6) (ac (nF c3) c6 (nF c3) (ar 5 (neT (rfl : false = false)) (ac (nF c3) (rfl : false = false) (nF c3) tv))))))))))))))))))))) ?_
     obtain rfl := os h
     exact Qde.mk
    refine rgs hc Ke9 [oN,oN,oN,oN,oc (I a5),some (.el (.bool a7)),oN,oN,oN,some (.el (.bool a9)),oN,oN,oN,oN,some (.el (.bool d2)),oN,oF,oN,oN,oN,oN,oN,oN,oc (I b4),some (.el (.bool b6)),oN,oN,oN,some (.el (.bool b8)),oN,oN,o_,o_,o_,o_,oF,oN,oF,oN,o_,o_,o_,o_,o_,o_,o_,o_,o_,o_,o_,o_,o_,o_,o_,o_,o_,oT] [(1,sB in1),(2,.ra 1 0),(5,I a0),(6,I a1),(84,.bool true)] (cq (Kcy _ _ a6) K42 (ab (Qdw (enc := AV.bool) (x := .bool a7) a8 (Qe9 a7)) (Qdw (enc := AV.bool) (x := .bool a9) b1 (Qe9 a9)) (ar 3 b2 (ai (Qdw (enc := AV.bool) (x := .bool d2) d3 (Qe9 d2)) (ar 2 b2 (ar 5 (nF b3) (cq (Kd1 _ _ b5) K44 (ab (nF b3) (Qdw (enc := AV.bool) (x := .bool b6) b7 (Qe9 b6)) (ar 4 (nF b3) (ai (Qdw (enc := AV.bool) (x := .bool b8) b9 (Qe9 b8)) (ar 2 (nF b3) (ar 4 (neT c0) (ab (nF b3) c0 (ar 2 (nF b3) (ar 8 (neF (nT c3)) (ai (nT c3) tv)))))))))))))))) ?_
    obtain rfl := os h
    exact Qde.mk
   refine rgs hc Ke9 [oN,oN,oN,oN,oc (I a5),some (.el (.bool a7)),oN,oN,oN,some (.el (.bool a9)),oN,oN,oN,oN,some (.el (.bool d2)),oN,oF,oN,oN,o_,o_,o_,o_,o_,o_,o_,o_,o_,o_,o_,o_,o_,o_,o_,o_,o_,o_,oT,oN,o_,o_,o_,o_,o_,o_,o_,o_,o_,o_,o_,o_,o_,o_,o_,o_,o_,oT] [(1,sB in1),(2,.ra 1 0),(5,I a0),(6,I a1),(84,.bool true)] (cq (Kcy _ _ a6) K42 (ab (Qdw (enc := AV.bool) (x := .bool a7) a8 (Qe9 a7)) (Qdw (enc := AV.bool) (x := .bool a9) b1 (Qe9 a9)) (ar 3 b2 (ai (Qdw (enc := AV.bool) (x := .bool d2) d3 (Qe9 d2)) (ar 2 b2 (ar 14 (neF (nT b3)) (ai (nT b3) (ar 8 nf (ai tt tv))))))))) ?_
   obtain rfl := os h
   exact Qde.mk
  clear a4
  refine ic h (fun d4 h => ?_) fun d4 h => ?_
  ·refine rs0 hc 1 [(4,.bool false)] [] ?_
   refine rt ?_
   obtain rfl := os h
   exact re [true]
  refine sk ?_
  refine K6m hc 3 [(1,sB in1),(2,.ra 1 0),(5,I a0),(6,I (wr (a1 + 1)))] ?_
  refine Qda ?_
  exact (impl_isView_l0_ih _ _ h c hc)
 refine xt 2 ?_
 refine Qd4 ?_
 refine Qdb ?_
 obtain rfl := os h
 exact iv []
def Ked : Option (List (List Nat)) := rx [[0],[1],[2],[3],[0],[0,4],[0,4,5],[7],[8],[9]]
def Kee (c : Ctx) : (Unit) ⊕ (Bool) → Exit → Q0a → Prop
 | .inl _ => Qde c (.exit 0) (mkS [] [])
 | .inr r => Qdn TIx Tryz.f151 [] (.bool r)
def Kef (p : K00 × (List Bool) × Int) : Option ((Unit) ⊕ (Bool)) :=
 match p with
 | (s0,in1,a0) =>
  if (decide (a0 < s0.fSize)) = true then
  (Kea (s0,in1,a0,0)) >>= fun fl => match fl with
  | .inl () =>
   Kef (s0,in1,(wr (a0 + 1)))
  | .inr r =>
   some (.inr r)
  else
  some (.inl ())
 partial_fixpoint
def Keg (p : K00 × (List Bool) × Int) (fl : (Unit) ⊕ (Bool)) : Prop :=
 match p with
 | (s0,in1,a0) => ∀ c : Ctx,c.nt = 85 → WpL Tryz.prog c (cl (cl (cr (cl (cr (cr K4b)))))) (Kee c fl) (mkS [(1,sB in1),(2,.ra 1 0),(5,I a0)] [(1,K19 s0)])
theorem Keh : ∀ p r,Kef p = some r → Keg p r := by
 refine Kef.partial_correctness Keg ?_
 rintro impl_isView_l1_f impl_isView_l1_ih ⟨s0,in1,a0⟩ r h
 intro c hc
 refine WpL.step ?_
 refine sN ?_
 refine K6n hc 4 [(1,sB in1),(2,.ra 1 0),(5,I a0),(19,.bool (decide (a0 < s0.fSize)))] ?_
 refine ic h (fun a1 h => ?_) fun a1 h => ?_
 ·refine sk ?_
  refine sN ?_
  refine bk 1 ?_
  refine K6n hc 1 [(1,sB in1),(2,.ra 1 0),(5,I a0),(6,I 0)] ?_
  refine bk 2 ?_
  obtain ⟨fl,a2,h⟩ := Qds h
  have hL := Kec _ _ a2 c hc
  refine lp ?_
  rcases fl with ⟨⟩ | r
  ·refine WpL.into (e := (.exit 2)) (mkS [(1,sB in1),(2,.ra 1 0),(5,I a0)] [(1,K19 s0)]) hL ?_
   refine Qd6 ?_
   refine K6m hc 3 [(1,sB in1),(2,.ra 1 0),(5,I (wr (a0 + 1)))] ?_
   refine Qda ?_
   exact (impl_isView_l1_ih _ _ h c hc)
  refine WpL.mono hL ?_
  rintro _ _ ⟨rfl,hfin⟩
  obtain rfl := os h
  exact ⟨rfl,hfin⟩
 refine xt 0 ?_
 refine Qd4 ?_
 refine Qdb ?_
 obtain rfl := os h
 exact iv []
def Kei (p : K00 × (List Bool)) : Option (Bool) :=
 match p with
 | (s0,in1) =>
  ((
  (idx in1 1) >>= fun a0 =>
  if a0 = true then
   (idx in1 0) >>= fun a1 =>
   some (a1)
  else
   some (true)
  ) : Option (Bool)) >>= fun a2 =>
  if a2 = true then
  some false
  else
  (Kef (s0,in1,0)) >>= fun fl => match fl with
  | .inl () =>
   some true
  | .inr r =>
   some r
def Kej (p : K00 × (List Bool)) (r : Bool) : Prop :=
 match p with
 | (s0,in1) => Q75 Tryz.prog 151 [K1a s0,sB in1] (.bool r) []
theorem Kek : ∀ p r,Kei p = some r → Kej p r := by
 rintro ⟨s0,in1⟩ r h
 unfold Kei at h
 refine b0 Tryz.f151 K4b 85 [(0,K1a s0),(1,sB in1)] fun c hc => ?_
 refine rs hc none [some (.new 1),oN] [(1,sB in1),(2,.ra 1 0)] [(1,K19 s0)] tv ?_
 refine sN ?_
 refine sN ?_
 obtain ⟨a0,a1,h⟩ := Qds h
 refine Wp.into (x := .normal) (mkS [(1,sB in1),(2,.ra 1 0),(15,.bool a0)] [(1,K19 s0)]) ?_ ?_
 ·replace h := a1
  obtain ⟨a2,a3,h⟩ := Qds h
  rcases is h with ⟨a4,h⟩ | ⟨a4,h⟩
  ·obtain ⟨a5,a6,h⟩ := Qds h
   refine rgs hc none [oN,some (.el (.bool a2)),oN,oN,oN,oN,some (.el (.bool a5)),oN,oF] [(1,sB in1),(2,.ra 1 0),(15,.bool a5)] (ai (Qdw (enc := AV.bool) (x := .bool a2) a3 (Qe9 a2)) (ar 2 (nF a4) (ai (Qdw (enc := AV.bool) (x := .bool a5) a6 (Qe9 a5)) (ar 2 (nF a4) tv)))) ?_
   obtain rfl := os h
   exact Qde.mk
  refine rgs hc none [oN,some (.el (.bool a2)),oN,oN,oN,o_,o_,o_,oT] [(1,sB in1),(2,.ra 1 0),(15,.bool true)] (ai (Qdw (enc := AV.bool) (x := .bool a2) a3 (Qe9 a2)) (ar 3 (neF (nT a4)) (ai (nT a4) tv))) ?_
  obtain rfl := os h
  exact Qde.mk
 clear a1
 refine ic h (fun a7 h => ?_) fun a7 h => ?_
 ·refine rs0 hc 1 [(4,.bool false)] [] ?_
  refine rt ?_
  obtain rfl := os h
  exact rq [true]
 refine sk ?_
 refine sN ?_
 refine K6n hc 1 [(1,sB in1),(2,.ra 1 0),(5,I 0)] ?_
 refine bk 0 ?_
 obtain ⟨fl,a8,h⟩ := Qds h
 have hL := Keh _ _ a8 c hc
 refine lp ?_
 rcases fl with ⟨⟩ | r
 ·refine WpL.into (e := (.exit 0)) (mkS [] []) hL ?_
  refine Qd6 ?_
  refine rs0 hc 1 [(4,.bool true)] [] ?_
  refine rt ?_
  obtain rfl := os h
  exact rq [true]
 refine WpL.mono hL ?_
 rintro _ _ ⟨rfl,hfin⟩
 obtain rfl := os h
 exact ⟨.inl rfl,hfin⟩
def Kel (c : Ctx) (s0 : K00) : ((List Bool)) ⊕ (Bool) → Exit → Q0a → Prop
 | .inl a0 => Qde c (.exit 0) (mkS [(2,.ra 1 0),(5,.rs 2)] [(1,K19 s0),(2,.arr (List.map AV.bool a0))])
 | .inr r => Qdn TIx Tryz.f69 [] (.bool r)
def Kem (p : K00 × (List Int) × (List Bool) × Int) : Option (((List Bool)) ⊕ (Bool)) :=
 match p with
 | (s0,v1,a0,a1) =>
  if (decide (a1 < (v1.length : Int))) = true then
  (idx v1 a1) >>= fun a2 =>
  ((
  (Kct (s0,a2)) >>= fun a3 =>
  if a3 = true then
  if (decide (a1 > 0)) = true then
  (idx v1 (wr (a1 - 1))) >>= fun a4 =>
  some ((decide (a2 ≤ a4)))
  else
  some (false)
  else
  some (true)
  ) : Option (Bool)) >>= fun a5 =>
  if a5 = true then
  some (.inr false)
  else
  (idx a0 a2) >>= fun a6 =>
  Kem (s0,v1,(List.set a0 (Int.toNat a2) true),(wr (a1 + 1)))
  else
  some (.inl a0)
 partial_fixpoint
def Ken (p : K00 × (List Int) × (List Bool) × Int) (fl : ((List Bool)) ⊕ (Bool)) : Prop :=
 match p with
 | (s0,v1,a0,a1) => ∀ c : Ctx,c.nt = 45 → WpL Tryz.prog c (cl (cl (cr (cl (cr (cr (cr B69))))))) (Kel c s0 fl) (mkS [(1,sI v1),(2,.ra 1 0),(5,.rs 2),(14,sI v1),(15,I (v1.length : Int)),(16,I a1)] [(1,K19 s0),(2,.arr (List.map AV.bool a0))])
theorem Keo : ∀ p r,Kem p = some r → Ken p r := by
 refine Kem.partial_correctness Ken ?_
 rintro impl_IsView_l0_f impl_IsView_l0_ih ⟨s0,v1,a0,a1⟩ r h
 intro c hc
 refine WpL.step ?_
 refine K6n hc 1 [(1,sI v1),(2,.ra 1 0),(5,.rs 2),(14,sI v1),(15,I (v1.length : Int)),(16,I a1),(17,.bool (decide (a1 < (v1.length : Int))))] ?_
 refine sN ?_
 refine ic h (fun a2 h => ?_) fun a2 h => ?_
 ·refine sk ?_
  refine sN ?_
  refine bk 1 ?_
  obtain ⟨a3,a4,h⟩ := Qds h
  refine rss hc none [oN,some (.el (I a3)),oN,oN,oN] [(1,sI v1),(2,.ra 1 0),(5,.rs 2),(6,I a1),(7,I a3),(14,sI v1),(15,I (v1.length : Int)),(16,I a1)] (ai (ix a4) tv) ?_
  refine sN ?_
  refine sN ?_
  obtain ⟨a5,a6,h⟩ := Qds h
  refine Wp.into (x := .normal) (mkS [(1,sI v1),(2,.ra 1 0),(5,.rs 2),(7,I a3),(14,sI v1),(15,I (v1.length : Int)),(16,I a1),(37,.bool a5)] [(1,K19 s0),(2,.arr (List.map AV.bool a0))]) ?_ ?_
  ·replace h := a6
   obtain ⟨a7,a8,h⟩ := Qds h
   rcases is h with ⟨a9,h⟩ | ⟨a9,h⟩
   ·rcases is h with ⟨b1,h⟩ | ⟨b1,h⟩
    ·obtain ⟨b2,b3,h⟩ := Qds h
     refine rgs hc none [oN,oN,oc (.bool a7),oN,oN,oN,oN,oN,oN,oN,oN,oN,some (.el (I b2)),oN,oN,oT,oF] [(1,sI v1),(2,.ra 1 0),(5,.rs 2),(7,I a3),(14,sI v1),(15,I (v1.length : Int)),(16,I a1),(37,.bool (decide (a3 ≤ b2)))] (cq (Kcv _ _ a8) K40 (ar 3 (nF a9) (ar 5 b1 (ai (ix b3) (ar 2 b1 (ac (nF a9) b1 (nF a9) tv)))))) ?_
     obtain rfl := os h
     exact Qde.mk
    refine rgs hc none [oN,oN,oc (.bool a7),oN,oN,oN,oN,oN,o_,o_,o_,o_,o_,o_,o_,oF,oF] [(1,sI v1),(2,.ra 1 0),(5,.rs 2),(7,I a3),(14,sI v1),(15,I (v1.length : Int)),(16,I a1),(37,.bool false)] (cq (Kcv _ _ a8) K40 (ar 3 (nF a9) (ar 7 (neT b1) (ac (nF a9) b1 (nF a9) tv)))) ?_
    obtain rfl := os h
    exact Qde.mk
   refine rgs hc none [oN,oN,oc (.bool a7),oN,oN,o_,o_,o_,o_,o_,o_,o_,o_,o_,o_,o_,oT] [(1,sI v1),(2,.ra 1 0),(5,.rs 2),(7,I a3),(14,sI v1),(15,I (v1.length : Int)),(16,I a1),(37,.bool true)] (cq (Kcv _ _ a8) K40 (ar 4 (neF (nT a9)) (ai (nT a9) tv))) ?_
   obtain rfl := os h
   exact Qde.mk
  clear a6
  refine ic h (fun b4 h => ?_) fun b4 h => ?_
  ·refine rs0 hc 1 [(4,.bool false)] [] ?_
   refine rt ?_
   obtain rfl := os h
   exact re [true]
  refine sk ?_
  obtain ⟨b5,b6,h⟩ := Qds h
  refine rg hc none [oN,oN,oN,some (.eqv (.mk 0 true) ⟨[],[(2,some (.arr (List.map AV.bool (List.set a0 (Int.toNat a3) true))))],[]⟩)] [(1,sI v1),(2,.ra 1 0),(5,.rs 2),(14,sI v1),(15,I (v1.length : Int)),(16,I a1)] [(1,K19 s0),(2,.arr (List.map AV.bool (List.set a0 (Int.toNat a3) true)))] (ac (Qdx (enc := AV.bool) b6) (congrArg (fun z => (⟨[],[(2,some (.arr z))],[]⟩ : Wr)) (Qev (enc := AV.bool) (i := Int.toNat a3) (l := a0) (v := true) (x := AV.bool true) (Qe9 true))) (Qew (enc := AV.bool) (sz := 1) Qed b6) tv) ?_
  refine K6m hc 2 [(1,sI v1),(2,.ra 1 0),(5,.rs 2),(14,sI v1),(15,I (v1.length : Int)),(16,I (wr (a1 + 1)))] ?_
  refine Qda ?_
  exact (impl_IsView_l0_ih _ _ h c hc)
 refine xt 0 ?_
 refine Qd4 ?_
 refine Qdb ?_
 obtain rfl := os h
 exact iv []
def Kep (p : K00 × (List Int)) : Option (Bool) :=
 match p with
 | (s0,v1) =>
  (Ke5 s0) >>= fun a0 =>
  if a0 = true then
  (chk (0 ≤ s0.fSize ∧ (Int.toNat s0.fSize) * 1 ≤ 140737488355328)) >>= fun _ =>
  (Kem (s0,v1,(List.replicate (Int.toNat s0.fSize) false),0)) >>= fun fl => match fl with
  | .inl a1 =>
   (Kei (s0,a1)) >>= fun a2 =>
   some a2
  | .inr r =>
   some r
  else
  some false
def Keq (p : K00 × (List Int)) (r : Bool) : Prop :=
 match p with
 | (s0,v1) => Q75 Tryz.prog 69 [K1a s0,sI v1] (.bool r) []
theorem Ker : ∀ p r,Kep p = some r → Keq p r := by
 rintro ⟨s0,v1⟩ r h
 unfold Kep at h
 refine b0 Tryz.f69 B69 45 [(0,K1a s0),(1,sI v1)] fun c hc => ?_
 refine rs hc none [some (.new 1),oN] [(1,sI v1),(2,.ra 1 0)] [(1,K19 s0)] tv ?_
 refine sN ?_
 obtain ⟨a0,a1,h⟩ := Qds h
 refine rss hc none [oN,oc (.bool a0),oN] [(1,sI v1),(2,.ra 1 0),(10,.bool (!a0))] (cq (Ke7 _ _ a1) K4a tv) ?_
 rcases is h with ⟨a2,h⟩ | ⟨a2,h⟩
 ·refine cF (!a0) (nF a2) ?_
  refine sk ?_
  obtain ⟨_,a3,h⟩ := Qds h
  refine rs hc none [oN,oN,some (.eqv (.mk 2 true) ⟨[(13,.rs 2)],[(2,some (.arr (List.map AV.bool (List.replicate (Int.toNat s0.fSize) false))))],[2]⟩),oN] [(1,sI v1),(2,.ra 1 0),(5,.rs 2)] [(1,K19 s0),(2,.arr (List.map AV.bool (List.replicate (Int.toNat s0.fSize) false)))] (ab (congrArg (fun z => (⟨[(13,.rs 2)],[(2,some (.arr z))],[2]⟩ : Wr)) (Qex (enc := AV.bool) (n := Int.toNat s0.fSize) (x := AV.bool false) (Qe9 false))) (And.intro (Eq.refl s0.fSize) (Qdu a3)) tv) ?_
  refine sN ?_
  refine rss hc none [oN,some (.eqv (.no) ⟨[(15,I (v1.length : Int))],[],[]⟩),oN] [(1,sI v1),(2,.ra 1 0),(5,.rs 2),(14,sI v1),(15,I (v1.length : Int)),(16,I 0)] (ai (Qdy (d := 15) I v1) tv) ?_
  refine bk 0 ?_
  obtain ⟨fl,a4,h⟩ := Qds h
  have hL := Keo _ _ a4 c hc
  refine lp ?_
  rcases fl with a5 | r
  ·refine WpL.into (e := (.exit 0)) (mkS [(2,.ra 1 0),(5,.rs 2)] [(1,K19 s0),(2,.arr (List.map AV.bool a5))]) hL ?_
   refine Qd6 ?_
   obtain ⟨a6,a7,h⟩ := Qds h
   refine rs hc none [oN,oN,oc (.bool a6),oN] [(4,.bool a6)] [] (ac (Q75.args (A1 := [K1a s0,.sl (Q02 (List.map AV.bool a5))]) (A2 := [K1a s0,sB a5]) (by simp only [List.map_nil,Qem]) (Kek _ _ a7)) K4c (Or.inr rfl : ([2] : List Nat) = [] ∨ noSh (.bool a6) = true) tv) ?_
   refine rt ?_
   obtain rfl := os h
   exact rq [true]
  refine WpL.mono hL ?_
  rintro _ _ ⟨rfl,hfin⟩
  obtain rfl := os h
  exact ⟨.inl rfl,hfin⟩
 refine cT (!a0) (nT a2) ?_
 refine rs0 hc 1 [(4,.bool false)] [] ?_
 refine rt ?_
 obtain rfl := os h
 exact rq [true]
def Kes (code0 : Int) : Option (Int × Int) :=
 (Kcq (code0,0,2)) >>= fun a0 =>
 if a0 = true then
 some (code0,(-1))
 else
 (Kcq (code0,3,18)) >>= fun a1 =>
 if a1 = true then
 some (3,(wr (code0 - 3)))
 else
 (Kcq (code0,19,34)) >>= fun a2 =>
 if a2 = true then
 some (4,(wr (code0 - 19)))
 else
 if (code0 == 35) = true then
 some (3,(-1))
 else
 if (code0 == 36) = true then
 some (4,(-1))
 else
 some (5,(-1))
def Ket (code0 : Int) (r : Int × Int) : Prop :=
 Q75 Tryz.prog 157 [I code0] (.tup [I r.1,I r.2]) []
theorem Keu : ∀ p r,Kes p = some r → Ket p r := by
 rintro code0 r h
 unfold Kes at h
 refine b0 Tryz.f157 K4e 24 [(0,I code0)] fun c hc => ?_
 refine rs0 hc 2 [(0,I code0)] [] ?_
 refine sN ?_
 refine bk 0 ?_
 obtain ⟨a0,a1,h⟩ := Qds h
 refine rs hc none [oN,oc (.bool a0),oN] [(0,I code0),(4,.bool a0)] [] (cq (Kcs _ _ a1) K3y tv) ?_
 refine ic h (fun a2 h => ?_) fun a2 h => ?_
 ·refine rs0 hc 3 [(2,I code0),(3,I (-1))] [] ?_
  refine rt ?_
  obtain rfl := os h
  exact rq [true,true]
 obtain ⟨a3,a4,h⟩ := Qds h
 refine rs hc none [oN,oc (.bool a3),oN] [(0,I code0),(8,.bool a3)] [] (cq (Kcs _ _ a4) K3y tv) ?_
 refine ic h (fun a5 h => ?_) fun a5 h => ?_
 ·refine rs0 hc 4 [(2,I 3),(3,I (wr (code0 - 3)))] [] ?_
  refine rt ?_
  obtain rfl := os h
  exact rq [true,true]
 obtain ⟨a6,a7,h⟩ := Qds h
 refine rs hc none [oN,oc (.bool a6),oN] [(0,I code0),(13,.bool a6)] [] (cq (Kcs _ _ a7) K3y tv) ?_
 refine ic h (fun a8 h => ?_) fun a8 h => ?_
 ·refine rs0 hc 4 [(2,I 4),(3,I (wr (code0 - 19)))] [] ?_
  refine rt ?_
  obtain rfl := os h
  exact rq [true,true]
 refine rs0 hc 3 [(0,I code0),(18,.bool (code0 == 35))] [] ?_
 refine ic h (fun a9 h => ?_) fun a9 h => ?_
 ·refine rs0 hc 2 [(2,I 3),(3,I (-1))] [] ?_
  refine rt ?_
  obtain rfl := os h
  exact rq [true,true]
 refine rs0 hc 3 [(21,.bool (code0 == 36))] [] ?_
 refine ic h (fun b1 h => ?_) fun b1 h => ?_
 ·refine rs0 hc 2 [(2,I 4),(3,I (-1))] [] ?_
  refine rt ?_
  obtain rfl := os h
  exact rq [true,true]
 refine sk ?_
 refine rs0 hc 2 [(2,I 5),(3,I (-1))] [] ?_
 refine rt ?_
 obtain rfl := os h
 exact rq [true,true]
def Kev (p : (List Int) × Int) : Option (Int) :=
 match p with
 | (ty0,at1) =>
  ((
  if (decide (at1 < 0)) = true then
  some (true)
  else
  some ((decide (at1 ≥ (ty0.length : Int))))
  ) : Option (Bool)) >>= fun a0 =>
  if a0 = true then
  some (-1)
  else
  (idx ty0 at1) >>= fun a1 =>
  (Kes a1) >>= fun (a2,a3) =>
  if (a2 == 0) = true then
  some (wr (at1 + 1))
  else
  if (a2 == 4) = true then
  (Kev (ty0,(wr (at1 + 1)))) >>= fun a4 =>
  some a4
  else
  if (a2 == 5) = true then
  some (-1)
  else
  (Kev (ty0,(wr (at1 + 1)))) >>= fun a5 =>
  (Kev (ty0,a5)) >>= fun a6 =>
  some a6
 partial_fixpoint
def Kew (p : (List Int) × Int) (r : Int) : Prop :=
 match p with
 | (ty0,at1) => Q75 Tryz.prog 213 [sI ty0,I at1] (I r) []
theorem Kex : ∀ p r,Kev p = some r → Kew p r := by
 refine Kev.partial_correctness Kew ?_
 rintro impl_typeEnd_f impl_typeEnd_ih ⟨ty0,at1⟩ r h
 refine b0 Tryz.f213 K4g 42 [(0,sI ty0),(1,I at1)] fun c hc => ?_
 refine rs0 hc 1 [(0,sI ty0),(1,I at1)] [] ?_
 refine sN ?_
 refine sN ?_
 obtain ⟨a0,a1,h⟩ := Qds h
 refine Wp.into (x := .normal) (mkS [(0,sI ty0),(1,I at1),(14,.bool a0)] []) ?_ ?_
 ·replace h := a1
  rcases is h with ⟨a2,h⟩ | ⟨a2,h⟩
  ·refine rg hc none [oN,oN,oN,o_,o_,o_,o_,oT] [(0,sI ty0),(1,I at1),(14,.bool true)] [] (ar 4 (neF a2) (ai a2 tv)) ?_
   obtain rfl := os h
   exact Qde.mk
  refine rg hc none [oN,oN,oN,oN,oN,some (.eqv (.no) ⟨[(12,I (ty0.length : Int))],[],[]⟩),oN,oF] [(0,sI ty0),(1,I at1),(14,.bool (decide (at1 ≥ (ty0.length : Int))))] [] (ar 3 a2 (ai (Qdy (d := 12) I ty0) (ar 2 a2 tv))) ?_
  obtain rfl := os h
  exact Qde.mk
 clear a1
 refine ic h (fun a3 h => ?_) fun a3 h => ?_
 ·refine rs0 hc 1 [(4,I (-1))] [] ?_
  refine rt ?_
  obtain rfl := os h
  exact rq [true]
 refine sk ?_
 obtain ⟨a4,a5,⟨a6,a7⟩,a8,h⟩ := bq2 h
 refine rs hc none [oN,oN,some (.el (I a4)),oN,oc (.tup [I a6,I a7]),oN,oN,oN,oN,oN] [(0,sI ty0),(1,I at1),(5,I a6)] [] (ai (ix a5) (cq (Keu _ _ a8) K4f tv)) ?_
 refine sN ?_
 refine rs0 hc 1 [(0,sI ty0),(1,I at1),(23,I a6)] [] ?_
 refine bk 0 ?_
 refine rs0 hc 2 [(0,sI ty0),(1,I at1),(23,I a6),(24,.bool (a6 == 0))] [] ?_
 refine ic h (fun a9 h => ?_) fun a9 h => ?_
 ·refine rs0 hc 3 [(4,I (wr (at1 + 1)))] [] ?_
  refine rt ?_
  obtain rfl := os h
  exact rq [true]
 refine rs0 hc 2 [(0,sI ty0),(1,I at1),(23,I a6),(28,.bool (a6 == 4))] [] ?_
 refine ic h (fun b1 h => ?_) fun b1 h => ?_
 ·obtain ⟨b2,b3,h⟩ := Qds h
  refine rs hc none [oN,oN,oN,oc (I b2),oN] [(4,I b2)] [] (cq (impl_typeEnd_ih _ _ b3) K4h tv) ?_
  refine rt ?_
  obtain rfl := os h
  exact rq [true]
 refine rs0 hc 2 [(0,sI ty0),(1,I at1),(34,.bool (a6 == 5))] [] ?_
 refine ic h (fun b4 h => ?_) fun b4 h => ?_
 ·refine rs0 hc 1 [(4,I (-1))] [] ?_
  refine rt ?_
  obtain rfl := os h
  exact rq [true]
 refine sk ?_
 obtain ⟨b5,b6,b7,b8,h⟩ := bq2 h
 refine rs hc none [oN,oN,oN,oN,oc (I b5),oc (I b7),oN] [(4,I b7)] [] (cq (impl_typeEnd_ih _ _ b6) K4h (cq (impl_typeEnd_ih _ _ b8) K4h tv)) ?_
 refine rt ?_
 obtain rfl := os h
 exact rq [true]
def Key (ty0 : (List Int)) : Option (Bool) :=
 ((
 (Kcq ((ty0.length : Int),1,40)) >>= fun a0 =>
 if a0 = true then
 (Kev (ty0,0)) >>= fun a1 =>
 some ((a1 == (ty0.length : Int)))
 else
 some (false)
 ) : Option (Bool)) >>= fun a2 =>
 some a2
def Kez (ty0 : (List Int)) (r : Bool) : Prop :=
 Q75 Tryz.prog 159 [sI ty0] (.bool r) []
theorem Kf0 : ∀ p r,Key p = some r → Kez p r := by
 rintro ty0 r h
 unfold Key at h
 refine b0 Tryz.f159 K4i 13 [(0,sI ty0)] fun c hc => ?_
 refine rs0 hc 1 [(0,sI ty0)] [] ?_
 refine sN ?_
 obtain ⟨a0,a1,h⟩ := Qds h
 refine Wp.into (x := .normal) (mkS [(2,.bool a0)] []) ?_ ?_
 ·replace h := a1
  obtain ⟨a2,a3,h⟩ := Qds h
  rcases is h with ⟨a4,h⟩ | ⟨a4,h⟩
  ·obtain ⟨a5,a6,h⟩ := Qds h
   refine rg hc none [oN,some (.eqv (.no) ⟨[(4,I (ty0.length : Int))],[],[]⟩),oc (.bool a2),oN,oN,oc (I a5),oN,some (.eqv (.no) ⟨[(10,I (ty0.length : Int))],[],[]⟩),oN,oT,oN] [(2,.bool (a5 == (ty0.length : Int)))] [] (ai (Qdy (d := 4) I ty0) (cq (Kcs _ _ a3) K3y (ar 2 a4 (cq (Kex _ _ a6) K4h (ar 2 a4 (ai (Qdy (d := 10) I ty0) (ar 2 a4 tv))))))) ?_
   obtain rfl := os h
   exact Qde.mk
  refine rg hc none [oN,some (.eqv (.no) ⟨[(4,I (ty0.length : Int))],[],[]⟩),oc (.bool a2),oN,o_,o_,o_,o_,o_,oF,oN] [(2,.bool false)] [] (ai (Qdy (d := 4) I ty0) (cq (Kcs _ _ a3) K3y (ar 5 (neT a4) (ai a4 tv)))) ?_
  obtain rfl := os h
  exact Qde.mk
 clear a1
 refine rt ?_
 obtain rfl := os h
 exact rq [true]
def Kf1 (c : Ctx) : (Unit) ⊕ (Bool) → Exit → Q0a → Prop
 | .inl _ => Qde c (.exit 0) (mkS [] [])
 | .inr r => Qdn TIx Tryz.f78 [] (.bool r)
def Kf2 (p : K00 × (List Int) × Int) : Option ((Unit) ⊕ (Bool)) :=
 match p with
 | (s0,ty1,a0) =>
  if (decide (a0 < (ty1.length : Int))) = true then
  (idx ty1 a0) >>= fun a1 =>
  (Kes a1) >>= fun (a2,a3) =>
  ((
  if (a2 == 3) = true then
  (Kct (s0,a3)) >>= fun a4 =>
  some ((!a4))
  else
  if (a2 == 4) = true then
  (Kct (s0,a3)) >>= fun a4 =>
  some ((!a4))
  else
  some (false)
  ) : Option (Bool)) >>= fun a5 =>
  if a5 = true then
  some (.inr false)
  else
  Kf2 (s0,ty1,(wr (a0 + 1)))
  else
  some (.inl ())
 partial_fixpoint
def Kf3 (p : K00 × (List Int) × Int) (fl : (Unit) ⊕ (Bool)) : Prop :=
 match p with
 | (s0,ty1,a0) => ∀ c : Ctx,c.nt = 36 → WpL Tryz.prog c (cl (cl (cr (cl (cr (cr B78)))))) (Kf1 c fl) (mkS [(2,.ra 1 0),(12,sI ty1),(13,I (ty1.length : Int)),(14,I a0)] [(1,K19 s0)])
theorem Kf4 : ∀ p r,Kf2 p = some r → Kf3 p r := by
 refine Kf2.partial_correctness Kf3 ?_
 rintro impl_isTypeOf_l0_f impl_isTypeOf_l0_ih ⟨s0,ty1,a0⟩ r h
 intro c hc
 refine WpL.step ?_
 refine K6n hc 1 [(2,.ra 1 0),(12,sI ty1),(13,I (ty1.length : Int)),(14,I a0),(15,.bool (decide (a0 < (ty1.length : Int))))] ?_
 refine sN ?_
 refine ic h (fun a1 h => ?_) fun a1 h => ?_
 ·refine sk ?_
  refine sN ?_
  refine bk 1 ?_
  obtain ⟨a2,a3,h⟩ := Qds h
  refine rss hc none [some (.el (I a2)),oN,oN] [(2,.ra 1 0),(6,I a2),(12,sI ty1),(13,I (ty1.length : Int)),(14,I a0)] (ai (ix a3) tv) ?_
  obtain ⟨⟨a4,a5⟩,a6,h⟩ := Qds h
  refine rss hc none [oN,oc (.tup [I a4,I a5]),oN,oN,oN,oN,oN] [(2,.ra 1 0),(7,I a4),(8,I a5),(12,sI ty1),(13,I (ty1.length : Int)),(14,I a0)] (cq (Keu _ _ a6) K4f tv) ?_
  refine sN ?_
  obtain ⟨a7,a8,h⟩ := Qds h
  refine Wp.into (x := .normal) (mkS [(2,.ra 1 0),(12,sI ty1),(13,I (ty1.length : Int)),(14,I a0),(34,.bool a7)] [(1,K19 s0)]) ?_ ?_
  ·replace h := a8
   rcases is h with ⟨a9,h⟩ | ⟨a9,h⟩
   ·obtain ⟨b1,b2,h⟩ := Qds h
    refine rgs hc none [oN,oN,oN,o_,o_,oT,oN,oN,oN,oc (.bool b1),oN,oT] [(2,.ra 1 0),(12,sI ty1),(13,I (ty1.length : Int)),(14,I a0),(34,.bool (!b1))] (ar 2 (neF a9) (ai a9 (ar 3 tt (cq (Kcv _ _ b2) K40 (ar 2 tt tv))))) ?_
    obtain rfl := os h
    exact Qde.mk
   rcases is h with ⟨b3,h⟩ | ⟨b3,h⟩
   ·obtain ⟨b1,b2,h⟩ := Qds h
    refine rgs hc none [oN,oN,oN,oN,oN,oF,oN,oN,oN,oc (.bool b1),oN,oT] [(2,.ra 1 0),(12,sI ty1),(13,I (ty1.length : Int)),(14,I a0),(34,.bool (!b1))] (ar 3 a9 (ar 3 b3 (cq (Kcv _ _ b2) K40 (ar 2 b3 tv)))) ?_
    obtain rfl := os h
    exact Qde.mk
   refine rgs hc none [oN,oN,oN,oN,oN,oF,oN,o_,o_,o_,o_,oF] [(2,.ra 1 0),(12,sI ty1),(13,I (ty1.length : Int)),(14,I a0),(34,.bool false)] (ar 3 a9 (ar 4 (neT b3) (ai b3 tv))) ?_
   obtain rfl := os h
   exact Qde.mk
  clear a8
  refine ic h (fun b4 h => ?_) fun b4 h => ?_
  ·refine rs0 hc 1 [(4,.bool false)] [] ?_
   refine rt ?_
   obtain rfl := os h
   exact re [true]
  refine sk ?_
  refine K6m hc 2 [(2,.ra 1 0),(12,sI ty1),(13,I (ty1.length : Int)),(14,I (wr (a0 + 1)))] ?_
  refine Qda ?_
  exact (impl_isTypeOf_l0_ih _ _ h c hc)
 refine xt 0 ?_
 refine Qd4 ?_
 refine Qdb ?_
 obtain rfl := os h
 exact iv []
def Kf5 (p : K00 × (List Int)) : Option (Bool) :=
 match p with
 | (s0,ty1) =>
  (Key ty1) >>= fun a0 =>
  if a0 = true then
  (Kf2 (s0,ty1,0)) >>= fun fl => match fl with
  | .inl () =>
   some true
  | .inr r =>
   some r
  else
  some false
def Kf6 (p : K00 × (List Int)) (r : Bool) : Prop :=
 match p with
 | (s0,ty1) => Q75 Tryz.prog 78 [K1a s0,sI ty1] (.bool r) []
theorem Kf7 : ∀ p r,Kf5 p = some r → Kf6 p r := by
 rintro ⟨s0,ty1⟩ r h
 unfold Kf5 at h
 refine b0 Tryz.f78 B78 36 [(0,K1a s0),(1,sI ty1)] fun c hc => ?_
 refine rs hc none [some (.new 1),oN] [(1,sI ty1),(2,.ra 1 0)] [(1,K19 s0)] tv ?_
 refine sN ?_
 obtain ⟨a0,a1,h⟩ := Qds h
 refine rss hc none [oN,oc (.bool a0),oN] [(1,sI ty1),(2,.ra 1 0),(11,.bool (!a0))] (cq (Kf0 _ _ a1) K4j tv) ?_
 rcases is h with ⟨a2,h⟩ | ⟨a2,h⟩
 ·refine cF (!a0) (nF a2) ?_
  refine sk ?_
  refine sN ?_
  refine rss hc none [oN,some (.eqv (.no) ⟨[(13,I (ty1.length : Int))],[],[]⟩),oN] [(2,.ra 1 0),(12,sI ty1),(13,I (ty1.length : Int)),(14,I 0)] (ai (Qdy (d := 13) I ty1) tv) ?_
  refine bk 0 ?_
  obtain ⟨fl,a3,h⟩ := Qds h
  have hL := Kf4 _ _ a3 c hc
  refine lp ?_
  rcases fl with ⟨⟩ | r
  ·refine WpL.into (e := (.exit 0)) (mkS [] []) hL ?_
   refine Qd6 ?_
   refine rs0 hc 1 [(4,.bool true)] [] ?_
   refine rt ?_
   obtain rfl := os h
   exact rq [true]
  refine WpL.mono hL ?_
  rintro _ _ ⟨rfl,hfin⟩
  obtain rfl := os h
  exact ⟨.inl rfl,hfin⟩
 refine cT (!a0) (nT a2) ?_
 refine rs0 hc 1 [(4,.bool false)] [] ?_
 refine rt ?_
 obtain rfl := os h
 exact rq [true]
def Kf8 (c0 : Int) : Option (Bool) :=
 (Kes c0) >>= fun (a0,a1) =>
 some (a0 == 3)
def Kf9 (c0 : Int) (r : Bool) : Prop :=
 Q75 Tryz.prog 170 [I c0] (.bool r) []
theorem Kfa : ∀ p r,Kf8 p = some r → Kf9 p r := by
 rintro c0 r h
 unfold Kf8 at h
 refine b0 Tryz.f170 K4l 12 [(0,I c0)] fun c hc => ?_
 refine rs0 hc 1 [(0,I c0)] [] ?_
 obtain ⟨⟨a0,a1⟩,a2,h⟩ := Qds h
 refine rs hc none [oN,oc (.tup [I a0,I a1]),oN,oN,oN,oN,oN] [(3,I a0)] [] (cq (Keu _ _ a2) K4f tv) ?_
 refine rs0 hc 3 [(2,.bool (a0 == 3))] [] ?_
 refine rt ?_
 obtain rfl := os h
 exact rq [true]
def Kfb (c : Ctx) : (Unit) ⊕ (Int) → Exit → Q0a → Prop
 | .inl _ => Qde c (.exit 0) (mkS [] [])
 | .inr r => Qdn TIx Tryz.f193 [] (I r)
def Kfc (p : (List Int) × Int) : Option ((Unit) ⊕ (Int)) :=
 match p with
 | (s0,a0) =>
  if (decide (a0 < (s0.length : Int))) = true then
  (idx s0 a0) >>= fun a1 =>
  (Kf8 a1) >>= fun a2 =>
  if a2 = true then
  some (.inr a0)
  else
  Kfc (s0,(wr (a0 + 1)))
  else
  some (.inl ())
 partial_fixpoint
def Kfd (p : (List Int) × Int) (fl : (Unit) ⊕ (Int)) : Prop :=
 match p with
 | (s0,a0) => ∀ c : Ctx,c.nt = 19 → WpL Tryz.prog c (cl (cl (cr (cl (cr K4n))))) (Kfb c fl) (mkS [(0,sI s0),(1,.fn 170 []),(7,I (s0.length : Int)),(8,I a0)] [])
theorem Kfe : ∀ p r,Kfc p = some r → Kfd p r := by
 refine Kfc.partial_correctness Kfd ?_
 rintro slices_IndexFunc_int_Kimpl_isDataOf_c1_l0_f slices_IndexFunc_int_Kimpl_isDataOf_c1_l0_ih ⟨s0,a0⟩ r h
 intro c hc
 refine WpL.step ?_
 refine rs0 hc 1 [(0,sI s0),(1,.fn 170 []),(7,I (s0.length : Int)),(8,I a0),(9,.bool (decide (a0 < (s0.length : Int))))] [] ?_
 refine sN ?_
 refine ic h (fun a1 h => ?_) fun a1 h => ?_
 ·refine sk ?_
  refine sN ?_
  refine bk 1 ?_
  refine rs0 hc 2 [(0,sI s0),(1,.fn 170 []),(5,I a0),(7,I (s0.length : Int)),(8,I a0)] [] ?_
  obtain ⟨a2,a3,a4,a5,h⟩ := bq2 h
  refine rs hc none [oN,oN,oN,some (.el (I a2)),oN,oc (.bool a4)] [(0,sI s0),(1,.fn 170 []),(5,I a0),(7,I (s0.length : Int)),(8,I a0),(16,.bool a4)] [] (ai (ix a3) (cq (Kfa _ _ a5) K4m tv)) ?_
  refine ic h (fun a6 h => ?_) fun a6 h => ?_
  ·refine rs0 hc 2 [(4,I a0)] [] ?_
   refine rt ?_
   obtain rfl := os h
   exact re [true]
  refine sk ?_
  refine rg0 hc 2 [(0,sI s0),(1,.fn 170 []),(7,I (s0.length : Int)),(8,I (wr (a0 + 1)))] [] ?_
  refine Qda ?_
  exact (slices_IndexFunc_int_Kimpl_isDataOf_c1_l0_ih _ _ h c hc)
 refine xt 0 ?_
 refine Qd4 ?_
 refine Qdb ?_
 obtain rfl := os h
 exact iv []
def Kff (s0 : (List Int)) : Option (Int) :=
 (Kfc (s0,0)) >>= fun fl => match fl with
 | .inl () =>
  some (-1)
 | .inr r =>
  some r
def Kfg (s0 : (List Int)) (r : Int) : Prop :=
 Q75 Tryz.prog 193 [sI s0,.fn 170 []] (I r) []
theorem Kfh : ∀ p r,Kff p = some r → Kfg p r := by
 rintro s0 r h
 unfold Kff at h
 refine b0 Tryz.f193 K4n 19 [(0,sI s0),(1,.fn 170 [])] fun c hc => ?_
 refine rs0 hc 1 [(0,sI s0),(1,.fn 170 [])] [] ?_
 refine sN ?_
 refine rs hc none [oN,some (.eqv (.no) ⟨[(7,I (s0.length : Int))],[],[]⟩),oN] [(0,sI s0),(1,.fn 170 []),(7,I (s0.length : Int)),(8,I 0)] [] (ai (Qdy (d := 7) I s0) tv) ?_
 refine bk 0 ?_
 obtain ⟨fl,a0,h⟩ := Qds h
 have hL := Kfe _ _ a0 c hc
 refine lp ?_
 rcases fl with ⟨⟩ | r
 ·refine WpL.into (e := (.exit 0)) (mkS [] []) hL ?_
  refine Qd6 ?_
  refine rs0 hc 1 [(4,I (-1))] [] ?_
  refine rt ?_
  obtain rfl := os h
  exact rq [true]
 refine WpL.mono hL ?_
 rintro _ _ ⟨rfl,hfin⟩
 obtain rfl := os h
 exact ⟨.inl rfl,hfin⟩
def Kfi (s0 : (List Int)) : Option (Bool) :=
 (Kff s0) >>= fun a0 =>
 some (decide (a0 ≥ 0))
def Kfj (s0 : (List Int)) (r : Bool) : Prop :=
 Q75 Tryz.prog 116 [sI s0,.fn 170 []] (.bool r) []
theorem Kfk : ∀ p r,Kfi p = some r → Kfj p r := by
 rintro s0 r h
 unfold Kfi at h
 refine b0 Tryz.f116 K4p 9 [(0,sI s0),(1,.fn 170 [])] fun c hc => ?_
 refine rs0 hc 1 [(0,sI s0),(1,.fn 170 [])] [] ?_
 obtain ⟨a0,a1,h⟩ := Qds h
 refine rs hc none [oN,oN,oc (I a0),oN,oN] [(4,.bool (decide (a0 ≥ 0)))] [] (cq (Kfh _ _ a1) K4o tv) ?_
 refine rt ?_
 obtain rfl := os h
 exact rq [true]
def Kfl (p : K00 × (List Int)) : Option (Bool) :=
 match p with
 | (s0,ty1) =>
  ((
  (Kf5 (s0,ty1)) >>= fun a0 =>
  if a0 = true then
  (Kfi ty1) >>= fun a1 =>
  some ((!a1))
  else
  some (false)
  ) : Option (Bool)) >>= fun a2 =>
  some a2
def Kfm (p : K00 × (List Int)) (r : Bool) : Prop :=
 match p with
 | (s0,ty1) => Q75 Tryz.prog 83 [K1a s0,sI ty1] (.bool r) []
theorem Kfn : ∀ p r,Kfl p = some r → Kfm p r := by
 rintro ⟨s0,ty1⟩ r h
 unfold Kfl at h
 refine b0 Tryz.f83 B83 13 [(0,K1a s0),(1,sI ty1)] fun c hc => ?_
 refine rs hc none [some (.new 1),oN] [(1,sI ty1),(2,.ra 1 0)] [(1,K19 s0)] tv ?_
 refine sN ?_
 obtain ⟨a0,a1,h⟩ := Qds h
 refine Wp.into (x := .normal) (mkS [(4,.bool a0)] []) ?_ ?_
 ·replace h := a1
  obtain ⟨a2,a3,h⟩ := Qds h
  rcases is h with ⟨a4,h⟩ | ⟨a4,h⟩
  ·obtain ⟨a5,a6,h⟩ := Qds h
   refine rg hc none [oN,oN,oc (.bool a2),oN,oN,oc (.bool a5),oN,oT,oN] [(4,.bool (!a5))] [] (cq (Kf7 _ _ a3) K4k (ar 2 a4 (cq (Kfk _ _ a6) K4q (ar 2 a4 tv)))) ?_
   obtain rfl := os h
   exact Qde.mk
  refine rg hc none [oN,oN,oc (.bool a2),oN,o_,o_,o_,oF,oN] [(4,.bool false)] [] (cq (Kf7 _ _ a3) K4k (ar 3 (neT a4) (ai a4 tv))) ?_
  obtain rfl := os h
  exact Qde.mk
 clear a1
 refine rt ?_
 obtain rfl := os h
 exact rq [true]
def Kfo (p : K00 × (List Int)) : Option (Bool) :=
 match p with
 | (s0,ty1) =>
  ((
  (Kfl (s0,ty1)) >>= fun a0 =>
  if a0 = true then
  (Ke5 s0) >>= fun a1 =>
  some (a1)
  else
  some (false)
  ) : Option (Bool)) >>= fun a2 =>
  some a2
def Kfp (p : K00 × (List Int)) (r : Bool) : Prop :=
 match p with
 | (s0,ty1) => Q75 Tryz.prog 19 [K1a s0,sI ty1] (.bool r) []
theorem Kfq : ∀ p r,Kfo p = some r → Kfp p r := by
 rintro ⟨s0,ty1⟩ r h
 unfold Kfo at h
 refine b0 Tryz.f19 B19 12 [(0,K1a s0),(1,sI ty1)] fun c hc => ?_
 refine rs hc none [some (.new 1),oN] [(1,sI ty1),(2,.ra 1 0)] [(1,K19 s0)] tv ?_
 refine sN ?_
 obtain ⟨a0,a1,h⟩ := Qds h
 refine Wp.into (x := .normal) (mkS [(4,.bool a0)] []) ?_ ?_
 ·replace h := a1
  obtain ⟨a2,a3,h⟩ := Qds h
  rcases is h with ⟨a4,h⟩ | ⟨a4,h⟩
  ·obtain ⟨a5,a6,h⟩ := Qds h
   refine rg hc none [oN,oN,oc (.bool a2),oN,oN,oc (.bool a5),oT,oN] [(4,.bool a5)] [] (cq (Kfn _ _ a3) K4r (ar 2 a4 (cq (Ke7 _ _ a6) K4a (ai a4 tv)))) ?_
   obtain rfl := os h
   exact Qde.mk
  refine rg hc none [oN,oN,oc (.bool a2),oN,o_,o_,oF,oN] [(4,.bool false)] [] (cq (Kfn _ _ a3) K4r (ar 2 (neT a4) (ai a4 tv))) ?_
  obtain rfl := os h
  exact Qde.mk
 clear a1
 refine rt ?_
 obtain rfl := os h
 exact rq [true]
def Kfr (c : Ctx) : LL → Exit → Q0a → Prop
 | a0 => Qde c (.exit 0) (mkS [(3,.rs 3)] [(3,.arr (List.map K0n a0))])
def Kfs (p : (List Int) × LL × Int) : Option (LL) :=
 match p with
 | (ty0,a0,a1) =>
  if (decide (a1 < (ty0.length : Int))) = true then
  (Kev (ty0,a1)) >>= fun a2 =>
  (cut ty0 (some a1) (some a2) (some a2)) >>= fun a3 =>
  (Qe5 (a0.length + [a3].length) 24) >>= fun _ =>
  Kfs (ty0,(a0 ++ [a3]),a2)
  else
  some (a0)
 partial_fixpoint
def Kft (p : (List Int) × LL × Int) (fl : LL) : Prop :=
 match p with
 | (ty0,a0,a1) => ∀ c : Ctx,c.nt = 23 → WpL Tryz.prog c (cl (cl (cr (cl (cr (cr K4t)))))) (Kfr c fl) (mkS [(0,sI ty0),(3,.rs 3),(4,I a1)] [(3,.arr (List.map K0n a0))])
theorem Kfu : ∀ p r,Kfs p = some r → Kft p r := by
 refine Kfs.partial_correctness Kft ?_
 rintro impl_parts_l0_f impl_parts_l0_ih ⟨ty0,a0,a1⟩ r h
 intro c hc
 refine WpL.step ?_
 refine sN ?_
 refine rss hc none [oN,oN,some (.eqv (.no) ⟨[(8,I (ty0.length : Int))],[],[]⟩),oN] [(0,sI ty0),(3,.rs 3),(4,I a1),(9,.bool (decide (a1 < (ty0.length : Int))))] (ai (Qdy (d := 8) I ty0) tv) ?_
 refine ic h (fun a2 h => ?_) fun a2 h => ?_
 ·refine sk ?_
  refine bk 1 ?_
  obtain ⟨a3,a4,h⟩ := Qds h
  refine rss hc none [oN,oN,oc (I a3),oN] [(0,sI ty0),(3,.rs 3),(4,I a1),(5,I a3)] (cq (Kex _ _ a4) K4h tv) ?_
  obtain ⟨a5,a6,_,a7,h⟩ := bq2 h
  refine rs hc none [oN,oN,oN,oN,oN,some (.eqv (.no) ⟨[(18,sI a5)],[],[]⟩),some (.mk 6 false),some (.eqv (.mk 7 true) ⟨[(20,.rs 7)],[(7,some (.arr (List.map K0n (a0 ++ [a5])))),(3,none),(6,none)],[7]⟩),oN] [(0,sI ty0),(3,.rs 7),(5,I a3)] [(7,.arr (List.map K0n (a0 ++ [a5])))] (ad (Qe1 (d := 18) I a6) (Qe0 (enc := I) (sz := 1) Qeb a6) (congrArg (fun z => (⟨[(20,.rs 7)],[(7,some (.arr z)),(3,none),(6,none)],[7]⟩ : Wr)) ((List.map_append).symm : (List.map K0n a0) ++ (List.map K0n [a5]) = List.map K0n (a0 ++ [a5]))) (Qe6 (enc1 := K0n) (enc2 := K0n) (e1 := a0) (e2 := [a5]) (sz := 1) K0q K0q a7) tv) ?_
  refine K6m hc 2 [(0,sI ty0),(3,.rs 7),(4,I a3)] ?_
  refine Qda ?_
  exact WpL.view (fun a w hv => SRx.renL [(3,7)] hv (by kernel_rfl) (by kernel_rfl) (by kernel_rfl)) (impl_parts_l0_ih _ _ h c hc)
 refine xt 0 ?_
 refine Qd4 ?_
 refine Qdb ?_
 obtain rfl := os h
 exact iv []
def Kfv (ty0 : (List Int)) : Option (LL) :=
 (Kfs (ty0,[],1)) >>= fun a0 =>
 some a0
def Kfw (ty0 : (List Int)) (r : LL) : Prop :=
 Q75 Tryz.prog 158 [sI ty0] (.osl (List.map K0n r)) []
theorem Kfx : ∀ p r,Kfv p = some r → Kfw p r := by
 rintro ty0 r h
 unfold Kfv at h
 refine b0 Tryz.f158 K4t 23 [(0,sI ty0)] fun c hc => ?_
 refine rs0 hc 1 [(0,sI ty0)] [] ?_
 refine rs0 hc 1 [(0,sI ty0),(3,.nils)] [] ?_
 refine sN ?_
 refine rs0 hc 1 [(0,sI ty0),(3,.nils),(4,I 1)] [] ?_
 refine bk 0 ?_
 obtain ⟨a0,a1,h⟩ := Qds h
 have hL := Kfu _ _ a1 c hc
 refine Wp.loopN (by kernel_rfl) (WpL.view (fun a w hv => SRx.renL [(3,8)] (SRx.nilTL 3 8 hv (by kernel_rfl) (by kernel_rfl)) (by kernel_rfl) (by kernel_rfl) (by kernel_rfl)) (?_ : WpL _ c _ _ (mkS [(0,sI ty0),(3,.rs 3),(4,I 1)] [(3,.arr (List.map K0n []))])))
 refine WpL.into (e := (.exit 0)) (mkS [(3,.rs 3)] [(3,.arr (List.map K0n a0))]) hL ?_
 refine Qd6 ?_
 refine K6n hc 2 [(2,.rs 3)] ?_
 refine rt ?_
 obtain rfl := os h
 exact rq [true]
def Kfy (ty0 : (List Int)) : Option (Int) :=
 (idx ty0 0) >>= fun a0 =>
 (Kes a0) >>= fun (a1,a2) =>
 (Kfv ty0) >>= fun a3 =>
 ((
 if (a1 == 1) = true then
 (idx a3 0) >>= fun a4 =>
 (Kfy a4) >>= fun a5 =>
 (idx a3 1) >>= fun a6 =>
 (Kfy a6) >>= fun a7 =>
 some ((wr (a5 * a7)))
 else
 ((
 if (a1 == 2) = true then
 (idx a3 0) >>= fun a8 =>
 (Kfy a8) >>= fun a9 =>
 (idx a3 1) >>= fun b1 =>
 (Kfy b1) >>= fun b2 =>
 some ((wr (a9 + b2)))
 else
 ((
 if (a1 == 4) = true then
 (idx a3 0) >>= fun b3 =>
 (Kfy b3) >>= fun b4 =>
 some (b4)
 else
 some (3)
 ) : Option (Int)) >>= fun b5 =>
 some (b5)
 ) : Option (Int)) >>= fun b6 =>
 some (b6)
 ) : Option (Int)) >>= fun b7 =>
 some (mnx false b7 301)
 partial_fixpoint
def Kfz (ty0 : (List Int)) (r : Int) : Prop :=
 Q75 Tryz.prog 85 [sI ty0] (I r) []
theorem Kg0 : ∀ p r,Kfy p = some r → Kfz p r := by
 refine Kfy.partial_correctness Kfz ?_
 rintro impl_count_f impl_count_ih ty0 r h
 refine b0 Tryz.f85 B85 47 [(0,sI ty0)] fun c hc => ?_
 refine rs0 hc 1 [(0,sI ty0)] [] ?_
 obtain ⟨a0,a1,⟨a2,a3⟩,a4,h⟩ := bq2 h
 refine rs hc none [oN,some (.el (I a0)),oN,oc (.tup [I a2,I a3]),oN,oN,oN,oN,oN] [(0,sI ty0),(3,I a2)] [] (ai (ix a1) (cq (Keu _ _ a4) K4f tv)) ?_
 obtain ⟨a5,a6,h⟩ := Qds h
 refine rs hc none [oN,oc (.osl (List.map K0n a5)),oN] [(3,I a2),(5,.rs 1)] [(1,.arr (List.map K0n a5))] (cq (Kfx _ _ a6) K4u tv) ?_
 refine K6n hc 1 [(3,I a2),(5,.rs 1),(6,I 3)] ?_
 refine sN ?_
 refine K6n hc 1 [(5,.rs 1),(6,I 3),(16,I a2)] ?_
 refine bk 0 ?_
 refine K6n hc 2 [(5,.rs 1),(6,I 3),(16,I a2),(17,.bool (a2 == 1))] ?_
 obtain ⟨a7,a8,h⟩ := Qds h
 refine Wp.into (x := .normal) (mkS [(6,I a7)] []) ?_ ?_
 ·replace h := a8
  refine ic h (fun a9 h => ?_) fun a9 h => ?_
  ·obtain ⟨b1,b2,b3,b4,b5,b6,b7,b8,h⟩ := bq4 h
   refine rg hc Ked [oN,oN,some (.el (sI b1)),oc (I b3),oN,oN,some (.el (sI b5)),oc (I b7),oN,oN] [(6,I (wr (b3 * b7)))] [] (ab (Qdx (enc := K0n) b2) (xL b2).2 (cq (impl_count_ih _ _ b4) K4v (ab (Qdx (enc := K0n) b6) (xL b6).2 (cq (impl_count_ih _ _ b8) K4v tv)))) ?_
   obtain rfl := os h
   exact Qde.mk
  refine K6n hc 2 [(5,.rs 1),(6,I 3),(16,I a2),(28,.bool (a2 == 2))] ?_
  obtain ⟨b9,c0,h⟩ := Qds h
  refine Wp.into (x := .normal) (mkS [(6,I b9)] []) ?_ ?_
  ·replace h := c0
   refine ic h (fun c1 h => ?_) fun c1 h => ?_
   ·obtain ⟨c2,c3,c4,c5,c6,c7,c8,c9,h⟩ := bq4 h
    refine rg hc Ked [oN,oN,some (.el (sI c2)),oc (I c4),oN,oN,some (.el (sI c6)),oc (I c8),oN,oN] [(6,I (wr (c4 + c8)))] [] (ab (Qdx (enc := K0n) c3) (xL c3).2 (cq (impl_count_ih _ _ c5) K4v (ab (Qdx (enc := K0n) c7) (xL c7).2 (cq (impl_count_ih _ _ c9) K4v tv)))) ?_
    obtain rfl := os h
    exact Qde.mk
   refine K6n hc 2 [(5,.rs 1),(6,I 3),(39,.bool (a2 == 4))] ?_
   obtain ⟨d0,d1,h⟩ := Qds h
   refine Wp.into (x := .normal) (mkS [(6,I d0)] []) ?_ ?_
   ·replace h := d1
    refine ic h (fun d2 h => ?_) fun d2 h => ?_
    ·obtain ⟨d3,d4,d5,d6,h⟩ := bq2 h
     refine rg hc none [oN,oN,some (.el (sI d3)),oc (I d5),oN] [(6,I d5)] [] (ab (Qdx (enc := K0n) d4) (xL d4).2 (cq (impl_count_ih _ _ d6) K4v tv)) ?_
     obtain rfl := os h
     exact Qde.mk
    refine sk ?_
    obtain rfl := os h
    exact iv []
   clear d1
   obtain rfl := os h
   exact Qde.mk
  clear c0
  obtain rfl := os h
  exact Qde.mk
 clear a8
 refine rs0 hc 3 [(2,I (mnx false a7 301))] [] ?_
 refine rt ?_
 obtain rfl := os h
 exact rq [true]
def Kg1 (p : K00 × (List Int)) : Option (Int) :=
 match p with
 | (s0,ty1) =>
  ((
  (Kfo (s0,ty1)) >>= fun a0 =>
  if a0 = true then
  (Kfy ty1) >>= fun a1 =>
  some ((decide (a1 > 300)))
  else
  some (true)
  ) : Option (Bool)) >>= fun a2 =>
  if a2 = true then
  some (-1)
  else
  (Kfy ty1) >>= fun a3 =>
  some a3
def Kg2 (p : K00 × (List Int)) (r : Int) : Prop :=
 match p with
 | (s0,ty1) => Q75 Tryz.prog 21 [K1a s0,sI ty1] (I r) []
theorem Kg3 : ∀ p r,Kg1 p = some r → Kg2 p r := by
 rintro ⟨s0,ty1⟩ r h
 unfold Kg1 at h
 refine b0 Tryz.f21 B21 16 [(0,K1a s0),(1,sI ty1)] fun c hc => ?_
 refine rs hc none [some (.new 1),oN] [(1,sI ty1),(2,.ra 1 0)] [(1,K19 s0)] tv ?_
 refine sN ?_
 refine sN ?_
 obtain ⟨a0,a1,h⟩ := Qds h
 refine Wp.into (x := .normal) (mkS [(1,sI ty1),(13,.bool a0)] []) ?_ ?_
 ·replace h := a1
  obtain ⟨a2,a3,h⟩ := Qds h
  rcases is h with ⟨a4,h⟩ | ⟨a4,h⟩
  ·obtain ⟨a5,a6,h⟩ := Qds h
   refine rg hc none [oN,oN,oc (.bool a2),oN,oN,oN,oc (I a5),oN,oF] [(1,sI ty1),(13,.bool (decide (a5 > 300)))] [] (cq (Kfq _ _ a3) K4s (ar 2 (nF a4) (cq (Kg0 _ _ a6) K4v (ar 2 (nF a4) tv)))) ?_
   obtain rfl := os h
   exact Qde.mk
  refine rg hc none [oN,oN,oc (.bool a2),oN,oN,o_,o_,o_,oT] [(1,sI ty1),(13,.bool true)] [] (cq (Kfq _ _ a3) K4s (ar 3 (neF (nT a4)) (ai (nT a4) tv))) ?_
  obtain rfl := os h
  exact Qde.mk
 clear a1
 refine ic h (fun a7 h => ?_) fun a7 h => ?_
 ·refine rs0 hc 1 [(4,I (-1))] [] ?_
  refine rt ?_
  obtain rfl := os h
  exact rq [true]
 refine sk ?_
 obtain ⟨a8,a9,h⟩ := Qds h
 refine rs hc none [oN,oc (I a8),oN] [(4,I a8)] [] (cq (Kg0 _ _ a9) K4v tv) ?_
 refine rt ?_
 obtain rfl := os h
 exact rq [true]
def Kg4 (c : Ctx) : (Unit) ⊕ (Int) → Exit → Q0a → Prop
 | .inl _ => Qde c (.exit 0) (mkS [] [])
 | .inr r => Qdn TIx Tryz.f206 [] (I r)
def Kg5 (p : (List Int) × Int × Int) : Option ((Unit) ⊕ (Int)) :=
 match p with
 | (s0,v1,a0) =>
  if (decide (a0 < (s0.length : Int))) = true then
  (idx s0 a0) >>= fun a1 =>
  if (v1 == a1) = true then
  some (.inr a0)
  else
  Kg5 (s0,v1,(wr (a0 + 1)))
  else
  some (.inl ())
 partial_fixpoint
def Kg6 (p : (List Int) × Int × Int) (fl : (Unit) ⊕ (Int)) : Prop :=
 match p with
 | (s0,v1,a0) => ∀ c : Ctx,c.nt = 19 → WpL Tryz.prog c (cl (cl (cr (cl (cr K4y))))) (Kg4 c fl) (mkS [(0,sI s0),(1,I v1),(7,I (s0.length : Int)),(8,I a0)] [])
theorem Kg7 : ∀ p r,Kg5 p = some r → Kg6 p r := by
 refine Kg5.partial_correctness Kg6 ?_
 rintro slices_Index_int_l0_f slices_Index_int_l0_ih ⟨s0,v1,a0⟩ r h
 intro c hc
 refine WpL.step ?_
 refine rs0 hc 1 [(0,sI s0),(1,I v1),(7,I (s0.length : Int)),(8,I a0),(9,.bool (decide (a0 < (s0.length : Int))))] [] ?_
 refine sN ?_
 refine ic h (fun a1 h => ?_) fun a1 h => ?_
 ·refine sk ?_
  refine sN ?_
  refine bk 1 ?_
  refine rs0 hc 2 [(0,sI s0),(1,I v1),(5,I a0),(7,I (s0.length : Int)),(8,I a0)] [] ?_
  obtain ⟨a2,a3,h⟩ := Qds h
  refine rs hc none [oN,oN,oN,some (.el (I a2)),oN,oN] [(0,sI s0),(1,I v1),(5,I a0),(7,I (s0.length : Int)),(8,I a0),(16,.bool (v1 == a2))] [] (ai (ix a3) tv) ?_
  refine ic h (fun a4 h => ?_) fun a4 h => ?_
  ·refine rs0 hc 2 [(4,I a0)] [] ?_
   refine rt ?_
   obtain rfl := os h
   exact re [true]
  refine sk ?_
  refine rg0 hc 2 [(0,sI s0),(1,I v1),(7,I (s0.length : Int)),(8,I (wr (a0 + 1)))] [] ?_
  refine Qda ?_
  exact (slices_Index_int_l0_ih _ _ h c hc)
 refine xt 0 ?_
 refine Qd4 ?_
 refine Qdb ?_
 obtain rfl := os h
 exact iv []
def Kg8 (p : (List Int) × Int) : Option (Int) :=
 match p with
 | (s0,v1) =>
  (Kg5 (s0,v1,0)) >>= fun fl => match fl with
  | .inl () =>
   some (-1)
  | .inr r =>
   some r
def Kg9 (p : (List Int) × Int) (r : Int) : Prop :=
 match p with
 | (s0,v1) => Q75 Tryz.prog 206 [sI s0,I v1] (I r) []
theorem Kga : ∀ p r,Kg8 p = some r → Kg9 p r := by
 rintro ⟨s0,v1⟩ r h
 unfold Kg8 at h
 refine b0 Tryz.f206 K4y 19 [(0,sI s0),(1,I v1)] fun c hc => ?_
 refine rs0 hc 1 [(0,sI s0),(1,I v1)] [] ?_
 refine sN ?_
 refine rs hc none [oN,some (.eqv (.no) ⟨[(7,I (s0.length : Int))],[],[]⟩),oN] [(0,sI s0),(1,I v1),(7,I (s0.length : Int)),(8,I 0)] [] (ai (Qdy (d := 7) I s0) tv) ?_
 refine bk 0 ?_
 obtain ⟨fl,a0,h⟩ := Qds h
 have hL := Kg7 _ _ a0 c hc
 refine lp ?_
 rcases fl with ⟨⟩ | r
 ·refine WpL.into (e := (.exit 0)) (mkS [] []) hL ?_
  refine Qd6 ?_
  refine rs0 hc 1 [(4,I (-1))] [] ?_
  refine rt ?_
  obtain rfl := os h
  exact rq [true]
 refine WpL.mono hL ?_
 rintro _ _ ⟨rfl,hfin⟩
 obtain rfl := os h
 exact ⟨.inl rfl,hfin⟩
def Kgb (p : (List Int) × Int) : Option (Bool) :=
 match p with
 | (s0,v1) =>
  (Kg8 (s0,v1)) >>= fun a0 =>
  some (decide (a0 ≥ 0))
def Kgc (p : (List Int) × Int) (r : Bool) : Prop :=
 match p with
 | (s0,v1) => Q75 Tryz.prog 150 [sI s0,I v1] (.bool r) []
theorem Kgd : ∀ p r,Kgb p = some r → Kgc p r := by
 rintro ⟨s0,v1⟩ r h
 unfold Kgb at h
 refine b0 Tryz.f150 K50 9 [(0,sI s0),(1,I v1)] fun c hc => ?_
 refine rs0 hc 1 [(0,sI s0),(1,I v1)] [] ?_
 obtain ⟨a0,a1,h⟩ := Qds h
 refine rs hc none [oN,oN,oc (I a0),oN,oN] [(4,.bool (decide (a0 ≥ 0)))] [] (cq (Kga _ _ a1) K4z tv) ?_
 refine rt ?_
 obtain rfl := os h
 exact rq [true]
def Kge : Option (List (List Nat)) := rx [[0],[0],[0,1],[0,1,2],[4],[0],[0],[0,6],[0,6,7],[9],[10],[11]]
def Kgf : Option (List (List Nat)) := rx [[0],[0],[2],[3],[0],[0,4],[0,4,5],[7],[8],[9],[10],[11],[12],[13],[13],[15],[16],[13],[13],[13,18],[13,17,18,19],[13,17,18,19,20],[22],[23],[24]]
def Kgg (p : (List Int) × (List Int)) : Option (Int) :=
 match p with
 | (view0,ty1) =>
  (idx ty1 0) >>= fun a0 =>
  (Kes a0) >>= fun (a1,a2) =>
  (Kfv ty1) >>= fun a3 =>
  if (a1 == 1) = true then
  (idx a3 0) >>= fun a4 =>
  (Kgg (view0,a4)) >>= fun a5 =>
  (idx a3 1) >>= fun a6 =>
  (Kgg (view0,a6)) >>= fun a7 =>
  some (wr (a5 * a7))
  else
  if (a1 == 2) = true then
  (idx a3 0) >>= fun a8 =>
  (Kgg (view0,a8)) >>= fun a9 =>
  (idx a3 1) >>= fun b1 =>
  (Kgg (view0,b1)) >>= fun b2 =>
  some (wr (a9 + b2))
  else
  ((
  if (a1 == 4) = true then
  (Kgb (view0,a2)) >>= fun b3 =>
  some ((!b3))
  else
  some (false)
  ) : Option (Bool)) >>= fun b4 =>
  if b4 = true then
  some 1
  else
  if (a1 == 4) = true then
  (idx a3 0) >>= fun b5 =>
  (Kgg (view0,b5)) >>= fun b6 =>
  some b6
  else
  some 3
 partial_fixpoint
def Kgh (p : (List Int) × (List Int)) (r : Int) : Prop :=
 match p with
 | (view0,ty1) => Q75 Tryz.prog 92 [sI view0,sI ty1] (I r) []
theorem Kgi : ∀ p r,Kgg p = some r → Kgh p r := by
 refine Kgg.partial_correctness Kgh ?_
 rintro impl_seen_f impl_seen_ih ⟨view0,ty1⟩ r h
 refine b0 Tryz.f92 B92 62 [(0,sI view0),(1,sI ty1)] fun c hc => ?_
 refine rs0 hc 1 [(0,sI view0),(1,sI ty1)] [] ?_
 obtain ⟨a0,a1,⟨a2,a3⟩,a4,h⟩ := bq2 h
 refine rs hc none [oN,some (.el (I a0)),oN,oc (.tup [I a2,I a3]),oN,oN,oN,oN,oN] [(0,sI view0),(1,sI ty1),(5,I a2),(6,I a3)] [] (ai (ix a1) (cq (Keu _ _ a4) K4f tv)) ?_
 obtain ⟨a5,a6,h⟩ := Qds h
 refine rs hc none [oN,oc (.osl (List.map K0n a5)),oN] [(0,sI view0),(5,I a2),(6,I a3),(7,.rs 1)] [(1,.arr (List.map K0n a5))] (cq (Kfx _ _ a6) K4u tv) ?_
 refine sN ?_
 refine bk 0 ?_
 refine K6n hc 3 [(0,sI view0),(5,I a2),(6,I a3),(7,.rs 1),(17,.bool (a2 == 1))] ?_
 refine ic h (fun a7 h => ?_) fun a7 h => ?_
 ·obtain ⟨a8,a9,b1,b2,b3,b4,b5,b6,h⟩ := bq4 h
  refine rs hc Kge [oN,oN,oN,some (.el (sI a8)),oc (I b1),oN,oN,oN,some (.el (sI b3)),oc (I b5),oN,oN] [(4,I (wr (b1 * b5)))] [] (ab (Qdx (enc := K0n) a9) (xL a9).2 (cq (impl_seen_ih _ _ b2) K4x (ab (Qdx (enc := K0n) b4) (xL b4).2 (cq (impl_seen_ih _ _ b6) K4x tv)))) ?_
  refine rt ?_
  obtain rfl := os h
  exact rq [true]
 refine K6n hc 3 [(0,sI view0),(5,I a2),(6,I a3),(7,.rs 1),(31,.bool (a2 == 2))] ?_
 refine ic h (fun b7 h => ?_) fun b7 h => ?_
 ·obtain ⟨b8,b9,c0,c1,c2,c3,c4,c5,h⟩ := bq4 h
  refine rs hc Kge [oN,oN,oN,some (.el (sI b8)),oc (I c0),oN,oN,oN,some (.el (sI c2)),oc (I c4),oN,oN] [(4,I (wr (c0 + c4)))] [] (ab (Qdx (enc := K0n) b9) (xL b9).2 (cq (impl_seen_ih _ _ c1) K4x (ab (Qdx (enc := K0n) c3) (xL c3).2 (cq (impl_seen_ih _ _ c5) K4x tv)))) ?_
  refine rt ?_
  obtain rfl := os h
  exact rq [true]
 refine sN ?_
 obtain ⟨c6,c7,h⟩ := Qds h
 refine Wp.into (x := .normal) (mkS [(0,sI view0),(5,I a2),(7,.rs 1),(45,.bool c6)] [(1,.arr (List.map K0n a5))]) ?_ ?_
 ·replace h := c7
  rcases is h with ⟨c8,h⟩ | ⟨c8,h⟩
  ·obtain ⟨c9,d0,h⟩ := Qds h
   refine rgs hc none [oN,oN,oN,oN,oN,oc (.bool c9),oN,oT,oN] [(0,sI view0),(5,I a2),(7,.rs 1),(45,.bool (!c9))] (ar 3 c8 (cq (Kgd _ _ d0) K51 (ar 2 c8 tv))) ?_
   obtain rfl := os h
   exact Qde.mk
  refine rgs hc none [oN,oN,oN,o_,o_,o_,o_,oF,oN] [(0,sI view0),(5,I a2),(7,.rs 1),(45,.bool false)] (ar 4 (neT c8) (ai c8 tv)) ?_
  obtain rfl := os h
  exact Qde.mk
 clear c7
 refine ic h (fun d1 h => ?_) fun d1 h => ?_
 ·refine rs0 hc 1 [(4,I 1)] [] ?_
  refine rt ?_
  obtain rfl := os h
  exact rq [true]
 refine K6n hc 3 [(0,sI view0),(7,.rs 1),(54,.bool (a2 == 4))] ?_
 refine ic h (fun d2 h => ?_) fun d2 h => ?_
 ·obtain ⟨d3,d4,d5,d6,h⟩ := bq2 h
  refine rs hc none [oN,oN,oN,some (.el (sI d3)),oc (I d5),oN] [(4,I d5)] [] (ab (Qdx (enc := K0n) d4) (xL d4).2 (cq (impl_seen_ih _ _ d6) K4x tv)) ?_
  refine rt ?_
  obtain rfl := os h
  exact rq [true]
 refine sk ?_
 refine rs0 hc 1 [(4,I 3)] [] ?_
 refine rt ?_
 obtain rfl := os h
 exact rq [true]
def Kgj (p : K00 × (List Int) × (List Int)) : Option (Int) :=
 match p with
 | (s0,view1,ty2) =>
  ((
  (Kep (s0,view1)) >>= fun a0 =>
  if a0 = true then
  (Kg1 (s0,ty2)) >>= fun a1 =>
  some ((decide (a1 < 0)))
  else
  some (true)
  ) : Option (Bool)) >>= fun a2 =>
  if a2 = true then
  some (-1)
  else
  (Kgg (view1,ty2)) >>= fun a3 =>
  some a3
def Kgk (p : K00 × (List Int) × (List Int)) (r : Int) : Prop :=
 match p with
 | (s0,view1,ty2) => Q75 Tryz.prog 27 [K1a s0,sI view1,sI ty2] (I r) []
theorem Kgl : ∀ p r,Kgj p = some r → Kgk p r := by
 rintro ⟨s0,view1,ty2⟩ r h
 unfold Kgj at h
 refine b0 Tryz.f27 B27 20 [(0,K1a s0),(1,sI view1),(2,sI ty2)] fun c hc => ?_
 refine rs hc none [some (.new 1),oN] [(1,sI view1),(2,sI ty2),(3,.ra 1 0)] [(1,K19 s0)] tv ?_
 refine sN ?_
 refine sN ?_
 obtain ⟨a0,a1,h⟩ := Qds h
 refine Wp.into (x := .normal) (mkS [(1,sI view1),(2,sI ty2),(16,.bool a0)] []) ?_ ?_
 ·replace h := a1
  obtain ⟨a2,a3,h⟩ := Qds h
  rcases is h with ⟨a4,h⟩ | ⟨a4,h⟩
  ·obtain ⟨a5,a6,h⟩ := Qds h
   refine rg hc none [oN,oN,oc (.bool a2),oN,oN,oN,oN,oc (I a5),oN,oF] [(1,sI view1),(2,sI ty2),(16,.bool (decide (a5 < 0)))] [] (cq (Ker _ _ a3) K4d (ar 3 (nF a4) (cq (Kg3 _ _ a6) K4w (ar 2 (nF a4) tv)))) ?_
   obtain rfl := os h
   exact Qde.mk
  refine rg hc none [oN,oN,oc (.bool a2),oN,oN,o_,o_,o_,o_,oT] [(1,sI view1),(2,sI ty2),(16,.bool true)] [] (cq (Ker _ _ a3) K4d (ar 4 (neF (nT a4)) (ai (nT a4) tv))) ?_
  obtain rfl := os h
  exact Qde.mk
 clear a1
 refine ic h (fun a7 h => ?_) fun a7 h => ?_
 ·refine rs0 hc 1 [(6,I (-1))] [] ?_
  refine rt ?_
  obtain rfl := os h
  exact rq [true]
 refine sk ?_
 obtain ⟨a8,a9,h⟩ := Qds h
 refine rs hc none [oN,oN,oc (I a8),oN] [(6,I a8)] [] (cq (Kgi _ _ a9) K4x tv) ?_
 refine rt ?_
 obtain rfl := os h
 exact rq [true]
def Kgm (c : Ctx) (s0 : K00) : ((List Bool)) ⊕ (Bool) → Exit → Q0a → Prop
 | .inl a0 => Qde c (.exit 0) (mkS [(2,.ra 1 0),(5,.rs 2)] [(1,K19 s0),(2,.arr (List.map AV.bool a0))])
 | .inr r => Qdn TIx Tryz.f93 [] (.bool r)
def Kgn (p : K00 × (List Int) × (List Bool) × Int) : Option (((List Bool)) ⊕ (Bool)) :=
 match p with
 | (s0,v1,a0,a1) =>
  if (decide (a1 < (v1.length : Int))) = true then
  ((
  (idx v1 a1) >>= fun a2 =>
  (K75 (a2,0,(wr (s0.fSize - 1)))) >>= fun a3 =>
  if a3 = true then
  if (decide (a1 > 0)) = true then
  (idx v1 a1) >>= fun a4 =>
  (idx v1 (wr (a1 - 1))) >>= fun a5 =>
  some ((decide (a4 ≤ a5)))
  else
  some (false)
  else
  some (true)
  ) : Option (Bool)) >>= fun a6 =>
  if a6 = true then
  some (.inr false)
  else
  (idx v1 a1) >>= fun a7 =>
  (idx a0 a7) >>= fun a8 =>
  Kgn (s0,v1,(List.set a0 (Int.toNat a7) true),(wr (a1 + 1)))
  else
  some (.inl a0)
 partial_fixpoint
def Kgo (p : K00 × (List Int) × (List Bool) × Int) (fl : ((List Bool)) ⊕ (Bool)) : Prop :=
 match p with
 | (s0,v1,a0,a1) => ∀ c : Ctx,c.nt = 53 → WpL Tryz.prog c (cl (cl (cr (cl (cr (cr (cr B93))))))) (Kgm c s0 fl) (mkS [(1,sI v1),(2,.ra 1 0),(5,.rs 2),(6,I a1)] [(1,K19 s0),(2,.arr (List.map AV.bool a0))])
theorem Kgp : ∀ p r,Kgn p = some r → Kgo p r := by
 refine Kgn.partial_correctness Kgo ?_
 rintro spec_IsView_l0_f spec_IsView_l0_ih ⟨s0,v1,a0,a1⟩ r h
 intro c hc
 refine WpL.step ?_
 refine sN ?_
 refine rss hc none [oN,oN,some (.eqv (.no) ⟨[(15,I (v1.length : Int))],[],[]⟩),oN] [(1,sI v1),(2,.ra 1 0),(5,.rs 2),(6,I a1),(16,.bool (decide (a1 < (v1.length : Int))))] (ai (Qdy (d := 15) I v1) tv) ?_
 refine ic h (fun a2 h => ?_) fun a2 h => ?_
 ·refine sk ?_
  refine sN ?_
  refine bk 1 ?_
  refine sN ?_
  refine sN ?_
  obtain ⟨a3,a4,h⟩ := Qds h
  refine Wp.into (x := .normal) (mkS [(1,sI v1),(2,.ra 1 0),(5,.rs 2),(6,I a1),(43,.bool a3)] [(1,K19 s0),(2,.arr (List.map AV.bool a0))]) ?_ ?_
  ·replace h := a4
   obtain ⟨a5,a6,a7,a8,h⟩ := bq2 h
   rcases is h with ⟨a9,h⟩ | ⟨a9,h⟩
   ·rcases is h with ⟨b1,h⟩ | ⟨b1,h⟩
    ·obtain ⟨b2,b3,b4,b5,h⟩ := bq2 h
     refine rgs hc Kgf [oN,oN,some (.el (I a5)),oN,oN,oN,oN,oc (.bool a7),oN,oN,oN,oN,oN,oN,oN,some (.el (I b2)),oN,oN,oN,oN,some (.el (I b4)),oN,oN,oT,oF] [(1,sI v1),(2,.ra 1 0),(5,.rs 2),(6,I a1),(43,.bool (decide (b2 ≤ b4)))] (ai (ix a6) (cq (K77 _ _ a8) K27 (ar 3 (nF a9) (ar 3 b1 (ai (ix b3) (ar 5 b1 (ai (ix b5) (ar 2 b1 (ac (nF a9) b1 (nF a9) tv))))))))) ?_
     obtain rfl := os h
     exact Qde.mk
    refine rgs hc Kgf [oN,oN,some (.el (I a5)),oN,oN,oN,oN,oc (.bool a7),oN,oN,oN,oN,oN,o_,o_,o_,o_,o_,o_,o_,o_,o_,o_,oF,oF] [(1,sI v1),(2,.ra 1 0),(5,.rs 2),(6,I a1),(43,.bool false)] (ai (ix a6) (cq (K77 _ _ a8) K27 (ar 3 (nF a9) (ar 10 (neT b1) (ac (nF a9) b1 (nF a9) tv))))) ?_
    obtain rfl := os h
    exact Qde.mk
   refine rgs hc Kgf [oN,oN,some (.el (I a5)),oN,oN,oN,oN,oc (.bool a7),oN,oN,o_,o_,o_,o_,o_,o_,o_,o_,o_,o_,o_,o_,o_,o_,oT] [(1,sI v1),(2,.ra 1 0),(5,.rs 2),(6,I a1),(43,.bool true)] (ai (ix a6) (cq (K77 _ _ a8) K27 (ar 4 (neF (nT a9)) (ai (nT a9) tv)))) ?_
   obtain rfl := os h
   exact Qde.mk
  clear a4
  refine ic h (fun b6 h => ?_) fun b6 h => ?_
  ·refine rs0 hc 1 [(4,.bool false)] [] ?_
   refine rt ?_
   obtain rfl := os h
   exact re [true]
  refine sk ?_
  obtain ⟨b7,b8,b9,c0,h⟩ := bq2 h
  refine rg hc none [oN,oN,oN,some (.el (I b7)),oN,oN,some (.eqv (.mk 0 true) ⟨[],[(2,some (.arr (List.map AV.bool (List.set a0 (Int.toNat b7) true))))],[]⟩)] [(1,sI v1),(2,.ra 1 0),(5,.rs 2),(6,I a1)] [(1,K19 s0),(2,.arr (List.map AV.bool (List.set a0 (Int.toNat b7) true)))] (ad (ix b8) (Qdx (enc := AV.bool) c0) (congrArg (fun z => (⟨[],[(2,some (.arr z))],[]⟩ : Wr)) (Qev (enc := AV.bool) (i := Int.toNat b7) (l := a0) (v := true) (x := AV.bool true) (Qe9 true))) (Qew (enc := AV.bool) (sz := 1) Qed c0) tv) ?_
  refine K6m hc 3 [(1,sI v1),(2,.ra 1 0),(5,.rs 2),(6,I (wr (a1 + 1)))] ?_
  refine Qda ?_
  exact (spec_IsView_l0_ih _ _ h c hc)
 refine xt 0 ?_
 refine Qd4 ?_
 refine Qdb ?_
 obtain rfl := os h
 exact iv []
def Kgq (p : K00 × (List Int)) : Option (Bool) :=
 match p with
 | (s0,v1) =>
  (K9o s0) >>= fun a0 =>
  if a0 = true then
  (chk (0 ≤ s0.fSize ∧ (Int.toNat s0.fSize) * 1 ≤ 140737488355328)) >>= fun _ =>
  (Kgn (s0,v1,(List.replicate (Int.toNat s0.fSize) false),0)) >>= fun fl => match fl with
  | .inl a1 =>
   (Kb1 (s0,a1)) >>= fun a2 =>
   some a2
  | .inr r =>
   some r
  else
  some false
def Kgr (p : K00 × (List Int)) (r : Bool) : Prop :=
 match p with
 | (s0,v1) => Q75 Tryz.prog 93 [K1a s0,sI v1] (.bool r) []
theorem Kgs : ∀ p r,Kgq p = some r → Kgr p r := by
 rintro ⟨s0,v1⟩ r h
 unfold Kgq at h
 refine b0 Tryz.f93 B93 53 [(0,K1a s0),(1,sI v1)] fun c hc => ?_
 refine rs hc none [some (.new 1),oN] [(1,sI v1),(2,.ra 1 0)] [(1,K19 s0)] tv ?_
 refine sN ?_
 obtain ⟨a0,a1,h⟩ := Qds h
 refine rss hc none [oN,oc (.bool a0),oN] [(1,sI v1),(2,.ra 1 0),(9,.bool (!a0))] (cq (K9q _ _ a1) K2z tv) ?_
 rcases is h with ⟨a2,h⟩ | ⟨a2,h⟩
 ·refine cF (!a0) (nF a2) ?_
  refine sk ?_
  obtain ⟨_,a3,h⟩ := Qds h
  refine rs hc none [oN,oN,some (.eqv (.mk 2 true) ⟨[(12,.rs 2)],[(2,some (.arr (List.map AV.bool (List.replicate (Int.toNat s0.fSize) false))))],[2]⟩),oN] [(1,sI v1),(2,.ra 1 0),(5,.rs 2)] [(1,K19 s0),(2,.arr (List.map AV.bool (List.replicate (Int.toNat s0.fSize) false)))] (ab (congrArg (fun z => (⟨[(12,.rs 2)],[(2,some (.arr z))],[2]⟩ : Wr)) (Qex (enc := AV.bool) (n := Int.toNat s0.fSize) (x := AV.bool false) (Qe9 false))) (And.intro (Eq.refl s0.fSize) (Qdu a3)) tv) ?_
  refine sN ?_
  refine K6n hc 1 [(1,sI v1),(2,.ra 1 0),(5,.rs 2),(6,I 0)] ?_
  refine bk 0 ?_
  obtain ⟨fl,a4,h⟩ := Qds h
  have hL := Kgp _ _ a4 c hc
  refine lp ?_
  rcases fl with a5 | r
  ·refine WpL.into (e := (.exit 0)) (mkS [(2,.ra 1 0),(5,.rs 2)] [(1,K19 s0),(2,.arr (List.map AV.bool a5))]) hL ?_
   refine Qd6 ?_
   obtain ⟨a6,a7,h⟩ := Qds h
   refine rs hc none [oN,oN,oc (.bool a6),oN] [(4,.bool a6)] [] (ac (Q75.args (A1 := [K1a s0,.sl (Q02 (List.map AV.bool a5))]) (A2 := [K1a s0,sB a5]) (by simp only [List.map_nil,Qem]) (Kb3 _ _ a7)) K3f (Or.inr rfl : ([2] : List Nat) = [] ∨ noSh (.bool a6) = true) tv) ?_
   refine rt ?_
   obtain rfl := os h
   exact rq [true]
  refine WpL.mono hL ?_
  rintro _ _ ⟨rfl,hfin⟩
  obtain rfl := os h
  exact ⟨.inl rfl,hfin⟩
 refine cT (!a0) (nT a2) ?_
 refine rs0 hc 1 [(4,.bool false)] [] ?_
 refine rt ?_
 obtain rfl := os h
 exact rq [true]
def Kgt (c0 : Int) : Option (Bool) :=
 ((
 (K75 (c0,3,18)) >>= fun a0 =>
 if a0 = true then
 some (true)
 else
 some ((c0 == 35))
 ) : Option (Bool)) >>= fun a1 =>
 some a1
def Kgu (c0 : Int) (r : Bool) : Prop :=
 Q75 Tryz.prog 215 [I c0] (.bool r) []
theorem Kgv : ∀ p r,Kgt p = some r → Kgu p r := by
 rintro c0 r h
 unfold Kgt at h
 refine b0 Tryz.f215 K54 9 [(0,I c0)] fun c hc => ?_
 refine rs0 hc 1 [(0,I c0)] [] ?_
 refine sN ?_
 obtain ⟨a0,a1,h⟩ := Qds h
 refine Wp.into (x := .normal) (mkS [(2,.bool a0)] []) ?_ ?_
 ·replace h := a1
  obtain ⟨a2,a3,h⟩ := Qds h
  rcases is h with ⟨a4,h⟩ | ⟨a4,h⟩
  ·refine rg hc none [oN,oc (.bool a2),oN,o_,o_,oT,oN] [(2,.bool true)] [] (cq (K77 _ _ a3) K27 (ar 2 (neF a4) (ai a4 tv))) ?_
   obtain rfl := os h
   exact Qde.mk
  refine rg hc none [oN,oc (.bool a2),oN,oN,oN,oF,oN] [(2,.bool (c0 == 35))] [] (cq (K77 _ _ a3) K27 (ar 3 a4 tv)) ?_
  obtain rfl := os h
  exact Qde.mk
 clear a1
 refine rt ?_
 obtain rfl := os h
 exact rq [true]
def Kgw (c0 : Int) : Option (Bool) :=
 ((
 (K75 (c0,19,34)) >>= fun a0 =>
 if a0 = true then
 some (true)
 else
 some ((c0 == 36))
 ) : Option (Bool)) >>= fun a1 =>
 some a1
def Kgx (c0 : Int) (r : Bool) : Prop :=
 Q75 Tryz.prog 185 [I c0] (.bool r) []
theorem Kgy : ∀ p r,Kgw p = some r → Kgx p r := by
 rintro c0 r h
 unfold Kgw at h
 refine b0 Tryz.f185 K56 9 [(0,I c0)] fun c hc => ?_
 refine rs0 hc 1 [(0,I c0)] [] ?_
 refine sN ?_
 obtain ⟨a0,a1,h⟩ := Qds h
 refine Wp.into (x := .normal) (mkS [(2,.bool a0)] []) ?_ ?_
 ·replace h := a1
  obtain ⟨a2,a3,h⟩ := Qds h
  rcases is h with ⟨a4,h⟩ | ⟨a4,h⟩
  ·refine rg hc none [oN,oc (.bool a2),oN,o_,o_,oT,oN] [(2,.bool true)] [] (cq (K77 _ _ a3) K27 (ar 2 (neF a4) (ai a4 tv))) ?_
   obtain rfl := os h
   exact Qde.mk
  refine rg hc none [oN,oc (.bool a2),oN,oN,oN,oF,oN] [(2,.bool (c0 == 36))] [] (cq (K77 _ _ a3) K27 (ar 3 a4 tv)) ?_
  obtain rfl := os h
  exact Qde.mk
 clear a1
 refine rt ?_
 obtain rfl := os h
 exact rq [true]
def Kgz (c0 : Int) : Option (Int) :=
 if (c0 == 0) = true then
 some 0
 else
 ((
 if (c0 == 1) = true then
 some (true)
 else
 if (c0 == 2) = true then
 some (true)
 else
 (Kgt c0) >>= fun a0 =>
 some (a0)
 ) : Option (Bool)) >>= fun a1 =>
 if a1 = true then
 some 2
 else
 (Kgw c0) >>= fun a2 =>
 if a2 = true then
 some 1
 else
 some (-1)
def Kh0 (c0 : Int) (r : Int) : Prop :=
 Q75 Tryz.prog 168 [I c0] (I r) []
theorem Kh1 : ∀ p r,Kgz p = some r → Kh0 p r := by
 rintro c0 r h
 unfold Kgz at h
 refine b0 Tryz.f168 K58 20 [(0,I c0)] fun c hc => ?_
 refine rs0 hc 1 [(0,I c0)] [] ?_
 refine sN ?_
 refine bk 0 ?_
 refine rs0 hc 3 [(0,I c0),(3,.bool (c0 == 0))] [] ?_
 refine ic h (fun a0 h => ?_) fun a0 h => ?_
 ·refine rs0 hc 1 [(2,I 0)] [] ?_
  refine rt ?_
  obtain rfl := os h
  exact rq [true]
 refine sN ?_
 obtain ⟨a1,a2,h⟩ := Qds h
 refine Wp.into (x := .normal) (mkS [(0,I c0),(6,.bool a1)] []) ?_ ?_
 ·replace h := a2
  rcases is h with ⟨a3,h⟩ | ⟨a3,h⟩
  ·refine rg hc none [oN,oN,oN,o_,o_,oT,oN,o_,o_,oT,oN] [(0,I c0),(6,.bool true)] [] (ar 2 (neF a3) (ai a3 (ar 2 nf (ai tt tv)))) ?_
   obtain rfl := os h
   exact Qde.mk
  rcases is h with ⟨a4,h⟩ | ⟨a4,h⟩
  ·refine rg hc none [oN,oN,oN,oN,oN,oF,oN,o_,o_,oT,oN] [(0,I c0),(6,.bool true)] [] (ar 3 a3 (ar 2 (neF a4) (ai a4 tv))) ?_
   obtain rfl := os h
   exact Qde.mk
  obtain ⟨a5,a6,h⟩ := Qds h
  refine rg hc none [oN,oN,oN,oN,oN,oF,oN,oN,oc (.bool a5),oF,oN] [(0,I c0),(6,.bool a5)] [] (ar 3 a3 (ar 2 a4 (cq (Kgv _ _ a6) K55 (ai a4 tv)))) ?_
  obtain rfl := os h
  exact Qde.mk
 clear a2
 refine ic h (fun a7 h => ?_) fun a7 h => ?_
 ·refine rs0 hc 1 [(2,I 2)] [] ?_
  refine rt ?_
  obtain rfl := os h
  exact rq [true]
 obtain ⟨a8,a9,h⟩ := Qds h
 refine rs hc none [oN,oc (.bool a8),oN] [(17,.bool a8)] [] (cq (Kgy _ _ a9) K57 tv) ?_
 refine ic h (fun b1 h => ?_) fun b1 h => ?_
 ·refine rs0 hc 1 [(2,I 1)] [] ?_
  refine rt ?_
  obtain rfl := os h
  exact rq [true]
 refine sk ?_
 refine rs0 hc 1 [(2,I (-1))] [] ?_
 refine rt ?_
 obtain rfl := os h
 exact rq [true]
def Kh2 (c : Ctx) : (Unit) ⊕ (Int) → Exit → Q0a → Prop
 | .inl _ => Qde c (.exit 0) (mkS [] [])
 | .inr r => Qdn TIx Tryz.f167 [] (I r)
def Kh3 (p : (List Int) × Int × Int) : Option ((Unit) ⊕ (Int)) :=
 match p with
 | (ty0,a0,a1) =>
  if (decide (a1 < (ty0.length : Int))) = true then
  (idx ty0 a1) >>= fun a2 =>
  (Kgz a2) >>= fun a3 =>
  if (decide (a3 < 0)) = true then
  some (.inr (-1))
  else
  if ((wr ((wr (a0 - 1)) + a3)) == 0) = true then
  some (.inr (wr (a1 + 1)))
  else
  Kh3 (ty0,(wr ((wr (a0 - 1)) + a3)),(wr (a1 + 1)))
  else
  some (.inl ())
 partial_fixpoint
def Kh4 (p : (List Int) × Int × Int) (fl : (Unit) ⊕ (Int)) : Prop :=
 match p with
 | (ty0,a0,a1) => ∀ c : Ctx,c.nt = 30 → WpL Tryz.prog c (cl (cl (cr (cl (cr (cr K5a)))))) (Kh2 c fl) (mkS [(0,sI ty0),(5,I a0),(6,I a1)] [])
theorem Kh5 : ∀ p r,Kh3 p = some r → Kh4 p r := by
 refine Kh3.partial_correctness Kh4 ?_
 rintro spec_l2End_l0_f spec_l2End_l0_ih ⟨ty0,a0,a1⟩ r h
 intro c hc
 refine WpL.step ?_
 refine sN ?_
 refine rs hc none [oN,oN,some (.eqv (.no) ⟨[(11,I (ty0.length : Int))],[],[]⟩),oN] [(0,sI ty0),(5,I a0),(6,I a1),(12,.bool (decide (a1 < (ty0.length : Int))))] [] (ai (Qdy (d := 11) I ty0) tv) ?_
 refine ic h (fun a2 h => ?_) fun a2 h => ?_
 ·refine sk ?_
  refine sN ?_
  refine bk 1 ?_
  obtain ⟨a3,a4,a5,a6,h⟩ := bq2 h
  refine rs hc none [oN,oN,some (.el (I a3)),oN,oc (I a5),oN] [(0,sI ty0),(5,I a0),(6,I a1),(7,I a5)] [] (ai (ix a4) (cq (Kh1 _ _ a6) K59 tv)) ?_
  refine sN ?_
  refine rs0 hc 2 [(0,sI ty0),(5,I a0),(6,I a1),(7,I a5),(21,.bool (decide (a5 < 0)))] [] ?_
  refine ic h (fun a7 h => ?_) fun a7 h => ?_
  ·refine rs0 hc 1 [(4,I (-1))] [] ?_
   refine rt ?_
   obtain rfl := os h
   exact re [true]
  refine sk ?_
  refine rs0 hc 5 [(0,sI ty0),(5,I (wr ((wr (a0 - 1)) + a5))),(6,I a1)] [] ?_
  refine rs0 hc 2 [(0,sI ty0),(5,I (wr ((wr (a0 - 1)) + a5))),(6,I a1),(27,.bool ((wr ((wr (a0 - 1)) + a5)) == 0))] [] ?_
  refine ic h (fun a8 h => ?_) fun a8 h => ?_
  ·refine rs0 hc 3 [(4,I (wr (a1 + 1)))] [] ?_
   refine rt ?_
   obtain rfl := os h
   exact re [true]
  refine sk ?_
  refine rg0 hc 3 [(0,sI ty0),(5,I (wr ((wr (a0 - 1)) + a5))),(6,I (wr (a1 + 1)))] [] ?_
  refine Qda ?_
  exact (spec_l2End_l0_ih _ _ h c hc)
 refine xt 0 ?_
 refine Qd4 ?_
 refine Qdb ?_
 obtain rfl := os h
 exact iv []
def Kh6 (p : (List Int) × Int) : Option (Int) :=
 match p with
 | (ty0,at1) =>
  (Kh3 (ty0,1,at1)) >>= fun fl => match fl with
  | .inl () =>
   some (-1)
  | .inr r =>
   some r
def Kh7 (p : (List Int) × Int) (r : Int) : Prop :=
 match p with
 | (ty0,at1) => Q75 Tryz.prog 167 [sI ty0,I at1] (I r) []
theorem Kh8 : ∀ p r,Kh6 p = some r → Kh7 p r := by
 rintro ⟨ty0,at1⟩ r h
 unfold Kh6 at h
 refine b0 Tryz.f167 K5a 30 [(0,sI ty0),(1,I at1)] fun c hc => ?_
 refine rs0 hc 1 [(0,sI ty0),(1,I at1)] [] ?_
 refine rs0 hc 1 [(0,sI ty0),(1,I at1),(5,I 1)] [] ?_
 refine sN ?_
 refine rs0 hc 2 [(0,sI ty0),(5,I 1),(6,I at1)] [] ?_
 refine bk 0 ?_
 obtain ⟨fl,a0,h⟩ := Qds h
 have hL := Kh5 _ _ a0 c hc
 refine lp ?_
 rcases fl with ⟨⟩ | r
 ·refine WpL.into (e := (.exit 0)) (mkS [] []) hL ?_
  refine Qd6 ?_
  refine rs0 hc 1 [(4,I (-1))] [] ?_
  refine rt ?_
  obtain rfl := os h
  exact rq [true]
 refine WpL.mono hL ?_
 rintro _ _ ⟨rfl,hfin⟩
 obtain rfl := os h
 exact ⟨.inl rfl,hfin⟩
def Kh9 (ty0 : (List Int)) : Option (Bool) :=
 ((
 if (decide ((ty0.length : Int) ≤ 40)) = true then
 (Kh6 (ty0,0)) >>= fun a0 =>
 if (a0 == (ty0.length : Int)) = true then
 some ((decide ((ty0.length : Int) > 0)))
 else
 some (false)
 else
 some (false)
 ) : Option (Bool)) >>= fun a1 =>
 some a1
def Kha (ty0 : (List Int)) (r : Bool) : Prop :=
 Q75 Tryz.prog 81 [sI ty0] (.bool r) []
theorem Khb : ∀ p r,Kh9 p = some r → Kha p r := by
 rintro ty0 r h
 unfold Kh9 at h
 refine b0 Tryz.f81 B81 18 [(0,sI ty0)] fun c hc => ?_
 refine rs0 hc 1 [(0,sI ty0)] [] ?_
 refine sN ?_
 obtain ⟨a0,a1,h⟩ := Qds h
 refine Wp.into (x := .normal) (mkS [(2,.bool a0)] []) ?_ ?_
 ·replace h := a1
  rcases is h with ⟨a2,h⟩ | ⟨a2,h⟩
  ·obtain ⟨a3,a4,h⟩ := Qds h
   rcases is h with ⟨a5,h⟩ | ⟨a5,h⟩
   ·refine rg hc none [oN,some (.eqv (.no) ⟨[(4,I (ty0.length : Int))],[],[]⟩),oN,oN,oN,oc (I a3),oN,some (.eqv (.no) ⟨[(10,I (ty0.length : Int))],[],[]⟩),oN,oT,oN,oN,some (.eqv (.no) ⟨[(15,I (ty0.length : Int))],[],[]⟩),oN,oT,oN] [(2,.bool (decide ((ty0.length : Int) > 0)))] [] (ai (Qdy (d := 4) I ty0) (ar 2 a2 (cq (Kh8 _ _ a4) K5b (ar 2 a2 (ai (Qdy (d := 10) I ty0) (ar 2 a2 (ar 2 a5 (ai (Qdy (d := 15) I ty0) (ar 2 a5 tv))))))))) ?_
    obtain rfl := os h
    exact Qde.mk
   refine rg hc none [oN,some (.eqv (.no) ⟨[(4,I (ty0.length : Int))],[],[]⟩),oN,oN,oN,oc (I a3),oN,some (.eqv (.no) ⟨[(10,I (ty0.length : Int))],[],[]⟩),oN,oT,oN,o_,o_,o_,oF,oN] [(2,.bool false)] [] (ai (Qdy (d := 4) I ty0) (ar 2 a2 (cq (Kh8 _ _ a4) K5b (ar 2 a2 (ai (Qdy (d := 10) I ty0) (ar 2 a2 (ar 3 (neT a5) (ai a5 tv)))))))) ?_
   obtain rfl := os h
   exact Qde.mk
  refine rg hc none [oN,some (.eqv (.no) ⟨[(4,I (ty0.length : Int))],[],[]⟩),oN,oN,o_,o_,o_,o_,o_,oF,oN,o_,o_,o_,oF,oN] [(2,.bool false)] [] (ai (Qdy (d := 4) I ty0) (ar 5 (neT a2) (ai a2 (ar 3 (neT (rfl : false = false)) (ai (rfl : false = false) tv))))) ?_
  obtain rfl := os h
  exact Qde.mk
 clear a1
 refine rt ?_
 obtain rfl := os h
 exact rq [true]
def Khc (c0 : Int) : Option (Int) :=
 if (decide (c0 ≥ 35)) = true then
 some (-1)
 else
 if (decide (c0 ≥ 19)) = true then
 some (wr (c0 - 19))
 else
 some (wr (c0 - 3))
def Khd (c0 : Int) (r : Int) : Prop :=
 Q75 Tryz.prog 169 [I c0] (I r) []
theorem Khe : ∀ p r,Khc p = some r → Khd p r := by
 rintro c0 r h
 unfold Khc at h
 refine b0 Tryz.f169 K5d 13 [(0,I c0)] fun c hc => ?_
 refine rs0 hc 1 [(0,I c0)] [] ?_
 refine sN ?_
 refine bk 0 ?_
 refine rs0 hc 3 [(0,I c0),(3,.bool (decide (c0 ≥ 35)))] [] ?_
 refine ic h (fun a0 h => ?_) fun a0 h => ?_
 ·refine rs0 hc 1 [(2,I (-1))] [] ?_
  refine rt ?_
  obtain rfl := os h
  exact rq [true]
 refine rs0 hc 3 [(0,I c0),(6,.bool (decide (c0 ≥ 19)))] [] ?_
 refine ic h (fun a1 h => ?_) fun a1 h => ?_
 ·refine rs0 hc 3 [(2,I (wr (c0 - 19)))] [] ?_
  refine rt ?_
  obtain rfl := os h
  exact rq [true]
 refine sk ?_
 refine rs0 hc 3 [(2,I (wr (c0 - 3)))] [] ?_
 refine rt ?_
 obtain rfl := os h
 exact rq [true]
def Khf (c : Ctx) (ty0 : List Int) (size1 : Int) (closed2 : Bool) (a0 : Int) : (Unit) ⊕ (Bool) → Exit → Q0a → Prop
 | .inl _ => Qde c .normal (mkS [(0,sI ty0),(1,I size1),(2,.bool closed2),(7,I a0)] [])
 | .inr r => Qdn TIx Tryz.f82 [] (.bool r)
def Khg (c : Ctx) : (Unit) ⊕ (Bool) → Exit → Q0a → Prop
 | .inl _ => Qde c (.exit 0) (mkS [] [])
 | .inr r => Qdn TIx Tryz.f82 [] (.bool r)
def Khh (p : (List Int) × Int × Bool × Int) : Option ((Unit) ⊕ (Bool)) :=
 match p with
 | (ty0,size1,closed2,a0) =>
  if (decide (a0 < (ty0.length : Int))) = true then
  ((
   (idx ty0 a0) >>= fun a1 =>
   (Kgz a1) >>= fun a2 =>
   if (decide (a2 > 0)) = true then
   (idx ty0 a0) >>= fun a3 =>
   some ((decide (a3 > 2)))
   else
   some (false)
  ) : Option (Bool)) >>= fun a4 =>
  ((
   if a4 = true then
   (idx ty0 a0) >>= fun a5 =>
   (Khc a5) >>= fun a6 =>
   ((
   if (decide (a6 ≥ size1)) = true then
   some (true)
   else
   if closed2 = true then
   some ((decide (a6 < 0)))
   else
   some (false)
   ) : Option (Bool)) >>= fun a7 =>
   if a7 = true then
   some (.inr false)
   else
   some (.inl ())
   else
   some (.inl ())) : Option ((Unit) ⊕ (Bool))) >>= fun fl => match fl with
  | .inl () =>
   Khh (ty0,size1,closed2,(wr (a0 + 1)))
  | .inr r =>
   some (.inr r)
  else
  some (.inl ())
 partial_fixpoint
def Khi (p : (List Int) × Int × Bool × Int) (fl : (Unit) ⊕ (Bool)) : Prop :=
 match p with
 | (ty0,size1,closed2,a0) => ∀ c : Ctx,c.nt = 43 → WpL Tryz.prog c (cl (cl (cr (cl (cr B82))))) (Khg c fl) (mkS [(0,sI ty0),(1,I size1),(2,.bool closed2),(7,I a0)] [])
theorem Khj : ∀ p r,Khh p = some r → Khi p r := by
 refine Khh.partial_correctness Khi ?_
 rintro spec_l2Graded_l0_f spec_l2Graded_l0_ih ⟨ty0,size1,closed2,a0⟩ r h
 intro c hc
 refine WpL.step ?_
 refine sN ?_
 refine rs hc none [oN,oN,some (.eqv (.no) ⟨[(11,I (ty0.length : Int))],[],[]⟩),oN] [(0,sI ty0),(1,I size1),(2,.bool closed2),(7,I a0),(12,.bool (decide (a0 < (ty0.length : Int))))] [] (ai (Qdy (d := 11) I ty0) tv) ?_
 refine ic h (fun a1 h => ?_) fun a1 h => ?_
 ·refine sk ?_
  refine sN ?_
  refine bk 1 ?_
  refine sN ?_
  obtain ⟨a2,a3,h⟩ := Qds h
  refine Wp.into (x := .normal) (mkS [(0,sI ty0),(1,I size1),(2,.bool closed2),(7,I a0),(27,.bool a2)] []) ?_ ?_
  ·replace h := a3
   obtain ⟨a4,a5,a6,a7,h⟩ := bq2 h
   rcases is h with ⟨a8,h⟩ | ⟨a8,h⟩
   ·obtain ⟨a9,b1,h⟩ := Qds h
    refine rg hc none [oN,oN,some (.el (I a4)),oN,oc (I a6),oN,oN,oN,oN,some (.el (I a9)),oN,oN,oT] [(0,sI ty0),(1,I size1),(2,.bool closed2),(7,I a0),(27,.bool (decide (a9 > 2)))] [] (ai (ix a5) (cq (Kh1 _ _ a7) K59 (ar 3 a8 (ai (ix b1) (ar 3 a8 tv))))) ?_
    obtain rfl := os h
    exact Qde.mk
   refine rg hc none [oN,oN,some (.el (I a4)),oN,oc (I a6),oN,oN,o_,o_,o_,o_,o_,oF] [(0,sI ty0),(1,I size1),(2,.bool closed2),(7,I a0),(27,.bool false)] [] (ai (ix a5) (cq (Kh1 _ _ a7) K59 (ar 5 (neT a8) (ai a8 tv)))) ?_
   obtain rfl := os h
   exact Qde.mk
  clear a3
  obtain ⟨fl,b2,h⟩ := Qds h
  refine flw (Khf c ty0 size1 closed2 a0 fl) ?_ (fun hF => ?_)
  ·replace h := b2
   refine ic h (fun b3 h => ?_) fun b3 h => ?_
   ·obtain ⟨b4,b5,b6,b7,h⟩ := bq2 h
    refine rs hc none [oN,oN,some (.el (I b4)),oN,oc (I b6),oN] [(0,sI ty0),(1,I size1),(2,.bool closed2),(7,I a0),(8,I b6)] [] (ai (ix b5) (cq (Khe _ _ b7) K5e tv)) ?_
    refine sN ?_
    obtain ⟨b8,b9,h⟩ := Qds h
    refine Wp.into (x := .normal) (mkS [(0,sI ty0),(1,I size1),(2,.bool closed2),(7,I a0),(42,.bool b8)] []) ?_ ?_
    ·replace h := b9
     rcases is h with ⟨c0,h⟩ | ⟨c0,h⟩
     ·refine rg hc none [oN,oN,oN,oN,o_,o_,o_,o_,o_,oT] [(0,sI ty0),(1,I size1),(2,.bool closed2),(7,I a0),(42,.bool true)] [] (ar 3 (neF c0) (ai c0 tv)) ?_
      obtain rfl := os h
      exact Qde.mk
     rcases is h with ⟨c1,h⟩ | ⟨c1,h⟩
     ·refine rg hc none [oN,oN,oN,oN,oN,oN,oN,oN,oT,oF] [(0,sI ty0),(1,I size1),(2,.bool closed2),(7,I a0),(42,.bool (decide (b6 < 0)))] [] (ar 2 c0 (ar 2 c1 (ac c0 c1 c0 tv))) ?_
      obtain rfl := os h
      exact Qde.mk
     refine rg hc none [oN,oN,oN,oN,oN,oN,o_,o_,oF,oF] [(0,sI ty0),(1,I size1),(2,.bool closed2),(7,I a0),(42,.bool false)] [] (ar 2 c0 (ar 2 (neT c1) (ac c0 c1 c0 tv))) ?_
     obtain rfl := os h
     exact Qde.mk
    clear b9
    refine ic h (fun c2 h => ?_) fun c2 h => ?_
    ·refine rs0 hc 1 [(6,.bool false)] [] ?_
     refine rt ?_
     obtain rfl := os h
     exact re [true]
    refine sk ?_
    obtain rfl := os h
    exact iv []
   refine sk ?_
   obtain rfl := os h
   exact iv []
  rcases fl with ⟨⟩ | r
  ·refine Wp.into (x := .normal) (mkS [(0,sI ty0),(1,I size1),(2,.bool closed2),(7,I a0)] []) hF ?_
   refine rg0 hc 3 [(0,sI ty0),(1,I size1),(2,.bool closed2),(7,I (wr (a0 + 1)))] [] ?_
   refine Qda ?_
   exact (spec_l2Graded_l0_ih _ _ h c hc)
  refine Wp.mono hF ?_
  rintro _ _ ⟨rfl,hfin⟩
  obtain rfl := os h
  exact ⟨rfl,hfin⟩
 refine xt 0 ?_
 refine Qd4 ?_
 refine Qdb ?_
 obtain rfl := os h
 exact iv []
def Khk (p : (List Int) × Int × Bool) : Option (Bool) :=
 match p with
 | (ty0,size1,closed2) =>
  (Khh (ty0,size1,closed2,0)) >>= fun fl => match fl with
  | .inl () =>
   some true
  | .inr r =>
   some r
def Khl (p : (List Int) × Int × Bool) (r : Bool) : Prop :=
 match p with
 | (ty0,size1,closed2) => Q75 Tryz.prog 82 [sI ty0,I size1,.bool closed2] (.bool r) []
theorem Khm : ∀ p r,Khk p = some r → Khl p r := by
 rintro ⟨ty0,size1,closed2⟩ r h
 unfold Khk at h
 refine b0 Tryz.f82 B82 43 [(0,sI ty0),(1,I size1),(2,.bool closed2)] fun c hc => ?_
 refine rs0 hc 1 [(0,sI ty0),(1,I size1),(2,.bool closed2)] [] ?_
 refine sN ?_
 refine rs0 hc 1 [(0,sI ty0),(1,I size1),(2,.bool closed2),(7,I 0)] [] ?_
 refine bk 0 ?_
 obtain ⟨fl,a0,h⟩ := Qds h
 have hL := Khj _ _ a0 c hc
 refine lp ?_
 rcases fl with ⟨⟩ | r
 ·refine WpL.into (e := (.exit 0)) (mkS [] []) hL ?_
  refine Qd6 ?_
  refine rs0 hc 1 [(6,.bool true)] [] ?_
  refine rt ?_
  obtain rfl := os h
  exact rq [true]
 refine WpL.mono hL ?_
 rintro _ _ ⟨rfl,hfin⟩
 obtain rfl := os h
 exact ⟨.inl rfl,hfin⟩
def Khn (p : K00 × (List Int)) : Option (Bool) :=
 match p with
 | (s0,ty1) =>
  ((
  (K9o s0) >>= fun a0 =>
  if a0 = true then
  (Kh9 ty1) >>= fun a1 =>
  if a1 = true then
  (Khk (ty1,s0.fSize,true)) >>= fun a2 =>
  some (a2)
  else
  some (false)
  else
  some (false)
  ) : Option (Bool)) >>= fun a3 =>
  some a3
def Kho (p : K00 × (List Int)) (r : Bool) : Prop :=
 match p with
 | (s0,ty1) => Q75 Tryz.prog 18 [K1a s0,sI ty1] (.bool r) []
theorem Khp : ∀ p r,Khn p = some r → Kho p r := by
 rintro ⟨s0,ty1⟩ r h
 unfold Khn at h
 refine b0 Tryz.f18 B18 17 [(0,K1a s0),(1,sI ty1)] fun c hc => ?_
 refine rs hc none [some (.new 1),oN] [(1,sI ty1),(2,.ra 1 0)] [(1,K19 s0)] tv ?_
 refine sN ?_
 obtain ⟨a0,a1,h⟩ := Qds h
 refine Wp.into (x := .normal) (mkS [(4,.bool a0)] []) ?_ ?_
 ·replace h := a1
  obtain ⟨a2,a3,h⟩ := Qds h
  rcases is h with ⟨a4,h⟩ | ⟨a4,h⟩
  ·obtain ⟨a5,a6,h⟩ := Qds h
   rcases is h with ⟨a7,h⟩ | ⟨a7,h⟩
   ·obtain ⟨a8,a9,h⟩ := Qds h
    refine rg hc none [oN,oc (.bool a2),oN,oN,oc (.bool a5),oT,oN,oN,oN,oN,oc (.bool a8),oT,oN] [(4,.bool a8)] [] (cq (K9q _ _ a3) K2z (ar 2 a4 (cq (Khb _ _ a6) K5c (ai a4 (ar 4 a7 (cq (Khm _ _ a9) K5f (ai a7 tv))))))) ?_
    obtain rfl := os h
    exact Qde.mk
   refine rg hc none [oN,oc (.bool a2),oN,oN,oc (.bool a5),oT,oN,o_,o_,o_,o_,oF,oN] [(4,.bool false)] [] (cq (K9q _ _ a3) K2z (ar 2 a4 (cq (Khb _ _ a6) K5c (ai a4 (ar 4 (neT a7) (ai a7 tv)))))) ?_
   obtain rfl := os h
   exact Qde.mk
  refine rg hc none [oN,oc (.bool a2),oN,o_,o_,oF,oN,o_,o_,o_,o_,oF,oN] [(4,.bool false)] [] (cq (K9q _ _ a3) K2z (ar 2 (neT a4) (ai a4 (ar 4 (neT (rfl : false = false)) (ai (rfl : false = false) tv))))) ?_
  obtain rfl := os h
  exact Qde.mk
 clear a1
 refine rt ?_
 obtain rfl := os h
 exact rq [true]
def Khq (c : Ctx) : (Unit) ⊕ (Bool) → Exit → Q0a → Prop
 | .inl _ => Qde c (.exit 0) (mkS [] [])
 | .inr r => Qdn TIx Tryz.f181 [] (.bool r)
def Khr (p : (List Int) × Int) : Option ((Unit) ⊕ (Bool)) :=
 match p with
 | (ty0,a0) =>
  if (decide (a0 < (ty0.length : Int))) = true then
  (idx ty0 a0) >>= fun a1 =>
  (Kgt a1) >>= fun a2 =>
  if a2 = true then
  some (.inr false)
  else
  Khr (ty0,(wr (a0 + 1)))
  else
  some (.inl ())
 partial_fixpoint
def Khs (p : (List Int) × Int) (fl : (Unit) ⊕ (Bool)) : Prop :=
 match p with
 | (ty0,a0) => ∀ c : Ctx,c.nt = 15 → WpL Tryz.prog c (cl (cl (cr (cl (cr K5h))))) (Khq c fl) (mkS [(0,sI ty0),(3,I a0)] [])
theorem Kht : ∀ p r,Khr p = some r → Khs p r := by
 refine Khr.partial_correctness Khs ?_
 rintro spec_l2Data_l0_f spec_l2Data_l0_ih ⟨ty0,a0⟩ r h
 intro c hc
 refine WpL.step ?_
 refine sN ?_
 refine rs hc none [oN,oN,some (.eqv (.no) ⟨[(6,I (ty0.length : Int))],[],[]⟩),oN] [(0,sI ty0),(3,I a0),(7,.bool (decide (a0 < (ty0.length : Int))))] [] (ai (Qdy (d := 6) I ty0) tv) ?_
 refine ic h (fun a1 h => ?_) fun a1 h => ?_
 ·refine sk ?_
  refine sN ?_
  refine bk 1 ?_
  obtain ⟨a2,a3,a4,a5,h⟩ := bq2 h
  refine rs hc none [oN,oN,some (.el (I a2)),oN,oc (.bool a4)] [(0,sI ty0),(3,I a0),(14,.bool a4)] [] (ai (ix a3) (cq (Kgv _ _ a5) K55 tv)) ?_
  refine ic h (fun a6 h => ?_) fun a6 h => ?_
  ·refine rs0 hc 1 [(2,.bool false)] [] ?_
   refine rt ?_
   obtain rfl := os h
   exact re [true]
  refine sk ?_
  refine rg0 hc 3 [(0,sI ty0),(3,I (wr (a0 + 1)))] [] ?_
  refine Qda ?_
  exact (spec_l2Data_l0_ih _ _ h c hc)
 refine xt 0 ?_
 refine Qd4 ?_
 refine Qdb ?_
 obtain rfl := os h
 exact iv []
def Khu (ty0 : (List Int)) : Option (Bool) :=
 (Khr (ty0,0)) >>= fun fl => match fl with
 | .inl () =>
  some true
 | .inr r =>
  some r
def Khv (ty0 : (List Int)) (r : Bool) : Prop :=
 Q75 Tryz.prog 181 [sI ty0] (.bool r) []
theorem Khw : ∀ p r,Khu p = some r → Khv p r := by
 rintro ty0 r h
 unfold Khu at h
 refine b0 Tryz.f181 K5h 15 [(0,sI ty0)] fun c hc => ?_
 refine rs0 hc 1 [(0,sI ty0)] [] ?_
 refine sN ?_
 refine rs0 hc 1 [(0,sI ty0),(3,I 0)] [] ?_
 refine bk 0 ?_
 obtain ⟨fl,a0,h⟩ := Qds h
 have hL := Kht _ _ a0 c hc
 refine lp ?_
 rcases fl with ⟨⟩ | r
 ·refine WpL.into (e := (.exit 0)) (mkS [] []) hL ?_
  refine Qd6 ?_
  refine rs0 hc 1 [(2,.bool true)] [] ?_
  refine rt ?_
  obtain rfl := os h
  exact rq [true]
 refine WpL.mono hL ?_
 rintro _ _ ⟨rfl,hfin⟩
 obtain rfl := os h
 exact ⟨.inl rfl,hfin⟩
def Khx (p : K00 × (List Int)) : Option (Bool) :=
 match p with
 | (s0,ty1) =>
  ((
  (Khn (s0,ty1)) >>= fun a0 =>
  if a0 = true then
  (Khu ty1) >>= fun a1 =>
  some (a1)
  else
  some (false)
  ) : Option (Bool)) >>= fun a2 =>
  some a2
def Khy (p : K00 × (List Int)) (r : Bool) : Prop :=
 match p with
 | (s0,ty1) => Q75 Tryz.prog 101 [K1a s0,sI ty1] (.bool r) []
theorem Khz : ∀ p r,Khx p = some r → Khy p r := by
 rintro ⟨s0,ty1⟩ r h
 unfold Khx at h
 refine b0 Tryz.f101 K5j 12 [(0,K1a s0),(1,sI ty1)] fun c hc => ?_
 refine rs hc none [some (.new 1),oN] [(1,sI ty1),(2,.ra 1 0)] [(1,K19 s0)] tv ?_
 refine sN ?_
 obtain ⟨a0,a1,h⟩ := Qds h
 refine Wp.into (x := .normal) (mkS [(4,.bool a0)] []) ?_ ?_
 ·replace h := a1
  obtain ⟨a2,a3,h⟩ := Qds h
  rcases is h with ⟨a4,h⟩ | ⟨a4,h⟩
  ·obtain ⟨a5,a6,h⟩ := Qds h
   refine rg hc none [oN,oN,oc (.bool a2),oN,oN,oc (.bool a5),oT,oN] [(4,.bool a5)] [] (cq (Khp _ _ a3) K5g (ar 2 a4 (cq (Khw _ _ a6) K5i (ai a4 tv)))) ?_
   obtain rfl := os h
   exact Qde.mk
  refine rg hc none [oN,oN,oc (.bool a2),oN,o_,o_,oF,oN] [(4,.bool false)] [] (cq (Khp _ _ a3) K5g (ar 2 (neT a4) (ai a4 tv))) ?_
  obtain rfl := os h
  exact Qde.mk
 clear a1
 refine rt ?_
 obtain rfl := os h
 exact rq [true]
def Ki0 (p : (List Int) × Int) : Option ((List Int)) :=
 match p with
 | (ty0,k1) =>
  (Kh6 (ty0,1)) >>= fun a0 =>
  if (k1 == 0) = true then
  (cut ty0 (some 1) (some a0) none) >>= fun a1 =>
  (Kch a1) >>= fun a2 =>
  some a2
  else
  (cut ty0 (some a0) none none) >>= fun a3 =>
  (Kch a3) >>= fun a4 =>
  some a4
def Ki1 (p : (List Int) × Int) (r : (List Int)) : Prop :=
 match p with
 | (ty0,k1) => Q75 Tryz.prog 178 [sI ty0,I k1] (oI r) []
theorem Ki2 : ∀ p r,Ki0 p = some r → Ki1 p r := by
 rintro ⟨ty0,k1⟩ r h
 unfold Ki0 at h
 refine b0 Tryz.f178 K5l 18 [(0,sI ty0),(1,I k1)] fun c hc => ?_
 refine rs0 hc 1 [(0,sI ty0),(1,I k1)] [] ?_
 obtain ⟨a0,a1,h⟩ := Qds h
 refine rs hc none [oN,oc (I a0),oN] [(0,sI ty0),(1,I k1),(5,I a0)] [] (cq (Kh8 _ _ a1) K5b tv) ?_
 refine sN ?_
 refine rs0 hc 2 [(0,sI ty0),(5,I a0),(9,.bool (k1 == 0))] [] ?_
 refine ic h (fun a2 h => ?_) fun a2 h => ?_
 ·obtain ⟨a3,a4,a5,a6,h⟩ := bq2 h
  refine rs hc none [oN,oN,some (.eqv (.no) ⟨[(12,sI a3)],[],[]⟩),oc (oI a5),oN] [(4,.rs 1)] [(1,rI a5)] (ab (Qe1 (d := 12) I a4) (Qe0 (enc := I) (sz := 1) Qeb a4) (cq (Kcj _ _ a6) K3v tv)) ?_
  refine rt ?_
  obtain rfl := os h
  exact rq [true]
 refine sk ?_
 obtain ⟨a7,a8,a9,b1,h⟩ := bq2 h
 refine rs hc none [oN,oN,some (.eqv (.no) ⟨[(16,sI a7)],[],[]⟩),some (.call (oI a9) [] 2),oN] [(4,.rs 2)] [(2,rI a9)] (ab (Qe1 (d := 16) I a8) (Qe0 (enc := I) (sz := 1) Qeb a8) (cq (Kcj _ _ b1) K3v tv)) ?_
 refine rt ?_
 obtain rfl := os h
 exact rq [true]
def Ki3 (ty0 : (List Int)) : Option (Int) :=
 (idx ty0 0) >>= fun a0 =>
 if (a0 == 0) = true then
 some 3
 else
 if (a0 == 1) = true then
 (Ki0 (ty0,0)) >>= fun a1 =>
 (Ki3 a1) >>= fun a2 =>
 (Ki0 (ty0,1)) >>= fun a3 =>
 (Ki3 a3) >>= fun a4 =>
 (K78 ((wr (a2 * a4)),301)) >>= fun a5 =>
 some a5
 else
 if (a0 == 2) = true then
 (Ki0 (ty0,0)) >>= fun a6 =>
 (Ki3 a6) >>= fun a7 =>
 (Ki0 (ty0,1)) >>= fun a8 =>
 (Ki3 a8) >>= fun a9 =>
 (K78 ((wr (a7 + a9)),301)) >>= fun b1 =>
 some b1
 else
 (Ki0 (ty0,0)) >>= fun b2 =>
 (Ki3 b2) >>= fun b3 =>
 some b3
 partial_fixpoint
def Ki4 (ty0 : (List Int)) (r : Int) : Prop :=
 Q75 Tryz.prog 102 [sI ty0] (I r) []
theorem Ki5 : ∀ p r,Ki3 p = some r → Ki4 p r := by
 refine Ki3.partial_correctness Ki4 ?_
 rintro spec_l5Count_f spec_l5Count_ih ty0 r h
 refine b0 Tryz.f102 K5n 35 [(0,sI ty0)] fun c hc => ?_
 refine rs0 hc 1 [(0,sI ty0)] [] ?_
 obtain ⟨a0,a1,h⟩ := Qds h
 refine rs hc none [oN,some (.el (I a0)),oN,oN] [(0,sI ty0),(3,I a0)] [] (ai (ix a1) tv) ?_
 refine sN ?_
 refine bk 0 ?_
 refine rs0 hc 3 [(0,sI ty0),(3,I a0),(7,.bool (a0 == 0))] [] ?_
 refine ic h (fun a2 h => ?_) fun a2 h => ?_
 ·refine rs0 hc 1 [(2,I 3)] [] ?_
  refine rt ?_
  obtain rfl := os h
  exact rq [true]
 refine rs0 hc 3 [(0,sI ty0),(3,I a0),(10,.bool (a0 == 1))] [] ?_
 refine ic h (fun a3 h => ?_) fun a3 h => ?_
 ·obtain ⟨a4,a5,a6,a7,a8,a9,b1,b2,h⟩ := bq4 h
  obtain ⟨b3,b4,h⟩ := Qds h
  refine rs hc none [oN,oc (oI a4),oc (I a6),oN,some (.call (oI a8) [] 2),oc (I b1),oN,oc (I b3),oN] [(2,I b3)] [] (cq (Ki2 _ _ a5) K5m (ac (Q75.args (A1 := [.sl (Q02 (List.map I a4))]) (A2 := [sI a4]) (by simp only [List.map_nil,Qek]) (spec_l5Count_ih _ _ a7)) K5o (Or.inr rfl : ([1] : List Nat) = [] ∨ noSh (I a6) = true) (cq (Ki2 _ _ a9) K5m (ac (Q75.args (A1 := [.sl (Q02 (List.map I a8))]) (A2 := [sI a8]) (by simp only [List.map_nil,Qek]) (spec_l5Count_ih _ _ b2)) K5o (Or.inr rfl : ([2] : List Nat) = [] ∨ noSh (I b1) = true) (cq (K7a _ _ b4) K29 tv))))) ?_
  refine rt ?_
  obtain rfl := os h
  exact rq [true]
 refine rs0 hc 3 [(0,sI ty0),(21,.bool (a0 == 2))] [] ?_
 refine ic h (fun b5 h => ?_) fun b5 h => ?_
 ·obtain ⟨b6,b7,b8,b9,c0,c1,c2,c3,h⟩ := bq4 h
  obtain ⟨c4,c5,h⟩ := Qds h
  refine rs hc none [oN,some (.call (oI b6) [] 3),oc (I b8),oN,some (.call (oI c0) [] 4),oc (I c2),oN,oc (I c4),oN] [(2,I c4)] [] (cq (Ki2 _ _ b7) K5m (ac (Q75.args (A1 := [.sl (Q02 (List.map I b6))]) (A2 := [sI b6]) (by simp only [List.map_nil,Qek]) (spec_l5Count_ih _ _ b9)) K5o (Or.inr rfl : ([3] : List Nat) = [] ∨ noSh (I b8) = true) (cq (Ki2 _ _ c1) K5m (ac (Q75.args (A1 := [.sl (Q02 (List.map I c0))]) (A2 := [sI c0]) (by simp only [List.map_nil,Qek]) (spec_l5Count_ih _ _ c3)) K5o (Or.inr rfl : ([4] : List Nat) = [] ∨ noSh (I c2) = true) (cq (K7a _ _ c5) K29 tv))))) ?_
  refine rt ?_
  obtain rfl := os h
  exact rq [true]
 refine sk ?_
 obtain ⟨c6,c7,c8,c9,h⟩ := bq2 h
 refine rs hc none [oN,some (.call (oI c6) [] 5),oc (I c8),oN] [(2,I c8)] [] (cq (Ki2 _ _ c7) K5m (ac (Q75.args (A1 := [.sl (Q02 (List.map I c6))]) (A2 := [sI c6]) (by simp only [List.map_nil,Qek]) (spec_l5Count_ih _ _ c9)) K5o (Or.inr rfl : ([5] : List Nat) = [] ∨ noSh (I c8) = true) tv)) ?_
 refine rt ?_
 obtain rfl := os h
 exact rq [true]
def Ki6 (p : K00 × (List Int)) : Option (Int) :=
 match p with
 | (s0,ty1) =>
  ((
  (Khx (s0,ty1)) >>= fun a0 =>
  if a0 = true then
  (Ki3 ty1) >>= fun a1 =>
  some ((decide (a1 > 300)))
  else
  some (true)
  ) : Option (Bool)) >>= fun a2 =>
  if a2 = true then
  some (-1)
  else
  (Ki3 ty1) >>= fun a3 =>
  some a3
def Ki7 (p : K00 × (List Int)) (r : Int) : Prop :=
 match p with
 | (s0,ty1) => Q75 Tryz.prog 33 [K1a s0,sI ty1] (I r) []
theorem Ki8 : ∀ p r,Ki6 p = some r → Ki7 p r := by
 rintro ⟨s0,ty1⟩ r h
 unfold Ki6 at h
 refine b0 Tryz.f33 B33 16 [(0,K1a s0),(1,sI ty1)] fun c hc => ?_
 refine rs hc none [some (.new 1),oN] [(1,sI ty1),(2,.ra 1 0)] [(1,K19 s0)] tv ?_
 refine sN ?_
 refine sN ?_
 obtain ⟨a0,a1,h⟩ := Qds h
 refine Wp.into (x := .normal) (mkS [(1,sI ty1),(13,.bool a0)] []) ?_ ?_
 ·replace h := a1
  obtain ⟨a2,a3,h⟩ := Qds h
  rcases is h with ⟨a4,h⟩ | ⟨a4,h⟩
  ·obtain ⟨a5,a6,h⟩ := Qds h
   refine rg hc none [oN,oN,oc (.bool a2),oN,oN,oN,oc (I a5),oN,oF] [(1,sI ty1),(13,.bool (decide (a5 > 300)))] [] (cq (Khz _ _ a3) K5k (ar 2 (nF a4) (cq (Ki5 _ _ a6) K5o (ar 2 (nF a4) tv)))) ?_
   obtain rfl := os h
   exact Qde.mk
  refine rg hc none [oN,oN,oc (.bool a2),oN,oN,o_,o_,o_,oT] [(1,sI ty1),(13,.bool true)] [] (cq (Khz _ _ a3) K5k (ar 3 (neF (nT a4)) (ai (nT a4) tv))) ?_
  obtain rfl := os h
  exact Qde.mk
 clear a1
 refine ic h (fun a7 h => ?_) fun a7 h => ?_
 ·refine rs0 hc 1 [(4,I (-1))] [] ?_
  refine rt ?_
  obtain rfl := os h
  exact rq [true]
 refine sk ?_
 obtain ⟨a8,a9,h⟩ := Qds h
 refine rs hc none [oN,oc (I a8),oN] [(4,I a8)] [] (cq (Ki5 _ _ a9) K5o tv) ?_
 refine rt ?_
 obtain rfl := os h
 exact rq [true]
def Ki9 (c : Ctx) : (Unit) ⊕ (Bool) → Exit → Q0a → Prop
 | .inl _ => Qde c (.exit 0) (mkS [] [])
 | .inr r => Qdn TIx Tryz.f179 [] (.bool r)
end Go.Am
