/- Walks, printed. -/
import Derived.Test.YtckgdfakjjdodaaGreatGERAF7
set_option linter.unusedVariables false
set_option linter.unusedSimpArgs false
set_option maxRecDepth 100000
namespace Go.Am
open Go Go.Proofs
def Ki6 : Option (List (List Nat)) := rx [[0],[1],[2],[3],[4],[5],[6],[7],[8],[9],[10],[11],[12],[13],[14],[15],[16],[17],[18],[19],[20],[21],[22],[23],[21],[21,24],[21,24,25],[21,24,25,26],[28],[29],[30],[31],[32],[33],[31],[31,34],[31,34,35],[31,34,35,36],[38],[39],[40]]
def Ki7 : Option (List (List Nat)) := rx [[0],[1],[0],[0],[0,3],[0,2,3,4],[0,2,3,4,5],[7],[8],[9],[9],[11],[12],[9],[9,13],[9,13,14],[9,13,14,15],[17],[18],[19]]
def Ki8 : Option (List (List Nat)) := rx [[0],[1],[2],[3],[4],[5],[4],[7],[8],[9],[10],[11],[12],[13],[14],[15],[16],[17],[18],[19],[20],[21],[22],[23],[24],[22],[22,25],[22,25,26],[22,25,26,27],[29],[30],[31]]
def Ki9 (p : (List Int) × K01) : Option (Bool) :=
 match p with
 | (ty0,v1) =>
  (idx ty0 0) >>= fun a0 =>
  (Kgt a0) >>= fun (a1,a2) =>
  (Khw ty0) >>= fun a3 =>
  if (a1 == 0) = true then
  ((
  if (v1.fOp == 1) = true then
  (Kes (v1.fN,0,2)) >>= fun a4 =>
  if a4 = true then
  if ((v1.fType.length : Int) == 0) = true then
  some (((v1.fKids.length : Int) == 0))
  else
  some (false)
  else
  some (false)
  else
  some (false)
  ) : Option (Bool)) >>= fun a5 =>
  some a5
  else
  if (a1 == 1) = true then
  ((
  if (v1.fOp == 4) = true then
  if (v1.fN == 0) = true then
  if ((v1.fType.length : Int) == 0) = true then
  if ((v1.fKids.length : Int) == 2) = true then
  (idx a3 0) >>= fun a6 =>
  (idx v1.fKids 0) >>= fun a7 =>
  (Ki9 (a6,a7)) >>= fun a8 =>
  if a8 = true then
  (idx a3 1) >>= fun a9 =>
  (idx v1.fKids 1) >>= fun b1 =>
  (Ki9 (a9,b1)) >>= fun b2 =>
  some (b2)
  else
  some (false)
  else
  some (false)
  else
  some (false)
  else
  some (false)
  else
  some (false)
  ) : Option (Bool)) >>= fun b3 =>
  some b3
  else
  if (a1 == 2) = true then
  ((
  if (v1.fN != 0) = true then
  some (true)
  else
  if ((v1.fKids.length : Int) != 1) = true then
  some (true)
  else
  if (v1.fOp != 6) = true then
  some ((v1.fOp != 7))
  else
  some (false)
  ) : Option (Bool)) >>= fun b4 =>
  if b4 = true then
  some false
  else
  ((
  (idx a3 (wr (1 - (wr (v1.fOp - 6))))) >>= fun b5 =>
  (Ki3 (v1.fType,b5)) >>= fun b6 =>
  if b6 = true then
  (idx a3 (wr (v1.fOp - 6))) >>= fun b7 =>
  (idx v1.fKids 0) >>= fun b8 =>
  (Ki9 (b7,b8)) >>= fun b9 =>
  some (b9)
  else
  some (false)
  ) : Option (Bool)) >>= fun c0 =>
  some c0
  else
  ((
  if (v1.fOp == 11) = true then
  if (v1.fN == a2) = true then
  if ((v1.fType.length : Int) == 0) = true then
  if ((v1.fKids.length : Int) == 1) = true then
  (idx a3 0) >>= fun c1 =>
  (idx v1.fKids 0) >>= fun c2 =>
  (Ki9 (c1,c2)) >>= fun c3 =>
  some (c3)
  else
  some (false)
  else
  some (false)
  else
  some (false)
  else
  some (false)
  ) : Option (Bool)) >>= fun c4 =>
  some c4
 partial_fixpoint
def Kia (p : (List Int) × K01) (r : Bool) : Prop :=
 match p with
 | (ty0,v1) => Q75 Tryz.prog 84 [sI ty0,K1c v1] (.bool r) []
theorem Kib : ∀ p r,Ki9 p = some r → Kia p r := by
 refine Ki9.partial_correctness Kia ?_
 rintro impl_isValue_f impl_isValue_ih ⟨ty0,v1⟩ r h
 refine b0 Tryz.f84 B84 157 [(0,sI ty0),(1,K1c v1)] fun c hc => ?_
 refine rs hc none [some (.new 1),oN] [(0,sI ty0),(3,.ra 1 0)] [(1,K1b v1)] tv ?_
 obtain ⟨a0,a1,⟨a2,a3⟩,a4,h⟩ := bq2 h
 refine rss hc none [oN,some (.el (I a0)),oN,oc (.tup [I a2,I a3]),oN,oN,oN,oN,oN] [(0,sI ty0),(3,.ra 1 0),(5,I a2),(6,I a3)] (ai (ix a1) (cq (Kgv _ _ a4) K51 tv)) ?_
 obtain ⟨a5,a6,h⟩ := Qds h
 refine rs hc none [oN,some (.call (.osl (List.map K0n a5)) [] 2),oN] [(3,.ra 1 0),(5,I a2),(6,I a3),(7,.rs 2)] [(1,K1b v1),(2,.arr (List.map K0n a5))] (cq (Khy _ _ a6) K5g tv) ?_
 refine sN ?_
 refine K7e hc 1 [(3,.ra 1 0),(6,I a3),(7,.rs 2),(18,I a2)] ?_
 refine bk 0 ?_
 refine K7e hc 2 [(3,.ra 1 0),(6,I a3),(7,.rs 2),(18,I a2),(19,.bool (a2 == 0))] ?_
 refine ic h (fun a7 h => ?_) fun a7 h => ?_
 ·refine sN ?_
  obtain ⟨a8,a9,h⟩ := Qds h
  refine Wp.into (x := .normal) (mkS [(4,.bool a8)] []) ?_ ?_
  ·replace h := a9
   rcases is h with ⟨b1,h⟩ | ⟨b1,h⟩
   ·obtain ⟨b2,b3,h⟩ := Qds h
    rcases is h with ⟨b4,h⟩ | ⟨b4,h⟩
    ·rcases is h with ⟨b5,h⟩ | ⟨b5,h⟩
     ·refine rg hc none [oN,oN,oN,oN,oN,oN,oc (.bool b2),oT,oN,oN,oN,some (.eqv (.no) ⟨[(32,I (v1.fType.length : Int))],[],[]⟩),oN,oT,oN,oN,oN,some (.eqv (.no) ⟨[(38,I (v1.fKids.length : Int))],[],[]⟩),oN,oT,oN] [(4,.bool ((v1.fKids.length : Int) == 0))] [] (ar 3 b1 (cq (Keu _ _ b3) K4k (ai b1 (ar 3 b4 (ai (Qdy (d := 32) I v1.fType) (ar 2 b4 (ar 3 b5 (ai (Qdy (d := 38) K06 v1.fKids) (ar 2 b5 tv))))))))) ?_
      obtain rfl := os h
      exact Qde.mk
     refine rg hc none [oN,oN,oN,oN,oN,oN,oc (.bool b2),oT,oN,oN,oN,some (.eqv (.no) ⟨[(32,I (v1.fType.length : Int))],[],[]⟩),oN,oT,oN,o_,o_,o_,o_,oF,oN] [(4,.bool false)] [] (ar 3 b1 (cq (Keu _ _ b3) K4k (ai b1 (ar 3 b4 (ai (Qdy (d := 32) I v1.fType) (ar 2 b4 (ar 4 (neT b5) (ai b5 tv)))))))) ?_
     obtain rfl := os h
     exact Qde.mk
    refine rg hc none [oN,oN,oN,oN,oN,oN,oc (.bool b2),oT,oN,o_,o_,o_,o_,oF,oN,o_,o_,o_,o_,oF,oN] [(4,.bool false)] [] (ar 3 b1 (cq (Keu _ _ b3) K4k (ai b1 (ar 4 (neT b4) (ai b4 (ar 4 (neT (rfl : false = false)) (ai (rfl : false = false) tv))))))) ?_
    obtain rfl := os h
    exact Qde.mk
   refine rg hc none [oN,oN,oN,oN,o_,o_,o_,oF,oN,o_,o_,o_,o_,oF,oN,o_,o_,o_,o_,oF,oN] [(4,.bool false)] [] (ar 3 (neT b1) (ai b1 (ar 4 (neT (rfl : false = false)) (ai (rfl : false = false) (ar 4 (neT (rfl : false = false)) (ai (rfl : false = false) tv)))))) ?_
   obtain rfl := os h
   exact Qde.mk
  clear a9
  refine rt ?_
  obtain rfl := os h
  exact rq [true]
 refine K7e hc 2 [(3,.ra 1 0),(6,I a3),(7,.rs 2),(18,I a2),(41,.bool (a2 == 1))] ?_
 refine ic h (fun b6 h => ?_) fun b6 h => ?_
 ·refine sN ?_
  obtain ⟨b7,b8,h⟩ := Qds h
  refine Wp.into (x := .normal) (mkS [(4,.bool b7)] []) ?_ ?_
  ·replace h := b8
   rcases is h with ⟨b9,h⟩ | ⟨b9,h⟩
   ·rcases is h with ⟨c0,h⟩ | ⟨c0,h⟩
    ·rcases is h with ⟨c1,h⟩ | ⟨c1,h⟩
     ·rcases is h with ⟨c2,h⟩ | ⟨c2,h⟩
      ·obtain ⟨c3,c4,c5,c6,c7,c8,h⟩ := bq3 h
       rcases is h with ⟨c9,h⟩ | ⟨c9,h⟩
       ·obtain ⟨d0,d1,d2,d3,d4,d5,h⟩ := bq3 h
        refine rg hc Ki6 [oN,oN,oN,oN,oN,oN,oN,oT,oN,oN,oN,some (.eqv (.no) ⟨[(54,I (v1.fType.length : Int))],[],[]⟩),oN,oT,oN,oN,oN,some (.eqv (.no) ⟨[(60,I (v1.fKids.length : Int))],[],[]⟩),oN,oT,oN,oN,oN,some (.el (sI c3)),oN,oN,some (.el (K1c c5)),oN,oc (.bool c7),oT,oN,oN,oN,some (.el (sI d0)),oN,oN,some (.el (K1c d2)),oN,oc (.bool d4),oT,oN] [(4,.bool d4)] [] (ar 4 b9 (ar 3 c0 (ai (Qdy (d := 54) I v1.fType) (ar 2 c0 (ar 3 c1 (ai (Qdy (d := 60) K06 v1.fKids) (ar 2 c1 (ar 2 c2 (ac (Qdx (enc := K0n) c4) c2 (xL c4).2 (ar 3 c2 (ai (Qdw c6 (K0d c5)) (ar 2 c2 (cq (impl_isValue_ih _ _ c8) K5h (ai c2 (ar 2 c9 (ac (Qdx (enc := K0n) d1) c9 (xL d1).2 (ar 3 c9 (ai (Qdw d3 (K0d d2)) (ar 2 c9 (cq (impl_isValue_ih _ _ d5) K5h (ai c9 tv))))))))))))))))))))) ?_
        obtain rfl := os h
        exact Qde.mk
       refine rg hc Ki6 [oN,oN,oN,oN,oN,oN,oN,oT,oN,oN,oN,some (.eqv (.no) ⟨[(54,I (v1.fType.length : Int))],[],[]⟩),oN,oT,oN,oN,oN,some (.eqv (.no) ⟨[(60,I (v1.fKids.length : Int))],[],[]⟩),oN,oT,oN,oN,oN,some (.el (sI c3)),oN,oN,some (.el (K1c c5)),oN,oc (.bool c7),oT,oN,o_,o_,o_,o_,o_,o_,o_,o_,oF,oN] [(4,.bool false)] [] (ar 4 b9 (ar 3 c0 (ai (Qdy (d := 54) I v1.fType) (ar 2 c0 (ar 3 c1 (ai (Qdy (d := 60) K06 v1.fKids) (ar 2 c1 (ar 2 c2 (ac (Qdx (enc := K0n) c4) c2 (xL c4).2 (ar 3 c2 (ai (Qdw c6 (K0d c5)) (ar 2 c2 (cq (impl_isValue_ih _ _ c8) K5h (ai c2 (ar 8 (neT c9) (ai c9 tv)))))))))))))))) ?_
       obtain rfl := os h
       exact Qde.mk
      refine rg hc Ki6 [oN,oN,oN,oN,oN,oN,oN,oT,oN,oN,oN,some (.eqv (.no) ⟨[(54,I (v1.fType.length : Int))],[],[]⟩),oN,oT,oN,oN,oN,some (.eqv (.no) ⟨[(60,I (v1.fKids.length : Int))],[],[]⟩),oN,oT,oN,o_,o_,o_,o_,o_,o_,o_,o_,oF,oN,o_,o_,o_,o_,o_,o_,o_,o_,oF,oN] [(4,.bool false)] [] (ar 4 b9 (ar 3 c0 (ai (Qdy (d := 54) I v1.fType) (ar 2 c0 (ar 3 c1 (ai (Qdy (d := 60) K06 v1.fKids) (ar 2 c1 (ar 8 (neT c2) (ai c2 (ar 8 (neT (rfl : false = false)) (ai (rfl : false = false) tv))))))))))) ?_
      obtain rfl := os h
      exact Qde.mk
     refine rg hc Ki6 [oN,oN,oN,oN,oN,oN,oN,oT,oN,oN,oN,some (.eqv (.no) ⟨[(54,I (v1.fType.length : Int))],[],[]⟩),oN,oT,oN,o_,o_,o_,o_,oF,oN,o_,o_,o_,o_,o_,o_,o_,o_,oF,oN,o_,o_,o_,o_,o_,o_,o_,o_,oF,oN] [(4,.bool false)] [] (ar 4 b9 (ar 3 c0 (ai (Qdy (d := 54) I v1.fType) (ar 2 c0 (ar 4 (neT c1) (ai c1 (ar 8 (neT (rfl : false = false)) (ai (rfl : false = false) (ar 8 (neT (rfl : false = false)) (ai (rfl : false = false) tv)))))))))) ?_
     obtain rfl := os h
     exact Qde.mk
    refine rg hc Ki6 [oN,oN,oN,oN,oN,oN,oN,oT,oN,o_,o_,o_,o_,oF,oN,o_,o_,o_,o_,oF,oN,o_,o_,o_,o_,o_,o_,o_,o_,oF,oN,o_,o_,o_,o_,o_,o_,o_,o_,oF,oN] [(4,.bool false)] [] (ar 4 b9 (ar 4 (neT c0) (ai c0 (ar 4 (neT (rfl : false = false)) (ai (rfl : false = false) (ar 8 (neT (rfl : false = false)) (ai (rfl : false = false) (ar 8 (neT (rfl : false = false)) (ai (rfl : false = false) tv))))))))) ?_
    obtain rfl := os h
    exact Qde.mk
   refine rg hc Ki6 [oN,oN,oN,oN,o_,o_,o_,oF,oN,o_,o_,o_,o_,oF,oN,o_,o_,o_,o_,oF,oN,o_,o_,o_,o_,o_,o_,o_,o_,oF,oN,o_,o_,o_,o_,o_,o_,o_,o_,oF,oN] [(4,.bool false)] [] (ar 3 (neT b9) (ai b9 (ar 4 (neT (rfl : false = false)) (ai (rfl : false = false) (ar 4 (neT (rfl : false = false)) (ai (rfl : false = false) (ar 8 (neT (rfl : false = false)) (ai (rfl : false = false) (ar 8 (neT (rfl : false = false)) (ai (rfl : false = false) tv)))))))))) ?_
   obtain rfl := os h
   exact Qde.mk
  clear b8
  refine rt ?_
  obtain rfl := os h
  exact rq [true]
 refine K7e hc 2 [(3,.ra 1 0),(6,I a3),(7,.rs 2),(83,.bool (a2 == 2))] ?_
 refine ic h (fun d6 h => ?_) fun d6 h => ?_
 ·refine sN ?_
  refine sN ?_
  obtain ⟨d7,d8,h⟩ := Qds h
  refine Wp.into (x := .normal) (mkS [(3,.ra 1 0),(7,.rs 2),(103,.bool d7)] [(1,K1b v1),(2,.arr (List.map K0n a5))]) ?_ ?_
  ·replace h := d8
   rcases is h with ⟨d9,h⟩ | ⟨d9,h⟩
   ·refine rgs hc none [oN,oN,oN,oN,o_,o_,o_,o_,oT,oN,o_,o_,o_,o_,o_,o_,o_,o_,oT] [(3,.ra 1 0),(7,.rs 2),(103,.bool true)] (ar 4 (neF d9) (ai d9 (ar 5 nf (ai tt tv)))) ?_
    obtain rfl := os h
    exact Qde.mk
   rcases is h with ⟨e0,h⟩ | ⟨e0,h⟩
   ·refine rgs hc none [oN,oN,oN,oN,oN,oN,some (.eqv (.no) ⟨[(91,I (v1.fKids.length : Int))],[],[]⟩),oN,oF,oN,o_,o_,o_,o_,o_,o_,o_,o_,oT] [(3,.ra 1 0),(7,.rs 2),(103,.bool true)] (ar 3 d9 (ai (Qdy (d := 91) K06 v1.fKids) (ar 2 d9 (ar 5 (neF e0) (ai e0 tv))))) ?_
    obtain rfl := os h
    exact Qde.mk
   rcases is h with ⟨e1,h⟩ | ⟨e1,h⟩
   ·refine rgs hc none [oN,oN,oN,oN,oN,oN,some (.eqv (.no) ⟨[(91,I (v1.fKids.length : Int))],[],[]⟩),oN,oF,oN,oN,oN,oN,oN,oN,oN,oN,oT,oF] [(3,.ra 1 0),(7,.rs 2),(103,.bool (v1.fOp != 7))] (ar 3 d9 (ai (Qdy (d := 91) K06 v1.fKids) (ar 2 d9 (ar 4 e0 (ar 3 e1 (ac e0 e1 e0 tv)))))) ?_
    obtain rfl := os h
    exact Qde.mk
   refine rgs hc none [oN,oN,oN,oN,oN,oN,some (.eqv (.no) ⟨[(91,I (v1.fKids.length : Int))],[],[]⟩),oN,oF,oN,oN,oN,oN,oN,o_,o_,o_,oF,oF] [(3,.ra 1 0),(7,.rs 2),(103,.bool false)] (ar 3 d9 (ai (Qdy (d := 91) K06 v1.fKids) (ar 2 d9 (ar 4 e0 (ar 3 (neT e1) (ac e0 e1 e0 tv)))))) ?_
   obtain rfl := os h
   exact Qde.mk
  clear d8
  refine ic h (fun e2 h => ?_) fun e2 h => ?_
  ·refine rs0 hc 1 [(4,.bool false)] [] ?_
   refine rt ?_
   obtain rfl := os h
   exact rq [true]
  refine sk ?_
  refine K7e hc 4 [(3,.ra 1 0),(7,.rs 2),(8,I (wr (v1.fOp - 6)))] ?_
  refine sN ?_
  obtain ⟨e3,e4,h⟩ := Qds h
  refine Wp.into (x := .normal) (mkS [(4,.bool e3)] []) ?_ ?_
  ·replace h := e4
   obtain ⟨e5,e6,e7,e8,h⟩ := bq2 h
   rcases is h with ⟨e9,h⟩ | ⟨e9,h⟩
   ·obtain ⟨f0,f1,f2,f3,f4,f5,h⟩ := bq3 h
    refine rg hc Ki7 [oN,oN,oN,oN,oN,oN,some (.el (sI e5)),oc (.bool e7),oN,oN,oN,oN,some (.el (sI f0)),oN,oN,some (.el (K1c f2)),oN,oc (.bool f4),oT,oN] [(4,.bool f4)] [] (ab (Qdx (enc := K0n) e6) (xL e6).2 (cq (Ki5 _ _ e8) K5j (ar 3 e9 (ac (Qdx (enc := K0n) f1) e9 (xL f1).2 (ar 3 e9 (ai (Qdw f3 (K0d f2)) (ar 2 e9 (cq (impl_isValue_ih _ _ f5) K5h (ai e9 tv))))))))) ?_
    obtain rfl := os h
    exact Qde.mk
   refine rg hc Ki7 [oN,oN,oN,oN,oN,oN,some (.el (sI e5)),oc (.bool e7),oN,o_,o_,o_,o_,o_,o_,o_,o_,o_,oF,oN] [(4,.bool false)] [] (ab (Qdx (enc := K0n) e6) (xL e6).2 (cq (Ki5 _ _ e8) K5j (ar 9 (neT e9) (ai e9 tv)))) ?_
   obtain rfl := os h
   exact Qde.mk
  clear e4
  refine rt ?_
  obtain rfl := os h
  exact rq [true]
 refine sk ?_
 refine sN ?_
 obtain ⟨f6,f7,h⟩ := Qds h
 refine Wp.into (x := .normal) (mkS [(4,.bool f6)] []) ?_ ?_
 ·replace h := f7
  rcases is h with ⟨f8,h⟩ | ⟨f8,h⟩
  ·rcases is h with ⟨f9,h⟩ | ⟨f9,h⟩
   ·rcases is h with ⟨g0,h⟩ | ⟨g0,h⟩
    ·rcases is h with ⟨g1,h⟩ | ⟨g1,h⟩
     ·obtain ⟨g2,g3,g4,g5,g6,g7,h⟩ := bq3 h
      refine rg hc Ki8 [oN,oN,oN,oN,oN,oN,oN,oN,oT,oN,oN,oN,some (.eqv (.no) ⟨[(138,I (v1.fType.length : Int))],[],[]⟩),oN,oT,oN,oN,oN,some (.eqv (.no) ⟨[(144,I (v1.fKids.length : Int))],[],[]⟩),oN,oT,oN,oN,oN,some (.el (sI g2)),oN,oN,some (.el (K1c g4)),oN,oc (.bool g6),oT,oN] [(4,.bool g6)] [] (ar 5 f8 (ar 3 f9 (ai (Qdy (d := 138) I v1.fType) (ar 2 f9 (ar 3 g0 (ai (Qdy (d := 144) K06 v1.fKids) (ar 2 g0 (ar 2 g1 (ac (Qdx (enc := K0n) g3) g1 (xL g3).2 (ar 3 g1 (ai (Qdw g5 (K0d g4)) (ar 2 g1 (cq (impl_isValue_ih _ _ g7) K5h (ai g1 tv)))))))))))))) ?_
      obtain rfl := os h
      exact Qde.mk
     refine rg hc Ki8 [oN,oN,oN,oN,oN,oN,oN,oN,oT,oN,oN,oN,some (.eqv (.no) ⟨[(138,I (v1.fType.length : Int))],[],[]⟩),oN,oT,oN,oN,oN,some (.eqv (.no) ⟨[(144,I (v1.fKids.length : Int))],[],[]⟩),oN,oT,oN,o_,o_,o_,o_,o_,o_,o_,o_,oF,oN] [(4,.bool false)] [] (ar 5 f8 (ar 3 f9 (ai (Qdy (d := 138) I v1.fType) (ar 2 f9 (ar 3 g0 (ai (Qdy (d := 144) K06 v1.fKids) (ar 2 g0 (ar 8 (neT g1) (ai g1 tv))))))))) ?_
     obtain rfl := os h
     exact Qde.mk
    refine rg hc Ki8 [oN,oN,oN,oN,oN,oN,oN,oN,oT,oN,oN,oN,some (.eqv (.no) ⟨[(138,I (v1.fType.length : Int))],[],[]⟩),oN,oT,oN,o_,o_,o_,o_,oF,oN,o_,o_,o_,o_,o_,o_,o_,o_,oF,oN] [(4,.bool false)] [] (ar 5 f8 (ar 3 f9 (ai (Qdy (d := 138) I v1.fType) (ar 2 f9 (ar 4 (neT g0) (ai g0 (ar 8 (neT (rfl : false = false)) (ai (rfl : false = false) tv)))))))) ?_
    obtain rfl := os h
    exact Qde.mk
   refine rg hc Ki8 [oN,oN,oN,oN,oN,oN,oN,oN,oT,oN,o_,o_,o_,o_,oF,oN,o_,o_,o_,o_,oF,oN,o_,o_,o_,o_,o_,o_,o_,o_,oF,oN] [(4,.bool false)] [] (ar 5 f8 (ar 4 (neT f9) (ai f9 (ar 4 (neT (rfl : false = false)) (ai (rfl : false = false) (ar 8 (neT (rfl : false = false)) (ai (rfl : false = false) tv))))))) ?_
   obtain rfl := os h
   exact Qde.mk
  refine rg hc Ki8 [oN,oN,oN,oN,o_,o_,o_,o_,oF,oN,o_,o_,o_,o_,oF,oN,o_,o_,o_,o_,oF,oN,o_,o_,o_,o_,o_,o_,o_,o_,oF,oN] [(4,.bool false)] [] (ar 4 (neT f8) (ai f8 (ar 4 (neT (rfl : false = false)) (ai (rfl : false = false) (ar 4 (neT (rfl : false = false)) (ai (rfl : false = false) (ar 8 (neT (rfl : false = false)) (ai (rfl : false = false) tv)))))))) ?_
  obtain rfl := os h
  exact Qde.mk
 clear f7
 refine rt ?_
 obtain rfl := os h
 exact rq [true]
def Kic (p : K00 × (List Int) × K01) : Option (Bool) :=
 match p with
 | (s0,ty1,v2) =>
  ((
  (Khp (s0,ty1)) >>= fun a0 =>
  if a0 = true then
  (Ki9 (ty1,v2)) >>= fun a1 =>
  some (a1)
  else
  some (false)
  ) : Option (Bool)) >>= fun a2 =>
  some a2
def Kid (p : K00 × (List Int) × K01) (r : Bool) : Prop :=
 match p with
 | (s0,ty1,v2) => Q75 Tryz.prog 20 [K1a s0,sI ty1,K1c v2] (.bool r) []
theorem Kie : ∀ p r,Kic p = some r → Kid p r := by
 rintro ⟨s0,ty1,v2⟩ r h
 unfold Kic at h
 refine b0 Tryz.f20 B20 15 [(0,K1a s0),(1,sI ty1),(2,K1c v2)] fun c hc => ?_
 refine rs hc none [some (.new 1),some (.new 2),oN] [(1,sI ty1),(3,.ra 1 0),(5,.ra 2 0)] [(1,K19 s0),(2,K1b v2)] tv ?_
 refine sN ?_
 obtain ⟨a0,a1,h⟩ := Qds h
 refine Wp.into (x := .normal) (mkS [(6,.bool a0)] []) ?_ ?_
 ·replace h := a1
  obtain ⟨a2,a3,h⟩ := Qds h
  rcases is h with ⟨a4,h⟩ | ⟨a4,h⟩
  ·obtain ⟨a5,a6,h⟩ := Qds h
   refine rg hc none [oN,oN,oc (.bool a2),oN,oN,oN,oc (.bool a5),oT,oN] [(6,.bool a5)] [] (cq (Khr _ _ a3) K5e (ar 3 a4 (cq (Kib _ _ a6) K5h (ai a4 tv)))) ?_
   obtain rfl := os h
   exact Qde.mk
  refine rg hc none [oN,oN,oc (.bool a2),oN,o_,o_,o_,oF,oN] [(6,.bool false)] [] (cq (Khr _ _ a3) K5e (ar 3 (neT a4) (ai a4 tv))) ?_
  obtain rfl := os h
  exact Qde.mk
 clear a1
 refine rt ?_
 obtain rfl := os h
 exact rq [true]
def Kif (s0 : (List Int)) : Option ((List Int)) :=
 (Qe5 (([] : List Int).length + s0.length) 8) >>= fun _ =>
 some s0
def Kig (s0 : (List Int)) (r : (List Int)) : Prop :=
 Q75 Tryz.prog 88 [sI s0] (oI r) []
theorem Kih : ∀ p r,Kif p = some r → Kig p r := by
 rintro s0 r h
 unfold Kif at h
 refine b0 Tryz.f88 B88 8 [(0,sI s0)] fun c hc => ?_
 refine rs0 hc 1 [(0,sI s0)] [] ?_
 refine sN ?_
 refine rs0 hc 2 [(0,sI s0),(4,.nilq (List.map I s0))] [] ?_
 refine Wp.condNil (xs := List.map I s0) (by kernel_rfl) (by kernel_rfl) (fun hn => ?_) ?_
 ·replace hn := List.map_eq_nil_iff.1 hn
  replace h : (some []) = some r := by rw [hn] at h; simpa [Qe5,chk] using h
  refine rs0 hc 1 [(2,.nils)] [] ?_
  refine rt ?_
  obtain rfl := os h
  exact rq [true]
 refine sk ?_
 obtain ⟨_,a0,h⟩ := Qds h
 refine rs hc none [some (.mk 1 true),oN,some (.eqv (.mk 2 true) ⟨[(7,.rs 2)],[(2,some (rI s0)),(1,none)],[2]⟩),oN] [(2,.rs 2)] [(2,rI s0)] (ab (congrArg (fun z => (⟨[(7,.rs 2)],[(2,some (.arr z)),(1,none)],[2]⟩ : Wr)) (List.nil_append _ : [] ++ (List.map I s0) = List.map I s0)) (Qe6 (enc1 := I) (enc2 := I) (e1 := []) (e2 := s0) (sz := 1) Qef Qef a0) tv) ?_
 refine rt ?_
 obtain rfl := os h
 exact rq [true]
def Kii (c : Ctx) (t0 : K01) (a0 : List Int) : (List K01) → Exit → Q0a → Prop
 | a1 => Qde c (.exit 0) (mkS [(2,.ra 2 0),(3,.ra 4 0)] [(2,.box [I 0,I 0,.nils,.nils]),(3,rI a0),(4,.box [I t0.fOp,I t0.fN,.rs 3,.rs 10]),(10,.arr (List.map K09 a1))])
mutual
def Kij (t0 : K01) : Option (K01) :=
 (Kif t0.fType) >>= fun a0 =>
 (Kik (t0,a0,[],0)) >>= fun a1 =>
 some (K01.mk t0.fOp t0.fN a0 a1)
 partial_fixpoint
def Kik (p : K01 × (List Int) × (List K01) × Int) : Option ((List K01)) :=
 match p with
 | (t0,a0,a1,a2) =>
  if (decide (a2 < (t0.fKids.length : Int))) = true then
  (idx t0.fKids a2) >>= fun a3 =>
  (Kij a3) >>= fun a4 =>
  (Qe5 (a1.length + [a4].length) 64) >>= fun _ =>
  Kik (t0,a0,(a1 ++ [a4]),(wr (a2 + 1)))
  else
  some (a1)
 partial_fixpoint
end
def Kil (t0 : K01) (r : K01) : Prop :=
 Q75 Tryz.prog 131 [K1c t0] (K1h r) []
def Kim (p : K01 × (List Int) × (List K01) × Int) (fl : (List K01)) : Prop :=
 match p with
 | (t0,a0,a1,a2) => ∀ c : Ctx,c.nt = 30 → WpL Tryz.prog c (cl (cl (cr (cl (cr (cr K5m)))))) (Kii c t0 a0 fl) (mkS [(2,.ra 2 0),(3,.ra 4 0),(15,.sl (List.map K06 t0.fKids)),(16,I (t0.fKids.length : Int)),(17,I a2)] [(2,.box [I 0,I 0,.nils,.nils]),(3,rI a0),(4,.box [I t0.fOp,I t0.fN,.rs 3,.rs 10]),(10,.arr (List.map K09 a1))])
theorem Kin : (∀ p r,Kij p = some r → Kil p r) ∧ (∀ p r,Kik p = some r → Kim p r) := by
 refine Kij.mutual_partial_correctness Kil Kim ?_ ?_
 ·rintro impl_copyTerm_l0_f impl_copyTerm_l0_ih t0 r h
  refine b0 Tryz.f131 K5m 30 [(0,K1c t0)] fun c hc => ?_
  refine rs hc none [some (.new 1),some (.new 2)] [(1,.ra 1 0),(2,.ra 2 0)] [(1,K1b t0),(2,.box [I 0,I 0,.nils,.nils])] tv ?_
  obtain ⟨a0,a1,h⟩ := Qds h
  refine rs hc (rx [[0],[1],[0],[0,2],[0],[0,4],[0,4,5],[7],[0],[9]]) [oN,oN,oN,oN,oN,oN,some (.call (oI a0) [] 3),oN,some (.new 4),oN] [(1,.ra 1 0),(2,.ra 2 0),(3,.ra 4 0)] [(1,K1b t0),(2,.box [I 0,I 0,.nils,.nils]),(3,rI a0),(4,.box [I t0.fOp,I t0.fN,.rs 3,.nils])] (cq (Kih _ _ a1) K5l tv) ?_
  refine sN ?_
  refine rs hc none [oN,oN,some (.eqv (.no) ⟨[(16,I (t0.fKids.length : Int))],[],[]⟩),oN] [(2,.ra 2 0),(3,.ra 4 0),(15,.sl (List.map K06 t0.fKids)),(16,I (t0.fKids.length : Int)),(17,I 0)] [(2,.box [I 0,I 0,.nils,.nils]),(3,rI a0),(4,.box [I t0.fOp,I t0.fN,.rs 3,.nils])] (ai (Qdy (d := 16) K06 t0.fKids) tv) ?_
  refine bk 0 ?_
  obtain ⟨a2,a3,h⟩ := Qds h
  have hL := impl_copyTerm_l0_ih _ _ a3 c hc
  refine Wp.loopN (by kernel_rfl) (WpL.view (fun a w hv => SRx.renL [(10,21)] (SRx.nilBL 4 3 21 [I t0.fOp,I t0.fN,.rs 3,.nils] hv (by kernel_rfl) (by kernel_rfl) (by kernel_rfl)) (by kernel_rfl) (by kernel_rfl) (by kernel_rfl)) (?_ : WpL _ c _ _ (mkS [(2,.ra 2 0),(3,.ra 4 0),(15,.sl (List.map K06 t0.fKids)),(16,I (t0.fKids.length : Int)),(17,I 0)] [(2,.box [I 0,I 0,.nils,.nils]),(3,rI a0),(4,.box [I t0.fOp,I t0.fN,.rs 3,.rs 10]),(10,.arr (List.map K09 []))])))
  refine WpL.into (e := (.exit 0)) (mkS [(2,.ra 2 0),(3,.ra 4 0)] [(2,.box [I 0,I 0,.nils,.nils]),(3,rI a0),(4,.box [I t0.fOp,I t0.fN,.rs 3,.rs 10]),(10,.arr (List.map K09 a2))]) hL ?_
  refine Qd6 ?_
  refine rs0 hc 2 [(2,.ra 2 0)] [(2,.box [I t0.fOp,I t0.fN,.rs 3,.rs 10]),(3,rI a0),(10,.arr (List.map K09 a2))] ?_
  refine rt ?_
  obtain rfl := os h
  exact rq [true]
 ·rintro impl_copyTerm_f impl_copyTerm_l0_f impl_copyTerm_ih impl_copyTerm_l0_ih ⟨t0,a0,a4,a5⟩ r h
  intro c hc
  refine WpL.step ?_
  refine K7e hc 1 [(2,.ra 2 0),(3,.ra 4 0),(15,.sl (List.map K06 t0.fKids)),(16,I (t0.fKids.length : Int)),(17,I a5),(18,.bool (decide (a5 < (t0.fKids.length : Int))))] ?_
  refine sN ?_
  refine ic h (fun a6 h => ?_) fun a6 h => ?_
  ·refine sk ?_
   refine sN ?_
   refine bk 1 ?_
   obtain ⟨a7,a8,h⟩ := Qds h
   refine rs hc none [some (.el (K1c a7)),oN,some (.new 16),oN] [(2,.ra 2 0),(3,.ra 4 0),(5,.ra 16 0),(15,.sl (List.map K06 t0.fKids)),(16,I (t0.fKids.length : Int)),(17,I a5)] [(2,.box [I 0,I 0,.nils,.nils]),(3,rI a0),(4,.box [I t0.fOp,I t0.fN,.rs 3,.rs 10]),(10,.arr (List.map K09 a4)),(16,K1b a7)] (ai (Qdw a8 (K0d a7)) tv) ?_
   obtain ⟨a9,b1,_,b2,h⟩ := bq2 h
   refine rg hc (rx [[0],[1],[0],[0,2],[0,2,3],[5],[6],[7]]) [oN,oN,oN,some (.call (K1h a9) [] 17),some (.eqv (.mk 19 true) ⟨[(25,.rs 19)],[(19,some (.arr (List.map K09 [a9]))),(17,none),(18,none)],[19]⟩),some (.eqv (.mk 20 true) ⟨[(26,.rs 20)],[(20,some (.arr (List.map K09 (a4 ++ [a9])))),(10,none),(19,none)],[20]⟩),oN,oN] [(2,.ra 2 0),(3,.ra 4 0),(15,.sl (List.map K06 t0.fKids)),(16,I (t0.fKids.length : Int)),(17,I a5)] [(2,.box [I 0,I 0,.nils,.nils]),(3,rI a0),(4,.box [I t0.fOp,I t0.fN,.rs 3,.rs 20]),(20,.arr (List.map K09 (a4 ++ [a9])))] (cq (impl_copyTerm_ih _ _ b1) K5n (ac (congrArg (fun z => (⟨[(25,.rs 19)],[(19,some (.arr z)),(17,none),(18,none)],[19]⟩ : Wr)) ((Qez (K0f a9) Qey) : [AV.agg [I a9.fOp,I a9.fN,oI a9.fType,AV.osl (List.map K09 a9.fKids)]] = List.map K09 [a9])) (congrArg (fun z => (⟨[(26,.rs 20)],[(20,some (.arr z)),(10,none),(19,none)],[20]⟩ : Wr)) ((List.map_append).symm : (List.map K09 a4) ++ (List.map K09 [a9]) = List.map K09 (a4 ++ [a9]))) (Qe6 (enc1 := K09) (enc2 := K09) (e1 := a4) (e2 := [a9]) (sz := 4) K0y K0y b2) tv)) ?_
   refine K7d hc 2 [(2,.ra 2 0),(3,.ra 4 0),(15,.sl (List.map K06 t0.fKids)),(16,I (t0.fKids.length : Int)),(17,I (wr (a5 + 1)))] ?_
   refine Qda ?_
   exact WpL.view (fun a w hv => SRx.renL [(10,20)] hv (by kernel_rfl) (by kernel_rfl) (by kernel_rfl)) (impl_copyTerm_l0_ih _ _ h c hc)
  refine xt 0 ?_
  refine Qd4 ?_
  refine Qdb ?_
  obtain rfl := os h
  exact iv []
theorem Kio : ∀ p r,Kij p = some r → Kil p r := Kin.1
theorem Kip : ∀ p r,Kik p = some r → Kim p r := Kin.2
def Kiq (c : Ctx) : (Unit) ⊕ (Int) → Exit → Q0a → Prop
 | .inl _ => Qde c (.exit 0) (mkS [] [])
 | .inr r => Qdn TIx Tryz.f206 [] (I r)
def Kir (p : (List Int) × Int × Int) : Option ((Unit) ⊕ (Int)) :=
 match p with
 | (s0,v1,a0) =>
  if (decide (a0 < (s0.length : Int))) = true then
  (idx s0 a0) >>= fun a1 =>
  if (v1 == a1) = true then
  some (.inr a0)
  else
  Kir (s0,v1,(wr (a0 + 1)))
  else
  some (.inl ())
 partial_fixpoint
def Kis (p : (List Int) × Int × Int) (fl : (Unit) ⊕ (Int)) : Prop :=
 match p with
 | (s0,v1,a0) => ∀ c : Ctx,c.nt = 19 → WpL Tryz.prog c (cl (cl (cr (cl (cr K5p))))) (Kiq c fl) (mkS [(0,sI s0),(1,I v1),(7,I (s0.length : Int)),(8,I a0)] [])
theorem Kit : ∀ p r,Kir p = some r → Kis p r := by
 refine Kir.partial_correctness Kis ?_
 rintro slices_Index_int_l0_f slices_Index_int_l0_ih ⟨s0,v1,a0⟩ r h
 intro c hc
 refine WpL.step ?_
 refine rs0 hc 1 [(0,sI s0),(1,I v1),(7,I (s0.length : Int)),(8,I a0),(9,.bool (decide (a0 < (s0.length : Int))))] [] ?_
 refine sN ?_
 refine ic h (fun a1 h => ?_) fun a1 h => ?_
 ·refine sk ?_
  refine sN ?_
  refine bk 1 ?_
  refine rs0 hc 2 [(0,sI s0),(1,I v1),(5,I a0),(7,I (s0.length : Int)),(8,I a0)] [] ?_
  obtain ⟨a2,a3,h⟩ := Qds h
  refine rs hc none [oN,oN,oN,some (.el (I a2)),oN,oN] [(0,sI s0),(1,I v1),(5,I a0),(7,I (s0.length : Int)),(8,I a0),(16,.bool (v1 == a2))] [] (ai (ix a3) tv) ?_
  refine ic h (fun a4 h => ?_) fun a4 h => ?_
  ·refine rs0 hc 2 [(4,I a0)] [] ?_
   refine rt ?_
   obtain rfl := os h
   exact re [true]
  refine sk ?_
  refine rg0 hc 2 [(0,sI s0),(1,I v1),(7,I (s0.length : Int)),(8,I (wr (a0 + 1)))] [] ?_
  refine Qda ?_
  exact (slices_Index_int_l0_ih _ _ h c hc)
 refine xt 0 ?_
 refine Qd4 ?_
 refine Qdb ?_
 obtain rfl := os h
 exact iv []
def Kiu (p : (List Int) × Int) : Option (Int) :=
 match p with
 | (s0,v1) =>
  (Kir (s0,v1,0)) >>= fun fl => match fl with
  | .inl () =>
   some (-1)
  | .inr r =>
   some r
def Kiv (p : (List Int) × Int) (r : Int) : Prop :=
 match p with
 | (s0,v1) => Q75 Tryz.prog 206 [sI s0,I v1] (I r) []
theorem Kiw : ∀ p r,Kiu p = some r → Kiv p r := by
 rintro ⟨s0,v1⟩ r h
 unfold Kiu at h
 refine b0 Tryz.f206 K5p 19 [(0,sI s0),(1,I v1)] fun c hc => ?_
 refine rs0 hc 1 [(0,sI s0),(1,I v1)] [] ?_
 refine sN ?_
 refine rs hc none [oN,some (.eqv (.no) ⟨[(7,I (s0.length : Int))],[],[]⟩),oN] [(0,sI s0),(1,I v1),(7,I (s0.length : Int)),(8,I 0)] [] (ai (Qdy (d := 7) I s0) tv) ?_
 refine bk 0 ?_
 obtain ⟨fl,a0,h⟩ := Qds h
 have hL := Kit _ _ a0 c hc
 refine lp ?_
 rcases fl with ⟨⟩ | r
 ·refine WpL.into (e := (.exit 0)) (mkS [] []) hL ?_
  refine Qd6 ?_
  refine rs0 hc 1 [(4,I (-1))] [] ?_
  refine rt ?_
  obtain rfl := os h
  exact rq [true]
 refine WpL.mono hL ?_
 rintro _ _ ⟨rfl,hfin⟩
 obtain rfl := os h
 exact ⟨.inl rfl,hfin⟩
def Kix (p : (List Int) × Int) : Option (Bool) :=
 match p with
 | (s0,v1) =>
  (Kiu (s0,v1)) >>= fun a0 =>
  some (decide (a0 ≥ 0))
def Kiy (p : (List Int) × Int) (r : Bool) : Prop :=
 match p with
 | (s0,v1) => Q75 Tryz.prog 150 [sI s0,I v1] (.bool r) []
theorem Kiz : ∀ p r,Kix p = some r → Kiy p r := by
 rintro ⟨s0,v1⟩ r h
 unfold Kix at h
 refine b0 Tryz.f150 K5r 9 [(0,sI s0),(1,I v1)] fun c hc => ?_
 refine rs0 hc 1 [(0,sI s0),(1,I v1)] [] ?_
 obtain ⟨a0,a1,h⟩ := Qds h
 refine rs hc none [oN,oN,oc (I a0),oN,oN] [(4,.bool (decide (a0 ≥ 0)))] [] (cq (Kiw _ _ a1) K5q tv) ?_
 refine rt ?_
 obtain rfl := os h
 exact rq [true]
def Kj0 : Option (List (List Nat)) := rx [[0],[1],[2],[3],[0],[0,4],[0,4,5],[7],[8],[9],[10]]
def Kj1 : Option (List (List Nat)) := rx [[0],[0],[2],[3],[0],[0,4],[0,4,5],[7],[8],[9],[10],[11],[12],[13],[13],[15],[16],[13],[13],[13,18],[13,17,18,19],[13,17,18,19,20],[22],[23],[24]]
def Kj2 (ty0 : (List Int)) : Option (K01) :=
 (idx ty0 0) >>= fun a0 =>
 (Kgt a0) >>= fun (a1,a2) =>
 (Khw ty0) >>= fun a3 =>
 if (a1 == 1) = true then
 (idx a3 0) >>= fun a4 =>
 (Kj2 a4) >>= fun a5 =>
 (idx a3 1) >>= fun a6 =>
 (Kj2 a6) >>= fun a7 =>
 some (K01.mk 4 0 [] [a5,a7])
 else
 if (a1 == 2) = true then
 (idx a3 1) >>= fun a8 =>
 (Kif a8) >>= fun a9 =>
 (idx a3 0) >>= fun b1 =>
 (Kj2 b1) >>= fun b2 =>
 some (K01.mk 6 0 a9 [b2])
 else
 if (a1 == 3) = true then
 (idx a3 0) >>= fun b3 =>
 (Kif b3) >>= fun b4 =>
 (idx a3 1) >>= fun b5 =>
 (Kj2 b5) >>= fun b6 =>
 some (K01.mk 9 a2 b4 [b6])
 else
 if (a1 == 4) = true then
 (idx a3 0) >>= fun b7 =>
 (Kj2 b7) >>= fun b8 =>
 some (K01.mk 11 a2 [] [b8])
 else
 some (K01.mk 1 0 [] [])
 partial_fixpoint
def Kj3 (ty0 : (List Int)) (r : K01) : Prop :=
 Q75 Tryz.prog 77 [sI ty0] (K1h r) []
theorem Kj4 : ∀ p r,Kj2 p = some r → Kj3 p r := by
 refine Kj2.partial_correctness Kj3 ?_
 rintro impl_defaultOf_f impl_defaultOf_ih ty0 r h
 refine b0 Tryz.f77 B77 63 [(0,sI ty0)] fun c hc => ?_
 refine rs hc none [some (.new 1)] [(0,sI ty0),(2,.ra 1 0)] [(1,.box [I 0,I 0,.nils,.nils])] tv ?_
 obtain ⟨a0,a1,⟨a2,a3⟩,a4,h⟩ := bq2 h
 refine rss hc none [oN,some (.el (I a0)),oN,oc (.tup [I a2,I a3]),oN,oN,oN,oN,oN] [(0,sI ty0),(2,.ra 1 0),(3,I a2),(4,I a3)] (ai (ix a1) (cq (Kgv _ _ a4) K51 tv)) ?_
 obtain ⟨a5,a6,h⟩ := Qds h
 refine rs hc none [oN,some (.call (.osl (List.map K0n a5)) [] 2),oN] [(2,.ra 1 0),(3,I a2),(4,I a3),(5,.rs 2)] [(1,.box [I 0,I 0,.nils,.nils]),(2,.arr (List.map K0n a5))] (cq (Khy _ _ a6) K5g tv) ?_
 refine sN ?_
 refine K7e hc 1 [(2,.ra 1 0),(4,I a3),(5,.rs 2),(15,I a2)] ?_
 refine bk 0 ?_
 refine K7e hc 2 [(2,.ra 1 0),(4,I a3),(5,.rs 2),(15,I a2),(16,.bool (a2 == 1))] ?_
 refine ic h (fun a7 h => ?_) fun a7 h => ?_
 ·obtain ⟨a8,a9,b1,b2,b3,b4,b5,b6,h⟩ := bq4 h
  refine rs hc Kj0 [oN,oN,some (.el (sI a8)),some (.call (K1h b1) [] 3),oN,oN,some (.el (sI b3)),some (.call (K1h b5) [] 5),some (.eqv (.mk 7 true) ⟨[(26,.rs 7)],[(7,some (.arr (List.map K09 [b1,b5]))),(3,none),(4,none),(5,none),(6,none)],[7]⟩),oN,oN] [(2,.ra 1 0)] [(1,.box [I 4,I 0,.nils,.rs 7]),(7,.arr (List.map K09 [b1,b5]))] (ab (Qdx (enc := K0n) a9) (xL a9).2 (cq (impl_defaultOf_ih _ _ b2) K5t (ab (Qdx (enc := K0n) b4) (xL b4).2 (cq (impl_defaultOf_ih _ _ b6) K5t (ai (congrArg (fun z => (⟨[(26,.rs 7)],[(7,some (.arr z)),(3,none),(4,none),(5,none),(6,none)],[7]⟩ : Wr)) ((Qez (K0f b1) (Qez (K0f b5) Qey)) : [AV.agg [I b1.fOp,I b1.fN,oI b1.fType,AV.osl (List.map K09 b1.fKids)],AV.agg [I b5.fOp,I b5.fN,oI b5.fType,AV.osl (List.map K09 b5.fKids)]] = List.map K09 [b1,b5])) tv))))) ?_
  refine rt ?_
  obtain rfl := os h
  exact rq [true]
 refine K7e hc 2 [(2,.ra 1 0),(4,I a3),(5,.rs 2),(15,I a2),(28,.bool (a2 == 2))] ?_
 refine ic h (fun b7 h => ?_) fun b7 h => ?_
 ·obtain ⟨b8,b9,c0,c1,c2,c3,c4,c5,h⟩ := bq4 h
  refine rs hc Kj0 [oN,oN,some (.el (sI b8)),some (.call (oI c0) [] 8),oN,oN,some (.el (sI c2)),some (.call (K1h c4) [] 9),some (.eqv (.mk 11 true) ⟨[(38,.rs 11)],[(11,some (.arr (List.map K09 [c4]))),(9,none),(10,none)],[11]⟩),oN,oN] [(2,.ra 1 0)] [(1,.box [I 6,I 0,.rs 8,.rs 11]),(8,rI c0),(11,.arr (List.map K09 [c4]))] (ab (Qdx (enc := K0n) b9) (xL b9).2 (cq (Kih _ _ c1) K5l (ab (Qdx (enc := K0n) c3) (xL c3).2 (cq (impl_defaultOf_ih _ _ c5) K5t (ai (congrArg (fun z => (⟨[(38,.rs 11)],[(11,some (.arr z)),(9,none),(10,none)],[11]⟩ : Wr)) ((Qez (K0f c4) Qey) : [AV.agg [I c4.fOp,I c4.fN,oI c4.fType,AV.osl (List.map K09 c4.fKids)]] = List.map K09 [c4])) tv))))) ?_
  refine rt ?_
  obtain rfl := os h
  exact rq [true]
 refine K7e hc 2 [(2,.ra 1 0),(4,I a3),(5,.rs 2),(15,I a2),(40,.bool (a2 == 3))] ?_
 refine ic h (fun c6 h => ?_) fun c6 h => ?_
 ·obtain ⟨c7,c8,c9,d0,d1,d2,d3,d4,h⟩ := bq4 h
  refine rs hc (rx [[0],[0],[0,1],[0,1,2],[0,1,2,3],[0],[0,5],[0,5,6],[0,1,2,3,4,5,6,7],[0,1,2,3,4,5,6,7,8],[10],[11]]) [oN,oN,oN,some (.el (sI c7)),some (.call (oI c9) [] 12),oN,oN,some (.el (sI d1)),some (.call (K1h d3) [] 13),some (.eqv (.mk 15 true) ⟨[(51,.rs 15)],[(15,some (.arr (List.map K09 [d3]))),(13,none),(14,none)],[15]⟩),oN,oN] [(2,.ra 1 0)] [(1,.box [I 9,I a3,.rs 12,.rs 15]),(12,rI c9),(15,.arr (List.map K09 [d3]))] (ab (Qdx (enc := K0n) c8) (xL c8).2 (cq (Kih _ _ d0) K5l (ab (Qdx (enc := K0n) d2) (xL d2).2 (cq (impl_defaultOf_ih _ _ d4) K5t (ai (congrArg (fun z => (⟨[(51,.rs 15)],[(15,some (.arr z)),(13,none),(14,none)],[15]⟩ : Wr)) ((Qez (K0f d3) Qey) : [AV.agg [I d3.fOp,I d3.fN,oI d3.fType,AV.osl (List.map K09 d3.fKids)]] = List.map K09 [d3])) tv))))) ?_
  refine rt ?_
  obtain rfl := os h
  exact rq [true]
 refine K7e hc 2 [(2,.ra 1 0),(4,I a3),(5,.rs 2),(53,.bool (a2 == 4))] ?_
 refine ic h (fun d5 h => ?_) fun d5 h => ?_
 ·obtain ⟨d6,d7,d8,d9,h⟩ := bq2 h
  refine rs hc none [oN,oN,oN,some (.el (sI d6)),some (.call (K1h d8) [] 16),some (.eqv (.mk 18 true) ⟨[(60,.rs 18)],[(18,some (.arr (List.map K09 [d8]))),(16,none),(17,none)],[18]⟩),oN,oN] [(2,.ra 1 0)] [(1,.box [I 11,I a3,.nils,.rs 18]),(18,.arr (List.map K09 [d8]))] (ab (Qdx (enc := K0n) d7) (xL d7).2 (cq (impl_defaultOf_ih _ _ d9) K5t (ai (congrArg (fun z => (⟨[(60,.rs 18)],[(18,some (.arr z)),(16,none),(17,none)],[18]⟩ : Wr)) ((Qez (K0f d8) Qey) : [AV.agg [I d8.fOp,I d8.fN,oI d8.fType,AV.osl (List.map K09 d8.fKids)]] = List.map K09 [d8])) tv))) ?_
  refine rt ?_
  obtain rfl := os h
  exact rq [true]
 refine sk ?_
 refine rs0 hc 2 [(2,.ra 1 0)] [(1,.box [I 1,I 0,.nils,.nils])] ?_
 refine rt ?_
 obtain rfl := os h
 exact rq [true]
def Kj5 (p : (List Int) × (List Int) × K01) : Option (K01) :=
 match p with
 | (view0,ty1,v2) =>
  (idx ty1 0) >>= fun a0 =>
  (Kgt a0) >>= fun (a1,a2) =>
  (Khw ty1) >>= fun a3 =>
  (Kij v2) >>= fun a4 =>
  ((
  if (a1 == 1) = true then
  (idx a3 0) >>= fun a5 =>
  (idx v2.fKids 0) >>= fun a6 =>
  (Kj5 (view0,a5,a6)) >>= fun a7 =>
  (idx a3 1) >>= fun a8 =>
  (idx v2.fKids 1) >>= fun a9 =>
  (Kj5 (view0,a8,a9)) >>= fun b1 =>
  (idx a4.fKids 0) >>= fun b2 =>
  (idx (List.set a4.fKids (Int.toNat 0) a7) 1) >>= fun b3 =>
  some ((List.set (List.set a4.fKids (Int.toNat 0) a7) (Int.toNat 1) b1))
  else
  ((
  if (a1 == 2) = true then
  (idx a3 (wr (v2.fOp - 6))) >>= fun b4 =>
  (idx v2.fKids 0) >>= fun b5 =>
  (Kj5 (view0,b4,b5)) >>= fun b6 =>
  (idx a4.fKids 0) >>= fun b7 =>
  some ((List.set a4.fKids (Int.toNat 0) b6))
  else
  ((
  if (a1 == 4) = true then
  (Kix (view0,a2)) >>= fun b8 =>
  ((
  if b8 = true then
  (idx a3 0) >>= fun b9 =>
  (idx v2.fKids 0) >>= fun c0 =>
  (Kj5 (view0,b9,c0)) >>= fun c1 =>
  (idx a4.fKids 0) >>= fun c2 =>
  some ((List.set a4.fKids (Int.toNat 0) c1))
  else
  (idx a3 0) >>= fun c3 =>
  (Kj2 c3) >>= fun c4 =>
  (idx a4.fKids 0) >>= fun c5 =>
  some ((List.set a4.fKids (Int.toNat 0) c4))
  ) : Option ((List K01))) >>= fun c6 =>
  some (c6)
  else
  some (a4.fKids)
  ) : Option ((List K01))) >>= fun c7 =>
  some (c7)
  ) : Option ((List K01))) >>= fun c8 =>
  some (c8)
  ) : Option ((List K01))) >>= fun c9 =>
  some (K01.mk a4.fOp a4.fN a4.fType c9)
 partial_fixpoint
def Kj6 (p : (List Int) × (List Int) × K01) (r : K01) : Prop :=
 match p with
 | (view0,ty1,v2) => Q75 Tryz.prog 97 [sI view0,sI ty1,K1c v2] (K1h r) []
theorem Kj7 : ∀ p r,Kj5 p = some r → Kj6 p r := by
 refine Kj5.partial_correctness Kj6 ?_
 rintro impl_eraseValue_f impl_eraseValue_ih ⟨view0,ty1,v2⟩ r h
 refine b0 Tryz.f97 B97 91 [(0,sI view0),(1,sI ty1),(2,K1c v2)] fun c hc => ?_
 refine rs hc none [some (.new 1),some (.new 2)] [(0,sI view0),(1,sI ty1),(5,.ra 1 0),(6,.ra 2 0)] [(1,K1b v2),(2,.box [I 0,I 0,.nils,.nils])] tv ?_
 obtain ⟨a0,a1,⟨a2,a3⟩,a4,h⟩ := bq2 h
 refine rss hc none [oN,some (.el (I a0)),oN,oc (.tup [I a2,I a3]),oN,oN,oN,oN,oN] [(0,sI view0),(1,sI ty1),(5,.ra 1 0),(6,.ra 2 0),(7,I a2),(8,I a3)] (ai (ix a1) (cq (Kgv _ _ a4) K51 tv)) ?_
 obtain ⟨a5,a6,h⟩ := Qds h
 refine rs hc none [oN,some (.call (.osl (List.map K0n a5)) [] 3),oN] [(0,sI view0),(5,.ra 1 0),(6,.ra 2 0),(7,I a2),(8,I a3),(9,.rs 3)] [(1,K1b v2),(2,.box [I 0,I 0,.nils,.nils]),(3,.arr (List.map K0n a5))] (cq (Khy _ _ a6) K5g tv) ?_
 obtain ⟨a7,a8,h⟩ := Qds h
 refine rs hc none [oN,some (.call (K1h a7) [] 4),some (.new 6),oN] [(0,sI view0),(5,.ra 1 0),(6,.ra 2 0),(7,I a2),(8,I a3),(9,.rs 3),(10,.ra 6 0)] [(1,K1b v2),(2,.box [I 0,I 0,.nils,.nils]),(3,.arr (List.map K0n a5)),(4,rI a7.fType),(5,.arr (List.map K09 a7.fKids)),(6,.box [I a7.fOp,I a7.fN,.rs 4,.rs 5])] (cq (Kio _ _ a8) K5n tv) ?_
 refine sN ?_
 refine K7e hc 1 [(0,sI view0),(5,.ra 1 0),(6,.ra 2 0),(8,I a3),(9,.rs 3),(10,.ra 6 0),(22,I a2)] ?_
 refine bk 0 ?_
 refine K7e hc 2 [(0,sI view0),(5,.ra 1 0),(6,.ra 2 0),(8,I a3),(9,.rs 3),(10,.ra 6 0),(22,I a2),(23,.bool (a2 == 1))] ?_
 obtain ⟨a9,b1,h⟩ := Qds h
 refine Wp.into (x := .normal) (mkS [(6,.ra 2 0),(10,.ra 6 0)] [(2,.box [I 0,I 0,.nils,.nils]),(4,rI a7.fType),(5,.arr (List.map K09 a9)),(6,.box [I a7.fOp,I a7.fN,.rs 4,.rs 5])]) ?_ ?_
 ·replace h := b1
  refine ic h (fun b2 h => ?_) fun b2 h => ?_
  ·obtain ⟨b3,b4,b5,b6,b7,b8,b9,c0,h⟩ := bq4 h
   obtain ⟨c1,c2,c3,c4,c5,c6,c7,c8,h⟩ := bq4 h
   refine rg hc (rx [[0],[1],[0],[0,2],[0],[0],[0,5],[0,5,6],[0],[0,8],[0,8,9],[0,8,9,10],[0,4,5,6,7,8,9,10,11],[0],[0],[0,14],[0,14,15],[0],[0,17],[0,17,18],[0,17,18,19],[0,4,5,6,7,8,9,10,11,12,13,14,15,16,17,18,19,20],[2,4,5,6,7,8,9,10,11,12,13,14,15,16,17,18,19,20,21],[2,4,5,6,7,8,9,10,11,12,13,14,15,16,17,18,19,20,21,22],[24],[25]]) [oN,oN,oN,oN,oN,oN,oN,some (.el (sI b3)),oN,oN,some (.el (K1c b5)),oN,some (.call (K1h b7) [] 7),oN,oN,oN,some (.el (sI b9)),oN,oN,some (.el (K1c c1)),oN,some (.call (K1h c3) [] 9),oN,some (.eqv (.mk 0 true) ⟨[],[(5,some (.arr (List.map K09 (List.set a7.fKids (Int.toNat 0) b7)))),(7,none),(8,none)],[]⟩),oN,some (.eqv (.mk 0 true) ⟨[],[(5,some (.arr (List.map K09 (List.set (List.set a7.fKids (Int.toNat 0) b7) (Int.toNat 1) c3)))),(9,none),(10,none)],[]⟩)] [(6,.ra 2 0),(10,.ra 6 0)] [(2,.box [I 0,I 0,.nils,.nils]),(4,rI a7.fType),(5,.arr (List.map K09 (List.set (List.set a7.fKids (Int.toNat 0) b7) (Int.toNat 1) c3))),(6,.box [I a7.fOp,I a7.fN,.rs 4,.rs 5])] (ac (Qdx (enc := K0n) b4) (xL b4).2 (Qdw b6 (K0d b5)) (cq (impl_eraseValue_ih _ _ b8) K5o (ac (Qdx (enc := K0n) c0) (xL c0).2 (Qdw c2 (K0d c1)) (cq (impl_eraseValue_ih _ _ c4) K5o (ad (Qdx (enc := K09) c6) (congrArg (fun z => (⟨[],[(5,some (.arr z)),(7,none),(8,none)],[]⟩ : Wr)) (Qev (enc := K09) (i := Int.toNat 0) (l := a7.fKids) (v := b7) (x := AV.agg [I b7.fOp,I b7.fN,oI b7.fType,AV.osl (List.map K09 b7.fKids)]) (K0f b7))) (Qew (enc := K09) (sz := 4) K0x c6) (Qdx (enc := K09) c8) (ab (congrArg (fun z => (⟨[],[(5,some (.arr z)),(9,none),(10,none)],[]⟩ : Wr)) (Qev (enc := K09) (i := Int.toNat 1) (l := (List.set a7.fKids (Int.toNat 0) b7)) (v := c3) (x := AV.agg [I c3.fOp,I c3.fN,oI c3.fType,AV.osl (List.map K09 c3.fKids)]) (K0f c3))) (Qew (enc := K09) (sz := 4) K0x c8) tv)))))) ?_
   obtain rfl := os h
   exact Qde.mk
  refine K7e hc 2 [(0,sI view0),(5,.ra 1 0),(6,.ra 2 0),(8,I a3),(9,.rs 3),(10,.ra 6 0),(22,I a2),(49,.bool (a2 == 2))] ?_
  obtain ⟨c9,d0,h⟩ := Qds h
  refine Wp.into (x := .normal) (mkS [(6,.ra 2 0),(10,.ra 6 0)] [(2,.box [I 0,I 0,.nils,.nils]),(4,rI a7.fType),(5,.arr (List.map K09 c9)),(6,.box [I a7.fOp,I a7.fN,.rs 4,.rs 5])]) ?_ ?_
  ·replace h := d0
   refine ic h (fun d1 h => ?_) fun d1 h => ?_
   ·obtain ⟨d2,d3,d4,d5,d6,d7,d8,d9,h⟩ := bq4 h
    refine rg hc (rx [[0],[1],[0],[0],[0],[0,4],[0,4,5],[0,3,4,5,6],[0,3,4,5,6,7],[0],[0,9],[0,9,10],[0,9,10,11],[0,2,3,4,5,6,7,8,9,10,11,12],[14],[15]]) [oN,oN,oN,oN,oN,oN,oN,oN,some (.el (sI d2)),oN,oN,some (.el (K1c d4)),oN,some (.call (K1h d6) [] 11),oN,some (.eqv (.mk 0 true) ⟨[],[(5,some (.arr (List.map K09 (List.set a7.fKids (Int.toNat 0) d6)))),(11,none),(12,none)],[]⟩)] [(6,.ra 2 0),(10,.ra 6 0)] [(2,.box [I 0,I 0,.nils,.nils]),(4,rI a7.fType),(5,.arr (List.map K09 (List.set a7.fKids (Int.toNat 0) d6))),(6,.box [I a7.fOp,I a7.fN,.rs 4,.rs 5])] (ac (Qdx (enc := K0n) d3) (xL d3).2 (Qdw d5 (K0d d4)) (cq (impl_eraseValue_ih _ _ d7) K5o (ac (Qdx (enc := K09) d9) (congrArg (fun z => (⟨[],[(5,some (.arr z)),(11,none),(12,none)],[]⟩ : Wr)) (Qev (enc := K09) (i := Int.toNat 0) (l := a7.fKids) (v := d6) (x := AV.agg [I d6.fOp,I d6.fN,oI d6.fType,AV.osl (List.map K09 d6.fKids)]) (K0f d6))) (Qew (enc := K09) (sz := 4) K0x d9) tv))) ?_
    obtain rfl := os h
    exact Qde.mk
   refine K7e hc 2 [(0,sI view0),(5,.ra 1 0),(6,.ra 2 0),(8,I a3),(9,.rs 3),(10,.ra 6 0),(66,.bool (a2 == 4))] ?_
   obtain ⟨e0,e1,h⟩ := Qds h
   refine Wp.into (x := .normal) (mkS [(6,.ra 2 0),(10,.ra 6 0)] [(2,.box [I 0,I 0,.nils,.nils]),(4,rI a7.fType),(5,.arr (List.map K09 e0)),(6,.box [I a7.fOp,I a7.fN,.rs 4,.rs 5])]) ?_ ?_
   ·replace h := e1
    refine ic h (fun e2 h => ?_) fun e2 h => ?_
    ·obtain ⟨e3,e4,h⟩ := Qds h
     refine rss hc none [oN,oN,oc (.bool e3)] [(0,sI view0),(5,.ra 1 0),(6,.ra 2 0),(9,.rs 3),(10,.ra 6 0),(70,.bool e3)] (cq (Kiz _ _ e4) K5s tv) ?_
     obtain ⟨e5,e6,h⟩ := Qds h
     refine Wp.into (x := .normal) (mkS [(6,.ra 2 0),(10,.ra 6 0)] [(2,.box [I 0,I 0,.nils,.nils]),(4,rI a7.fType),(5,.arr (List.map K09 e5)),(6,.box [I a7.fOp,I a7.fN,.rs 4,.rs 5])]) ?_ ?_
     ·replace h := e6
      refine ic h (fun e7 h => ?_) fun e7 h => ?_
      ·obtain ⟨e8,e9,f0,f1,f2,f3,f4,f5,h⟩ := bq4 h
       refine rg hc (rx [[0],[1],[0],[0],[0,3],[0,3,4],[0],[0,6],[0,6,7],[0,6,7,8],[0,2,3,4,5,6,7,8,9],[11],[12]]) [oN,oN,oN,oN,oN,some (.el (sI e8)),oN,oN,some (.el (K1c f0)),oN,some (.call (K1h f2) [] 13),oN,some (.eqv (.mk 0 true) ⟨[],[(5,some (.arr (List.map K09 (List.set a7.fKids (Int.toNat 0) f2)))),(13,none),(14,none)],[]⟩)] [(6,.ra 2 0),(10,.ra 6 0)] [(2,.box [I 0,I 0,.nils,.nils]),(4,rI a7.fType),(5,.arr (List.map K09 (List.set a7.fKids (Int.toNat 0) f2))),(6,.box [I a7.fOp,I a7.fN,.rs 4,.rs 5])] (ac (Qdx (enc := K0n) e9) (xL e9).2 (Qdw f1 (K0d f0)) (cq (impl_eraseValue_ih _ _ f3) K5o (ac (Qdx (enc := K09) f5) (congrArg (fun z => (⟨[],[(5,some (.arr z)),(13,none),(14,none)],[]⟩ : Wr)) (Qev (enc := K09) (i := Int.toNat 0) (l := a7.fKids) (v := f2) (x := AV.agg [I f2.fOp,I f2.fN,oI f2.fType,AV.osl (List.map K09 f2.fKids)]) (K0f f2))) (Qew (enc := K09) (sz := 4) K0x f5) tv))) ?_
       obtain rfl := os h
       exact Qde.mk
      obtain ⟨f6,f7,f8,f9,g0,g1,h⟩ := bq3 h
      refine rg hc (rx [[0],[1],[0],[0,2],[0,2,3],[0,2,3,4],[6],[7]]) [oN,oN,oN,oN,some (.el (sI f6)),some (.call (K1h f8) [] 15),oN,some (.eqv (.mk 0 true) ⟨[],[(5,some (.arr (List.map K09 (List.set a7.fKids (Int.toNat 0) f8)))),(15,none),(16,none)],[]⟩)] [(6,.ra 2 0),(10,.ra 6 0)] [(2,.box [I 0,I 0,.nils,.nils]),(4,rI a7.fType),(5,.arr (List.map K09 (List.set a7.fKids (Int.toNat 0) f8))),(6,.box [I a7.fOp,I a7.fN,.rs 4,.rs 5])] (ab (Qdx (enc := K0n) f7) (xL f7).2 (cq (Kj4 _ _ f9) K5t (ac (Qdx (enc := K09) g1) (congrArg (fun z => (⟨[],[(5,some (.arr z)),(15,none),(16,none)],[]⟩ : Wr)) (Qev (enc := K09) (i := Int.toNat 0) (l := a7.fKids) (v := f8) (x := AV.agg [I f8.fOp,I f8.fN,oI f8.fType,AV.osl (List.map K09 f8.fKids)]) (K0f f8))) (Qew (enc := K09) (sz := 4) K0x g1) tv))) ?_
      obtain rfl := os h
      exact Qde.mk
     clear e6
     obtain rfl := os h
     exact Qde.mk
    refine sk ?_
    obtain rfl := os h
    exact iv []
   clear e1
   obtain rfl := os h
   exact Qde.mk
  clear d0
  obtain rfl := os h
  exact Qde.mk
 clear b1
 refine rs0 hc 2 [(6,.ra 2 0)] [(2,.box [I a7.fOp,I a7.fN,.rs 4,.rs 5]),(4,rI a7.fType),(5,.arr (List.map K09 a9))] ?_
 refine rt ?_
 obtain rfl := os h
 exact rq [true]
def Kj8 (p : K00 × (List Int) × (List Int) × K01) : Option (K01 × Bool) :=
 match p with
 | (s0,view1,ty2,v3) =>
  ((
  (Kgq (s0,view1)) >>= fun a0 =>
  if a0 = true then
  (Kic (s0,ty2,v3)) >>= fun a1 =>
  some ((!a1))
  else
  some (true)
  ) : Option (Bool)) >>= fun a2 =>
  if a2 = true then
  some ((K01.mk 0 0 [] []),false)
  else
  (Kj5 (view1,ty2,v3)) >>= fun a3 =>
  some (a3,true)
def Kj9 (p : K00 × (List Int) × (List Int) × K01) (r : K01 × Bool) : Prop :=
 match p with
 | (s0,view1,ty2,v3) => Q75 Tryz.prog 30 [K1a s0,sI view1,sI ty2,K1c v3] (.tup [.agg [I r.1.fOp,I r.1.fN,.osl (List.map I r.1.fType),.osl (List.map K09 r.1.fKids)],.bool r.2]) []
theorem Kja : ∀ p r,Kj8 p = some r → Kj9 p r := by
 rintro ⟨s0,view1,ty2,v3⟩ r h
 unfold Kj8 at h
 refine b0 Tryz.f30 B30 26 [(0,K1a s0),(1,sI view1),(2,sI ty2),(3,K1c v3)] fun c hc => ?_
 refine rs hc none [some (.new 1),some (.new 2),some (.new 3),oN] [(1,sI view1),(2,sI ty2),(4,.ra 1 0),(7,.ra 2 0),(8,.ra 3 0)] [(1,K19 s0),(2,K1b v3),(3,.box [I 0,I 0,.nils,.nils])] tv ?_
 refine sN ?_
 refine sN ?_
 obtain ⟨a0,a1,h⟩ := Qds h
 refine Wp.into (x := .normal) (mkS [(1,sI view1),(2,sI ty2),(7,.ra 2 0),(8,.ra 3 0),(20,.bool a0)] [(2,K1b v3),(3,.box [I 0,I 0,.nils,.nils])]) ?_ ?_
 ·replace h := a1
  obtain ⟨a2,a3,h⟩ := Qds h
  rcases is h with ⟨a4,h⟩ | ⟨a4,h⟩
  ·obtain ⟨a5,a6,h⟩ := Qds h
   refine rg hc none [oN,oN,oc (.bool a2),oN,oN,oN,oN,oN,oc (.bool a5),oN,oF] [(1,sI view1),(2,sI ty2),(7,.ra 2 0),(8,.ra 3 0),(20,.bool (!a5))] [(2,K1b v3),(3,.box [I 0,I 0,.nils,.nils])] (cq (Kgs _ _ a3) K4z (ar 4 (nF a4) (cq (Kie _ _ a6) K5k (ar 2 (nF a4) tv)))) ?_
   obtain rfl := os h
   exact Qde.mk
  refine rg hc none [oN,oN,oc (.bool a2),oN,oN,o_,o_,o_,o_,o_,oT] [(1,sI view1),(2,sI ty2),(7,.ra 2 0),(8,.ra 3 0),(20,.bool true)] [(2,K1b v3),(3,.box [I 0,I 0,.nils,.nils])] (cq (Kgs _ _ a3) K4z (ar 5 (neF (nT a4)) (ai (nT a4) tv))) ?_
  obtain rfl := os h
  exact Qde.mk
 clear a1
 refine ic h (fun a7 h => ?_) fun a7 h => ?_
 ·refine rs0 hc 3 [(8,.ra 3 0),(9,.bool false)] [(3,.box [I 0,I 0,.nils,.nils])] ?_
  refine rt ?_
  obtain rfl := os h
  exact rq [true,true]
 refine sk ?_
 obtain ⟨a8,a9,h⟩ := Qds h
 refine rs hc none [oN,oN,oN,some (.call (K1h a8) [] 4),oN,oN] [(8,.ra 3 0),(9,.bool true)] [(3,.box [I a8.fOp,I a8.fN,.rs 4,.rs 5]),(4,rI a8.fType),(5,.arr (List.map K09 a8.fKids))] (cq (Kj7 _ _ a9) K5o tv) ?_
 refine rt ?_
 obtain rfl := os h
 exact rq [true,true]
def Kjb (c : Ctx) (s0 : K00) : ((List Bool)) ⊕ (Bool) → Exit → Q0a → Prop
 | .inl a0 => Qde c (.exit 0) (mkS [(2,.ra 1 0),(5,.rs 2)] [(1,K19 s0),(2,.arr (List.map AV.bool a0))])
 | .inr r => Qdn TIx Tryz.f93 [] (.bool r)
def Kjc (p : K00 × (List Int) × (List Bool) × Int) : Option (((List Bool)) ⊕ (Bool)) :=
 match p with
 | (s0,v1,a0,a1) =>
  if (decide (a1 < (v1.length : Int))) = true then
  ((
  (idx v1 a1) >>= fun a2 =>
  (K7w (a2,0,(wr (s0.fSize - 1)))) >>= fun a3 =>
  if a3 = true then
  if (decide (a1 > 0)) = true then
  (idx v1 a1) >>= fun a4 =>
  (idx v1 (wr (a1 - 1))) >>= fun a5 =>
  some ((decide (a4 ≤ a5)))
  else
  some (false)
  else
  some (true)
  ) : Option (Bool)) >>= fun a6 =>
  if a6 = true then
  some (.inr false)
  else
  (idx v1 a1) >>= fun a7 =>
  (idx a0 a7) >>= fun a8 =>
  Kjc (s0,v1,(List.set a0 (Int.toNat a7) true),(wr (a1 + 1)))
  else
  some (.inl a0)
 partial_fixpoint
def Kjd (p : K00 × (List Int) × (List Bool) × Int) (fl : ((List Bool)) ⊕ (Bool)) : Prop :=
 match p with
 | (s0,v1,a0,a1) => ∀ c : Ctx,c.nt = 53 → WpL Tryz.prog c (cl (cl (cr (cl (cr (cr (cr B93))))))) (Kjb c s0 fl) (mkS [(1,sI v1),(2,.ra 1 0),(5,.rs 2),(6,I a1)] [(1,K19 s0),(2,.arr (List.map AV.bool a0))])
theorem Kje : ∀ p r,Kjc p = some r → Kjd p r := by
 refine Kjc.partial_correctness Kjd ?_
 rintro spec_IsView_l0_f spec_IsView_l0_ih ⟨s0,v1,a0,a1⟩ r h
 intro c hc
 refine WpL.step ?_
 refine sN ?_
 refine rss hc none [oN,oN,some (.eqv (.no) ⟨[(15,I (v1.length : Int))],[],[]⟩),oN] [(1,sI v1),(2,.ra 1 0),(5,.rs 2),(6,I a1),(16,.bool (decide (a1 < (v1.length : Int))))] (ai (Qdy (d := 15) I v1) tv) ?_
 refine ic h (fun a2 h => ?_) fun a2 h => ?_
 ·refine sk ?_
  refine sN ?_
  refine bk 1 ?_
  refine sN ?_
  refine sN ?_
  obtain ⟨a3,a4,h⟩ := Qds h
  refine Wp.into (x := .normal) (mkS [(1,sI v1),(2,.ra 1 0),(5,.rs 2),(6,I a1),(43,.bool a3)] [(1,K19 s0),(2,.arr (List.map AV.bool a0))]) ?_ ?_
  ·replace h := a4
   obtain ⟨a5,a6,a7,a8,h⟩ := bq2 h
   rcases is h with ⟨a9,h⟩ | ⟨a9,h⟩
   ·rcases is h with ⟨b1,h⟩ | ⟨b1,h⟩
    ·obtain ⟨b2,b3,b4,b5,h⟩ := bq2 h
     refine rgs hc Kj1 [oN,oN,some (.el (I a5)),oN,oN,oN,oN,oc (.bool a7),oN,oN,oN,oN,oN,oN,oN,some (.el (I b2)),oN,oN,oN,oN,some (.el (I b4)),oN,oN,oT,oF] [(1,sI v1),(2,.ra 1 0),(5,.rs 2),(6,I a1),(43,.bool (decide (b2 ≤ b4)))] (ai (ix a6) (cq (K7y _ _ a8) K27 (ar 3 (nF a9) (ar 3 b1 (ai (ix b3) (ar 5 b1 (ai (ix b5) (ar 2 b1 (ac (nF a9) b1 (nF a9) tv))))))))) ?_
     obtain rfl := os h
     exact Qde.mk
    refine rgs hc Kj1 [oN,oN,some (.el (I a5)),oN,oN,oN,oN,oc (.bool a7),oN,oN,oN,oN,oN,o_,o_,o_,o_,o_,o_,o_,o_,o_,o_,oF,oF] [(1,sI v1),(2,.ra 1 0),(5,.rs 2),(6,I a1),(43,.bool false)] (ai (ix a6) (cq (K7y _ _ a8) K27 (ar 3 (nF a9) (ar 10 (neT b1) (ac (nF a9) b1 (nF a9) tv))))) ?_
    obtain rfl := os h
    exact Qde.mk
   refine rgs hc Kj1 [oN,oN,some (.el (I a5)),oN,oN,oN,oN,oc (.bool a7),oN,oN,o_,o_,o_,o_,o_,o_,o_,o_,o_,o_,o_,o_,o_,o_,oT] [(1,sI v1),(2,.ra 1 0),(5,.rs 2),(6,I a1),(43,.bool true)] (ai (ix a6) (cq (K7y _ _ a8) K27 (ar 4 (neF (nT a9)) (ai (nT a9) tv)))) ?_
   obtain rfl := os h
   exact Qde.mk
  clear a4
  refine ic h (fun b6 h => ?_) fun b6 h => ?_
  ·refine rs0 hc 1 [(4,.bool false)] [] ?_
   refine rt ?_
   obtain rfl := os h
   exact re [true]
  refine sk ?_
  obtain ⟨b7,b8,b9,c0,h⟩ := bq2 h
  refine rg hc none [oN,oN,oN,some (.el (I b7)),oN,oN,some (.eqv (.mk 0 true) ⟨[],[(2,some (.arr (List.map AV.bool (List.set a0 (Int.toNat b7) true))))],[]⟩)] [(1,sI v1),(2,.ra 1 0),(5,.rs 2),(6,I a1)] [(1,K19 s0),(2,.arr (List.map AV.bool (List.set a0 (Int.toNat b7) true)))] (ad (ix b8) (Qdx (enc := AV.bool) c0) (congrArg (fun z => (⟨[],[(2,some (.arr z))],[]⟩ : Wr)) (Qev (enc := AV.bool) (i := Int.toNat b7) (l := a0) (v := true) (x := AV.bool true) (Qe9 true))) (Qew (enc := AV.bool) (sz := 1) Qed c0) tv) ?_
  refine K7d hc 3 [(1,sI v1),(2,.ra 1 0),(5,.rs 2),(6,I (wr (a1 + 1)))] ?_
  refine Qda ?_
  exact (spec_IsView_l0_ih _ _ h c hc)
 refine xt 0 ?_
 refine Qd4 ?_
 refine Qdb ?_
 obtain rfl := os h
 exact iv []
def Kjf (p : K00 × (List Int)) : Option (Bool) :=
 match p with
 | (s0,v1) =>
  (Kaf s0) >>= fun a0 =>
  if a0 = true then
  (chk (0 ≤ s0.fSize ∧ (Int.toNat s0.fSize) * 1 ≤ 140737488355328)) >>= fun _ =>
  (Kjc (s0,v1,(List.replicate (Int.toNat s0.fSize) false),0)) >>= fun fl => match fl with
  | .inl a1 =>
   (Kdc (s0,a1)) >>= fun a2 =>
   some a2
  | .inr r =>
   some r
  else
  some false
def Kjg (p : K00 × (List Int)) (r : Bool) : Prop :=
 match p with
 | (s0,v1) => Q75 Tryz.prog 93 [K1a s0,sI v1] (.bool r) []
theorem Kjh : ∀ p r,Kjf p = some r → Kjg p r := by
 rintro ⟨s0,v1⟩ r h
 unfold Kjf at h
 refine b0 Tryz.f93 B93 53 [(0,K1a s0),(1,sI v1)] fun c hc => ?_
 refine rs hc none [some (.new 1),oN] [(1,sI v1),(2,.ra 1 0)] [(1,K19 s0)] tv ?_
 refine sN ?_
 obtain ⟨a0,a1,h⟩ := Qds h
 refine rss hc none [oN,oc (.bool a0),oN] [(1,sI v1),(2,.ra 1 0),(9,.bool (!a0))] (cq (Kah _ _ a1) K2z tv) ?_
 rcases is h with ⟨a2,h⟩ | ⟨a2,h⟩
 ·refine cF (!a0) (nF a2) ?_
  refine sk ?_
  obtain ⟨_,a3,h⟩ := Qds h
  refine rs hc none [oN,oN,some (.eqv (.mk 2 true) ⟨[(12,.rs 2)],[(2,some (.arr (List.map AV.bool (List.replicate (Int.toNat s0.fSize) false))))],[2]⟩),oN] [(1,sI v1),(2,.ra 1 0),(5,.rs 2)] [(1,K19 s0),(2,.arr (List.map AV.bool (List.replicate (Int.toNat s0.fSize) false)))] (ab (congrArg (fun z => (⟨[(12,.rs 2)],[(2,some (.arr z))],[2]⟩ : Wr)) (Qex (enc := AV.bool) (n := Int.toNat s0.fSize) (x := AV.bool false) (Qe9 false))) (And.intro (Eq.refl s0.fSize) (Qdu a3)) tv) ?_
  refine sN ?_
  refine K7e hc 1 [(1,sI v1),(2,.ra 1 0),(5,.rs 2),(6,I 0)] ?_
  refine bk 0 ?_
  obtain ⟨fl,a4,h⟩ := Qds h
  have hL := Kje _ _ a4 c hc
  refine lp ?_
  rcases fl with a5 | r
  ·refine WpL.into (e := (.exit 0)) (mkS [(2,.ra 1 0),(5,.rs 2)] [(1,K19 s0),(2,.arr (List.map AV.bool a5))]) hL ?_
   refine Qd6 ?_
   obtain ⟨a6,a7,h⟩ := Qds h
   refine rs hc none [oN,oN,oc (.bool a6),oN] [(4,.bool a6)] [] (ac (Q75.args (A1 := [K1a s0,.sl (Q02 (List.map AV.bool a5))]) (A2 := [K1a s0,sB a5]) (by simp only [List.map_nil,Qem]) (Kde _ _ a7)) K46 (Or.inr rfl : ([2] : List Nat) = [] ∨ noSh (.bool a6) = true) tv) ?_
   refine rt ?_
   obtain rfl := os h
   exact rq [true]
  refine WpL.mono hL ?_
  rintro _ _ ⟨rfl,hfin⟩
  obtain rfl := os h
  exact ⟨.inl rfl,hfin⟩
 refine cT (!a0) (nT a2) ?_
 refine rs0 hc 1 [(4,.bool false)] [] ?_
 refine rt ?_
 obtain rfl := os h
 exact rq [true]
def Kji (ty0 : (List Int)) : Option (Bool) :=
 ((
 if (decide ((ty0.length : Int) ≤ 40)) = true then
 (Kby (ty0,0)) >>= fun a0 =>
 if (a0 == (ty0.length : Int)) = true then
 some ((decide ((ty0.length : Int) > 0)))
 else
 some (false)
 else
 some (false)
 ) : Option (Bool)) >>= fun a1 =>
 some a1
def Kjj (ty0 : (List Int)) (r : Bool) : Prop :=
 Q75 Tryz.prog 81 [sI ty0] (.bool r) []
theorem Kjk : ∀ p r,Kji p = some r → Kjj p r := by
 rintro ty0 r h
 unfold Kji at h
 refine b0 Tryz.f81 B81 18 [(0,sI ty0)] fun c hc => ?_
 refine rs0 hc 1 [(0,sI ty0)] [] ?_
 refine sN ?_
 obtain ⟨a0,a1,h⟩ := Qds h
 refine Wp.into (x := .normal) (mkS [(2,.bool a0)] []) ?_ ?_
 ·replace h := a1
  rcases is h with ⟨a2,h⟩ | ⟨a2,h⟩
  ·obtain ⟨a3,a4,h⟩ := Qds h
   rcases is h with ⟨a5,h⟩ | ⟨a5,h⟩
   ·refine rg hc none [oN,some (.eqv (.no) ⟨[(4,I (ty0.length : Int))],[],[]⟩),oN,oN,oN,oc (I a3),oN,some (.eqv (.no) ⟨[(10,I (ty0.length : Int))],[],[]⟩),oN,oT,oN,oN,some (.eqv (.no) ⟨[(15,I (ty0.length : Int))],[],[]⟩),oN,oT,oN] [(2,.bool (decide ((ty0.length : Int) > 0)))] [] (ai (Qdy (d := 4) I ty0) (ar 2 a2 (cq (Kc0 _ _ a4) K3n (ar 2 a2 (ai (Qdy (d := 10) I ty0) (ar 2 a2 (ar 2 a5 (ai (Qdy (d := 15) I ty0) (ar 2 a5 tv))))))))) ?_
    obtain rfl := os h
    exact Qde.mk
   refine rg hc none [oN,some (.eqv (.no) ⟨[(4,I (ty0.length : Int))],[],[]⟩),oN,oN,oN,oc (I a3),oN,some (.eqv (.no) ⟨[(10,I (ty0.length : Int))],[],[]⟩),oN,oT,oN,o_,o_,o_,oF,oN] [(2,.bool false)] [] (ai (Qdy (d := 4) I ty0) (ar 2 a2 (cq (Kc0 _ _ a4) K3n (ar 2 a2 (ai (Qdy (d := 10) I ty0) (ar 2 a2 (ar 3 (neT a5) (ai a5 tv)))))))) ?_
   obtain rfl := os h
   exact Qde.mk
  refine rg hc none [oN,some (.eqv (.no) ⟨[(4,I (ty0.length : Int))],[],[]⟩),oN,oN,o_,o_,o_,o_,o_,oF,oN,o_,o_,o_,oF,oN] [(2,.bool false)] [] (ai (Qdy (d := 4) I ty0) (ar 5 (neT a2) (ai a2 (ar 3 (neT (rfl : false = false)) (ai (rfl : false = false) tv))))) ?_
  obtain rfl := os h
  exact Qde.mk
 clear a1
 refine rt ?_
 obtain rfl := os h
 exact rq [true]
def Kjl (c : Ctx) (ty0 : List Int) (size1 : Int) (closed2 : Bool) (a0 : Int) : (Unit) ⊕ (Bool) → Exit → Q0a → Prop
 | .inl _ => Qde c .normal (mkS [(0,sI ty0),(1,I size1),(2,.bool closed2),(7,I a0)] [])
 | .inr r => Qdn TIx Tryz.f82 [] (.bool r)
def Kjm (c : Ctx) : (Unit) ⊕ (Bool) → Exit → Q0a → Prop
 | .inl _ => Qde c (.exit 0) (mkS [] [])
 | .inr r => Qdn TIx Tryz.f82 [] (.bool r)
def Kjn (p : (List Int) × Int × Bool × Int) : Option ((Unit) ⊕ (Bool)) :=
 match p with
 | (ty0,size1,closed2,a0) =>
  if (decide (a0 < (ty0.length : Int))) = true then
  ((
   (idx ty0 a0) >>= fun a1 =>
   (Kbr a1) >>= fun a2 =>
   if (decide (a2 > 0)) = true then
   (idx ty0 a0) >>= fun a3 =>
   some ((decide (a3 > 2)))
   else
   some (false)
  ) : Option (Bool)) >>= fun a4 =>
  ((
   if a4 = true then
   (idx ty0 a0) >>= fun a5 =>
   (Kca a5) >>= fun a6 =>
   ((
   if (decide (a6 ≥ size1)) = true then
   some (true)
   else
   if closed2 = true then
   some ((decide (a6 < 0)))
   else
   some (false)
   ) : Option (Bool)) >>= fun a7 =>
   if a7 = true then
   some (.inr false)
   else
   some (.inl ())
   else
   some (.inl ())) : Option ((Unit) ⊕ (Bool))) >>= fun fl => match fl with
  | .inl () =>
   Kjn (ty0,size1,closed2,(wr (a0 + 1)))
  | .inr r =>
   some (.inr r)
  else
  some (.inl ())
 partial_fixpoint
def Kjo (p : (List Int) × Int × Bool × Int) (fl : (Unit) ⊕ (Bool)) : Prop :=
 match p with
 | (ty0,size1,closed2,a0) => ∀ c : Ctx,c.nt = 43 → WpL Tryz.prog c (cl (cl (cr (cl (cr B82))))) (Kjm c fl) (mkS [(0,sI ty0),(1,I size1),(2,.bool closed2),(7,I a0)] [])
theorem Kjp : ∀ p r,Kjn p = some r → Kjo p r := by
 refine Kjn.partial_correctness Kjo ?_
 rintro spec_l2Graded_l0_f spec_l2Graded_l0_ih ⟨ty0,size1,closed2,a0⟩ r h
 intro c hc
 refine WpL.step ?_
 refine sN ?_
 refine rs hc none [oN,oN,some (.eqv (.no) ⟨[(11,I (ty0.length : Int))],[],[]⟩),oN] [(0,sI ty0),(1,I size1),(2,.bool closed2),(7,I a0),(12,.bool (decide (a0 < (ty0.length : Int))))] [] (ai (Qdy (d := 11) I ty0) tv) ?_
 refine ic h (fun a1 h => ?_) fun a1 h => ?_
 ·refine sk ?_
  refine sN ?_
  refine bk 1 ?_
  refine sN ?_
  obtain ⟨a2,a3,h⟩ := Qds h
  refine Wp.into (x := .normal) (mkS [(0,sI ty0),(1,I size1),(2,.bool closed2),(7,I a0),(27,.bool a2)] []) ?_ ?_
  ·replace h := a3
   obtain ⟨a4,a5,a6,a7,h⟩ := bq2 h
   rcases is h with ⟨a8,h⟩ | ⟨a8,h⟩
   ·obtain ⟨a9,b1,h⟩ := Qds h
    refine rg hc none [oN,oN,some (.el (I a4)),oN,oc (I a6),oN,oN,oN,oN,some (.el (I a9)),oN,oN,oT] [(0,sI ty0),(1,I size1),(2,.bool closed2),(7,I a0),(27,.bool (decide (a9 > 2)))] [] (ai (ix a5) (cq (Kbt _ _ a7) K3l (ar 3 a8 (ai (ix b1) (ar 3 a8 tv))))) ?_
    obtain rfl := os h
    exact Qde.mk
   refine rg hc none [oN,oN,some (.el (I a4)),oN,oc (I a6),oN,oN,o_,o_,o_,o_,o_,oF] [(0,sI ty0),(1,I size1),(2,.bool closed2),(7,I a0),(27,.bool false)] [] (ai (ix a5) (cq (Kbt _ _ a7) K3l (ar 5 (neT a8) (ai a8 tv)))) ?_
   obtain rfl := os h
   exact Qde.mk
  clear a3
  obtain ⟨fl,b2,h⟩ := Qds h
  refine flw (Kjl c ty0 size1 closed2 a0 fl) ?_ (fun hF => ?_)
  ·replace h := b2
   refine ic h (fun b3 h => ?_) fun b3 h => ?_
   ·obtain ⟨b4,b5,b6,b7,h⟩ := bq2 h
    refine rs hc none [oN,oN,some (.el (I b4)),oN,oc (I b6),oN] [(0,sI ty0),(1,I size1),(2,.bool closed2),(7,I a0),(8,I b6)] [] (ai (ix b5) (cq (Kcc _ _ b7) K3w tv)) ?_
    refine sN ?_
    obtain ⟨b8,b9,h⟩ := Qds h
    refine Wp.into (x := .normal) (mkS [(0,sI ty0),(1,I size1),(2,.bool closed2),(7,I a0),(42,.bool b8)] []) ?_ ?_
    ·replace h := b9
     rcases is h with ⟨c0,h⟩ | ⟨c0,h⟩
     ·refine rg hc none [oN,oN,oN,oN,o_,o_,o_,o_,o_,oT] [(0,sI ty0),(1,I size1),(2,.bool closed2),(7,I a0),(42,.bool true)] [] (ar 3 (neF c0) (ai c0 tv)) ?_
      obtain rfl := os h
      exact Qde.mk
     rcases is h with ⟨c1,h⟩ | ⟨c1,h⟩
     ·refine rg hc none [oN,oN,oN,oN,oN,oN,oN,oN,oT,oF] [(0,sI ty0),(1,I size1),(2,.bool closed2),(7,I a0),(42,.bool (decide (b6 < 0)))] [] (ar 2 c0 (ar 2 c1 (ac c0 c1 c0 tv))) ?_
      obtain rfl := os h
      exact Qde.mk
     refine rg hc none [oN,oN,oN,oN,oN,oN,o_,o_,oF,oF] [(0,sI ty0),(1,I size1),(2,.bool closed2),(7,I a0),(42,.bool false)] [] (ar 2 c0 (ar 2 (neT c1) (ac c0 c1 c0 tv))) ?_
     obtain rfl := os h
     exact Qde.mk
    clear b9
    refine ic h (fun c2 h => ?_) fun c2 h => ?_
    ·refine rs0 hc 1 [(6,.bool false)] [] ?_
     refine rt ?_
     obtain rfl := os h
     exact re [true]
    refine sk ?_
    obtain rfl := os h
    exact iv []
   refine sk ?_
   obtain rfl := os h
   exact iv []
  rcases fl with ⟨⟩ | r
  ·refine Wp.into (x := .normal) (mkS [(0,sI ty0),(1,I size1),(2,.bool closed2),(7,I a0)] []) hF ?_
   refine rg0 hc 3 [(0,sI ty0),(1,I size1),(2,.bool closed2),(7,I (wr (a0 + 1)))] [] ?_
   refine Qda ?_
   exact (spec_l2Graded_l0_ih _ _ h c hc)
  refine Wp.mono hF ?_
  rintro _ _ ⟨rfl,hfin⟩
  obtain rfl := os h
  exact ⟨rfl,hfin⟩
 refine xt 0 ?_
 refine Qd4 ?_
 refine Qdb ?_
 obtain rfl := os h
 exact iv []
def Kjq (p : (List Int) × Int × Bool) : Option (Bool) :=
 match p with
 | (ty0,size1,closed2) =>
  (Kjn (ty0,size1,closed2,0)) >>= fun fl => match fl with
  | .inl () =>
   some true
  | .inr r =>
   some r
def Kjr (p : (List Int) × Int × Bool) (r : Bool) : Prop :=
 match p with
 | (ty0,size1,closed2) => Q75 Tryz.prog 82 [sI ty0,I size1,.bool closed2] (.bool r) []
theorem Kjs : ∀ p r,Kjq p = some r → Kjr p r := by
 rintro ⟨ty0,size1,closed2⟩ r h
 unfold Kjq at h
 refine b0 Tryz.f82 B82 43 [(0,sI ty0),(1,I size1),(2,.bool closed2)] fun c hc => ?_
 refine rs0 hc 1 [(0,sI ty0),(1,I size1),(2,.bool closed2)] [] ?_
 refine sN ?_
 refine rs0 hc 1 [(0,sI ty0),(1,I size1),(2,.bool closed2),(7,I 0)] [] ?_
 refine bk 0 ?_
 obtain ⟨fl,a0,h⟩ := Qds h
 have hL := Kjp _ _ a0 c hc
 refine lp ?_
 rcases fl with ⟨⟩ | r
 ·refine WpL.into (e := (.exit 0)) (mkS [] []) hL ?_
  refine Qd6 ?_
  refine rs0 hc 1 [(6,.bool true)] [] ?_
  refine rt ?_
  obtain rfl := os h
  exact rq [true]
 refine WpL.mono hL ?_
 rintro _ _ ⟨rfl,hfin⟩
 obtain rfl := os h
 exact ⟨.inl rfl,hfin⟩
def Kjt (p : K00 × (List Int)) : Option (Bool) :=
 match p with
 | (s0,ty1) =>
  ((
  (Kaf s0) >>= fun a0 =>
  if a0 = true then
  (Kji ty1) >>= fun a1 =>
  if a1 = true then
  (Kjq (ty1,s0.fSize,true)) >>= fun a2 =>
  some (a2)
  else
  some (false)
  else
  some (false)
  ) : Option (Bool)) >>= fun a3 =>
  some a3
def Kju (p : K00 × (List Int)) (r : Bool) : Prop :=
 match p with
 | (s0,ty1) => Q75 Tryz.prog 18 [K1a s0,sI ty1] (.bool r) []
theorem Kjv : ∀ p r,Kjt p = some r → Kju p r := by
 rintro ⟨s0,ty1⟩ r h
 unfold Kjt at h
 refine b0 Tryz.f18 B18 17 [(0,K1a s0),(1,sI ty1)] fun c hc => ?_
 refine rs hc none [some (.new 1),oN] [(1,sI ty1),(2,.ra 1 0)] [(1,K19 s0)] tv ?_
 refine sN ?_
 obtain ⟨a0,a1,h⟩ := Qds h
 refine Wp.into (x := .normal) (mkS [(4,.bool a0)] []) ?_ ?_
 ·replace h := a1
  obtain ⟨a2,a3,h⟩ := Qds h
  rcases is h with ⟨a4,h⟩ | ⟨a4,h⟩
  ·obtain ⟨a5,a6,h⟩ := Qds h
   rcases is h with ⟨a7,h⟩ | ⟨a7,h⟩
   ·obtain ⟨a8,a9,h⟩ := Qds h
    refine rg hc none [oN,oc (.bool a2),oN,oN,oc (.bool a5),oT,oN,oN,oN,oN,oc (.bool a8),oT,oN] [(4,.bool a8)] [] (cq (Kah _ _ a3) K2z (ar 2 a4 (cq (Kjk _ _ a6) K5w (ai a4 (ar 4 a7 (cq (Kjs _ _ a9) K5x (ai a7 tv))))))) ?_
    obtain rfl := os h
    exact Qde.mk
   refine rg hc none [oN,oc (.bool a2),oN,oN,oc (.bool a5),oT,oN,o_,o_,o_,o_,oF,oN] [(4,.bool false)] [] (cq (Kah _ _ a3) K2z (ar 2 a4 (cq (Kjk _ _ a6) K5w (ai a4 (ar 4 (neT a7) (ai a7 tv)))))) ?_
   obtain rfl := os h
   exact Qde.mk
  refine rg hc none [oN,oc (.bool a2),oN,o_,o_,oF,oN,o_,o_,o_,o_,oF,oN] [(4,.bool false)] [] (cq (Kah _ _ a3) K2z (ar 2 (neT a4) (ai a4 (ar 4 (neT (rfl : false = false)) (ai (rfl : false = false) tv))))) ?_
  obtain rfl := os h
  exact Qde.mk
 clear a1
 refine rt ?_
 obtain rfl := os h
 exact rq [true]
def Kjw (c : Ctx) : (Unit) ⊕ (Bool) → Exit → Q0a → Prop
 | .inl _ => Qde c (.exit 0) (mkS [] [])
 | .inr r => Qdn TIx Tryz.f181 [] (.bool r)
def Kjx (p : (List Int) × Int) : Option ((Unit) ⊕ (Bool)) :=
 match p with
 | (ty0,a0) =>
  if (decide (a0 < (ty0.length : Int))) = true then
  (idx ty0 a0) >>= fun a1 =>
  (Kbl a1) >>= fun a2 =>
  if a2 = true then
  some (.inr false)
  else
  Kjx (ty0,(wr (a0 + 1)))
  else
  some (.inl ())
 partial_fixpoint
def Kjy (p : (List Int) × Int) (fl : (Unit) ⊕ (Bool)) : Prop :=
 match p with
 | (ty0,a0) => ∀ c : Ctx,c.nt = 15 → WpL Tryz.prog c (cl (cl (cr (cl (cr K5z))))) (Kjw c fl) (mkS [(0,sI ty0),(3,I a0)] [])
theorem Kjz : ∀ p r,Kjx p = some r → Kjy p r := by
 refine Kjx.partial_correctness Kjy ?_
 rintro spec_l2Data_l0_f spec_l2Data_l0_ih ⟨ty0,a0⟩ r h
 intro c hc
 refine WpL.step ?_
 refine sN ?_
 refine rs hc none [oN,oN,some (.eqv (.no) ⟨[(6,I (ty0.length : Int))],[],[]⟩),oN] [(0,sI ty0),(3,I a0),(7,.bool (decide (a0 < (ty0.length : Int))))] [] (ai (Qdy (d := 6) I ty0) tv) ?_
 refine ic h (fun a1 h => ?_) fun a1 h => ?_
 ·refine sk ?_
  refine sN ?_
  refine bk 1 ?_
  obtain ⟨a2,a3,a4,a5,h⟩ := bq2 h
  refine rs hc none [oN,oN,some (.el (I a2)),oN,oc (.bool a4)] [(0,sI ty0),(3,I a0),(14,.bool a4)] [] (ai (ix a3) (cq (Kbn _ _ a5) K3h tv)) ?_
  refine ic h (fun a6 h => ?_) fun a6 h => ?_
  ·refine rs0 hc 1 [(2,.bool false)] [] ?_
   refine rt ?_
   obtain rfl := os h
   exact re [true]
  refine sk ?_
  refine rg0 hc 3 [(0,sI ty0),(3,I (wr (a0 + 1)))] [] ?_
  refine Qda ?_
  exact (spec_l2Data_l0_ih _ _ h c hc)
 refine xt 0 ?_
 refine Qd4 ?_
 refine Qdb ?_
 obtain rfl := os h
 exact iv []
def Kk0 (ty0 : (List Int)) : Option (Bool) :=
 (Kjx (ty0,0)) >>= fun fl => match fl with
 | .inl () =>
  some true
 | .inr r =>
  some r
def Kk1 (ty0 : (List Int)) (r : Bool) : Prop :=
 Q75 Tryz.prog 181 [sI ty0] (.bool r) []
theorem Kk2 : ∀ p r,Kk0 p = some r → Kk1 p r := by
 rintro ty0 r h
 unfold Kk0 at h
 refine b0 Tryz.f181 K5z 15 [(0,sI ty0)] fun c hc => ?_
 refine rs0 hc 1 [(0,sI ty0)] [] ?_
 refine sN ?_
 refine rs0 hc 1 [(0,sI ty0),(3,I 0)] [] ?_
 refine bk 0 ?_
 obtain ⟨fl,a0,h⟩ := Qds h
 have hL := Kjz _ _ a0 c hc
 refine lp ?_
 rcases fl with ⟨⟩ | r
 ·refine WpL.into (e := (.exit 0)) (mkS [] []) hL ?_
  refine Qd6 ?_
  refine rs0 hc 1 [(2,.bool true)] [] ?_
  refine rt ?_
  obtain rfl := os h
  exact rq [true]
 refine WpL.mono hL ?_
 rintro _ _ ⟨rfl,hfin⟩
 obtain rfl := os h
 exact ⟨.inl rfl,hfin⟩
def Kk3 (p : K00 × (List Int)) : Option (Bool) :=
 match p with
 | (s0,ty1) =>
  ((
  (Kjt (s0,ty1)) >>= fun a0 =>
  if a0 = true then
  (Kk0 ty1) >>= fun a1 =>
  some (a1)
  else
  some (false)
  ) : Option (Bool)) >>= fun a2 =>
  some a2
def Kk4 (p : K00 × (List Int)) (r : Bool) : Prop :=
 match p with
 | (s0,ty1) => Q75 Tryz.prog 101 [K1a s0,sI ty1] (.bool r) []
theorem Kk5 : ∀ p r,Kk3 p = some r → Kk4 p r := by
 rintro ⟨s0,ty1⟩ r h
 unfold Kk3 at h
 refine b0 Tryz.f101 K61 12 [(0,K1a s0),(1,sI ty1)] fun c hc => ?_
 refine rs hc none [some (.new 1),oN] [(1,sI ty1),(2,.ra 1 0)] [(1,K19 s0)] tv ?_
 refine sN ?_
 obtain ⟨a0,a1,h⟩ := Qds h
 refine Wp.into (x := .normal) (mkS [(4,.bool a0)] []) ?_ ?_
 ·replace h := a1
  obtain ⟨a2,a3,h⟩ := Qds h
  rcases is h with ⟨a4,h⟩ | ⟨a4,h⟩
  ·obtain ⟨a5,a6,h⟩ := Qds h
   refine rg hc none [oN,oN,oc (.bool a2),oN,oN,oc (.bool a5),oT,oN] [(4,.bool a5)] [] (cq (Kjv _ _ a3) K5y (ar 2 a4 (cq (Kk2 _ _ a6) K60 (ai a4 tv)))) ?_
   obtain rfl := os h
   exact Qde.mk
  refine rg hc none [oN,oN,oc (.bool a2),oN,o_,o_,oF,oN] [(4,.bool false)] [] (cq (Kjv _ _ a3) K5y (ar 2 (neT a4) (ai a4 tv))) ?_
  obtain rfl := os h
  exact Qde.mk
 clear a1
 refine rt ?_
 obtain rfl := os h
 exact rq [true]
def Kk6 (c : Ctx) : Int → Exit → Q0a → Prop
 | a0 => Qde c (.exit 0) (mkS [(1,I a0)] [])
mutual
def Kk7 (p : K01 × Int) : Option (Int) :=
 match p with
 | (t0,left1) =>
  (Kk8 (t0,(wr (left1 - 1)),0)) >>= fun a0 =>
  some a0
 partial_fixpoint
def Kk8 (p : K01 × Int × Int) : Option (Int) :=
 match p with
 | (t0,a0,a1) =>
  ((
  if (decide (a1 < (t0.fKids.length : Int))) = true then
  some ((decide (a0 ≥ 0)))
  else
  some (false)
  ) : Option (Bool)) >>= fun a2 =>
  if a2 = true then
  (idx t0.fKids a1) >>= fun a3 =>
  (Kk7 (a3,a0)) >>= fun a4 =>
  Kk8 (t0,a4,(wr (a1 + 1)))
  else
  some (a0)
 partial_fixpoint
end
def Kk9 (p : K01 × Int) (r : Int) : Prop :=
 match p with
 | (t0,left1) => Q75 Tryz.prog 113 [K1c t0,I left1] (I r) []
def Kka (p : K01 × Int × Int) (fl : Int) : Prop :=
 match p with
 | (t0,a0,a1) => ∀ c : Ctx,c.nt = 27 → WpL Tryz.prog c (cl (cl (cr (cl (cr (cr K63)))))) (Kk6 c fl) (mkS [(1,I a0),(2,.ra 1 0),(5,I a1)] [(1,K1b t0)])
theorem Kkb : (∀ p r,Kk7 p = some r → Kk9 p r) ∧ (∀ p r,Kk8 p = some r → Kka p r) := by
 refine Kk7.mutual_partial_correctness Kk9 Kka ?_ ?_
 ·rintro spec_l2Left_l0_f spec_l2Left_l0_ih ⟨t0,left1⟩ r h
  refine b0 Tryz.f113 K63 27 [(0,K1c t0),(1,I left1)] fun c hc => ?_
  refine rs hc none [some (.new 1),oN] [(1,I left1),(2,.ra 1 0)] [(1,K1b t0)] tv ?_
  refine K7e hc 3 [(1,I (wr (left1 - 1))),(2,.ra 1 0)] ?_
  refine sN ?_
  refine K7e hc 1 [(1,I (wr (left1 - 1))),(2,.ra 1 0),(5,I 0)] ?_
  refine bk 0 ?_
  obtain ⟨a0,a1,h⟩ := Qds h
  have hL := spec_l2Left_l0_ih _ _ a1 c hc
  refine lp ?_
  refine WpL.into (e := (.exit 0)) (mkS [(1,I a0)] []) hL ?_
  refine Qd6 ?_
  refine rs0 hc 2 [(4,I a0)] [] ?_
  refine rt ?_
  obtain rfl := os h
  exact rq [true]
 ·rintro spec_l2Left_f spec_l2Left_l0_f spec_l2Left_ih spec_l2Left_l0_ih ⟨t0,a2,a3⟩ r h
  intro c hc
  refine WpL.step ?_
  refine sN ?_
  refine sN ?_
  obtain ⟨a4,a5,h⟩ := Qds h
  refine Wp.into (x := .normal) (mkS [(1,I a2),(2,.ra 1 0),(5,I a3),(16,.bool a4)] [(1,K1b t0)]) ?_ ?_
  ·replace h := a5
   rcases is h with ⟨a6,h⟩ | ⟨a6,h⟩
   ·refine rgs hc none [oN,oN,oN,some (.eqv (.no) ⟨[(11,I (t0.fKids.length : Int))],[],[]⟩),oN,oN,oN,oN,oT] [(1,I a2),(2,.ra 1 0),(5,I a3),(16,.bool (decide (a2 ≥ 0)))] (ai (Qdy (d := 11) K06 t0.fKids) (ar 3 a6 tv)) ?_
    obtain rfl := os h
    exact Qde.mk
   refine rgs hc none [oN,oN,oN,some (.eqv (.no) ⟨[(11,I (t0.fKids.length : Int))],[],[]⟩),oN,oN,o_,o_,oF] [(1,I a2),(2,.ra 1 0),(5,I a3),(16,.bool false)] (ai (Qdy (d := 11) K06 t0.fKids) (ar 2 (neT a6) (ai a6 tv))) ?_
   obtain rfl := os h
   exact Qde.mk
  clear a5
  refine ic h (fun a7 h => ?_) fun a7 h => ?_
  ·refine sk ?_
   refine sN ?_
   refine bk 1 ?_
   obtain ⟨a8,a9,b1,b2,h⟩ := bq2 h
   refine rgs hc none [oN,oN,oN,some (.el (K1c a8)),oN,oN,oc (I b1),oN] [(1,I b1),(2,.ra 1 0),(5,I a3)] (ai (Qdw a9 (K0d a8)) (cq (spec_l2Left_ih _ _ b2) K64 tv)) ?_
   refine K7d hc 3 [(1,I b1),(2,.ra 1 0),(5,I (wr (a3 + 1)))] ?_
   refine Qda ?_
   exact (spec_l2Left_l0_ih _ _ h c hc)
  refine xt 0 ?_
  refine Qd4 ?_
  refine Qdb ?_
  obtain rfl := os h
  exact iv []
theorem Kkc : ∀ p r,Kk7 p = some r → Kk9 p r := Kkb.1
theorem Kkd : ∀ p r,Kk8 p = some r → Kka p r := Kkb.2
def Kke (op0 : Int) : Option (Int) :=
 (K7w (op0,0,12)) >>= fun a0 =>
 if a0 = true then
 (idx [0,0,2,3,2,2,1,1,3,1,2,1,2] op0) >>= fun a1 =>
 some a1
 else
 some (-1)
def Kkf (op0 : Int) (r : Int) : Prop :=
 Q75 Tryz.prog 227 [I op0] (I r) []
theorem Kkg : ∀ p r,Kke p = some r → Kkf p r := by
 rintro op0 r h
 unfold Kke at h
 refine b0 Tryz.f227 K65 10 [(0,I op0)] fun c hc => ?_
 refine rs0 hc 1 [(0,I op0)] [] ?_
 refine sN ?_
 obtain ⟨a0,a1,h⟩ := Qds h
 refine rs hc none [oN,oc (.bool a0),oN] [(0,I op0),(5,.bool (!a0))] [] (cq (K7y _ _ a1) K27 tv) ?_
 rcases is h with ⟨a2,h⟩ | ⟨a2,h⟩
 ·refine cF (!a0) (nF a2) ?_
  refine sk ?_
  obtain ⟨a3,a4,h⟩ := Qds h
  refine rs hc none [some (.mk 1 true),oN,oN,some (.el (I a3)),oN] [(2,I a3)] [] (ab (Qdx (enc := I) a4) (ix a4).2 tv) ?_
  refine rt ?_
  obtain rfl := os h
  exact rq [true]
 refine cT (!a0) (nT a2) ?_
 refine rs0 hc 1 [(2,I (-1))] [] ?_
 refine rt ?_
 obtain rfl := os h
 exact rq [true]
def Kkh : Option (List (List Nat)) := rx [[0],[1],[2],[3],[4],[5],[4],[4,6],[4,6,7],[4,6,7,8],[10],[11],[12],[13],[14],[13],[13,15],[13,15,16],[13,15,16,17],[19],[20],[21]]
def Kki : Option (List (List Nat)) := rx [[0],[1],[0],[0,2],[4],[5],[6],[7],[6],[6,8],[6,8,9],[6,8,9,10],[12],[13],[14]]
def Kkj : Option (List (List Nat)) := rx [[0],[1],[2],[3],[4],[5],[4],[4,6],[8],[9],[10],[11],[12],[11],[11,13],[11,13,14],[11,13,14,15],[17],[18],[19]]
def Kkk (op0 : Int) : Option (Bool) :=
 ((
 if (op0 == 5) = true then
 some (true)
 else
 if (op0 == 8) = true then
 some (true)
 else
 if (op0 == 9) = true then
 some (true)
 else
 if (op0 == 11) = true then
 some (true)
 else
 some ((op0 == 12))
 ) : Option (Bool)) >>= fun a0 =>
 some a0
def Kkl (op0 : Int) (r : Bool) : Prop :=
 Q75 Tryz.prog 225 [I op0] (.bool r) []
theorem Kkm : ∀ p r,Kkk p = some r → Kkl p r := by
 rintro op0 r h
 unfold Kkk at h
 refine b0 Tryz.f225 K67 21 [(0,I op0)] fun c hc => ?_
 refine rs0 hc 1 [(0,I op0)] [] ?_
 refine sN ?_
 obtain ⟨a0,a1,h⟩ := Qds h
 refine Wp.into (x := .normal) (mkS [(2,.bool a0)] []) ?_ ?_
 ·replace h := a1
  rcases is h with ⟨a2,h⟩ | ⟨a2,h⟩
  ·refine rg hc none [oN,oN,oN,o_,o_,oT,oN,o_,o_,oT,oN,o_,o_,oT,oN,o_,o_,oT,oN] [(2,.bool true)] [] (ar 2 (neF a2) (ai a2 (ar 2 nf (ai tt (ar 2 nf (ai tt (ar 2 nf (ai tt tv)))))))) ?_
   obtain rfl := os h
   exact Qde.mk
  rcases is h with ⟨a3,h⟩ | ⟨a3,h⟩
  ·refine rg hc none [oN,oN,oN,oN,oN,oF,oN,o_,o_,oT,oN,o_,o_,oT,oN,o_,o_,oT,oN] [(2,.bool true)] [] (ar 3 a2 (ar 2 (neF a3) (ai a3 (ar 2 nf (ai tt (ar 2 nf (ai tt tv))))))) ?_
   obtain rfl := os h
   exact Qde.mk
  rcases is h with ⟨a4,h⟩ | ⟨a4,h⟩
  ·refine rg hc none [oN,oN,oN,oN,oN,oF,oN,oN,oN,oF,oN,o_,o_,oT,oN,o_,o_,oT,oN] [(2,.bool true)] [] (ar 3 a2 (ar 3 a3 (ar 2 (neF a4) (ai a4 (ar 2 nf (ai tt tv)))))) ?_
   obtain rfl := os h
   exact Qde.mk
  rcases is h with ⟨a5,h⟩ | ⟨a5,h⟩
  ·refine rg hc none [oN,oN,oN,oN,oN,oF,oN,oN,oN,oF,oN,oN,oN,oF,oN,o_,o_,oT,oN] [(2,.bool true)] [] (ar 3 a2 (ar 3 a3 (ar 3 a4 (ar 2 (neF a5) (ai a5 tv))))) ?_
   obtain rfl := os h
   exact Qde.mk
  refine rg hc none [oN,oN,oN,oN,oN,oF,oN,oN,oN,oF,oN,oN,oN,oF,oN,oN,oN,oF,oN] [(2,.bool (op0 == 12))] [] (ar 3 a2 (ar 3 a3 (ar 3 a4 (ar 3 a5 tv)))) ?_
  obtain rfl := os h
  exact Qde.mk
 clear a1
 refine rt ?_
 obtain rfl := os h
 exact rq [true]
def Kkn (op0 : Int) : Option (Bool) :=
 ((
 if (op0 == 6) = true then
 some (true)
 else
 if (op0 == 7) = true then
 some (true)
 else
 some ((op0 == 9))
 ) : Option (Bool)) >>= fun a0 =>
 some a0
def Kko (op0 : Int) (r : Bool) : Prop :=
 Q75 Tryz.prog 228 [I op0] (.bool r) []
theorem Kkp : ∀ p r,Kkn p = some r → Kko p r := by
 rintro op0 r h
 unfold Kkn at h
 refine b0 Tryz.f228 K69 13 [(0,I op0)] fun c hc => ?_
 refine rs0 hc 1 [(0,I op0)] [] ?_
 refine sN ?_
 obtain ⟨a0,a1,h⟩ := Qds h
 refine Wp.into (x := .normal) (mkS [(2,.bool a0)] []) ?_ ?_
 ·replace h := a1
  rcases is h with ⟨a2,h⟩ | ⟨a2,h⟩
  ·refine rg hc none [oN,oN,oN,o_,o_,oT,oN,o_,o_,oT,oN] [(2,.bool true)] [] (ar 2 (neF a2) (ai a2 (ar 2 nf (ai tt tv)))) ?_
   obtain rfl := os h
   exact Qde.mk
  rcases is h with ⟨a3,h⟩ | ⟨a3,h⟩
  ·refine rg hc none [oN,oN,oN,oN,oN,oF,oN,o_,o_,oT,oN] [(2,.bool true)] [] (ar 3 a2 (ar 2 (neF a3) (ai a3 tv))) ?_
   obtain rfl := os h
   exact Qde.mk
  refine rg hc none [oN,oN,oN,oN,oN,oF,oN,oN,oN,oF,oN] [(2,.bool (op0 == 9))] [] (ar 3 a2 (ar 3 a3 tv)) ?_
  obtain rfl := os h
  exact Qde.mk
 clear a1
 refine rt ?_
 obtain rfl := os h
 exact rq [true]
def Kkq (c : Ctx) (t0 : K01) (size2 : Int) (closed3 : Bool) : (Unit) ⊕ (Bool) → Exit → Q0a → Prop
 | .inl _ => Qde c .normal (mkS [(2,I size2),(3,.bool closed3),(4,.ra 1 0)] [(1,K1b t0)])
 | .inr r => Qdn TIx Tryz.f190 [] (.bool r)
def Kkr (c : Ctx) (t0 : K01) (size2 : Int) (closed3 : Bool) : (Unit) ⊕ (Bool) → Exit → Q0a → Prop
 | .inl _ => Qde c .normal (mkS [(2,I size2),(3,.bool closed3),(4,.ra 1 0)] [(1,K1b t0)])
 | .inr r => Qdn TIx Tryz.f190 [] (.bool r)
def Kks (c : Ctx) (t0 : K01) (size2 : Int) (closed3 : Bool) : (Unit) ⊕ (Bool) → Exit → Q0a → Prop
 | .inl _ => Qde c .normal (mkS [(2,I size2),(3,.bool closed3),(4,.ra 1 0)] [(1,K1b t0)])
 | .inr r => Qdn TIx Tryz.f190 [] (.bool r)
def Kkt (p : K01 × Int × Int × Bool) : Option (Bool) :=
 match p with
 | (t0,n1,size2,closed3) =>
  (Kke t0.fOp) >>= fun a0 =>
  if ((t0.fKids.length : Int) != a0) = true then
  some false
  else
  ((
   if (t0.fOp == 0) = true then
   (K7w (t0.fN,0,(wr (n1 - 1)))) >>= fun a1 =>
   if a1 = true then
    some (.inl ())
   else
    some (.inr false)
   else
   ((
    if (t0.fOp == 1) = true then
    (K7w (t0.fN,0,2)) >>= fun a2 =>
    if a2 = true then
     some (.inl ())
    else
     some (.inr false)
    else
    (Kkk t0.fOp) >>= fun a3 =>
    ((
     if a3 = true then
     ((
     if (decide (t0.fN ≥ size2)) = true then
     some (true)
     else
     if (decide (t0.fN < (-1))) = true then
     some (true)
     else
     if closed3 = true then
     some ((decide (t0.fN < 0)))
     else
     some (false)
     ) : Option (Bool)) >>= fun a4 =>
     if a4 = true then
     some (.inr false)
     else
     some (.inl ())
     else
     if (t0.fN != 0) = true then
     some (.inr false)
     else
     some (.inl ())) : Option ((Unit) ⊕ (Bool))) >>= fun fl => match fl with
    | .inl () =>
     some (.inl ())
    | .inr r =>
     some (.inr r)) : Option ((Unit) ⊕ (Bool))) >>= fun fl => match fl with
   | .inl () =>
    some (.inl ())
   | .inr r =>
    some (.inr r)) : Option ((Unit) ⊕ (Bool))) >>= fun fl => match fl with
  | .inl () =>
   (Kkn t0.fOp) >>= fun a5 =>
   if a5 = true then
   ((
    (Kji t0.fType) >>= fun a6 =>
    if a6 = true then
    (Kjq (t0.fType,size2,closed3)) >>= fun a7 =>
    some (a7)
    else
    some (false)
   ) : Option (Bool)) >>= fun a8 =>
   some a8
   else
   some ((t0.fType.length : Int) == 0)
  | .inr r =>
   some r
def Kku (p : K01 × Int × Int × Bool) (r : Bool) : Prop :=
 match p with
 | (t0,n1,size2,closed3) => Q75 Tryz.prog 190 [K1c t0,I n1,I size2,.bool closed3] (.bool r) []
theorem Kkv : ∀ p r,Kkt p = some r → Kku p r := by
 rintro ⟨t0,n1,size2,closed3⟩ r h
 unfold Kkt at h
 refine b0 Tryz.f190 K6b 76 [(0,K1c t0),(1,I n1),(2,I size2),(3,.bool closed3)] fun c hc => ?_
 refine rs hc none [some (.new 1),oN] [(1,I n1),(2,I size2),(3,.bool closed3),(4,.ra 1 0)] [(1,K1b t0)] tv ?_
 refine sN ?_
 obtain ⟨a0,a1,h⟩ := Qds h
 refine rss hc (rx [[0],[1],[2],[0],[0,3],[0,3,4],[6]]) [oN,oN,some (.eqv (.no) ⟨[(11,I (t0.fKids.length : Int))],[],[]⟩),oN,oN,oc (I a0),oN] [(1,I n1),(2,I size2),(3,.bool closed3),(4,.ra 1 0),(15,.bool ((t0.fKids.length : Int) != a0))] (ai (Qdy (d := 11) K06 t0.fKids) (cq (Kkg _ _ a1) K66 tv)) ?_
 refine ic h (fun a2 h => ?_) fun a2 h => ?_
 ·refine rs0 hc 1 [(8,.bool false)] [] ?_
  refine rt ?_
  obtain rfl := os h
  exact rq [true]
 refine sk ?_
 refine sN ?_
 refine bk 0 ?_
 refine K7e hc 4 [(1,I n1),(2,I size2),(3,.bool closed3),(4,.ra 1 0),(19,.bool (t0.fOp == 0))] ?_
 obtain ⟨fl,a3,h⟩ := Qds h
 refine flw (Kks c t0 size2 closed3 fl) ?_ (fun hF => ?_)
 ·replace h := a3
  refine ic h (fun a4 h => ?_) fun a4 h => ?_
  ·obtain ⟨a5,a6,h⟩ := Qds h
   refine rss hc none [oN,oN,oN,oN,oc (.bool a5),oN] [(2,I size2),(3,.bool closed3),(4,.ra 1 0),(28,.bool (!a5))] (cq (K7y _ _ a6) K27 tv) ?_
   rcases is h with ⟨a7,h⟩ | ⟨a7,h⟩
   ·refine cF (!a5) (nF a7) ?_
    refine sk ?_
    obtain rfl := os h
    exact iv []
   refine cT (!a5) (nT a7) ?_
   refine rs0 hc 1 [(8,.bool false)] [] ?_
   refine rt ?_
   obtain rfl := os h
   exact re [true]
  refine K7e hc 4 [(2,I size2),(3,.bool closed3),(4,.ra 1 0),(29,.bool (t0.fOp == 1))] ?_
  obtain ⟨fl,a8,h⟩ := Qds h
  refine flw (Kkr c t0 size2 closed3 fl) ?_ (fun hF => ?_)
  ·replace h := a8
   refine ic h (fun a9 h => ?_) fun a9 h => ?_
   ·obtain ⟨b1,b2,h⟩ := Qds h
    refine rss hc none [oN,oN,oc (.bool b1),oN] [(2,I size2),(3,.bool closed3),(4,.ra 1 0),(36,.bool (!b1))] (cq (K7y _ _ b2) K27 tv) ?_
    rcases is h with ⟨b3,h⟩ | ⟨b3,h⟩
    ·refine cF (!b1) (nF b3) ?_
     refine sk ?_
     obtain rfl := os h
     exact iv []
    refine cT (!b1) (nT b3) ?_
    refine rs0 hc 1 [(8,.bool false)] [] ?_
    refine rt ?_
    obtain rfl := os h
    exact re [true]
   obtain ⟨b4,b5,h⟩ := Qds h
   refine rss hc none [oN,oN,oc (.bool b4),oN] [(2,I size2),(3,.bool closed3),(4,.ra 1 0),(37,.bool b4)] (cq (Kkm _ _ b5) K68 tv) ?_
   obtain ⟨fl,b6,h⟩ := Qds h
   refine flw (Kkq c t0 size2 closed3 fl) ?_ (fun hF => ?_)
   ·replace h := b6
    refine ic h (fun b7 h => ?_) fun b7 h => ?_
    ·refine sN ?_
     obtain ⟨b8,b9,h⟩ := Qds h
     refine Wp.into (x := .normal) (mkS [(2,I size2),(3,.bool closed3),(4,.ra 1 0),(57,.bool b8)] [(1,K1b t0)]) ?_ ?_
     ·replace h := b9
      rcases is h with ⟨c0,h⟩ | ⟨c0,h⟩
      ·refine rgs hc none [oN,oN,oN,oN,oN,o_,o_,o_,oT,oN,o_,o_,o_,o_,o_,o_,oT] [(2,I size2),(3,.bool closed3),(4,.ra 1 0),(57,.bool true)] (ar 3 (neF c0) (ai c0 (ar 3 nf (ai tt tv)))) ?_
       obtain rfl := os h
       exact Qde.mk
      rcases is h with ⟨c1,h⟩ | ⟨c1,h⟩
      ·refine rgs hc none [oN,oN,oN,oN,oN,oN,oN,oN,oF,oN,o_,o_,o_,o_,o_,o_,oT] [(2,I size2),(3,.bool closed3),(4,.ra 1 0),(57,.bool true)] (ar 4 c0 (ar 3 (neF c1) (ai c1 tv))) ?_
       obtain rfl := os h
       exact Qde.mk
      rcases is h with ⟨c2,h⟩ | ⟨c2,h⟩
      ·refine rgs hc none [oN,oN,oN,oN,oN,oN,oN,oN,oF,oN,oN,oN,oN,oN,oN,oT,oF] [(2,I size2),(3,.bool closed3),(4,.ra 1 0),(57,.bool (decide (t0.fN < 0)))] (ar 4 c0 (ar 2 c1 (ar 3 c2 (ac c1 c2 c1 tv)))) ?_
       obtain rfl := os h
       exact Qde.mk
      refine rgs hc none [oN,oN,oN,oN,oN,oN,oN,oN,oF,oN,oN,oN,o_,o_,o_,oF,oF] [(2,I size2),(3,.bool closed3),(4,.ra 1 0),(57,.bool false)] (ar 4 c0 (ar 2 c1 (ar 3 (neT c2) (ac c1 c2 c1 tv)))) ?_
      obtain rfl := os h
      exact Qde.mk
     clear b9
     refine ic h (fun c3 h => ?_) fun c3 h => ?_
     ·refine rs0 hc 1 [(8,.bool false)] [] ?_
      refine rt ?_
      obtain rfl := os h
      exact re [true]
     refine sk ?_
     obtain rfl := os h
     exact iv []
    refine K7e hc 3 [(2,I size2),(3,.bool closed3),(4,.ra 1 0),(18,.bool (t0.fN != 0))] ?_
    refine ic h (fun c4 h => ?_) fun c4 h => ?_
    ·refine rs0 hc 1 [(8,.bool false)] [] ?_
     refine rt ?_
     obtain rfl := os h
     exact re [true]
    refine sk ?_
    obtain rfl := os h
    exact iv []
   rcases fl with ⟨⟩ | r
   ·refine Wp.into (x := .normal) (mkS [(2,I size2),(3,.bool closed3),(4,.ra 1 0)] [(1,K1b t0)]) hF ?_
    obtain rfl := os h
    exact Qde.mk
   refine Wp.mono hF ?_
   rintro _ _ ⟨rfl,hfin⟩
   obtain rfl := os h
   exact ⟨rfl,hfin⟩
  rcases fl with ⟨⟩ | r
  ·refine Wp.into (x := .normal) (mkS [(2,I size2),(3,.bool closed3),(4,.ra 1 0)] [(1,K1b t0)]) hF ?_
   obtain rfl := os h
   exact Qde.mk
  refine Wp.mono hF ?_
  rintro _ _ ⟨rfl,hfin⟩
  obtain rfl := os h
  exact ⟨rfl,hfin⟩
 rcases fl with ⟨⟩ | r
 ·refine Wp.into (x := .normal) (mkS [(2,I size2),(3,.bool closed3),(4,.ra 1 0)] [(1,K1b t0)]) hF ?_
  refine sN ?_
  obtain ⟨c5,c6,h⟩ := Qds h
  refine rss hc none [oN,oN,oc (.bool c5),oN] [(2,I size2),(3,.bool closed3),(4,.ra 1 0),(61,.bool (!c5))] (cq (Kkp _ _ c6) K6a tv) ?_
  rcases is h with ⟨c7,h⟩ | ⟨c7,h⟩
  ·refine cF (!c5) (nF c7) ?_
   refine sk ?_
   refine sN ?_
   obtain ⟨c8,c9,h⟩ := Qds h
   refine Wp.into (x := .normal) (mkS [(8,.bool c8)] []) ?_ ?_
   ·replace h := c9
    obtain ⟨d0,d1,h⟩ := Qds h
    rcases is h with ⟨d2,h⟩ | ⟨d2,h⟩
    ·obtain ⟨d3,d4,h⟩ := Qds h
     refine rg hc none [oN,oN,oc (.bool d0),oN,oN,oN,oN,oN,oc (.bool d3),oT,oN] [(8,.bool d3)] [] (cq (Kjk _ _ d1) K5w (ar 5 d2 (cq (Kjs _ _ d4) K5x (ai d2 tv)))) ?_
     obtain rfl := os h
     exact Qde.mk
    refine rg hc none [oN,oN,oc (.bool d0),oN,o_,o_,o_,o_,o_,oF,oN] [(8,.bool false)] [] (cq (Kjk _ _ d1) K5w (ar 5 (neT d2) (ai d2 tv))) ?_
    obtain rfl := os h
    exact Qde.mk
   clear c9
   refine rt ?_
   obtain rfl := os h
   exact rq [true]
  refine cT (!c5) (nT c7) ?_
  refine rs hc none [oN,oN,some (.eqv (.no) ⟨[(64,I (t0.fType.length : Int))],[],[]⟩),oN,oN] [(8,.bool ((t0.fType.length : Int) == 0))] [] (ai (Qdy (d := 64) I t0.fType) tv) ?_
  refine rt ?_
  obtain rfl := os h
  exact rq [true]
 refine Wp.mono hF ?_
 rintro _ _ ⟨rfl,hfin⟩
 obtain rfl := os h
 exact ⟨.inl rfl,hfin⟩
def Kkw (c : Ctx) : (Unit) ⊕ (Bool) → Exit → Q0a → Prop
 | .inl _ => Qde c (.exit 0) (mkS [] [])
 | .inr r => Qdn TIx Tryz.f114 [] (.bool r)
mutual
def Kkx (p : K01 × Int × Int × Bool) : Option (Bool) :=
 match p with
 | (t0,n1,size2,closed3) =>
  (Kkt (t0,n1,size2,closed3)) >>= fun a0 =>
  if a0 = true then
  (Kky (t0,n1,size2,closed3,0)) >>= fun fl => match fl with
  | .inl () =>
   some true
  | .inr r =>
   some r
  else
  some false
 partial_fixpoint
def Kky (p : K01 × Int × Int × Bool × Int) : Option ((Unit) ⊕ (Bool)) :=
 match p with
 | (t0,n1,size2,closed3,a0) =>
  if (decide (a0 < (t0.fKids.length : Int))) = true then
  (idx t0.fKids a0) >>= fun a1 =>
  (Kcg (t0.fOp,a0)) >>= fun a2 =>
  (Kkx (a1,(wr (n1 + a2)),size2,closed3)) >>= fun a3 =>
  if a3 = true then
  Kky (t0,n1,size2,closed3,(wr (a0 + 1)))
  else
  some (.inr false)
  else
  some (.inl ())
 partial_fixpoint
end
def Kkz (p : K01 × Int × Int × Bool) (r : Bool) : Prop :=
 match p with
 | (t0,n1,size2,closed3) => Q75 Tryz.prog 114 [K1c t0,I n1,I size2,.bool closed3] (.bool r) []
def Kl0 (p : K01 × Int × Int × Bool × Int) (fl : (Unit) ⊕ (Bool)) : Prop :=
 match p with
 | (t0,n1,size2,closed3,a0) => ∀ c : Ctx,c.nt = 38 → WpL Tryz.prog c (cl (cl (cr (cl (cr (cr K6d)))))) (Kkw c fl) (mkS [(1,I n1),(2,I size2),(3,.bool closed3),(4,.ra 1 0),(9,I a0)] [(1,K1b t0)])
theorem Kl1 : (∀ p r,Kkx p = some r → Kkz p r) ∧ (∀ p r,Kky p = some r → Kl0 p r) := by
 refine Kkx.mutual_partial_correctness Kkz Kl0 ?_ ?_
 ·rintro spec_l2Term_l0_f spec_l2Term_l0_ih ⟨t0,n1,size2,closed3⟩ r h
  refine b0 Tryz.f114 K6d 38 [(0,K1c t0),(1,I n1),(2,I size2),(3,.bool closed3)] fun c hc => ?_
  refine rs hc none [some (.new 1),oN] [(1,I n1),(2,I size2),(3,.bool closed3),(4,.ra 1 0)] [(1,K1b t0)] tv ?_
  refine sN ?_
  obtain ⟨a0,a1,h⟩ := Qds h
  refine rss hc none [oN,oN,oN,oN,oc (.bool a0),oN] [(1,I n1),(2,I size2),(3,.bool closed3),(4,.ra 1 0),(15,.bool (!a0))] (cq (Kkv _ _ a1) K6c tv) ?_
  rcases is h with ⟨a2,h⟩ | ⟨a2,h⟩
  ·refine cF (!a0) (nF a2) ?_
   refine sk ?_
   refine sN ?_
   refine K7e hc 1 [(1,I n1),(2,I size2),(3,.bool closed3),(4,.ra 1 0),(9,I 0)] ?_
   refine bk 0 ?_
   obtain ⟨fl,a3,h⟩ := Qds h
   have hL := spec_l2Term_l0_ih _ _ a3 c hc
   refine lp ?_
   rcases fl with ⟨⟩ | r
   ·refine WpL.into (e := (.exit 0)) (mkS [] []) hL ?_
    refine Qd6 ?_
    refine rs0 hc 1 [(8,.bool true)] [] ?_
    refine rt ?_
    obtain rfl := os h
    exact rq [true]
   refine WpL.mono hL ?_
   rintro _ _ ⟨rfl,hfin⟩
   obtain rfl := os h
   exact ⟨.inl rfl,hfin⟩
  refine cT (!a0) (nT a2) ?_
  refine rs0 hc 1 [(8,.bool false)] [] ?_
  refine rt ?_
  obtain rfl := os h
  exact rq [true]
 ·rintro spec_l2Term_f spec_l2Term_l0_f spec_l2Term_ih spec_l2Term_l0_ih ⟨t0,n1,size2,closed3,a4⟩ r h
  intro c hc
  refine WpL.step ?_
  refine sN ?_
  refine rss hc none [oN,oN,oN,some (.eqv (.no) ⟨[(19,I (t0.fKids.length : Int))],[],[]⟩),oN] [(1,I n1),(2,I size2),(3,.bool closed3),(4,.ra 1 0),(9,I a4),(20,.bool (decide (a4 < (t0.fKids.length : Int))))] (ai (Qdy (d := 19) K06 t0.fKids) tv) ?_
  refine ic h (fun a5 h => ?_) fun a5 h => ?_
  ·refine sk ?_
   refine sN ?_
   refine bk 1 ?_
   obtain ⟨a6,a7,a8,a9,b1,b2,h⟩ := bq3 h
   refine rss hc (rx [[0],[1],[0],[3],[4],[0],[0],[0,6],[0],[0,6,7,8],[0,5,6,7,8,9],[0],[0],[13],[14]]) [oN,oN,oN,some (.el (K1c a6)),oN,oN,oN,oN,oN,oc (I a8),oN,oN,oN,oc (.bool b1),oN] [(1,I n1),(2,I size2),(3,.bool closed3),(4,.ra 1 0),(9,I a4),(37,.bool (!b1))] (ai (Qdw a7 (K0d a6)) (cq (Kci _ _ a9) K3y (cq (spec_l2Term_ih _ _ b2) K6e tv))) ?_
   rcases is h with ⟨b3,h⟩ | ⟨b3,h⟩
   ·refine cF (!b1) (nF b3) ?_
    refine sk ?_
    refine K7d hc 3 [(1,I n1),(2,I size2),(3,.bool closed3),(4,.ra 1 0),(9,I (wr (a4 + 1)))] ?_
    refine Qda ?_
    exact (spec_l2Term_l0_ih _ _ h c hc)
   refine cT (!b1) (nT b3) ?_
   refine rs0 hc 1 [(8,.bool false)] [] ?_
   refine rt ?_
   obtain rfl := os h
   exact re [true]
  refine xt 0 ?_
  refine Qd4 ?_
  refine Qdb ?_
  obtain rfl := os h
  exact iv []
theorem Kl2 : ∀ p r,Kkx p = some r → Kkz p r := Kl1.1
theorem Kl3 : ∀ p r,Kky p = some r → Kl0 p r := Kl1.2
def Kl4 (p : K00 × K01 × Int) : Option (Bool) :=
 match p with
 | (s0,t1,n2) =>
  ((
  (Kaf s0) >>= fun a0 =>
  if a0 = true then
  (K7w (n2,0,8)) >>= fun a1 =>
  if a1 = true then
  (Kk7 (t1,400)) >>= fun a2 =>
  if (decide (a2 ≥ 0)) = true then
  (Kkx (t1,n2,s0.fSize,true)) >>= fun a3 =>
  some (a3)
  else
  some (false)
  else
  some (false)
  else
  some (false)
  ) : Option (Bool)) >>= fun a4 =>
  some a4
def Kl5 (p : K00 × K01 × Int) (r : Bool) : Prop :=
 match p with
 | (s0,t1,n2) => Q75 Tryz.prog 183 [K1a s0,K1c t1,I n2] (.bool r) []
theorem Kl6 : ∀ p r,Kl4 p = some r → Kl5 p r := by
 rintro ⟨s0,t1,n2⟩ r h
 unfold Kl4 at h
 refine b0 Tryz.f183 K6f 25 [(0,K1a s0),(1,K1c t1),(2,I n2)] fun c hc => ?_
 refine rs hc none [some (.new 1),some (.new 2),oN] [(2,I n2),(3,.ra 1 0),(4,.ra 2 0)] [(1,K19 s0),(2,K1b t1)] tv ?_
 refine sN ?_
 obtain ⟨a0,a1,h⟩ := Qds h
 refine Wp.into (x := .normal) (mkS [(6,.bool a0)] []) ?_ ?_
 ·replace h := a1
  obtain ⟨a2,a3,h⟩ := Qds h
  rcases is h with ⟨a4,h⟩ | ⟨a4,h⟩
  ·obtain ⟨a5,a6,h⟩ := Qds h
   rcases is h with ⟨a7,h⟩ | ⟨a7,h⟩
   ·obtain ⟨a8,a9,h⟩ := Qds h
    rcases is h with ⟨b1,h⟩ | ⟨b1,h⟩
    ·obtain ⟨b2,b3,h⟩ := Qds h
     refine rg hc none [oN,oc (.bool a2),oN,oN,oc (.bool a5),oT,oN,oN,oc (I a8),oN,oT,oN,oN,oN,oN,oN,oc (.bool b2),oT,oN] [(6,.bool b2)] [] (cq (Kah _ _ a3) K2z (ar 2 a4 (cq (K7y _ _ a6) K27 (ai a4 (ar 2 a7 (cq (Kkc _ _ a9) K64 (ar 2 a7 (ar 5 b1 (cq (Kl2 _ _ b3) K6e (ai b1 tv)))))))))) ?_
     obtain rfl := os h
     exact Qde.mk
    refine rg hc none [oN,oc (.bool a2),oN,oN,oc (.bool a5),oT,oN,oN,oc (I a8),oN,oT,oN,o_,o_,o_,o_,o_,oF,oN] [(6,.bool false)] [] (cq (Kah _ _ a3) K2z (ar 2 a4 (cq (K7y _ _ a6) K27 (ai a4 (ar 2 a7 (cq (Kkc _ _ a9) K64 (ar 2 a7 (ar 5 (neT b1) (ai b1 tv))))))))) ?_
    obtain rfl := os h
    exact Qde.mk
   refine rg hc none [oN,oc (.bool a2),oN,oN,oc (.bool a5),oT,oN,o_,o_,o_,oF,oN,o_,o_,o_,o_,o_,oF,oN] [(6,.bool false)] [] (cq (Kah _ _ a3) K2z (ar 2 a4 (cq (K7y _ _ a6) K27 (ai a4 (ar 3 (neT a7) (ai a7 (ar 5 (neT (rfl : false = false)) (ai (rfl : false = false) tv)))))))) ?_
   obtain rfl := os h
   exact Qde.mk
  refine rg hc none [oN,oc (.bool a2),oN,o_,o_,oF,oN,o_,o_,o_,oF,oN,o_,o_,o_,o_,o_,oF,oN] [(6,.bool false)] [] (cq (Kah _ _ a3) K2z (ar 2 (neT a4) (ai a4 (ar 3 (neT (rfl : false = false)) (ai (rfl : false = false) (ar 5 (neT (rfl : false = false)) (ai (rfl : false = false) tv))))))) ?_
  obtain rfl := os h
  exact Qde.mk
 clear a1
 refine rt ?_
 obtain rfl := os h
 exact rq [true]
def Kl7 (c : Ctx) : (Unit) ⊕ (Bool) → Exit → Q0a → Prop
 | .inl _ => Qde c (.exit 0) (mkS [] [])
 | .inr r => Qdn TIx Tryz.f147 [] (.bool r)
def Kl8 (p : (List Int) × (List Int) × Int) : Option ((Unit) ⊕ (Bool)) :=
 match p with
 | (a0,b1,a1) =>
  if (decide (a1 < (a0.length : Int))) = true then
  (idx a0 a1) >>= fun a2 =>
  (idx b1 a1) >>= fun a3 =>
  if (a2 != a3) = true then
  some (.inr false)
  else
  Kl8 (a0,b1,(wr (a1 + 1)))
  else
  some (.inl ())
 partial_fixpoint
def Kl9 (p : (List Int) × (List Int) × Int) (fl : (Unit) ⊕ (Bool)) : Prop :=
 match p with
 | (a0,b1,a1) => ∀ c : Ctx,c.nt = 26 → WpL Tryz.prog c (cl (cl (cr (cl (cr (cr K6j)))))) (Kl7 c fl) (mkS [(0,sI a0),(1,sI b1),(5,I a1)] [])
theorem Kla : ∀ p r,Kl8 p = some r → Kl9 p r := by
 refine Kl8.partial_correctness Kl9 ?_
 rintro spec_l1Same_l0_f spec_l1Same_l0_ih ⟨a0,b1,a1⟩ r h
 intro c hc
 refine WpL.step ?_
 refine sN ?_
 refine rs hc none [oN,oN,some (.eqv (.no) ⟨[(13,I (a0.length : Int))],[],[]⟩),oN] [(0,sI a0),(1,sI b1),(5,I a1),(14,.bool (decide (a1 < (a0.length : Int))))] [] (ai (Qdy (d := 13) I a0) tv) ?_
 refine ic h (fun a2 h => ?_) fun a2 h => ?_
 ·refine sk ?_
  refine sN ?_
  refine bk 1 ?_
  obtain ⟨a3,a4,a5,a6,h⟩ := bq2 h
  refine rs hc (rx [[0],[0],[2],[3],[0],[0],[0,4,5],[0,4,5,6],[8]]) [oN,oN,some (.el (I a3)),oN,oN,oN,some (.el (I a5)),oN,oN] [(0,sI a0),(1,sI b1),(5,I a1),(25,.bool (a3 != a5))] [] (ab (ix a4) (ix a6) tv) ?_
  refine ic h (fun a7 h => ?_) fun a7 h => ?_
  ·refine rs0 hc 1 [(4,.bool false)] [] ?_
   refine rt ?_
   obtain rfl := os h
   exact re [true]
  refine sk ?_
  refine rg0 hc 3 [(0,sI a0),(1,sI b1),(5,I (wr (a1 + 1)))] [] ?_
  refine Qda ?_
  exact (spec_l1Same_l0_ih _ _ h c hc)
 refine xt 0 ?_
 refine Qd4 ?_
 refine Qdb ?_
 obtain rfl := os h
 exact iv []
def Klb (p : (List Int) × (List Int)) : Option (Bool) :=
 match p with
 | (a0,b1) =>
  if ((a0.length : Int) != (b1.length : Int)) = true then
  some false
  else
  (Kl8 (a0,b1,0)) >>= fun fl => match fl with
  | .inl () =>
   some true
  | .inr r =>
   some r
def Klc (p : (List Int) × (List Int)) (r : Bool) : Prop :=
 match p with
 | (a0,b1) => Q75 Tryz.prog 147 [sI a0,sI b1] (.bool r) []
theorem Kld : ∀ p r,Klb p = some r → Klc p r := by
 rintro ⟨a0,b1⟩ r h
 unfold Klb at h
 refine b0 Tryz.f147 K6j 26 [(0,sI a0),(1,sI b1)] fun c hc => ?_
 refine rs0 hc 1 [(0,sI a0),(1,sI b1)] [] ?_
 refine sN ?_
 refine rs hc none [oN,some (.eqv (.no) ⟨[(7,I (a0.length : Int))],[],[]⟩),oN,some (.eqv (.no) ⟨[(9,I (b1.length : Int))],[],[]⟩),oN] [(0,sI a0),(1,sI b1),(10,.bool ((a0.length : Int) != (b1.length : Int)))] [] (ab (Qdy (d := 7) I a0) (Qdy (d := 9) I b1) tv) ?_
 refine ic h (fun a1 h => ?_) fun a1 h => ?_
 ·refine rs0 hc 1 [(4,.bool false)] [] ?_
  refine rt ?_
  obtain rfl := os h
  exact rq [true]
 refine sk ?_
 refine sN ?_
 refine rs0 hc 1 [(0,sI a0),(1,sI b1),(5,I 0)] [] ?_
 refine bk 0 ?_
 obtain ⟨fl,a2,h⟩ := Qds h
 have hL := Kla _ _ a2 c hc
 refine lp ?_
 rcases fl with ⟨⟩ | r
 ·refine WpL.into (e := (.exit 0)) (mkS [] []) hL ?_
  refine Qd6 ?_
  refine rs0 hc 1 [(4,.bool true)] [] ?_
  refine rt ?_
  obtain rfl := os h
  exact rq [true]
 refine WpL.mono hL ?_
 rintro _ _ ⟨rfl,hfin⟩
 obtain rfl := os h
 exact ⟨.inl rfl,hfin⟩
def Kle (p : (List Int) × K01) : Option (Bool) :=
 match p with
 | (ty0,v1) =>
  (idx ty0 0) >>= fun a0 =>
  if (a0 == 0) = true then
  some (v1.fOp == 1)
  else
  if (a0 == 1) = true then
  ((
  if (v1.fOp == 4) = true then
  (Kc4 (ty0,0)) >>= fun a1 =>
  (idx v1.fKids 0) >>= fun a2 =>
  (Kle (a1,a2)) >>= fun a3 =>
  if a3 = true then
  (Kc4 (ty0,1)) >>= fun a4 =>
  (idx v1.fKids 1) >>= fun a5 =>
  (Kle (a4,a5)) >>= fun a6 =>
  some (a6)
  else
  some (false)
  else
  some (false)
  ) : Option (Bool)) >>= fun a7 =>
  some a7
  else
  ((
  if (a0 == 2) = true then
  some ((v1.fOp == 6))
  else
  some (false)
  ) : Option (Bool)) >>= fun a8 =>
  if a8 = true then
  ((
  (Kc4 (ty0,1)) >>= fun a9 =>
  (Klb (v1.fType,a9)) >>= fun b1 =>
  if b1 = true then
  (Kc4 (ty0,0)) >>= fun b2 =>
  (idx v1.fKids 0) >>= fun b3 =>
  (Kle (b2,b3)) >>= fun b4 =>
  some (b4)
  else
  some (false)
  ) : Option (Bool)) >>= fun b5 =>
  some b5
  else
  if (a0 == 2) = true then
  ((
  if (v1.fOp == 7) = true then
  (Kc4 (ty0,0)) >>= fun b6 =>
  (Klb (v1.fType,b6)) >>= fun b7 =>
  if b7 = true then
  (Kc4 (ty0,1)) >>= fun b8 =>
  (idx v1.fKids 0) >>= fun b9 =>
  (Kle (b8,b9)) >>= fun c0 =>
  some (c0)
  else
  some (false)
  else
  some (false)
  ) : Option (Bool)) >>= fun c1 =>
  some c1
  else
  ((
  if (v1.fOp == 11) = true then
  (Kca a0) >>= fun c2 =>
  if (v1.fN == c2) = true then
  (Kc4 (ty0,0)) >>= fun c3 =>
  (idx v1.fKids 0) >>= fun c4 =>
  (Kle (c3,c4)) >>= fun c5 =>
  some (c5)
  else
  some (false)
  else
  some (false)
  ) : Option (Bool)) >>= fun c6 =>
  some c6
 partial_fixpoint
def Klf (p : (List Int) × K01) (r : Bool) : Prop :=
 match p with
 | (ty0,v1) => Q75 Tryz.prog 184 [sI ty0,K1c v1] (.bool r) []
theorem Klg : ∀ p r,Kle p = some r → Klf p r := by
 refine Kle.partial_correctness Klf ?_
 rintro spec_l5Value_f spec_l5Value_ih ⟨ty0,v1⟩ r h
 refine b0 Tryz.f184 K6h 102 [(0,sI ty0),(1,K1c v1)] fun c hc => ?_
 refine rs hc none [some (.new 1),oN] [(0,sI ty0),(3,.ra 1 0)] [(1,K1b v1)] tv ?_
 obtain ⟨a0,a1,h⟩ := Qds h
 refine rss hc none [oN,some (.el (I a0)),oN,oN] [(0,sI ty0),(3,.ra 1 0),(5,I a0)] (ai (ix a1) tv) ?_
 refine sN ?_
 refine bk 0 ?_
 refine K7e hc 3 [(0,sI ty0),(3,.ra 1 0),(5,I a0),(9,.bool (a0 == 0))] ?_
 refine ic h (fun a2 h => ?_) fun a2 h => ?_
 ·refine rs0 hc 4 [(4,.bool (v1.fOp == 1))] [] ?_
  refine rt ?_
  obtain rfl := os h
  exact rq [true]
 refine K7e hc 3 [(0,sI ty0),(3,.ra 1 0),(5,I a0),(15,.bool (a0 == 1))] ?_
 refine ic h (fun a3 h => ?_) fun a3 h => ?_
 ·refine sN ?_
  obtain ⟨a4,a5,h⟩ := Qds h
  refine Wp.into (x := .normal) (mkS [(4,.bool a4)] []) ?_ ?_
  ·replace h := a5
   rcases is h with ⟨a6,h⟩ | ⟨a6,h⟩
   ·obtain ⟨a7,a8,a9,b1,b2,b3,h⟩ := bq3 h
    rcases is h with ⟨b4,h⟩ | ⟨b4,h⟩
    ·obtain ⟨b5,b6,b7,b8,b9,c0,h⟩ := bq3 h
     refine rg hc Kkh [oN,oN,oN,oN,oN,some (.call (oI a7) [] 2),oN,oN,some (.el (K1c a9)),oN,oc (.bool b2),oT,oN,oN,some (.call (oI b5) [] 3),oN,oN,some (.el (K1c b7)),oN,oc (.bool b9),oT,oN] [(4,.bool b9)] [] (ar 2 a6 (cq (Kc6 _ _ a8) K3r (ar 3 a6 (ai (Qdw b1 (K0d a9)) (ar 2 a6 (ad (Q75.args (A1 := [.sl (Q02 (List.map I a7)),K1c a9]) (A2 := [sI a7,K1c a9]) (by simp only [List.map_nil,Qek]) (spec_l5Value_ih _ _ b3)) K6i (Or.inr rfl : ([2] : List Nat) = [] ∨ noSh (.bool b2) = true) a6 (ar 2 b4 (cq (Kc6 _ _ b6) K3r (ar 3 b4 (ai (Qdw b8 (K0d b7)) (ar 2 b4 (ad (Q75.args (A1 := [.sl (Q02 (List.map I b5)),K1c b7]) (A2 := [sI b5,K1c b7]) (by simp only [List.map_nil,Qek]) (spec_l5Value_ih _ _ c0)) K6i (Or.inr rfl : ([3] : List Nat) = [] ∨ noSh (.bool b9) = true) b4 tv)))))))))))) ?_
     obtain rfl := os h
     exact Qde.mk
    refine rg hc Kkh [oN,oN,oN,oN,oN,some (.call (oI a7) [] 2),oN,oN,some (.el (K1c a9)),oN,oc (.bool b2),oT,oN,o_,o_,o_,o_,o_,o_,o_,oF,oN] [(4,.bool false)] [] (ar 2 a6 (cq (Kc6 _ _ a8) K3r (ar 3 a6 (ai (Qdw b1 (K0d a9)) (ar 2 a6 (ad (Q75.args (A1 := [.sl (Q02 (List.map I a7)),K1c a9]) (A2 := [sI a7,K1c a9]) (by simp only [List.map_nil,Qek]) (spec_l5Value_ih _ _ b3)) K6i (Or.inr rfl : ([2] : List Nat) = [] ∨ noSh (.bool b2) = true) a6 (ar 7 (neT b4) (ai b4 tv)))))))) ?_
    obtain rfl := os h
    exact Qde.mk
   refine rg hc Kkh [oN,oN,oN,oN,o_,o_,o_,o_,o_,o_,o_,oF,oN,o_,o_,o_,o_,o_,o_,o_,oF,oN] [(4,.bool false)] [] (ar 7 (neT a6) (ai a6 (ar 7 (neT (rfl : false = false)) (ai (rfl : false = false) tv)))) ?_
   obtain rfl := os h
   exact Qde.mk
  clear a5
  refine rt ?_
  obtain rfl := os h
  exact rq [true]
 refine sN ?_
 obtain ⟨c1,c2,h⟩ := Qds h
 refine Wp.into (x := .normal) (mkS [(0,sI ty0),(3,.ra 1 0),(5,I a0),(39,.bool c1)] [(1,K1b v1)]) ?_ ?_
 ·replace h := c2
  rcases is h with ⟨c3,h⟩ | ⟨c3,h⟩
  ·refine rgs hc none [oN,oN,oN,oN,oN,oN,oT,oN] [(0,sI ty0),(3,.ra 1 0),(5,I a0),(39,.bool (v1.fOp == 6))] (ar 4 c3 tv) ?_
   obtain rfl := os h
   exact Qde.mk
  refine rgs hc none [oN,oN,oN,o_,o_,o_,oF,oN] [(0,sI ty0),(3,.ra 1 0),(5,I a0),(39,.bool false)] (ar 3 (neT c3) (ai c3 tv)) ?_
  obtain rfl := os h
  exact Qde.mk
 clear c2
 refine ic h (fun c4 h => ?_) fun c4 h => ?_
 ·refine sN ?_
  obtain ⟨c5,c6,h⟩ := Qds h
  refine Wp.into (x := .normal) (mkS [(4,.bool c5)] []) ?_ ?_
  ·replace h := c6
   obtain ⟨c7,c8,c9,d0,h⟩ := bq2 h
   rcases is h with ⟨d1,h⟩ | ⟨d1,h⟩
   ·obtain ⟨d2,d3,d4,d5,d6,d7,h⟩ := bq3 h
    refine rg hc Kki [oN,oN,oN,some (.call (oI c7) [] 4),oc (.bool c9),oN,oN,some (.call (oI d2) [] 5),oN,oN,some (.el (K1c d4)),oN,oc (.bool d6),oT,oN] [(4,.bool d6)] [] (cq (Kc6 _ _ c8) K3r (ac (Q75.args (A1 := [sI v1.fType,.sl (Q02 (List.map I c7))]) (A2 := [sI v1.fType,sI c7]) (by simp only [List.map_nil,Qek]) (Kld _ _ d0)) K6k (Or.inr rfl : ([4] : List Nat) = [] ∨ noSh (.bool c9) = true) (ar 2 d1 (cq (Kc6 _ _ d3) K3r (ar 3 d1 (ai (Qdw d5 (K0d d4)) (ar 2 d1 (ad (Q75.args (A1 := [.sl (Q02 (List.map I d2)),K1c d4]) (A2 := [sI d2,K1c d4]) (by simp only [List.map_nil,Qek]) (spec_l5Value_ih _ _ d7)) K6i (Or.inr rfl : ([5] : List Nat) = [] ∨ noSh (.bool d6) = true) d1 tv)))))))) ?_
    obtain rfl := os h
    exact Qde.mk
   refine rg hc Kki [oN,oN,oN,some (.call (oI c7) [] 4),oc (.bool c9),oN,o_,o_,o_,o_,o_,o_,o_,oF,oN] [(4,.bool false)] [] (cq (Kc6 _ _ c8) K3r (ac (Q75.args (A1 := [sI v1.fType,.sl (Q02 (List.map I c7))]) (A2 := [sI v1.fType,sI c7]) (by simp only [List.map_nil,Qek]) (Kld _ _ d0)) K6k (Or.inr rfl : ([4] : List Nat) = [] ∨ noSh (.bool c9) = true) (ar 7 (neT d1) (ai d1 tv)))) ?_
   obtain rfl := os h
   exact Qde.mk
  clear c6
  refine rt ?_
  obtain rfl := os h
  exact rq [true]
 refine K7e hc 3 [(0,sI ty0),(3,.ra 1 0),(5,I a0),(61,.bool (a0 == 2))] ?_
 refine ic h (fun d8 h => ?_) fun d8 h => ?_
 ·refine sN ?_
  obtain ⟨d9,e0,h⟩ := Qds h
  refine Wp.into (x := .normal) (mkS [(4,.bool d9)] []) ?_ ?_
  ·replace h := e0
   rcases is h with ⟨e1,h⟩ | ⟨e1,h⟩
   ·obtain ⟨e2,e3,e4,e5,h⟩ := bq2 h
    rcases is h with ⟨e6,h⟩ | ⟨e6,h⟩
    ·obtain ⟨e7,e8,e9,f0,f1,f2,h⟩ := bq3 h
     refine rg hc Kkj [oN,oN,oN,oN,oN,oN,oN,some (.call (oI e2) [] 6),oc (.bool e4),oT,oN,oN,some (.call (oI e7) [] 7),oN,oN,some (.el (K1c e9)),oN,oc (.bool f1),oT,oN] [(4,.bool f1)] [] (ar 4 e1 (cq (Kc6 _ _ e3) K3r (ad e1 (Q75.args (A1 := [sI v1.fType,.sl (Q02 (List.map I e2))]) (A2 := [sI v1.fType,sI e2]) (by simp only [List.map_nil,Qek]) (Kld _ _ e5)) K6k (Or.inr rfl : ([6] : List Nat) = [] ∨ noSh (.bool e4) = true) (ai e1 (ar 2 e6 (cq (Kc6 _ _ e8) K3r (ar 3 e6 (ai (Qdw f0 (K0d e9)) (ar 2 e6 (ad (Q75.args (A1 := [.sl (Q02 (List.map I e7)),K1c e9]) (A2 := [sI e7,K1c e9]) (by simp only [List.map_nil,Qek]) (spec_l5Value_ih _ _ f2)) K6i (Or.inr rfl : ([7] : List Nat) = [] ∨ noSh (.bool f1) = true) e6 tv)))))))))) ?_
     obtain rfl := os h
     exact Qde.mk
    refine rg hc Kkj [oN,oN,oN,oN,oN,oN,oN,some (.call (oI e2) [] 6),oc (.bool e4),oT,oN,o_,o_,o_,o_,o_,o_,o_,oF,oN] [(4,.bool false)] [] (ar 4 e1 (cq (Kc6 _ _ e3) K3r (ad e1 (Q75.args (A1 := [sI v1.fType,.sl (Q02 (List.map I e2))]) (A2 := [sI v1.fType,sI e2]) (by simp only [List.map_nil,Qek]) (Kld _ _ e5)) K6k (Or.inr rfl : ([6] : List Nat) = [] ∨ noSh (.bool e4) = true) (ai e1 (ar 7 (neT e6) (ai e6 tv)))))) ?_
    obtain rfl := os h
    exact Qde.mk
   refine rg hc Kkj [oN,oN,oN,oN,o_,o_,o_,o_,o_,oF,oN,o_,o_,o_,o_,o_,o_,o_,oF,oN] [(4,.bool false)] [] (ar 5 (neT e1) (ai e1 (ar 7 (neT (rfl : false = false)) (ai (rfl : false = false) tv)))) ?_
   obtain rfl := os h
   exact Qde.mk
  clear e0
  refine rt ?_
  obtain rfl := os h
  exact rq [true]
 refine sk ?_
 refine sN ?_
 obtain ⟨f3,f4,h⟩ := Qds h
 refine Wp.into (x := .normal) (mkS [(4,.bool f3)] []) ?_ ?_
 ·replace h := f4
  rcases is h with ⟨f5,h⟩ | ⟨f5,h⟩
  ·obtain ⟨f6,f7,h⟩ := Qds h
   rcases is h with ⟨f8,h⟩ | ⟨f8,h⟩
   ·obtain ⟨f9,g0,g1,g2,g3,g4,h⟩ := bq3 h
    refine rg hc Kkj [oN,oN,oN,oN,oN,oN,oN,oc (I f6),oN,oT,oN,oN,some (.call (oI f9) [] 8),oN,oN,some (.el (K1c g1)),oN,oc (.bool g3),oT,oN] [(4,.bool g3)] [] (ar 4 f5 (cq (Kcc _ _ f7) K3w (ar 2 f5 (ar 2 f8 (cq (Kc6 _ _ g0) K3r (ar 3 f8 (ai (Qdw g2 (K0d g1)) (ar 2 f8 (ad (Q75.args (A1 := [.sl (Q02 (List.map I f9)),K1c g1]) (A2 := [sI f9,K1c g1]) (by simp only [List.map_nil,Qek]) (spec_l5Value_ih _ _ g4)) K6i (Or.inr rfl : ([8] : List Nat) = [] ∨ noSh (.bool g3) = true) f8 tv))))))))) ?_
    obtain rfl := os h
    exact Qde.mk
   refine rg hc Kkj [oN,oN,oN,oN,oN,oN,oN,oc (I f6),oN,oT,oN,o_,o_,o_,o_,o_,o_,o_,oF,oN] [(4,.bool false)] [] (ar 4 f5 (cq (Kcc _ _ f7) K3w (ar 2 f5 (ar 7 (neT f8) (ai f8 tv))))) ?_
   obtain rfl := os h
   exact Qde.mk
  refine rg hc Kkj [oN,oN,oN,oN,o_,o_,o_,o_,o_,oF,oN,o_,o_,o_,o_,o_,o_,o_,oF,oN] [(4,.bool false)] [] (ar 5 (neT f5) (ai f5 (ar 7 (neT (rfl : false = false)) (ai (rfl : false = false) tv)))) ?_
  obtain rfl := os h
  exact Qde.mk
 clear f4
 refine rt ?_
 obtain rfl := os h
 exact rq [true]
def Klh (p : K00 × (List Int) × K01) : Option (Bool) :=
 match p with
 | (s0,ty1,v2) =>
  ((
  (Kk3 (s0,ty1)) >>= fun a0 =>
  if a0 = true then
  (Kl4 (s0,v2,0)) >>= fun a1 =>
  if a1 = true then
  (Kle (ty1,v2)) >>= fun a2 =>
  some (a2)
  else
  some (false)
  else
  some (false)
  ) : Option (Bool)) >>= fun a3 =>
  some a3
def Kli (p : K00 × (List Int) × K01) (r : Bool) : Prop :=
 match p with
 | (s0,ty1,v2) => Q75 Tryz.prog 106 [K1a s0,sI ty1,K1c v2] (.bool r) []
theorem Klj : ∀ p r,Klh p = some r → Kli p r := by
 rintro ⟨s0,ty1,v2⟩ r h
 unfold Klh at h
 refine b0 Tryz.f106 K6l 20 [(0,K1a s0),(1,sI ty1),(2,K1c v2)] fun c hc => ?_
 refine rs hc none [some (.new 1),some (.new 2),oN] [(1,sI ty1),(3,.ra 1 0),(5,.ra 2 0)] [(1,K19 s0),(2,K1b v2)] tv ?_
 refine sN ?_
 obtain ⟨a0,a1,h⟩ := Qds h
 refine Wp.into (x := .normal) (mkS [(6,.bool a0)] []) ?_ ?_
 ·replace h := a1
  obtain ⟨a2,a3,h⟩ := Qds h
  rcases is h with ⟨a4,h⟩ | ⟨a4,h⟩
  ·obtain ⟨a5,a6,h⟩ := Qds h
   rcases is h with ⟨a7,h⟩ | ⟨a7,h⟩
   ·obtain ⟨a8,a9,h⟩ := Qds h
    refine rg hc none [oN,oN,oc (.bool a2),oN,oN,oN,oc (.bool a5),oT,oN,oN,oN,oc (.bool a8),oT,oN] [(6,.bool a8)] [] (cq (Kk5 _ _ a3) K62 (ar 3 a4 (cq (Kl6 _ _ a6) K6g (ai a4 (ar 3 a7 (cq (Klg _ _ a9) K6i (ai a7 tv))))))) ?_
    obtain rfl := os h
    exact Qde.mk
   refine rg hc none [oN,oN,oc (.bool a2),oN,oN,oN,oc (.bool a5),oT,oN,o_,o_,o_,oF,oN] [(6,.bool false)] [] (cq (Kk5 _ _ a3) K62 (ar 3 a4 (cq (Kl6 _ _ a6) K6g (ai a4 (ar 3 (neT a7) (ai a7 tv)))))) ?_
   obtain rfl := os h
   exact Qde.mk
  refine rg hc none [oN,oN,oc (.bool a2),oN,o_,o_,o_,oF,oN,o_,o_,o_,oF,oN] [(6,.bool false)] [] (cq (Kk5 _ _ a3) K62 (ar 3 (neT a4) (ai a4 (ar 3 (neT (rfl : false = false)) (ai (rfl : false = false) tv))))) ?_
  obtain rfl := os h
  exact Qde.mk
 clear a1
 refine rt ?_
 obtain rfl := os h
 exact rq [true]
def Klk (c : Ctx) : (Unit) ⊕ (Bool) → Exit → Q0a → Prop
 | .inl _ => Qde c (.exit 0) (mkS [] [])
 | .inr r => Qdn TIx Tryz.f179 [] (.bool r)
def Kll (p : (List Int) × Int × Int) : Option ((Unit) ⊕ (Bool)) :=
 match p with
 | (l0,n1,a0) =>
  if (decide (a0 < (l0.length : Int))) = true then
  (idx l0 a0) >>= fun a1 =>
  if (a1 == n1) = true then
  some (.inr true)
  else
  Kll (l0,n1,(wr (a0 + 1)))
  else
  some (.inl ())
 partial_fixpoint
def Klm (p : (List Int) × Int × Int) (fl : (Unit) ⊕ (Bool)) : Prop :=
 match p with
 | (l0,n1,a0) => ∀ c : Ctx,c.nt = 18 → WpL Tryz.prog c (cl (cl (cr (cl (cr K6n))))) (Klk c fl) (mkS [(0,sI l0),(1,I n1),(5,I a0)] [])
theorem Kln : ∀ p r,Kll p = some r → Klm p r := by
 refine Kll.partial_correctness Klm ?_
 rintro spec_l1Has_l0_f spec_l1Has_l0_ih ⟨l0,n1,a0⟩ r h
 intro c hc
 refine WpL.step ?_
 refine sN ?_
 refine rs hc none [oN,oN,some (.eqv (.no) ⟨[(8,I (l0.length : Int))],[],[]⟩),oN] [(0,sI l0),(1,I n1),(5,I a0),(9,.bool (decide (a0 < (l0.length : Int))))] [] (ai (Qdy (d := 8) I l0) tv) ?_
 refine ic h (fun a1 h => ?_) fun a1 h => ?_
 ·refine sk ?_
  refine sN ?_
  refine bk 1 ?_
  obtain ⟨a2,a3,h⟩ := Qds h
  refine rs hc none [oN,oN,some (.el (I a2)),oN,oN,oN] [(0,sI l0),(1,I n1),(5,I a0),(17,.bool (a2 == n1))] [] (ai (ix a3) tv) ?_
  refine ic h (fun a4 h => ?_) fun a4 h => ?_
  ·refine rs0 hc 1 [(4,.bool true)] [] ?_
   refine rt ?_
   obtain rfl := os h
   exact re [true]
  refine sk ?_
  refine rg0 hc 3 [(0,sI l0),(1,I n1),(5,I (wr (a0 + 1)))] [] ?_
  refine Qda ?_
  exact (spec_l1Has_l0_ih _ _ h c hc)
 refine xt 0 ?_
 refine Qd4 ?_
 refine Qdb ?_
 obtain rfl := os h
 exact iv []
def Klo (p : (List Int) × Int) : Option (Bool) :=
 match p with
 | (l0,n1) =>
  (Kll (l0,n1,0)) >>= fun fl => match fl with
  | .inl () =>
   some false
  | .inr r =>
   some r
def Klp (p : (List Int) × Int) (r : Bool) : Prop :=
 match p with
 | (l0,n1) => Q75 Tryz.prog 179 [sI l0,I n1] (.bool r) []
theorem Klq : ∀ p r,Klo p = some r → Klp p r := by
 rintro ⟨l0,n1⟩ r h
 unfold Klo at h
 refine b0 Tryz.f179 K6n 18 [(0,sI l0),(1,I n1)] fun c hc => ?_
 refine rs0 hc 1 [(0,sI l0),(1,I n1)] [] ?_
 refine sN ?_
 refine rs0 hc 1 [(0,sI l0),(1,I n1),(5,I 0)] [] ?_
 refine bk 0 ?_
 obtain ⟨fl,a0,h⟩ := Qds h
 have hL := Kln _ _ a0 c hc
 refine lp ?_
 rcases fl with ⟨⟩ | r
 ·refine WpL.into (e := (.exit 0)) (mkS [] []) hL ?_
  refine Qd6 ?_
  refine rs0 hc 1 [(4,.bool false)] [] ?_
  refine rt ?_
  obtain rfl := os h
  exact rq [true]
 refine WpL.mono hL ?_
 rintro _ _ ⟨rfl,hfin⟩
 obtain rfl := os h
 exact ⟨.inl rfl,hfin⟩
end Go.Am
