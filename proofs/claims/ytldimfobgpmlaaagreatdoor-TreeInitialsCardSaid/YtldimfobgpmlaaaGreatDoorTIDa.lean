/- The data types of the Go text and the plain functions: what the Go functions compute. No conditions. -/
import Derived.Test.YtldimfobgpmlaaaGreatDoorTILb
set_option autoImplicit true
set_option linter.unusedVariables false
namespace Go.Lg
open Go
structure Arr3_3 where
  x0 : Int
  x1 : Int
  x2 : Int
  deriving DecidableEq
structure Linear where
  c : Int
  n : Int
  t : Int
  f : Int
  deriving DecidableEq
structure Threshold where
  message : Int
  coef : Int
  bound : Linear
structure Rule where
  name : ByteArray
  kind : Int
  frm : Int
  to : Int
  partnerFrom : Int
  partnerTo : Int
  response : List Int
  guards : List Threshold
  exists_ : List Int
  forall_ : List Int
  read : Int
  write : Int
  send : List Int
  at_ : Int
  left : List Int
  right : List Int
  parent : List Int
  direction : Int
structure Protocol where
  name : ByteArray
  topology : Int
  states : List ByteArray
  messages : List ByteArray
  values : List ByteArray
  fault : Int
  resilience : List Linear
  initial : List Int
  leader : List Int
  rules : List Rule
structure Count where
  states : List Int
  least : Int
structure Property where
  name : ByteArray
  kind : Int
  start : List Int
  bad : List Count
  adjacent : List Int
  goal : List Int
structure Leaf where
  letter : Int
  to : Int
  deriving DecidableEq
structure Branch where
  letter : Int
  first : Int
  second : Int
  to : Int
  deriving DecidableEq
structure TreeAutomaton where
  letters : Int
  states : Int
  accept : List Int
  leaves : List Leaf
  branches : List Branch
structure Tree where
  shape : List Int
  labels : List Int
structure Size where
  n : Int
  t : Int
  f : Int
  deriving DecidableEq
structure Config where
  shape : List Int
  states : List Int
  correct : Int
  sent : List Int
  faulty : List Int
  value : Int
structure Bounds where
  depth : Int
  rounds : Int
  deriving DecidableEq
structure TableR where
  letters : Int
  leaf : List Int
  branch : List (List (List Int))
  accept : List Bool
structure operation where
  join : Bool → Bool → Option Bool
structure Classes where
  threshold : Bool
  cover : Bool
  word : Bool
  tree : Bool
  monadic : Bool
  deriving DecidableEq
structure part where
  inner : Bool
  whole : Bool
  deriving DecidableEq
structure machine where
  letters : Int
  accept : List Bool
  leaf : List Int
  branch : List (List (List Int))
structure part2 where
  counts : Arr3_3
  found : Bool
  below : Bool
structure afterR where
  same : Int
  root : Int
  done : Int
  wait : Int
  half : Int
  top : Int
  deriving DecidableEq
structure behindsR where
  all : List afterR
structure pairsR where
  a : List Int
  b : List Int
structure both where
  p : Int
  q : Int
  deriving DecidableEq
structure rewriter where
  r : Rule
  m : Option machine
structure before where
  way : Int
  q : Int
  deriving DecidableEq
structure after where
  state : Int
  letter : Int
  s : before
structure image where
  letter : Int
  ways : U64
  deriving DecidableEq
structure setsR where
  all : List (List Bool)
end Go.Lg
namespace Go.Lg
open Go
instance : KeyB part := ⟨fun x => okLKs [.b, .b] [.bool x.inner, .bool x.whole]⟩
instance : KeyB part2 := ⟨fun x => okLKs [.i .i64, .i .i64, .i .i64, .b, .b] [.int .i64 x.counts.x0, .int .i64 x.counts.x1, .int .i64 x.counts.x2, .bool x.found, .bool x.below]⟩
instance : KeyB both := ⟨fun x => okLKs [.i .i64, .i .i64] [.int .i64 x.p, .int .i64 x.q]⟩
instance : KeyB after := ⟨fun x => okLKs [.i .i64, .i .i64, .i .i64, .i .i64] [.int .i64 x.state, .int .i64 x.letter, .int .i64 x.s.way, .int .i64 x.s.q]⟩
instance : KeyB image := ⟨fun x => okLKs [.i .i64, .i .u64] [.int .i64 x.letter, .int .u64 x.ways.i]⟩
end Go.Lg
set_option autoImplicit true
set_option linter.unusedVariables false
namespace Go.Lg
open Go
noncomputable def sl_Cloneint_int_ (d0 : List Int) : Option (List Int) := app 8 ([] : List Int) d0
end Go.Lg
set_option autoImplicit true
set_option linter.unusedVariables false
set_option maxRecDepth 100000
namespace Go.Lg
open Go
end Go.Lg
set_option autoImplicit true
set_option linter.unusedVariables false
set_option maxRecDepth 100000
namespace Go.Lg
open Go
noncomputable def l2_BigProperty_l1 (d0 : Property) (x77 : Int) : Option ((Int) ⊕ (((Unit) ⊕ (Bool)))) :=
  bif decide (x77 < (d0.bad.length : Int)) then (Option.bind (idx d0.bad x77) fun e87 =>
  bif decide ((e87.states.length : Int) > 60) then (some (.inr (.inr true)))
  else (some (.inl (IntKind.i64.wrap (x77 + 1)))))
  else (some (.inr (.inl ())))
noncomputable def l2_BigProperty (d0 : Property) : Option (Bool) :=
  Option.bind (bif decide ((d0.name.size : Int) > 500) then (some true)
  else (bif decide ((d0.start.length : Int) > 60) then (some true)
  else (bif decide ((d0.bad.length : Int) > 60) then (some true)
  else (bif decide ((d0.adjacent.length : Int) > 60) then (some true)
  else (some (decide ((d0.goal.length : Int) > 60))))))) fun y30 =>
  bif y30 then (some true)
  else (Option.bind (loopP (l2_BigProperty_l1 d0) 0) fun t75 =>
  (match t75 with
  | .inl y79 =>
  some false
  | .inr r =>
  some r))
noncomputable def t_ValidTree_l1 (d1 : List Int) (d2 : List Int) (d0 : Int) (x189 : Int × Int) : Option ((Int × Int) ⊕ (((Int) ⊕ (Bool)))) :=
  bif decide (x189.2 < (d1.length : Int)) then (Option.bind (idx d1 x189.2) fun e197 =>
  Option.bind (bif x189.1 == 0 then (some true)
  else (bif e197 != 0 then (bif e197 != 2 then (some true)
  else (Option.bind (idx d2 x189.2) fun e246 =>
  bif decide (e246 < 0) then (some true)
  else (Option.bind (idx d2 x189.2) fun e254 =>
  some (decide (e254 ≥ d0)))))
  else (Option.bind (idx d2 x189.2) fun e262 =>
  bif decide (e262 < 0) then (some true)
  else (Option.bind (idx d2 x189.2) fun e270 =>
  some (decide (e270 ≥ d0)))))) fun y239 =>
  bif y239 then (some (.inr (.inr false)))
  else (some (.inl (IntKind.i64.wrap (x189.1 + (IntKind.i64.wrap (e197 - 1))), IntKind.i64.wrap (x189.2 + 1)))))
  else (some (.inr (.inl x189.1)))
noncomputable def t_ValidTree (d0 : Int) (d1 : List Int) (d2 : List Int) : Option (Bool) :=
  Option.bind (bif decide ((d1.length : Int) < 1) then (some true)
  else (bif decide ((d1.length : Int) > 4095) then (some true)
  else (some ((d2.length : Int) != (d1.length : Int))))) fun y7 =>
  bif y7 then (some false)
  else (Option.bind (loopP (t_ValidTree_l1 d1 d2 d0) (1, 0)) fun t187 =>
  (match t187 with
  | .inl y191 =>
  some (y191 == 0)
  | .inr r =>
  some r))
noncomputable def t_machine_states (d0 : machine) : Option (Int) :=
  some (d0.accept.length : Int)
noncomputable def r1_CopyInts (d0 : List Int) : Option (List Int) :=
  Option.bind (app 8 ([] : List Int) d0) fun r7 =>
  some r7
noncomputable def l2_bigRule (d0 : Rule) : Option (Bool) :=
  Option.bind (bif decide ((d0.name.size : Int) > 500) then (some true)
  else (bif decide ((d0.response.length : Int) > 60) then (some true)
  else (bif decide ((d0.guards.length : Int) > 60) then (some true)
  else (bif decide ((d0.exists_.length : Int) > 60) then (some true)
  else (bif decide ((d0.forall_.length : Int) > 60) then (some true)
  else (bif decide ((d0.send.length : Int) > 60) then (some true)
  else (bif decide ((d0.left.length : Int) > 60) then (some true)
  else (bif decide ((d0.right.length : Int) > 60) then (some true)
  else (some (decide ((d0.parent.length : Int) > 60))))))))))) fun y67 =>
  some y67
noncomputable def l2_bigNames_l1 (d0 : List ByteArray) (x21 : Int) : Option ((Int) ⊕ (((Unit) ⊕ (Bool)))) :=
  bif decide (x21 < (d0.length : Int)) then (Option.bind (idx d0 x21) fun e31 =>
  bif decide ((e31.size : Int) > 500) then (some (.inr (.inr true)))
  else (some (.inl (IntKind.i64.wrap (x21 + 1)))))
  else (some (.inr (.inl ())))
noncomputable def l2_bigNames (d0 : List ByteArray) : Option (Bool) :=
  Option.bind (loopP (l2_bigNames_l1 d0) 0) fun t19 =>
  (match t19 with
  | .inl y23 =>
  some false
  | .inr r =>
  some r)
noncomputable def t_initialTrees_3 (d0 : part) : Option (Bool) :=
  some d0.whole
noncomputable def r2_StartStates (d0 : Protocol) (d1 : Property) : Option (List Int) :=
  bif decide ((d1.start.length : Int) > 0) then (Option.bind (r1_CopyInts d1.start) fun r33 =>
  some r33)
  else (Option.bind (r1_CopyInts d0.initial) fun r41 =>
  some r41)
noncomputable def r1_CompareInts_l1 (d0 : List Int) (d1 : List Int) (x97 : Int) : Option ((Int) ⊕ (((Unit) ⊕ (Int)))) :=
  Option.bind (bif decide (x97 < (d0.length : Int)) then (some (decide (x97 < (d1.length : Int))))
  else (some false)) fun y111 =>
  bif y111 then (Option.bind (idx d0 x97) fun e123 =>
  Option.bind (idx d1 x97) fun e129 =>
  bif decide (e123 < e129) then (some (.inr (.inr (-1))))
  else (Option.bind (idx d0 x97) fun e138 =>
  Option.bind (idx d1 x97) fun e144 =>
  bif decide (e138 > e144) then (some (.inr (.inr 1)))
  else (some (.inl (IntKind.i64.wrap (x97 + 1))))))
  else (some (.inr (.inl ())))
noncomputable def r1_CompareInts (d0 : List Int) (d1 : List Int) : Option (Int) :=
  Option.bind (loopP (r1_CompareInts_l1 d0 d1) 0) fun t95 =>
  (match t95 with
  | .inl y99 =>
  bif decide ((d0.length : Int) < (d1.length : Int)) then (some (-1))
  else (bif decide ((d0.length : Int) > (d1.length : Int)) then (some 1)
  else (some 0))
  | .inr r =>
  some r)
noncomputable def r2_Has_l1 (d0 : List Int) (d1 : Int) (x21 : Int) : Option ((Int) ⊕ (((Unit) ⊕ (Bool)))) :=
  bif decide (x21 < (d0.length : Int)) then (Option.bind (idx d0 x21) fun e31 =>
  bif e31 == d1 then (some (.inr (.inr true)))
  else (some (.inl (IntKind.i64.wrap (x21 + 1)))))
  else (some (.inr (.inl ())))
noncomputable def r2_Has (d0 : List Int) (d1 : Int) : Option (Bool) :=
  Option.bind (loopP (r2_Has_l1 d0 d1) 0) fun t19 =>
  (match t19 with
  | .inl y23 =>
  some false
  | .inr r =>
  some r)
noncomputable def p_set_l2 (d0 : List Int) (x89 : Int) : Option ((Int) ⊕ (((Unit) ⊕ (Int)))) :=
  bif decide (x89 < (d0.length : Int)) then (Option.bind (idx d0 x89) fun e99 =>
  Option.bind (idx d0 (IntKind.i64.wrap (x89 - 1))) fun e105 =>
  bif decide (e99 ≤ e105) then (some (.inr (.inr 1)))
  else (some (.inl (IntKind.i64.wrap (x89 + 1)))))
  else (some (.inr (.inl ())))
noncomputable def p_set_l1 (d0 : List Int) (d1 : Int) (x31 : Int) : Option ((Int) ⊕ (((Unit) ⊕ (Int)))) :=
  bif decide (x31 < (d0.length : Int)) then (Option.bind (idx d0 x31) fun e39 =>
  Option.bind (bif decide (e39 < 0) then (some true)
  else (some (decide (e39 ≥ d1)))) fun y45 =>
  bif y45 then (some (.inr (.inr 5)))
  else (some (.inl (IntKind.i64.wrap (x31 + 1)))))
  else (some (.inr (.inl ())))
noncomputable def p_set (d0 : List Int) (d1 : Int) : Option (Int) :=
  Option.bind (loopP (p_set_l1 d0 d1) 0) fun t29 =>
  (match t29 with
  | .inl y33 =>
  Option.bind (loopP (p_set_l2 d0) 1) fun t87 =>
  (match t87 with
  | .inl y91 =>
  some 0
  | .inr r =>
  some r)
  | .inr r =>
  some r)
noncomputable def p_first_l1 (d0 : List Int) (x19 : Int) : Option ((Int) ⊕ (((Unit) ⊕ (Int)))) :=
  bif decide (x19 < (d0.length : Int)) then (Option.bind (idx d0 x19) fun e27 =>
  bif e27 != 0 then (some (.inr (.inr e27)))
  else (some (.inl (IntKind.i64.wrap (x19 + 1)))))
  else (some (.inr (.inl ())))
noncomputable def p_first (d0 : List Int) : Option (Int) :=
  Option.bind (loopP (p_first_l1 d0) 0) fun t17 =>
  (match t17 with
  | .inl y21 =>
  some 0
  | .inr r =>
  some r)
noncomputable def p_when (d0 : Bool) (d1 : Int) : Option (Int) :=
  bif d0 then (some d1)
  else (some 0)
noncomputable def p_counts_l1 (d0 : List Count) (d1 : Int) (x861 : Int) : Option ((Int) ⊕ (((Unit) ⊕ (Int)))) :=
  bif decide (x861 < (d0.length : Int)) then (Option.bind (idx d0 x861) fun e873 =>
  Option.bind (p_set e873.states d1) fun r1096 =>
  Option.bind (bif (e873.states.length : Int) == 0 then (Option.bind (p_when true 1) fun r1203 =>
  Option.bind (p_first [r1096, r1203]) fun r1222 =>
  some r1222)
  else (bif decide (e873.least < 1) then (Option.bind (p_when true 1) fun r1234 =>
  Option.bind (p_first [r1096, r1234]) fun r1253 =>
  some r1253)
  else (Option.bind (p_when (decide (e873.least > 3)) 1) fun r1265 =>
  Option.bind (p_first [r1096, r1265]) fun r1284 =>
  some r1284))) fun y1198 =>
  bif y1198 != 0 then (some (.inr (.inr y1198)))
  else (some (.inl (IntKind.i64.wrap (x861 + 1)))))
  else (some (.inr (.inl ())))
noncomputable def p_counts (d0 : List Count) (d1 : Int) : Option (Int) :=
  Option.bind (loopP (p_counts_l1 d0 d1) 0) fun t859 =>
  (match t859 with
  | .inl y865 =>
  some 0
  | .inr r =>
  some r)
noncomputable def sl_Indexint_int__l1 (d0 : List Int) (d1 : Int) (x19 : Int) : Option ((Int) ⊕ (((Unit) ⊕ (Int)))) :=
  bif decide (x19 < (d0.length : Int)) then (Option.bind (idx d0 x19) fun e27 =>
  bif d1 == e27 then (some (.inr (.inr x19)))
  else (some (.inl (IntKind.i64.wrap (x19 + 1)))))
  else (some (.inr (.inl ())))
noncomputable def sl_Indexint_int_ (d0 : List Int) (d1 : Int) : Option (Int) :=
  Option.bind (loopP (sl_Indexint_int__l1 d0 d1) 0) fun t17 =>
  (match t17 with
  | .inl y21 =>
  some (-1)
  | .inr r =>
  some r)
noncomputable def r2_within (d0 : Int) (d1 : Int) (d2 : Int) : Option (Bool) :=
  Option.bind (bif decide (d0 ≥ d1) then (some (decide (d0 ≤ d2)))
  else (some false)) fun y3 =>
  some y3
noncomputable def r7_has_l1 (d0 : List Int) (d1 : Int) (x21 : Int) : Option ((Int) ⊕ (((Unit) ⊕ (Bool)))) :=
  bif decide (x21 < (d0.length : Int)) then (Option.bind (idx d0 x21) fun e31 =>
  bif e31 == d1 then (some (.inr (.inr true)))
  else (some (.inl (IntKind.i64.wrap (x21 + 1)))))
  else (some (.inr (.inl ())))
noncomputable def r7_has (d0 : List Int) (d1 : Int) : Option (Bool) :=
  Option.bind (loopP (r7_has_l1 d0 d1) 0) fun t19 =>
  (match t19 with
  | .inl y23 =>
  some false
  | .inr r =>
  some r)
end Go.Lg
set_option autoImplicit true
set_option linter.unusedVariables false
set_option maxRecDepth 100000
namespace Go.Lg
open Go
noncomputable def r7_leaf_l1 (d0 : TreeAutomaton) (d1 : Int) (x119 : List Bool × Int) : Option ((List Bool × Int) ⊕ (List Bool)) :=
  bif decide (x119.2 < (d0.leaves.length : Int)) then (Option.bind (idx d0.leaves x119.2) fun e134 =>
  Option.bind (bif e134.letter == d1 then (Option.bind (idx d0.leaves x119.2) fun e160 =>
  Option.bind (idx x119.1 e160.to) fun e166 =>
  some (x119.1.set (e160.to : Int).toNat true))
  else (some x119.1)) fun y155 =>
  some (.inl (y155, IntKind.i64.wrap (x119.2 + 1))))
  else (some (.inr x119.1))
noncomputable def r7_leaf (d0 : TreeAutomaton) (d1 : Int) : Option (List Bool) :=
  Option.bind (mkN 1 d0.states) fun m11 =>
  Option.bind (loopP (r7_leaf_l1 d0 d1) (List.replicate m11 (false : Bool), 0)) fun t117 =>
  some t117
noncomputable def r7_branch_l1 (d0 : TreeAutomaton) (d1 : Int) (d2 : List Bool) (d3 : List Bool) (x183 : List Bool × Int) : Option ((List Bool × Int) ⊕ (List Bool)) :=
  bif decide (x183.2 < (d0.branches.length : Int)) then (Option.bind (idx d0.branches x183.2) fun e198 =>
  Option.bind (bif e198.letter == d1 then (Option.bind (idx d2 e198.first) fun e230 =>
  bif e230 then (Option.bind (idx d3 e198.second) fun e237 =>
  some e237)
  else (some false))
  else (some false)) fun y227 =>
  Option.bind (bif y227 then (Option.bind (idx x183.1 e198.to) fun e263 =>
  some (x183.1.set (e198.to : Int).toNat true))
  else (some x183.1)) fun y258 =>
  some (.inl (y258, IntKind.i64.wrap (x183.2 + 1))))
  else (some (.inr x183.1))
noncomputable def r7_branch (d0 : TreeAutomaton) (d1 : Int) (d2 : List Bool) (d3 : List Bool) : Option (List Bool) :=
  Option.bind (mkN 1 d0.states) fun m11 =>
  Option.bind (loopP (r7_branch_l1 d0 d1 d2 d3) (List.replicate m11 (false : Bool), 0)) fun t181 =>
  some t181
noncomputable def r7_meets_l1 (d1 : List Int) (d0 : List Bool) (x33 : Int) : Option ((Int) ⊕ (((Unit) ⊕ (Bool)))) :=
  bif decide (x33 < (d1.length : Int)) then (Option.bind (idx d1 x33) fun e43 =>
  Option.bind (idx d0 e43) fun e49 =>
  bif e49 then (some (.inr (.inr true)))
  else (some (.inl (IntKind.i64.wrap (x33 + 1)))))
  else (some (.inr (.inl ())))
noncomputable def r7_meets (d0 : List Bool) (d1 : List Int) : Option (Bool) :=
  Option.bind (loopP (r7_meets_l1 d1 d0) 0) fun t31 =>
  (match t31 with
  | .inl y35 =>
  some false
  | .inr r =>
  some r)
noncomputable def r7_alike_l2 (d1 : List Int) (d0 : TableR) (x1076 : Int) (d2 : Int) (d3 : Int) (x1426 : Int) : Option ((Int) ⊕ (((Unit) ⊕ (Bool)))) :=
  bif decide (x1426 < (d1.length : Int)) then (Option.bind (idx d0.branch x1076) fun e1438 =>
  Option.bind (idx e1438 d2) fun e1444 =>
  Option.bind (idx e1444 x1426) fun e1451 =>
  Option.bind (idx d1 e1451) fun e1457 =>
  Option.bind (idx d0.branch x1076) fun e1464 =>
  Option.bind (idx e1464 d3) fun e1470 =>
  Option.bind (idx e1470 x1426) fun e1476 =>
  Option.bind (idx d1 e1476) fun e1483 =>
  Option.bind (bif e1457 != e1483 then (some true)
  else (Option.bind (idx d0.branch x1076) fun e1549 =>
  Option.bind (idx e1549 x1426) fun e1555 =>
  Option.bind (idx e1555 d2) fun e1561 =>
  Option.bind (idx d1 e1561) fun e1567 =>
  Option.bind (idx d0.branch x1076) fun e1574 =>
  Option.bind (idx e1574 x1426) fun e1580 =>
  Option.bind (idx e1580 d3) fun e1587 =>
  Option.bind (idx d1 e1587) fun e1593 =>
  some (e1567 != e1593))) fun y1543 =>
  bif y1543 then (some (.inr (.inr false)))
  else (some (.inl (IntKind.i64.wrap (x1426 + 1)))))
  else (some (.inr (.inl ())))
noncomputable def r7_alike_l1 (d0 : TableR) (d1 : List Int) (d2 : Int) (d3 : Int) (x1076 : Int) : Option ((Int) ⊕ (((Unit) ⊕ (Bool)))) :=
  bif decide (x1076 < d0.letters) then (Option.bind (loopP (r7_alike_l2 d1 d0 x1076 d2 d3) 0) fun t1424 =>
  (match t1424 with
  | .inl y1428 =>
  some (.inl (IntKind.i64.wrap (x1076 + 1)))
  | .inr r =>
  some (.inr (.inr r))))
  else (some (.inr (.inl ())))
noncomputable def r7_alike (d0 : TableR) (d1 : List Int) (d2 : Int) (d3 : Int) : Option (Bool) :=
  Option.bind (idx d1 d2) fun e13 =>
  Option.bind (idx d1 d3) fun e19 =>
  bif e13 != e19 then (some false)
  else (Option.bind (loopP (r7_alike_l1 d0 d1 d2 d3) 0) fun t1074 =>
  (match t1074 with
  | .inl y1078 =>
  some true
  | .inr r =>
  some r))
noncomputable def r7_kinds_l1 (d0 : List Int) (x67 : Int × Int) : Option ((Int × Int) ⊕ (Int)) :=
  bif decide (x67.2 < (d0.length : Int)) then (Option.bind (slc d0 0 x67.2) fun l82 =>
  Option.bind (idx d0 x67.2) fun e87 =>
  Option.bind (r7_has l82 e87) fun r93 =>
  Option.bind (bif !r93 then (some (IntKind.i64.wrap (x67.1 + 1)))
  else (some x67.1)) fun y102 =>
  some (.inl (y102, IntKind.i64.wrap (x67.2 + 1))))
  else (some (.inr x67.1))
noncomputable def r7_kinds (d0 : List Int) : Option (Int) :=
  Option.bind (loopP (r7_kinds_l1 d0) (0, 0)) fun t65 =>
  some t65
noncomputable def p_index (d0 : Int) (d1 : Int) : Option (Int) :=
  Option.bind (bif decide (d0 < 0) then (Option.bind (p_when true 5) fun r24 =>
  some r24)
  else (Option.bind (p_when (decide (d0 ≥ d1)) 5) fun r33 =>
  some r33)) fun y19 =>
  some y19
noncomputable def r2_HasText_l1 (d0 : List ByteArray) (d1 : ByteArray) (x21 : Int) : Option ((Int) ⊕ (((Unit) ⊕ (Bool)))) :=
  bif decide (x21 < (d0.length : Int)) then (Option.bind (idx d0 x21) fun e31 =>
  bif e31.toList == d1.toList then (some (.inr (.inr true)))
  else (some (.inl (IntKind.i64.wrap (x21 + 1)))))
  else (some (.inr (.inl ())))
noncomputable def r2_HasText (d0 : List ByteArray) (d1 : ByteArray) : Option (Bool) :=
  Option.bind (loopP (r2_HasText_l1 d0 d1) 0) fun t19 =>
  (match t19 with
  | .inl y23 =>
  some false
  | .inr r =>
  some r)
noncomputable def r2_few (d0 : Linear) : Option (Bool) :=
  Option.bind (r2_within d0.c (-100) 100) fun r5 =>
  Option.bind (bif r5 then (Option.bind (r2_within d0.n (-100) 100) fun r47 =>
  bif r47 then (Option.bind (r2_within d0.t (-100) 100) fun r56 =>
  bif r56 then (Option.bind (r2_within d0.f (-100) 100) fun r65 =>
  some r65)
  else (some false))
  else (some false))
  else (some false)) fun y43 =>
  some y43
noncomputable def r2_reserved  : Option (List ByteArray) :=
  some [bs [112, 114, 111, 116, 111, 99, 111, 108], bs [116, 111, 112, 111, 108, 111, 103, 121], bs [115, 116, 97, 116, 101, 115], bs [109, 101, 115, 115, 97, 103, 101, 115], bs [118, 97, 108, 117, 101, 115], bs [102, 97, 117, 108, 116, 115], bs [114, 101, 115, 105, 108, 105, 101, 110, 99, 101], bs [105, 110, 105, 116, 105, 97, 108], bs [108, 101, 97, 100, 101, 114], bs [114, 117, 108, 101], bs [108, 111, 99, 97, 108], bs [112, 97, 105, 114], bs [98, 114, 111, 97, 100, 99, 97, 115, 116], bs [110, 101, 105, 103, 104, 98, 111, 114], bs [112, 97, 115, 115], bs [119, 104, 101, 110], bs [101, 120, 105, 115, 116, 115], bs [102, 111, 114, 97, 108, 108], bs [114, 101, 97, 100], bs [119, 114, 105, 116, 101], bs [115, 101, 110, 100], bs [97, 108, 108], bs [97, 116], bs [102, 105, 114, 115, 116], bs [108, 97, 115, 116], bs [108, 101, 102, 116], bs [114, 105, 103, 104, 116], bs [112, 97, 114, 101, 110, 116], bs [99, 104, 105, 108, 100], bs [112, 114, 111, 112, 101, 114, 116, 121], bs [110, 101, 118, 101, 114], bs [101, 118, 101, 110, 116, 117, 97, 108, 108, 121], bs [115, 116, 97, 114, 116], bs [99, 111, 117, 110, 116], bs [97, 100, 106, 97, 99, 101, 110, 116], bs [103, 111, 97, 108], bs [99, 108, 105, 113, 117, 101], bs [108, 105, 110, 101], bs [114, 105, 110, 103], bs [116, 114, 101, 101], bs [99, 114, 97, 115, 104], bs [111, 109, 105, 115, 115, 105, 111, 110], bs [97, 114, 98, 105, 116, 114, 97, 114, 121]]
noncomputable def r7_sameMarks_l1 (d0 : List Bool) (d1 : List Bool) (x39 : Int) : Option ((Int) ⊕ (((Unit) ⊕ (Bool)))) :=
  bif decide (x39 < (d0.length : Int)) then (Option.bind (idx d0 x39) fun e51 =>
  Option.bind (idx d1 x39) fun e57 =>
  bif !(e51 == e57) then (some (.inr (.inr false)))
  else (some (.inl (IntKind.i64.wrap (x39 + 1)))))
  else (some (.inr (.inl ())))
noncomputable def r7_sameMarks (d0 : List Bool) (d1 : List Bool) : Option (Bool) :=
  Option.bind (loopP (r7_sameMarks_l1 d0 d1) 0) fun t37 =>
  (match t37 with
  | .inl y41 =>
  some true
  | .inr r =>
  some r)
noncomputable def p_factor (d0 : Int) : Option (Bool) :=
  Option.bind (bif decide (d0 ≥ (-100)) then (some (decide (d0 ≤ 100)))
  else (some false)) fun y1 =>
  some y1
noncomputable def p_fits (d0 : Int) (d1 : Int) : Option (Bool) :=
  Option.bind (bif d0 == 1 then (some (d0 == 1))
  else (Option.bind (bif d0 == 2 then (some (d0 == 2))
  else (some (d0 == 3))) fun y9 =>
  some y9)) fun y7 =>
  bif y7 then (some (d1 == 1))
  else (Option.bind (bif d0 == 4 then (some (d0 == 4))
  else (some (d0 == 5))) fun y19 =>
  bif y19 then (some (d1 != 1))
  else (some false))
noncomputable def p_surplus (d0 : Rule) (d1 : Int) : Option (Bool) :=
  bif d0.kind == 1 then (Option.bind (bif decide ((IntKind.i64.wrap ((IntKind.i64.wrap ((IntKind.i64.wrap ((IntKind.i64.wrap ((IntKind.i64.wrap ((IntKind.i64.wrap ((IntKind.i64.wrap ((d0.response.length : Int) + 0)) + 0)) + 0)) + 0)) + (d0.left.length : Int))) + (d0.right.length : Int))) + (d0.parent.length : Int))) > 0) then (some true)
  else (bif d0.partnerFrom != 0 then (some true)
  else (bif d0.partnerTo != 0 then (some true)
  else (bif d0.at_ != 0 then (some true)
  else (bif d0.direction != 0 then (some true)
  else (bif (-1) != (-1) then (some true)
  else (some ((-1) != (-1))))))))) fun y60 =>
  some y60)
  else (bif d0.kind == 2 then (bif decide ((d0.response.length : Int) > 0) then (some true)
  else (Option.bind (bif decide ((IntKind.i64.wrap ((IntKind.i64.wrap ((IntKind.i64.wrap ((IntKind.i64.wrap ((IntKind.i64.wrap ((IntKind.i64.wrap ((IntKind.i64.wrap (0 + (d0.guards.length : Int))) + (d0.exists_.length : Int))) + (d0.forall_.length : Int))) + (d0.send.length : Int))) + (d0.left.length : Int))) + (d0.right.length : Int))) + (d0.parent.length : Int))) > 0) then (some true)
  else (bif 0 != 0 then (some true)
  else (bif 0 != 0 then (some true)
  else (bif d0.at_ != 0 then (some true)
  else (bif d0.direction != 0 then (some true)
  else (bif (-1) != (-1) then (some true)
  else (some ((-1) != (-1))))))))) fun y127 =>
  some y127))
  else (bif d0.kind == 3 then (Option.bind (bif decide ((IntKind.i64.wrap ((IntKind.i64.wrap ((IntKind.i64.wrap ((IntKind.i64.wrap ((IntKind.i64.wrap ((IntKind.i64.wrap ((IntKind.i64.wrap (0 + (d0.guards.length : Int))) + (d0.exists_.length : Int))) + (d0.forall_.length : Int))) + (d0.send.length : Int))) + (d0.left.length : Int))) + (d0.right.length : Int))) + (d0.parent.length : Int))) > 0) then (some true)
  else (bif d0.partnerFrom != 0 then (some true)
  else (bif d0.partnerTo != 0 then (some true)
  else (bif d0.at_ != 0 then (some true)
  else (bif d0.direction != 0 then (some true)
  else (bif (-1) != (-1) then (some true)
  else (some ((-1) != (-1))))))))) fun y188 =>
  some y188)
  else (bif d0.kind == 4 then (Option.bind (bif d1 == 4 then (some ([] : List Int))
  else (some d0.parent)) fun y218 =>
  Option.bind (bif decide ((IntKind.i64.wrap ((IntKind.i64.wrap ((IntKind.i64.wrap ((IntKind.i64.wrap ((IntKind.i64.wrap ((IntKind.i64.wrap ((IntKind.i64.wrap ((d0.response.length : Int) + (d0.guards.length : Int))) + (d0.exists_.length : Int))) + (d0.forall_.length : Int))) + (d0.send.length : Int))) + 0)) + 0)) + (y218.length : Int))) > 0) then (some true)
  else (bif d0.partnerFrom != 0 then (some true)
  else (bif d0.partnerTo != 0 then (some true)
  else (bif 0 != 0 then (some true)
  else (bif d0.direction != 0 then (some true)
  else (bif d0.read != (-1) then (some true)
  else (some (d0.write != (-1))))))))) fun y259 =>
  some y259)
  else (bif d0.kind == 5 then (Option.bind (bif decide ((IntKind.i64.wrap ((IntKind.i64.wrap ((IntKind.i64.wrap ((IntKind.i64.wrap ((IntKind.i64.wrap ((IntKind.i64.wrap ((IntKind.i64.wrap ((d0.response.length : Int) + (d0.guards.length : Int))) + (d0.exists_.length : Int))) + (d0.forall_.length : Int))) + (d0.send.length : Int))) + (d0.left.length : Int))) + (d0.right.length : Int))) + (d0.parent.length : Int))) > 0) then (some true)
  else (bif 0 != 0 then (some true)
  else (bif 0 != 0 then (some true)
  else (bif d0.at_ != 0 then (some true)
  else (bif 0 != 0 then (some true)
  else (bif d0.read != (-1) then (some true)
  else (some (d0.write != (-1))))))))) fun y322 =>
  some y322)
  else (Option.bind (bif decide ((IntKind.i64.wrap ((IntKind.i64.wrap ((IntKind.i64.wrap ((IntKind.i64.wrap ((IntKind.i64.wrap ((IntKind.i64.wrap ((IntKind.i64.wrap ((d0.response.length : Int) + (d0.guards.length : Int))) + (d0.exists_.length : Int))) + (d0.forall_.length : Int))) + (d0.send.length : Int))) + (d0.left.length : Int))) + (d0.right.length : Int))) + (d0.parent.length : Int))) > 0) then (some true)
  else (bif d0.partnerFrom != 0 then (some true)
  else (bif d0.partnerTo != 0 then (some true)
  else (bif d0.at_ != 0 then (some true)
  else (bif d0.direction != 0 then (some true)
  else (bif d0.read != (-1) then (some true)
  else (some (d0.write != (-1))))))))) fun y379 =>
  some y379)))))
noncomputable def p_value (d0 : Protocol) (d1 : Int) : Option (Int) :=
  Option.bind (bif decide (d1 < (-1)) then (Option.bind (p_when true 5) fun r44 =>
  some r44)
  else (Option.bind (p_when (decide (d1 ≥ (d0.values.length : Int))) 5) fun r55 =>
  some r55)) fun y39 =>
  some y39
noncomputable def p_responses_l1 (d0 : List Int) (d1 : Int) (x37 : Int) : Option ((Int) ⊕ (((Unit) ⊕ (Int)))) :=
  bif decide (x37 < (d0.length : Int)) then (Option.bind (idx d0 x37) fun e49 =>
  Option.bind (p_index e49 d1) fun r55 =>
  bif r55 != 0 then (some (.inr (.inr r55)))
  else (some (.inl (IntKind.i64.wrap (x37 + 1)))))
  else (some (.inr (.inl ())))
noncomputable def p_responses (d0 : List Int) (d1 : Int) : Option (Int) :=
  bif (d0.length : Int) != d1 then (some 1)
  else (Option.bind (loopP (p_responses_l1 d0 d1) 0) fun t35 =>
  (match t35 with
  | .inl y41 =>
  some 0
  | .inr r =>
  some r))
noncomputable def r2_unused (d0 : Protocol) (d1 : Rule) : Option (Bool) :=
  Option.bind (bif !(d1.kind == 1) then (bif decide ((d1.guards.length : Int) > 0) then (some true)
  else (bif decide ((d1.exists_.length : Int) > 0) then (some true)
  else (bif decide ((d1.forall_.length : Int) > 0) then (some true)
  else (some (decide ((d1.send.length : Int) > 0))))))
  else (some false)) fun y62 =>
  bif y62 then (some true)
  else (Option.bind (bif !(d1.kind == 1) then (bif !(d1.kind == 2) then (bif !(d1.kind == 3) then (bif d1.read != (-1) then (some true)
  else (some (d1.write != (-1))))
  else (some false))
  else (some false))
  else (some false)) fun y93 =>
  bif y93 then (some true)
  else (Option.bind (bif !(d1.kind == 2) then (bif !(d1.kind == 5) then (bif d1.partnerFrom != 0 then (some true)
  else (some (d1.partnerTo != 0)))
  else (some false))
  else (some false)) fun y110 =>
  bif y110 then (some true)
  else (Option.bind (bif !(d1.kind == 3) then (bif decide ((d1.response.length : Int) > 0) then (some true)
  else (bif !(d1.kind == 5) then (some (d1.direction != 0))
  else (some false)))
  else (bif !(d1.kind == 5) then (some (d1.direction != 0))
  else (some false))) fun y130 =>
  bif y130 then (some true)
  else (Option.bind (bif !(d1.kind == 4) then (bif d1.at_ != 0 then (some true)
  else (bif decide ((d1.left.length : Int) > 0) then (some true)
  else (some (decide ((d1.right.length : Int) > 0)))))
  else (some false)) fun y155 =>
  bif y155 then (some true)
  else (Option.bind (bif decide ((d1.parent.length : Int) > 0) then (bif d1.kind == 4 then (some (!(d0.topology == 4)))
  else (some true))
  else (some false)) fun y175 =>
  some y175)))))
noncomputable def sl_Indexstring_string__l1 (d0 : List ByteArray) (d1 : ByteArray) (x19 : Int) : Option ((Int) ⊕ (((Unit) ⊕ (Int)))) :=
  bif decide (x19 < (d0.length : Int)) then (Option.bind (idx d0 x19) fun e27 =>
  bif d1.toList == e27.toList then (some (.inr (.inr x19)))
  else (some (.inl (IntKind.i64.wrap (x19 + 1)))))
  else (some (.inr (.inl ())))
noncomputable def sl_Indexstring_string_ (d0 : List ByteArray) (d1 : ByteArray) : Option (Int) :=
  Option.bind (loopP (sl_Indexstring_string__l1 d0 d1) 0) fun t17 =>
  (match t17 with
  | .inl y21 =>
  some (-1)
  | .inr r =>
  some r)
noncomputable def r2_SameThreshold (d0 : Threshold) (d1 : Threshold) : Option (Bool) :=
  Option.bind (bif d0.message == d1.message then (bif d0.coef == d1.coef then (some ([d0.bound.c, d0.bound.n, d0.bound.t, d0.bound.f] == [d1.bound.c, d1.bound.n, d1.bound.t, d1.bound.f]))
  else (some false))
  else (some false)) fun y14 =>
  some y14
end Go.Lg
set_option autoImplicit true
set_option linter.unusedVariables false
set_option maxRecDepth 100000
namespace Go.Lg
open Go
noncomputable def l2_Big_l1 (d0 : Protocol) (x169 : Int) : Option ((Int) ⊕ (((Unit) ⊕ (Bool)))) :=
  bif decide (x169 < (d0.rules.length : Int)) then (Option.bind (idx d0.rules x169) fun e183 =>
  Option.bind (l2_bigRule e183) fun r206 =>
  bif r206 then (some (.inr (.inr true)))
  else (some (.inl (IntKind.i64.wrap (x169 + 1)))))
  else (some (.inr (.inl ())))
noncomputable def l2_Big (d0 : Protocol) : Option (Bool) :=
  Option.bind (bif decide ((d0.name.size : Int) > 500) then (some true)
  else (bif decide ((d0.states.length : Int) > 60) then (some true)
  else (bif decide ((d0.messages.length : Int) > 60) then (some true)
  else (bif decide ((d0.values.length : Int) > 60) then (some true)
  else (bif decide ((d0.resilience.length : Int) > 60) then (some true)
  else (bif decide ((d0.initial.length : Int) > 60) then (some true)
  else (bif decide ((d0.leader.length : Int) > 60) then (some true)
  else (some (decide ((d0.rules.length : Int) > 30)))))))))) fun y55 =>
  bif y55 then (some true)
  else (Option.bind (loopP (l2_Big_l1 d0) 0) fun t167 =>
  (match t167 with
  | .inl y173 =>
  Option.bind (l2_bigNames d0.states) fun r218 =>
  Option.bind (bif r218 then (some true)
  else (Option.bind (l2_bigNames d0.messages) fun r249 =>
  bif r249 then (some true)
  else (Option.bind (l2_bigNames d0.values) fun r258 =>
  some r258))) fun y244 =>
  some y244
  | .inr r =>
  some r))
noncomputable def r1_SameInts (d0 : List Int) (d1 : List Int) : Option (Bool) :=
  Option.bind (r1_CompareInts d0 d1) fun r1 =>
  some (r1 == 0)
noncomputable def sl_Containsint_int_ (d0 : List Int) (d1 : Int) : Option (Bool) :=
  Option.bind (sl_Indexint_int_ d0 d1) fun r1 =>
  some (decide (r1 ≥ 0))
noncomputable def p_adjacent (d0 : Protocol) (d1 : List Int) : Option (Int) :=
  bif (d1.length : Int) == 0 then (some 0)
  else (bif d0.topology == 1 then (some 6)
  else (bif (d1.length : Int) != 2 then (some 1)
  else (Option.bind (idx d1 0) fun e76 =>
  Option.bind (idx d1 1) fun e84 =>
  Option.bind (p_index e76 (d0.states.length : Int)) fun r91 =>
  Option.bind (p_index e84 (d0.states.length : Int)) fun r99 =>
  Option.bind (p_first [r91, r99]) fun r118 =>
  some r118)))
noncomputable def r2_ValidName_l1 (d0 : ByteArray) (x159 : Int) : Option ((Int) ⊕ (((Unit) ⊕ (Bool)))) :=
  bif decide (x159 < (d0.size : Int)) then (Option.bind (sidx d0 x159) fun e167 =>
  Option.bind (bif decide (e167 ≥ 97) then (Option.bind (sidx d0 x159) fun e200 =>
  bif !(decide (e200 ≤ 122)) then (Option.bind (sidx d0 x159) fun e202 =>
  bif decide (e202 ≥ 48) then (Option.bind (sidx d0 x159) fun e205 =>
  bif !(decide (e205 ≤ 57)) then (Option.bind (sidx d0 x159) fun e208 =>
  some (e208 != 95))
  else (some false))
  else (Option.bind (sidx d0 x159) fun e211 =>
  some (e211 != 95)))
  else (some false))
  else (Option.bind (sidx d0 x159) fun e216 =>
  bif decide (e216 ≥ 48) then (Option.bind (sidx d0 x159) fun e219 =>
  bif !(decide (e219 ≤ 57)) then (Option.bind (sidx d0 x159) fun e222 =>
  some (e222 != 95))
  else (some false))
  else (Option.bind (sidx d0 x159) fun e225 =>
  some (e225 != 95)))) fun y197 =>
  bif y197 then (some (.inr (.inr false)))
  else (some (.inl (IntKind.i64.wrap (x159 + 1)))))
  else (some (.inr (.inl ())))
noncomputable def r2_ValidName (d0 : ByteArray) : Option (Bool) :=
  Option.bind (r2_within (d0.size : Int) 1 12) fun r1 =>
  Option.bind (bif !r1 then (some true)
  else (Option.bind (sidx d0 0) fun e18 =>
  bif decide (e18 < 97) then (some true)
  else (Option.bind (sidx d0 0) fun e21 =>
  some (decide (e21 > 122))))) fun y15 =>
  bif y15 then (some false)
  else (Option.bind (loopP (r2_ValidName_l1 d0) 0) fun t157 =>
  (match t157 with
  | .inl y161 =>
  Option.bind (r2_reserved) fun r235 =>
  Option.bind (r2_HasText r235 d0) fun r243 =>
  some (!r243)
  | .inr r =>
  some r))
noncomputable def r2_Set_l2 (d0 : List Int) (x109 : Int) : Option ((Int) ⊕ (((Unit) ⊕ (Int)))) :=
  bif decide (x109 < (d0.length : Int)) then (Option.bind (idx d0 x109) fun e121 =>
  Option.bind (idx d0 (IntKind.i64.wrap (x109 - 1))) fun e127 =>
  bif decide (e121 ≤ e127) then (some (.inr (.inr 1)))
  else (some (.inl (IntKind.i64.wrap (x109 + 1)))))
  else (some (.inr (.inl ())))
noncomputable def r2_Set_l1 (d0 : List Int) (d1 : Int) (x39 : Int) : Option ((Int) ⊕ (((Unit) ⊕ (Int)))) :=
  bif decide (x39 < (d0.length : Int)) then (Option.bind (idx d0 x39) fun e53 =>
  Option.bind (r2_within e53 0 (IntKind.i64.wrap (d1 - 1))) fun r59 =>
  bif !r59 then (some (.inr (.inr 5)))
  else (some (.inl (IntKind.i64.wrap (x39 + 1)))))
  else (some (.inr (.inl ())))
noncomputable def r2_Set (d0 : List Int) (d1 : Int) : Option (Int) :=
  Option.bind (loopP (r2_Set_l1 d0 d1) 0) fun t37 =>
  (match t37 with
  | .inl y43 =>
  Option.bind (loopP (r2_Set_l2 d0) 1) fun t107 =>
  (match t107 with
  | .inl y111 =>
  some 0
  | .inr r =>
  some r)
  | .inr r =>
  some r)
noncomputable def p_bounded (d0 : Linear) : Option (Bool) :=
  Option.bind (p_factor d0.c) fun r5 =>
  Option.bind (bif r5 then (Option.bind (p_factor d0.n) fun r47 =>
  bif r47 then (Option.bind (p_factor d0.t) fun r56 =>
  bif r56 then (Option.bind (p_factor d0.f) fun r65 =>
  some r65)
  else (some false))
  else (some false))
  else (some false)) fun y43 =>
  some y43
noncomputable def sl_Containsstring_string_ (d0 : List ByteArray) (d1 : ByteArray) : Option (Bool) :=
  Option.bind (sl_Indexstring_string_ d0 d1) fun r1 =>
  some (decide (r1 ≥ 0))
noncomputable def p_guards_l1 (d1 : List Threshold) (d0 : Protocol) (x883 : Int) : Option ((Int) ⊕ (((Unit) ⊕ (Int)))) :=
  bif decide (x883 < (d1.length : Int)) then (Option.bind (idx d1 x883) fun e895 =>
  Option.bind (p_index e895.message (d0.messages.length : Int)) fun r1119 =>
  Option.bind (bif decide (e895.coef < 1) then (Option.bind (p_when true 1) fun r1226 =>
  Option.bind (p_bounded (⟨e895.bound.c, e895.bound.n, e895.bound.t, e895.bound.f⟩ : Linear)) fun r1234 =>
  Option.bind (p_when (!r1234) 4) fun r1242 =>
  Option.bind (p_first [r1119, r1226, r1242]) fun r1261 =>
  some r1261)
  else (Option.bind (p_when (decide (e895.coef > 100)) 1) fun r1273 =>
  Option.bind (p_bounded (⟨e895.bound.c, e895.bound.n, e895.bound.t, e895.bound.f⟩ : Linear)) fun r1281 =>
  Option.bind (p_when (!r1281) 4) fun r1289 =>
  Option.bind (p_first [r1119, r1273, r1289]) fun r1308 =>
  some r1308)) fun y1221 =>
  bif y1221 != 0 then (some (.inr (.inr y1221)))
  else (some (.inl (IntKind.i64.wrap (x883 + 1)))))
  else (some (.inr (.inl ())))
noncomputable def p_guards (d0 : Protocol) (d1 : List Threshold) : Option (Int) :=
  Option.bind (loopP (p_guards_l1 d1 d0) 0) fun t881 =>
  (match t881 with
  | .inl y887 =>
  Option.bind (p_when (decide ((d1.length : Int) > 2)) 4) fun r1327 =>
  some r1327
  | .inr r =>
  some r)
noncomputable def r2_ThresholdIndex_l1 (d0 : List Threshold) (d1 : Threshold) (x49 : Int) : Option ((Int) ⊕ (((Unit) ⊕ (Int)))) :=
  bif decide (x49 < (d0.length : Int)) then (Option.bind (idx d0 x49) fun e65 =>
  Option.bind (r2_SameThreshold e65 d1) fun r72 =>
  bif r72 then (some (.inr (.inr x49)))
  else (some (.inl (IntKind.i64.wrap (x49 + 1)))))
  else (some (.inr (.inl ())))
noncomputable def r2_ThresholdIndex (d0 : List Threshold) (d1 : Threshold) : Option (Int) :=
  Option.bind (loopP (r2_ThresholdIndex_l1 d0 d1) 0) fun t47 =>
  (match t47 with
  | .inl y53 =>
  some (-1)
  | .inr r =>
  some r)
noncomputable def l7_big (d0 : Protocol) (d1 : Property) : Option (Bool) :=
  Option.bind (l2_Big d0) fun r31 =>
  Option.bind (bif r31 then (some true)
  else (Option.bind (l2_BigProperty d1) fun r51 =>
  some r51)) fun y47 =>
  some y47
noncomputable def r7_SameAutomaton_l2 (d0 : TreeAutomaton) (d1 : TreeAutomaton) (x176 : Int) : Option ((Int) ⊕ (((Unit) ⊕ (Bool)))) :=
  bif decide (x176 < (d0.branches.length : Int)) then (Option.bind (idx d0.branches x176) fun e188 =>
  Option.bind (idx d1.branches x176) fun e196 =>
  bif !([e188.letter, e188.first, e188.second, e188.to] == [e196.letter, e196.first, e196.second, e196.to]) then (some (.inr (.inr false)))
  else (some (.inl (IntKind.i64.wrap (x176 + 1)))))
  else (some (.inr (.inl ())))
noncomputable def r7_SameAutomaton_l1 (d0 : TreeAutomaton) (d1 : TreeAutomaton) (x103 : Int) : Option ((Int) ⊕ (((Unit) ⊕ (Bool)))) :=
  bif decide (x103 < (d0.leaves.length : Int)) then (Option.bind (idx d0.leaves x103) fun e115 =>
  Option.bind (idx d1.leaves x103) fun e123 =>
  bif !([e115.letter, e115.to] == [e123.letter, e123.to]) then (some (.inr (.inr false)))
  else (some (.inl (IntKind.i64.wrap (x103 + 1)))))
  else (some (.inr (.inl ())))
noncomputable def r7_SameAutomaton (d0 : TreeAutomaton) (d1 : TreeAutomaton) : Option (Bool) :=
  Option.bind (bif d0.letters != d1.letters then (some true)
  else (bif d0.states != d1.states then (some true)
  else (bif (d0.leaves.length : Int) != (d1.leaves.length : Int) then (some true)
  else (some ((d0.branches.length : Int) != (d1.branches.length : Int)))))) fun y38 =>
  bif y38 then (some false)
  else (Option.bind (loopP (r7_SameAutomaton_l1 d0 d1) 0) fun t101 =>
  (match t101 with
  | .inl y105 =>
  Option.bind (loopP (r7_SameAutomaton_l2 d0 d1) 0) fun t174 =>
  (match t174 with
  | .inl y178 =>
  Option.bind (r1_SameInts d0.accept d1.accept) fun r207 =>
  some r207
  | .inr r =>
  some r)
  | .inr r =>
  some r))
end Go.Lg
set_option autoImplicit true
set_option linter.unusedVariables false
set_option maxRecDepth 100000
namespace Go.Lg
open Go
noncomputable def t_initialTrees_1 (k0d : List Int) (k1d : List Int) (d0 : Int) : Option (part) :=
  Option.bind (sl_Containsint_int_ k0d d0) fun r32 =>
  Option.bind (sl_Containsint_int_ k1d d0) fun r40 =>
  some (⟨r32, r40⟩ : part)
noncomputable def t_initialTrees_2 (k0d : List Int) (k1d : List Int) (d0 : Int) (d1 : part) (d2 : part) : Option (part) :=
  Option.bind (bif d1.inner then (some d2.inner)
  else (some false)) fun y12 =>
  Option.bind (bif y12 then (Option.bind (sl_Containsint_int_ k0d d0) fun r64 =>
  bif y12 then (Option.bind (sl_Containsint_int_ k1d d0) fun r75 =>
  some (r64, r75))
  else (some (r64, false)))
  else (bif y12 then (Option.bind (sl_Containsint_int_ k1d d0) fun r90 =>
  some (false, r90))
  else (some (false, false)))) fun y58 =>
  some (⟨y58.1, y58.2⟩ : part)
noncomputable def t_Validate_1 (k0d : TreeAutomaton) (d0 : Int) : Option (Bool) :=
  Option.bind (bif decide (0 ≤ d0) then (some (decide (d0 < k0d.letters)))
  else (some false)) fun y5 =>
  some y5
noncomputable def t_Validate_2 (k0d : TreeAutomaton) (d0 : Int) : Option (Bool) :=
  Option.bind (bif decide (0 ≤ d0) then (some (decide (d0 < k0d.states)))
  else (some false)) fun y5 =>
  some y5
noncomputable def r7_classes_l4 (x2361 : List Int × List Int × Int) (d0 : TableR) (x1812 : List Int × Int) (x2507 : Int) : Option ((Int) ⊕ (Int)) :=
  Option.bind (bif decide (x2507 < (x2361.2.1.length : Int)) then (Option.bind (idx x2361.2.1 x2507) fun e2551 =>
  Option.bind (r7_alike d0 x1812.1 e2551 x2361.2.2) fun r2562 =>
  some (!r2562))
  else (some false)) fun y2546 =>
  bif y2546 then (some (.inl (IntKind.i64.wrap (x2507 + 1))))
  else (some (.inr x2507))
noncomputable def r7_classes_l3 (d0 : TableR) (x1812 : List Int × Int) (x2361 : List Int × List Int × Int) : Option ((List Int × List Int × Int) ⊕ (List Int)) :=
  bif decide (x2361.2.2 < (d0.accept.length : Int)) then (Option.bind (loopP (r7_classes_l4 x2361 d0 x1812) 0) fun t2505 =>
  Option.bind (bif t2505 == (x2361.2.1.length : Int) then (Option.bind (app 8 x2361.2.1 [x2361.2.2]) fun r2608 =>
  some r2608)
  else (some x2361.2.1)) fun y2597 =>
  Option.bind (idx x2361.1 x2361.2.2) fun e2619 =>
  some (.inl (x2361.1.set (x2361.2.2 : Int).toNat t2505, y2597, IntKind.i64.wrap (x2361.2.2 + 1))))
  else (some (.inr x2361.1))
noncomputable def r7_classes_l2 (d1 : Int) (d0 : TableR) (x1812 : List Int × Int) : Option ((List Int × Int) ⊕ (((List Int) ⊕ (List Int)))) :=
  Option.bind (bif decide (d1 < 0) then (some true)
  else (some (decide (x1812.2 < d1)))) fun y1830 =>
  bif y1830 then (Option.bind (mkN 8 (d0.accept.length : Int)) fun m1836 =>
  Option.bind (loopP (r7_classes_l3 d0 x1812) (List.replicate m1836 (0 : Int), ([] : List Int), 0)) fun t2359 =>
  Option.bind (r7_kinds t2359) fun r2636 =>
  Option.bind (r7_kinds x1812.1) fun r2652 =>
  bif r2636 == r2652 then (some (.inr (.inr t2359)))
  else (some (.inl (t2359, IntKind.i64.wrap (x1812.2 + 1)))))
  else (some (.inr (.inl x1812.1)))
noncomputable def r7_classes_l1 (d0 : TableR) (x89 : List Int × Int) : Option ((List Int × Int) ⊕ (List Int)) :=
  bif decide (x89.2 < (d0.accept.length : Int)) then (Option.bind (idx d0.accept x89.2) fun e102 =>
  Option.bind (bif e102 then (Option.bind (idx x89.1 x89.2) fun e121 =>
  some (x89.1.set (x89.2 : Int).toNat 1))
  else (some x89.1)) fun y116 =>
  some (.inl (y116, IntKind.i64.wrap (x89.2 + 1))))
  else (some (.inr x89.1))
noncomputable def r7_classes (d0 : TableR) (d1 : Int) : Option (List Int) :=
  Option.bind (mkN 8 (d0.accept.length : Int)) fun m13 =>
  Option.bind (loopP (r7_classes_l1 d0) (List.replicate m13 (0 : Int), 0)) fun t87 =>
  Option.bind (loopP (r7_classes_l2 d1 d0) (t87, 0)) fun t1810 =>
  (match t1810 with
  | .inl y1819 =>
  some y1819
  | .inr r =>
  some r)
noncomputable def t_machine_minimal_1 (k0d : List Int) (k1d : Option machine) (d0 : Int) : Option (Int) :=
  Option.bind (k1d) fun e9 =>
  Option.bind (idx e9.leaf d0) fun e15 =>
  Option.bind (idx k0d e15) fun e22 =>
  some e22
noncomputable def t_machine_minimal_2 (k0d : Option machine) (k1d : List Int) (d0 : Int) : Option (Bool) :=
  Option.bind (k0d) fun e7 =>
  Option.bind (idx k1d d0) fun e15 =>
  Option.bind (idx e7.accept e15) fun e22 =>
  some e22
noncomputable def t_machine_minimal_3 (k0d : List Int) (k1d : Option machine) (k2d : List Int) (d0 : Int) (d1 : Int) (d2 : Int) : Option (Int) :=
  Option.bind (k1d) fun e9 =>
  Option.bind (idx k2d d1) fun e17 =>
  Option.bind (idx e9.branch e17) fun e24 =>
  Option.bind (idx k2d d2) fun e32 =>
  Option.bind (idx e24 e32) fun e38 =>
  Option.bind (idx e38 d0) fun e45 =>
  Option.bind (idx k0d e45) fun e51 =>
  some e51
noncomputable def r7_sets_number_l1 (x0m : List (List Bool)) (d1 : List Bool) (x41 : Int) : Option ((Int) ⊕ (((Unit) ⊕ (Int × List (List Bool))))) :=
  bif decide (x41 < (x0m.length : Int)) then (Option.bind (idx x0m x41) fun e55 =>
  Option.bind (r7_sameMarks e55 d1) fun r62 =>
  bif r62 then (some (.inr (.inr (x41, x0m))))
  else (some (.inl (IntKind.i64.wrap (x41 + 1)))))
  else (some (.inr (.inl ())))
noncomputable def r7_sets_number (x0m : List (List Bool)) (d1 : List Bool) : Option (Int × List (List Bool)) :=
  Option.bind (loopP (r7_sets_number_l1 x0m d1) 0) fun t39 =>
  (match t39 with
  | .inl y45 =>
  Option.bind (app 24 x0m [d1]) fun r80 =>
  some (IntKind.i64.wrap ((r80.length : Int) - 1), r80)
  | .inr r =>
  some r)
noncomputable def t_determine_1 (k0d : List U64) (d0 : Int) : Option (U64) :=
  Option.bind (idx k0d d0) fun e3 =>
  some (U64.mk e3.i)
noncomputable def t_determine_2_l1 (e3 : List Branch) (d1 : U64) (d2 : U64) (x91 : Int × Int) : Option ((Int × Int) ⊕ (Int)) :=
  bif decide (x91.2 < (e3.length : Int)) then (Option.bind (idx e3 x91.2) fun e98 =>
  Option.bind (shrI d1.i e98.first) fun e110 =>
  Option.bind (bif (IntKind.u64.wrap (BitVec.ofInt 64 e110 &&& BitVec.ofInt 64 1).toNat) == 1 then (Option.bind (shrI d2.i e98.second) fun e119 =>
  some ((IntKind.u64.wrap (BitVec.ofInt 64 e119 &&& BitVec.ofInt 64 1).toNat) == 1))
  else (some false)) fun y116 =>
  Option.bind (bif y116 then (Option.bind (shl64 1 e98.to) fun e130 =>
  some (IntKind.u64.wrap (BitVec.ofInt 64 x91.1 ||| BitVec.ofInt 64 e130).toNat))
  else (some x91.1)) fun y128 =>
  some (.inl (y128, IntKind.i64.wrap (x91.2 + 1))))
  else (some (.inr x91.1))
noncomputable def t_determine_2 (k0d : List (List Branch)) (d0 : Int) (d1 : U64) (d2 : U64) : Option (U64) :=
  Option.bind (idx k0d d0) fun e3 =>
  Option.bind (loopP (t_determine_2_l1 e3 d1 d2) (0, 0)) fun t89 =>
  some (U64.mk t89)
noncomputable def t_determine_3 (k0d : U64) (d0 : U64) : Option (Bool) :=
  some ((IntKind.u64.wrap (BitVec.ofInt 64 d0.i &&& BitVec.ofInt 64 k0d.i).toNat) != 0)
noncomputable def r2_distinct_l2 (d0 : Protocol) (x575 : List Threshold × Int) (x761 : List Threshold × Int) : Option ((List Threshold × Int) ⊕ (List Threshold)) :=
  Option.bind (idx d0.rules x575.2) fun e778 =>
  bif decide (x761.2 < (e778.guards.length : Int)) then (Option.bind (idx d0.rules x575.2) fun e787 =>
  Option.bind (idx e787.guards x761.2) fun e793 =>
  Option.bind (r2_ThresholdIndex x761.1 e793) fun r811 =>
  Option.bind (bif decide (r811 < 0) then (Option.bind (app 48 x761.1 [e793]) fun r846 =>
  some r846)
  else (some x761.1)) fun y835 =>
  some (.inl (y835, IntKind.i64.wrap (x761.2 + 1))))
  else (some (.inr x761.1))
noncomputable def r2_distinct_l1 (d0 : Protocol) (x575 : List Threshold × Int) : Option ((List Threshold × Int) ⊕ (List Threshold)) :=
  bif decide (x575.2 < (d0.rules.length : Int)) then (Option.bind (loopP (r2_distinct_l2 d0 x575) (x575.1, 0)) fun t759 =>
  some (.inl (t759, IntKind.i64.wrap (x575.2 + 1))))
  else (some (.inr x575.1))
noncomputable def r2_distinct (d0 : Protocol) : Option (List Threshold) :=
  Option.bind (loopP (r2_distinct_l1 d0) (([] : List Threshold), 0)) fun t573 =>
  some t573
noncomputable def p_ruleError_1 (k0d : Rule) (d0 : Rule) : Option (Bool) :=
  some (d0.name.toList == k0d.name.toList)
noncomputable def sl_IndexFuncapi_Rule_api_Rule__l1 (d0 : List Rule) (d1 : Rule → Option Bool) (x81 : Int) : Option ((Int) ⊕ (((Unit) ⊕ (Int)))) :=
  bif decide (x81 < (d0.length : Int)) then (Option.bind (idx d0 x81) fun e93 =>
  Option.bind (d1 e93) fun r116 =>
  bif r116 then (some (.inr (.inr x81)))
  else (some (.inl (IntKind.i64.wrap (x81 + 1)))))
  else (some (.inr (.inl ())))
noncomputable def sl_IndexFuncapi_Rule_api_Rule_ (d0 : List Rule) (d1 : Rule → Option Bool) : Option (Int) :=
  Option.bind (loopP (sl_IndexFuncapi_Rule_api_Rule__l1 d0 d1) 0) fun t79 =>
  (match t79 with
  | .inl y85 =>
  some (-1)
  | .inr r =>
  some r)
noncomputable def sl_ContainsFuncapi_Rule_api_Rule_ (d0 : List Rule) (d1 : Rule → Option Bool) : Option (Bool) :=
  Option.bind (sl_IndexFuncapi_Rule_api_Rule_ d0 d1) fun r1 =>
  some (decide (r1 ≥ 0))
end Go.Lg
set_option autoImplicit true
set_option linter.unusedVariables false
set_option maxRecDepth 100000
namespace Go.Lg
open Go
noncomputable def t_builder_meet (x2m : Mp part) (x3m : List part) (d1 : part) : Option (Int × Mp part × List part) :=
  Option.bind (klookB x2m d1) fun r7 =>
  Option.bind (bif !r7.isSome then (Option.bind (kputB x2m d1 (x3m.length : Int)) fun r66 =>
  Option.bind (app 2 x3m [d1]) fun r96 =>
  some ((x3m.length : Int), r66, r96))
  else (some (r7.getD 0, x2m, x3m))) fun y54 =>
  some (y54.1, y54.2.1, y54.2.2)
noncomputable def t_builder_meet4 (x2m : Mp Int) (x3m : List Int) (d1 : Int) : Option (Int × Mp Int × List Int) :=
  Option.bind (klookB x2m d1) fun r1 =>
  Option.bind (bif !r1.isSome then (Option.bind (kputB x2m d1 (x3m.length : Int)) fun r38 =>
  Option.bind (app 8 x3m [d1]) fun r50 =>
  some ((x3m.length : Int), r38, r50))
  else (some (r1.getD 0, x2m, x3m))) fun y28 =>
  some (y28.1, y28.2.1, y28.2.2)
noncomputable def t_builder_meet6 (x2m : Mp U64) (x3m : List U64) (d1 : U64) : Option (Int × Mp U64 × List U64) :=
  Option.bind (klookB x2m (U64.mk d1.i)) fun r1 =>
  Option.bind (bif !r1.isSome then (Option.bind (kputB x2m (U64.mk d1.i) (x3m.length : Int)) fun r38 =>
  Option.bind (app 8 x3m [(U64.mk d1.i)]) fun r50 =>
  some ((x3m.length : Int), r38, r50))
  else (some (r1.getD 0, x2m, x3m))) fun y28 =>
  some (y28.1, y28.2.1, y28.2.2)
noncomputable def t_Validate_l3 (d0 : TreeAutomaton) (x469 : Int) : Option ((Int) ⊕ (((Unit) ⊕ (Int)))) :=
  bif decide (x469 < (d0.branches.length : Int)) then (Option.bind (idx d0.branches x469) fun e481 =>
  Option.bind (t_Validate_1 d0 e481.letter) fun r493 =>
  Option.bind (bif !r493 then (some true)
  else (Option.bind (t_Validate_2 d0 e481.first) fun r542 =>
  bif !r542 then (some true)
  else (Option.bind (t_Validate_2 d0 e481.second) fun r553 =>
  bif !r553 then (some true)
  else (Option.bind (t_Validate_2 d0 e481.to) fun r563 =>
  some (!r563))))) fun y534 =>
  bif y534 then (some (.inr (.inr 1)))
  else (some (.inl (IntKind.i64.wrap (x469 + 1)))))
  else (some (.inr (.inl ())))
noncomputable def t_Validate_l2 (d0 : TreeAutomaton) (x207 : Int) : Option ((Int) ⊕ (((Unit) ⊕ (Int)))) :=
  bif decide (x207 < (d0.leaves.length : Int)) then (Option.bind (idx d0.leaves x207) fun e219 =>
  Option.bind (t_Validate_1 d0 e219.letter) fun r231 =>
  Option.bind (bif !r231 then (some true)
  else (Option.bind (t_Validate_2 d0 e219.to) fun r255 =>
  some (!r255))) fun y249 =>
  bif y249 then (some (.inr (.inr 1)))
  else (some (.inl (IntKind.i64.wrap (x207 + 1)))))
  else (some (.inr (.inl ())))
noncomputable def t_Validate_l1 (d0 : TreeAutomaton) (x71 : Int) : Option ((Int) ⊕ (((Unit) ⊕ (Int)))) :=
  bif decide (x71 < (d0.accept.length : Int)) then (Option.bind (idx d0.accept x71) fun e83 =>
  Option.bind (t_Validate_2 d0 e83) fun r89 =>
  bif !r89 then (some (.inr (.inr 1)))
  else (some (.inl (IntKind.i64.wrap (x71 + 1)))))
  else (some (.inr (.inl ())))
noncomputable def t_Validate (d0 : TreeAutomaton) : Option (Int) :=
  Option.bind (bif decide (d0.letters < 1) then (some true)
  else (bif decide (d0.letters > 8) then (some true)
  else (bif decide (d0.states < 0) then (some true)
  else (some (decide (d0.states > 64)))))) fun y17 =>
  bif y17 then (some 1)
  else (Option.bind (loopP (t_Validate_l1 d0) 0) fun t69 =>
  (match t69 with
  | .inl y75 =>
  Option.bind (loopP (t_Validate_l2 d0) 0) fun t205 =>
  (match t205 with
  | .inl y211 =>
  Option.bind (loopP (t_Validate_l3 d0) 0) fun t467 =>
  (match t467 with
  | .inl y473 =>
  some 0
  | .inr r =>
  some r)
  | .inr r =>
  some r)
  | .inr r =>
  some r))
noncomputable def r7_canonical_l10 (t7748 : List Int × List Int) (d0 : TableR) (x14141 : Int × List Leaf × List Branch) (x15019 : Int × List Branch) (r14 : List Int) (x15283 : Int × List Branch) : Option ((Int × List Branch) ⊕ (List Branch)) :=
  bif decide (x15283.1 < (t7748.2.length : Int)) then (Option.bind (idx d0.branch x14141.1) fun e15359 =>
  Option.bind (idx t7748.2 x15019.1) fun e15365 =>
  Option.bind (idx e15359 e15365) fun e15371 =>
  Option.bind (idx t7748.2 x15283.1) fun e15378 =>
  Option.bind (idx e15371 e15378) fun e15384 =>
  Option.bind (idx r14 e15384) fun e15390 =>
  Option.bind (idx t7748.1 e15390) fun e15397 =>
  Option.bind (app 32 x15283.2 [(⟨x14141.1, x15019.1, x15283.1, e15397⟩ : Branch)]) fun r15409 =>
  some (.inl (IntKind.i64.wrap (x15283.1 + 1), r15409)))
  else (some (.inr x15283.2))
noncomputable def r7_canonical_l9 (t7748 : List Int × List Int) (d0 : TableR) (x14141 : Int × List Leaf × List Branch) (r14 : List Int) (x15019 : Int × List Branch) : Option ((Int × List Branch) ⊕ (List Branch)) :=
  bif decide (x15019.1 < (t7748.2.length : Int)) then (Option.bind (loopP (r7_canonical_l10 t7748 d0 x14141 x15019 r14) (0, x15019.2)) fun t15281 =>
  some (.inl (IntKind.i64.wrap (x15019.1 + 1), t15281)))
  else (some (.inr x15019.2))
noncomputable def r7_canonical_l8 (d0 : TableR) (r14 : List Int) (t7748 : List Int × List Int) (x14141 : Int × List Leaf × List Branch) : Option ((Int × List Leaf × List Branch) ⊕ (List Leaf × List Branch)) :=
  bif decide (x14141.1 < d0.letters) then (Option.bind (idx d0.leaf x14141.1) fun e14198 =>
  Option.bind (idx r14 e14198) fun e14204 =>
  Option.bind (idx t7748.1 e14204) fun e14210 =>
  Option.bind (app 16 x14141.2.1 [(⟨x14141.1, e14210⟩ : Leaf)]) fun r14222 =>
  Option.bind (loopP (r7_canonical_l9 t7748 d0 x14141 r14) (0, x14141.2.2)) fun t15017 =>
  some (.inl (IntKind.i64.wrap (x14141.1 + 1), r14222, t15017)))
  else (some (.inr (x14141.2.1, x14141.2.2)))
noncomputable def r7_canonical_l7 (t7748 : List Int × List Int) (d0 : TableR) (x11521 : Int × List Int) : Option ((Int × List Int) ⊕ (List Int)) :=
  bif decide (x11521.1 < (t7748.2.length : Int)) then (Option.bind (idx t7748.2 x11521.1) fun e11536 =>
  Option.bind (idx d0.accept e11536) fun e11542 =>
  Option.bind (bif e11542 then (Option.bind (app 8 x11521.2 [x11521.1]) fun r11574 =>
  some r11574)
  else (some x11521.2)) fun y11563 =>
  some (.inl (IntKind.i64.wrap (x11521.1 + 1), y11563)))
  else (some (.inr x11521.2))
noncomputable def r7_canonical_l6 (x7750 : List Int × List Int × Int) (d0 : TableR) (x10165 : List Int × List Int × Int) (x10968 : List Int × List Int × Int) (r14 : List Int) (x11233 : List Int × List Int × Int) : Option ((List Int × List Int × Int) ⊕ (List Int × List Int)) :=
  bif decide (x11233.2.2 < (x7750.2.1.length : Int)) then (Option.bind (idx d0.branch x10165.2.2) fun e11254 =>
  Option.bind (idx x11233.2.1 x10968.2.2) fun e11260 =>
  Option.bind (idx e11254 e11260) fun e11267 =>
  Option.bind (idx x11233.2.1 x11233.2.2) fun e11273 =>
  Option.bind (idx e11267 e11273) fun e11279 =>
  Option.bind (idx r14 e11279) fun e11286 =>
  Option.bind (idx x11233.1 e11286) fun e11292 =>
  Option.bind (bif decide (e11292 < 0) then (Option.bind (idx r14 e11279) fun e11336 =>
  Option.bind (idx x11233.1 e11336) fun e11344 =>
  Option.bind (app 8 x11233.2.1 [e11279]) fun r11359 =>
  some (x11233.1.set (e11336 : Int).toNat (x11233.2.1.length : Int), r11359))
  else (some (x11233.1, x11233.2.1))) fun y11328 =>
  some (.inl (y11328.1, y11328.2, IntKind.i64.wrap (x11233.2.2 + 1))))
  else (some (.inr (x11233.1, x11233.2.1)))
noncomputable def r7_canonical_l5 (x7750 : List Int × List Int × Int) (d0 : TableR) (x10165 : List Int × List Int × Int) (r14 : List Int) (x10968 : List Int × List Int × Int) : Option ((List Int × List Int × Int) ⊕ (List Int × List Int)) :=
  bif decide (x10968.2.2 < (x7750.2.1.length : Int)) then (Option.bind (loopP (r7_canonical_l6 x7750 d0 x10165 x10968 r14) (x10968.1, x10968.2.1, 0)) fun t11231 =>
  some (.inl (t11231.1, t11231.2, IntKind.i64.wrap (x10968.2.2 + 1))))
  else (some (.inr (x10968.1, x10968.2.1)))
noncomputable def r7_canonical_l4 (d0 : TableR) (x7750 : List Int × List Int × Int) (r14 : List Int) (x10165 : List Int × List Int × Int) : Option ((List Int × List Int × Int) ⊕ (List Int × List Int)) :=
  bif decide (x10165.2.2 < d0.letters) then (Option.bind (loopP (r7_canonical_l5 x7750 d0 x10165 r14) (x10165.1, x10165.2.1, 0)) fun t10966 =>
  some (.inl (t10966.1, t10966.2, IntKind.i64.wrap (x10165.2.2 + 1))))
  else (some (.inr (x10165.1, x10165.2.1)))
noncomputable def r7_canonical_l3 (d0 : TableR) (r14 : List Int) (x7750 : List Int × List Int × Int) : Option ((List Int × List Int × Int) ⊕ (List Int × List Int)) :=
  bif x7750.2.2 != (x7750.2.1.length : Int) then (Option.bind (loopP (r7_canonical_l4 d0 x7750 r14) (x7750.1, x7750.2.1, 0)) fun t10163 =>
  some (.inl (t10163.1, t10163.2, (x7750.2.1.length : Int))))
  else (some (.inr (x7750.1, x7750.2.1)))
noncomputable def r7_canonical_l2 (d0 : TableR) (r14 : List Int) (x374 : List Int × List Int × Int) : Option ((List Int × List Int × Int) ⊕ (List Int × List Int)) :=
  bif decide (x374.2.2 < d0.letters) then (Option.bind (idx d0.leaf x374.2.2) fun e393 =>
  Option.bind (idx r14 e393) fun e399 =>
  Option.bind (idx x374.1 e399) fun e406 =>
  Option.bind (bif decide (e406 < 0) then (Option.bind (idx d0.leaf x374.2.2) fun e463 =>
  Option.bind (idx r14 e463) fun e469 =>
  Option.bind (idx x374.1 e469) fun e478 =>
  Option.bind (idx d0.leaf x374.2.2) fun e486 =>
  Option.bind (app 8 x374.2.1 [e486]) fun r498 =>
  some (x374.1.set (e469 : Int).toNat (x374.2.1.length : Int), r498))
  else (some (x374.1, x374.2.1))) fun y455 =>
  some (.inl (y455.1, y455.2, IntKind.i64.wrap (x374.2.2 + 1))))
  else (some (.inr (x374.1, x374.2.1)))
noncomputable def r7_canonical_l1  (x63 : List Int × Int) : Option ((List Int × Int) ⊕ (List Int)) :=
  bif decide (x63.2 < (x63.1.length : Int)) then (Option.bind (idx x63.1 x63.2) fun e78 =>
  some (.inl (x63.1.set (x63.2 : Int).toNat (-1), IntKind.i64.wrap (x63.2 + 1))))
  else (some (.inr x63.1))
noncomputable def r7_canonical (d0 : TableR) : Option (TreeAutomaton) :=
  Option.bind (r7_classes d0 (-1)) fun r14 =>
  Option.bind (mkN 8 (r14.length : Int)) fun m29 =>
  Option.bind (loopP (r7_canonical_l1) (List.replicate m29 (0 : Int), 0)) fun t61 =>
  Option.bind (loopP (r7_canonical_l2 d0 r14) (t61, ([] : List Int), 0)) fun t372 =>
  Option.bind (loopP (r7_canonical_l3 d0 r14) (t372.1, t372.2, (-1))) fun t7748 =>
  Option.bind (loopP (r7_canonical_l7 t7748 d0) (0, ([] : List Int))) fun t11519 =>
  Option.bind (loopP (r7_canonical_l8 d0 r14 t7748) (0, ([] : List Leaf), ([] : List Branch))) fun t14139 =>
  some (⟨d0.letters, (t7748.2.length : Int), t11519, t14139.1, t14139.2⟩ : TreeAutomaton)
end Go.Lg
set_option autoImplicit true
set_option linter.unusedVariables false
set_option maxRecDepth 100000
namespace Go.Lg
open Go
noncomputable def r2_rule_l4 (e52 : Rule) (d0 : Protocol) (x799 : Int) : Option ((Int) ⊕ (((Unit) ⊕ (Int)))) :=
  bif decide (x799 < (e52.guards.length : Int)) then (Option.bind (idx e52.guards x799) fun e813 =>
  Option.bind (r2_within e813.message 0 (IntKind.i64.wrap ((d0.messages.length : Int) - 1))) fun r827 =>
  bif !r827 then (some (.inr (.inr 5)))
  else (Option.bind (r2_within e813.coef 1 100) fun r835 =>
  bif !r835 then (some (.inr (.inr 1)))
  else (Option.bind (r2_few (⟨e813.bound.c, e813.bound.n, e813.bound.t, e813.bound.f⟩ : Linear)) fun r843 =>
  bif !r843 then (some (.inr (.inr 4)))
  else (some (.inl (IntKind.i64.wrap (x799 + 1)))))))
  else (some (.inr (.inl ())))
noncomputable def r2_rule_l3 (e52 : Rule) (d0 : Protocol) (x429 : Int) : Option ((Int) ⊕ (((Unit) ⊕ (Int)))) :=
  bif decide (x429 < (e52.guards.length : Int)) then (Option.bind (idx e52.guards x429) fun e443 =>
  Option.bind (r2_within e443.message 0 (IntKind.i64.wrap ((d0.messages.length : Int) - 1))) fun r457 =>
  bif !r457 then (some (.inr (.inr 5)))
  else (Option.bind (r2_within e443.coef 1 100) fun r465 =>
  bif !r465 then (some (.inr (.inr 1)))
  else (Option.bind (r2_few (⟨e443.bound.c, e443.bound.n, e443.bound.t, e443.bound.f⟩ : Linear)) fun r473 =>
  bif !r473 then (some (.inr (.inr 4)))
  else (some (.inl (IntKind.i64.wrap (x429 + 1)))))))
  else (some (.inr (.inl ())))
noncomputable def r2_rule_l2 (d0 : Protocol) (e52 : Rule) (x312 : Int) : Option ((Int) ⊕ (((Unit) ⊕ (Int)))) :=
  bif decide (x312 < (d0.states.length : Int)) then (Option.bind (idx e52.response x312) fun e324 =>
  Option.bind (r2_within e324 0 (IntKind.i64.wrap ((d0.states.length : Int) - 1))) fun r330 =>
  bif !r330 then (some (.inr (.inr 5)))
  else (some (.inl (IntKind.i64.wrap (x312 + 1)))))
  else (some (.inr (.inl ())))
noncomputable def r2_rule_l1 (d1 : Int) (d0 : Protocol) (e52 : Rule) (x113 : Int) : Option ((Int) ⊕ (((Unit) ⊕ (Int)))) :=
  bif decide (x113 < d1) then (Option.bind (idx d0.rules x113) fun e123 =>
  bif e123.name.toList == e52.name.toList then (some (.inr (.inr 2)))
  else (some (.inl (IntKind.i64.wrap (x113 + 1)))))
  else (some (.inr (.inl ())))
noncomputable def r2_rule (d0 : Protocol) (d1 : Int) : Option (Int) :=
  Option.bind (idx d0.rules d1) fun e52 =>
  Option.bind (r2_ValidName e52.name) fun r83 =>
  bif !r83 then (some 2)
  else (Option.bind (loopP (r2_rule_l1 d1 d0 e52) 0) fun t111 =>
  (match t111 with
  | .inl y115 =>
  Option.bind (r2_within e52.kind 1 5) fun r134 =>
  Option.bind (bif !r134 then (some true)
  else (bif !((decide (e52.kind ≤ 3)) == (d0.topology == 1)) then (some true)
  else (Option.bind (r2_unused d0 e52) fun r164 =>
  some r164))) fun y155 =>
  bif y155 then (some 6)
  else (Option.bind (bif e52.kind == 2 then (some true)
  else (some (e52.kind == 5))) fun y178 =>
  Option.bind (r2_within e52.frm 0 (IntKind.i64.wrap ((d0.states.length : Int) - 1))) fun r186 =>
  Option.bind (bif !r186 then (some true)
  else (Option.bind (r2_within e52.to 0 (IntKind.i64.wrap ((d0.states.length : Int) - 1))) fun r238 =>
  bif !r238 then (some true)
  else (bif y178 then (Option.bind (r2_within e52.partnerFrom 0 (IntKind.i64.wrap ((d0.states.length : Int) - 1))) fun r249 =>
  bif !r249 then (some true)
  else (Option.bind (r2_within e52.partnerTo 0 (IntKind.i64.wrap ((d0.states.length : Int) - 1))) fun r259 =>
  some (!r259)))
  else (some false)))) fun y230 =>
  bif y230 then (some 5)
  else (bif e52.kind == 3 then (bif (e52.response.length : Int) != (d0.states.length : Int) then (some 1)
  else (Option.bind (loopP (r2_rule_l2 d0 e52) 0) fun t310 =>
  (match t310 with
  | .inl y316 =>
  Option.bind (loopP (r2_rule_l3 e52 d0) 0) fun t427 =>
  (match t427 with
  | .inl y433 =>
  bif decide ((e52.guards.length : Int) > 2) then (some 4)
  else (Option.bind (r2_Set e52.exists_ (d0.states.length : Int)) fun r487 =>
  bif r487 != 0 then (some r487)
  else (Option.bind (r2_Set e52.forall_ (d0.states.length : Int)) fun r495 =>
  bif r495 != 0 then (some r495)
  else (Option.bind (bif e52.read != (-1) then (Option.bind (r2_within e52.read 0 (IntKind.i64.wrap ((d0.values.length : Int) - 1))) fun r548 =>
  bif !r548 then (some true)
  else (bif e52.write != (-1) then (Option.bind (r2_within e52.write 0 (IntKind.i64.wrap ((d0.values.length : Int) - 1))) fun r560 =>
  some (!r560))
  else (some false)))
  else (bif e52.write != (-1) then (Option.bind (r2_within e52.write 0 (IntKind.i64.wrap ((d0.values.length : Int) - 1))) fun r574 =>
  some (!r574))
  else (some false))) fun y541 =>
  bif y541 then (some 5)
  else (Option.bind (r2_Set e52.send (d0.messages.length : Int)) fun r589 =>
  bif r589 != 0 then (some r589)
  else (Option.bind (r2_Set e52.left (d0.states.length : Int)) fun r597 =>
  bif r597 != 0 then (some r597)
  else (Option.bind (r2_Set e52.right (d0.states.length : Int)) fun r605 =>
  bif r605 != 0 then (some r605)
  else (Option.bind (r2_Set e52.parent (d0.states.length : Int)) fun r613 =>
  bif r613 != 0 then (some r613)
  else (Option.bind (bif e52.kind == 4 then (Option.bind (r2_within e52.at_ 0 2) fun r639 =>
  bif !r639 then (some true)
  else (bif e52.at_ != 0 then (some (d0.topology == 3))
  else (some false)))
  else (some false)) fun y635 =>
  bif y635 then (some 1)
  else (Option.bind (bif e52.kind == 5 then (bif d0.topology == 4 then (Option.bind (r2_within e52.direction 3 4) fun r672 =>
  some (!r672))
  else (some false))
  else (some false)) fun y667 =>
  bif y667 then (some 1)
  else (Option.bind (bif e52.kind == 5 then (bif d0.topology != 4 then (Option.bind (r2_within e52.direction 1 2) fun r700 =>
  some (!r700))
  else (some false))
  else (some false)) fun y695 =>
  bif y695 then (some 1)
  else (some 0)))))))))))
  | .inr r =>
  some r)
  | .inr r =>
  some r)))
  else (Option.bind (loopP (r2_rule_l4 e52 d0) 0) fun t797 =>
  (match t797 with
  | .inl y803 =>
  bif decide ((e52.guards.length : Int) > 2) then (some 4)
  else (Option.bind (r2_Set e52.exists_ (d0.states.length : Int)) fun r857 =>
  bif r857 != 0 then (some r857)
  else (Option.bind (r2_Set e52.forall_ (d0.states.length : Int)) fun r865 =>
  bif r865 != 0 then (some r865)
  else (Option.bind (bif e52.read != (-1) then (Option.bind (r2_within e52.read 0 (IntKind.i64.wrap ((d0.values.length : Int) - 1))) fun r918 =>
  bif !r918 then (some true)
  else (bif e52.write != (-1) then (Option.bind (r2_within e52.write 0 (IntKind.i64.wrap ((d0.values.length : Int) - 1))) fun r930 =>
  some (!r930))
  else (some false)))
  else (bif e52.write != (-1) then (Option.bind (r2_within e52.write 0 (IntKind.i64.wrap ((d0.values.length : Int) - 1))) fun r944 =>
  some (!r944))
  else (some false))) fun y911 =>
  bif y911 then (some 5)
  else (Option.bind (r2_Set e52.send (d0.messages.length : Int)) fun r959 =>
  bif r959 != 0 then (some r959)
  else (Option.bind (r2_Set e52.left (d0.states.length : Int)) fun r967 =>
  bif r967 != 0 then (some r967)
  else (Option.bind (r2_Set e52.right (d0.states.length : Int)) fun r975 =>
  bif r975 != 0 then (some r975)
  else (Option.bind (r2_Set e52.parent (d0.states.length : Int)) fun r983 =>
  bif r983 != 0 then (some r983)
  else (Option.bind (bif e52.kind == 4 then (Option.bind (r2_within e52.at_ 0 2) fun r1009 =>
  bif !r1009 then (some true)
  else (bif e52.at_ != 0 then (some (d0.topology == 3))
  else (some false)))
  else (some false)) fun y1005 =>
  bif y1005 then (some 1)
  else (Option.bind (bif e52.kind == 5 then (bif d0.topology == 4 then (Option.bind (r2_within e52.direction 3 4) fun r1042 =>
  some (!r1042))
  else (some false))
  else (some false)) fun y1037 =>
  bif y1037 then (some 1)
  else (Option.bind (bif e52.kind == 5 then (bif d0.topology != 4 then (Option.bind (r2_within e52.direction 1 2) fun r1070 =>
  some (!r1070))
  else (some false))
  else (some false)) fun y1065 =>
  bif y1065 then (some 1)
  else (some 0)))))))))))
  | .inr r =>
  some r))))
  | .inr r =>
  some r))
end Go.Lg
set_option autoImplicit true
set_option linter.unusedVariables false
set_option maxRecDepth 100000
namespace Go.Lg
open Go
noncomputable def r7_blank_l2 (d1 : Int) (x318 : List (List Int) × Int) : Option ((List (List Int) × Int) ⊕ (List (List Int))) :=
  bif decide (x318.2 < d1) then (Option.bind (mkN 8 d1) fun m331 =>
  Option.bind (app 24 x318.1 [List.replicate m331 (0 : Int)]) fun r346 =>
  some (.inl (r346, IntKind.i64.wrap (x318.2 + 1))))
  else (some (.inr x318.1))
noncomputable def r7_blank_l1 (d0 : Int) (d1 : Int) (x252 : Int × List (List (List Int))) : Option ((Int × List (List (List Int))) ⊕ (List (List (List Int)))) :=
  bif decide (x252.1 < d0) then (Option.bind (loopP (r7_blank_l2 d1) (([] : List (List Int)), 0)) fun t316 =>
  Option.bind (app 24 x252.2 [t316]) fun r365 =>
  some (.inl (IntKind.i64.wrap (x252.1 + 1), r365)))
  else (some (.inr x252.2))
noncomputable def r7_blank (d0 : Int) (d1 : Int) : Option (TableR) :=
  Option.bind (mkN 8 d0) fun m6 =>
  Option.bind (mkN 1 d1) fun m8 =>
  Option.bind (loopP (r7_blank_l1 d0 d1) (0, ([] : List (List (List Int))))) fun t250 =>
  some (⟨d0, List.replicate m6 (0 : Int), t250, List.replicate m8 (false : Bool)⟩ : TableR)
noncomputable def r7_subsets_l9 (t12564 : List Int × List (List (List Int)) × List (List Bool)) (d0 : TreeAutomaton) (x14616 : Int × List Bool) : Option ((Int × List Bool) ⊕ (List Bool)) :=
  bif decide (x14616.1 < (t12564.2.2.length : Int)) then (Option.bind (idx t12564.2.2 x14616.1) fun e14660 =>
  Option.bind (r7_meets e14660 d0.accept) fun r14667 =>
  Option.bind (idx x14616.2 x14616.1) fun e14675 =>
  some (.inl (IntKind.i64.wrap (x14616.1 + 1), x14616.2.set (x14616.1 : Int).toNat r14667)))
  else (some (.inr x14616.2))
noncomputable def r7_subsets_l8 (x12566 : Int × List Int × List (List (List Int)) × List (List Bool)) (x13873 : Int × List (List Bool) × List (List (List Int))) (d0 : TreeAutomaton) (x14284 : Int × List (List Bool) × List (List (List Int))) : Option ((Int × List (List Bool) × List (List (List Int))) ⊕ (List (List Bool) × List (List (List Int)))) :=
  bif decide (x14284.1 < (x14284.2.1.length : Int)) then (Option.bind (idx x14284.2.2 x12566.1) fun e14403 =>
  Option.bind (idx e14403 x13873.1) fun e14425 =>
  Option.bind (idx x14284.2.1 x13873.1) fun e14448 =>
  Option.bind (idx x14284.2.1 x14284.1) fun e14455 =>
  Option.bind (r7_branch d0 x12566.1 e14448 e14455) fun r14461 =>
  Option.bind (r7_sets_number x14284.2.1 r14461) fun r14470 =>
  Option.bind (idx e14425 x14284.1) fun e14481 =>
  some (.inl (IntKind.i64.wrap (x14284.1 + 1), r14470.2, x14284.2.2.set (x12566.1 : Int).toNat (e14403.set (x13873.1 : Int).toNat (e14425.set (x14284.1 : Int).toNat r14470.1)))))
  else (some (.inr (x14284.2.1, x14284.2.2)))
noncomputable def r7_subsets_l7 (x12566 : Int × List Int × List (List (List Int)) × List (List Bool)) (d0 : TreeAutomaton) (x13873 : Int × List (List Bool) × List (List (List Int))) : Option ((Int × List (List Bool) × List (List (List Int))) ⊕ (List (List Bool) × List (List (List Int)))) :=
  bif decide (x13873.1 < (x13873.2.1.length : Int)) then (Option.bind (loopP (r7_subsets_l8 x12566 x13873 d0) (0, x13873.2.1, x13873.2.2)) fun t14282 =>
  some (.inl (IntKind.i64.wrap (x13873.1 + 1), t14282.1, t14282.2)))
  else (some (.inr (x13873.2.1, x13873.2.2)))
noncomputable def r7_subsets_l6 (d0 : TreeAutomaton) (x12566 : Int × List Int × List (List (List Int)) × List (List Bool)) : Option ((Int × List Int × List (List (List Int)) × List (List Bool)) ⊕ (List Int × List (List (List Int)) × List (List Bool))) :=
  bif decide (x12566.1 < d0.letters) then (Option.bind (r7_leaf d0 x12566.1) fun r12626 =>
  Option.bind (r7_sets_number x12566.2.2.2 r12626) fun r12635 =>
  Option.bind (idx x12566.2.1 x12566.1) fun e12646 =>
  Option.bind (loopP (r7_subsets_l7 x12566 d0) (0, r12635.2, x12566.2.2.1)) fun t13871 =>
  some (.inl (IntKind.i64.wrap (x12566.1 + 1), x12566.2.1.set (x12566.1 : Int).toNat r12635.1, t13871.2, t13871.1)))
  else (some (.inr (x12566.2.1, x12566.2.2.1, x12566.2.2.2)))
noncomputable def r7_subsets_l5 (x5832 : Int × List (List Bool)) (x8379 : Int × List (List Bool)) (d0 : TreeAutomaton) (x7747 : Int × List (List Bool)) (x8587 : Int × List (List Bool)) : Option ((Int × List (List Bool)) ⊕ (List (List Bool))) :=
  bif decide (x8587.1 < (x5832.2.length : Int)) then (Option.bind (bif decide (x8379.1 ≥ x5832.1) then (some true)
  else (some (decide (x8587.1 ≥ x5832.1)))) fun y8606 =>
  Option.bind (bif y8606 then (Option.bind (idx x8587.2 x8379.1) fun e8658 =>
  Option.bind (idx x8587.2 x8587.1) fun e8665 =>
  Option.bind (r7_branch d0 x7747.1 e8658 e8665) fun r8671 =>
  Option.bind (r7_sets_number x8587.2 r8671) fun r8680 =>
  some r8680.2)
  else (some x8587.2)) fun y8649 =>
  some (.inl (IntKind.i64.wrap (x8587.1 + 1), y8649)))
  else (some (.inr x8587.2))
noncomputable def r7_subsets_l4 (x5832 : Int × List (List Bool)) (d0 : TreeAutomaton) (x7747 : Int × List (List Bool)) (x8379 : Int × List (List Bool)) : Option ((Int × List (List Bool)) ⊕ (List (List Bool))) :=
  bif decide (x8379.1 < (x5832.2.length : Int)) then (Option.bind (loopP (r7_subsets_l5 x5832 x8379 d0 x7747) (0, x8379.2)) fun t8585 =>
  some (.inl (IntKind.i64.wrap (x8379.1 + 1), t8585)))
  else (some (.inr x8379.2))
noncomputable def r7_subsets_l3 (d0 : TreeAutomaton) (x5832 : Int × List (List Bool)) (x7747 : Int × List (List Bool)) : Option ((Int × List (List Bool)) ⊕ (List (List Bool))) :=
  bif decide (x7747.1 < d0.letters) then (Option.bind (loopP (r7_subsets_l4 x5832 d0 x7747) (0, x7747.2)) fun t8377 =>
  some (.inl (IntKind.i64.wrap (x7747.1 + 1), t8377)))
  else (some (.inr x7747.2))
noncomputable def r7_subsets_l2 (d1 : Int) (d0 : TreeAutomaton) (x5832 : Int × List (List Bool)) : Option ((Int × List (List Bool)) ⊕ (((List (List Bool)) ⊕ (TableR × Bool)))) :=
  bif decide (x5832.1 < (x5832.2.length : Int)) then (Option.bind (bif decide (d1 ≥ 0) then (some (decide ((x5832.2.length : Int) > d1)))
  else (some false)) fun y5852 =>
  bif y5852 then (some (.inr (.inr ((⟨0, ([] : List Int), ([] : List (List (List Int))), ([] : List Bool)⟩ : TableR), false))))
  else (Option.bind (loopP (r7_subsets_l3 d0 x5832) (0, x5832.2)) fun t7745 =>
  some (.inl ((x5832.2.length : Int), t7745))))
  else (some (.inr (.inl x5832.2)))
noncomputable def r7_subsets_l1 (d0 : TreeAutomaton) (x68 : Int × List (List Bool)) : Option ((Int × List (List Bool)) ⊕ (List (List Bool))) :=
  bif decide (x68.1 < d0.letters) then (Option.bind (r7_leaf d0 x68.1) fun r85 =>
  Option.bind (r7_sets_number x68.2 r85) fun r94 =>
  some (.inl (IntKind.i64.wrap (x68.1 + 1), r94.2)))
  else (some (.inr x68.2))
noncomputable def r7_subsets (d0 : TreeAutomaton) (d1 : Int) : Option (TableR × Bool) :=
  Option.bind (loopP (r7_subsets_l1 d0) (0, ([] : List (List Bool)))) fun t66 =>
  Option.bind (loopP (r7_subsets_l2 d1 d0) (0, t66)) fun t5830 =>
  (match t5830 with
  | .inl y5839 =>
  Option.bind (r7_blank d0.letters (y5839.length : Int)) fun r8713 =>
  Option.bind (loopP (r7_subsets_l6 d0) (0, r8713.leaf, r8713.branch, y5839)) fun t12564 =>
  Option.bind (loopP (r7_subsets_l9 t12564 d0) (0, r8713.accept)) fun t14614 =>
  some ((⟨r8713.letters, t12564.1, t12564.2.1, t14614⟩ : TableR), true)
  | .inr r =>
  some r)
end Go.Lg
set_option autoImplicit true
set_option linter.unusedVariables false
set_option maxRecDepth 100000
namespace Go.Lg
open Go
noncomputable def t_builder_build_l6 (y7940 : List (List (List Int)) × Mp part × List part) (x6m : part → Option Bool) (x11964 : Int × List Bool) : Option ((Int × List Bool) ⊕ (List Bool)) :=
  bif decide (x11964.1 < (y7940.2.2.length : Int)) then (Option.bind (idx y7940.2.2 x11964.1) fun e11981 =>
  Option.bind (x6m e11981) fun r12025 =>
  Option.bind (app 1 x11964.2 [r12025]) fun r12044 =>
  some (.inl (IntKind.i64.wrap (x11964.1 + 1), r12044)))
  else (some (.inr x11964.2))
noncomputable def t_builder_build_l5 (m11416 : Nat) (x10510 : Int × List (List (List Int)) × Mp part × List part) (x11387 : Int × List (List (List Int)) × Mp part × List part) (x5m : Int → part → part → Option part) (x11550 : List Int × Int × Mp part × List part) : Option ((List Int × Int × Mp part × List part) ⊕ (List Int × Mp part × List part)) :=
  bif decide (x11550.2.1 < ((List.replicate m11416 (0 : Int)).length : Int)) then (Option.bind (idx x11550.2.2.2 x10510.1) fun e11582 =>
  Option.bind (idx x11550.2.2.2 x11387.1) fun e11590 =>
  Option.bind (x5m x11550.2.1 e11582 e11590) fun r11597 =>
  Option.bind (t_builder_meet x11550.2.2.1 x11550.2.2.2 r11597) fun r11612 =>
  Option.bind (idx x11550.1 x11550.2.1) fun e11626 =>
  some (.inl (x11550.1.set (x11550.2.1 : Int).toNat r11612.1, IntKind.i64.wrap (x11550.2.1 + 1), r11612.2.1, r11612.2.2)))
  else (some (.inr (x11550.1, x11550.2.2.1, x11550.2.2.2)))
noncomputable def t_builder_build_l4 (x7927 : Int × List (List (List Int)) × Mp part × List part) (x0m : Int) (x10510 : Int × List (List (List Int)) × Mp part × List part) (x5m : Int → part → part → Option part) (x11387 : Int × List (List (List Int)) × Mp part × List part) : Option ((Int × List (List (List Int)) × Mp part × List part) ⊕ (List (List (List Int)) × Mp part × List part)) :=
  bif decide (x11387.1 < (x7927.2.2.2.length : Int)) then (Option.bind (mkN 8 x0m) fun m11416 =>
  Option.bind (loopP (t_builder_build_l5 m11416 x10510 x11387 x5m) (List.replicate m11416 (0 : Int), 0, x11387.2.2.1, x11387.2.2.2)) fun t11548 =>
  Option.bind (idx x11387.2.1 x10510.1) fun e11711 =>
  Option.bind (app 24 e11711 [t11548.1]) fun r11778 =>
  some (.inl (IntKind.i64.wrap (x11387.1 + 1), x11387.2.1.set (x10510.1 : Int).toNat r11778, t11548.2.1, t11548.2.2)))
  else (some (.inr (x11387.2.1, x11387.2.2.1, x11387.2.2.2)))
noncomputable def t_builder_build_l3 (x7927 : Int × List (List (List Int)) × Mp part × List part) (x0m : Int) (x5m : Int → part → part → Option part) (x10510 : Int × List (List (List Int)) × Mp part × List part) : Option ((Int × List (List (List Int)) × Mp part × List part) ⊕ (List (List (List Int)) × Mp part × List part)) :=
  bif decide (x10510.1 < (x7927.2.2.2.length : Int)) then (Option.bind (bif decide (x10510.1 ≥ (x10510.2.1.length : Int)) then (Option.bind (app 24 x10510.2.1 [([] : List (List Int))]) fun r10574 =>
  some r10574)
  else (some x10510.2.1)) fun y10560 =>
  Option.bind (idx y10560 x10510.1) fun e10588 =>
  Option.bind (loopP (t_builder_build_l4 x7927 x0m x10510 x5m) ((e10588.length : Int), y10560, x10510.2.2.1, x10510.2.2.2)) fun t11385 =>
  some (.inl (IntKind.i64.wrap (x10510.1 + 1), t11385.1, t11385.2.1, t11385.2.2)))
  else (some (.inr (x10510.2.1, x10510.2.2.1, x10510.2.2.2)))
noncomputable def t_builder_build_l2 (x1m : Int) (x0m : Int) (x5m : Int → part → part → Option part) (x7927 : Int × List (List (List Int)) × Mp part × List part) : Option ((Int × List (List (List Int)) × Mp part × List part) ⊕ (((List (List (List Int)) × Mp part × List part) ⊕ (Option machine)))) :=
  bif decide (x7927.1 < (x7927.2.2.2.length : Int)) then (Option.bind (bif decide (x1m > 0) then (some (decide ((x7927.2.2.2.length : Int) > x1m)))
  else (some false)) fun y7965 =>
  bif y7965 then (some (.inr (.inr (none : Option machine))))
  else (Option.bind (loopP (t_builder_build_l3 x7927 x0m x5m) (0, x7927.2.1, x7927.2.2.1, x7927.2.2.2)) fun t10508 =>
  bif x7927.1 == (x7927.2.2.2.length : Int) then (some (.inr (.inl (t10508.1, t10508.2.1, t10508.2.2))))
  else (some (.inl ((x7927.2.2.2.length : Int), t10508.1, t10508.2.1, t10508.2.2)))))
  else (some (.inr (.inl (x7927.2.1, x7927.2.2.1, x7927.2.2.2))))
noncomputable def t_builder_build_l1 (x0m : Int) (x4m : Int → Option part) (x122 : Int × List Int × Mp part × List part) : Option ((Int × List Int × Mp part × List part) ⊕ (List Int × Mp part × List part)) :=
  bif decide (x122.1 < x0m) then (Option.bind (x4m x122.1) fun r151 =>
  Option.bind (t_builder_meet x122.2.2.1 x122.2.2.2 r151) fun r166 =>
  Option.bind (app 8 x122.2.1 [r166.1]) fun r187 =>
  some (.inl (IntKind.i64.wrap (x122.1 + 1), r187, r166.2.1, r166.2.2)))
  else (some (.inr (x122.2.1, x122.2.2.1, x122.2.2.2)))
noncomputable def t_builder_build (x0m : Int) (x1m : Int) (x4m : Int → Option part) (x5m : Int → part → part → Option part) (x6m : part → Option Bool) : Option (Option machine) :=
  Option.bind (loopP (t_builder_build_l1 x0m x4m) (0, ([] : List Int), ([] : Mp part), ([] : List part))) fun t120 =>
  Option.bind (loopP (t_builder_build_l2 x1m x0m x5m) (0, ([] : List (List (List Int))), t120.2.1, t120.2.2)) fun t7925 =>
  (match t7925 with
  | .inl y7940 =>
  Option.bind (loopP (t_builder_build_l6 y7940 x6m) (0, ([] : List Bool))) fun t11962 =>
  some (some (⟨x0m, t11962, t120.1, y7940.1⟩ : machine))
  | .inr r =>
  some r)
noncomputable def t_builder_build5_l6 (y7775 : List (List (List Int)) × Mp U64 × List U64) (x6m : U64 → Option Bool) (x11706 : Int × List Bool) : Option ((Int × List Bool) ⊕ (List Bool)) :=
  bif decide (x11706.1 < (y7775.2.2.length : Int)) then (Option.bind (idx y7775.2.2 x11706.1) fun e11723 =>
  Option.bind (x6m (U64.mk e11723.i)) fun r11761 =>
  Option.bind (app 1 x11706.2 [r11761]) fun r11780 =>
  some (.inl (IntKind.i64.wrap (x11706.1 + 1), r11780)))
  else (some (.inr x11706.2))
noncomputable def t_builder_build5_l5 (m11179 : Nat) (x10291 : Int × List (List (List Int)) × Mp U64 × List U64) (x11150 : Int × List (List (List Int)) × Mp U64 × List U64) (x5m : Int → U64 → U64 → Option U64) (x11307 : List Int × Int × Mp U64 × List U64) : Option ((List Int × Int × Mp U64 × List U64) ⊕ (List Int × Mp U64 × List U64)) :=
  bif decide (x11307.2.1 < ((List.replicate m11179 (0 : Int)).length : Int)) then (Option.bind (idx x11307.2.2.2 x10291.1) fun e11339 =>
  Option.bind (idx x11307.2.2.2 x11150.1) fun e11346 =>
  Option.bind (x5m x11307.2.1 (U64.mk e11339.i) (U64.mk e11346.i)) fun r11352 =>
  Option.bind (t_builder_meet6 x11307.2.2.1 x11307.2.2.2 (U64.mk r11352.i)) fun r11366 =>
  Option.bind (idx x11307.1 x11307.2.1) fun e11380 =>
  some (.inl (x11307.1.set (x11307.2.1 : Int).toNat r11366.1, IntKind.i64.wrap (x11307.2.1 + 1), r11366.2.1, r11366.2.2)))
  else (some (.inr (x11307.1, x11307.2.2.1, x11307.2.2.2)))
noncomputable def t_builder_build5_l4 (x7762 : Int × List (List (List Int)) × Mp U64 × List U64) (x0m : Int) (x10291 : Int × List (List (List Int)) × Mp U64 × List U64) (x5m : Int → U64 → U64 → Option U64) (x11150 : Int × List (List (List Int)) × Mp U64 × List U64) : Option ((Int × List (List (List Int)) × Mp U64 × List U64) ⊕ (List (List (List Int)) × Mp U64 × List U64)) :=
  bif decide (x11150.1 < (x7762.2.2.2.length : Int)) then (Option.bind (mkN 8 x0m) fun m11179 =>
  Option.bind (loopP (t_builder_build5_l5 m11179 x10291 x11150 x5m) (List.replicate m11179 (0 : Int), 0, x11150.2.2.1, x11150.2.2.2)) fun t11305 =>
  Option.bind (idx x11150.2.1 x10291.1) fun e11465 =>
  Option.bind (app 24 e11465 [t11305.1]) fun r11532 =>
  some (.inl (IntKind.i64.wrap (x11150.1 + 1), x11150.2.1.set (x10291.1 : Int).toNat r11532, t11305.2.1, t11305.2.2)))
  else (some (.inr (x11150.2.1, x11150.2.2.1, x11150.2.2.2)))
noncomputable def t_builder_build5_l3 (x7762 : Int × List (List (List Int)) × Mp U64 × List U64) (x0m : Int) (x5m : Int → U64 → U64 → Option U64) (x10291 : Int × List (List (List Int)) × Mp U64 × List U64) : Option ((Int × List (List (List Int)) × Mp U64 × List U64) ⊕ (List (List (List Int)) × Mp U64 × List U64)) :=
  bif decide (x10291.1 < (x7762.2.2.2.length : Int)) then (Option.bind (bif decide (x10291.1 ≥ (x10291.2.1.length : Int)) then (Option.bind (app 24 x10291.2.1 [([] : List (List Int))]) fun r10355 =>
  some r10355)
  else (some x10291.2.1)) fun y10341 =>
  Option.bind (idx y10341 x10291.1) fun e10369 =>
  Option.bind (loopP (t_builder_build5_l4 x7762 x0m x10291 x5m) ((e10369.length : Int), y10341, x10291.2.2.1, x10291.2.2.2)) fun t11148 =>
  some (.inl (IntKind.i64.wrap (x10291.1 + 1), t11148.1, t11148.2.1, t11148.2.2)))
  else (some (.inr (x10291.2.1, x10291.2.2.1, x10291.2.2.2)))
noncomputable def t_builder_build5_l2 (x1m : Int) (x0m : Int) (x5m : Int → U64 → U64 → Option U64) (x7762 : Int × List (List (List Int)) × Mp U64 × List U64) : Option ((Int × List (List (List Int)) × Mp U64 × List U64) ⊕ (((List (List (List Int)) × Mp U64 × List U64) ⊕ (Option machine)))) :=
  bif decide (x7762.1 < (x7762.2.2.2.length : Int)) then (Option.bind (bif decide (x1m > 0) then (some (decide ((x7762.2.2.2.length : Int) > x1m)))
  else (some false)) fun y7800 =>
  bif y7800 then (some (.inr (.inr (none : Option machine))))
  else (Option.bind (loopP (t_builder_build5_l3 x7762 x0m x5m) (0, x7762.2.1, x7762.2.2.1, x7762.2.2.2)) fun t10289 =>
  bif x7762.1 == (x7762.2.2.2.length : Int) then (some (.inr (.inl (t10289.1, t10289.2.1, t10289.2.2))))
  else (some (.inl ((x7762.2.2.2.length : Int), t10289.1, t10289.2.1, t10289.2.2)))))
  else (some (.inr (.inl (x7762.2.1, x7762.2.2.1, x7762.2.2.2))))
noncomputable def t_builder_build5_l1 (x0m : Int) (x4m : Int → Option U64) (x120 : Int × List Int × Mp U64 × List U64) : Option ((Int × List Int × Mp U64 × List U64) ⊕ (List Int × Mp U64 × List U64)) :=
  bif decide (x120.1 < x0m) then (Option.bind (x4m x120.1) fun r149 =>
  Option.bind (t_builder_meet6 x120.2.2.1 x120.2.2.2 (U64.mk r149.i)) fun r163 =>
  Option.bind (app 8 x120.2.1 [r163.1]) fun r184 =>
  some (.inl (IntKind.i64.wrap (x120.1 + 1), r184, r163.2.1, r163.2.2)))
  else (some (.inr (x120.2.1, x120.2.2.1, x120.2.2.2)))
noncomputable def t_builder_build5 (x0m : Int) (x1m : Int) (x4m : Int → Option U64) (x5m : Int → U64 → U64 → Option U64) (x6m : U64 → Option Bool) : Option (Option machine) :=
  Option.bind (loopP (t_builder_build5_l1 x0m x4m) (0, ([] : List Int), ([] : Mp U64), ([] : List U64))) fun t118 =>
  Option.bind (loopP (t_builder_build5_l2 x1m x0m x5m) (0, ([] : List (List (List Int))), t118.2.1, t118.2.2)) fun t7760 =>
  (match t7760 with
  | .inl y7775 =>
  Option.bind (loopP (t_builder_build5_l6 y7775 x6m) (0, ([] : List Bool))) fun t11704 =>
  some (some (⟨x0m, t11704, t118.1, y7775.1⟩ : machine))
  | .inr r =>
  some r)
noncomputable def t_builder_ordered_l9 (m7507 : Nat) (x5m : Int → Int → Int → Option Int) (e7043 : Int) (e7501 : Int) (t3537 : Mp Int × List Int) (x7625 : List Int × Int) : Option ((List Int × Int) ⊕ (List Int)) :=
  bif decide (x7625.2 < ((List.replicate m7507 (0 : Int)).length : Int)) then (Option.bind (x5m x7625.2 e7043 e7501) fun r7669 =>
  Option.bind (klookB t3537.1 r7669) fun r7682 =>
  Option.bind (idx x7625.1 x7625.2) fun e7684 =>
  some (.inl (x7625.1.set (x7625.2 : Int).toNat (r7682.getD 0), IntKind.i64.wrap (x7625.2 + 1))))
  else (some (.inr x7625.1))
noncomputable def t_builder_ordered_l8 (t3537 : Mp Int × List Int) (x0m : Int) (x5m : Int → Int → Int → Option Int) (e7043 : Int) (x7484 : List (List Int) × Int) : Option ((List (List Int) × Int) ⊕ (List (List Int))) :=
  bif decide (x7484.2 < (t3537.2.length : Int)) then (Option.bind (idx t3537.2 x7484.2) fun e7501 =>
  Option.bind (mkN 8 x0m) fun m7507 =>
  Option.bind (loopP (t_builder_ordered_l9 m7507 x5m e7043 e7501 t3537) (List.replicate m7507 (0 : Int), 0)) fun t7623 =>
  Option.bind (app 24 x7484.1 [t7623]) fun r7706 =>
  some (.inl (r7706, IntKind.i64.wrap (x7484.2 + 1))))
  else (some (.inr x7484.1))
noncomputable def t_builder_ordered_l7 (t3537 : Mp Int × List Int) (x0m : Int) (x5m : Int → Int → Int → Option Int) (x6m : Int → Option Bool) (x7020 : Int × List Bool × List (List (List Int))) : Option ((Int × List Bool × List (List (List Int))) ⊕ (List Bool × List (List (List Int)))) :=
  bif decide (x7020.1 < (t3537.2.length : Int)) then (Option.bind (idx t3537.2 x7020.1) fun e7043 =>
  Option.bind (loopP (t_builder_ordered_l8 t3537 x0m x5m e7043) (([] : List (List Int)), 0)) fun t7482 =>
  Option.bind (app 24 x7020.2.2 [t7482]) fun r7725 =>
  Option.bind (x6m e7043) fun r7767 =>
  Option.bind (app 1 x7020.2.1 [r7767]) fun r7786 =>
  some (.inl (IntKind.i64.wrap (x7020.1 + 1), r7786, r7725)))
  else (some (.inr (x7020.2.1, x7020.2.2)))
noncomputable def t_builder_ordered_l6 (x0m : Int) (x4m : Int → Option Int) (t3537 : Mp Int × List Int) (x5410 : Int × List Int) : Option ((Int × List Int) ⊕ (List Int)) :=
  bif decide (x5410.1 < x0m) then (Option.bind (x4m x5410.1) fun r5462 =>
  Option.bind (klookB t3537.1 r5462) fun r5475 =>
  Option.bind (app 8 x5410.2 [r5475.getD 0]) fun r5484 =>
  some (.inl (IntKind.i64.wrap (x5410.1 + 1), r5484)))
  else (some (.inr x5410.2))
noncomputable def t_builder_ordered_l5 (x3539 : Int × Mp Int × List Int) (x5057 : Int × Mp Int × List Int) (x5m : Int → Int → Int → Option Int) (x4680 : Int × Mp Int × List Int) (x5180 : Int × Mp Int × List Int) : Option ((Int × Mp Int × List Int) ⊕ (Mp Int × List Int)) :=
  bif decide (x5180.1 < (x3539.2.2.length : Int)) then (Option.bind (idx x5180.2.2 x5057.1) fun e5206 =>
  Option.bind (idx x5180.2.2 x5180.1) fun e5213 =>
  Option.bind (x5m x4680.1 e5206 e5213) fun r5219 =>
  Option.bind (t_builder_meet4 x5180.2.1 x5180.2.2 r5219) fun r5233 =>
  some (.inl (IntKind.i64.wrap (x5180.1 + 1), r5233.2.1, r5233.2.2)))
  else (some (.inr (x5180.2.1, x5180.2.2)))
noncomputable def t_builder_ordered_l4 (x3539 : Int × Mp Int × List Int) (x5m : Int → Int → Int → Option Int) (x4680 : Int × Mp Int × List Int) (x5057 : Int × Mp Int × List Int) : Option ((Int × Mp Int × List Int) ⊕ (Mp Int × List Int)) :=
  bif decide (x5057.1 < (x3539.2.2.length : Int)) then (Option.bind (loopP (t_builder_ordered_l5 x3539 x5057 x5m x4680) (0, x5057.2.1, x5057.2.2)) fun t5178 =>
  some (.inl (IntKind.i64.wrap (x5057.1 + 1), t5178.1, t5178.2)))
  else (some (.inr (x5057.2.1, x5057.2.2)))
noncomputable def t_builder_ordered_l3 (x0m : Int) (x3539 : Int × Mp Int × List Int) (x5m : Int → Int → Int → Option Int) (x4680 : Int × Mp Int × List Int) : Option ((Int × Mp Int × List Int) ⊕ (Mp Int × List Int)) :=
  bif decide (x4680.1 < x0m) then (Option.bind (loopP (t_builder_ordered_l4 x3539 x5m x4680) (0, x4680.2.1, x4680.2.2)) fun t5055 =>
  some (.inl (IntKind.i64.wrap (x4680.1 + 1), t5055.1, t5055.2)))
  else (some (.inr (x4680.2.1, x4680.2.2)))
noncomputable def t_builder_ordered_l2 (x0m : Int) (x5m : Int → Int → Int → Option Int) (x3539 : Int × Mp Int × List Int) : Option ((Int × Mp Int × List Int) ⊕ (Mp Int × List Int)) :=
  bif x3539.1 != (x3539.2.2.length : Int) then (Option.bind (loopP (t_builder_ordered_l3 x0m x3539 x5m) (0, x3539.2.1, x3539.2.2)) fun t4678 =>
  some (.inl ((x3539.2.2.length : Int), t4678.1, t4678.2)))
  else (some (.inr (x3539.2.1, x3539.2.2)))
noncomputable def t_builder_ordered_l1 (x0m : Int) (x4m : Int → Option Int) (x78 : Int × Mp Int × List Int) : Option ((Int × Mp Int × List Int) ⊕ (Mp Int × List Int)) :=
  bif decide (x78.1 < x0m) then (Option.bind (x4m x78.1) fun r101 =>
  Option.bind (t_builder_meet4 x78.2.1 x78.2.2 r101) fun r115 =>
  some (.inl (IntKind.i64.wrap (x78.1 + 1), r115.2.1, r115.2.2)))
  else (some (.inr (x78.2.1, x78.2.2)))
noncomputable def t_builder_ordered (x0m : Int) (x4m : Int → Option Int) (x5m : Int → Int → Int → Option Int) (x6m : Int → Option Bool) : Option (Option machine) :=
  Option.bind (loopP (t_builder_ordered_l1 x0m x4m) (0, ([] : Mp Int), ([] : List Int))) fun t76 =>
  Option.bind (loopP (t_builder_ordered_l2 x0m x5m) (0, t76.1, t76.2)) fun t3537 =>
  Option.bind (loopP (t_builder_ordered_l6 x0m x4m t3537) (0, ([] : List Int))) fun t5408 =>
  Option.bind (loopP (t_builder_ordered_l7 t3537 x0m x5m x6m) (0, ([] : List Bool), ([] : List (List (List Int))))) fun t7018 =>
  some (some (⟨x0m, t7018.1, t5408, t7018.2⟩ : machine))
noncomputable def t_determine_l3 (d0 : TreeAutomaton) (x530 : Int × List (List Branch)) : Option ((Int × List (List Branch)) ⊕ (List (List Branch))) :=
  bif decide (x530.1 < (d0.branches.length : Int)) then (Option.bind (idx d0.branches x530.1) fun e543 =>
  Option.bind (idx x530.2 e543.letter) fun e623 =>
  Option.bind (app 32 e623 [e543]) fun r682 =>
  some (.inl (IntKind.i64.wrap (x530.1 + 1), x530.2.set (e543.letter : Int).toNat r682)))
  else (some (.inr x530.2))
noncomputable def t_determine_l2 (d0 : TreeAutomaton) (x150 : Int × List U64) : Option ((Int × List U64) ⊕ (List U64)) :=
  bif decide (x150.1 < (d0.leaves.length : Int)) then (Option.bind (idx d0.leaves x150.1) fun e163 =>
  Option.bind (idx x150.2 e163.letter) fun e177 =>
  Option.bind (shl64 1 e163.to) fun e183 =>
  Option.bind (idx x150.2 e163.letter) fun e186 =>
  some (.inl (IntKind.i64.wrap (x150.1 + 1), x150.2.set (e163.letter : Int).toNat (U64.mk (IntKind.u64.wrap (BitVec.ofInt 64 e177.i ||| BitVec.ofInt 64 e183).toNat)))))
  else (some (.inr x150.2))
noncomputable def t_determine_l1 (d0 : TreeAutomaton) (x44 : Int × Int) : Option ((Int × Int) ⊕ (Int)) :=
  bif decide (x44.1 < (d0.accept.length : Int)) then (Option.bind (idx d0.accept x44.1) fun e51 =>
  Option.bind (shl64 1 e51) fun e59 =>
  some (.inl (IntKind.i64.wrap (x44.1 + 1), IntKind.u64.wrap (BitVec.ofInt 64 x44.2 ||| BitVec.ofInt 64 e59).toNat)))
  else (some (.inr x44.2))
noncomputable def t_determine (d0 : TreeAutomaton) (d1 : Int) : Option (Option machine) :=
  Option.bind (loopP (t_determine_l1 d0) (0, 0)) fun t42 =>
  Option.bind (mkN 8 d0.letters) fun m67 =>
  Option.bind (loopP (t_determine_l2 d0) (0, List.replicate m67 (U64.mk 0 : U64))) fun t148 =>
  Option.bind (mkN 24 d0.letters) fun m198 =>
  Option.bind (loopP (t_determine_l3 d0) (0, List.replicate m198 ([] : List Branch))) fun t528 =>
  Option.bind (t_builder_build5 d0.letters d1 (t_determine_1 t148) (t_determine_2 t528) (t_determine_3 (U64.mk t42))) fun r728 =>
  some r728
noncomputable def t_machine_plain_l5 (d0 : machine) (x2473 : Int × List Branch) (x1937 : Int × List Branch) (x2649 : Int × List Branch) : Option ((Int × List Branch) ⊕ (List Branch)) :=
  bif decide (x2649.1 < (d0.accept.length : Int)) then (Option.bind (idx d0.branch x2473.1) fun e2704 =>
  Option.bind (idx e2704 x2649.1) fun e2710 =>
  Option.bind (idx e2710 x1937.1) fun e2716 =>
  Option.bind (app 32 x2649.2 [(⟨x1937.1, x2473.1, x2649.1, e2716⟩ : Branch)]) fun r2729 =>
  some (.inl (IntKind.i64.wrap (x2649.1 + 1), r2729)))
  else (some (.inr x2649.2))
noncomputable def t_machine_plain_l4 (d0 : machine) (x1937 : Int × List Branch) (x2473 : Int × List Branch) : Option ((Int × List Branch) ⊕ (List Branch)) :=
  bif decide (x2473.1 < (d0.accept.length : Int)) then (Option.bind (loopP (t_machine_plain_l5 d0 x2473 x1937) (0, x2473.2)) fun t2647 =>
  some (.inl (IntKind.i64.wrap (x2473.1 + 1), t2647)))
  else (some (.inr x2473.2))
noncomputable def t_machine_plain_l3 (d0 : machine) (x1937 : Int × List Branch) : Option ((Int × List Branch) ⊕ (List Branch)) :=
  bif decide (x1937.1 < d0.letters) then (Option.bind (loopP (t_machine_plain_l4 d0 x1937) (0, x1937.2)) fun t2471 =>
  some (.inl (IntKind.i64.wrap (x1937.1 + 1), t2471)))
  else (some (.inr x1937.2))
noncomputable def t_machine_plain_l2 (d0 : machine) (x292 : Int × List Leaf) : Option ((Int × List Leaf) ⊕ (List Leaf)) :=
  bif decide (x292.1 < (d0.leaf.length : Int)) then (Option.bind (idx d0.leaf x292.1) fun e305 =>
  Option.bind (app 16 x292.2 [(⟨x292.1, e305⟩ : Leaf)]) fun r317 =>
  some (.inl (IntKind.i64.wrap (x292.1 + 1), r317)))
  else (some (.inr x292.2))
noncomputable def t_machine_plain_l1 (d0 : machine) (x173 : Int × List Int) : Option ((Int × List Int) ⊕ (List Int)) :=
  bif decide (x173.1 < (d0.accept.length : Int)) then (Option.bind (idx d0.accept x173.1) fun e186 =>
  Option.bind (bif e186 then (Option.bind (app 8 x173.2 [x173.1]) fun r218 =>
  some r218)
  else (some x173.2)) fun y207 =>
  some (.inl (IntKind.i64.wrap (x173.1 + 1), y207)))
  else (some (.inr x173.2))
noncomputable def t_machine_plain (d0 : machine) : Option (TreeAutomaton) :=
  Option.bind (t_machine_states d0) fun r40 =>
  Option.bind (loopP (t_machine_plain_l1 d0) (0, ([] : List Int))) fun t171 =>
  Option.bind (loopP (t_machine_plain_l2 d0) (0, ([] : List Leaf))) fun t290 =>
  Option.bind (loopP (t_machine_plain_l3 d0) (0, ([] : List Branch))) fun t1935 =>
  some (⟨d0.letters, r40, t171, t290, t1935⟩ : TreeAutomaton)
end Go.Lg
set_option autoImplicit true
set_option linter.unusedVariables false
set_option maxRecDepth 100000
namespace Go.Lg
open Go
noncomputable def r7_Exact (d0 : TreeAutomaton) : Option (TreeAutomaton) :=
  Option.bind (r7_subsets d0 (-1)) fun r14 =>
  Option.bind (r7_canonical r14.1) fun r36 =>
  some r36
noncomputable def r2_Validate_l3 (d0 : Protocol) (x674 : Int) : Option ((Int) ⊕ (((Unit) ⊕ (Int)))) :=
  bif decide (x674 < (d0.rules.length : Int)) then (Option.bind (r2_rule d0 x674) fun r688 =>
  bif r688 != 0 then (some (.inr (.inr r688)))
  else (some (.inl (IntKind.i64.wrap (x674 + 1)))))
  else (some (.inr (.inl ())))
noncomputable def r2_Validate_l2 (d0 : Protocol) (x597 : Int) : Option ((Int) ⊕ (((Unit) ⊕ (Int)))) :=
  bif decide (x597 < (d0.resilience.length : Int)) then (Option.bind (idx d0.resilience x597) fun e611 =>
  Option.bind (r2_few e611) fun r618 =>
  bif !r618 then (some (.inr (.inr 4)))
  else (some (.inl (IntKind.i64.wrap (x597 + 1)))))
  else (some (.inr (.inl ())))
noncomputable def r2_Validate_l1  (x411 : List ByteArray × Int) : Option ((List ByteArray × Int) ⊕ (((Unit) ⊕ (Int)))) :=
  bif decide (x411.2 < (x411.1.length : Int)) then (Option.bind (idx x411.1 x411.2) fun e429 =>
  Option.bind (r2_ValidName e429) fun r435 =>
  Option.bind (bif !r435 then (some true)
  else (Option.bind (slc x411.1 0 x411.2) fun l470 =>
  Option.bind (idx x411.1 x411.2) fun e475 =>
  Option.bind (r2_HasText l470 e475) fun r481 =>
  some r481)) fun y464 =>
  bif y464 then (some (.inr (.inr 2)))
  else (some (.inl (x411.1, IntKind.i64.wrap (x411.2 + 1)))))
  else (some (.inr (.inl ())))
noncomputable def r2_Validate (d0 : Protocol) : Option (Int) :=
  Option.bind (r2_ValidName d0.name) fun r19 =>
  bif !r19 then (some 2)
  else (Option.bind (r2_within d0.topology 1 4) fun r27 =>
  Option.bind (bif !r27 then (some true)
  else (Option.bind (r2_within d0.fault 0 3) fun r51 =>
  some (!r51))) fun y45 =>
  bif y45 then (some 1)
  else (bif (d0.states.length : Int) == 0 then (some 1)
  else (Option.bind (bif decide ((d0.states.length : Int) > 6) then (some true)
  else (bif decide ((d0.messages.length : Int) > 3) then (some true)
  else (bif decide ((d0.values.length : Int) > 3) then (some true)
  else (bif decide ((d0.resilience.length : Int) > 4) then (some true)
  else (some (decide ((d0.rules.length : Int) > 8))))))) fun y82 =>
  bif y82 then (some 4)
  else (Option.bind (app 16 ([] : List ByteArray) d0.states) fun r141 =>
  Option.bind (app 16 r141 d0.messages) fun r149 =>
  Option.bind (app 16 r149 d0.values) fun r156 =>
  Option.bind (loopP (r2_Validate_l1) (r156, 0)) fun t409 =>
  (match t409 with
  | .inl y417 =>
  Option.bind (bif d0.topology != 1 then (bif decide ((d0.messages.length : Int) > 0) then (some true)
  else (bif decide ((d0.values.length : Int) > 0) then (some true)
  else (bif decide ((d0.resilience.length : Int) > 0) then (some true)
  else (bif d0.fault != 0 then (some true)
  else (bif d0.topology == 1 then (some (decide ((d0.leader.length : Int) > 0)))
  else (some false))))))
  else (bif d0.topology == 1 then (some (decide ((d0.leader.length : Int) > 0)))
  else (some false))) fun y524 =>
  bif y524 then (some 1)
  else (Option.bind (loopP (r2_Validate_l2 d0) 0) fun t595 =>
  (match t595 with
  | .inl y601 =>
  Option.bind (r2_Set d0.initial (d0.states.length : Int)) fun r630 =>
  bif r630 != 0 then (some r630)
  else (bif (d0.initial.length : Int) == 0 then (some 1)
  else (Option.bind (r2_Set d0.leader (d0.states.length : Int)) fun r640 =>
  bif r640 != 0 then (some r640)
  else (Option.bind (loopP (r2_Validate_l3 d0) 0) fun t672 =>
  (match t672 with
  | .inl y678 =>
  Option.bind (r2_distinct d0) fun r700 =>
  bif decide ((r700.length : Int) > 3) then (some 4)
  else (some 0)
  | .inr r =>
  some r))))
  | .inr r =>
  some r))
  | .inr r =>
  some r)))))
noncomputable def sl_Indexapi_Threshold_api_Threshold__l1 (d0 : List Threshold) (d1 : Threshold) (x29 : Int) : Option ((Int) ⊕ (((Unit) ⊕ (Int)))) :=
  bif decide (x29 < (d0.length : Int)) then (Option.bind (idx d0 x29) fun e39 =>
  bif [d1.message, d1.coef, d1.bound.c, d1.bound.n, d1.bound.t, d1.bound.f] == [e39.message, e39.coef, e39.bound.c, e39.bound.n, e39.bound.t, e39.bound.f] then (some (.inr (.inr x29)))
  else (some (.inl (IntKind.i64.wrap (x29 + 1)))))
  else (some (.inr (.inl ())))
noncomputable def sl_Indexapi_Threshold_api_Threshold_ (d0 : List Threshold) (d1 : Threshold) : Option (Int) :=
  Option.bind (loopP (sl_Indexapi_Threshold_api_Threshold__l1 d0 d1) 0) fun t27 =>
  (match t27 with
  | .inl y31 =>
  some (-1)
  | .inr r =>
  some r)
noncomputable def r7_initialTrees_l2 (y44 : List Int) (x584 : Int × List Leaf × List Branch) : Option ((Int × List Leaf × List Branch) ⊕ (List Leaf × List Branch)) :=
  bif decide (x584.1 < (y44.length : Int)) then (Option.bind (idx y44 x584.1) fun e629 =>
  Option.bind (app 16 x584.2.1 [(⟨e629, 1⟩ : Leaf)]) fun r642 =>
  Option.bind (idx y44 x584.1) fun e675 =>
  Option.bind (app 32 x584.2.2 [(⟨e675, 0, 0, 1⟩ : Branch)]) fun r688 =>
  some (.inl (IntKind.i64.wrap (x584.1 + 1), r642, r688)))
  else (some (.inr (x584.2.1, x584.2.2)))
noncomputable def r7_initialTrees_l1 (r34 : List Int) (x269 : Int × List Leaf × List Branch) : Option ((Int × List Leaf × List Branch) ⊕ (List Leaf × List Branch)) :=
  bif decide (x269.1 < (r34.length : Int)) then (Option.bind (idx r34 x269.1) fun e314 =>
  Option.bind (app 16 x269.2.1 [(⟨e314, 0⟩ : Leaf)]) fun r327 =>
  Option.bind (idx r34 x269.1) fun e360 =>
  Option.bind (app 32 x269.2.2 [(⟨e360, 0, 0, 0⟩ : Branch)]) fun r373 =>
  some (.inl (IntKind.i64.wrap (x269.1 + 1), r327, r373)))
  else (some (.inr (x269.2.1, x269.2.2)))
noncomputable def r7_initialTrees (d0 : Protocol) (d1 : Property) : Option (TreeAutomaton) :=
  Option.bind (r2_StartStates d0 d1) fun r34 =>
  Option.bind (bif decide ((d0.leader.length : Int) > 0) then (some d0.leader)
  else (some r34)) fun y44 =>
  Option.bind (loopP (r7_initialTrees_l1 r34) (0, ([] : List Leaf), ([] : List Branch))) fun t267 =>
  Option.bind (loopP (r7_initialTrees_l2 y44) (0, t267.1, t267.2)) fun t582 =>
  Option.bind (r7_Exact (⟨(d0.states.length : Int), 2, [1], t582.1, t582.2⟩ : TreeAutomaton)) fun r713 =>
  some r713
noncomputable def r2_ValidateProperty_l3 (d1 : Property) (d0 : Protocol) (x498 : Int) : Option ((Int) ⊕ (((Unit) ⊕ (Int)))) :=
  bif decide (x498 < (d1.adjacent.length : Int)) then (Option.bind (idx d1.adjacent x498) fun e510 =>
  Option.bind (r2_within e510 0 (IntKind.i64.wrap ((d0.states.length : Int) - 1))) fun r516 =>
  bif !r516 then (some (.inr (.inr 5)))
  else (some (.inl (IntKind.i64.wrap (x498 + 1)))))
  else (some (.inr (.inl ())))
noncomputable def r2_ValidateProperty_l2 (d1 : Property) (d0 : Protocol) (x360 : Int) : Option ((Int) ⊕ (((Unit) ⊕ (Int)))) :=
  bif decide (x360 < (d1.bad.length : Int)) then (Option.bind (idx d1.bad x360) fun e372 =>
  Option.bind (r2_Set e372.states (d0.states.length : Int)) fun r378 =>
  bif r378 != 0 then (some (.inr (.inr r378)))
  else (Option.bind (idx d1.bad x360) fun e387 =>
  Option.bind (bif (e387.states.length : Int) == 0 then (some true)
  else (Option.bind (idx d1.bad x360) fun e417 =>
  Option.bind (r2_within e417.least 1 3) fun r423 =>
  some (!r423))) fun y412 =>
  bif y412 then (some (.inr (.inr 1)))
  else (some (.inl (IntKind.i64.wrap (x360 + 1))))))
  else (some (.inr (.inl ())))
noncomputable def r2_ValidateProperty_l1 (d1 : Property) (d0 : Protocol) (x165 : Int) : Option ((Int) ⊕ (((Unit) ⊕ (Int)))) :=
  bif decide (x165 < (d1.start.length : Int)) then (Option.bind (idx d1.start x165) fun e181 =>
  Option.bind (r2_Has d0.initial e181) fun r187 =>
  bif !r187 then (some (.inr (.inr 5)))
  else (some (.inl (IntKind.i64.wrap (x165 + 1)))))
  else (some (.inr (.inl ())))
noncomputable def r2_ValidateProperty (d0 : Protocol) (d1 : Property) : Option (Int) :=
  Option.bind (r2_Validate d0) fun r31 =>
  bif r31 != 0 then (some r31)
  else (Option.bind (r2_ValidName d1.name) fun r41 =>
  bif !r41 then (some 2)
  else (Option.bind (bif d1.kind != 1 then (some (d1.kind != 2))
  else (some false)) fun y51 =>
  bif y51 then (some 1)
  else (Option.bind (bif d1.kind == 1 then (bif decide ((d1.goal.length : Int) > 0) then (some true)
  else (bif d1.kind == 2 then (bif decide ((d1.bad.length : Int) > 0) then (some true)
  else (some (decide ((d1.adjacent.length : Int) > 0))))
  else (some false)))
  else (bif d1.kind == 2 then (bif decide ((d1.bad.length : Int) > 0) then (some true)
  else (some (decide ((d1.adjacent.length : Int) > 0))))
  else (some false))) fun y83 =>
  bif y83 then (some 1)
  else (Option.bind (r2_Set d1.start (d0.states.length : Int)) fun r113 =>
  bif r113 != 0 then (some r113)
  else (Option.bind (loopP (r2_ValidateProperty_l1 d1 d0) 0) fun t163 =>
  (match t163 with
  | .inl y169 =>
  bif d1.kind == 2 then (Option.bind (r2_Set d1.goal (d0.states.length : Int)) fun r200 =>
  bif r200 != 0 then (some r200)
  else (bif (d1.goal.length : Int) == 0 then (some 1)
  else (some 0)))
  else (Option.bind (bif (d1.bad.length : Int) == 0 then (some ((d1.adjacent.length : Int) == 0))
  else (some false)) fun y216 =>
  bif y216 then (some 1)
  else (bif decide ((d1.bad.length : Int) > 3) then (some 4)
  else (Option.bind (loopP (r2_ValidateProperty_l2 d1 d0) 0) fun t358 =>
  (match t358 with
  | .inl y364 =>
  Option.bind (bif decide ((d1.adjacent.length : Int) > 0) then (some (d0.topology == 1))
  else (some false)) fun y444 =>
  bif y444 then (some 6)
  else (Option.bind (bif (d1.adjacent.length : Int) != 0 then (some ((d1.adjacent.length : Int) != 2))
  else (some false)) fun y454 =>
  bif y454 then (some 1)
  else (Option.bind (loopP (r2_ValidateProperty_l3 d1 d0) 0) fun t496 =>
  (match t496 with
  | .inl y502 =>
  some 0
  | .inr r =>
  some r)))
  | .inr r =>
  some r))))
  | .inr r =>
  some r))))))
noncomputable def sl_Containsapi_Threshold_api_Threshold_ (d0 : List Threshold) (d1 : Threshold) : Option (Bool) :=
  Option.bind (sl_Indexapi_Threshold_api_Threshold_ d0 d1) fun r5 =>
  some (decide (r5 ≥ 0))
noncomputable def r7_Check (d0 : Protocol) (d1 : Property) : Option (Int) :=
  Option.bind (r2_ValidateProperty d0 d1) fun r31 =>
  bif r31 != 0 then (some r31)
  else (Option.bind (bif d0.topology != 4 then (some true)
  else (some (d1.kind != 1))) fun y41 =>
  bif y41 then (some 7)
  else (some 0))
noncomputable def p_thresholds_l2 (e554 : Rule) (x719 : List Threshold × Int) : Option ((List Threshold × Int) ⊕ (List Threshold)) :=
  bif decide (x719.2 < (e554.guards.length : Int)) then (Option.bind (idx e554.guards x719.2) fun e736 =>
  Option.bind (sl_Containsapi_Threshold_api_Threshold_ x719.1 e736) fun r753 =>
  Option.bind (bif !r753 then (Option.bind (app 48 x719.1 [e736]) fun r788 =>
  some r788)
  else (some x719.1)) fun y777 =>
  some (.inl (y777, IntKind.i64.wrap (x719.2 + 1))))
  else (some (.inr x719.1))
noncomputable def p_thresholds_l1 (d0 : Protocol) (x537 : List Threshold × Int) : Option ((List Threshold × Int) ⊕ (List Threshold)) :=
  bif decide (x537.2 < (d0.rules.length : Int)) then (Option.bind (idx d0.rules x537.2) fun e554 =>
  Option.bind (loopP (p_thresholds_l2 e554) (x537.1, 0)) fun t717 =>
  some (.inl (t717, IntKind.i64.wrap (x537.2 + 1))))
  else (some (.inr x537.1))
noncomputable def p_thresholds (d0 : Protocol) : Option (List Threshold) :=
  Option.bind (loopP (p_thresholds_l1 d0) (([] : List Threshold), 0)) fun t535 =>
  some t535
noncomputable def r7_InitialTrees (d0 : Protocol) (d1 : Property) : Option (TreeAutomaton × Int) :=
  Option.bind (r7_Check d0 d1) fun r34 =>
  bif r34 != 0 then (some ((⟨0, 0, ([] : List Int), ([] : List Leaf), ([] : List Branch)⟩ : TreeAutomaton), r34))
  else (Option.bind (r7_initialTrees d0 d1) fun r44 =>
  some (r44, 0))
end Go.Lg
set_option autoImplicit true
set_option linter.unusedVariables false
set_option maxRecDepth 100000
namespace Go.Lg
open Go
noncomputable def sl_Growstring_string_ (d1 : Int) : Option (List ByteArray) :=
  Option.bind (bif decide (d1 < 0) then (none)
  else (some ())) fun y1 =>
  Option.bind (bif decide ((IntKind.i64.wrap (d1 - (IntKind.i64.wrap (0 - 0)))) > 0) then (Option.bind (slc ([] : List ByteArray) 0 0) fun l46 =>
  Option.bind (mkN 16 (IntKind.i64.wrap (d1 - (IntKind.i64.wrap (0 - 0))))) fun m50 =>
  Option.bind (slc (List.replicate m50 (ByteArray.empty : ByteArray)) 0 (([] : List ByteArray).length : Int)) fun l58 =>
  some l58)
  else (some ([] : List ByteArray))) fun y41 =>
  some y41
noncomputable def sl_Concatstring_string__l2 (d0 : List (List ByteArray)) (x102 : List ByteArray × Int) : Option ((List ByteArray × Int) ⊕ (List ByteArray)) :=
  bif decide (x102.2 < (d0.length : Int)) then (Option.bind (idx d0 x102.2) fun e115 =>
  Option.bind (app 16 x102.1 e115) fun r121 =>
  some (.inl (r121, IntKind.i64.wrap (x102.2 + 1))))
  else (some (.inr x102.1))
noncomputable def sl_Concatstring_string__l1 (d0 : List (List ByteArray)) (x35 : Int × Int) : Option ((Int × Int) ⊕ (Int)) :=
  bif decide (x35.2 < (d0.length : Int)) then (Option.bind (idx d0 x35.2) fun e42 =>
  Option.bind (bif decide ((IntKind.i64.wrap (x35.1 + (e42.length : Int))) < 0) then (none)
  else (some ())) fun y50 =>
  some (.inl (IntKind.i64.wrap (x35.1 + (e42.length : Int)), IntKind.i64.wrap (x35.2 + 1))))
  else (some (.inr x35.1))
noncomputable def sl_Concatstring_string_ (d0 : List (List ByteArray)) : Option (List ByteArray) :=
  Option.bind (loopP (sl_Concatstring_string__l1 d0) (0, 0)) fun t33 =>
  Option.bind (sl_Growstring_string_ t33) fun r60 =>
  Option.bind (loopP (sl_Concatstring_string__l2 d0) (r60, 0)) fun t100 =>
  some t100
noncomputable def t_machine_refine_l3 (d0 : machine) (x1691 : Mp ByteArray × List Int × Int) (x2242 : List U8 × Int) (d1 : List Int) (x2414 : List U8 × Int) : Option ((List U8 × Int) ⊕ (List U8)) :=
  bif decide (x2414.2 < d0.letters) then (Option.bind (idx d0.branch x1691.2.2) fun e2431 =>
  Option.bind (idx e2431 x2242.2) fun e2438 =>
  Option.bind (idx e2438 x2414.2) fun e2444 =>
  Option.bind (idx d1 e2444) fun e2450 =>
  Option.bind (idx d0.branch x2242.2) fun e2459 =>
  Option.bind (idx e2459 x1691.2.2) fun e2465 =>
  Option.bind (idx e2465 x2414.2) fun e2472 =>
  Option.bind (idx d1 e2472) fun e2478 =>
  Option.bind (shrI e2450 8) fun e2484 =>
  Option.bind (shrI e2478 8) fun e2487 =>
  Option.bind (app 1 x2414.1 [(U8.mk (IntKind.u8.wrap e2450)), (U8.mk (IntKind.u8.wrap e2484)), (U8.mk (IntKind.u8.wrap e2478)), (U8.mk (IntKind.u8.wrap e2487))]) fun r2495 =>
  some (.inl (r2495, IntKind.i64.wrap (x2414.2 + 1))))
  else (some (.inr x2414.1))
noncomputable def t_machine_refine_l2 (d1 : List Int) (d0 : machine) (x1691 : Mp ByteArray × List Int × Int) (x2242 : List U8 × Int) : Option ((List U8 × Int) ⊕ (List U8)) :=
  bif decide (x2242.2 < (d1.length : Int)) then (Option.bind (loopP (t_machine_refine_l3 d0 x1691 x2242 d1) (x2242.1, 0)) fun t2412 =>
  some (.inl (t2412, IntKind.i64.wrap (x2242.2 + 1))))
  else (some (.inr x2242.1))
noncomputable def t_machine_refine_l1 (d1 : List Int) (d0 : machine) (x1691 : Mp ByteArray × List Int × Int) : Option ((Mp ByteArray × List Int × Int) ⊕ (Mp ByteArray × List Int)) :=
  bif decide (x1691.2.2 < (d1.length : Int)) then (Option.bind (idx d1 x1691.2.2) fun e1712 =>
  Option.bind (idx d1 x1691.2.2) fun e1718 =>
  Option.bind (shrI e1718 8) fun e1725 =>
  Option.bind (loopP (t_machine_refine_l2 d1 d0 x1691) ([(U8.mk (IntKind.u8.wrap e1712)), (U8.mk (IntKind.u8.wrap e1725))], 0)) fun t2240 =>
  Option.bind (klookB x1691.1 (bytesOf t2240)) fun r2510 =>
  Option.bind (bif !r2510.isSome then (Option.bind (kputB x1691.1 (bytesOf t2240) (x1691.1.length : Int)) fun r2524 =>
  some (r2524, (x1691.1.length : Int)))
  else (some (x1691.1, r2510.getD 0))) fun y2519 =>
  Option.bind (idx x1691.2.1 x1691.2.2) fun e2534 =>
  some (.inl (y2519.1, x1691.2.1.set (x1691.2.2 : Int).toNat y2519.2, IntKind.i64.wrap (x1691.2.2 + 1))))
  else (some (.inr (x1691.1, x1691.2.1)))
noncomputable def t_machine_refine (d0 : machine) (d1 : List Int) : Option (List Int × Int) :=
  Option.bind (mkN 8 (d1.length : Int)) fun m10 =>
  Option.bind (loopP (t_machine_refine_l1 d1 d0) (([] : Mp ByteArray), List.replicate m10 (0 : Int), 0)) fun t1689 =>
  some (t1689.2, (t1689.1.length : Int))
noncomputable def t_machine_classes_l3 (d1 : Int) (d0 : machine) (x247 : List Int × Int × Int) : Option ((List Int × Int × Int) ⊕ (List Int)) :=
  bif x247.2.2 != d1 then (Option.bind (t_machine_refine d0 x247.1) fun r262 =>
  bif r262.2 == x247.2.1 then (some (.inr x247.1))
  else (some (.inl (r262.1, r262.2, IntKind.i64.wrap (x247.2.2 + 1)))))
  else (some (.inr x247.1))
noncomputable def t_machine_classes_l2 (t105 : List Int) (x181 : Int × Int) : Option ((Int × Int) ⊕ (Int)) :=
  bif decide (x181.2 < (t105.length : Int)) then (Option.bind (idx t105 x181.2) fun e188 =>
  some (.inl (if IntKind.i64.wrap (e188 + 1) > x181.1 then IntKind.i64.wrap (e188 + 1) else x181.1, IntKind.i64.wrap (x181.2 + 1))))
  else (some (.inr x181.1))
noncomputable def t_machine_classes_l1 (d0 : machine) (x107 : List Int × Int) : Option ((List Int × Int) ⊕ (List Int)) :=
  bif decide (x107.2 < (d0.accept.length : Int)) then (Option.bind (idx d0.accept x107.2) fun e120 =>
  Option.bind (idx d0.accept 0) fun e128 =>
  Option.bind (bif !(e120 == e128) then (Option.bind (idx x107.1 x107.2) fun e147 =>
  some (x107.1.set (x107.2 : Int).toNat 1))
  else (some x107.1)) fun y142 =>
  some (.inl (y142, IntKind.i64.wrap (x107.2 + 1))))
  else (some (.inr x107.1))
noncomputable def t_machine_classes (d0 : machine) (d1 : Int) : Option (List Int) :=
  Option.bind (t_machine_states d0) fun r3 =>
  Option.bind (mkN 8 r3) fun m11 =>
  Option.bind (loopP (t_machine_classes_l1 d0) (List.replicate m11 (0 : Int), 0)) fun t105 =>
  Option.bind (loopP (t_machine_classes_l2 t105) (0, 0)) fun t179 =>
  Option.bind (loopP (t_machine_classes_l3 d1 d0) (t105, t179, 0)) fun t245 =>
  some t245
noncomputable def st_Fields_l4 (d0 : ByteArray) (x616 : Int) : Option ((Int) ⊕ (Int)) :=
  Option.bind (bif decide (x616 < (d0.size : Int)) then (Option.bind (sidx d0 x616) fun e632 =>
  Option.bind (tabAt e632) fun e634 =>
  some (e634 != 0))
  else (some false)) fun y629 =>
  bif y629 then (some (.inl (IntKind.i64.wrap (x616 + 1))))
  else (some (.inr x616))
noncomputable def st_Fields_l3 (d0 : ByteArray) (x461 : List ByteArray × Int × Int × Int) : Option ((List ByteArray × Int × Int × Int) ⊕ (List ByteArray × Int × Int)) :=
  bif decide (x461.2.2.2 < (d0.size : Int)) then (Option.bind (Option.bind (sidx d0 x461.2.2.2) fun e562 =>
  Option.bind (tabAt e562) fun e564 =>
  bif e564 == 0 then (some (x461.1, x461.2.1, x461.2.2.1, IntKind.i64.wrap (x461.2.2.2 + 1)))
  else (Option.bind (sslc d0 x461.2.2.1 x461.2.2.2) fun b566 =>
  Option.bind (idx x461.1 x461.2.1) fun e568 =>
  Option.bind (loopP (st_Fields_l4 d0) (IntKind.i64.wrap (x461.2.2.2 + 1))) fun t614 =>
  some (x461.1.set (x461.2.1 : Int).toNat b566, IntKind.i64.wrap (x461.2.1 + 1), t614, t614))) fun y557 =>
  some (.inl (y557.1, y557.2.1, y557.2.2.1, y557.2.2.2)))
  else (some (.inr (x461.1, x461.2.1, x461.2.2.1)))
noncomputable def st_Fields_l2 (d0 : ByteArray) (x75 : Int) : Option ((Int) ⊕ (Int)) :=
  Option.bind (bif decide (x75 < (d0.size : Int)) then (Option.bind (sidx d0 x75) fun e91 =>
  Option.bind (tabAt e91) fun e93 =>
  some (e93 != 0))
  else (some false)) fun y88 =>
  bif y88 then (some (.inl (IntKind.i64.wrap (x75 + 1))))
  else (some (.inr x75))
noncomputable def st_Fields_l1 (d0 : ByteArray) (x13 : Int × Int × Int × Int) : Option ((Int × Int × Int × Int) ⊕ (Int × Int)) :=
  bif decide (x13.2.2.2 < (d0.size : Int)) then (Option.bind (sidx d0 x13.2.2.2) fun e20 =>
  Option.bind (tabAt e20) fun e22 =>
  some (.inl (IntKind.i64.wrap (x13.1 + (IntKind.i64.wrap (BitVec.ofInt 64 x13.2.1 &&& BitVec.ofInt 64 (IntKind.i64.wrap ((18446744073709551615 ^^^ ((IntKind.i64.wrap e22) % 18446744073709551616).toNat : Nat) : Int))).toNat)), IntKind.i64.wrap e22, IntKind.u8.wrap (BitVec.ofInt 8 x13.2.2.1 ||| BitVec.ofInt 8 e20).toNat, IntKind.i64.wrap (x13.2.2.2 + 1))))
  else (some (.inr (x13.1, x13.2.2.1)))
noncomputable def st_Fields (d0 : ByteArray) : Option (List ByteArray) :=
  Option.bind (loopP (st_Fields_l1 d0) (0, 1, 0, 0)) fun t11 =>
  bif decide (t11.2 ≥ 128) then (none)
  else (Option.bind (mkN 16 t11.1) fun m28 =>
  Option.bind (loopP (st_Fields_l2 d0) 0) fun t73 =>
  Option.bind (loopP (st_Fields_l3 d0) (List.replicate m28 (ByteArray.empty : ByteArray), 0, t73, t73)) fun t459 =>
  Option.bind (bif decide (t459.2.2 < (d0.size : Int)) then (Option.bind (sslc d0 t459.2.2 (d0.size : Int)) fun b668 =>
  Option.bind (idx t459.1 t459.2.1) fun e670 =>
  some (t459.1.set (t459.2.1 : Int).toNat b668))
  else (some t459.1)) fun y663 =>
  some y663)
noncomputable def p_isReserved (d0 : ByteArray) : Option (Bool) :=
  Option.bind (st_Fields (bs [112, 114, 111, 116, 111, 99, 111, 108, 32, 116, 111, 112, 111, 108, 111, 103, 121, 32, 115, 116, 97, 116, 101, 115, 32, 109, 101, 115, 115, 97, 103, 101, 115, 32, 118, 97, 108, 117, 101, 115, 32, 102, 97, 117, 108, 116, 115, 32, 114, 101, 115, 105, 108, 105, 101, 110, 99, 101, 32, 105, 110, 105, 116, 105, 97, 108, 32, 108, 101, 97, 100, 101, 114, 32, 114, 117, 108, 101, 32, 108, 111, 99, 97, 108, 32, 112, 97, 105, 114, 32, 98, 114, 111, 97, 100, 99, 97, 115, 116, 32, 110, 101, 105, 103, 104, 98, 111, 114, 32, 112, 97, 115, 115, 32, 119, 104, 101, 110, 32, 101, 120, 105, 115, 116, 115, 32, 102, 111, 114, 97, 108, 108, 32, 114, 101, 97, 100, 32, 119, 114, 105, 116, 101, 32, 115, 101, 110, 100, 32, 97, 108, 108, 32, 97, 116, 32, 102, 105, 114, 115, 116, 32, 108, 97, 115, 116, 32, 108, 101, 102, 116, 32, 114, 105, 103, 104, 116, 32, 112, 97, 114, 101, 110, 116, 32, 99, 104, 105, 108, 100, 32, 112, 114, 111, 112, 101, 114, 116, 121, 32, 110, 101, 118, 101, 114, 32, 101, 118, 101, 110, 116, 117, 97, 108, 108, 121, 32, 115, 116, 97, 114, 116, 32, 99, 111, 117, 110, 116, 32, 97, 100, 106, 97, 99, 101, 110, 116, 32, 103, 111, 97, 108, 32, 99, 108, 105, 113, 117, 101, 32, 108, 105, 110, 101, 32, 114, 105, 110, 103, 32, 116, 114, 101, 101, 32, 99, 114, 97, 115, 104, 32, 111, 109, 105, 115, 115, 105, 111, 110, 32, 97, 114, 98, 105, 116, 114, 97, 114, 121])) fun r1 =>
  Option.bind (sl_Containsstring_string_ r1 d0) fun r9 =>
  some r9
noncomputable def p_ValidName_l1 (d0 : ByteArray) (x74 : Nat) : Option ((Nat) ⊕ (((Nat) ⊕ (Bool)))) :=
  bif decide (x74 < d0.size) then (Option.bind (bif decide (((Utf8.decode d0 x74).1 : Int) ≥ 97) then (some (decide (((Utf8.decode d0 x74).1 : Int) ≤ 122)))
  else (some false)) fun y84 =>
  Option.bind (bif !y84 then (bif (x74 : Int) == 0 then (some true)
  else (bif decide (((Utf8.decode d0 x74).1 : Int) < 48) then (some (((Utf8.decode d0 x74).1 : Int) != 95))
  else (bif decide (((Utf8.decode d0 x74).1 : Int) > 57) then (some (((Utf8.decode d0 x74).1 : Int) != 95))
  else (some false))))
  else (some false)) fun y98 =>
  bif y98 then (some (.inr (.inr false)))
  else (some (.inl (x74 + (Utf8.decode d0 x74).2))))
  else (some (.inr (.inl x74)))
noncomputable def p_ValidName (d0 : ByteArray) : Option (Bool) :=
  Option.bind (bif d0.toList == (bs []).toList then (some true)
  else (some (decide ((d0.size : Int) > 12)))) fun y1 =>
  bif y1 then (some false)
  else (Option.bind (loopP (p_ValidName_l1 d0) 0) fun t72 =>
  (match t72 with
  | .inl y76 =>
  Option.bind (p_isReserved d0) fun r116 =>
  some (!r116)
  | .inr r =>
  some r))
noncomputable def p_names_l1 (r29 : List ByteArray) (x150 : Int) : Option ((Int) ⊕ (((Unit) ⊕ (Int)))) :=
  bif decide (x150 < (r29.length : Int)) then (Option.bind (idx r29 x150) fun e162 =>
  Option.bind (p_ValidName e162) fun r168 =>
  Option.bind (bif !r168 then (some true)
  else (Option.bind (slc r29 0 x150) fun l196 =>
  Option.bind (sl_Containsstring_string_ l196 e162) fun r202 =>
  some r202)) fun y191 =>
  bif y191 then (some (.inr (.inr 2)))
  else (some (.inl (IntKind.i64.wrap (x150 + 1)))))
  else (some (.inr (.inl ())))
noncomputable def p_names (d0 : Protocol) : Option (Int) :=
  Option.bind (sl_Concatstring_string_ [d0.states, d0.messages, d0.values]) fun r29 =>
  Option.bind (loopP (p_names_l1 r29) 0) fun t148 =>
  (match t148 with
  | .inl y154 =>
  some 0
  | .inr r =>
  some r)
end Go.Lg
set_option autoImplicit true
set_option linter.unusedVariables false
set_option maxRecDepth 100000
namespace Go.Lg
open Go
noncomputable def p_ruleError (d0 : Protocol) (d1 : Int) : Option (Int) :=
  Option.bind (idx d0.rules d1) fun e19 =>
  Option.bind (slc d0.rules 0 d1) fun l49 =>
  Option.bind (sl_ContainsFuncapi_Rule_api_Rule_ l49 (p_ruleError_1 e19)) fun r58 =>
  Option.bind (p_ValidName e19.name) fun r68 =>
  Option.bind (bif !r68 then (some true)
  else (some r58)) fun y78 =>
  bif y78 then (some 2)
  else (Option.bind (p_fits e19.kind d0.topology) fun r88 =>
  Option.bind (bif !r88 then (some true)
  else (Option.bind (p_surplus e19 d0.topology) fun r150 =>
  some r150)) fun y125 =>
  bif y125 then (some 6)
  else (Option.bind (p_index e19.frm (d0.states.length : Int)) fun r211 =>
  Option.bind (p_index e19.to (d0.states.length : Int)) fun r219 =>
  Option.bind (p_first [r211, r219]) fun r239 =>
  bif r239 != 0 then (some r239)
  else (bif e19.kind == 1 then (Option.bind (p_guards d0 e19.guards) fun r357 =>
  Option.bind (p_set e19.exists_ (d0.states.length : Int)) fun r365 =>
  Option.bind (p_set e19.forall_ (d0.states.length : Int)) fun r373 =>
  Option.bind (p_value d0 e19.read) fun r381 =>
  Option.bind (p_value d0 e19.write) fun r389 =>
  Option.bind (p_set e19.send (d0.messages.length : Int)) fun r397 =>
  Option.bind (p_first [r357, r365, r373, r381, r389, r397]) fun r417 =>
  some r417)
  else (bif e19.kind == 2 then (Option.bind (p_index e19.partnerFrom (d0.states.length : Int)) fun r503 =>
  Option.bind (p_index e19.partnerTo (d0.states.length : Int)) fun r511 =>
  Option.bind (p_value d0 e19.read) fun r519 =>
  Option.bind (p_value d0 e19.write) fun r527 =>
  Option.bind (p_first [r503, r511, r519, r527]) fun r547 =>
  some r547)
  else (bif e19.kind == 3 then (Option.bind (p_responses e19.response (d0.states.length : Int)) fun r620 =>
  Option.bind (p_value d0 e19.read) fun r628 =>
  Option.bind (p_value d0 e19.write) fun r636 =>
  Option.bind (p_first [r620, r628, r636]) fun r655 =>
  some r655)
  else (bif e19.kind == 4 then (Option.bind (bif decide (e19.at_ < 0) then (some true)
  else (bif decide (e19.at_ > 2) then (some true)
  else (bif e19.at_ != 0 then (some (d0.topology == 3))
  else (some false)))) fun y678 =>
  Option.bind (p_set e19.left (d0.states.length : Int)) fun r764 =>
  Option.bind (p_set e19.right (d0.states.length : Int)) fun r772 =>
  Option.bind (p_set e19.parent (d0.states.length : Int)) fun r780 =>
  Option.bind (p_when y678 1) fun r788 =>
  Option.bind (p_first [r764, r772, r780, r788]) fun r807 =>
  some r807)
  else (Option.bind (bif d0.topology == 4 then (some (3, 4))
  else (some (1, 2))) fun y818 =>
  Option.bind (p_index e19.partnerFrom (d0.states.length : Int)) fun r992 =>
  Option.bind (p_index e19.partnerTo (d0.states.length : Int)) fun r1000 =>
  Option.bind (bif decide (e19.direction < y818.1) then (Option.bind (p_when true 1) fun r1077 =>
  Option.bind (p_first [r992, r1000, r1077]) fun r1096 =>
  some r1096)
  else (Option.bind (p_when (decide (e19.direction > y818.2)) 1) fun r1110 =>
  Option.bind (p_first [r992, r1000, r1110]) fun r1129 =>
  some r1129)) fun y1072 =>
  some y1072)))))))
end Go.Lg
set_option autoImplicit true
set_option linter.unusedVariables false
set_option maxRecDepth 100000
namespace Go.Lg
open Go
noncomputable def p_Validate_l2 (d0 : Protocol) (x369 : Int) : Option ((Int) ⊕ (((Unit) ⊕ (Int)))) :=
  bif decide (x369 < (d0.rules.length : Int)) then (Option.bind (p_ruleError d0 x369) fun r381 =>
  bif r381 != 0 then (some (.inr (.inr r381)))
  else (some (.inl (IntKind.i64.wrap (x369 + 1)))))
  else (some (.inr (.inl ())))
noncomputable def p_Validate_l1 (d0 : Protocol) (x209 : Int) : Option ((Int) ⊕ (((Unit) ⊕ (Int)))) :=
  bif decide (x209 < (d0.resilience.length : Int)) then (Option.bind (idx d0.resilience x209) fun e221 =>
  Option.bind (p_bounded e221) fun r233 =>
  bif !r233 then (some (.inr (.inr 4)))
  else (some (.inl (IntKind.i64.wrap (x209 + 1)))))
  else (some (.inr (.inl ())))
noncomputable def p_Validate (d0 : Protocol) : Option (Int) :=
  Option.bind (p_ValidName d0.name) fun r21 =>
  bif !r21 then (some 2)
  else (Option.bind (bif decide (d0.topology < 1) then (some true)
  else (bif decide (d0.topology > 4) then (some true)
  else (bif decide (d0.fault < 0) then (some true)
  else (some (decide (d0.fault > 3)))))) fun y35 =>
  bif y35 then (some 1)
  else (bif (d0.states.length : Int) == 0 then (some 1)
  else (Option.bind (bif decide ((d0.states.length : Int) > 6) then (some true)
  else (bif decide ((d0.messages.length : Int) > 3) then (some true)
  else (bif decide ((d0.values.length : Int) > 3) then (some true)
  else (bif decide ((d0.resilience.length : Int) > 4) then (some true)
  else (some (decide ((d0.rules.length : Int) > 8))))))) fun y65 =>
  bif y65 then (some 4)
  else (Option.bind (p_names d0) fun r89 =>
  bif r89 != 0 then (some r89)
  else (Option.bind (bif !(d0.topology == 1) then (bif decide ((d0.messages.length : Int) > 0) then (some true)
  else (bif decide ((d0.values.length : Int) > 0) then (some true)
  else (bif decide ((d0.resilience.length : Int) > 0) then (some true)
  else (bif d0.fault != 0 then (some true)
  else (bif d0.topology == 1 then (some (decide ((d0.leader.length : Int) > 0)))
  else (some false))))))
  else (bif d0.topology == 1 then (some (decide ((d0.leader.length : Int) > 0)))
  else (some false))) fun y126 =>
  bif y126 then (some 1)
  else (Option.bind (loopP (p_Validate_l1 d0) 0) fun t207 =>
  (match t207 with
  | .inl y213 =>
  Option.bind (p_set d0.initial (d0.states.length : Int)) fun r299 =>
  Option.bind (p_when ((d0.initial.length : Int) == 0) 1) fun r307 =>
  Option.bind (p_set d0.leader (d0.states.length : Int)) fun r315 =>
  Option.bind (p_first [r299, r307, r315]) fun r334 =>
  bif r334 != 0 then (some r334)
  else (Option.bind (loopP (p_Validate_l2 d0) 0) fun t367 =>
  (match t367 with
  | .inl y373 =>
  Option.bind (p_thresholds d0) fun r393 =>
  Option.bind (p_when (decide ((r393.length : Int) > 3)) 4) fun r403 =>
  some r403
  | .inr r =>
  some r))
  | .inr r =>
  some r)))))))
end Go.Lg
set_option autoImplicit true
set_option linter.unusedVariables false
set_option maxRecDepth 100000
namespace Go.Lg
open Go
noncomputable def p_Classify_l1 (d0 : Protocol) (x178 : Bool × Bool × Int) : Option ((Bool × Bool × Int) ⊕ (Bool × Bool)) :=
  bif decide (x178.2.2 < (d0.rules.length : Int)) then (Option.bind (idx d0.rules x178.2.2) fun e185 =>
  Option.bind (bif x178.1 then (bif e185.kind == 1 then (bif decide (e185.frm < e185.to) then (bif (e185.exists_.length : Int) == 0 then (some ((e185.forall_.length : Int) == 0))
  else (some false))
  else (some false))
  else (some false))
  else (some false)) fun y228 =>
  Option.bind (bif x178.2.1 then (some true)
  else (some (decide ((e185.forall_.length : Int) > 0)))) fun y253 =>
  some (.inl (y228, y253, IntKind.i64.wrap (x178.2.2 + 1))))
  else (some (.inr (x178.1, x178.2.1)))
noncomputable def p_Classify (d0 : Protocol) : Option (Classes × Int) :=
  Option.bind (p_Validate d0) fun r22 =>
  bif r22 != 0 then (some ((⟨false, false, false, false, false⟩ : Classes), r22))
  else (Option.bind (loopP (p_Classify_l1 d0) (true, false, 0)) fun t176 =>
  Option.bind (bif d0.topology == 1 then (bif d0.fault == 0 then (bif (d0.messages.length : Int) == 0 then (some ((d0.resilience.length : Int) == 0))
  else (some false))
  else (some false))
  else (some false)) fun y277 =>
  Option.bind (bif d0.topology == 1 then (bif (d0.values.length : Int) == 0 then (bif y277 then (bif d0.topology == 2 then (bif y277 then (some (0, t176.1, !t176.2, true, d0.topology == 4, decide ((d0.states.length : Int) ≤ 4)))
  else (some (0, t176.1, !t176.2, true, d0.topology == 4, false)))
  else (bif y277 then (some (0, t176.1, !t176.2, d0.topology == 3, d0.topology == 4, decide ((d0.states.length : Int) ≤ 4)))
  else (some (0, t176.1, !t176.2, d0.topology == 3, d0.topology == 4, false))))
  else (bif d0.topology == 2 then (bif y277 then (some (0, t176.1, false, true, d0.topology == 4, decide ((d0.states.length : Int) ≤ 4)))
  else (some (0, t176.1, false, true, d0.topology == 4, false)))
  else (bif y277 then (some (0, t176.1, false, d0.topology == 3, d0.topology == 4, decide ((d0.states.length : Int) ≤ 4)))
  else (some (0, t176.1, false, d0.topology == 3, d0.topology == 4, false)))))
  else (bif y277 then (bif d0.topology == 2 then (bif y277 then (some (0, false, !t176.2, true, d0.topology == 4, decide ((d0.states.length : Int) ≤ 4)))
  else (some (0, false, !t176.2, true, d0.topology == 4, false)))
  else (bif y277 then (some (0, false, !t176.2, d0.topology == 3, d0.topology == 4, decide ((d0.states.length : Int) ≤ 4)))
  else (some (0, false, !t176.2, d0.topology == 3, d0.topology == 4, false))))
  else (bif d0.topology == 2 then (bif y277 then (some (0, false, false, true, d0.topology == 4, decide ((d0.states.length : Int) ≤ 4)))
  else (some (0, false, false, true, d0.topology == 4, false)))
  else (bif y277 then (some (0, false, false, d0.topology == 3, d0.topology == 4, decide ((d0.states.length : Int) ≤ 4)))
  else (some (0, false, false, d0.topology == 3, d0.topology == 4, false))))))
  else (bif y277 then (bif d0.topology == 2 then (bif y277 then (some (0, false, !t176.2, true, d0.topology == 4, decide ((d0.states.length : Int) ≤ 4)))
  else (some (0, false, !t176.2, true, d0.topology == 4, false)))
  else (bif y277 then (some (0, false, !t176.2, d0.topology == 3, d0.topology == 4, decide ((d0.states.length : Int) ≤ 4)))
  else (some (0, false, !t176.2, d0.topology == 3, d0.topology == 4, false))))
  else (bif d0.topology == 2 then (bif y277 then (some (0, false, false, true, d0.topology == 4, decide ((d0.states.length : Int) ≤ 4)))
  else (some (0, false, false, true, d0.topology == 4, false)))
  else (bif y277 then (some (0, false, false, d0.topology == 3, d0.topology == 4, decide ((d0.states.length : Int) ≤ 4)))
  else (some (0, false, false, d0.topology == 3, d0.topology == 4, false)))))) fun y411 =>
  some ((⟨y411.2.1, y411.2.2.1, y411.2.2.2.1, y411.2.2.2.2.1, y411.2.2.2.2.2⟩ : Classes), y411.1))
end Go.Lg
set_option autoImplicit true
set_option linter.unusedVariables false
set_option maxRecDepth 100000
namespace Go.Lg
open Go
noncomputable def p_ValidateProperty_l1 (d1 : Property) (d0 : Protocol) (x159 : Int) : Option ((Int) ⊕ (((Unit) ⊕ (Int)))) :=
  bif decide (x159 < (d1.start.length : Int)) then (Option.bind (idx d1.start x159) fun e171 =>
  Option.bind (sl_Containsint_int_ d0.initial e171) fun r177 =>
  bif !r177 then (some (.inr (.inr 5)))
  else (some (.inl (IntKind.i64.wrap (x159 + 1)))))
  else (some (.inr (.inl ())))
noncomputable def p_ValidateProperty (d0 : Protocol) (d1 : Property) : Option (Int) :=
  Option.bind (p_Validate d0) fun r31 =>
  bif r31 != 0 then (some r31)
  else (Option.bind (p_ValidName d1.name) fun r41 =>
  bif !r41 then (some 2)
  else (Option.bind (bif !(d1.kind == 1) then (some (d1.kind != 2))
  else (some false)) fun y51 =>
  bif y51 then (some 1)
  else (Option.bind (bif d1.kind == 1 then (some (decide ((d1.goal.length : Int) > 0)))
  else (some false)) fun y63 =>
  Option.bind (bif y63 then (some y63)
  else (Option.bind (bif !(d1.kind == 1) then (bif decide ((d1.bad.length : Int) > 0) then (some true)
  else (some (decide ((d1.adjacent.length : Int) > 0))))
  else (some false)) fun y99 =>
  some y99)) fun y91 =>
  bif y91 then (some 1)
  else (Option.bind (p_set d1.start (d0.states.length : Int)) fun r115 =>
  bif r115 != 0 then (some r115)
  else (Option.bind (loopP (p_ValidateProperty_l1 d1 d0) 0) fun t157 =>
  (match t157 with
  | .inl y163 =>
  bif !(d1.kind == 1) then (Option.bind (p_set d1.goal (d0.states.length : Int)) fun r234 =>
  Option.bind (p_when ((d1.goal.length : Int) == 0) 1) fun r243 =>
  Option.bind (p_first [r234, r243]) fun r262 =>
  some r262)
  else (Option.bind (bif (d1.bad.length : Int) == 0 then (Option.bind (p_when ((d1.adjacent.length : Int) == 0) 1) fun r643 =>
  Option.bind (p_when (decide ((d1.bad.length : Int) > 3)) 4) fun r651 =>
  Option.bind (p_counts d1.bad (d0.states.length : Int)) fun r659 =>
  Option.bind (p_adjacent d0 d1.adjacent) fun r667 =>
  Option.bind (p_first [r643, r651, r659, r667]) fun r687 =>
  some r687)
  else (Option.bind (p_when false 1) fun r700 =>
  Option.bind (p_when (decide ((d1.bad.length : Int) > 3)) 4) fun r708 =>
  Option.bind (p_counts d1.bad (d0.states.length : Int)) fun r716 =>
  Option.bind (p_adjacent d0 d1.adjacent) fun r724 =>
  Option.bind (p_first [r700, r708, r716, r724]) fun r744 =>
  some r744)) fun y635 =>
  some y635)
  | .inr r =>
  some r))))))
noncomputable def p_Starts (d0 : Protocol) (d1 : Property) : Option (List Int × Int) :=
  Option.bind (p_ValidateProperty d0 d1) fun r31 =>
  bif r31 != 0 then (some (([] : List Int), r31))
  else (bif decide ((d1.start.length : Int) > 0) then (Option.bind (sl_Cloneint_int_ d1.start) fun r41 =>
  some (r41, 0))
  else (Option.bind (sl_Cloneint_int_ d0.initial) fun r49 =>
  some (r49, 0)))
noncomputable def t_Check (d0 : Protocol) (d1 : Property) : Option (Int) :=
  Option.bind (p_ValidateProperty d0 d1) fun r31 =>
  bif r31 != 0 then (some r31)
  else (Option.bind (p_Classify d0) fun r39 =>
  Option.bind (bif !r39.1.tree then (some true)
  else (some (d1.kind != 1))) fun y57 =>
  bif y57 then (some 7)
  else (some 0))
noncomputable def t_machine_minimal_l1 (r6 : List Int) (x80 : Int × List Int) : Option ((Int × List Int) ⊕ (List Int)) :=
  bif decide (x80.1 ≥ 0) then (Option.bind (idx r6 x80.1) fun e95 =>
  Option.bind (idx x80.2 e95) fun e101 =>
  some (.inl (IntKind.i64.wrap (x80.1 - 1), x80.2.set (e95 : Int).toNat x80.1)))
  else (some (.inr x80.2))
noncomputable def t_machine_minimal (d0 : machine) : Option (Option machine) :=
  Option.bind (t_machine_classes d0 (-1)) fun r6 =>
  Option.bind (t_machine_states d0) fun r19 =>
  Option.bind (mkN 8 r19) fun m27 =>
  Option.bind (loopP (t_machine_minimal_l1 r6) (IntKind.i64.wrap ((r6.length : Int) - 1), List.replicate m27 (0 : Int))) fun t78 =>
  Option.bind (t_builder_ordered d0.letters (t_machine_minimal_1 r6 (some d0)) (t_machine_minimal_3 r6 (some d0) t78) (t_machine_minimal_2 (some d0) t78)) fun r139 =>
  some r139
noncomputable def t_minimal (d0 : TreeAutomaton) : Option (Option machine × Int) :=
  Option.bind (t_determine d0 64) fun r11 =>
  bif r11.isNone then (some ((none : Option machine), 4))
  else (Option.bind (r11) fun e21 =>
  Option.bind (t_machine_minimal e21) fun r25 =>
  some (r25, 0))
noncomputable def t_Minimal (d0 : TreeAutomaton) : Option (TreeAutomaton × Int) :=
  Option.bind (t_Validate d0) fun r14 =>
  bif r14 != 0 then (some ((⟨0, 0, ([] : List Int), ([] : List Leaf), ([] : List Branch)⟩ : TreeAutomaton), r14))
  else (Option.bind (t_minimal d0) fun r24 =>
  bif r24.2 != 0 then (some ((⟨0, 0, ([] : List Int), ([] : List Leaf), ([] : List Branch)⟩ : TreeAutomaton), r24.2))
  else (Option.bind (r24.1) fun e38 =>
  Option.bind (t_machine_plain e38) fun r42 =>
  some (r42, 0)))
noncomputable def l7_known  : Option (Bool) :=
  Option.bind (t_Minimal (⟨1, 0, ([] : List Int), ([] : List Leaf), ([] : List Branch)⟩ : TreeAutomaton)) fun r1 =>
  Option.bind (bif r1.2 == 0 then (bif r1.1.states == 1 then (bif (r1.1.leaves.length : Int) == 1 then (bif (r1.1.branches.length : Int) == 1 then (bif (r1.1.accept.length : Int) == 0 then (Option.bind (t_ValidTree 1 [2, 0, 0] [0, 0, 0]) fun r113 =>
  some r113)
  else (some false))
  else (some false))
  else (some false))
  else (some false))
  else (some false)) fun y78 =>
  some y78
noncomputable def t_initialTrees (d0 : Protocol) (d1 : Property) : Option (Option machine) :=
  Option.bind (p_Starts d0 d1) fun r31 =>
  Option.bind (bif decide ((d0.leader.length : Int) > 0) then (some d0.leader)
  else (some r31.1)) fun y56 =>
  Option.bind (t_builder_build (d0.states.length : Int) 0 (t_initialTrees_1 r31.1 y56) (t_initialTrees_2 r31.1 y56) t_initialTrees_3) fun r81 =>
  Option.bind (r81) fun e91 =>
  Option.bind (t_machine_minimal e91) fun r95 =>
  some r95
noncomputable def t_InitialTrees (d0 : Protocol) (d1 : Property) : Option (TreeAutomaton × Int) :=
  Option.bind (t_Check d0 d1) fun r34 =>
  bif r34 != 0 then (some ((⟨0, 0, ([] : List Int), ([] : List Leaf), ([] : List Branch)⟩ : TreeAutomaton), r34))
  else (Option.bind (t_initialTrees d0 d1) fun r44 =>
  Option.bind (r44) fun e54 =>
  Option.bind (t_machine_plain e54) fun r58 =>
  some (r58, 0))
noncomputable def l7_TreeInitials (d0 : Protocol) (d1 : Property) : Option (Bool) :=
  Option.bind (l7_big d0 d1) fun r31 =>
  bif r31 then (Option.bind (l7_known) fun r39 =>
  some r39)
  else (Option.bind (t_InitialTrees d0 d1) fun r47 =>
  Option.bind (r7_InitialTrees d0 d1) fun r70 =>
  Option.bind (bif r47.2 == r70.2 then (Option.bind (r7_SameAutomaton r47.1 r70.1) fun r115 =>
  bif r115 then (Option.bind (l7_known) fun r124 =>
  some r124)
  else (some false))
  else (some false)) fun y111 =>
  some y111)
end Go.Lg
