/- The walk over the law itself: it returns true. -/
import Derived.Test.YtcocemppeccldaaGreatDoorLwP
set_option linter.unusedVariables false
set_option linter.unusedSimpArgs false
set_option maxRecDepth 100000
namespace Go.S32
open Go Go.Ai
abbrev e0 := @List.getD_eq_getElem?_getD
abbrev e1 := @List.getElem?_cons_zero
abbrev e2 := @List.getElem?_cons_succ
abbrev e3 := @Option.getD_some
abbrev e4 := @List.append_nil
abbrev e5 := @List.length_nil
abbrev e6 := @List.length_cons
abbrev e7 := @List.nil_append
abbrev e8 := @List.cons_append
abbrev e9 := @List.set_cons_zero
abbrev e10 := @List.set_cons_succ
abbrev e11 := @Nat.zero_add
abbrev e12 := @Nat.add_zero
abbrev e13 := @List.take_zero
abbrev e14 := @List.take_succ_cons
abbrev e15 := @List.drop_succ_cons
abbrev e16 := @List.drop_zero
set_option maxHeartbeats 8000000
theorem law_walk (wh k w a b d1 f1 t1 d2 f2 t2 k' w' a' b' d1' f1' t1' d2' f2' t2' : Int) (hwh : 0 ≤ wh ∧ wh ≤ 255) (hw : inR w = true) (ha : inR a = true) (hb : inR b = true) (hd1 : inR d1 = true) (hd2 : inR d2 = true)
    (hw' : inR w' = true) (ha' : inR a' = true) (hb' : inR b' = true) (hd1' : inR d1' = true) (hd2' : inR d2' = true) :
    W Et (.ev rf3.body { t := [agg k w a b d1 f1 t1 d2 f2 t2, agg k' w' a' b' d1' f1' t1' d2' f2' t2', .int .u8 wh], h := [] }) (runQ rf3 fun o => ∃ h, o = .vh (.bool true) h) := by
  show W Et (.ev (.seq _ _) _) _
  refine W.seq' ?_
  refine W.ops1 ?_
  refine W.o1 rfl rfl rfl ?_
  refine W.o1 rfl rfl rfl ?_
  refine W.o1 rfl rfl rfl ?_
  try simp only [putDst,T.set,T.get,evA,tagS,e0,e1,e2,e3,e4,List.replicate,e5,e6,e7,e8,e9,e10,e11,e12,Nat.reduceAdd,agg,V.cells,splice,e13,e14,e15,e16]
  refine W.oNil ?_
  show W _ (.ev _ _) _
  try simp only [putDst,T.set,T.get,evA,tagS,e0,e1,e2,e3,e4,List.replicate,e5,e6,e7,e8,e9,e10,e11,e12,Nat.reduceAdd,agg,V.cells,splice,e13,e14,e15,e16]
  refine W.seq' ?_
  refine W.ops1 ?_
  refine W.oInv (n := 9) (v := .bool true) (h := _) rfl rfl rfl (san _) ?_
  refine W.o1 rfl rfl rfl ?_
  refine W.oNil ?_
  show W _ (.ev _ _) _
  try simp only [putDst,T.set,T.get,evA,tagS,e0,e1,e2,e3,e4,List.replicate,e5,e6,e7,e8,e9,e10,e11,e12,Nat.reduceAdd,agg,V.cells,splice,e13,e14,e15,e16]
  refine W.seq' ?_
  refine W.ops1 ?_
  refine W.o1 rfl rfl rfl ?_
  refine W.o1 rfl rfl rfl ?_
  try simp only [putDst,T.set,T.get,evA,tagS,e0,e1,e2,e3,e4,List.replicate,e5,e6,e7,e8,e9,e10,e11,e12,Nat.reduceAdd,agg,V.cells,splice,e13,e14,e15,e16]
  refine W.o1 rfl rfl rfl ?_
  refine W.o1 rfl rfl rfl ?_
  refine W.o1 rfl rfl rfl ?_
  try simp only [putDst,T.set,T.get,evA,tagS,e0,e1,e2,e3,e4,List.replicate,e5,e6,e7,e8,e9,e10,e11,e12,Nat.reduceAdd,agg,V.cells,splice,e13,e14,e15,e16]
  refine W.o1 rfl rfl rfl ?_
  refine W.oNil ?_
  show W _ (.ev _ _) _
  try simp only [putDst,T.set,T.get,evA,tagS,e0,e1,e2,e3,e4,List.replicate,e5,e6,e7,e8,e9,e10,e11,e12,Nat.reduceAdd,agg,V.cells,splice,e13,e14,e15,e16]
  refine W.seq' ?_
  refine W.ops1 ?_
  refine W.o1 rfl rfl rfl ?_
  refine W.o1 rfl rfl rfl ?_
  try simp only [putDst,T.set,T.get,evA,tagS,e0,e1,e2,e3,e4,List.replicate,e5,e6,e7,e8,e9,e10,e11,e12,Nat.reduceAdd,agg,V.cells,splice,e13,e14,e15,e16]
  refine W.o1 rfl rfl rfl ?_
  refine W.o1 rfl rfl rfl ?_
  refine W.o1 rfl rfl rfl ?_
  try simp only [putDst,T.set,T.get,evA,tagS,e0,e1,e2,e3,e4,List.replicate,e5,e6,e7,e8,e9,e10,e11,e12,Nat.reduceAdd,agg,V.cells,splice,e13,e14,e15,e16]
  refine W.o1 rfl rfl rfl ?_
  refine W.o1 rfl rfl rfl ?_
  refine W.oNil ?_
  show W _ (.ev _ _) _
  try simp only [putDst,T.set,T.get,evA,tagS,e0,e1,e2,e3,e4,List.replicate,e5,e6,e7,e8,e9,e10,e11,e12,Nat.reduceAdd,agg,V.cells,splice,e13,e14,e15,e16]
  refine W.seq' ?_
  refine W.seq' ?_
  refine W.ops1 ?_
  refine W.o1 rfl rfl rfl ?_
  try simp only [putDst,T.set,T.get,evA,tagS,e0,e1,e2,e3,e4,List.replicate,e5,e6,e7,e8,e9,e10,e11,e12,Nat.reduceAdd,agg,V.cells,splice,e13,e14,e15,e16]
  refine W.o1 rfl rfl rfl ?_
  cases hp : (wh.tmod 2 == 1)
  case false =>
    refine W.oEq rfl rfl rfl hp ?_
    refine W.oNil ?_
    show W _ (.ev _ _) _
    try simp only [putDst,T.set,T.get,evA,tagS,e0,e1,e2,e3,e4,List.replicate,e5,e6,e7,e8,e9,e10,e11,e12,Nat.reduceAdd,agg,V.cells,splice,e13,e14,e15,e16]
    refine W.condF rfl ?_
    refine W.skip ?_
    show W _ (.ev _ _) _
    refine W.seq' ?_
    refine W.ops1 ?_
    refine W.o1 rfl rfl rfl ?_
    refine W.o1 rfl rfl rfl ?_
    try simp only [putDst,T.set,T.get,evA,tagS,e0,e1,e2,e3,e4,List.replicate,e5,e6,e7,e8,e9,e10,e11,e12,Nat.reduceAdd,agg,V.cells,splice,e13,e14,e15,e16]
    refine W.o1 rfl rfl rfl ?_
    refine W.o1 rfl rfl rfl ?_
    cases h0 : (K1 wh == K2 wh)
    case false =>
      refine W.oEq rfl rfl rfl h0 ?_
      refine W.o1 rfl rfl rfl ?_
      try simp only [putDst,T.set,T.get,evA,tagS,e0,e1,e2,e3,e4,List.replicate,e5,e6,e7,e8,e9,e10,e11,e12,Nat.reduceAdd,agg,V.cells,splice,e13,e14,e15,e16]
      refine W.osSkip rfl ?_
      refine W.osSkip rfl ?_
      refine W.osSkip rfl ?_
      try simp only [putDst,T.set,T.get,evA,tagS,e0,e1,e2,e3,e4,List.replicate,e5,e6,e7,e8,e9,e10,e11,e12,Nat.reduceAdd,agg,V.cells,splice,e13,e14,e15,e16]
      refine W.osSkip rfl ?_
      refine W.osSkip rfl ?_
      refine W.o1 rfl rfl rfl ?_
      try simp only [putDst,T.set,T.get,evA,tagS,e0,e1,e2,e3,e4,List.replicate,e5,e6,e7,e8,e9,e10,e11,e12,Nat.reduceAdd,agg,V.cells,splice,e13,e14,e15,e16]
      refine W.o1 rfl rfl rfl ?_
      refine W.osSkip rfl ?_
      refine W.osSkip rfl ?_
      try simp only [putDst,T.set,T.get,evA,tagS,e0,e1,e2,e3,e4,List.replicate,e5,e6,e7,e8,e9,e10,e11,e12,Nat.reduceAdd,agg,V.cells,splice,e13,e14,e15,e16]
      refine W.osSkip rfl ?_
      refine W.osSkip rfl ?_
      refine W.osSkip rfl ?_
      try simp only [putDst,T.set,T.get,evA,tagS,e0,e1,e2,e3,e4,List.replicate,e5,e6,e7,e8,e9,e10,e11,e12,Nat.reduceAdd,agg,V.cells,splice,e13,e14,e15,e16]
      refine W.o1 rfl rfl rfl ?_
      refine W.o1 rfl rfl rfl ?_
      refine W.osSkip rfl ?_
      try simp only [putDst,T.set,T.get,evA,tagS,e0,e1,e2,e3,e4,List.replicate,e5,e6,e7,e8,e9,e10,e11,e12,Nat.reduceAdd,agg,V.cells,splice,e13,e14,e15,e16]
      refine W.osSkip rfl ?_
      refine W.osSkip rfl ?_
      refine W.osSkip rfl ?_
      try simp only [putDst,T.set,T.get,evA,tagS,e0,e1,e2,e3,e4,List.replicate,e5,e6,e7,e8,e9,e10,e11,e12,Nat.reduceAdd,agg,V.cells,splice,e13,e14,e15,e16]
      refine W.osSkip rfl ?_
      refine W.osSkip rfl ?_
      refine W.osSkip rfl ?_
      try simp only [putDst,T.set,T.get,evA,tagS,e0,e1,e2,e3,e4,List.replicate,e5,e6,e7,e8,e9,e10,e11,e12,Nat.reduceAdd,agg,V.cells,splice,e13,e14,e15,e16]
      refine W.o1 rfl rfl rfl ?_
      refine W.o1 rfl rfl rfl ?_
      refine W.oNil ?_
      show W _ (.ev _ _) _
      try simp only [putDst,T.set,T.get,evA,tagS,e0,e1,e2,e3,e4,List.replicate,e5,e6,e7,e8,e9,e10,e11,e12,Nat.reduceAdd,agg,V.cells,splice,e13,e14,e15,e16]
      refine W.seq' ?_
      refine W.seq' ?_
      refine W.ops1 ?_
      refine W.o1 rfl rfl rfl ?_
      try simp only [putDst,T.set,T.get,evA,tagS,e0,e1,e2,e3,e4,List.replicate,e5,e6,e7,e8,e9,e10,e11,e12,Nat.reduceAdd,agg,V.cells,splice,e13,e14,e15,e16]
      refine W.o1 rfl rfl rfl ?_
      cases h4 : (K1 wh == 1)
      case false =>
        refine W.oEq rfl rfl rfl h4 ?_
        refine W.o1 rfl rfl rfl ?_
        refine W.o1 rfl rfl rfl ?_
        try simp only [putDst,T.set,T.get,evA,tagS,e0,e1,e2,e3,e4,List.replicate,e5,e6,e7,e8,e9,e10,e11,e12,Nat.reduceAdd,agg,V.cells,splice,e13,e14,e15,e16]
        refine W.o1 rfl rfl rfl ?_
        cases h5 : (K1 wh == 2)
        case false =>
          refine W.oEq rfl rfl rfl h5 ?_
          refine W.o1 rfl rfl rfl ?_
          refine W.oNil ?_
          show W _ (.ev _ _) _
          try simp only [putDst,T.set,T.get,evA,tagS,e0,e1,e2,e3,e4,List.replicate,e5,e6,e7,e8,e9,e10,e11,e12,Nat.reduceAdd,agg,V.cells,splice,e13,e14,e15,e16]
          refine W.condF rfl ?_
          refine W.skip ?_
          show W _ (.ev _ _) _
          exact fin _ _ _ _ _ _ _ _ _ _ _ _ _ _ _ _ _ _ _ _ _ false rfl rfl rfl rfl rfl rfl (K1_ok hwh) (K2_ok hwh) hw ha hb hd1 hd2 hw' ha' hb' hd1' hd2' (txt_pos _ _ _ _ _ _) (txt_pos _ _ _ _ _ _) ((txt_law (K1_ok hwh) (K2_ok hwh)).trans (by simp [lawS, hp, h0, h4, h5]))
        case true =>
          refine W.oEq rfl rfl rfl h5 ?_
          refine W.o1 rfl rfl rfl ?_
          try simp only [putDst,T.set,T.get,evA,tagS,e0,e1,e2,e3,e4,List.replicate,e5,e6,e7,e8,e9,e10,e11,e12,Nat.reduceAdd,agg,V.cells,splice,e13,e14,e15,e16]
          refine W.oNil ?_
          show W _ (.ev _ _) _
          try simp only [putDst,T.set,T.get,evA,tagS,e0,e1,e2,e3,e4,List.replicate,e5,e6,e7,e8,e9,e10,e11,e12,Nat.reduceAdd,agg,V.cells,splice,e13,e14,e15,e16]
          refine W.condT rfl ?_
          refine W.ops1 ?_
          refine W.o1 rfl rfl rfl ?_
          refine W.o1 rfl rfl rfl ?_
          refine W.osSkip rfl ?_
          try simp only [putDst,T.set,T.get,evA,tagS,e0,e1,e2,e3,e4,List.replicate,e5,e6,e7,e8,e9,e10,e11,e12,Nat.reduceAdd,agg,V.cells,splice,e13,e14,e15,e16]
          refine W.osSkip rfl ?_
          refine W.osSkip rfl ?_
          refine W.osSkip rfl ?_
          try simp only [putDst,T.set,T.get,evA,tagS,e0,e1,e2,e3,e4,List.replicate,e5,e6,e7,e8,e9,e10,e11,e12,Nat.reduceAdd,agg,V.cells,splice,e13,e14,e15,e16]
          refine W.osSkip rfl ?_
          refine W.o1 rfl rfl rfl ?_
          refine W.o1 rfl rfl rfl ?_
          try simp only [putDst,T.set,T.get,evA,tagS,e0,e1,e2,e3,e4,List.replicate,e5,e6,e7,e8,e9,e10,e11,e12,Nat.reduceAdd,agg,V.cells,splice,e13,e14,e15,e16]
          refine W.osSkip rfl ?_
          refine W.osSkip rfl ?_
          refine W.osSkip rfl ?_
          try simp only [putDst,T.set,T.get,evA,tagS,e0,e1,e2,e3,e4,List.replicate,e5,e6,e7,e8,e9,e10,e11,e12,Nat.reduceAdd,agg,V.cells,splice,e13,e14,e15,e16]
          refine W.osSkip rfl ?_
          refine W.osSkip rfl ?_
          refine W.osSkip rfl ?_
          try simp only [putDst,T.set,T.get,evA,tagS,e0,e1,e2,e3,e4,List.replicate,e5,e6,e7,e8,e9,e10,e11,e12,Nat.reduceAdd,agg,V.cells,splice,e13,e14,e15,e16]
          refine W.osSkip rfl ?_
          refine W.o1 rfl rfl rfl ?_
          refine W.o1 rfl rfl rfl ?_
          try simp only [putDst,T.set,T.get,evA,tagS,e0,e1,e2,e3,e4,List.replicate,e5,e6,e7,e8,e9,e10,e11,e12,Nat.reduceAdd,agg,V.cells,splice,e13,e14,e15,e16]
          refine W.oNil ?_
          show W _ (.ev _ _) _
          try simp only [putDst,T.set,T.get,evA,tagS,e0,e1,e2,e3,e4,List.replicate,e5,e6,e7,e8,e9,e10,e11,e12,Nat.reduceAdd,agg,V.cells,splice,e13,e14,e15,e16]
          exact fin _ _ _ _ _ _ _ _ _ _ _ _ _ _ _ _ _ _ _ _ _ false rfl rfl rfl rfl rfl rfl (K1_ok hwh) (K2_ok hwh) hw ha hb hd1 hd2 hw' ha' hb' hd1' hd2' (txt_pos _ _ _ _ _ _) (txt_pos _ _ _ _ _ _) ((txt_law (K1_ok hwh) (K2_ok hwh)).trans (by simp [lawS, hp, h0, h4, h5]))
      case true =>
        refine W.oEq rfl rfl rfl h4 ?_
        refine W.o1 rfl rfl rfl ?_
        refine W.osSkip rfl ?_
        refine W.osSkip rfl ?_
        try simp only [putDst,T.set,T.get,evA,tagS,e0,e1,e2,e3,e4,List.replicate,e5,e6,e7,e8,e9,e10,e11,e12,Nat.reduceAdd,agg,V.cells,splice,e13,e14,e15,e16]
        refine W.osSkip rfl ?_
        refine W.o1 rfl rfl rfl ?_
        refine W.oNil ?_
        show W _ (.ev _ _) _
        try simp only [putDst,T.set,T.get,evA,tagS,e0,e1,e2,e3,e4,List.replicate,e5,e6,e7,e8,e9,e10,e11,e12,Nat.reduceAdd,agg,V.cells,splice,e13,e14,e15,e16]
        refine W.condT rfl ?_
        refine W.ops1 ?_
        refine W.o1 rfl rfl rfl ?_
        try simp only [putDst,T.set,T.get,evA,tagS,e0,e1,e2,e3,e4,List.replicate,e5,e6,e7,e8,e9,e10,e11,e12,Nat.reduceAdd,agg,V.cells,splice,e13,e14,e15,e16]
        refine W.o1 rfl rfl rfl ?_
        refine W.osSkip rfl ?_
        refine W.osSkip rfl ?_
        try simp only [putDst,T.set,T.get,evA,tagS,e0,e1,e2,e3,e4,List.replicate,e5,e6,e7,e8,e9,e10,e11,e12,Nat.reduceAdd,agg,V.cells,splice,e13,e14,e15,e16]
        refine W.osSkip rfl ?_
        refine W.osSkip rfl ?_
        refine W.osSkip rfl ?_
        try simp only [putDst,T.set,T.get,evA,tagS,e0,e1,e2,e3,e4,List.replicate,e5,e6,e7,e8,e9,e10,e11,e12,Nat.reduceAdd,agg,V.cells,splice,e13,e14,e15,e16]
        refine W.o1 rfl rfl rfl ?_
        refine W.o1 rfl rfl rfl ?_
        refine W.osSkip rfl ?_
        try simp only [putDst,T.set,T.get,evA,tagS,e0,e1,e2,e3,e4,List.replicate,e5,e6,e7,e8,e9,e10,e11,e12,Nat.reduceAdd,agg,V.cells,splice,e13,e14,e15,e16]
        refine W.osSkip rfl ?_
        refine W.osSkip rfl ?_
        refine W.osSkip rfl ?_
        try simp only [putDst,T.set,T.get,evA,tagS,e0,e1,e2,e3,e4,List.replicate,e5,e6,e7,e8,e9,e10,e11,e12,Nat.reduceAdd,agg,V.cells,splice,e13,e14,e15,e16]
        refine W.osSkip rfl ?_
        refine W.osSkip rfl ?_
        refine W.osSkip rfl ?_
        try simp only [putDst,T.set,T.get,evA,tagS,e0,e1,e2,e3,e4,List.replicate,e5,e6,e7,e8,e9,e10,e11,e12,Nat.reduceAdd,agg,V.cells,splice,e13,e14,e15,e16]
        refine W.o1 rfl rfl rfl ?_
        refine W.o1 rfl rfl rfl ?_
        refine W.oNil ?_
        show W _ (.ev _ _) _
        try simp only [putDst,T.set,T.get,evA,tagS,e0,e1,e2,e3,e4,List.replicate,e5,e6,e7,e8,e9,e10,e11,e12,Nat.reduceAdd,agg,V.cells,splice,e13,e14,e15,e16]
        exact fin _ _ _ _ _ _ _ _ _ _ _ _ _ _ _ _ _ _ _ _ _ false rfl rfl rfl rfl rfl rfl (K1_ok hwh) (K2_ok hwh) hw ha hb hd1 hd2 hw' ha' hb' hd1' hd2' (txt_pos _ _ _ _ _ _) (txt_pos _ _ _ _ _ _) ((txt_law (K1_ok hwh) (K2_ok hwh)).trans (by simp [lawS, hp, h0, h4]))
    case true =>
      refine W.oEq rfl rfl rfl h0 ?_
      refine W.o1 rfl rfl rfl ?_
      try simp only [putDst,T.set,T.get,evA,tagS,e0,e1,e2,e3,e4,List.replicate,e5,e6,e7,e8,e9,e10,e11,e12,Nat.reduceAdd,agg,V.cells,splice,e13,e14,e15,e16]
      refine W.o1 rfl rfl rfl ?_
      refine W.o1 rfl rfl rfl ?_
      refine W.o1 rfl rfl rfl ?_
      try simp only [putDst,T.set,T.get,evA,tagS,e0,e1,e2,e3,e4,List.replicate,e5,e6,e7,e8,e9,e10,e11,e12,Nat.reduceAdd,agg,V.cells,splice,e13,e14,e15,e16]
      refine W.o1 rfl rfl rfl ?_
      cases h1 : (w == w')
      case false =>
        refine W.oEq rfl rfl rfl h1 ?_
        refine W.o1 rfl rfl rfl ?_
        refine W.o1 rfl rfl rfl ?_
        try simp only [putDst,T.set,T.get,evA,tagS,e0,e1,e2,e3,e4,List.replicate,e5,e6,e7,e8,e9,e10,e11,e12,Nat.reduceAdd,agg,V.cells,splice,e13,e14,e15,e16]
        refine W.osSkip rfl ?_
        refine W.osSkip rfl ?_
        refine W.osSkip rfl ?_
        try simp only [putDst,T.set,T.get,evA,tagS,e0,e1,e2,e3,e4,List.replicate,e5,e6,e7,e8,e9,e10,e11,e12,Nat.reduceAdd,agg,V.cells,splice,e13,e14,e15,e16]
        refine W.osSkip rfl ?_
        refine W.osSkip rfl ?_
        refine W.o1 rfl rfl rfl ?_
        try simp only [putDst,T.set,T.get,evA,tagS,e0,e1,e2,e3,e4,List.replicate,e5,e6,e7,e8,e9,e10,e11,e12,Nat.reduceAdd,agg,V.cells,splice,e13,e14,e15,e16]
        refine W.o1 rfl rfl rfl ?_
        refine W.osSkip rfl ?_
        refine W.osSkip rfl ?_
        try simp only [putDst,T.set,T.get,evA,tagS,e0,e1,e2,e3,e4,List.replicate,e5,e6,e7,e8,e9,e10,e11,e12,Nat.reduceAdd,agg,V.cells,splice,e13,e14,e15,e16]
        refine W.osSkip rfl ?_
        refine W.osSkip rfl ?_
        refine W.osSkip rfl ?_
        try simp only [putDst,T.set,T.get,evA,tagS,e0,e1,e2,e3,e4,List.replicate,e5,e6,e7,e8,e9,e10,e11,e12,Nat.reduceAdd,agg,V.cells,splice,e13,e14,e15,e16]
        refine W.osSkip rfl ?_
        refine W.osSkip rfl ?_
        refine W.o1 rfl rfl rfl ?_
        try simp only [putDst,T.set,T.get,evA,tagS,e0,e1,e2,e3,e4,List.replicate,e5,e6,e7,e8,e9,e10,e11,e12,Nat.reduceAdd,agg,V.cells,splice,e13,e14,e15,e16]
        refine W.o1 rfl rfl rfl ?_
        refine W.oNil ?_
        show W _ (.ev _ _) _
        try simp only [putDst,T.set,T.get,evA,tagS,e0,e1,e2,e3,e4,List.replicate,e5,e6,e7,e8,e9,e10,e11,e12,Nat.reduceAdd,agg,V.cells,splice,e13,e14,e15,e16]
        refine W.seq' ?_
        refine W.seq' ?_
        refine W.ops1 ?_
        refine W.o1 rfl rfl rfl ?_
        refine W.o1 rfl rfl rfl ?_
        try simp only [putDst,T.set,T.get,evA,tagS,e0,e1,e2,e3,e4,List.replicate,e5,e6,e7,e8,e9,e10,e11,e12,Nat.reduceAdd,agg,V.cells,splice,e13,e14,e15,e16]
        cases h4 : (K1 wh == 1)
        case false =>
          refine W.oEq rfl rfl rfl h4 ?_
          refine W.o1 rfl rfl rfl ?_
          refine W.o1 rfl rfl rfl ?_
          refine W.o1 rfl rfl rfl ?_
          try simp only [putDst,T.set,T.get,evA,tagS,e0,e1,e2,e3,e4,List.replicate,e5,e6,e7,e8,e9,e10,e11,e12,Nat.reduceAdd,agg,V.cells,splice,e13,e14,e15,e16]
          cases h5 : (K1 wh == 2)
          case false =>
            refine W.oEq rfl rfl rfl h5 ?_
            refine W.o1 rfl rfl rfl ?_
            refine W.oNil ?_
            show W _ (.ev _ _) _
            try simp only [putDst,T.set,T.get,evA,tagS,e0,e1,e2,e3,e4,List.replicate,e5,e6,e7,e8,e9,e10,e11,e12,Nat.reduceAdd,agg,V.cells,splice,e13,e14,e15,e16]
            refine W.condF rfl ?_
            refine W.skip ?_
            show W _ (.ev _ _) _
            exact fin _ _ _ _ _ _ _ _ _ _ _ _ _ _ _ _ _ _ _ _ _ false rfl rfl rfl rfl rfl rfl (K1_ok hwh) (K2_ok hwh) hw ha hb hd1 hd2 hw' ha' hb' hd1' hd2' (txt_pos _ _ _ _ _ _) (txt_pos _ _ _ _ _ _) ((txt_law (K1_ok hwh) (K2_ok hwh)).trans (by simp [lawS, hp, h0, h1, h4, h5]))
          case true =>
            refine W.oEq rfl rfl rfl h5 ?_
            refine W.o1 rfl rfl rfl ?_
            refine W.oNil ?_
            show W _ (.ev _ _) _
            try simp only [putDst,T.set,T.get,evA,tagS,e0,e1,e2,e3,e4,List.replicate,e5,e6,e7,e8,e9,e10,e11,e12,Nat.reduceAdd,agg,V.cells,splice,e13,e14,e15,e16]
            refine W.condT rfl ?_
            refine W.ops1 ?_
            refine W.o1 rfl rfl rfl ?_
            try simp only [putDst,T.set,T.get,evA,tagS,e0,e1,e2,e3,e4,List.replicate,e5,e6,e7,e8,e9,e10,e11,e12,Nat.reduceAdd,agg,V.cells,splice,e13,e14,e15,e16]
            refine W.o1 rfl rfl rfl ?_
            refine W.osSkip rfl ?_
            refine W.osSkip rfl ?_
            try simp only [putDst,T.set,T.get,evA,tagS,e0,e1,e2,e3,e4,List.replicate,e5,e6,e7,e8,e9,e10,e11,e12,Nat.reduceAdd,agg,V.cells,splice,e13,e14,e15,e16]
            refine W.osSkip rfl ?_
            refine W.osSkip rfl ?_
            refine W.osSkip rfl ?_
            try simp only [putDst,T.set,T.get,evA,tagS,e0,e1,e2,e3,e4,List.replicate,e5,e6,e7,e8,e9,e10,e11,e12,Nat.reduceAdd,agg,V.cells,splice,e13,e14,e15,e16]
            refine W.o1 rfl rfl rfl ?_
            refine W.o1 rfl rfl rfl ?_
            refine W.osSkip rfl ?_
            try simp only [putDst,T.set,T.get,evA,tagS,e0,e1,e2,e3,e4,List.replicate,e5,e6,e7,e8,e9,e10,e11,e12,Nat.reduceAdd,agg,V.cells,splice,e13,e14,e15,e16]
            refine W.osSkip rfl ?_
            refine W.osSkip rfl ?_
            refine W.osSkip rfl ?_
            try simp only [putDst,T.set,T.get,evA,tagS,e0,e1,e2,e3,e4,List.replicate,e5,e6,e7,e8,e9,e10,e11,e12,Nat.reduceAdd,agg,V.cells,splice,e13,e14,e15,e16]
            refine W.osSkip rfl ?_
            refine W.osSkip rfl ?_
            refine W.osSkip rfl ?_
            try simp only [putDst,T.set,T.get,evA,tagS,e0,e1,e2,e3,e4,List.replicate,e5,e6,e7,e8,e9,e10,e11,e12,Nat.reduceAdd,agg,V.cells,splice,e13,e14,e15,e16]
            refine W.o1 rfl rfl rfl ?_
            refine W.o1 rfl rfl rfl ?_
            refine W.oNil ?_
            show W _ (.ev _ _) _
            try simp only [putDst,T.set,T.get,evA,tagS,e0,e1,e2,e3,e4,List.replicate,e5,e6,e7,e8,e9,e10,e11,e12,Nat.reduceAdd,agg,V.cells,splice,e13,e14,e15,e16]
            exact fin _ _ _ _ _ _ _ _ _ _ _ _ _ _ _ _ _ _ _ _ _ false rfl rfl rfl rfl rfl rfl (K1_ok hwh) (K2_ok hwh) hw ha hb hd1 hd2 hw' ha' hb' hd1' hd2' (txt_pos _ _ _ _ _ _) (txt_pos _ _ _ _ _ _) ((txt_law (K1_ok hwh) (K2_ok hwh)).trans (by simp [lawS, hp, h0, h1, h4, h5]))
        case true =>
          refine W.oEq rfl rfl rfl h4 ?_
          refine W.o1 rfl rfl rfl ?_
          try simp only [putDst,T.set,T.get,evA,tagS,e0,e1,e2,e3,e4,List.replicate,e5,e6,e7,e8,e9,e10,e11,e12,Nat.reduceAdd,agg,V.cells,splice,e13,e14,e15,e16]
          refine W.osSkip rfl ?_
          refine W.osSkip rfl ?_
          refine W.osSkip rfl ?_
          try simp only [putDst,T.set,T.get,evA,tagS,e0,e1,e2,e3,e4,List.replicate,e5,e6,e7,e8,e9,e10,e11,e12,Nat.reduceAdd,agg,V.cells,splice,e13,e14,e15,e16]
          refine W.o1 rfl rfl rfl ?_
          refine W.oNil ?_
          show W _ (.ev _ _) _
          try simp only [putDst,T.set,T.get,evA,tagS,e0,e1,e2,e3,e4,List.replicate,e5,e6,e7,e8,e9,e10,e11,e12,Nat.reduceAdd,agg,V.cells,splice,e13,e14,e15,e16]
          refine W.condT rfl ?_
          refine W.ops1 ?_
          refine W.o1 rfl rfl rfl ?_
          refine W.o1 rfl rfl rfl ?_
          try simp only [putDst,T.set,T.get,evA,tagS,e0,e1,e2,e3,e4,List.replicate,e5,e6,e7,e8,e9,e10,e11,e12,Nat.reduceAdd,agg,V.cells,splice,e13,e14,e15,e16]
          refine W.osSkip rfl ?_
          refine W.osSkip rfl ?_
          refine W.osSkip rfl ?_
          try simp only [putDst,T.set,T.get,evA,tagS,e0,e1,e2,e3,e4,List.replicate,e5,e6,e7,e8,e9,e10,e11,e12,Nat.reduceAdd,agg,V.cells,splice,e13,e14,e15,e16]
          refine W.osSkip rfl ?_
          refine W.osSkip rfl ?_
          refine W.o1 rfl rfl rfl ?_
          try simp only [putDst,T.set,T.get,evA,tagS,e0,e1,e2,e3,e4,List.replicate,e5,e6,e7,e8,e9,e10,e11,e12,Nat.reduceAdd,agg,V.cells,splice,e13,e14,e15,e16]
          refine W.o1 rfl rfl rfl ?_
          refine W.osSkip rfl ?_
          refine W.osSkip rfl ?_
          try simp only [putDst,T.set,T.get,evA,tagS,e0,e1,e2,e3,e4,List.replicate,e5,e6,e7,e8,e9,e10,e11,e12,Nat.reduceAdd,agg,V.cells,splice,e13,e14,e15,e16]
          refine W.osSkip rfl ?_
          refine W.osSkip rfl ?_
          refine W.osSkip rfl ?_
          try simp only [putDst,T.set,T.get,evA,tagS,e0,e1,e2,e3,e4,List.replicate,e5,e6,e7,e8,e9,e10,e11,e12,Nat.reduceAdd,agg,V.cells,splice,e13,e14,e15,e16]
          refine W.osSkip rfl ?_
          refine W.osSkip rfl ?_
          refine W.o1 rfl rfl rfl ?_
          try simp only [putDst,T.set,T.get,evA,tagS,e0,e1,e2,e3,e4,List.replicate,e5,e6,e7,e8,e9,e10,e11,e12,Nat.reduceAdd,agg,V.cells,splice,e13,e14,e15,e16]
          refine W.o1 rfl rfl rfl ?_
          refine W.oNil ?_
          show W _ (.ev _ _) _
          try simp only [putDst,T.set,T.get,evA,tagS,e0,e1,e2,e3,e4,List.replicate,e5,e6,e7,e8,e9,e10,e11,e12,Nat.reduceAdd,agg,V.cells,splice,e13,e14,e15,e16]
          exact fin _ _ _ _ _ _ _ _ _ _ _ _ _ _ _ _ _ _ _ _ _ false rfl rfl rfl rfl rfl rfl (K1_ok hwh) (K2_ok hwh) hw ha hb hd1 hd2 hw' ha' hb' hd1' hd2' (txt_pos _ _ _ _ _ _) (txt_pos _ _ _ _ _ _) ((txt_law (K1_ok hwh) (K2_ok hwh)).trans (by simp [lawS, hp, h0, h1, h4]))
      case true =>
        refine W.oEq rfl rfl rfl h1 ?_
        refine W.o1 rfl rfl rfl ?_
        refine W.o1 rfl rfl rfl ?_
        try simp only [putDst,T.set,T.get,evA,tagS,e0,e1,e2,e3,e4,List.replicate,e5,e6,e7,e8,e9,e10,e11,e12,Nat.reduceAdd,agg,V.cells,splice,e13,e14,e15,e16]
        refine W.o1 rfl rfl rfl ?_
        refine W.o1 rfl rfl rfl ?_
        refine W.o1 rfl rfl rfl ?_
        try simp only [putDst,T.set,T.get,evA,tagS,e0,e1,e2,e3,e4,List.replicate,e5,e6,e7,e8,e9,e10,e11,e12,Nat.reduceAdd,agg,V.cells,splice,e13,e14,e15,e16]
        refine W.o1 rfl rfl rfl ?_
        cases h2 : (a == a')
        case false =>
          refine W.oEq rfl rfl rfl h2 ?_
          refine W.o1 rfl rfl rfl ?_
          refine W.o1 rfl rfl rfl ?_
          try simp only [putDst,T.set,T.get,evA,tagS,e0,e1,e2,e3,e4,List.replicate,e5,e6,e7,e8,e9,e10,e11,e12,Nat.reduceAdd,agg,V.cells,splice,e13,e14,e15,e16]
          refine W.osSkip rfl ?_
          refine W.osSkip rfl ?_
          refine W.osSkip rfl ?_
          try simp only [putDst,T.set,T.get,evA,tagS,e0,e1,e2,e3,e4,List.replicate,e5,e6,e7,e8,e9,e10,e11,e12,Nat.reduceAdd,agg,V.cells,splice,e13,e14,e15,e16]
          refine W.osSkip rfl ?_
          refine W.osSkip rfl ?_
          refine W.osSkip rfl ?_
          try simp only [putDst,T.set,T.get,evA,tagS,e0,e1,e2,e3,e4,List.replicate,e5,e6,e7,e8,e9,e10,e11,e12,Nat.reduceAdd,agg,V.cells,splice,e13,e14,e15,e16]
          refine W.osSkip rfl ?_
          refine W.o1 rfl rfl rfl ?_
          refine W.o1 rfl rfl rfl ?_
          try simp only [putDst,T.set,T.get,evA,tagS,e0,e1,e2,e3,e4,List.replicate,e5,e6,e7,e8,e9,e10,e11,e12,Nat.reduceAdd,agg,V.cells,splice,e13,e14,e15,e16]
          refine W.oNil ?_
          show W _ (.ev _ _) _
          try simp only [putDst,T.set,T.get,evA,tagS,e0,e1,e2,e3,e4,List.replicate,e5,e6,e7,e8,e9,e10,e11,e12,Nat.reduceAdd,agg,V.cells,splice,e13,e14,e15,e16]
          refine W.seq' ?_
          refine W.seq' ?_
          refine W.ops1 ?_
          refine W.o1 rfl rfl rfl ?_
          refine W.o1 rfl rfl rfl ?_
          cases h4 : (K1 wh == 1)
          case false =>
            refine W.oEq rfl rfl rfl h4 ?_
            refine W.o1 rfl rfl rfl ?_
            try simp only [putDst,T.set,T.get,evA,tagS,e0,e1,e2,e3,e4,List.replicate,e5,e6,e7,e8,e9,e10,e11,e12,Nat.reduceAdd,agg,V.cells,splice,e13,e14,e15,e16]
            refine W.o1 rfl rfl rfl ?_
            refine W.o1 rfl rfl rfl ?_
            cases h5 : (K1 wh == 2)
            case false =>
              refine W.oEq rfl rfl rfl h5 ?_
              refine W.o1 rfl rfl rfl ?_
              try simp only [putDst,T.set,T.get,evA,tagS,e0,e1,e2,e3,e4,List.replicate,e5,e6,e7,e8,e9,e10,e11,e12,Nat.reduceAdd,agg,V.cells,splice,e13,e14,e15,e16]
              refine W.oNil ?_
              show W _ (.ev _ _) _
              try simp only [putDst,T.set,T.get,evA,tagS,e0,e1,e2,e3,e4,List.replicate,e5,e6,e7,e8,e9,e10,e11,e12,Nat.reduceAdd,agg,V.cells,splice,e13,e14,e15,e16]
              refine W.condF rfl ?_
              refine W.skip ?_
              show W _ (.ev _ _) _
              exact fin _ _ _ _ _ _ _ _ _ _ _ _ _ _ _ _ _ _ _ _ _ false rfl rfl rfl rfl rfl rfl (K1_ok hwh) (K2_ok hwh) hw ha hb hd1 hd2 hw' ha' hb' hd1' hd2' (txt_pos _ _ _ _ _ _) (txt_pos _ _ _ _ _ _) ((txt_law (K1_ok hwh) (K2_ok hwh)).trans (by simp [lawS, hp, h0, h1, h2, h4, h5]))
            case true =>
              refine W.oEq rfl rfl rfl h5 ?_
              refine W.o1 rfl rfl rfl ?_
              refine W.oNil ?_
              show W _ (.ev _ _) _
              try simp only [putDst,T.set,T.get,evA,tagS,e0,e1,e2,e3,e4,List.replicate,e5,e6,e7,e8,e9,e10,e11,e12,Nat.reduceAdd,agg,V.cells,splice,e13,e14,e15,e16]
              refine W.condT rfl ?_
              refine W.ops1 ?_
              refine W.o1 rfl rfl rfl ?_
              refine W.o1 rfl rfl rfl ?_
              try simp only [putDst,T.set,T.get,evA,tagS,e0,e1,e2,e3,e4,List.replicate,e5,e6,e7,e8,e9,e10,e11,e12,Nat.reduceAdd,agg,V.cells,splice,e13,e14,e15,e16]
              refine W.osSkip rfl ?_
              refine W.osSkip rfl ?_
              refine W.osSkip rfl ?_
              try simp only [putDst,T.set,T.get,evA,tagS,e0,e1,e2,e3,e4,List.replicate,e5,e6,e7,e8,e9,e10,e11,e12,Nat.reduceAdd,agg,V.cells,splice,e13,e14,e15,e16]
              refine W.osSkip rfl ?_
              refine W.osSkip rfl ?_
              refine W.o1 rfl rfl rfl ?_
              try simp only [putDst,T.set,T.get,evA,tagS,e0,e1,e2,e3,e4,List.replicate,e5,e6,e7,e8,e9,e10,e11,e12,Nat.reduceAdd,agg,V.cells,splice,e13,e14,e15,e16]
              refine W.o1 rfl rfl rfl ?_
              refine W.osSkip rfl ?_
              refine W.osSkip rfl ?_
              try simp only [putDst,T.set,T.get,evA,tagS,e0,e1,e2,e3,e4,List.replicate,e5,e6,e7,e8,e9,e10,e11,e12,Nat.reduceAdd,agg,V.cells,splice,e13,e14,e15,e16]
              refine W.osSkip rfl ?_
              refine W.osSkip rfl ?_
              refine W.osSkip rfl ?_
              try simp only [putDst,T.set,T.get,evA,tagS,e0,e1,e2,e3,e4,List.replicate,e5,e6,e7,e8,e9,e10,e11,e12,Nat.reduceAdd,agg,V.cells,splice,e13,e14,e15,e16]
              refine W.osSkip rfl ?_
              refine W.osSkip rfl ?_
              refine W.o1 rfl rfl rfl ?_
              try simp only [putDst,T.set,T.get,evA,tagS,e0,e1,e2,e3,e4,List.replicate,e5,e6,e7,e8,e9,e10,e11,e12,Nat.reduceAdd,agg,V.cells,splice,e13,e14,e15,e16]
              refine W.o1 rfl rfl rfl ?_
              refine W.oNil ?_
              show W _ (.ev _ _) _
              try simp only [putDst,T.set,T.get,evA,tagS,e0,e1,e2,e3,e4,List.replicate,e5,e6,e7,e8,e9,e10,e11,e12,Nat.reduceAdd,agg,V.cells,splice,e13,e14,e15,e16]
              exact fin _ _ _ _ _ _ _ _ _ _ _ _ _ _ _ _ _ _ _ _ _ false rfl rfl rfl rfl rfl rfl (K1_ok hwh) (K2_ok hwh) hw ha hb hd1 hd2 hw' ha' hb' hd1' hd2' (txt_pos _ _ _ _ _ _) (txt_pos _ _ _ _ _ _) ((txt_law (K1_ok hwh) (K2_ok hwh)).trans (by simp [lawS, hp, h0, h1, h2, h4, h5]))
          case true =>
            refine W.oEq rfl rfl rfl h4 ?_
            refine W.o1 rfl rfl rfl ?_
            refine W.osSkip rfl ?_
            try simp only [putDst,T.set,T.get,evA,tagS,e0,e1,e2,e3,e4,List.replicate,e5,e6,e7,e8,e9,e10,e11,e12,Nat.reduceAdd,agg,V.cells,splice,e13,e14,e15,e16]
            refine W.osSkip rfl ?_
            refine W.osSkip rfl ?_
            refine W.o1 rfl rfl rfl ?_
            try simp only [putDst,T.set,T.get,evA,tagS,e0,e1,e2,e3,e4,List.replicate,e5,e6,e7,e8,e9,e10,e11,e12,Nat.reduceAdd,agg,V.cells,splice,e13,e14,e15,e16]
            refine W.oNil ?_
            show W _ (.ev _ _) _
            try simp only [putDst,T.set,T.get,evA,tagS,e0,e1,e2,e3,e4,List.replicate,e5,e6,e7,e8,e9,e10,e11,e12,Nat.reduceAdd,agg,V.cells,splice,e13,e14,e15,e16]
            refine W.condT rfl ?_
            refine W.ops1 ?_
            refine W.o1 rfl rfl rfl ?_
            refine W.o1 rfl rfl rfl ?_
            refine W.osSkip rfl ?_
            try simp only [putDst,T.set,T.get,evA,tagS,e0,e1,e2,e3,e4,List.replicate,e5,e6,e7,e8,e9,e10,e11,e12,Nat.reduceAdd,agg,V.cells,splice,e13,e14,e15,e16]
            refine W.osSkip rfl ?_
            refine W.osSkip rfl ?_
            refine W.osSkip rfl ?_
            try simp only [putDst,T.set,T.get,evA,tagS,e0,e1,e2,e3,e4,List.replicate,e5,e6,e7,e8,e9,e10,e11,e12,Nat.reduceAdd,agg,V.cells,splice,e13,e14,e15,e16]
            refine W.osSkip rfl ?_
            refine W.o1 rfl rfl rfl ?_
            refine W.o1 rfl rfl rfl ?_
            try simp only [putDst,T.set,T.get,evA,tagS,e0,e1,e2,e3,e4,List.replicate,e5,e6,e7,e8,e9,e10,e11,e12,Nat.reduceAdd,agg,V.cells,splice,e13,e14,e15,e16]
            refine W.osSkip rfl ?_
            refine W.osSkip rfl ?_
            refine W.osSkip rfl ?_
            try simp only [putDst,T.set,T.get,evA,tagS,e0,e1,e2,e3,e4,List.replicate,e5,e6,e7,e8,e9,e10,e11,e12,Nat.reduceAdd,agg,V.cells,splice,e13,e14,e15,e16]
            refine W.osSkip rfl ?_
            refine W.osSkip rfl ?_
            refine W.osSkip rfl ?_
            try simp only [putDst,T.set,T.get,evA,tagS,e0,e1,e2,e3,e4,List.replicate,e5,e6,e7,e8,e9,e10,e11,e12,Nat.reduceAdd,agg,V.cells,splice,e13,e14,e15,e16]
            refine W.osSkip rfl ?_
            refine W.o1 rfl rfl rfl ?_
            refine W.o1 rfl rfl rfl ?_
            try simp only [putDst,T.set,T.get,evA,tagS,e0,e1,e2,e3,e4,List.replicate,e5,e6,e7,e8,e9,e10,e11,e12,Nat.reduceAdd,agg,V.cells,splice,e13,e14,e15,e16]
            refine W.oNil ?_
            show W _ (.ev _ _) _
            try simp only [putDst,T.set,T.get,evA,tagS,e0,e1,e2,e3,e4,List.replicate,e5,e6,e7,e8,e9,e10,e11,e12,Nat.reduceAdd,agg,V.cells,splice,e13,e14,e15,e16]
            exact fin _ _ _ _ _ _ _ _ _ _ _ _ _ _ _ _ _ _ _ _ _ false rfl rfl rfl rfl rfl rfl (K1_ok hwh) (K2_ok hwh) hw ha hb hd1 hd2 hw' ha' hb' hd1' hd2' (txt_pos _ _ _ _ _ _) (txt_pos _ _ _ _ _ _) ((txt_law (K1_ok hwh) (K2_ok hwh)).trans (by simp [lawS, hp, h0, h1, h2, h4]))
        case true =>
          refine W.oEq rfl rfl rfl h2 ?_
          refine W.o1 rfl rfl rfl ?_
          refine W.o1 rfl rfl rfl ?_
          refine W.o1 rfl rfl rfl ?_
          try simp only [putDst,T.set,T.get,evA,tagS,e0,e1,e2,e3,e4,List.replicate,e5,e6,e7,e8,e9,e10,e11,e12,Nat.reduceAdd,agg,V.cells,splice,e13,e14,e15,e16]
          refine W.o1 rfl rfl rfl ?_
          refine W.o1 rfl rfl rfl ?_
          refine W.o1 rfl rfl rfl ?_
          try simp only [putDst,T.set,T.get,evA,tagS,e0,e1,e2,e3,e4,List.replicate,e5,e6,e7,e8,e9,e10,e11,e12,Nat.reduceAdd,agg,V.cells,splice,e13,e14,e15,e16]
          refine W.o1 rfl rfl rfl ?_
          refine W.o1 rfl rfl rfl ?_
          cases h3 : (d1 == d1')
          case false =>
            refine W.oEq rfl rfl rfl h3 ?_
            refine W.o1 rfl rfl rfl ?_
            try simp only [putDst,T.set,T.get,evA,tagS,e0,e1,e2,e3,e4,List.replicate,e5,e6,e7,e8,e9,e10,e11,e12,Nat.reduceAdd,agg,V.cells,splice,e13,e14,e15,e16]
            refine W.o1 rfl rfl rfl ?_
            refine W.oNil ?_
            show W _ (.ev _ _) _
            try simp only [putDst,T.set,T.get,evA,tagS,e0,e1,e2,e3,e4,List.replicate,e5,e6,e7,e8,e9,e10,e11,e12,Nat.reduceAdd,agg,V.cells,splice,e13,e14,e15,e16]
            refine W.seq' ?_
            refine W.seq' ?_
            refine W.ops1 ?_
            refine W.o1 rfl rfl rfl ?_
            refine W.o1 rfl rfl rfl ?_
            try simp only [putDst,T.set,T.get,evA,tagS,e0,e1,e2,e3,e4,List.replicate,e5,e6,e7,e8,e9,e10,e11,e12,Nat.reduceAdd,agg,V.cells,splice,e13,e14,e15,e16]
            cases h4 : (K1 wh == 1)
            case false =>
              refine W.oEq rfl rfl rfl h4 ?_
              refine W.o1 rfl rfl rfl ?_
              refine W.o1 rfl rfl rfl ?_
              refine W.o1 rfl rfl rfl ?_
              try simp only [putDst,T.set,T.get,evA,tagS,e0,e1,e2,e3,e4,List.replicate,e5,e6,e7,e8,e9,e10,e11,e12,Nat.reduceAdd,agg,V.cells,splice,e13,e14,e15,e16]
              cases h5 : (K1 wh == 2)
              case false =>
                refine W.oEq rfl rfl rfl h5 ?_
                refine W.o1 rfl rfl rfl ?_
                refine W.oNil ?_
                show W _ (.ev _ _) _
                try simp only [putDst,T.set,T.get,evA,tagS,e0,e1,e2,e3,e4,List.replicate,e5,e6,e7,e8,e9,e10,e11,e12,Nat.reduceAdd,agg,V.cells,splice,e13,e14,e15,e16]
                refine W.condF rfl ?_
                refine W.skip ?_
                show W _ (.ev _ _) _
                exact fin _ _ _ _ _ _ _ _ _ _ _ _ _ _ _ _ _ _ _ _ _ false rfl rfl rfl rfl rfl rfl (K1_ok hwh) (K2_ok hwh) hw ha hb hd1 hd2 hw' ha' hb' hd1' hd2' (txt_pos _ _ _ _ _ _) (txt_pos _ _ _ _ _ _) ((txt_law (K1_ok hwh) (K2_ok hwh)).trans (by simp [lawS, hp, h0, h1, h2, h3, h4, h5]))
              case true =>
                refine W.oEq rfl rfl rfl h5 ?_
                refine W.o1 rfl rfl rfl ?_
                refine W.oNil ?_
                show W _ (.ev _ _) _
                try simp only [putDst,T.set,T.get,evA,tagS,e0,e1,e2,e3,e4,List.replicate,e5,e6,e7,e8,e9,e10,e11,e12,Nat.reduceAdd,agg,V.cells,splice,e13,e14,e15,e16]
                refine W.condT rfl ?_
                refine W.ops1 ?_
                refine W.o1 rfl rfl rfl ?_
                try simp only [putDst,T.set,T.get,evA,tagS,e0,e1,e2,e3,e4,List.replicate,e5,e6,e7,e8,e9,e10,e11,e12,Nat.reduceAdd,agg,V.cells,splice,e13,e14,e15,e16]
                refine W.o1 rfl rfl rfl ?_
                refine W.osSkip rfl ?_
                refine W.osSkip rfl ?_
                try simp only [putDst,T.set,T.get,evA,tagS,e0,e1,e2,e3,e4,List.replicate,e5,e6,e7,e8,e9,e10,e11,e12,Nat.reduceAdd,agg,V.cells,splice,e13,e14,e15,e16]
                refine W.osSkip rfl ?_
                refine W.osSkip rfl ?_
                refine W.osSkip rfl ?_
                try simp only [putDst,T.set,T.get,evA,tagS,e0,e1,e2,e3,e4,List.replicate,e5,e6,e7,e8,e9,e10,e11,e12,Nat.reduceAdd,agg,V.cells,splice,e13,e14,e15,e16]
                refine W.o1 rfl rfl rfl ?_
                refine W.o1 rfl rfl rfl ?_
                refine W.osSkip rfl ?_
                try simp only [putDst,T.set,T.get,evA,tagS,e0,e1,e2,e3,e4,List.replicate,e5,e6,e7,e8,e9,e10,e11,e12,Nat.reduceAdd,agg,V.cells,splice,e13,e14,e15,e16]
                refine W.osSkip rfl ?_
                refine W.osSkip rfl ?_
                refine W.osSkip rfl ?_
                try simp only [putDst,T.set,T.get,evA,tagS,e0,e1,e2,e3,e4,List.replicate,e5,e6,e7,e8,e9,e10,e11,e12,Nat.reduceAdd,agg,V.cells,splice,e13,e14,e15,e16]
                refine W.osSkip rfl ?_
                refine W.osSkip rfl ?_
                refine W.osSkip rfl ?_
                try simp only [putDst,T.set,T.get,evA,tagS,e0,e1,e2,e3,e4,List.replicate,e5,e6,e7,e8,e9,e10,e11,e12,Nat.reduceAdd,agg,V.cells,splice,e13,e14,e15,e16]
                refine W.o1 rfl rfl rfl ?_
                refine W.o1 rfl rfl rfl ?_
                refine W.oNil ?_
                show W _ (.ev _ _) _
                try simp only [putDst,T.set,T.get,evA,tagS,e0,e1,e2,e3,e4,List.replicate,e5,e6,e7,e8,e9,e10,e11,e12,Nat.reduceAdd,agg,V.cells,splice,e13,e14,e15,e16]
                exact fin _ _ _ _ _ _ _ _ _ _ _ _ _ _ _ _ _ _ _ _ _ false rfl rfl rfl rfl rfl rfl (K1_ok hwh) (K2_ok hwh) hw ha hb hd1 hd2 hw' ha' hb' hd1' hd2' (txt_pos _ _ _ _ _ _) (txt_pos _ _ _ _ _ _) ((txt_law (K1_ok hwh) (K2_ok hwh)).trans (by simp [lawS, hp, h0, h1, h2, h3, h4, h5]))
            case true =>
              refine W.oEq rfl rfl rfl h4 ?_
              refine W.o1 rfl rfl rfl ?_
              try simp only [putDst,T.set,T.get,evA,tagS,e0,e1,e2,e3,e4,List.replicate,e5,e6,e7,e8,e9,e10,e11,e12,Nat.reduceAdd,agg,V.cells,splice,e13,e14,e15,e16]
              refine W.osSkip rfl ?_
              refine W.osSkip rfl ?_
              refine W.osSkip rfl ?_
              try simp only [putDst,T.set,T.get,evA,tagS,e0,e1,e2,e3,e4,List.replicate,e5,e6,e7,e8,e9,e10,e11,e12,Nat.reduceAdd,agg,V.cells,splice,e13,e14,e15,e16]
              refine W.o1 rfl rfl rfl ?_
              refine W.oNil ?_
              show W _ (.ev _ _) _
              try simp only [putDst,T.set,T.get,evA,tagS,e0,e1,e2,e3,e4,List.replicate,e5,e6,e7,e8,e9,e10,e11,e12,Nat.reduceAdd,agg,V.cells,splice,e13,e14,e15,e16]
              refine W.condT rfl ?_
              refine W.ops1 ?_
              refine W.o1 rfl rfl rfl ?_
              refine W.o1 rfl rfl rfl ?_
              try simp only [putDst,T.set,T.get,evA,tagS,e0,e1,e2,e3,e4,List.replicate,e5,e6,e7,e8,e9,e10,e11,e12,Nat.reduceAdd,agg,V.cells,splice,e13,e14,e15,e16]
              refine W.osSkip rfl ?_
              refine W.osSkip rfl ?_
              refine W.osSkip rfl ?_
              try simp only [putDst,T.set,T.get,evA,tagS,e0,e1,e2,e3,e4,List.replicate,e5,e6,e7,e8,e9,e10,e11,e12,Nat.reduceAdd,agg,V.cells,splice,e13,e14,e15,e16]
              refine W.osSkip rfl ?_
              refine W.osSkip rfl ?_
              refine W.o1 rfl rfl rfl ?_
              try simp only [putDst,T.set,T.get,evA,tagS,e0,e1,e2,e3,e4,List.replicate,e5,e6,e7,e8,e9,e10,e11,e12,Nat.reduceAdd,agg,V.cells,splice,e13,e14,e15,e16]
              refine W.o1 rfl rfl rfl ?_
              refine W.osSkip rfl ?_
              refine W.osSkip rfl ?_
              try simp only [putDst,T.set,T.get,evA,tagS,e0,e1,e2,e3,e4,List.replicate,e5,e6,e7,e8,e9,e10,e11,e12,Nat.reduceAdd,agg,V.cells,splice,e13,e14,e15,e16]
              refine W.osSkip rfl ?_
              refine W.osSkip rfl ?_
              refine W.osSkip rfl ?_
              try simp only [putDst,T.set,T.get,evA,tagS,e0,e1,e2,e3,e4,List.replicate,e5,e6,e7,e8,e9,e10,e11,e12,Nat.reduceAdd,agg,V.cells,splice,e13,e14,e15,e16]
              refine W.osSkip rfl ?_
              refine W.osSkip rfl ?_
              refine W.o1 rfl rfl rfl ?_
              try simp only [putDst,T.set,T.get,evA,tagS,e0,e1,e2,e3,e4,List.replicate,e5,e6,e7,e8,e9,e10,e11,e12,Nat.reduceAdd,agg,V.cells,splice,e13,e14,e15,e16]
              refine W.o1 rfl rfl rfl ?_
              refine W.oNil ?_
              show W _ (.ev _ _) _
              try simp only [putDst,T.set,T.get,evA,tagS,e0,e1,e2,e3,e4,List.replicate,e5,e6,e7,e8,e9,e10,e11,e12,Nat.reduceAdd,agg,V.cells,splice,e13,e14,e15,e16]
              exact fin _ _ _ _ _ _ _ _ _ _ _ _ _ _ _ _ _ _ _ _ _ false rfl rfl rfl rfl rfl rfl (K1_ok hwh) (K2_ok hwh) hw ha hb hd1 hd2 hw' ha' hb' hd1' hd2' (txt_pos _ _ _ _ _ _) (txt_pos _ _ _ _ _ _) ((txt_law (K1_ok hwh) (K2_ok hwh)).trans (by simp [lawS, hp, h0, h1, h2, h3, h4]))
          case true =>
            refine W.oEq rfl rfl rfl h3 ?_
            refine W.o1 rfl rfl rfl ?_
            refine W.o1 rfl rfl rfl ?_
            try simp only [putDst,T.set,T.get,evA,tagS,e0,e1,e2,e3,e4,List.replicate,e5,e6,e7,e8,e9,e10,e11,e12,Nat.reduceAdd,agg,V.cells,splice,e13,e14,e15,e16]
            refine W.oNil ?_
            show W _ (.ev _ _) _
            try simp only [putDst,T.set,T.get,evA,tagS,e0,e1,e2,e3,e4,List.replicate,e5,e6,e7,e8,e9,e10,e11,e12,Nat.reduceAdd,agg,V.cells,splice,e13,e14,e15,e16]
            refine W.seq' ?_
            refine W.seq' ?_
            refine W.ops1 ?_
            refine W.o1 rfl rfl rfl ?_
            refine W.o1 rfl rfl rfl ?_
            cases h4 : (K1 wh == 1)
            case false =>
              refine W.oEq rfl rfl rfl h4 ?_
              refine W.o1 rfl rfl rfl ?_
              try simp only [putDst,T.set,T.get,evA,tagS,e0,e1,e2,e3,e4,List.replicate,e5,e6,e7,e8,e9,e10,e11,e12,Nat.reduceAdd,agg,V.cells,splice,e13,e14,e15,e16]
              refine W.o1 rfl rfl rfl ?_
              refine W.o1 rfl rfl rfl ?_
              cases h5 : (K1 wh == 2)
              case false =>
                refine W.oEq rfl rfl rfl h5 ?_
                refine W.o1 rfl rfl rfl ?_
                try simp only [putDst,T.set,T.get,evA,tagS,e0,e1,e2,e3,e4,List.replicate,e5,e6,e7,e8,e9,e10,e11,e12,Nat.reduceAdd,agg,V.cells,splice,e13,e14,e15,e16]
                refine W.oNil ?_
                show W _ (.ev _ _) _
                try simp only [putDst,T.set,T.get,evA,tagS,e0,e1,e2,e3,e4,List.replicate,e5,e6,e7,e8,e9,e10,e11,e12,Nat.reduceAdd,agg,V.cells,splice,e13,e14,e15,e16]
                refine W.condF rfl ?_
                refine W.skip ?_
                show W _ (.ev _ _) _
                exact fin _ _ _ _ _ _ _ _ _ _ _ _ _ _ _ _ _ _ _ _ _ true rfl rfl rfl rfl rfl rfl (K1_ok hwh) (K2_ok hwh) hw ha hb hd1 hd2 hw' ha' hb' hd1' hd2' (txt_pos _ _ _ _ _ _) (txt_pos _ _ _ _ _ _) ((txt_law (K1_ok hwh) (K2_ok hwh)).trans (by simp [lawS, hp, h0, h1, h2, h3, h4, h5]))
              case true =>
                refine W.oEq rfl rfl rfl h5 ?_
                refine W.o1 rfl rfl rfl ?_
                refine W.oNil ?_
                show W _ (.ev _ _) _
                try simp only [putDst,T.set,T.get,evA,tagS,e0,e1,e2,e3,e4,List.replicate,e5,e6,e7,e8,e9,e10,e11,e12,Nat.reduceAdd,agg,V.cells,splice,e13,e14,e15,e16]
                refine W.condT rfl ?_
                refine W.ops1 ?_
                refine W.o1 rfl rfl rfl ?_
                refine W.o1 rfl rfl rfl ?_
                try simp only [putDst,T.set,T.get,evA,tagS,e0,e1,e2,e3,e4,List.replicate,e5,e6,e7,e8,e9,e10,e11,e12,Nat.reduceAdd,agg,V.cells,splice,e13,e14,e15,e16]
                refine W.o1 rfl rfl rfl ?_
                refine W.o1 rfl rfl rfl ?_
                refine W.o1 rfl rfl rfl ?_
                try simp only [putDst,T.set,T.get,evA,tagS,e0,e1,e2,e3,e4,List.replicate,e5,e6,e7,e8,e9,e10,e11,e12,Nat.reduceAdd,agg,V.cells,splice,e13,e14,e15,e16]
                refine W.o1 rfl rfl rfl ?_
                cases h6 : (b == b')
                case false =>
                  refine W.oEq rfl rfl rfl h6 ?_
                  refine W.o1 rfl rfl rfl ?_
                  refine W.o1 rfl rfl rfl ?_
                  try simp only [putDst,T.set,T.get,evA,tagS,e0,e1,e2,e3,e4,List.replicate,e5,e6,e7,e8,e9,e10,e11,e12,Nat.reduceAdd,agg,V.cells,splice,e13,e14,e15,e16]
                  refine W.osSkip rfl ?_
                  refine W.osSkip rfl ?_
                  refine W.osSkip rfl ?_
                  try simp only [putDst,T.set,T.get,evA,tagS,e0,e1,e2,e3,e4,List.replicate,e5,e6,e7,e8,e9,e10,e11,e12,Nat.reduceAdd,agg,V.cells,splice,e13,e14,e15,e16]
                  refine W.osSkip rfl ?_
                  refine W.osSkip rfl ?_
                  refine W.osSkip rfl ?_
                  try simp only [putDst,T.set,T.get,evA,tagS,e0,e1,e2,e3,e4,List.replicate,e5,e6,e7,e8,e9,e10,e11,e12,Nat.reduceAdd,agg,V.cells,splice,e13,e14,e15,e16]
                  refine W.osSkip rfl ?_
                  refine W.o1 rfl rfl rfl ?_
                  refine W.o1 rfl rfl rfl ?_
                  try simp only [putDst,T.set,T.get,evA,tagS,e0,e1,e2,e3,e4,List.replicate,e5,e6,e7,e8,e9,e10,e11,e12,Nat.reduceAdd,agg,V.cells,splice,e13,e14,e15,e16]
                  refine W.oNil ?_
                  show W _ (.ev _ _) _
                  try simp only [putDst,T.set,T.get,evA,tagS,e0,e1,e2,e3,e4,List.replicate,e5,e6,e7,e8,e9,e10,e11,e12,Nat.reduceAdd,agg,V.cells,splice,e13,e14,e15,e16]
                  exact fin _ _ _ _ _ _ _ _ _ _ _ _ _ _ _ _ _ _ _ _ _ false rfl rfl rfl rfl rfl rfl (K1_ok hwh) (K2_ok hwh) hw ha hb hd1 hd2 hw' ha' hb' hd1' hd2' (txt_pos _ _ _ _ _ _) (txt_pos _ _ _ _ _ _) ((txt_law (K1_ok hwh) (K2_ok hwh)).trans (by simp [lawS, hp, h0, h1, h2, h3, h4, h5, h6]))
                case true =>
                  refine W.oEq rfl rfl rfl h6 ?_
                  refine W.o1 rfl rfl rfl ?_
                  refine W.o1 rfl rfl rfl ?_
                  refine W.o1 rfl rfl rfl ?_
                  try simp only [putDst,T.set,T.get,evA,tagS,e0,e1,e2,e3,e4,List.replicate,e5,e6,e7,e8,e9,e10,e11,e12,Nat.reduceAdd,agg,V.cells,splice,e13,e14,e15,e16]
                  refine W.o1 rfl rfl rfl ?_
                  refine W.o1 rfl rfl rfl ?_
                  refine W.o1 rfl rfl rfl ?_
                  try simp only [putDst,T.set,T.get,evA,tagS,e0,e1,e2,e3,e4,List.replicate,e5,e6,e7,e8,e9,e10,e11,e12,Nat.reduceAdd,agg,V.cells,splice,e13,e14,e15,e16]
                  refine W.o1 rfl rfl rfl ?_
                  refine W.o1 rfl rfl rfl ?_
                  cases h7 : (d2 == d2')
                  case false =>
                    refine W.oEq rfl rfl rfl h7 ?_
                    refine W.o1 rfl rfl rfl ?_
                    try simp only [putDst,T.set,T.get,evA,tagS,e0,e1,e2,e3,e4,List.replicate,e5,e6,e7,e8,e9,e10,e11,e12,Nat.reduceAdd,agg,V.cells,splice,e13,e14,e15,e16]
                    refine W.o1 rfl rfl rfl ?_
                    refine W.oNil ?_
                    show W _ (.ev _ _) _
                    try simp only [putDst,T.set,T.get,evA,tagS,e0,e1,e2,e3,e4,List.replicate,e5,e6,e7,e8,e9,e10,e11,e12,Nat.reduceAdd,agg,V.cells,splice,e13,e14,e15,e16]
                    exact fin _ _ _ _ _ _ _ _ _ _ _ _ _ _ _ _ _ _ _ _ _ false rfl rfl rfl rfl rfl rfl (K1_ok hwh) (K2_ok hwh) hw ha hb hd1 hd2 hw' ha' hb' hd1' hd2' (txt_pos _ _ _ _ _ _) (txt_pos _ _ _ _ _ _) ((txt_law (K1_ok hwh) (K2_ok hwh)).trans (by simp [lawS, hp, h0, h1, h2, h3, h4, h5, h6, h7]))
                  case true =>
                    refine W.oEq rfl rfl rfl h7 ?_
                    refine W.o1 rfl rfl rfl ?_
                    refine W.o1 rfl rfl rfl ?_
                    try simp only [putDst,T.set,T.get,evA,tagS,e0,e1,e2,e3,e4,List.replicate,e5,e6,e7,e8,e9,e10,e11,e12,Nat.reduceAdd,agg,V.cells,splice,e13,e14,e15,e16]
                    refine W.oNil ?_
                    show W _ (.ev _ _) _
                    try simp only [putDst,T.set,T.get,evA,tagS,e0,e1,e2,e3,e4,List.replicate,e5,e6,e7,e8,e9,e10,e11,e12,Nat.reduceAdd,agg,V.cells,splice,e13,e14,e15,e16]
                    exact fin _ _ _ _ _ _ _ _ _ _ _ _ _ _ _ _ _ _ _ _ _ true rfl rfl rfl rfl rfl rfl (K1_ok hwh) (K2_ok hwh) hw ha hb hd1 hd2 hw' ha' hb' hd1' hd2' (txt_pos _ _ _ _ _ _) (txt_pos _ _ _ _ _ _) ((txt_law (K1_ok hwh) (K2_ok hwh)).trans (by simp [lawS, hp, h0, h1, h2, h3, h4, h5, h6, h7]))
            case true =>
              refine W.oEq rfl rfl rfl h4 ?_
              refine W.o1 rfl rfl rfl ?_
              refine W.osSkip rfl ?_
              refine W.osSkip rfl ?_
              try simp only [putDst,T.set,T.get,evA,tagS,e0,e1,e2,e3,e4,List.replicate,e5,e6,e7,e8,e9,e10,e11,e12,Nat.reduceAdd,agg,V.cells,splice,e13,e14,e15,e16]
              refine W.osSkip rfl ?_
              refine W.o1 rfl rfl rfl ?_
              refine W.oNil ?_
              show W _ (.ev _ _) _
              try simp only [putDst,T.set,T.get,evA,tagS,e0,e1,e2,e3,e4,List.replicate,e5,e6,e7,e8,e9,e10,e11,e12,Nat.reduceAdd,agg,V.cells,splice,e13,e14,e15,e16]
              refine W.condT rfl ?_
              refine W.ops1 ?_
              refine W.o1 rfl rfl rfl ?_
              try simp only [putDst,T.set,T.get,evA,tagS,e0,e1,e2,e3,e4,List.replicate,e5,e6,e7,e8,e9,e10,e11,e12,Nat.reduceAdd,agg,V.cells,splice,e13,e14,e15,e16]
              refine W.o1 rfl rfl rfl ?_
              refine W.o1 rfl rfl rfl ?_
              refine W.o1 rfl rfl rfl ?_
              try simp only [putDst,T.set,T.get,evA,tagS,e0,e1,e2,e3,e4,List.replicate,e5,e6,e7,e8,e9,e10,e11,e12,Nat.reduceAdd,agg,V.cells,splice,e13,e14,e15,e16]
              refine W.o1 rfl rfl rfl ?_
              refine W.o1 rfl rfl rfl ?_
              cases h6 : (b == b')
              case false =>
                refine W.oEq rfl rfl rfl h6 ?_
                refine W.o1 rfl rfl rfl ?_
                try simp only [putDst,T.set,T.get,evA,tagS,e0,e1,e2,e3,e4,List.replicate,e5,e6,e7,e8,e9,e10,e11,e12,Nat.reduceAdd,agg,V.cells,splice,e13,e14,e15,e16]
                refine W.o1 rfl rfl rfl ?_
                refine W.osSkip rfl ?_
                refine W.osSkip rfl ?_
                try simp only [putDst,T.set,T.get,evA,tagS,e0,e1,e2,e3,e4,List.replicate,e5,e6,e7,e8,e9,e10,e11,e12,Nat.reduceAdd,agg,V.cells,splice,e13,e14,e15,e16]
                refine W.osSkip rfl ?_
                refine W.osSkip rfl ?_
                refine W.osSkip rfl ?_
                try simp only [putDst,T.set,T.get,evA,tagS,e0,e1,e2,e3,e4,List.replicate,e5,e6,e7,e8,e9,e10,e11,e12,Nat.reduceAdd,agg,V.cells,splice,e13,e14,e15,e16]
                refine W.osSkip rfl ?_
                refine W.osSkip rfl ?_
                refine W.o1 rfl rfl rfl ?_
                try simp only [putDst,T.set,T.get,evA,tagS,e0,e1,e2,e3,e4,List.replicate,e5,e6,e7,e8,e9,e10,e11,e12,Nat.reduceAdd,agg,V.cells,splice,e13,e14,e15,e16]
                refine W.o1 rfl rfl rfl ?_
                refine W.oNil ?_
                show W _ (.ev _ _) _
                try simp only [putDst,T.set,T.get,evA,tagS,e0,e1,e2,e3,e4,List.replicate,e5,e6,e7,e8,e9,e10,e11,e12,Nat.reduceAdd,agg,V.cells,splice,e13,e14,e15,e16]
                exact fin _ _ _ _ _ _ _ _ _ _ _ _ _ _ _ _ _ _ _ _ _ false rfl rfl rfl rfl rfl rfl (K1_ok hwh) (K2_ok hwh) hw ha hb hd1 hd2 hw' ha' hb' hd1' hd2' (txt_pos _ _ _ _ _ _) (txt_pos _ _ _ _ _ _) ((txt_law (K1_ok hwh) (K2_ok hwh)).trans (by simp [lawS, hp, h0, h1, h2, h3, h4, h6]))
              case true =>
                refine W.oEq rfl rfl rfl h6 ?_
                refine W.o1 rfl rfl rfl ?_
                refine W.o1 rfl rfl rfl ?_
                try simp only [putDst,T.set,T.get,evA,tagS,e0,e1,e2,e3,e4,List.replicate,e5,e6,e7,e8,e9,e10,e11,e12,Nat.reduceAdd,agg,V.cells,splice,e13,e14,e15,e16]
                refine W.o1 rfl rfl rfl ?_
                refine W.o1 rfl rfl rfl ?_
                refine W.o1 rfl rfl rfl ?_
                try simp only [putDst,T.set,T.get,evA,tagS,e0,e1,e2,e3,e4,List.replicate,e5,e6,e7,e8,e9,e10,e11,e12,Nat.reduceAdd,agg,V.cells,splice,e13,e14,e15,e16]
                refine W.o1 rfl rfl rfl ?_
                refine W.o1 rfl rfl rfl ?_
                refine W.o1 rfl rfl rfl ?_
                try simp only [putDst,T.set,T.get,evA,tagS,e0,e1,e2,e3,e4,List.replicate,e5,e6,e7,e8,e9,e10,e11,e12,Nat.reduceAdd,agg,V.cells,splice,e13,e14,e15,e16]
                cases h7 : (d2 == d2')
                case false =>
                  refine W.oEq rfl rfl rfl h7 ?_
                  refine W.o1 rfl rfl rfl ?_
                  refine W.o1 rfl rfl rfl ?_
                  refine W.oNil ?_
                  show W _ (.ev _ _) _
                  try simp only [putDst,T.set,T.get,evA,tagS,e0,e1,e2,e3,e4,List.replicate,e5,e6,e7,e8,e9,e10,e11,e12,Nat.reduceAdd,agg,V.cells,splice,e13,e14,e15,e16]
                  exact fin _ _ _ _ _ _ _ _ _ _ _ _ _ _ _ _ _ _ _ _ _ false rfl rfl rfl rfl rfl rfl (K1_ok hwh) (K2_ok hwh) hw ha hb hd1 hd2 hw' ha' hb' hd1' hd2' (txt_pos _ _ _ _ _ _) (txt_pos _ _ _ _ _ _) ((txt_law (K1_ok hwh) (K2_ok hwh)).trans (by simp [lawS, hp, h0, h1, h2, h3, h4, h6, h7]))
                case true =>
                  refine W.oEq rfl rfl rfl h7 ?_
                  refine W.o1 rfl rfl rfl ?_
                  try simp only [putDst,T.set,T.get,evA,tagS,e0,e1,e2,e3,e4,List.replicate,e5,e6,e7,e8,e9,e10,e11,e12,Nat.reduceAdd,agg,V.cells,splice,e13,e14,e15,e16]
                  refine W.o1 rfl rfl rfl ?_
                  refine W.oNil ?_
                  show W _ (.ev _ _) _
                  try simp only [putDst,T.set,T.get,evA,tagS,e0,e1,e2,e3,e4,List.replicate,e5,e6,e7,e8,e9,e10,e11,e12,Nat.reduceAdd,agg,V.cells,splice,e13,e14,e15,e16]
                  exact fin _ _ _ _ _ _ _ _ _ _ _ _ _ _ _ _ _ _ _ _ _ true rfl rfl rfl rfl rfl rfl (K1_ok hwh) (K2_ok hwh) hw ha hb hd1 hd2 hw' ha' hb' hd1' hd2' (txt_pos _ _ _ _ _ _) (txt_pos _ _ _ _ _ _) ((txt_law (K1_ok hwh) (K2_ok hwh)).trans (by simp [lawS, hp, h0, h1, h2, h3, h4, h6, h7]))
  case true =>
    refine W.oEq rfl rfl rfl hp ?_
    refine W.oNil ?_
    show W _ (.ev _ _) _
    try simp only [putDst,T.set,T.get,evA,tagS,e0,e1,e2,e3,e4,List.replicate,e5,e6,e7,e8,e9,e10,e11,e12,Nat.reduceAdd,agg,V.cells,splice,e13,e14,e15,e16]
    refine W.condT rfl ?_
    refine W.seq' ?_
    refine W.ops1 ?_
    refine W.o1 rfl rfl rfl ?_
    refine W.o1 rfl rfl rfl ?_
    try simp only [putDst,T.set,T.get,evA,tagS,e0,e1,e2,e3,e4,List.replicate,e5,e6,e7,e8,e9,e10,e11,e12,Nat.reduceAdd,agg,V.cells,splice,e13,e14,e15,e16]
    refine W.o1 rfl rfl rfl ?_
    refine W.o1 rfl rfl rfl ?_
    refine W.oNil ?_
    show W _ (.ev _ _) _
    try simp only [putDst,T.set,T.get,evA,tagS,e0,e1,e2,e3,e4,List.replicate,e5,e6,e7,e8,e9,e10,e11,e12,Nat.reduceAdd,agg,V.cells,splice,e13,e14,e15,e16]
    refine W.seq' ?_
    refine W.ops1 ?_
    refine W.o1 rfl rfl rfl ?_
    try simp only [putDst,T.set,T.get,evA,tagS,e0,e1,e2,e3,e4,List.replicate,e5,e6,e7,e8,e9,e10,e11,e12,Nat.reduceAdd,agg,V.cells,splice,e13,e14,e15,e16]
    refine W.o1 rfl rfl rfl ?_
    refine W.o1 rfl rfl rfl ?_
    refine W.o1 rfl rfl rfl ?_
    try simp only [putDst,T.set,T.get,evA,tagS,e0,e1,e2,e3,e4,List.replicate,e5,e6,e7,e8,e9,e10,e11,e12,Nat.reduceAdd,agg,V.cells,splice,e13,e14,e15,e16]
    refine W.oNil ?_
    show W _ (.ev _ _) _
    try simp only [putDst,T.set,T.get,evA,tagS,e0,e1,e2,e3,e4,List.replicate,e5,e6,e7,e8,e9,e10,e11,e12,Nat.reduceAdd,agg,V.cells,splice,e13,e14,e15,e16]
    refine W.ops1 ?_
    refine W.o1 rfl rfl rfl ?_
    refine W.o1 rfl rfl rfl ?_
    refine W.o1 rfl rfl rfl ?_
    try simp only [putDst,T.set,T.get,evA,tagS,e0,e1,e2,e3,e4,List.replicate,e5,e6,e7,e8,e9,e10,e11,e12,Nat.reduceAdd,agg,V.cells,splice,e13,e14,e15,e16]
    refine W.o1 rfl rfl rfl ?_
    refine W.o1 rfl rfl rfl ?_
    refine W.o1 rfl rfl rfl ?_
    try simp only [putDst,T.set,T.get,evA,tagS,e0,e1,e2,e3,e4,List.replicate,e5,e6,e7,e8,e9,e10,e11,e12,Nat.reduceAdd,agg,V.cells,splice,e13,e14,e15,e16]
    refine W.oNil ?_
    show W _ (.ev _ _) _
    try simp only [putDst,T.set,T.get,evA,tagS,e0,e1,e2,e3,e4,List.replicate,e5,e6,e7,e8,e9,e10,e11,e12,Nat.reduceAdd,agg,V.cells,splice,e13,e14,e15,e16]
    refine W.seq' ?_
    refine W.ops1 ?_
    refine W.o1 rfl rfl rfl ?_
    refine W.o1 rfl rfl rfl ?_
    refine W.o1 rfl rfl rfl ?_
    try simp only [putDst,T.set,T.get,evA,tagS,e0,e1,e2,e3,e4,List.replicate,e5,e6,e7,e8,e9,e10,e11,e12,Nat.reduceAdd,agg,V.cells,splice,e13,e14,e15,e16]
    refine W.o1 rfl rfl rfl ?_
    cases h0 : (K1 wh == K2 wh)
    case false =>
      refine W.oEq rfl rfl rfl h0 ?_
      refine W.o1 rfl rfl rfl ?_
      refine W.osSkip rfl ?_
      try simp only [putDst,T.set,T.get,evA,tagS,e0,e1,e2,e3,e4,List.replicate,e5,e6,e7,e8,e9,e10,e11,e12,Nat.reduceAdd,agg,V.cells,splice,e13,e14,e15,e16]
      refine W.osSkip rfl ?_
      refine W.osSkip rfl ?_
      refine W.osSkip rfl ?_
      try simp only [putDst,T.set,T.get,evA,tagS,e0,e1,e2,e3,e4,List.replicate,e5,e6,e7,e8,e9,e10,e11,e12,Nat.reduceAdd,agg,V.cells,splice,e13,e14,e15,e16]
      refine W.osSkip rfl ?_
      refine W.o1 rfl rfl rfl ?_
      refine W.o1 rfl rfl rfl ?_
      try simp only [putDst,T.set,T.get,evA,tagS,e0,e1,e2,e3,e4,List.replicate,e5,e6,e7,e8,e9,e10,e11,e12,Nat.reduceAdd,agg,V.cells,splice,e13,e14,e15,e16]
      refine W.osSkip rfl ?_
      refine W.osSkip rfl ?_
      refine W.osSkip rfl ?_
      try simp only [putDst,T.set,T.get,evA,tagS,e0,e1,e2,e3,e4,List.replicate,e5,e6,e7,e8,e9,e10,e11,e12,Nat.reduceAdd,agg,V.cells,splice,e13,e14,e15,e16]
      refine W.osSkip rfl ?_
      refine W.osSkip rfl ?_
      refine W.o1 rfl rfl rfl ?_
      try simp only [putDst,T.set,T.get,evA,tagS,e0,e1,e2,e3,e4,List.replicate,e5,e6,e7,e8,e9,e10,e11,e12,Nat.reduceAdd,agg,V.cells,splice,e13,e14,e15,e16]
      refine W.o1 rfl rfl rfl ?_
      refine W.osSkip rfl ?_
      refine W.osSkip rfl ?_
      try simp only [putDst,T.set,T.get,evA,tagS,e0,e1,e2,e3,e4,List.replicate,e5,e6,e7,e8,e9,e10,e11,e12,Nat.reduceAdd,agg,V.cells,splice,e13,e14,e15,e16]
      refine W.osSkip rfl ?_
      refine W.osSkip rfl ?_
      refine W.osSkip rfl ?_
      try simp only [putDst,T.set,T.get,evA,tagS,e0,e1,e2,e3,e4,List.replicate,e5,e6,e7,e8,e9,e10,e11,e12,Nat.reduceAdd,agg,V.cells,splice,e13,e14,e15,e16]
      refine W.osSkip rfl ?_
      refine W.osSkip rfl ?_
      refine W.o1 rfl rfl rfl ?_
      try simp only [putDst,T.set,T.get,evA,tagS,e0,e1,e2,e3,e4,List.replicate,e5,e6,e7,e8,e9,e10,e11,e12,Nat.reduceAdd,agg,V.cells,splice,e13,e14,e15,e16]
      refine W.o1 rfl rfl rfl ?_
      refine W.oNil ?_
      show W _ (.ev _ _) _
      try simp only [putDst,T.set,T.get,evA,tagS,e0,e1,e2,e3,e4,List.replicate,e5,e6,e7,e8,e9,e10,e11,e12,Nat.reduceAdd,agg,V.cells,splice,e13,e14,e15,e16]
      refine W.seq' ?_
      refine W.seq' ?_
      refine W.ops1 ?_
      refine W.o1 rfl rfl rfl ?_
      refine W.o1 rfl rfl rfl ?_
      try simp only [putDst,T.set,T.get,evA,tagS,e0,e1,e2,e3,e4,List.replicate,e5,e6,e7,e8,e9,e10,e11,e12,Nat.reduceAdd,agg,V.cells,splice,e13,e14,e15,e16]
      cases h4 : (K1 wh == 1)
      case false =>
        refine W.oEq rfl rfl rfl h4 ?_
        refine W.o1 rfl rfl rfl ?_
        refine W.o1 rfl rfl rfl ?_
        refine W.o1 rfl rfl rfl ?_
        try simp only [putDst,T.set,T.get,evA,tagS,e0,e1,e2,e3,e4,List.replicate,e5,e6,e7,e8,e9,e10,e11,e12,Nat.reduceAdd,agg,V.cells,splice,e13,e14,e15,e16]
        cases h5 : (K1 wh == 2)
        case false =>
          refine W.oEq rfl rfl rfl h5 ?_
          refine W.o1 rfl rfl rfl ?_
          refine W.oNil ?_
          show W _ (.ev _ _) _
          try simp only [putDst,T.set,T.get,evA,tagS,e0,e1,e2,e3,e4,List.replicate,e5,e6,e7,e8,e9,e10,e11,e12,Nat.reduceAdd,agg,V.cells,splice,e13,e14,e15,e16]
          refine W.condF rfl ?_
          refine W.skip ?_
          show W _ (.ev _ _) _
          exact fin _ _ _ _ _ _ _ _ _ _ _ _ _ _ _ _ _ _ _ _ _ false rfl rfl rfl rfl rfl rfl (K1_ok hwh) (K2_ok hwh) hw ha hb hd1 hd2 hw ha hb' hd1 hd2' (txt_pos _ _ _ _ _ _) (txt_pos _ _ _ _ _ _) ((txt_law (K1_ok hwh) (K2_ok hwh)).trans (by simp [lawS, hp, h0, h4, h5]))
        case true =>
          refine W.oEq rfl rfl rfl h5 ?_
          refine W.o1 rfl rfl rfl ?_
          refine W.oNil ?_
          show W _ (.ev _ _) _
          try simp only [putDst,T.set,T.get,evA,tagS,e0,e1,e2,e3,e4,List.replicate,e5,e6,e7,e8,e9,e10,e11,e12,Nat.reduceAdd,agg,V.cells,splice,e13,e14,e15,e16]
          refine W.condT rfl ?_
          refine W.ops1 ?_
          refine W.o1 rfl rfl rfl ?_
          try simp only [putDst,T.set,T.get,evA,tagS,e0,e1,e2,e3,e4,List.replicate,e5,e6,e7,e8,e9,e10,e11,e12,Nat.reduceAdd,agg,V.cells,splice,e13,e14,e15,e16]
          refine W.o1 rfl rfl rfl ?_
          refine W.osSkip rfl ?_
          refine W.osSkip rfl ?_
          try simp only [putDst,T.set,T.get,evA,tagS,e0,e1,e2,e3,e4,List.replicate,e5,e6,e7,e8,e9,e10,e11,e12,Nat.reduceAdd,agg,V.cells,splice,e13,e14,e15,e16]
          refine W.osSkip rfl ?_
          refine W.osSkip rfl ?_
          refine W.osSkip rfl ?_
          try simp only [putDst,T.set,T.get,evA,tagS,e0,e1,e2,e3,e4,List.replicate,e5,e6,e7,e8,e9,e10,e11,e12,Nat.reduceAdd,agg,V.cells,splice,e13,e14,e15,e16]
          refine W.o1 rfl rfl rfl ?_
          refine W.o1 rfl rfl rfl ?_
          refine W.osSkip rfl ?_
          try simp only [putDst,T.set,T.get,evA,tagS,e0,e1,e2,e3,e4,List.replicate,e5,e6,e7,e8,e9,e10,e11,e12,Nat.reduceAdd,agg,V.cells,splice,e13,e14,e15,e16]
          refine W.osSkip rfl ?_
          refine W.osSkip rfl ?_
          refine W.osSkip rfl ?_
          try simp only [putDst,T.set,T.get,evA,tagS,e0,e1,e2,e3,e4,List.replicate,e5,e6,e7,e8,e9,e10,e11,e12,Nat.reduceAdd,agg,V.cells,splice,e13,e14,e15,e16]
          refine W.osSkip rfl ?_
          refine W.osSkip rfl ?_
          refine W.osSkip rfl ?_
          try simp only [putDst,T.set,T.get,evA,tagS,e0,e1,e2,e3,e4,List.replicate,e5,e6,e7,e8,e9,e10,e11,e12,Nat.reduceAdd,agg,V.cells,splice,e13,e14,e15,e16]
          refine W.o1 rfl rfl rfl ?_
          refine W.o1 rfl rfl rfl ?_
          refine W.oNil ?_
          show W _ (.ev _ _) _
          try simp only [putDst,T.set,T.get,evA,tagS,e0,e1,e2,e3,e4,List.replicate,e5,e6,e7,e8,e9,e10,e11,e12,Nat.reduceAdd,agg,V.cells,splice,e13,e14,e15,e16]
          exact fin _ _ _ _ _ _ _ _ _ _ _ _ _ _ _ _ _ _ _ _ _ false rfl rfl rfl rfl rfl rfl (K1_ok hwh) (K2_ok hwh) hw ha hb hd1 hd2 hw ha hb' hd1 hd2' (txt_pos _ _ _ _ _ _) (txt_pos _ _ _ _ _ _) ((txt_law (K1_ok hwh) (K2_ok hwh)).trans (by simp [lawS, hp, h0, h4, h5]))
      case true =>
        refine W.oEq rfl rfl rfl h4 ?_
        refine W.o1 rfl rfl rfl ?_
        try simp only [putDst,T.set,T.get,evA,tagS,e0,e1,e2,e3,e4,List.replicate,e5,e6,e7,e8,e9,e10,e11,e12,Nat.reduceAdd,agg,V.cells,splice,e13,e14,e15,e16]
        refine W.osSkip rfl ?_
        refine W.osSkip rfl ?_
        refine W.osSkip rfl ?_
        try simp only [putDst,T.set,T.get,evA,tagS,e0,e1,e2,e3,e4,List.replicate,e5,e6,e7,e8,e9,e10,e11,e12,Nat.reduceAdd,agg,V.cells,splice,e13,e14,e15,e16]
        refine W.o1 rfl rfl rfl ?_
        refine W.oNil ?_
        show W _ (.ev _ _) _
        try simp only [putDst,T.set,T.get,evA,tagS,e0,e1,e2,e3,e4,List.replicate,e5,e6,e7,e8,e9,e10,e11,e12,Nat.reduceAdd,agg,V.cells,splice,e13,e14,e15,e16]
        refine W.condT rfl ?_
        refine W.ops1 ?_
        refine W.o1 rfl rfl rfl ?_
        refine W.o1 rfl rfl rfl ?_
        try simp only [putDst,T.set,T.get,evA,tagS,e0,e1,e2,e3,e4,List.replicate,e5,e6,e7,e8,e9,e10,e11,e12,Nat.reduceAdd,agg,V.cells,splice,e13,e14,e15,e16]
        refine W.osSkip rfl ?_
        refine W.osSkip rfl ?_
        refine W.osSkip rfl ?_
        try simp only [putDst,T.set,T.get,evA,tagS,e0,e1,e2,e3,e4,List.replicate,e5,e6,e7,e8,e9,e10,e11,e12,Nat.reduceAdd,agg,V.cells,splice,e13,e14,e15,e16]
        refine W.osSkip rfl ?_
        refine W.osSkip rfl ?_
        refine W.o1 rfl rfl rfl ?_
        try simp only [putDst,T.set,T.get,evA,tagS,e0,e1,e2,e3,e4,List.replicate,e5,e6,e7,e8,e9,e10,e11,e12,Nat.reduceAdd,agg,V.cells,splice,e13,e14,e15,e16]
        refine W.o1 rfl rfl rfl ?_
        refine W.osSkip rfl ?_
        refine W.osSkip rfl ?_
        try simp only [putDst,T.set,T.get,evA,tagS,e0,e1,e2,e3,e4,List.replicate,e5,e6,e7,e8,e9,e10,e11,e12,Nat.reduceAdd,agg,V.cells,splice,e13,e14,e15,e16]
        refine W.osSkip rfl ?_
        refine W.osSkip rfl ?_
        refine W.osSkip rfl ?_
        try simp only [putDst,T.set,T.get,evA,tagS,e0,e1,e2,e3,e4,List.replicate,e5,e6,e7,e8,e9,e10,e11,e12,Nat.reduceAdd,agg,V.cells,splice,e13,e14,e15,e16]
        refine W.osSkip rfl ?_
        refine W.osSkip rfl ?_
        refine W.o1 rfl rfl rfl ?_
        try simp only [putDst,T.set,T.get,evA,tagS,e0,e1,e2,e3,e4,List.replicate,e5,e6,e7,e8,e9,e10,e11,e12,Nat.reduceAdd,agg,V.cells,splice,e13,e14,e15,e16]
        refine W.o1 rfl rfl rfl ?_
        refine W.oNil ?_
        show W _ (.ev _ _) _
        try simp only [putDst,T.set,T.get,evA,tagS,e0,e1,e2,e3,e4,List.replicate,e5,e6,e7,e8,e9,e10,e11,e12,Nat.reduceAdd,agg,V.cells,splice,e13,e14,e15,e16]
        exact fin _ _ _ _ _ _ _ _ _ _ _ _ _ _ _ _ _ _ _ _ _ false rfl rfl rfl rfl rfl rfl (K1_ok hwh) (K2_ok hwh) hw ha hb hd1 hd2 hw ha hb' hd1 hd2' (txt_pos _ _ _ _ _ _) (txt_pos _ _ _ _ _ _) ((txt_law (K1_ok hwh) (K2_ok hwh)).trans (by simp [lawS, hp, h0, h4]))
    case true =>
      refine W.oEq rfl rfl rfl h0 ?_
      refine W.o1 rfl rfl rfl ?_
      refine W.o1 rfl rfl rfl ?_
      try simp only [putDst,T.set,T.get,evA,tagS,e0,e1,e2,e3,e4,List.replicate,e5,e6,e7,e8,e9,e10,e11,e12,Nat.reduceAdd,agg,V.cells,splice,e13,e14,e15,e16]
      refine W.o1 rfl rfl rfl ?_
      refine W.o1 rfl rfl rfl ?_
      refine W.o1 rfl rfl rfl ?_
      try simp only [putDst,T.set,T.get,evA,tagS,e0,e1,e2,e3,e4,List.replicate,e5,e6,e7,e8,e9,e10,e11,e12,Nat.reduceAdd,agg,V.cells,splice,e13,e14,e15,e16]
      have h1 : (w == w) = true := by simp
      refine W.oEq rfl rfl rfl h1 ?_
      refine W.o1 rfl rfl rfl ?_
      refine W.o1 rfl rfl rfl ?_
      refine W.o1 rfl rfl rfl ?_
      try simp only [putDst,T.set,T.get,evA,tagS,e0,e1,e2,e3,e4,List.replicate,e5,e6,e7,e8,e9,e10,e11,e12,Nat.reduceAdd,agg,V.cells,splice,e13,e14,e15,e16]
      refine W.o1 rfl rfl rfl ?_
      refine W.o1 rfl rfl rfl ?_
      refine W.o1 rfl rfl rfl ?_
      try simp only [putDst,T.set,T.get,evA,tagS,e0,e1,e2,e3,e4,List.replicate,e5,e6,e7,e8,e9,e10,e11,e12,Nat.reduceAdd,agg,V.cells,splice,e13,e14,e15,e16]
      have h2 : (a == a) = true := by simp
      refine W.oEq rfl rfl rfl h2 ?_
      refine W.o1 rfl rfl rfl ?_
      refine W.o1 rfl rfl rfl ?_
      refine W.o1 rfl rfl rfl ?_
      try simp only [putDst,T.set,T.get,evA,tagS,e0,e1,e2,e3,e4,List.replicate,e5,e6,e7,e8,e9,e10,e11,e12,Nat.reduceAdd,agg,V.cells,splice,e13,e14,e15,e16]
      refine W.o1 rfl rfl rfl ?_
      refine W.o1 rfl rfl rfl ?_
      refine W.o1 rfl rfl rfl ?_
      try simp only [putDst,T.set,T.get,evA,tagS,e0,e1,e2,e3,e4,List.replicate,e5,e6,e7,e8,e9,e10,e11,e12,Nat.reduceAdd,agg,V.cells,splice,e13,e14,e15,e16]
      refine W.o1 rfl rfl rfl ?_
      refine W.o1 rfl rfl rfl ?_
      have h3 : (d1 == d1) = true := by simp
      refine W.oEq rfl rfl rfl h3 ?_
      refine W.o1 rfl rfl rfl ?_
      try simp only [putDst,T.set,T.get,evA,tagS,e0,e1,e2,e3,e4,List.replicate,e5,e6,e7,e8,e9,e10,e11,e12,Nat.reduceAdd,agg,V.cells,splice,e13,e14,e15,e16]
      refine W.o1 rfl rfl rfl ?_
      refine W.oNil ?_
      show W _ (.ev _ _) _
      try simp only [putDst,T.set,T.get,evA,tagS,e0,e1,e2,e3,e4,List.replicate,e5,e6,e7,e8,e9,e10,e11,e12,Nat.reduceAdd,agg,V.cells,splice,e13,e14,e15,e16]
      refine W.seq' ?_
      refine W.seq' ?_
      refine W.ops1 ?_
      refine W.o1 rfl rfl rfl ?_
      refine W.o1 rfl rfl rfl ?_
      try simp only [putDst,T.set,T.get,evA,tagS,e0,e1,e2,e3,e4,List.replicate,e5,e6,e7,e8,e9,e10,e11,e12,Nat.reduceAdd,agg,V.cells,splice,e13,e14,e15,e16]
      cases h4 : (K1 wh == 1)
      case false =>
        refine W.oEq rfl rfl rfl h4 ?_
        refine W.o1 rfl rfl rfl ?_
        refine W.o1 rfl rfl rfl ?_
        refine W.o1 rfl rfl rfl ?_
        try simp only [putDst,T.set,T.get,evA,tagS,e0,e1,e2,e3,e4,List.replicate,e5,e6,e7,e8,e9,e10,e11,e12,Nat.reduceAdd,agg,V.cells,splice,e13,e14,e15,e16]
        cases h5 : (K1 wh == 2)
        case false =>
          refine W.oEq rfl rfl rfl h5 ?_
          refine W.o1 rfl rfl rfl ?_
          refine W.oNil ?_
          show W _ (.ev _ _) _
          try simp only [putDst,T.set,T.get,evA,tagS,e0,e1,e2,e3,e4,List.replicate,e5,e6,e7,e8,e9,e10,e11,e12,Nat.reduceAdd,agg,V.cells,splice,e13,e14,e15,e16]
          refine W.condF rfl ?_
          refine W.skip ?_
          show W _ (.ev _ _) _
          exact fin _ _ _ _ _ _ _ _ _ _ _ _ _ _ _ _ _ _ _ _ _ true rfl rfl rfl rfl rfl rfl (K1_ok hwh) (K2_ok hwh) hw ha hb hd1 hd2 hw ha hb' hd1 hd2' (txt_pos _ _ _ _ _ _) (txt_pos _ _ _ _ _ _) ((txt_law (K1_ok hwh) (K2_ok hwh)).trans (by simp [lawS, hp, h0, h4, h5]))
        case true =>
          refine W.oEq rfl rfl rfl h5 ?_
          refine W.o1 rfl rfl rfl ?_
          refine W.oNil ?_
          show W _ (.ev _ _) _
          try simp only [putDst,T.set,T.get,evA,tagS,e0,e1,e2,e3,e4,List.replicate,e5,e6,e7,e8,e9,e10,e11,e12,Nat.reduceAdd,agg,V.cells,splice,e13,e14,e15,e16]
          refine W.condT rfl ?_
          refine W.ops1 ?_
          refine W.o1 rfl rfl rfl ?_
          try simp only [putDst,T.set,T.get,evA,tagS,e0,e1,e2,e3,e4,List.replicate,e5,e6,e7,e8,e9,e10,e11,e12,Nat.reduceAdd,agg,V.cells,splice,e13,e14,e15,e16]
          refine W.o1 rfl rfl rfl ?_
          refine W.o1 rfl rfl rfl ?_
          refine W.o1 rfl rfl rfl ?_
          try simp only [putDst,T.set,T.get,evA,tagS,e0,e1,e2,e3,e4,List.replicate,e5,e6,e7,e8,e9,e10,e11,e12,Nat.reduceAdd,agg,V.cells,splice,e13,e14,e15,e16]
          refine W.o1 rfl rfl rfl ?_
          refine W.o1 rfl rfl rfl ?_
          cases h6 : (b == b')
          case false =>
            refine W.oEq rfl rfl rfl h6 ?_
            refine W.o1 rfl rfl rfl ?_
            try simp only [putDst,T.set,T.get,evA,tagS,e0,e1,e2,e3,e4,List.replicate,e5,e6,e7,e8,e9,e10,e11,e12,Nat.reduceAdd,agg,V.cells,splice,e13,e14,e15,e16]
            refine W.o1 rfl rfl rfl ?_
            refine W.osSkip rfl ?_
            refine W.osSkip rfl ?_
            try simp only [putDst,T.set,T.get,evA,tagS,e0,e1,e2,e3,e4,List.replicate,e5,e6,e7,e8,e9,e10,e11,e12,Nat.reduceAdd,agg,V.cells,splice,e13,e14,e15,e16]
            refine W.osSkip rfl ?_
            refine W.osSkip rfl ?_
            refine W.osSkip rfl ?_
            try simp only [putDst,T.set,T.get,evA,tagS,e0,e1,e2,e3,e4,List.replicate,e5,e6,e7,e8,e9,e10,e11,e12,Nat.reduceAdd,agg,V.cells,splice,e13,e14,e15,e16]
            refine W.osSkip rfl ?_
            refine W.osSkip rfl ?_
            refine W.o1 rfl rfl rfl ?_
            try simp only [putDst,T.set,T.get,evA,tagS,e0,e1,e2,e3,e4,List.replicate,e5,e6,e7,e8,e9,e10,e11,e12,Nat.reduceAdd,agg,V.cells,splice,e13,e14,e15,e16]
            refine W.o1 rfl rfl rfl ?_
            refine W.oNil ?_
            show W _ (.ev _ _) _
            try simp only [putDst,T.set,T.get,evA,tagS,e0,e1,e2,e3,e4,List.replicate,e5,e6,e7,e8,e9,e10,e11,e12,Nat.reduceAdd,agg,V.cells,splice,e13,e14,e15,e16]
            exact fin _ _ _ _ _ _ _ _ _ _ _ _ _ _ _ _ _ _ _ _ _ false rfl rfl rfl rfl rfl rfl (K1_ok hwh) (K2_ok hwh) hw ha hb hd1 hd2 hw ha hb' hd1 hd2' (txt_pos _ _ _ _ _ _) (txt_pos _ _ _ _ _ _) ((txt_law (K1_ok hwh) (K2_ok hwh)).trans (by simp [lawS, hp, h0, h4, h5, h6]))
          case true =>
            refine W.oEq rfl rfl rfl h6 ?_
            refine W.o1 rfl rfl rfl ?_
            refine W.o1 rfl rfl rfl ?_
            try simp only [putDst,T.set,T.get,evA,tagS,e0,e1,e2,e3,e4,List.replicate,e5,e6,e7,e8,e9,e10,e11,e12,Nat.reduceAdd,agg,V.cells,splice,e13,e14,e15,e16]
            refine W.o1 rfl rfl rfl ?_
            refine W.o1 rfl rfl rfl ?_
            refine W.o1 rfl rfl rfl ?_
            try simp only [putDst,T.set,T.get,evA,tagS,e0,e1,e2,e3,e4,List.replicate,e5,e6,e7,e8,e9,e10,e11,e12,Nat.reduceAdd,agg,V.cells,splice,e13,e14,e15,e16]
            refine W.o1 rfl rfl rfl ?_
            refine W.o1 rfl rfl rfl ?_
            refine W.o1 rfl rfl rfl ?_
            try simp only [putDst,T.set,T.get,evA,tagS,e0,e1,e2,e3,e4,List.replicate,e5,e6,e7,e8,e9,e10,e11,e12,Nat.reduceAdd,agg,V.cells,splice,e13,e14,e15,e16]
            cases h7 : (d2 == d2')
            case false =>
              refine W.oEq rfl rfl rfl h7 ?_
              refine W.o1 rfl rfl rfl ?_
              refine W.o1 rfl rfl rfl ?_
              refine W.oNil ?_
              show W _ (.ev _ _) _
              try simp only [putDst,T.set,T.get,evA,tagS,e0,e1,e2,e3,e4,List.replicate,e5,e6,e7,e8,e9,e10,e11,e12,Nat.reduceAdd,agg,V.cells,splice,e13,e14,e15,e16]
              exact fin _ _ _ _ _ _ _ _ _ _ _ _ _ _ _ _ _ _ _ _ _ false rfl rfl rfl rfl rfl rfl (K1_ok hwh) (K2_ok hwh) hw ha hb hd1 hd2 hw ha hb' hd1 hd2' (txt_pos _ _ _ _ _ _) (txt_pos _ _ _ _ _ _) ((txt_law (K1_ok hwh) (K2_ok hwh)).trans (by simp [lawS, hp, h0, h4, h5, h6, h7]))
            case true =>
              refine W.oEq rfl rfl rfl h7 ?_
              refine W.o1 rfl rfl rfl ?_
              try simp only [putDst,T.set,T.get,evA,tagS,e0,e1,e2,e3,e4,List.replicate,e5,e6,e7,e8,e9,e10,e11,e12,Nat.reduceAdd,agg,V.cells,splice,e13,e14,e15,e16]
              refine W.o1 rfl rfl rfl ?_
              refine W.oNil ?_
              show W _ (.ev _ _) _
              try simp only [putDst,T.set,T.get,evA,tagS,e0,e1,e2,e3,e4,List.replicate,e5,e6,e7,e8,e9,e10,e11,e12,Nat.reduceAdd,agg,V.cells,splice,e13,e14,e15,e16]
              exact fin _ _ _ _ _ _ _ _ _ _ _ _ _ _ _ _ _ _ _ _ _ true rfl rfl rfl rfl rfl rfl (K1_ok hwh) (K2_ok hwh) hw ha hb hd1 hd2 hw ha hb' hd1 hd2' (txt_pos _ _ _ _ _ _) (txt_pos _ _ _ _ _ _) ((txt_law (K1_ok hwh) (K2_ok hwh)).trans (by simp [lawS, hp, h0, h4, h5, h6, h7]))
      case true =>
        refine W.oEq rfl rfl rfl h4 ?_
        refine W.o1 rfl rfl rfl ?_
        refine W.osSkip rfl ?_
        try simp only [putDst,T.set,T.get,evA,tagS,e0,e1,e2,e3,e4,List.replicate,e5,e6,e7,e8,e9,e10,e11,e12,Nat.reduceAdd,agg,V.cells,splice,e13,e14,e15,e16]
        refine W.osSkip rfl ?_
        refine W.osSkip rfl ?_
        refine W.o1 rfl rfl rfl ?_
        try simp only [putDst,T.set,T.get,evA,tagS,e0,e1,e2,e3,e4,List.replicate,e5,e6,e7,e8,e9,e10,e11,e12,Nat.reduceAdd,agg,V.cells,splice,e13,e14,e15,e16]
        refine W.oNil ?_
        show W _ (.ev _ _) _
        try simp only [putDst,T.set,T.get,evA,tagS,e0,e1,e2,e3,e4,List.replicate,e5,e6,e7,e8,e9,e10,e11,e12,Nat.reduceAdd,agg,V.cells,splice,e13,e14,e15,e16]
        refine W.condT rfl ?_
        refine W.ops1 ?_
        refine W.o1 rfl rfl rfl ?_
        refine W.o1 rfl rfl rfl ?_
        refine W.o1 rfl rfl rfl ?_
        try simp only [putDst,T.set,T.get,evA,tagS,e0,e1,e2,e3,e4,List.replicate,e5,e6,e7,e8,e9,e10,e11,e12,Nat.reduceAdd,agg,V.cells,splice,e13,e14,e15,e16]
        refine W.o1 rfl rfl rfl ?_
        refine W.o1 rfl rfl rfl ?_
        refine W.o1 rfl rfl rfl ?_
        try simp only [putDst,T.set,T.get,evA,tagS,e0,e1,e2,e3,e4,List.replicate,e5,e6,e7,e8,e9,e10,e11,e12,Nat.reduceAdd,agg,V.cells,splice,e13,e14,e15,e16]
        cases h6 : (b == b')
        case false =>
          refine W.oEq rfl rfl rfl h6 ?_
          refine W.o1 rfl rfl rfl ?_
          refine W.o1 rfl rfl rfl ?_
          refine W.osSkip rfl ?_
          try simp only [putDst,T.set,T.get,evA,tagS,e0,e1,e2,e3,e4,List.replicate,e5,e6,e7,e8,e9,e10,e11,e12,Nat.reduceAdd,agg,V.cells,splice,e13,e14,e15,e16]
          refine W.osSkip rfl ?_
          refine W.osSkip rfl ?_
          refine W.osSkip rfl ?_
          try simp only [putDst,T.set,T.get,evA,tagS,e0,e1,e2,e3,e4,List.replicate,e5,e6,e7,e8,e9,e10,e11,e12,Nat.reduceAdd,agg,V.cells,splice,e13,e14,e15,e16]
          refine W.osSkip rfl ?_
          refine W.osSkip rfl ?_
          refine W.osSkip rfl ?_
          try simp only [putDst,T.set,T.get,evA,tagS,e0,e1,e2,e3,e4,List.replicate,e5,e6,e7,e8,e9,e10,e11,e12,Nat.reduceAdd,agg,V.cells,splice,e13,e14,e15,e16]
          refine W.o1 rfl rfl rfl ?_
          refine W.o1 rfl rfl rfl ?_
          refine W.oNil ?_
          show W _ (.ev _ _) _
          try simp only [putDst,T.set,T.get,evA,tagS,e0,e1,e2,e3,e4,List.replicate,e5,e6,e7,e8,e9,e10,e11,e12,Nat.reduceAdd,agg,V.cells,splice,e13,e14,e15,e16]
          exact fin _ _ _ _ _ _ _ _ _ _ _ _ _ _ _ _ _ _ _ _ _ false rfl rfl rfl rfl rfl rfl (K1_ok hwh) (K2_ok hwh) hw ha hb hd1 hd2 hw ha hb' hd1 hd2' (txt_pos _ _ _ _ _ _) (txt_pos _ _ _ _ _ _) ((txt_law (K1_ok hwh) (K2_ok hwh)).trans (by simp [lawS, hp, h0, h4, h6]))
        case true =>
          refine W.oEq rfl rfl rfl h6 ?_
          refine W.o1 rfl rfl rfl ?_
          try simp only [putDst,T.set,T.get,evA,tagS,e0,e1,e2,e3,e4,List.replicate,e5,e6,e7,e8,e9,e10,e11,e12,Nat.reduceAdd,agg,V.cells,splice,e13,e14,e15,e16]
          refine W.o1 rfl rfl rfl ?_
          refine W.o1 rfl rfl rfl ?_
          refine W.o1 rfl rfl rfl ?_
          try simp only [putDst,T.set,T.get,evA,tagS,e0,e1,e2,e3,e4,List.replicate,e5,e6,e7,e8,e9,e10,e11,e12,Nat.reduceAdd,agg,V.cells,splice,e13,e14,e15,e16]
          refine W.o1 rfl rfl rfl ?_
          refine W.o1 rfl rfl rfl ?_
          refine W.o1 rfl rfl rfl ?_
          try simp only [putDst,T.set,T.get,evA,tagS,e0,e1,e2,e3,e4,List.replicate,e5,e6,e7,e8,e9,e10,e11,e12,Nat.reduceAdd,agg,V.cells,splice,e13,e14,e15,e16]
          refine W.o1 rfl rfl rfl ?_
          cases h7 : (d2 == d2')
          case false =>
            refine W.oEq rfl rfl rfl h7 ?_
            refine W.o1 rfl rfl rfl ?_
            refine W.o1 rfl rfl rfl ?_
            try simp only [putDst,T.set,T.get,evA,tagS,e0,e1,e2,e3,e4,List.replicate,e5,e6,e7,e8,e9,e10,e11,e12,Nat.reduceAdd,agg,V.cells,splice,e13,e14,e15,e16]
            refine W.oNil ?_
            show W _ (.ev _ _) _
            try simp only [putDst,T.set,T.get,evA,tagS,e0,e1,e2,e3,e4,List.replicate,e5,e6,e7,e8,e9,e10,e11,e12,Nat.reduceAdd,agg,V.cells,splice,e13,e14,e15,e16]
            exact fin _ _ _ _ _ _ _ _ _ _ _ _ _ _ _ _ _ _ _ _ _ false rfl rfl rfl rfl rfl rfl (K1_ok hwh) (K2_ok hwh) hw ha hb hd1 hd2 hw ha hb' hd1 hd2' (txt_pos _ _ _ _ _ _) (txt_pos _ _ _ _ _ _) ((txt_law (K1_ok hwh) (K2_ok hwh)).trans (by simp [lawS, hp, h0, h4, h6, h7]))
          case true =>
            refine W.oEq rfl rfl rfl h7 ?_
            refine W.o1 rfl rfl rfl ?_
            refine W.o1 rfl rfl rfl ?_
            refine W.oNil ?_
            show W _ (.ev _ _) _
            try simp only [putDst,T.set,T.get,evA,tagS,e0,e1,e2,e3,e4,List.replicate,e5,e6,e7,e8,e9,e10,e11,e12,Nat.reduceAdd,agg,V.cells,splice,e13,e14,e15,e16]
            exact fin _ _ _ _ _ _ _ _ _ _ _ _ _ _ _ _ _ _ _ _ _ true rfl rfl rfl rfl rfl rfl (K1_ok hwh) (K2_ok hwh) hw ha hb hd1 hd2 hw ha hb' hd1 hd2' (txt_pos _ _ _ _ _ _) (txt_pos _ _ _ _ _ _) ((txt_law (K1_ok hwh) (K2_ok hwh)).trans (by simp [lawS, hp, h0, h4, h6, h7]))
end Go.S32
