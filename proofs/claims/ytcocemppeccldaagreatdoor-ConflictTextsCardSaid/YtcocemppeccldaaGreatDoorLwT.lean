/- What conflict.Text makes of a conflict, by a walk over its abstract code. -/
import Derived.Test.YtcocemppeccldaaGreatDoorMem
import Derived.Test.YtcocemppeccldaaGreatDoorItb
import Derived.Test.YtcocemppeccldaaGreatDoorAiF
import Derived.Lib.ItoaLen
import Derived.KernelRfl
set_option linter.unusedVariables false
set_option linter.unusedSimpArgs false
set_option maxRecDepth 100000
namespace Go.S32
open Go Go.Ai

def Et : Env := ⟨E.fn, E.mode, fun f => if f = 15 then some itoaP else lookM memo 18 f⟩

theorem call15 (n : Int) (hn : inR n = true) (k : Nat) (h : Hp) : callL Et (k + 1) 15 [.int .i64 n] h = some [(.str (its n), h)] := by
  have e : primL Et 15 [.int .i64 n] = some (.str (its n)) := by simp [primL, Et, itoaP, hn]
  have f : mapO (Ai.freeze h deep) [.int .i64 n] = some [.int .i64 n] := by simp [mapO, Ai.freeze, frz, deep]
  have m : Et.mode 15 = .snap := rfl
  simp only [callL, m, f, e, scal, if_true]
theorem inv15 (n : Int) (hn : inR n = true) (k : Nat) (h : Hp) : invL Et (k + 2) (.fn 15 [] []) [.int .i64 n] h = some [(.str (its n), h)] := by
  simp [invL, call15, hn]
theorem inv15d (n : Int) (hn : inR n = true) (h : Hp) : invE Et 9 (.fn 15 [] []) [.int .i64 n] h = some (.str (its n), h) := by
  simp only [invE, inv15 n hn 7 h, one?]
theorem bsz (l : List UInt8) : (byts l).size = l.length := by simp [byts, ByteArray.size]
theorem its_size {n : Int} (h : inR n = true) : (its n).size ≤ 21 := by
  simp only [inR, Bool.and_eq_true, decide_eq_true_eq] at h
  have := Go.Lib.itoa_length_le n h.1 h.2
  simpa [its, ByteArray.size] using this
set_option maxHeartbeats 1000000
def txt1 (w a b d1 d2 : Int) : ByteArray := (((((((((byts [114, 111, 111, 109, 32] ++ (its w ++ byts [58, 32, 109, 101, 101, 116, 105, 110, 103])) ++ byts [115, 32]) ++ its a) ++ byts [32, 97, 110, 100, 32]) ++ its b) ++ byts [32, 111, 118, 101, 114, 108, 97, 112, 32, 111, 110, 32, 100, 97, 121, 115, 32]) ++ its d1) ++ byts [32, 97, 110, 100, 32]) ++ its d2)
theorem text1 (w a b d1 f1 t1 d2 f2 t2 : Int) (hw : inR w = true) (sw : (its w).size ≤ 21) (ha : inR a = true) (sa : (its a).size ≤ 21) (hb : inR b = true) (sb : (its b).size ≤ 21) (hd1 : inR d1 = true) (sd1 : (its d1).size ≤ 21) (hd2 : inR d2 = true) (sd2 : (its d2).size ≤ 21) :
    W Et (.ev rf5.body { t := [.agg [.int .i64 1, .int .i64 w, .int .i64 a, .int .i64 b, .int .i64 d1, .int .i64 f1, .int .i64 t1, .int .i64 d2, .int .i64 f2, .int .i64 t2]], h := [] }) (runQ rf5 fun o => ∃ h, o = .vh (.str (txt1 w a b d1 d2)) h) := by
  show W Et (.ev (.seq _ _) _) _
  refine W.seq' ?_
  refine W.ops1 ?_
  refine W.o1 rfl rfl rfl ?_
  refine W.o1 rfl rfl rfl ?_
  refine W.oNil ?_
  show W _ (.ev _ _) _
  refine W.seq' ?_
  refine W.ops1 ?_
  refine W.o1 rfl rfl rfl ?_
  refine W.oNil ?_
  show W _ (.ev _ _) _
  refine W.seq' ?_
  refine W.seq' ?_
  refine W.ops1 ?_
  refine W.o1 rfl rfl rfl ?_
  refine W.o1 rfl rfl rfl ?_
  refine W.o1 rfl rfl rfl ?_
  refine W.oNil ?_
  show W _ (.ev _ _) _
  refine W.condF rfl ?_
  refine W.skip ?_
  show W _ (.ev _ _) _
  refine W.seq' ?_
  refine W.ops1 ?_
  refine W.o1 rfl rfl rfl ?_
  refine W.oNil ?_
  show W _ (.ev _ _) _
  refine W.seq' ?_
  refine W.ops1 ?_
  refine W.o1 rfl rfl rfl ?_
  refine W.o1 rfl rfl rfl ?_
  refine W.o1 rfl rfl rfl ?_
  refine W.o1 rfl rfl rfl ?_
  refine W.oInv (n := 9) (v := .str (its w)) (h := _) rfl rfl rfl (inv15 w hw 7 _) ?_
  refine W.oStr rfl rfl rfl (by simp only [ByteArray.size_append, bsz, List.length_cons, List.length_nil]; omega) ?_
  refine W.oStr rfl rfl rfl (by simp only [ByteArray.size_append, bsz, List.length_cons, List.length_nil]; omega) ?_
  refine W.o1 rfl rfl rfl ?_
  refine W.oNil ?_
  show W _ (.ev _ _) _
  refine W.seq' ?_
  refine W.seq' ?_
  refine W.ops1 ?_
  refine W.o1 rfl rfl rfl ?_
  refine W.o1 rfl rfl rfl ?_
  refine W.oNil ?_
  show W _ (.ev _ _) _
  refine W.block' ?_
  refine W.seq' ?_
  refine W.seq' ?_
  refine W.ops1 ?_
  refine W.o1 rfl rfl rfl ?_
  refine W.o1 rfl rfl rfl ?_
  refine W.oNil ?_
  show W _ (.ev _ _) _
  refine W.condT rfl ?_
  refine W.skip ?_
  show W _ (.ev _ _) _
  refine W.condT rfl ?_
  refine W.seq' ?_
  refine W.dops1 9 ?_
  dsimp only [putDst, T.set, T.get, evA, tagS, List.getD_cons_zero, List.getD_cons_succ, List.append_nil, List.replicate]
  refine Go.Ai.d1 rfl rfl rfl ?_
  refine dStr rfl rfl rfl (by simp only [ByteArray.size_append, bsz, List.length_cons, List.length_nil]; omega) ?_
  refine Go.Ai.d1 rfl rfl rfl ?_
  refine Go.Ai.d1 rfl rfl rfl ?_
  refine Go.Ai.d1 rfl rfl rfl ?_
  refine dInv (v := .str (its a)) (h := _) rfl rfl rfl rfl (inv15d a ha _) ?_
  refine dStr rfl rfl rfl (by simp only [ByteArray.size_append, bsz, List.length_cons, List.length_nil]; omega) ?_
  refine dStr rfl rfl rfl (by simp only [ByteArray.size_append, bsz, List.length_cons, List.length_nil]; omega) ?_
  dsimp only [putDst, T.set, T.get, evA, tagS, List.getD_cons_zero, List.getD_cons_succ, List.append_nil, List.replicate]
  refine Go.Ai.d1 rfl rfl rfl ?_
  refine Go.Ai.d1 rfl rfl rfl ?_
  refine Go.Ai.d1 rfl rfl rfl ?_
  refine dInv (v := .str (its b)) (h := _) rfl rfl rfl rfl (inv15d b hb _) ?_
  refine dStr rfl rfl rfl (by simp only [ByteArray.size_append, bsz, List.length_cons, List.length_nil]; omega) ?_
  refine dStr rfl rfl rfl (by simp only [ByteArray.size_append, bsz, List.length_cons, List.length_nil]; omega) ?_
  dsimp only [putDst, T.set, T.get, evA, tagS, List.getD_cons_zero, List.getD_cons_succ, List.append_nil, List.replicate]
  refine Go.Ai.d1 rfl rfl rfl ?_
  refine Go.Ai.d1 rfl rfl rfl ?_
  refine Go.Ai.d1 rfl rfl rfl ?_
  refine Go.Ai.d1 rfl rfl rfl ?_
  refine dInv (v := .str (its d1)) (h := _) rfl rfl rfl rfl (inv15d d1 hd1 _) ?_
  refine dStr rfl rfl rfl (by simp only [ByteArray.size_append, bsz, List.length_cons, List.length_nil]; omega) ?_
  refine dStr rfl rfl rfl (by simp only [ByteArray.size_append, bsz, List.length_cons, List.length_nil]; omega) ?_
  dsimp only [putDst, T.set, T.get, evA, tagS, List.getD_cons_zero, List.getD_cons_succ, List.append_nil, List.replicate]
  refine Go.Ai.d1 rfl rfl rfl ?_
  refine Go.Ai.d1 rfl rfl rfl ?_
  refine Go.Ai.d1 rfl rfl rfl ?_
  refine Go.Ai.d1 rfl rfl rfl ?_
  refine dInv (v := .str (its d2)) (h := _) rfl rfl rfl rfl (inv15d d2 hd2 _) ?_
  refine dStr rfl rfl rfl (by simp only [ByteArray.size_append, bsz, List.length_cons, List.length_nil]; omega) ?_
  refine Go.Ai.d1 rfl rfl rfl ?_
  refine dNil ⟨rfl, ?_⟩
  show W _ (.ev _ _) _
  refine W.ret ?_
  exact ⟨_, _, rfl, _, rfl⟩
def txt2 (w a b d1 d2 : Int) : ByteArray := (((((((((byts [112, 101, 114, 115, 111, 110, 32] ++ (its w ++ byts [58, 32, 109, 101, 101, 116, 105, 110, 103])) ++ byts [115, 32]) ++ its a) ++ byts [32, 97, 110, 100, 32]) ++ its b) ++ byts [32, 111, 118, 101, 114, 108, 97, 112, 32, 111, 110, 32, 100, 97, 121, 115, 32]) ++ its d1) ++ byts [32, 97, 110, 100, 32]) ++ its d2)
theorem text2 (w a b d1 f1 t1 d2 f2 t2 : Int) (hw : inR w = true) (sw : (its w).size ≤ 21) (ha : inR a = true) (sa : (its a).size ≤ 21) (hb : inR b = true) (sb : (its b).size ≤ 21) (hd1 : inR d1 = true) (sd1 : (its d1).size ≤ 21) (hd2 : inR d2 = true) (sd2 : (its d2).size ≤ 21) :
    W Et (.ev rf5.body { t := [.agg [.int .i64 2, .int .i64 w, .int .i64 a, .int .i64 b, .int .i64 d1, .int .i64 f1, .int .i64 t1, .int .i64 d2, .int .i64 f2, .int .i64 t2]], h := [] }) (runQ rf5 fun o => ∃ h, o = .vh (.str (txt2 w a b d1 d2)) h) := by
  show W Et (.ev (.seq _ _) _) _
  refine W.seq' ?_
  refine W.ops1 ?_
  refine W.o1 rfl rfl rfl ?_
  refine W.o1 rfl rfl rfl ?_
  refine W.oNil ?_
  show W _ (.ev _ _) _
  refine W.seq' ?_
  refine W.ops1 ?_
  refine W.o1 rfl rfl rfl ?_
  refine W.oNil ?_
  show W _ (.ev _ _) _
  refine W.seq' ?_
  refine W.seq' ?_
  refine W.ops1 ?_
  refine W.o1 rfl rfl rfl ?_
  refine W.o1 rfl rfl rfl ?_
  refine W.o1 rfl rfl rfl ?_
  refine W.oNil ?_
  show W _ (.ev _ _) _
  refine W.condT rfl ?_
  refine W.ops1 ?_
  refine W.o1 rfl rfl rfl ?_
  refine W.oNil ?_
  show W _ (.ev _ _) _
  refine W.seq' ?_
  refine W.ops1 ?_
  refine W.o1 rfl rfl rfl ?_
  refine W.oNil ?_
  show W _ (.ev _ _) _
  refine W.seq' ?_
  refine W.ops1 ?_
  refine W.o1 rfl rfl rfl ?_
  refine W.o1 rfl rfl rfl ?_
  refine W.o1 rfl rfl rfl ?_
  refine W.o1 rfl rfl rfl ?_
  refine W.oInv (n := 9) (v := .str (its w)) (h := _) rfl rfl rfl (inv15 w hw 7 _) ?_
  refine W.oStr rfl rfl rfl (by simp only [ByteArray.size_append, bsz, List.length_cons, List.length_nil]; omega) ?_
  refine W.oStr rfl rfl rfl (by simp only [ByteArray.size_append, bsz, List.length_cons, List.length_nil]; omega) ?_
  refine W.o1 rfl rfl rfl ?_
  refine W.oNil ?_
  show W _ (.ev _ _) _
  refine W.seq' ?_
  refine W.seq' ?_
  refine W.ops1 ?_
  refine W.o1 rfl rfl rfl ?_
  refine W.o1 rfl rfl rfl ?_
  refine W.oNil ?_
  show W _ (.ev _ _) _
  refine W.block' ?_
  refine W.seq' ?_
  refine W.seq' ?_
  refine W.ops1 ?_
  refine W.o1 rfl rfl rfl ?_
  refine W.o1 rfl rfl rfl ?_
  refine W.oNil ?_
  show W _ (.ev _ _) _
  refine W.condF rfl ?_
  refine W.ops1 ?_
  refine W.o1 rfl rfl rfl ?_
  refine W.o1 rfl rfl rfl ?_
  refine W.oNil ?_
  show W _ (.ev _ _) _
  refine W.condT rfl ?_
  refine W.seq' ?_
  refine W.dops1 9 ?_
  dsimp only [putDst, T.set, T.get, evA, tagS, List.getD_cons_zero, List.getD_cons_succ, List.append_nil, List.replicate]
  refine Go.Ai.d1 rfl rfl rfl ?_
  refine dStr rfl rfl rfl (by simp only [ByteArray.size_append, bsz, List.length_cons, List.length_nil]; omega) ?_
  refine Go.Ai.d1 rfl rfl rfl ?_
  refine Go.Ai.d1 rfl rfl rfl ?_
  refine Go.Ai.d1 rfl rfl rfl ?_
  refine dInv (v := .str (its a)) (h := _) rfl rfl rfl rfl (inv15d a ha _) ?_
  refine dStr rfl rfl rfl (by simp only [ByteArray.size_append, bsz, List.length_cons, List.length_nil]; omega) ?_
  refine dStr rfl rfl rfl (by simp only [ByteArray.size_append, bsz, List.length_cons, List.length_nil]; omega) ?_
  dsimp only [putDst, T.set, T.get, evA, tagS, List.getD_cons_zero, List.getD_cons_succ, List.append_nil, List.replicate]
  refine Go.Ai.d1 rfl rfl rfl ?_
  refine Go.Ai.d1 rfl rfl rfl ?_
  refine Go.Ai.d1 rfl rfl rfl ?_
  refine dInv (v := .str (its b)) (h := _) rfl rfl rfl rfl (inv15d b hb _) ?_
  refine dStr rfl rfl rfl (by simp only [ByteArray.size_append, bsz, List.length_cons, List.length_nil]; omega) ?_
  refine dStr rfl rfl rfl (by simp only [ByteArray.size_append, bsz, List.length_cons, List.length_nil]; omega) ?_
  dsimp only [putDst, T.set, T.get, evA, tagS, List.getD_cons_zero, List.getD_cons_succ, List.append_nil, List.replicate]
  refine Go.Ai.d1 rfl rfl rfl ?_
  refine Go.Ai.d1 rfl rfl rfl ?_
  refine Go.Ai.d1 rfl rfl rfl ?_
  refine Go.Ai.d1 rfl rfl rfl ?_
  refine dInv (v := .str (its d1)) (h := _) rfl rfl rfl rfl (inv15d d1 hd1 _) ?_
  refine dStr rfl rfl rfl (by simp only [ByteArray.size_append, bsz, List.length_cons, List.length_nil]; omega) ?_
  refine dStr rfl rfl rfl (by simp only [ByteArray.size_append, bsz, List.length_cons, List.length_nil]; omega) ?_
  dsimp only [putDst, T.set, T.get, evA, tagS, List.getD_cons_zero, List.getD_cons_succ, List.append_nil, List.replicate]
  refine Go.Ai.d1 rfl rfl rfl ?_
  refine Go.Ai.d1 rfl rfl rfl ?_
  refine Go.Ai.d1 rfl rfl rfl ?_
  refine Go.Ai.d1 rfl rfl rfl ?_
  refine dInv (v := .str (its d2)) (h := _) rfl rfl rfl rfl (inv15d d2 hd2 _) ?_
  refine dStr rfl rfl rfl (by simp only [ByteArray.size_append, bsz, List.length_cons, List.length_nil]; omega) ?_
  refine Go.Ai.d1 rfl rfl rfl ?_
  refine dNil ⟨rfl, ?_⟩
  show W _ (.ev _ _) _
  refine W.ret ?_
  exact ⟨_, _, rfl, _, rfl⟩
def txt3 (w a b d1 d2 : Int) : ByteArray := (((((byts [114, 111, 111, 109, 32] ++ (its w ++ byts [58, 32, 109, 101, 101, 116, 105, 110, 103])) ++ byts [32]) ++ its a) ++ byts [32, 105, 115, 32, 111, 117, 116, 115, 105, 100, 101, 32, 111, 102, 32, 116, 104, 101, 32, 111, 112, 101, 110, 105, 110, 103, 32, 104, 111, 117, 114, 115, 32, 111, 110, 32, 100, 97, 121, 32]) ++ its d1)
theorem text3 (w a b d1 f1 t1 d2 f2 t2 : Int) (hw : inR w = true) (sw : (its w).size ≤ 21) (ha : inR a = true) (sa : (its a).size ≤ 21) (hb : inR b = true) (sb : (its b).size ≤ 21) (hd1 : inR d1 = true) (sd1 : (its d1).size ≤ 21) (hd2 : inR d2 = true) (sd2 : (its d2).size ≤ 21) :
    W Et (.ev rf5.body { t := [.agg [.int .i64 3, .int .i64 w, .int .i64 a, .int .i64 b, .int .i64 d1, .int .i64 f1, .int .i64 t1, .int .i64 d2, .int .i64 f2, .int .i64 t2]], h := [] }) (runQ rf5 fun o => ∃ h, o = .vh (.str (txt3 w a b d1 d2)) h) := by
  show W Et (.ev (.seq _ _) _) _
  refine W.seq' ?_
  refine W.ops1 ?_
  refine W.o1 rfl rfl rfl ?_
  refine W.o1 rfl rfl rfl ?_
  refine W.oNil ?_
  show W _ (.ev _ _) _
  refine W.seq' ?_
  refine W.ops1 ?_
  refine W.o1 rfl rfl rfl ?_
  refine W.oNil ?_
  show W _ (.ev _ _) _
  refine W.seq' ?_
  refine W.seq' ?_
  refine W.ops1 ?_
  refine W.o1 rfl rfl rfl ?_
  refine W.o1 rfl rfl rfl ?_
  refine W.o1 rfl rfl rfl ?_
  refine W.oNil ?_
  show W _ (.ev _ _) _
  refine W.condF rfl ?_
  refine W.skip ?_
  show W _ (.ev _ _) _
  refine W.seq' ?_
  refine W.ops1 ?_
  refine W.o1 rfl rfl rfl ?_
  refine W.oNil ?_
  show W _ (.ev _ _) _
  refine W.seq' ?_
  refine W.ops1 ?_
  refine W.o1 rfl rfl rfl ?_
  refine W.o1 rfl rfl rfl ?_
  refine W.o1 rfl rfl rfl ?_
  refine W.o1 rfl rfl rfl ?_
  refine W.oInv (n := 9) (v := .str (its w)) (h := _) rfl rfl rfl (inv15 w hw 7 _) ?_
  refine W.oStr rfl rfl rfl (by simp only [ByteArray.size_append, bsz, List.length_cons, List.length_nil]; omega) ?_
  refine W.oStr rfl rfl rfl (by simp only [ByteArray.size_append, bsz, List.length_cons, List.length_nil]; omega) ?_
  refine W.o1 rfl rfl rfl ?_
  refine W.oNil ?_
  show W _ (.ev _ _) _
  refine W.seq' ?_
  refine W.seq' ?_
  refine W.ops1 ?_
  refine W.o1 rfl rfl rfl ?_
  refine W.o1 rfl rfl rfl ?_
  refine W.oNil ?_
  show W _ (.ev _ _) _
  refine W.block' ?_
  refine W.seq' ?_
  refine W.seq' ?_
  refine W.ops1 ?_
  refine W.o1 rfl rfl rfl ?_
  refine W.o1 rfl rfl rfl ?_
  refine W.oNil ?_
  show W _ (.ev _ _) _
  refine W.condF rfl ?_
  refine W.ops1 ?_
  refine W.o1 rfl rfl rfl ?_
  refine W.o1 rfl rfl rfl ?_
  refine W.oNil ?_
  show W _ (.ev _ _) _
  refine W.condF rfl ?_
  refine W.seq' ?_
  refine W.ops1 ?_
  refine W.o1 rfl rfl rfl ?_
  refine W.o1 rfl rfl rfl ?_
  refine W.oNil ?_
  show W _ (.ev _ _) _
  refine W.condT rfl ?_
  refine W.seq' ?_
  refine W.dops1 9 ?_
  refine Go.Ai.d1 rfl rfl rfl ?_
  refine dStr rfl rfl rfl (by simp only [ByteArray.size_append, bsz, List.length_cons, List.length_nil]; omega) ?_
  refine Go.Ai.d1 rfl rfl rfl ?_
  refine Go.Ai.d1 rfl rfl rfl ?_
  refine Go.Ai.d1 rfl rfl rfl ?_
  refine dInv (v := .str (its a)) (h := _) rfl rfl rfl rfl (inv15d a ha _) ?_
  refine dStr rfl rfl rfl (by simp only [ByteArray.size_append, bsz, List.length_cons, List.length_nil]; omega) ?_
  refine dStr rfl rfl rfl (by simp only [ByteArray.size_append, bsz, List.length_cons, List.length_nil]; omega) ?_
  refine Go.Ai.d1 rfl rfl rfl ?_
  refine Go.Ai.d1 rfl rfl rfl ?_
  refine Go.Ai.d1 rfl rfl rfl ?_
  refine Go.Ai.d1 rfl rfl rfl ?_
  refine dInv (v := .str (its d1)) (h := _) rfl rfl rfl rfl (inv15d d1 hd1 _) ?_
  refine dStr rfl rfl rfl (by simp only [ByteArray.size_append, bsz, List.length_cons, List.length_nil]; omega) ?_
  refine Go.Ai.d1 rfl rfl rfl ?_
  refine dNil ⟨rfl, ?_⟩
  show W _ (.ev _ _) _
  refine W.ret ?_
  exact ⟨_, _, rfl, _, rfl⟩
def txt4 (w a b d1 d2 : Int) : ByteArray := (((((byts [114, 111, 111, 109, 32] ++ (its w ++ byts [58, 32, 109, 101, 101, 116, 105, 110, 103])) ++ byts [32]) ++ its a) ++ byts [32, 101, 120, 99, 101, 101, 100, 115, 32, 97, 32, 113, 117, 111, 116, 97, 32, 111, 110, 32, 100, 97, 121, 32]) ++ its d1)
theorem text4 (w a b d1 f1 t1 d2 f2 t2 : Int) (hw : inR w = true) (sw : (its w).size ≤ 21) (ha : inR a = true) (sa : (its a).size ≤ 21) (hb : inR b = true) (sb : (its b).size ≤ 21) (hd1 : inR d1 = true) (sd1 : (its d1).size ≤ 21) (hd2 : inR d2 = true) (sd2 : (its d2).size ≤ 21) :
    W Et (.ev rf5.body { t := [.agg [.int .i64 4, .int .i64 w, .int .i64 a, .int .i64 b, .int .i64 d1, .int .i64 f1, .int .i64 t1, .int .i64 d2, .int .i64 f2, .int .i64 t2]], h := [] }) (runQ rf5 fun o => ∃ h, o = .vh (.str (txt4 w a b d1 d2)) h) := by
  show W Et (.ev (.seq _ _) _) _
  refine W.seq' ?_
  refine W.ops1 ?_
  refine W.o1 rfl rfl rfl ?_
  refine W.o1 rfl rfl rfl ?_
  refine W.oNil ?_
  show W _ (.ev _ _) _
  refine W.seq' ?_
  refine W.ops1 ?_
  refine W.o1 rfl rfl rfl ?_
  refine W.oNil ?_
  show W _ (.ev _ _) _
  refine W.seq' ?_
  refine W.seq' ?_
  refine W.ops1 ?_
  refine W.o1 rfl rfl rfl ?_
  refine W.o1 rfl rfl rfl ?_
  refine W.o1 rfl rfl rfl ?_
  refine W.oNil ?_
  show W _ (.ev _ _) _
  refine W.condF rfl ?_
  refine W.skip ?_
  show W _ (.ev _ _) _
  refine W.seq' ?_
  refine W.ops1 ?_
  refine W.o1 rfl rfl rfl ?_
  refine W.oNil ?_
  show W _ (.ev _ _) _
  refine W.seq' ?_
  refine W.ops1 ?_
  refine W.o1 rfl rfl rfl ?_
  refine W.o1 rfl rfl rfl ?_
  refine W.o1 rfl rfl rfl ?_
  refine W.o1 rfl rfl rfl ?_
  refine W.oInv (n := 9) (v := .str (its w)) (h := _) rfl rfl rfl (inv15 w hw 7 _) ?_
  refine W.oStr rfl rfl rfl (by simp only [ByteArray.size_append, bsz, List.length_cons, List.length_nil]; omega) ?_
  refine W.oStr rfl rfl rfl (by simp only [ByteArray.size_append, bsz, List.length_cons, List.length_nil]; omega) ?_
  refine W.o1 rfl rfl rfl ?_
  refine W.oNil ?_
  show W _ (.ev _ _) _
  refine W.seq' ?_
  refine W.seq' ?_
  refine W.ops1 ?_
  refine W.o1 rfl rfl rfl ?_
  refine W.o1 rfl rfl rfl ?_
  refine W.oNil ?_
  show W _ (.ev _ _) _
  refine W.block' ?_
  refine W.seq' ?_
  refine W.seq' ?_
  refine W.ops1 ?_
  refine W.o1 rfl rfl rfl ?_
  refine W.o1 rfl rfl rfl ?_
  refine W.oNil ?_
  show W _ (.ev _ _) _
  refine W.condF rfl ?_
  refine W.ops1 ?_
  refine W.o1 rfl rfl rfl ?_
  refine W.o1 rfl rfl rfl ?_
  refine W.oNil ?_
  show W _ (.ev _ _) _
  refine W.condF rfl ?_
  refine W.seq' ?_
  refine W.ops1 ?_
  refine W.o1 rfl rfl rfl ?_
  refine W.o1 rfl rfl rfl ?_
  refine W.oNil ?_
  show W _ (.ev _ _) _
  refine W.condF rfl ?_
  refine W.seq' ?_
  refine W.ops1 ?_
  refine W.o1 rfl rfl rfl ?_
  refine W.o1 rfl rfl rfl ?_
  refine W.oNil ?_
  show W _ (.ev _ _) _
  refine W.condT rfl ?_
  refine W.seq' ?_
  refine W.dops1 9 ?_
  refine Go.Ai.d1 rfl rfl rfl ?_
  refine dStr rfl rfl rfl (by simp only [ByteArray.size_append, bsz, List.length_cons, List.length_nil]; omega) ?_
  refine Go.Ai.d1 rfl rfl rfl ?_
  refine Go.Ai.d1 rfl rfl rfl ?_
  refine Go.Ai.d1 rfl rfl rfl ?_
  refine dInv (v := .str (its a)) (h := _) rfl rfl rfl rfl (inv15d a ha _) ?_
  refine dStr rfl rfl rfl (by simp only [ByteArray.size_append, bsz, List.length_cons, List.length_nil]; omega) ?_
  refine dStr rfl rfl rfl (by simp only [ByteArray.size_append, bsz, List.length_cons, List.length_nil]; omega) ?_
  refine Go.Ai.d1 rfl rfl rfl ?_
  refine Go.Ai.d1 rfl rfl rfl ?_
  refine Go.Ai.d1 rfl rfl rfl ?_
  refine Go.Ai.d1 rfl rfl rfl ?_
  refine dInv (v := .str (its d1)) (h := _) rfl rfl rfl rfl (inv15d d1 hd1 _) ?_
  refine dStr rfl rfl rfl (by simp only [ByteArray.size_append, bsz, List.length_cons, List.length_nil]; omega) ?_
  refine Go.Ai.d1 rfl rfl rfl ?_
  refine dNil ⟨rfl, ?_⟩
  show W _ (.ev _ _) _
  refine W.ret ?_
  exact ⟨_, _, rfl, _, rfl⟩

end Go.S32
