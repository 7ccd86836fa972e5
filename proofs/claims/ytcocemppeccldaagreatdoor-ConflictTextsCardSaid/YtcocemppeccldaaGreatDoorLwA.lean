/- The call of conflict.Text in a drawn region, and the end of the law. -/
import Derived.Test.YtcocemppeccldaaGreatDoorLwT
set_option linter.unusedVariables false
set_option linter.unusedSimpArgs false
set_option maxRecDepth 100000
namespace Go.S32
open Go Go.Ai
set_option maxHeartbeats 1000000
/-- the text of a conflict -/
def txtK (k w a b d1 d2 : Int) : ByteArray := if k = 1 then txt1 w a b d1 d2 else if k = 2 then txt2 w a b d1 d2 else if k = 3 then txt3 w a b d1 d2 else txt4 w a b d1 d2

def agg (k w a b d1 f1 t1 d2 f2 t2 : Int) : V := .agg [.int .i64 k, .int .i64 w, .int .i64 a, .int .i64 b, .int .i64 d1, .int .i64 f1, .int .i64 t1, .int .i64 d2, .int .i64 f2, .int .i64 t2]

theorem textK (k w a b d1 f1 t1 d2 f2 t2 : Int) (hk : k = 1 ∨ k = 2 ∨ k = 3 ∨ k = 4) (hw : inR w = true) (ha : inR a = true) (hb : inR b = true) (h1 : inR d1 = true) (h2 : inR d2 = true) (h : Hp) :
    W Et (.inv (.fn 5 [] []) [agg k w a b d1 f1 t1 d2 f2 t2] h) (fun o => o = .vh (.str (txtK k w a b d1 d2)) h) := by
  refine .fn ?_
  have m : Et.mode 5 = .snap := rfl
  have hfz : mapO (Ai.freeze h deep) ([] ++ [agg k w a b d1 f1 t1 d2 f2 t2] ++ []) = some [agg k w a b d1 f1 t1 d2 f2 t2] := by simp [agg, mapO, Ai.freeze, frz, frzs, deep]
  refine .snap m hfz (R := fun o => ∃ h1, o = .vh (.str (txtK k w a b d1 d2)) h1) (W.run' (rf := rf5) rfl (by show 1 ≤ 79; omega) ?_) ?_
  · rcases hk with rfl | rfl | rfl | rfl
    · exact text1 w a b d1 f1 t1 d2 f2 t2 hw (its_size hw) ha (its_size ha) hb (its_size hb) h1 (its_size h1) h2 (its_size h2)
    · exact text2 w a b d1 f1 t1 d2 f2 t2 hw (its_size hw) ha (its_size ha) hb (its_size hb) h1 (its_size h1) h2 (its_size h2)
    · exact text3 w a b d1 f1 t1 d2 f2 t2 hw (its_size hw) ha (its_size ha) hb (its_size hb) h1 (its_size h1) h2 (its_size h2)
    · exact text4 w a b d1 f1 t1 d2 f2 t2 hw (its_size hw) ha (its_size ha) hb (its_size hb) h1 (its_size h1) h2 (its_size h2)
  · rintro u h1 ⟨h2, e⟩
    cases e
    refine ⟨by simp [fresh, deep], _, ?_, rfl⟩
    simp [Ai.freeze, frz, deep]

def okK (k : Int) : Bool := decide (k = 1) || decide (k = 2) || decide (k = 3) || decide (k = 4)
def textP : List V → Option V
  | [.agg [.int .i64 k, .int .i64 w, .int .i64 a, .int .i64 b, .int .i64 d1, .int .i64 _, .int .i64 _, .int .i64 d2, .int .i64 _, .int .i64 _]] =>
    if okK k = true ∧ inR w = true ∧ inR a = true ∧ inR b = true ∧ inR d1 = true ∧ inR d2 = true then some (.str (txtK k w a b d1 d2)) else none
  | _ => none
def invT : V → List V → Hp → Option (V × Hp)
  | .fn 5 [] [], args, h => match textP args with
    | some v => some (v, h)
    | none => none
  | _, _, _ => none

theorem invT_some {fv : V} {args : List V} {h : Hp} {v : V} {h' : Hp} (e : invT fv args h = some (v, h')) : fv = .fn 5 [] [] ∧ textP args = some v ∧ h' = h := by
  unfold invT at e
  split at e
  · split at e
    · rename_i u hu; cases e; exact ⟨rfl, hu, rfl⟩
    · cases e
  · cases e

theorem invT_mk {args : List V} {v : V} (e : textP args = some v) (h : Hp) : invT (.fn 5 [] []) args h = some (v, h) := by simp only [invT, e]

theorem invT_ok : CallOK invT Et.md := by
  refine ⟨fun f first caps xs v H H1 _ h => ?_, fun f first caps xs v H H1 hm h => ?_⟩
  · obtain ⟨e1, e2, e3⟩ := invT_some h
    cases e1
    exact ⟨e3, fun H' _ => invT_mk e2 H'⟩
  · obtain ⟨e1, e2, e3⟩ := invT_some h
    cases e1
    cases hm

theorem invT_W (fv : V) (args : List V) (h : Hp) (v : V) (h' : Hp) (e : invT fv args h = some (v, h')) : W Et (.inv fv args h) (fun o => o = .vh v h') := by
  obtain ⟨e1, e2, e3⟩ := invT_some e
  subst e1 e3
  unfold textP at e2
  split at e2
  · rename_i k w a b d1 f1 t1 d2 f2 t2
    obtain ⟨⟨hk, hw, ha, hb, h1, h2⟩, e2⟩ := ite_none_some e2
    cases e2
    exact textK k w a b d1 f1 t1 d2 f2 t2 (by simpa [okK, or_assoc] using hk) hw ha hb h1 h2 h'
  · cases e2

theorem san (h : Hp) : invL Et 9 (.fn 4 [] []) [] h = some [(.bool true, h)] := by
  have e : primL Et 4 [] = some (.bool true) := by kernel_rfl
  have f : mapO (Ai.freeze h deep) [] = some [] := rfl
  have m : Et.mode 4 = .snap := rfl
  simp only [invL, callL, List.append_nil, m, f, e, scal, if_true]

theorem W.oEq {E : Env} {base : Nat} {l : List Ro} {s : St} {Q : Out → Prop} {k : IntKind} {a b : Int} {r : Bool} {x y : A} {d : Option Nat} {g : Option (Nat × Bool)} (hw : wanted s.t g = true) (hx : evA s.t x = .int k a) (hy : evA s.t y = .int k b)
    (hr : (a == b) = r) (hq : W E (.os base l { s with t := putDst s.t d (.bool r) }) Q) : W E (.os base (⟨d, .bin .eql x y, g⟩ :: l) s) Q :=
  W.o1 (v := .bool r) (h := s.h) hw rfl (by simp [exM, exOp, hx, hy, exBin, binInt, cmpInt, hr]) hq

theorem W.oGt {E : Env} {base : Nat} {l : List Ro} {s : St} {Q : Out → Prop} {k : IntKind} {a b : Int} {r : Bool} {x y : A} {d : Option Nat} {g : Option (Nat × Bool)} (hw : wanted s.t g = true) (hx : evA s.t x = .int k a) (hy : evA s.t y = .int k b)
    (hr : decide (a > b) = r) (hq : W E (.os base l { s with t := putDst s.t d (.bool r) }) Q) : W E (.os base (⟨d, .bin .gtr x y, g⟩ :: l) s) Q :=
  W.o1 (v := .bool r) (h := s.h) hw rfl (by simp only [exM, exOp, hx, hy, exBin, binInt, cmpInt, if_true, Option.map]; rw [← hr]) hq

theorem W.oSeq {E : Env} {base : Nat} {l : List Ro} {s : St} {Q : Out → Prop} {a b : ByteArray} {r : Bool} {x y : A} {d : Option Nat} {g : Option (Nat × Bool)} (hw : wanted s.t g = true) (hx : evA s.t x = .str a) (hy : evA s.t y = .str b)
    (hr : (a.toList == b.toList) = r) (hq : W E (.os base l { s with t := putDst s.t d (.bool r) }) Q) : W E (.os base (⟨d, .bin .eql x y, g⟩ :: l) s) Q :=
  W.o1 (v := .bool r) (h := s.h) hw rfl (by simp [exM, exOp, hx, hy, exBin, strOp, hr]) hq

def K1 (wh : Int) : Int := IntKind.i64.wrap (1 + IntKind.i64.wrap (wh.tmod 4))
def K2 (wh : Int) : Int := IntKind.i64.wrap (1 + IntKind.i64.wrap ((IntKind.u8.wrap (wh.tdiv 4)).tmod 4))

def finRC : RC := .seq (
.dops [] 0 [⟨(some 90), .load true 10 (.t 3), none⟩,
  ⟨(some 91), .call (.c (.fn 5 [] [])) [(.t 90)], none⟩,
  ⟨(some 92), .load true 10 (.t 4), none⟩,
  ⟨(some 93), .call (.c (.fn 5 [] [])) [(.t 92)], none⟩,
  ⟨(some 9), .mov (.t 91), none⟩,
  ⟨(some 10), .mov (.t 93), none⟩] []) (
.seq (
.ops [] [⟨(some 94), .mov (.t 9), none⟩,
  ⟨(some 95), .lenS (.t 94), none⟩,
  ⟨(some 96), .bin .gtr (.t 95) (.c (.int .i64 0)), none⟩,
  ⟨(some 97), .mov (.t 96), none⟩,
  ⟨(some 98), .mov (.t 10), (some (97, true))⟩,
  ⟨(some 99), .lenS (.t 98), (some (97, true))⟩,
  ⟨(some 100), .bin .gtr (.t 99) (.c (.int .i64 0)), (some (97, true))⟩,
  ⟨(some 101), .pick (.t 97) (.t 100) (.c (.bool false)), none⟩,
  ⟨(some 102), .mov (.t 101), none⟩,
  ⟨(some 103), .mov (.t 9), (some (102, true))⟩,
  ⟨(some 104), .mov (.t 10), (some (102, true))⟩,
  ⟨(some 105), .bin .eql (.t 103) (.t 104), (some (102, true))⟩,
  ⟨(some 106), .mov (.t 8), (some (102, true))⟩,
  ⟨(some 107), .beq false (.t 105) (.t 106), (some (102, true))⟩,
  ⟨(some 108), .pick (.t 102) (.t 107) (.c (.bool false)), none⟩,
  ⟨(some 109), .mov (.t 108), none⟩,
  ⟨(some 110), .mov (.t 7), (some (109, true))⟩,
  ⟨(some 111), .pick (.t 109) (.t 110) (.c (.bool false)), none⟩,
  ⟨(some 6), .mov (.t 111), none⟩]) (
.ret))

def lawS (k1 w a b d1 d2 k2 w' a' b' d1' d2' : Int) : Bool := (k1 == k2 && (w == w' && (a == a' && d1 == d1'))) && (if (k1 == 1 || k1 == 2) = true then b == b' && d2 == d2' else true)

theorem W.dopsI {E : Env} {s : St} {Q : Out → Prop} {l : List Ro} {fz : List Nat} {k : Nat} {chk : List (Nat × Nat)} {inv : V → List V → Hp → Option (V × Hp)} (hc : CallOK inv E.md)
    (hi : ∀ fv args h v h', inv fv args h = some (v, h') → W E (.inv fv args h) (fun o => o = .vh v h'))
    (h : DQ inv (tagS fz s).h.length l { tagS fz s with h := (tagS fz s).h ++ List.replicate k .none_ } fun s' => chkOk s'.t l chk = true ∧ Q (.ex .normal s')) : W E (.ev (.dops fz k l chk) s) Q :=
  let ⟨_, h1, h2, h3⟩ := h
  .dops inv hc hi h1 h2 h3

theorem fin (s : St) (k1 w a b d1 f1 t1 d2 f2 t2 k2 w' a' b' d1' f1' t1' d2' f2' t2' : Int) (same : Bool) (g3 : T.get s.t 3 = .ptr 0 (some 10) 0 0 1) (g4 : T.get s.t 4 = .ptr 1 (some 10) 0 0 1)
    (g7 : T.get s.t 7 = .bool true) (g8 : T.get s.t 8 = .bool same) (gh : s.h = [.arr (some 10) [agg k1 w a b d1 f1 t1 d2 f2 t2], .arr (some 10) [agg k2 w' a' b' d1' f1' t1' d2' f2' t2']]) (hm : s.m = [])
    (ok1 : okK k1 = true) (ok2 : okK k2 = true) (hw : inR w = true) (ha : inR a = true) (hb : inR b = true) (hd1 : inR d1 = true) (hd2 : inR d2 = true)
    (hw' : inR w' = true) (ha' : inR a' = true) (hb' : inR b' = true) (hd1' : inR d1' = true) (hd2' : inR d2' = true)
    (p1 : decide (((txtK k1 w a b d1 d2).size : Int) > 0) = true) (p2 : decide (((txtK k2 w' a' b' d1' d2').size : Int) > 0) = true)
    (law : ((txtK k1 w a b d1 d2).toList == (txtK k2 w' a' b' d1' d2').toList) = same) :
    W Et (.ev finRC s) (runQ rf3 fun o => ∃ h, o = .vh (.bool true) h) := by
  generalize hS1 : txtK k1 w a b d1 d2 = S1 at p1 law
  generalize hS2 : txtK k2 w' a' b' d1' d2' = S2 at p2 law
  have q1 : textP [agg k1 w a b d1 f1 t1 d2 f2 t2] = some (.str S1) := by simp [textP, agg, ok1, hw, ha, hb, hd1, hd2, hS1]
  have q2 : textP [agg k2 w' a' b' d1' f1' t1' d2' f2' t2'] = some (.str S2) := by simp [textP, agg, ok2, hw', ha', hb', hd1', hd2', hS2]
  obtain ⟨t, h, m, rd⟩ := s
  simp only at g3 g4 g7 g8 gh hm
  subst gh hm
  refine W.seq' (W.dopsI invT_ok invT_W ?_)
  simp only [tagS, List.replicate, List.append_nil]
  refine Go.Ai.d1 (v := agg k1 w a b d1 f1 t1 d2 f2 t2) (h := _) rfl rfl (by simp [exOp, evA, g3, arrAt, loadE] <;> rfl) ?_
  refine dInv (v := .str S1) (h := _) (fv := .fn 5 [] []) (xs := [agg k1 w a b d1 f1 t1 d2 f2 t2]) rfl rfl rfl (by simp [evA, putDst, T.get_set]) (invT_mk q1 _) ?_
  refine Go.Ai.d1 (v := agg k2 w' a' b' d1' f1' t1' d2' f2' t2') (h := _) rfl rfl (by simp [exOp, evA, putDst, T.get_set, g4, arrAt, loadE] <;> rfl) ?_
  refine dInv (v := .str S2) (h := _) (fv := .fn 5 [] []) (xs := [agg k2 w' a' b' d1' f1' t1' d2' f2' t2']) rfl rfl rfl (by simp [evA, putDst, T.get_set]) (invT_mk q2 _) ?_
  refine Go.Ai.d1 (v := .str S1) (h := _) rfl rfl (by simp [exOp, evA, putDst, T.get_set] <;> rfl) ?_
  refine Go.Ai.d1 (v := .str S2) (h := _) rfl rfl (by simp [exOp, evA, putDst, T.get_set] <;> rfl) ?_
  refine dNil ⟨rfl, ?_⟩
  show W _ (.ev _ _) _
  simp only [putDst]
  generalize ht : T.set (T.set (T.set (T.set (T.set (T.set t 90 (agg k1 w a b d1 f1 t1 d2 f2 t2)) 91 (V.str S1)) 92 (agg k2 w' a' b' d1' f1' t1' d2' f2' t2')) 93 (V.str S2)) 9 (V.str S1)) 10 (V.str S2) = u
  have u9 : T.get u 9 = .str S1 := by rw [← ht]; simp [T.get_set]
  have u10 : T.get u 10 = .str S2 := by rw [← ht]; simp [T.get_set]
  have u7 : T.get u 7 = .bool true := by rw [← ht]; simp [T.get_set, g7]
  have u8 : T.get u 8 = .bool same := by rw [← ht]; simp [T.get_set, g8]
  clear ht
  refine W.seq' (W.ops1 ?_)
  simp only [tagS]
  refine W.o1 (v := .str S1) (h := _) (by simp [wanted, putDst, T.get_set]) rfl (by simp [exM, exOp, evA, putDst, T.get_set, u9, u10, u7, u8] <;> rfl) ?_
  refine W.o1 (v := .int .i64 (S1.size : Int)) (h := _) (by simp [wanted, putDst, T.get_set]) rfl (by simp [exM, exOp, evA, putDst, T.get_set, u9, u10, u7, u8] <;> rfl) ?_
  refine W.oGt (r := true) (by simp [wanted, putDst, T.get_set]) (by simp [evA, putDst, T.get_set] <;> rfl) rfl p1 ?_
  refine W.o1 (v := .bool true) (h := _) (by simp [wanted, putDst, T.get_set]) rfl (by simp [exM, exOp, evA, putDst, T.get_set, u9, u10, u7, u8] <;> rfl) ?_
  refine W.o1 (v := .str S2) (h := _) (by simp [wanted, putDst, T.get_set]) rfl (by simp [exM, exOp, evA, putDst, T.get_set, u9, u10, u7, u8] <;> rfl) ?_
  refine W.o1 (v := .int .i64 (S2.size : Int)) (h := _) (by simp [wanted, putDst, T.get_set]) rfl (by simp [exM, exOp, evA, putDst, T.get_set, u9, u10, u7, u8] <;> rfl) ?_
  refine W.oGt (r := true) (by simp [wanted, putDst, T.get_set]) (by simp [evA, putDst, T.get_set] <;> rfl) rfl p2 ?_
  refine W.o1 (v := .bool true) (h := _) (by simp [wanted, putDst, T.get_set]) rfl (by simp [exM, exOp, evA, putDst, T.get_set, u9, u10, u7, u8] <;> rfl) ?_
  refine W.o1 (v := .bool true) (h := _) (by simp [wanted, putDst, T.get_set]) rfl (by simp [exM, exOp, evA, putDst, T.get_set, u9, u10, u7, u8] <;> rfl) ?_
  refine W.o1 (v := .str S1) (h := _) (by simp [wanted, putDst, T.get_set]) rfl (by simp [exM, exOp, evA, putDst, T.get_set, u9, u10, u7, u8] <;> rfl) ?_
  refine W.o1 (v := .str S2) (h := _) (by simp [wanted, putDst, T.get_set]) rfl (by simp [exM, exOp, evA, putDst, T.get_set, u9, u10, u7, u8] <;> rfl) ?_
  refine W.oSeq (r := same) (by simp [wanted, putDst, T.get_set]) (by simp [evA, putDst, T.get_set] <;> rfl) (by simp [evA, putDst, T.get_set] <;> rfl) law ?_
  refine W.o1 (v := .bool same) (h := _) (by simp [wanted, putDst, T.get_set]) rfl (by simp [exM, exOp, evA, putDst, T.get_set, u9, u10, u7, u8] <;> rfl) ?_
  refine W.o1 (v := .bool true) (h := _) (by simp [wanted, putDst, T.get_set]) rfl (by simp [exM, exOp, evA, putDst, T.get_set, u9, u10, u7, u8] <;> rfl) ?_
  refine W.o1 (v := .bool true) (h := _) (by simp [wanted, putDst, T.get_set]) rfl (by simp [exM, exOp, evA, putDst, T.get_set, u9, u10, u7, u8] <;> rfl) ?_
  refine W.o1 (v := .bool true) (h := _) (by simp [wanted, putDst, T.get_set]) rfl (by simp [exM, exOp, evA, putDst, T.get_set, u9, u10, u7, u8] <;> rfl) ?_
  refine W.o1 (v := .bool true) (h := _) (by simp [wanted, putDst, T.get_set]) rfl (by simp [exM, exOp, evA, putDst, T.get_set, u9, u10, u7, u8] <;> rfl) ?_
  refine W.o1 (v := .bool true) (h := _) (by simp [wanted, putDst, T.get_set]) rfl (by simp [exM, exOp, evA, putDst, T.get_set, u9, u10, u7, u8] <;> rfl) ?_
  refine W.o1 (v := .bool true) (h := _) (by simp [wanted, putDst, T.get_set]) rfl (by simp [exM, exOp, evA, putDst, T.get_set, u9, u10, u7, u8] <;> rfl) ?_
  refine W.oNil ?_
  show W _ (.ev _ _) _
  refine W.ret ?_
  exact ⟨.bool true, _, by simp [endRun, rf3, mapO, getRes, putDst, T.get_set, takes, Ai.one]; rfl, _, rfl⟩
end Go.S32
