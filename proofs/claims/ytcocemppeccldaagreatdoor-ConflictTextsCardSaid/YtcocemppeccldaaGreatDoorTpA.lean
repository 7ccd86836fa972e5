/- The law's call returns true in the model, from every world that holds the table of powers of ten. -/
import Derived.Test.YtcocemppeccldaaGreatDoorAll
import Derived.Test.YtcocemppeccldaaGreatDoorLwB
import Derived.Test.YtcocemppeccldaaGreatDoorLy0
import Derived.Test.YtcocemppeccldaaGreatDoorLy1
import Derived.Test.YtcocemppeccldaaGreatDoorLy2
import Derived.Test.YtcocemppeccldaaGreatDoorLy3
import Derived.Test.YtcocemppeccldaaGreatDoorLy4
import Derived.Test.YtcocemppeccldaaGreatDoorLy5
import Derived.Test.YtcocemppeccldaaGreatDoorItb
set_option linter.unusedVariables false
set_option linter.unusedSimpArgs false
set_option maxRecDepth 100000
namespace Go.S32
open Go Go.Ai Go.RowKit Go.Proofs

theorem mixed : Tryz.prog.follows .mixedOrders = true := by kernel_rfl
theorem fnok : ∀ f rf, E.fn f = some rf → compF Tryz.prog (fun f => some (E.mode f)) live f = some rf := fun _ _ h => Bt.all_get all h
theorem kn0 : Known Tryz.prog E.fn E.mode live F0 memo 0 := known_zero _
theorem kn1 : Known Tryz.prog E.fn E.mode live F0 memo 1 := known_succ mixed fnok kn0 (Bt.allB_all lay0)
theorem kn2 : Known Tryz.prog E.fn E.mode live F0 memo 2 := known_succ mixed fnok kn1 (Bt.allB_all lay1)
theorem kn3 : Known Tryz.prog E.fn E.mode live F0 memo 3 := known_succ mixed fnok kn2 (Bt.allB_all lay2)
theorem kn4 : Known Tryz.prog E.fn E.mode live F0 memo 4 := known_succ mixed fnok kn3 (Bt.allB_all lay3)
theorem kn5 : Known Tryz.prog E.fn E.mode live F0 memo 5 := known_succ mixed fnok kn4 (Bt.allB_all lay4)
theorem kn6 : Known Tryz.prog E.fn E.mode live F0 memo 6 := known_succ mixed fnok kn5 (Bt.allB_all lay5)
theorem kn7 : Known Tryz.prog E.fn E.mode live F0 memo 7 := known_succ mixed fnok kn6 (Bt.allB_all lay6)
theorem kn8 : Known Tryz.prog E.fn E.mode live F0 memo 8 := known_succ mixed fnok kn7 (Bt.allB_all lay7)
theorem kn9 : Known Tryz.prog E.fn E.mode live F0 memo 9 := known_succ mixed fnok kn8 (Bt.allB_all lay8)
theorem kn10 : Known Tryz.prog E.fn E.mode live F0 memo 10 := known_succ mixed fnok kn9 (Bt.allB_all lay9)
theorem kn11 : Known Tryz.prog E.fn E.mode live F0 memo 11 := known_succ mixed fnok kn10 (Bt.allB_all lay10)
theorem kn12 : Known Tryz.prog E.fn E.mode live F0 memo 12 := known_succ mixed fnok kn11 (Bt.allB_all lay11)
theorem kn13 : Known Tryz.prog E.fn E.mode live F0 memo 13 := known_succ mixed fnok kn12 (Bt.allB_all lay12)
theorem kn14 : Known Tryz.prog E.fn E.mode live F0 memo 14 := known_succ mixed fnok kn13 (Bt.allB_all lay13)
theorem kn15 : Known Tryz.prog E.fn E.mode live F0 memo 15 := known_succ mixed fnok kn14 (Bt.allB_all lay14)
theorem kn16 : Known Tryz.prog E.fn E.mode live F0 memo 16 := known_succ mixed fnok kn15 (Bt.allB_all lay15)
theorem kn17 : Known Tryz.prog E.fn E.mode live F0 memo 17 := known_succ mixed fnok kn16 (Bt.allB_all lay16)
theorem kn18 : Known Tryz.prog E.fn E.mode live F0 memo 18 := known_succ mixed fnok kn17 (Bt.allB_all lay17)

noncomputable def Xt : Ctx := ⟨Tryz.prog, Et, live, F0⟩

theorem Xt_ok : Xt.OK := by
  have h := ctx_ok (F0 := F0) mixed fnok kn18
  refine ⟨mixed, fnok, fun f p hp => ?_⟩
  simp only [Xt, Et] at hp
  split at hp
  · rename_i e
    subst e
    cases hp
    exact itoa_ok rfl rfl
  · have := h.prim f p hp
    intro args v hv
    have k : PrimOK1 (ctx Tryz.prog E.fn E.mode live (lookM memo 18) F0) f args v := this args v hv
    exact PrimOK1.other (X := ctx Tryz.prog E.fn E.mode live (lookM memo 18) F0) (X' := Xt) rfl rfl k

theorem VRel.cell {F : Fz} {k : IntKind} (n : Int) : VRel Phi.none F (.int k n) (.int k n) := .int k n

/-- the law's call -/
theorem calls (wh k w a b d1 f1 t1 d2 f2 t2 k' w' a' b' d1' f1' t1' d2' f2' t2' : Int) (hwh : 0 ≤ wh ∧ wh ≤ 255) (hw : inR w = true) (ha : inR a = true) (hb : inR b = true) (hd1 : inR d1 = true) (hd2 : inR d2 = true)
    (hw' : inR w' = true) (ha' : inR a' = true) (hb' : inR b' = true) (hd1' : inR d1' = true) (hd2' : inR d2' = true) (W : World)
    (htab : Lib.TabIs Tryz.prog W "internal/strconv.uint64pow10" .u64 Lib.pow10Tab) :
    Calls Tryz.prog 3 #[.agg #[.int .i64 k, .int .i64 w, .int .i64 a, .int .i64 b, .int .i64 d1, .int .i64 f1, .int .i64 t1, .int .i64 d2, .int .i64 f2, .int .i64 t2],
      .agg #[.int .i64 k', .int .i64 w', .int .i64 a', .int .i64 b', .int .i64 d1', .int .i64 f1', .int .i64 t1', .int .i64 d2', .int .i64 f2', .int .i64 t2'], .int .u8 wh] W
      fun e W' => e = .returned (.bool true) ∧ Below W.heap.size W W' := by
  have hF : ∀ b fo, F0 b = some fo → ∃ c, W.heap[b]? = some c ∧ FRel fo c := by
    intro b fo h
    simp only [F0] at h
    obtain ⟨hb, h⟩ := ite_none_some h
    cases h
    subst hb
    unfold Lib.TabIs World.var? at htab
    rw [gTab_eq] at htab
    simp only [Option.bind_some] at htab
    split at htab
    · rename_i cs T fr hc
      simp only [Option.some.injEq] at htab
      exact ⟨_, hc, cs, T, fr, rfl, by rw [htab]⟩
    · cases htab
  have S : Sim Xt W.heap.size Phi.none F0 [] W := Sim.empty hF (Fz.le.refl _)
  have hwk := law_walk wh k w a b d1 f1 t1 d2 f2 t2 k' w' a' b' d1' f1' t1' d2' f2' t2' hwh hw ha hb hd1 hd2 hw' ha' hb' hd1' hd2'
  have hr : Ai.W Xt.E (.run 3 [agg k w a b d1 f1 t1 d2 f2 t2, agg k' w' a' b' d1' f1' t1' d2' f2' t2', .int .u8 wh] []) (fun o => ∃ h, o = .vh (.bool true) h) :=
    Ai.W.run' (rf := rf3) rfl (by show 3 ≤ 112; omega) hwk
  have hs := soundW Xt_ok hr W.heap.size Phi.none F0 W #[.agg #[.int .i64 k, .int .i64 w, .int .i64 a, .int .i64 b, .int .i64 d1, .int .i64 f1, .int .i64 t1, .int .i64 d2, .int .i64 f2, .int .i64 t2],
      .agg #[.int .i64 k', .int .i64 w', .int .i64 a', .int .i64 b', .int .i64 d1', .int .i64 f1', .int .i64 t1', .int .i64 d2', .int .i64 f2', .int .i64 t2'], .int .u8 wh] S ?_
  · intro cs
    obtain ⟨v, H', ⟨h, e⟩, φ', F', w', x, fr, k1, k2, k3, k4, _, k6⟩ := hs.2 cs
    cases e
    have hx := k4.bool_inv
    subst hx
    exact ⟨_, w', fr, ⟨rfl, k6.b⟩, k1, k2, k3⟩
  · have hagg : ∀ (p0 p1 p2 p3 p4 p5 p6 p7 p8 p9 : Int), VRel Phi.none F0 (agg p0 p1 p2 p3 p4 p5 p6 p7 p8 p9) (.agg #[.int .i64 p0, .int .i64 p1, .int .i64 p2, .int .i64 p3, .int .i64 p4, .int .i64 p5, .int .i64 p6, .int .i64 p7, .int .i64 p8, .int .i64 p9]) := by
      intro p0 p1 p2 p3 p4 p5 p6 p7 p8 p9
      refine .agg _ _ rfl (fun j hj => ?_) fun j hj hj' => ?_
      · match j, hj with
        | 0, _ | 1, _ | 2, _ | 3, _ | 4, _ | 5, _ | 6, _ | 7, _ | 8, _ | 9, _ => rfl
        | j + 10, hj => exact absurd hj (by simp)
      · match j, hj, hj' with
        | 0, _, _ | 1, _, _ | 2, _, _ | 3, _, _ | 4, _, _ | 5, _, _ | 6, _, _ | 7, _, _ | 8, _, _ | 9, _, _ => exact .int _ _
        | j + 10, hj, _ => exact absurd hj (by simp)
    refine ⟨rfl, fun j hj hj' => ?_⟩
    match j, hj, hj' with
    | 0, _, _ => exact hagg ..
    | 1, _, _ => exact hagg ..
    | 2, _, _ => exact .int _ _
    | j + 3, hj, _ => exact absurd hj (by simp)

end Go.S32
