/- From the row's condition to the call, and from the call to the row's promise. -/
import Derived.Test.YtcocemppeccldaaGreatDoorTpA
import Derived.Test.YtcocemppeccldaaGreatDoorCards
import Derived.Test.YtcocemppeccldaaGreatDoorTie
import Derived.WalkKit
import Derived.ProofKit
import Derived.OpenShut
import Derived.Deep.DeepHandedRow
import Derived.Lib.LaidTab
import Derived.Below
import Derived.ChangeSame
set_option linter.unusedVariables false
set_option linter.unusedSimpArgs false
section
set_option maxRecDepth 100000
namespace Go.Proofs.YtcocemppeccldaaGreatDoor.conflictTexts
open Go.ChangeShapes Go.WideShapes Go.ChangeAt Go.RowKit

/-! ### data without memory -/
section
variable {H : Type} {enc : TypeId × Value → H} {P : Program}

theorem mapM_imp {α β : Type} {f g : α → Option β} : ∀ {l : List α} {r : List β}, (∀ a ∈ l, ∀ y, f a = some y → g a = some y) → l.mapM f = some r → l.mapM g = some r
  | [], r, _, h => by simpa using h
  | a :: l, r, hi, h => by
    simp only [List.mapM_cons, Option.bind_eq_bind, Option.bind_eq_some_iff, Option.pure_def, Option.some.injEq] at h ⊢
    obtain ⟨b, hb, r', hr', rfl⟩ := h
    exact ⟨b, hi a (by simp) b hb, r', mapM_imp (fun x hx => hi x (by simp [hx])) hr', rfl⟩

/-- numbers, and structs of these -/
def flat (P : Program) : Nat → TypeId → Bool
  | 0, _ => false
  | d + 1, t => match P.underlying t with
    | some (.int _) => true
    | some (.struct fs) => fs.toList.all fun f => flat P d f.type
    | _ => false

/-- such data read the same in any memory -/
theorem flat_trod {w w' : World} {base base' : Nat} {sp sp' : Nat → Bool} {held held' : Bool} : ∀ (d : Nat) (t : TypeId), flat P d t = true → ∀ (n : Nat) (cs : List Value) (x : DataW H × List MemPlace),
    DataW.trod enc P w base sp held n t cs = some x → DataW.trod enc P w' base' sp' held' n t cs = some x := by
  intro d
  induction d with
  | zero => intro t h; cases h
  | succ d ih =>
    intro t h n cs x hx
    cases n with
    | zero => simp [DataW.trod] at hx
    | succ n =>
      simp only [flat] at h
      split at h
      · rename_i k hu
        obtain ⟨z, hc, rfl, hwf⟩ := DataW.trod_int hu hx
        subst hc
        simp [DataW.trod, hu, hwf]
      · rename_i fs hu
        simp only [DataW.trod, hu] at hx ⊢
        split at hx
        · rename_i hl
          obtain ⟨xs, hm, e⟩ := Option.map_eq_some_iff.1 hx
          rw [if_pos hl, mapM_imp (fun f hf y hy => ih f.type (List.all_eq_true.1 h f hf) n _ y hy) hm]
          simp [← e]
        · cases hx
      · cases h

theorem struct_field {w : World} {base : Nat} {sp : Nat → Bool} {held : Bool} {t : TypeId} {fs : Array Field} (hs : P.underlying t = some (.struct fs)) {n : Nat} {cs : List Value} {x : DataW H × List MemPlace}
    (h : DataW.trod enc P w base sp held n t cs = some x) (i : Nat) (f : Field) (hf : fs[i]? = some f) :
    ∃ m y, DataW.trod enc P w base sp held m f.type ((cs.drop f.offset).take (P.cellsOf f.type)) = some y := by
  cases n with
  | zero => simp [DataW.trod] at h
  | succ n =>
    simp only [DataW.trod, hs] at h
    split at h
    · obtain ⟨xs, hm, e⟩ := Option.map_eq_some_iff.1 h
      obtain ⟨b, _, hb⟩ := Lib.mapM_at hm i f (by simpa using hf)
      exact ⟨n, b, hb⟩
    · cases h

/-- the row's last step, where of the world behind the call only 'Below' is known -/
theorem post_below {f : Func} {s : ChangeSpec} {apart fresh handsOn again : Bool} {W W' : World} {args : Array Value} {v : Value} {ds gs : List (DataW H)} {before pa pv : List MemPlace}
    (hW : DataW.Whole enc P f.params.toList s.vars apart W args.toList ds gs before)
    (hres : ∀ (b : Nat) (sp : Nat → Bool) (hd : Bool), DataW.TrodAll enc P W' b sp hd f.resultTypes.toList (v.resultList f.resultTypes.size) (s.fn H (ds ++ gs)).results [])
    (hargs : ∀ sp : Nat → Bool, (∀ p ∈ before, sp p.block = true) → DataW.TrodAll enc P W' 0 sp true f.params.toList args.toList (s.fn H (ds ++ gs)).args pa)
    (hvars : ∀ sp : Nat → Bool, (∀ p ∈ before, sp p.block = true) → DataW.TrodVars enc P W' sp s.vars (s.fn H (ds ++ gs)).vars pv)
    (hps : before = pa ++ pv) (hb : Below W.heap.size W W')
    (hok : ∀ (j : Nat) (t : TypeId) (r : Value), f.resultTypes[j]? = some t → (v.resultList f.resultTypes.size)[j]? = some r → Value.okWide P W' .any 0 t r) :
    s.post enc P f apart fresh handsOn again W args v W' := by
  have hlt : ∀ p ∈ before, p.block < W.heap.size := fun p hp => hW.lt p hp
  refine ⟨ds, gs, before, [], pa, pv, hW, hres _ _ _, hargs _ (fun p hp => by simpa using hlt p hp), hvars _ (fun p hp => by simpa using hlt p hp), World.keptBut_mono (fun p hp => ⟨hp, ?_⟩) (hb.frame (· ∈ before)), fun _ => ?_⟩
  · rw [hps, List.mem_append] at hp
    exact Or.inr hp
  · obtain ⟨_, _, _, _, _, hz, hn⟩ := hW
    refine ⟨hok, _, _, ([] ++ pa) ++ pv, ⟨[] ++ pa, pv, trodAll_append (hargs _ (fun _ _ => rfl)) (hres _ _ _), hvars _ (fun _ _ => rfl), rfl, ?_, ?_⟩, ?_⟩
    · intro b off hp
      have hin : MemPlace.cell b off ∈ before := by rw [hps]; simpa using hp
      rw [hb.frozen (hlt _ hin)]
      exact hz b off hin
    · intro ha
      have := hn ha
      rw [hps] at this
      simpa using this
    · rw [hps]; simp; exact fun p h _ => h
end
end Go.Proofs.YtcocemppeccldaaGreatDoor.conflictTexts
end
section
set_option maxRecDepth 100000
namespace Go.Proofs.YtcocemppeccldaaGreatDoor.conflictTexts
open Go.ChangeShapes Go.WideShapes Go.ChangeAt Go.RowKit Go.S32

theorem own : ownKnob Tryz.prog.godebug = none := by kernel_rfl
theorem cells3 : Tryz.prog.cellsOf 3 = 1 := by kernel_rfl
theorem cells27 : Tryz.prog.cellsOf 27 = 10 := by kernel_rfl
theorem cells25 : Tryz.prog.cellsOf 25 = 3 := by kernel_rfl
theorem cells23 : Tryz.prog.cellsOf 23 = 2 := by kernel_rfl
theorem flat27 : flat Tryz.prog 5 27 = true := by kernel_rfl
theorem flat5 : flat Tryz.prog 5 5 = true := by kernel_rfl

section
variable {H : Type} {enc : TypeId × Value → H} {w : World} {base : Nat} {sp : Nat → Bool} {held : Bool}

theorem int_cell {n : Nat} {c : Value} {x : DataW H × List MemPlace} (h : DataW.trod enc Tryz.prog w base sp held n 3 [c] = some x) : ∃ z, c = .int .i64 z ∧ inR z = true := by
  cases n with
  | zero => simp [DataW.trod] at h
  | succ n =>
    obtain ⟨z, hc, _, hwf⟩ := DataW.trod_int Tryz.underlying3 h
    refine ⟨z, by simpa using hc, ?_⟩
    simpa [inR, Lit.wf, IntKind.min, IntKind.max, IntKind.signed, IntKind.bits] using hwf

theorem int_fld {t : TypeId} {fs : Array Field} (hs : Tryz.prog.underlying t = some (.struct fs)) {n : Nat} {cs : List Value} {x : DataW H × List MemPlace} (h : DataW.trod enc Tryz.prog w base sp held n t cs = some x)
    (i : Nat) (f : Field) (hf : fs[i]? = some f) (ht : f.type = 3) (c : Value) (hc : (cs.drop f.offset).take 1 = [c]) : ∃ z, c = .int .i64 z ∧ inR z = true := by
  obtain ⟨m, y, hy⟩ := struct_field hs h i f hf
  rw [ht, cells3, hc] at hy
  exact int_cell hy

theorem sub_fld {t : TypeId} {fs : Array Field} (hs : Tryz.prog.underlying t = some (.struct fs)) {n : Nat} {cs : List Value} {x : DataW H × List MemPlace} (h : DataW.trod enc Tryz.prog w base sp held n t cs = some x)
    (i : Nat) (f : Field) (hf : fs[i]? = some f) (T k : Nat) (ht : f.type = T) (hk : Tryz.prog.cellsOf T = k) (l : List Value) (hc : (cs.drop f.offset).take k = l) :
    ∃ m y, DataW.trod enc Tryz.prog w base sp held m T l = some y := by
  obtain ⟨m, y, hy⟩ := struct_field hs h i f hf
  rw [ht, hk, hc] at hy
  exact ⟨m, y, hy⟩

theorem ten {cs : Array Value} (h : cs.size = 10) : ∃ c0 c1 c2 c3 c4 c5 c6 c7 c8 c9, cs = #[c0, c1, c2, c3, c4, c5, c6, c7, c8, c9] := by
  match cs, h with
  | ⟨[c0, c1, c2, c3, c4, c5, c6, c7, c8, c9]⟩, _ => exact ⟨c0, c1, c2, c3, c4, c5, c6, c7, c8, c9, rfl⟩

/-- a conflict that came in: ten numbers -/
theorem open_conflict {v : Value} {d : DataW H} {p : List MemPlace} {r : Reach} {b0 : Nat} (hv : Value.okWide Tryz.prog w r b0 27 v) (h : DataW.Trod enc Tryz.prog w base sp held 27 v d p) :
    ∃ k w' a b d1 f1 t1 d2 f2 t2 : Int, v = .agg #[.int .i64 k, .int .i64 w', .int .i64 a, .int .i64 b, .int .i64 d1, .int .i64 f1, .int .i64 t1, .int .i64 d2, .int .i64 f2, .int .i64 t2] ∧
      inR w' = true ∧ inR a = true ∧ inR b = true ∧ inR d1 = true ∧ inR d2 = true := by
  obtain ⟨cs, rfl, hsz⟩ := okWide_struct Tryz.underlying27 hv
  rw [cells27] at hsz
  obtain ⟨c0, c1, c2, c3, c4, c5, c6, c7, c8, c9, rfl⟩ := ten hsz
  obtain ⟨fuel, hf⟩ := h
  obtain ⟨i0, e0, _⟩ := int_fld Tryz.underlying27 hf 0 _ rfl rfl c0 rfl
  obtain ⟨i1, e1, r1⟩ := int_fld Tryz.underlying27 hf 1 _ rfl rfl c1 rfl
  obtain ⟨i2, e2, r2⟩ := int_fld Tryz.underlying27 hf 2 _ rfl rfl c2 rfl
  obtain ⟨i3, e3, r3⟩ := int_fld Tryz.underlying27 hf 3 _ rfl rfl c3 rfl
  obtain ⟨m4, y4, h4⟩ := sub_fld Tryz.underlying27 hf 4 _ rfl 25 3 rfl cells25 [c4, c5, c6] rfl
  obtain ⟨m5, y5, h5⟩ := sub_fld Tryz.underlying27 hf 5 _ rfl 25 3 rfl cells25 [c7, c8, c9] rfl
  obtain ⟨i4, e4, r4⟩ := int_fld Tryz.underlying25 h4 0 _ rfl rfl c4 rfl
  obtain ⟨m6, y6, h6⟩ := sub_fld Tryz.underlying25 h4 1 _ rfl 23 2 rfl cells23 [c5, c6] rfl
  obtain ⟨i7, e7, r7⟩ := int_fld Tryz.underlying25 h5 0 _ rfl rfl c7 rfl
  obtain ⟨m7, y7, h7⟩ := sub_fld Tryz.underlying25 h5 1 _ rfl 23 2 rfl cells23 [c8, c9] rfl
  obtain ⟨i5, e5, _⟩ := int_fld Tryz.underlying23 h6 0 _ rfl rfl c5 rfl
  obtain ⟨i6, e6, _⟩ := int_fld Tryz.underlying23 h6 1 _ rfl rfl c6 rfl
  obtain ⟨i8, e8, _⟩ := int_fld Tryz.underlying23 h7 0 _ rfl rfl c8 rfl
  obtain ⟨i9, e9, _⟩ := int_fld Tryz.underlying23 h7 1 _ rfl rfl c9 rfl
  subst e0 e1 e2 e3 e4 e5 e6 e7 e8 e9
  exact ⟨i0, i1, i2, i3, i4, i5, i6, i7, i8, i9, rfl, r1, r2, r3, r4, r7⟩
end

theorem gPow : Tryz.prog.globalNamed "internal/strconv.uint64pow10" = some 0 := by kernel_rfl
theorem gType : (Tryz.prog.globals[0]?).map (·.type) = some 284 := by kernel_rfl
theorem cells196 : Tryz.prog.cellsOf 196 = 1 := by kernel_rfl
theorem cells284 : Tryz.prog.cellsOf 284 = 20 := by kernel_rfl

theorem pow_data {H : Type} : (Rows.laid_internal_strconv_uint64pow10 : DataW H) = Lib.tabData .u64 Lib.pow10Tab := rfl

end Go.Proofs.YtcocemppeccldaaGreatDoor.conflictTexts
end
section
set_option maxRecDepth 100000
namespace Go.Proofs.YtcocemppeccldaaGreatDoor.conflictTexts
open Go.ChangeShapes Go.WideShapes Go.ChangeAt Go.RowKit Go.S32

theorem trod_flat {H : Type} {enc : TypeId × Value → H} {w w' : World} {base base' : Nat} {sp sp' : Nat → Bool} {held held' : Bool} {t : TypeId} {v : Value} {d : DataW H} {p : List MemPlace}
    (hf : flat Tryz.prog 5 t = true) (h : DataW.Trod enc Tryz.prog w base sp held t v d p) : DataW.Trod enc Tryz.prog w' base' sp' held' t v d p := by
  obtain ⟨n, h⟩ := h
  exact ⟨n, flat_trod 5 t hf n _ _ h⟩

theorem laid_tail {P : Program} {x : String × DataW Unit} {r : List (String × DataW Unit)} {w : World} (h : laidMet P (x :: r) w) : laidMet P r w := by
  obtain ⟨n, d⟩ := x
  obtain ⟨ps, ⟨g, t, cs, fuel, p, q, _, _, _, _, hq, rfl⟩, hnd, hrows⟩ := h
  exact ⟨q, hq, List.Nodup.sublist (List.sublist_append_right _ _) hnd, fun b off hm => hrows b off (List.mem_append_right _ hm)⟩

theorem table {W : World} (h : laidMetH Tryz.prog Rows.conflictTextsRow.laid W) : Lib.TabIs Tryz.prog W "internal/strconv.uint64pow10" .u64 Lib.pow10Tab := by
  have h1 : laidMet Tryz.prog (("math/bits.deBruijn32tab", Rows.laid_math_bits_deBruijn32tab) :: ("math/bits.deBruijn64tab", Rows.laid_math_bits_deBruijn64tab) :: ("internal/strconv.uint64pow10", Rows.laid_internal_strconv_uint64pow10) :: []) W := h
  have h2 := laid_tail (laid_tail h1)
  rw [pow_data] at h2
  exact Lib.tabIs_of_head (rest := []) gPow gType Tryz.underlying284 Tryz.underlying196 cells196 cells284 h2

theorem u8_range {n : Int} (h : (Lit.int .u8 n).wf = true) : 0 ≤ n ∧ n ≤ 255 := by
  simpa [Lit.wf, IntKind.min, IntKind.max, IntKind.signed, IntKind.bits] using h

/-- every argument, every world that holds the table -/
theorem contract (H : Type) (enc : TypeId × Value → H) (W : World) (base : Nat) (args : Array Value) (ds gs : List (DataW H)) (before : List MemPlace)
    (hval : ∀ (j : Nat) t v, Tryz.f3.params[j]? = some t → args[j]? = some v → Value.okWide Tryz.prog W .any base t v)
    (hW : DataW.Whole enc Tryz.prog Tryz.f3.params.toList Rows.conflictTextsSpec.vars false W args.toList ds gs before) (hL : laidMetH Tryz.prog Rows.conflictTextsRow.laid W) :
    Calls Tryz.prog 3 args W fun e W' => ∃ v, e = .returned v ∧ Rows.conflictTextsSpec.post enc Tryz.prog Tryz.f3 false true false false W args v W' := by
  have hW' := hW
  obtain ⟨p, q, hA0, hV, rfl, hfz, hnd⟩ := hW
  have hA : DataW.TrodAll enc Tryz.prog W 0 (fun _ => true) true Tryz.f3.params.toList args.toList ds p := hA0
  rw [Tryz.params3] at hA hval
  obtain ⟨v0, vs0, d0, ds0, p0, q0, hargs, rfl, rfl, h0, r0⟩ := trodAll_cons hA
  obtain ⟨v1, vs1, d1, ds1, p1, q1, rfl, rfl, rfl, h1, r1⟩ := trodAll_cons r0
  obtain ⟨v2, vs2, d2, ds2, p2, q2, rfl, rfl, rfl, h2, r2⟩ := trodAll_cons r1
  obtain ⟨rfl, rfl, rfl⟩ := trodAll_nil r2
  obtain rfl : args = #[v0, v1, v2] := by cases args; simp_all
  obtain ⟨rfl, rfl⟩ := trodVars_none hV
  obtain ⟨k, w, a, b, d1', f1, t1, d2', f2, t2, rfl, hw, ha, hb, hd1, hd2⟩ := open_conflict (hval 0 27 v0 rfl rfl) h0
  obtain ⟨k', w', a', b', d1'', f1', t1', d2'', f2', t2', rfl, hw', ha', hb', hd1', hd2'⟩ := open_conflict (hval 1 27 v1 rfl rfl) h1
  obtain ⟨wh, rfl, hd, hp, hwf⟩ := open_int Tryz.underlying5 (hval 2 5 v2 rfl rfl) h2
  subst hd
  subst hp
  clear hA0
  refine (calls wh k w a b d1' f1 t1 d2' f2 t2 k' w' a' b' d1'' f1' t1' d2'' f2' t2' (u8_range hwf) hw ha hb hd1 hd2 hw' ha' hb' hd1' hd2' W (table hL)).mono fun e W' ⟨he, hg⟩ => ?_
  subst he
  refine ⟨_, rfl, post_below (pa := p0 ++ (p1 ++ ([] ++ []))) (pv := []) hW' (fun _ _ _ => trodAll_cons_mk (shut_bool Tryz.underlying4 _) trodAll_mk0) (fun sp _ => ?_) (fun _ _ => rfl) rfl hg (ok_one (by kernel_rfl) rfl (okWide_bool_mk Tryz.underlying4 _))⟩
  rw [Tryz.params3]
  exact trodAll_cons_mk (trod_flat flat27 h0) (trodAll_cons_mk (trod_flat flat27 h1) (trodAll_cons_mk (trod_flat flat5 h2) trodAll_mk0))

end Go.Proofs.YtcocemppeccldaaGreatDoor.conflictTexts
end
