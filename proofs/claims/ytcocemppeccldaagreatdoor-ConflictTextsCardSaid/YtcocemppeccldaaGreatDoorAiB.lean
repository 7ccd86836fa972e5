/- Each kind of operation, on numbers, texts and structs, does in the model what the abstract one says (first part). -/
import Derived.Test.YtcocemppeccldaaGreatDoorAiA
import Derived.Laws.Strings
import Derived.Laws.StructEq
import Derived.IntWalk
set_option linter.unusedVariables false
set_option linter.unusedSimpArgs false
section
namespace Go.Ai
open Go Go.RowKit

section
variable {φ : Phi} {F : Fz}

theorem ofCell_rel {x : Value} {v : V} (h : ofCell x = some v) : VRel φ F v x := by
  unfold ofCell at h
  split at h <;> first
    | (cases h; constructor)
    | cases h
    | (split at h
       · rename_i hab
         cases h
         obtain ⟨ha, hb⟩ := hab
         exact .fn _ _ _ _ _ (by simpa using ha.symm) (by simpa using hb.symm) (fun j a => absurd a (by simp)) (fun j a => absurd a (by simp))
       · cases h)

theorem ofCell_one {x : Value} {v : V} (h : ofCell x = some v) : x.oneCell' = true := by
  unfold ofCell at h
  split at h <;> first | rfl | cases h

theorem mapO_some {α β : Type} {f : α → Option β} {xs : List α} {ys : List β} (h : mapO f xs = some ys) :
    ys.length = xs.length ∧ ∀ j (a : j < xs.length) (b : j < ys.length), f xs[j] = some ys[j] := by
  induction xs generalizing ys with
  | nil => simp [mapO] at h; subst h; simp
  | cons x xs ih =>
    simp only [mapO] at h
    split at h
    · rename_i y ys' h1 h2
      cases h
      obtain ⟨l, k⟩ := ih h2
      refine ⟨by simp [l], fun j a b => ?_⟩
      cases j with
      | zero => simpa using h1
      | succ j => simpa using k j (by simpa using a) (by simpa using b)
    · cases h

theorem ofC_rel {x : Value} {v : V} (h : ofC x = some v) : VRel φ F v x := by
  unfold ofC at h
  split at h
  · rename_i cs
    cases hm : mapO ofCell cs.toList with
    | none => rw [hm] at h; cases h
    | some vs =>
      rw [hm] at h; cases h
      obtain ⟨l, k⟩ := mapO_some hm
      refine .agg _ _ (by simpa using l) (fun j b => ?_) fun j a b => ?_
      · exact ofCell_one (k j (by simpa using b) (by rw [l]; simpa using b))
      · exact ofCell_rel (k j (by simpa using b) a)
  · rename_i cs
    split at h
    · rename_i hs
      cases h
      obtain rfl : cs = #[] := by simpa using hs
      exact .tup _ _ rfl (fun j a => absurd a (by simp))
    · cases h
  · exact ofCell_rel h

/-- what the operands come to -/
def Evals (φ : Phi) (F : Fz) (t : List V) (ρ : Operand → Value) : Prop := ∀ x a, ofA x = some a → VRel φ F (evA t a) (ρ x)

theorem evals_act {N : Nat} {t : List V} {tm : Array Value} {ρ : Operand → Value} (h : TRel φ F N t tm)
    (ht : ∀ j, ρ (.tmp j) = tm.getD j undef) (hc : ∀ v, ρ (.const v) = v) (hf : ∀ f, ρ (.func f) = .func (.func f) #[] #[]) : Evals φ F t ρ := by
  intro x a hx
  cases x with
  | tmp j => cases hx; rw [ht]; exact h.2.2 j
  | const v =>
    simp only [ofA] at hx
    cases hv : ofC v with
    | none => rw [hv] at hx; cases hx
    | some v' => rw [hv] at hx; cases hx; rw [hc]; exact ofC_rel hv
  | global g => cases hx
  | func f => cases hx; rw [hf]; exact .fn _ _ _ _ _ rfl rfl (fun j a => absurd a (by simp)) (fun j a => absurd a (by simp))

theorem Evals.mapO {t : List V} {ρ : Operand → Value} (h : Evals φ F t ρ) {xs : List Operand} {as : List A} (hm : mapO ofA xs = some as) :
    (as.map (evA t)).length = (xs.map ρ).length ∧ ∀ j (a : j < (as.map (evA t)).length) (b : j < (xs.map ρ).length), VRel φ F (as.map (evA t))[j] (xs.map ρ)[j] := by
  obtain ⟨l, k⟩ := mapO_some hm
  refine ⟨by simp [l], fun j a b => ?_⟩
  simp only [List.getElem_map]
  exact h _ _ (k j (by simpa using b) (by simpa using a))

/-! inversions -/
theorem VRel.int_inv {k : IntKind} {n : Int} {x : Value} (h : VRel φ F (.int k n) x) : x = .int k n := by cases h; rfl
theorem VRel.bool_inv {b : Bool} {x : Value} (h : VRel φ F (.bool b) x) : x = .bool b := by cases h; rfl
theorem VRel.str_inv {s : ByteArray} {x : Value} (h : VRel φ F (.str s) x) : x = .string s := by cases h; rfl
theorem VRel.undef : VRel φ F V.undef Go.undef := .tup _ _ rfl (fun j a => absurd a (by simp))

theorem VRel.cells {v : V} {x : Value} (h : VRel φ F v x) : v.cells.length = x.cells.size ∧
    ∀ j (a : j < v.cells.length) (b : j < x.cells.size), VRel φ F v.cells[j] x.cells[j] ∧ (okv v = true → x.cells[j].oneCell' = true) := by
  by_cases ha : ∃ cs, v = .agg cs
  · obtain ⟨cs, rfl⟩ := ha
    cases h with
    | agg _ cs' l ho h => exact ⟨l, fun j a b => ⟨h j a b, fun _ => ho j b⟩⟩
  · have hv : v.cells = [v] := by cases v <;> first | rfl | (exact absurd ⟨_, rfl⟩ ha)
    have hx : x.cells = #[x] := by cases h <;> first | rfl | (exact absurd ⟨_, rfl⟩ ha)
    rw [hv, hx]
    refine ⟨rfl, fun j a b => ?_⟩
    have : j = 0 := by simpa using a
    subst this
    refine ⟨h, fun hk => ?_⟩
    show x.oneCell' = true
    cases h <;> first | rfl | (exact absurd ⟨_, rfl⟩ ha) | (exact absurd hk (by simp [okv]))

end
end Go.Ai
end
section
namespace Go.Ai
open Go Go.RowKit

section
variable {X : Ctx} {n0 : Nat} {φ : Phi} {F : Fz} {H : Hp} {w : World}

def OpOK (X : Ctx) (n0 : Nat) (φ : Phi) (F : Fz) (w : World) (s : Sem Next) (v : V) (H' : Hp) : Prop :=
  ∃ φ' F' w' nx x, s.run X.P w = .ok nx w' ∧ (nx = .value x ∨ (nx = .skip ∧ x = Go.undef)) ∧ VRel φ' F' v x ∧ Sim X n0 φ' F' H' w' ∧ Ext n0 φ F w φ' F' w'

theorem OpOK.same {s : Sem Next} {v : V} {x : Value} (S : Sim X n0 φ F H w) (h : s.run X.P w = .ok (.value x) w) (hv : VRel φ F v x) : OpOK X n0 φ F w s v H :=
  ⟨φ, F, w, _, x, h, .inl rfl, hv, S, .refl _ _ _ _⟩

theorem run_valued {s : Sem Value} {x : Value} {w w' : World} {P : Program} (h : s.run P w = .ok x w') : (do pure (Next.value (← s)) : Sem Next).run P w = .ok (.value x) w' := by
  simp [h]

theorem run_isAg {P : Program} {t : TypeId} {g : Bool} (h : isAg P t = some g) (w : World) : (isAgg t).run P w = .ok g w := by
  unfold isAg at h
  cases hu : P.underlying t with
  | none => rw [hu] at h; cases h
  | some d =>
    rw [hu] at h; cases h
    simp only [isAgg, Sem.run_bind, run_underlying hu, Result.andThen_ok]
    cases d <;> rfl

theorem run_szOf {P : Program} {t : TypeId} {n : Nat} (h : szOf P t = some n) (w : World) : (sizeOf t).run P w = .ok n w := by
  unfold szOf at h
  cases hu : P.info? t with
  | none => rw [hu] at h; cases h
  | some i => rw [hu] at h; cases h; simp [sizeOf, typeInfo, hu]

theorem run_zeroOf {P : Program} {t : TypeId} {z : V} (h : zeroOf P t = some z) (w : World) : ∃ x, (zeroValue t).run P w = .ok x w ∧ ofC x = some z := by
  unfold zeroOf at h
  cases hu : P.info? t with
  | none => rw [hu] at h; cases h
  | some i =>
    rw [hu] at h
    simp only at h
    cases hz : i.zero with
    | none => rw [hz] at h; cases h
    | some v => rw [hz] at h; exact ⟨v, by simp [zeroValue, typeInfo, hu, hz], h⟩

/-! cells and elements -/
theorem cellsOf_cons (e : V) (es : List V) : cellsOf (e :: es) = e.cells ++ cellsOf es := rfl

theorem fits_len {sh : Option Nat} {v : V} (h : fits sh v = true) : v.cells.length = shz sh := by
  cases sh with
  | none => cases v <;> first | rfl | (simp [fits] at h)
  | some n => cases v <;> first | (simp [fits] at h; simp [V.cells, shz, h]) | (simp [fits] at h)

theorem fits_okv {sh : Option Nat} {v : V} (h : fits sh v = true) : okv v = true := by
  cases sh <;> cases v <;> first | rfl | (simp [fits] at h)

theorem cellsOf_len {sz : Nat} {es : List V} (h : ∀ e ∈ es, e.cells.length = sz) : (cellsOf es).length = es.length * sz := by
  induction es with
  | nil => simp [cellsOf]
  | cons e es ih =>
    rw [cellsOf_cons, List.length_append, ih (fun e he => h e (List.mem_cons_of_mem _ he)), h e (List.mem_cons_self ..), List.length_cons, Nat.add_mul]; omega

theorem cellsOf_get {sz : Nat} {es : List V} (h : ∀ e ∈ es, e.cells.length = sz) {i o : Nat} (ho : o < sz) : (cellsOf es)[i * sz + o]? = (es[i]?).bind fun e => e.cells[o]? := by
  induction es generalizing i with
  | nil => simp [cellsOf]
  | cons e es ih =>
    rw [cellsOf_cons]
    have he := h e (List.mem_cons_self ..)
    have hr := fun e he => h e (List.mem_cons_of_mem _ he)
    cases i with
    | zero => rw [List.getElem?_append_left (by omega)]; simp
    | succ i =>
      rw [List.getElem?_append_right (by rw [he, Nat.succ_mul]; omega), he]
      have : (i + 1) * sz + o - sz = i * sz + o := by rw [Nat.succ_mul]; omega
      rw [this, ih hr]; simp

/-- what a reader sees of elements -/
def View (φ : Phi) (F : Fz) (w : World) (b off : Nat) (es : List V) : Prop :=
  ∀ j (h : j < (cellsOf es).length), ∃ y, w.cell? ⟨b, off + j, none⟩ = some y ∧ VRel φ F (cellsOf es)[j] y ∧ y.oneCell' = true

theorem cell_of_heap {w : World} {b : Nat} {cs : Array Value} {T : TypeId} {fr : Nat × Nat} (h : w.heap[b]? = some (.cells cs T fr)) (o : Nat) : w.cell? ⟨b, o, none⟩ = cs[o]? := by
  simp [World.cell?, h]

theorem fz_cell (S : Sim X n0 φ F H w) {b j : Nat} {x : Value} (h : fcell F b j = some x) : w.cell? ⟨b, j, none⟩ = some x := by
  unfold fcell at h
  split at h
  · rename_i cs hF
    obtain ⟨c, h1, cs', T, fr, rfl, h2⟩ := S.fz _ _ hF
    rw [cell_of_heap h1, ← Array.getElem?_toList, h2]
    exact h
  · cases h

theorem warrAt_some {a e : Nat} {sh : Option Nat} {es : List V} (h : warrAt H a sh e = some es) : H[a]? = some (.arr sh es) ∧ es.length = e := by
  unfold warrAt at h
  split at h
  · rename_i sh' es' h1
    split at h
    · rename_i h2; cases h; obtain ⟨rfl, h3⟩ := h2; exact ⟨h1, h3⟩
    · cases h
  · cases h

theorem arrAt_some {a e : Nat} {sh : Option Nat} {es : List V} (h : arrAt H a sh e = some es) : (H[a]? = some (.arr sh es) ∨ H[a]? = some (.fz sh es)) ∧ es.length = e := by
  unfold arrAt at h
  split at h
  · rename_i sh' es' h1
    split at h
    · rename_i h2; cases h; obtain ⟨rfl, h3⟩ := h2; exact ⟨.inl h1, h3⟩
    · cases h
  · rename_i sh' es' h1
    split at h
    · rename_i h2; cases h; obtain ⟨rfl, h3⟩ := h2; exact ⟨.inr h1, h3⟩
    · cases h
  · cases h

theorem arrAt_of_warr {a e : Nat} {sh : Option Nat} {es : List V} (h : warrAt H a sh e = some es) : arrAt H a sh e = some es := by
  obtain ⟨h1, h2⟩ := warrAt_some h
  simp [arrAt, h1, h2]

/-- an array in memory -/
theorem live_arr (S : Sim X n0 φ F H w) {a e b n : Nat} {sh : Option Nat} {es : List V} (h : arrAt H a sh e = some es) (hp : φ a e = some (b, n)) :
    ∃ cs T, w.heap[b]? = some (.cells cs T (0, 0)) ∧ cs.size = n ∧ (∀ e ∈ es, fits sh e = true) ∧ (cellsOf es).length ≤ cs.size ∧ View φ F w b 0 es ∧ n0 ≤ b ∧ (F b = none ∨ F b = some (.cells cs.toList)) ∧
      (∀ j (x : j < (cellsOf es).length) (y : j < cs.size), VRel φ F (cellsOf es)[j] cs[j] ∧ cs[j].oneCell' = true) := by
  obtain ⟨h1, h2⟩ := arrAt_some h
  rcases h1 with h1 | h1
  all_goals
    obtain ⟨b', m, c, g1, g2, g3, g4, cs, T, rfl, g5, g6, g7, g8⟩ := S.obj a _ h1 trivial
    simp only [Ob.key, h2] at g1
    rw [hp] at g1; cases g1
    refine ⟨cs, T, g4, g5, g6, g7, fun j hj => ?_, g2, ?_, g8⟩
    · have hb : j < cs.size := by omega
      exact ⟨cs[j], by rw [cell_of_heap g4]; simp [hb], g8 j hj hb⟩
    · first | exact .inl g3 | exact .inr g3

/-- an array in memory that may be written -/
theorem live_warr (S : Sim X n0 φ F H w) {a e b n : Nat} {sh : Option Nat} {es : List V} (h : warrAt H a sh e = some es) (hp : φ a e = some (b, n)) :
    ∃ cs T, w.heap[b]? = some (.cells cs T (0, 0)) ∧ cs.size = n ∧ (∀ e ∈ es, fits sh e = true) ∧ (cellsOf es).length ≤ cs.size ∧ View φ F w b 0 es ∧ n0 ≤ b ∧ F b = none ∧
      (∀ j (x : j < (cellsOf es).length) (y : j < cs.size), VRel φ F (cellsOf es)[j] cs[j] ∧ cs[j].oneCell' = true) := by
  obtain ⟨h1, h2⟩ := warrAt_some h
  obtain ⟨b', m, c, g1, g2, g3, g4, cs, T, rfl, g5, g6, g7, g8⟩ := S.obj a _ h1 trivial
  simp only [Ob.key, h2] at g1
  rw [hp] at g1; cases g1
  refine ⟨cs, T, g4, g5, g6, g7, fun j hj => ?_, g2, g3, g8⟩
  have hb : j < cs.size := by omega
  exact ⟨cs[j], by rw [cell_of_heap g4]; simp [hb], g8 j hj hb⟩

theorem fptr_view (S : Sim X n0 φ F H w) {es : List V} {b off : Nat} {x : Nat → Value} (hF : ∀ j, j < (cellsOf es).length → fcell F b (off + j) = some (x j))
    (ho : ∀ j, j < (cellsOf es).length → (x j).oneCell' = true) (h : ∀ j (h1 : j < (cellsOf es).length), VRel φ F (cellsOf es)[j] (x j)) : View φ F w b off es :=
  fun j hj => ⟨x j, fz_cell S (hF j hj), h j hj, ho j hj⟩

theorem run_loadCellsFrom {P : Program} {w : World} {b off : Nat} {x : Nat → Value} (n : Nat) : ∀ (i : Nat) (acc : Array Value),
    (∀ j, i ≤ j → j < i + n → w.cell? ⟨b, off + j, none⟩ = some (x j)) →
    (loadCellsFrom ⟨b, off, none⟩ i n acc).run P w = .ok (acc ++ ((List.range n).map fun j => x (i + j)).toArray) w := by
  induction n with
  | zero => intro i acc _; simp [loadCellsFrom]
  | succ n ih =>
    intro i acc h
    have hc : w.cell? (Addr.add ⟨b, off, none⟩ i) = some (x i) := by
      have := h i (Nat.le_refl _) (by omega)
      unfold Addr.add
      split
      · rename_i e; subst e; exact this
      · exact this
    simp only [loadCellsFrom, Sem.run_bind, run_load, hc, Result.andThen_ok]
    rw [ih (i + 1) _ (fun j h1 h2 => h j (by omega) (by omega))]
    congr 1
    apply Array.ext'
    simp [List.range_succ_eq_map, List.map_map, Function.comp_def, Nat.add_assoc, Nat.add_comm 1]

theorem run_loadCells {P : Program} {w : World} {b off n : Nat} {x : Nat → Value} (h : ∀ j, j < n → w.cell? ⟨b, off + j, none⟩ = some (x j)) :
    (loadCells ⟨b, off, none⟩ n).run P w = .ok ((List.range n).map x).toArray w := by
  unfold loadCells
  rw [run_loadCellsFrom n 0 #[] (fun j _ h2 => h j (by omega))]
  simp

theorem mkv_some {g : Bool} {cs : List V} {v : V} (h : mkv g cs = some v) : (g = true ∧ v = .agg cs) ∨ (g = false ∧ cs = [v]) := by
  unfold mkv at h
  split at h
  · cases h; exact .inl ⟨by assumption, rfl⟩
  · split at h
    · cases h; exact .inr ⟨by simp_all, rfl⟩
    · cases h

/-- reading part of an element -/
theorem run_loadE {P : Program} {sh : Option Nat} {es : List V} {b off i o n : Nat} {g : Bool} {v : V} {T : TypeId} (hv : View φ F w b off es) (hs : ∀ e ∈ es, fits sh e = true)
    (h : loadE g n sh es i o = some v) (hg : isAg P T = some g) (hn : szOf P T = some n) :
    ∃ x, (loadVar T ⟨b, off + (i * shz sh + o), none⟩).run P w = .ok x w ∧ VRel φ F v x := by
  have hs' : ∀ e ∈ es, e.cells.length = shz sh := fun e he => fits_len (hs e he)
  unfold loadE at h
  cases hi : es[i]? with
  | none => rw [hi] at h; cases h
  | some el =>
    have hel : el ∈ es := List.mem_of_getElem? hi
    simp only [hi] at h
    -- in both cases v is made of the cells from o on
    have key : o + n ≤ el.cells.length ∧ mkv g ((el.cells.drop o).take n) = some v := by
      split at h
      · rename_i hc
        cases h
        simp only [Bool.and_eq_true, beq_iff_eq] at hc
        obtain ⟨⟨h1, rfl⟩, rfl⟩ := hc
        have hf := hs v hel
        cases v <;> simp [fits] at hf
        rename_i cs
        simp [V.cells, mkv, h1, ← hf]
      · unfold sub at h
        split at h
        · exact ⟨by assumption, h⟩
        · cases h
    obtain ⟨k1, k2⟩ := key
    have hlen := hs' el hel
    have hcell : ∀ j, j < n → ∃ y, w.cell? ⟨b, off + (i * shz sh + o) + j, none⟩ = some y ∧ ∃ (hj : o + j < el.cells.length), VRel φ F el.cells[o + j] y ∧ y.oneCell' = true := by
      intro j hj
      have hoj : o + j < shz sh := by omega
      have hg := cellsOf_get hs' (i := i) hoj
      rw [hi] at hg
      simp only [Option.bind_some] at hg
      have hjl : o + j < el.cells.length := by omega
      rw [List.getElem?_eq_getElem hjl] at hg
      obtain ⟨hl, he⟩ := List.getElem?_eq_some_iff.1 hg
      obtain ⟨y, y1, y2, y3⟩ := hv _ hl
      refine ⟨y, ?_, hjl, ?_, y3⟩
      · rw [show off + (i * shz sh + o) + j = off + (i * shz sh + (o + j)) from by omega]; exact y1
      · rw [he] at y2; exact y2
    rcases mkv_some k2 with ⟨rfl, rfl⟩ | ⟨rfl, hone⟩
    · -- an aggregate
      have hx : ∃ x : Nat → Value, ∀ j, j < n → w.cell? ⟨b, off + (i * shz sh + o) + j, none⟩ = some (x j) ∧ ∃ (hj : o + j < el.cells.length), VRel φ F el.cells[o + j] (x j) ∧ (x j).oneCell' = true :=
        ⟨fun j => if hj : j < n then (hcell j hj).choose else .nilFunc, fun j hj => by simp only [hj, dif_pos]; exact (hcell j hj).choose_spec⟩
      obtain ⟨x, hx⟩ := hx
      refine ⟨.agg ((List.range n).map x).toArray, ?_, ?_⟩
      · simp only [loadVar, Sem.run_bind, run_isAg hg, Result.andThen_ok, if_true, run_szOf hn]
        rw [run_loadCells (fun j hj => (hx j hj).1)]
        rfl
      · refine .agg _ _ (by simp; omega) (fun j c => ?_) fun j a c => ?_
        · simp at c; simp; exact (hx j c).2.2.2
        · simp at c
          simp only [List.getElem_take, List.getElem_drop, List.getElem_toArray, List.getElem_map, List.getElem_range]
          exact (hx j c).2.2.1
    · have hn1 : 0 < n := by
        apply Classical.byContradiction; intro hn0
        obtain rfl : n = 0 := by omega
        simp at hone
      obtain ⟨y, y1, hj, y2, y3⟩ := hcell 0 hn1
      refine ⟨y, ?_, ?_⟩
      · simp only [loadVar, Sem.run_bind, run_isAg hg, Result.andThen_ok, Bool.false_eq_true, if_false, run_load]
        simp only [Nat.add_zero] at y1
        simp [y1]
      · have : el.cells[o + 0] = v := by
          have h0 : ((el.cells.drop o).take n)[0]? = some v := by rw [hone]; rfl
          rw [List.getElem?_take_of_lt hn1, List.getElem?_drop, List.getElem?_eq_getElem hj] at h0
          exact Option.some.inj h0
        rw [← this]; exact y2

end
end Go.Ai
end
section
namespace Go.Ai
open Go Go.RowKit

section
variable {X : Ctx} {n0 : Nat} {φ : Phi} {F : Fz} {H : Hp} {w : World}

theorem Hp.new_some {H H' : Hp} {base a : Nat} {slot : Option Nat} {o : Ob} (h : H.new base slot o = some (a, H')) :
    H'[a]? = some o ∧ (∀ a', a' ≠ a → H'[a']? = H[a']?) ∧ (H[a]? = none ∨ H[a]? = some .none_) := by
  unfold Hp.new at h
  split at h
  · cases h
    refine ⟨by simp, fun a' ha => ?_, .inl (by simp)⟩
    rw [List.getElem?_append]
    split
    · rfl
    · rename_i hlt
      rw [List.getElem?_eq_none (by simp; omega), List.getElem?_eq_none (by omega)]
  · rename_i r
    split at h
    · rename_i hn
      cases h
      have hlt : base + r < H.length := (List.getElem?_eq_some_iff.1 hn).1
      exact ⟨by simp [hlt], fun a' ha => by simp [Ne.symm ha], .inr hn⟩
    · cases h

theorem below_push (n0 : Nat) (w : World) (c : Obj) (h : n0 ≤ w.heap.size) : Below n0 w { w with heap := w.heap.push c } :=
  ⟨rfl, rfl, rfl, by simp, fun k hk => by show (w.heap.push c)[k]? = _; rw [Array.getElem?_push, if_neg (by omega)]⟩

/-- a new object -/
theorem Sim.new (S : Sim X n0 φ F H w) {H' : Hp} {base a : Nat} {slot : Option Nat} {o : Ob} (h : H.new base slot o = some (a, H')) (hl : o.live) (c : Obj) (n : Nat)
    (hO : ORel X φ F o n c) (hnf : ∀ sh es, o ≠ .fz sh es := by intro _ _ e; cases e) :
    ∃ φ', φ' a o.key = some (w.heap.size, n) ∧ Sim X n0 φ' F H' { w with heap := w.heap.push c } ∧ Ext n0 φ F w φ' F { w with heap := w.heap.push c } := by
  obtain ⟨h1, h2, h3⟩ := Hp.new_some h
  have hno : ∀ e, φ a e = none := by
    intro e
    rcases h3 with h3 | h3
    · exact S.len a e h3
    · exact S.non a e h3
  let φ' : Phi := fun a' e => if a' = a ∧ e = o.key then some (w.heap.size, n) else φ a' e
  have hle : φ.le φ' := by
    intro a' e x hx
    have : ¬(a' = a ∧ e = o.key) := by rintro ⟨rfl, rfl⟩; rw [hno] at hx; cases hx
    simp [φ', this, hx]
  have hsz := S.sz
  refine ⟨φ', by simp [φ'], ?_, hle, Fz.le.refl _, below_push _ _ _ S.sz, fun _ _ => rfl⟩
  refine S.update (a := a) (b := w.heap.size) (n := n) (o' := o) (c := c) h1 h2 (by show (w.heap.push c)[_]? = _; simp) ?_ (by simp) hle (by simp [φ']) ?_ S.sz S.fresh_F ?_ (hO.mono hle (Fz.le.refl _)) hl ?_ hnf
  · intro k hk hlt
    show (w.heap.push c)[k]? = _
    rw [Array.getElem?_push, if_neg (by omega)]
  · intro a' e hx
    apply Classical.byContradiction; intro hn
    exact hx (by simp [φ', hn])
  · intro a' o' n' _ ho hlo hp
    obtain ⟨b', m, c', g1, g2, g3, g4, _⟩ := S.obj a' o' ho hlo
    rw [hp] at g1; cases g1
    exact absurd (heap_lt g4) (by omega)
  · exact fun e _ => .inl (hno e)

/-- cells of a shape's elements, given their relation -/
theorem arr_rel {sh : Option Nat} {es : List V} {cs : Array Value} {T : TypeId} (hs : ∀ e ∈ es, fits sh e = true) (hl : (cellsOf es).length ≤ cs.size)
    (h : ∀ j (x : j < (cellsOf es).length) (y : j < cs.size), VRel φ F (cellsOf es)[j] cs[j] ∧ cs[j].oneCell' = true) :
    ORel X φ F (.arr sh es) cs.size (.cells cs T (0, 0)) := ⟨cs, T, rfl, rfl, hs, hl, h⟩

/-- a variable of its own: one element -/
theorem one_rel {sh : Option Nat} {v : V} {x : Value} {T : TypeId} (hs : fits sh v = true) (h : VRel φ F v x) :
    ORel X φ F (.arr sh [v]) x.cells.size (.cells x.cells T (0, 0)) := by
  obtain ⟨l, k⟩ := h.cells
  have hc : cellsOf [v] = v.cells := by simp [cellsOf]
  refine arr_rel (by simpa using hs) (by rw [hc]; omega) ?_
  intro j a b
  simp only [hc] at a ⊢
  obtain ⟨k1, k2⟩ := k j a b
  exact ⟨k1, k2 (fits_okv hs)⟩

theorem setCell_heap (w : World) (b o : Nat) (v : Value) {cs : Array Value} {T : TypeId} {fr : Nat × Nat} (h : w.heap[b]? = some (.cells cs T fr)) :
    (w.setCell ⟨b, o, none⟩ v).heap[b]? = some (.cells (cs.setIfInBounds o v) T fr) := by
  simp [World.setCell, Array.getElem?_modify, h]

theorem add_addr (b off i : Nat) : Addr.add ⟨b, off, none⟩ i = ⟨b, off + i, none⟩ := by
  unfold Addr.add; split
  · rename_i h; subst h; rfl
  · rfl

theorem run_storeCells {P : Program} {b off : Nat} {T : TypeId} (vs : List Value) : ∀ (i : Nat) (w : World) (cs : Array Value), w.heap[b]? = some (.cells cs T (0, 0)) →
    off + i + vs.length ≤ cs.size → (∀ v ∈ vs, v.oneCell' = true) →
    ∃ w' cs', (storeCells ⟨b, off, none⟩ vs i).run P w = .ok () w' ∧ w'.heap[b]? = some (.cells cs' T (0, 0)) ∧ cs'.size = cs.size ∧
      (∀ j, cs'[j]? = if off + i ≤ j ∧ j < off + i + vs.length then vs[j - (off + i)]? else cs[j]?) ∧ (∀ k, k ≠ b → w'.heap[k]? = w.heap[k]?) ∧ w'.heap.size = w.heap.size ∧
      w'.os = w.os ∧ w'.tape = w.tape ∧ w'.output = w.output := by
  induction vs with
  | nil =>
    intro i w cs h _ _
    refine ⟨w, cs, rfl, h, rfl, fun j => ?_, fun _ _ => rfl, rfl, rfl, rfl, rfl⟩
    rw [if_neg (by simp)]
  | cons v vs ih =>
    intro i w cs h hl ho
    simp only [List.length_cons] at hl
    have hcell : w.cell? ⟨b, off + i, none⟩ = some (cs[off + i]'(by omega)) := by
      rw [cell_of_heap h]; simp
    have hfr : w.frozen? ⟨b, off + i, none⟩ = false := by simp [World.frozen?, h]
    have hst : (store ⟨b, off + i, none⟩ v).run P w = .ok () (w.setCell ⟨b, off + i, none⟩ v) := by
      rw [run_store P w _ v _ (ho v (List.mem_cons_self ..))]
      simp only [hcell, hfr, Bool.false_eq_true, if_false]
    obtain ⟨w', cs', g1, g2, g3, g4, g5, g6, g7, g8, g9⟩ := ih (i + 1) (w.setCell ⟨b, off + i, none⟩ v) (cs.setIfInBounds (off + i) v) (setCell_heap w b (off + i) v h)
      (by simp; omega) (fun x hx => ho x (List.mem_cons_of_mem _ hx))
    refine ⟨w', cs', ?_, g2, by simpa using g3, fun j => ?_, fun k hk => ?_, by rw [g6]; simp [World.setCell], g7, g8, g9⟩
    · simp only [storeCells, add_addr, Sem.run_bind, hst, Result.andThen_ok]; exact g1
    · rw [g4 j]
      simp only [List.length_cons, Array.getElem?_setIfInBounds]
      by_cases e1 : j = off + i
      · subst e1
        rw [if_neg (by omega), if_pos rfl, if_pos (by omega), if_pos (by omega)]; simp
      · by_cases e2 : off + i ≤ j ∧ j < off + i + (vs.length + 1)
        · rw [if_pos (by omega), if_pos e2]
          have : j - (off + i) = (j - (off + (i + 1))) + 1 := by omega
          rw [this]; simp
        · rw [if_neg (by omega), if_neg e2, if_neg (Ne.symm e1)]
    · rw [g5 k hk]; exact Below.heap_setCell w _ v k (by simpa using hk)

/-- WRITING INTO A LIVE ARRAY: from cell `off` on the cells `xs` of some values -/
theorem Sim.write (S : Sim X n0 φ F H w) {a b n : Nat} {sh : Option Nat} {es es' : List V} (h : H[a]? = some (.arr sh es)) (hp : φ a es.length = some (b, n))
    {off : Nat} {vs : List V} {xs : List Value} (hlen : vs.length = xs.length) (hrel : ∀ j (p : j < vs.length) (q : j < xs.length), VRel φ F vs[j] xs[j] ∧ xs[j].oneCell' = true)
    (hfit : off + vs.length ≤ n)
    (hs' : ∀ e ∈ es', fits sh e = true) (hle : es.length ≤ es'.length) (hcl : (cellsOf es').length ≤ n)
    (hcells : ∀ j, j < (cellsOf es').length → (cellsOf es')[j]? = if off ≤ j ∧ j < off + vs.length then vs[j - off]? else (cellsOf es)[j]?) :
    ∃ φ' w', (storeCells ⟨b, off, none⟩ xs).run X.P w = .ok () w' ∧ φ' a es'.length = some (b, n) ∧ Sim X n0 φ' F (H.set a (.arr sh es')) w' ∧ Ext n0 φ F w φ' F w' := by
  obtain ⟨b', m, c, g1, g2, g3, g4, cs, T, rfl, g5, g6, g7, g8⟩ := S.obj a _ h trivial
  simp only [Ob.key] at g1
  rw [hp] at g1; cases g1
  obtain ⟨w', cs', k1, k2, k3, k4, k5, k6, k7, k8, k9⟩ := run_storeCells (P := X.P) (b := b) (off := off) (T := T) xs 0 w cs g4 (by omega) (by
    intro v hv
    obtain ⟨j, hj, rfl⟩ := List.getElem_of_mem hv
    exact (hrel j (by omega) hj).2)
  simp only [Nat.add_zero] at k4
  let φ' : Phi := fun a' e => if a' = a ∧ e = es'.length then some (b, n) else φ a' e
  have hlef : φ.le φ' := by
    intro a' e x hx
    by_cases hc : a' = a ∧ e = es'.length
    · obtain ⟨rfl, rfl⟩ := hc
      by_cases he : es'.length = es.length
      · rw [he, hp] at hx; cases hx; simp [φ']
      · rw [S.fut a' sh es _ h (by omega)] at hx; cases hx
    · simp [φ', hc, hx]
  have hsz := S.sz
  have hbl : b < w.heap.size := heap_lt g4
  refine ⟨φ', w', k1, by simp [φ'], ?_, hlef, Fz.le.refl _, ?_, fun _ _ => rfl⟩
  · have hal : a < H.length := (List.getElem?_eq_some_iff.1 h).1
    refine S.update (a := a) (b := b) (n := n) (o' := .arr sh es') (c := .cells cs' T (0, 0)) (by simp [hal]) (fun a' ha => by simp [Ne.symm ha]) k2 (fun k hk _ => k5 k hk) (by omega) hlef (by simp [φ', Ob.key]) ?_ g2 g3 ?_ ?_ trivial ?_ (fun _ _ e => by cases e)
    · intro a' e hx
      apply Classical.byContradiction; intro hn
      exact hx (by simp only [Ob.key] at hn; simp [φ', hn])
    · intro a' o n' ha ho hlo hp'
      exact ha (S.inj a' a o _ b n' n ho hlo h trivial hp' hp)
    · refine ⟨cs', T, rfl, by omega, hs', by omega, fun j p q => ?_⟩
      have h1 := hcells j p
      have h2 := k4 j
      rw [List.getElem?_eq_getElem p] at h1
      rw [Array.getElem?_eq_getElem q] at h2
      by_cases hc : off ≤ j ∧ j < off + vs.length
      · rw [if_pos hc] at h1
        rw [if_pos (by omega)] at h2
        have p1 : j - off < vs.length := by omega
        have p2 : j - off < xs.length := by omega
        rw [List.getElem?_eq_getElem p1] at h1
        rw [List.getElem?_eq_getElem p2] at h2
        rw [Option.some.inj h1, Option.some.inj h2]
        exact ⟨(hrel _ p1 p2).1.mono hlef (Fz.le.refl _), (hrel _ p1 p2).2⟩
      · rw [if_neg hc] at h1
        rw [if_neg (by omega)] at h2
        have p1 : j < (cellsOf es).length := by
          apply Classical.byContradiction; intro hn
          rw [List.getElem?_eq_none (by omega)] at h1; cases h1
        have p2 : j < cs.size := by omega
        rw [List.getElem?_eq_getElem p1] at h1
        rw [Array.getElem?_eq_getElem p2] at h2
        rw [Option.some.inj h1, Option.some.inj h2]
        exact ⟨(g8 j p1 p2).1.mono hlef (Fz.le.refl _), (g8 j p1 p2).2⟩
    · intro e he
      simp only [Ob.key] at he
      exact .inl (S.fut a sh es e h (by omega))
  · exact ⟨k7, k8, k9, by omega, fun k hk => k5 k (by omega)⟩

end
end Go.Ai
end
section
namespace Go.Ai
open Go Go.RowKit

theorem shOf_some {P : Program} {t : TypeId} {sh : Option Nat} (h : shOf P t = some sh) : szOf P t = some (shz sh) ∧ isAg P t = some sh.isSome := by
  unfold shOf at h
  split at h <;> first | (cases h; simp_all [shz]) | cases h

section
variable {X : Ctx} {n0 : Nat} {φ : Phi} {F : Fz} {H H' : Hp} {w : World} {t : List V} {ρ : Operand → Value} {live : Lo} {slot : Option Nat} {base : Nat} {v : V} {r : R}
variable {dst : Option Tmp} {ty : TypeId} {pos : String} {after : Array Edge} {gd : Option (Nat × Bool)}

theorem VRel.ptr_inv {a : Nat} {sh : Option Nat} {i o e : Nat} {x : Value} (h : VRel φ F (.ptr a sh i o e) x) :
    ∃ b m, φ a e = some (b, m) ∧ x = .pointer (some ⟨b, i * shz sh + o, none⟩) := by
  cases h with
  | ptr _ _ _ _ _ b m h => exact ⟨b, m, h, rfl⟩

/-- the statement for one operation -/
def Good (X : Ctx) (live : Lo) (slot : Option Nat) (o : Oper) : Prop :=
  ∀ n0 φ F H w t ρ base r v H', Sim X n0 φ F H w → Evals φ F t ρ → compOp X.P live slot o = some r → exOp t H base r = some (v, H') → OpOK X n0 φ F w (execOp ρ o) v H'

theorem ptr_rel {a : Nat} {sh : Option Nat} {b n : Nat} (h : φ a 1 = some (b, n)) : VRel φ F (.ptr a sh 0 0 1) (.pointer (some ⟨b, 0, none⟩)) := by
  simpa using VRel.ptr a sh 0 0 1 b n h

theorem good_move {x : Operand} : Good X live slot ⟨dst, .move x, ty, pos, after, gd⟩ := by
  intro n0 φ F H w t ρ base r v H' S hρ hc he
  simp only [compOp] at hc
  cases hx : ofA x with
  | none => rw [hx] at hc; cases hc
  | some a =>
    rw [hx] at hc; cases hc
    simp only [exOp] at he; cases he
    exact .same S rfl (hρ _ _ hx)
theorem good_assign {x : Operand} : Good X live slot ⟨dst, .assign x, ty, pos, after, gd⟩ := by
  intro n0 φ F H w t ρ base r v H' S hρ hc he
  simp only [compOp] at hc
  cases hx : ofA x with
  | none => rw [hx] at hc; cases hc
  | some a =>
    rw [hx] at hc; cases hc
    simp only [exOp] at he; cases he
    exact .same S rfl (hρ _ _ hx)

theorem good_pick {c a b : Operand} : Good X live slot ⟨dst, .pick c a b, ty, pos, after, gd⟩ := by
  intro n0 φ F H w t ρ base r v H' S hρ hc he
  simp only [compOp] at hc
  split at hc
  · rename_i c' a' b' h1 h2 h3
    cases hc
    simp only [exOp] at he
    split at he
    · rename_i cb hcb
      cases he
      have := hρ _ _ h1; rw [hcb] at this
      have := this.bool_inv
      refine .same (x := if cb then ρ a else ρ b) S ?_ ?_
      · simp [execOp, this, asBool]
      · cases cb
        · exact hρ _ _ h3
        · exact hρ _ _ h2
    · cases he
  · cases hc

theorem newVar_ok (S : Sim X n0 φ F H w) {a : Nat} {sh : Option Nat} {z : V} {x : Value} {T : TypeId} (hn : H.new base slot (.arr sh [z]) = some (a, H')) (hf : fits sh z = true) (hx : VRel φ F z x)
    {s : Sem Next} (hs : s.run X.P w = .ok (.value (.pointer (some ⟨w.heap.size, 0, none⟩))) { w with heap := w.heap.push (.cells x.cells T (0, 0)) }) :
    OpOK X n0 φ F w s (.ptr a sh 0 0 1) H' := by
  obtain ⟨φ', g1, g2, g3⟩ := S.new hn trivial (.cells x.cells T (0, 0)) x.cells.size (one_rel hf hx)
  exact ⟨φ', F, _, _, _, hs, .inl rfl, ptr_rel g1, g2, g3⟩

theorem good_alloc {T : TypeId} : Good X live slot ⟨dst, .alloc T, ty, pos, after, gd⟩ := by
  intro n0 φ F H w t ρ base r v H' S hρ hc he
  simp only [compOp] at hc
  split at hc
  · rename_i sh z h1 h2
    split at hc
    · rename_i hf
      cases hc
      simp only [exOp] at he
      split at he
      · rename_i a H1 hn
        cases he
        obtain ⟨x, hx1, hx2⟩ := run_zeroOf h2 w
        refine newVar_ok (T := T) S hn hf (ofC_rel hx2) ?_
        simp [execOp, Instr.alloc, hx1, newVar, newRow]
      · cases he
    · cases hc
  · cases hc

theorem good_box {T : TypeId} {x : Operand} : Good X live slot ⟨dst, .box T x, ty, pos, after, gd⟩ := by
  intro n0 φ F H w t ρ base r v H' S hρ hc he
  simp only [compOp] at hc
  split at hc
  · rename_i sh a h1 h2
    cases hc
    simp only [exOp] at he
    split at he
    · rename_i hf
      split at he
      · rename_i a' H1 hn
        cases he
        refine newVar_ok (T := T) S hn hf (hρ _ _ h2) ?_
        simp [execOp, Instr.box, newVar, newRow]
      · cases he
    · cases he
  · cases hc

theorem sureAddr_ok {P : Program} {a : Addr} {w : World} : (Instr.sureAddr (.pointer (some a))).run P w = .ok a w := rfl

theorem good_load {T : TypeId} {x : Operand} : Good X live slot ⟨dst, .load T x, ty, pos, after, gd⟩ := by
  intro n0 φ F H w t ρ base r v H' S hρ hc he
  simp only [compOp] at hc
  split at hc
  · rename_i g n a h1 h2 h3
    split at hc
    · cases hc
      simp only [exOp] at he
      have hv := hρ _ _ h3
      split at he
      · rename_i a' sh i o e ha
        split at he
        · rename_i es hes
          cases hl : loadE g n sh es i o with
          | none => rw [hl] at he; cases he
          | some v' =>
            rw [hl] at he; cases he
            rw [ha] at hv
            obtain ⟨b, m, hp, hx⟩ := hv.ptr_inv
            obtain ⟨cs, T', k1, k2, k3, k4, k5, _⟩ := live_arr S hes hp
            obtain ⟨y, y1, y2⟩ := run_loadE (P := X.P) k5 k3 hl h1 h2
            refine .same (x := y) S ?_ y2
            rw [Nat.zero_add] at y1
            simp [execOp, Instr.loadAt, hx, sureAddr_ok, y1]
        · cases he
      · rename_i sh es i o ha
        cases hl : loadE g n sh es i o with
        | none => rw [hl] at he; cases he
        | some v' =>
          rw [hl] at he; cases he
          rw [ha] at hv
          generalize hρx : ρ x = px at hv
          cases hv with
          | fptr _ _ _ _ b off y hF ho hs hh =>
            obtain ⟨z, z1, z2⟩ := run_loadE (P := X.P) (fptr_view S hF ho hh) hs hl h1 h2
            refine .same (x := z) S ?_ z2
            simp [execOp, Instr.loadAt, hρx, sureAddr_ok, z1]
      · cases he
    · cases hc
  · cases hc

theorem splice_len {cs xs : List V} {o : Nat} (h : o + xs.length ≤ cs.length) : (splice cs o xs).length = cs.length := by
  simp [splice]; omega

theorem splice_get {cs xs : List V} {o j : Nat} (h : o + xs.length ≤ cs.length) : (splice cs o xs)[j]? = if o ≤ j ∧ j < o + xs.length then xs[j - o]? else cs[j]? := by
  unfold splice
  by_cases h1 : j < o
  · rw [if_neg (by omega), List.append_assoc, List.getElem?_append_left (by simp; omega), List.getElem?_take_of_lt h1]
  · by_cases h2 : j < o + xs.length
    · rw [if_pos (by omega), List.append_assoc, List.getElem?_append_right (by simp; omega), List.getElem?_append_left (by simp; omega)]
      simp; congr 1; omega
    · rw [if_neg (by omega), List.getElem?_append_right (by simp; omega), List.getElem?_drop]
      simp; congr 1; omega

/-- one element turned: the cells of all -/
theorem cellsOf_set {sz : Nat} {es : List V} {i : Nat} {el : V} (h : ∀ e ∈ es, e.cells.length = sz) (hi : i < es.length) (he : el.cells.length = sz) {j : Nat} :
    (cellsOf (es.set i el))[j]? = if i * sz ≤ j ∧ j < i * sz + sz then el.cells[j - i * sz]? else (cellsOf es)[j]? := by
  by_cases hsz : sz = 0
  · subst hsz
    have hz : ∀ l : List V, (∀ e ∈ l, e.cells.length = 0) → cellsOf l = [] := by
      intro l hl
      induction l with
      | nil => rfl
      | cons x l ih => rw [cellsOf_cons, ih (fun e he => hl e (List.mem_cons_of_mem _ he))]; simp [List.eq_nil_of_length_eq_zero (hl x (List.mem_cons_self ..))]
    rw [hz _ h, hz _ (by intro e he'; rcases List.mem_or_eq_of_mem_set he' with h1 | rfl; exact h e h1; exact he), if_neg (by omega)]
  · have hs : ∀ e ∈ es.set i el, e.cells.length = sz := by
      intro e he'; rcases List.mem_or_eq_of_mem_set he' with h1 | rfl
      · exact h e h1
      · exact he
    have hpos : 0 < sz := by omega
    have hj : j = j / sz * sz + j % sz := by rw [Nat.mul_comm]; exact (Nat.div_add_mod j sz).symm
    have hm := Nat.mod_lt j hpos
    have e1 := cellsOf_get hs (i := j / sz) hm
    have e2 := cellsOf_get h (i := j / sz) hm
    rw [← hj] at e1 e2
    rw [e1, e2, List.getElem?_set]
    by_cases hq : i = j / sz
    · subst hq
      rw [if_pos rfl, if_pos hi, if_pos (by omega)]
      simp only [Option.bind_some]
      congr 1; omega
    · rw [if_neg hq, if_neg]
      intro ⟨a, b⟩
      exact hq ((Nat.div_eq_of_lt_le (by omega) (by rw [Nat.succ_mul]; omega)).symm)

theorem one_fits {y : V} {x : Value} (h : VRel φ F y x) (ho : x.oneCell' = true) : fits none y = true ∧ y.cells = [y] := by
  cases h <;> first | exact ⟨rfl, rfl⟩ | (simp [Value.oneCell'] at ho)

/-- what stands in an element once cells are put into it -/
theorem mkv_fits {sh : Option Nat} {cs : List V} {v : V} (h : mkv sh.isSome cs = some v) (hl : cs.length = shz sh) (ho : ∀ c ∈ cs, fits none c = true ∧ c.cells = [c]) :
    fits sh v = true ∧ v.cells = cs := by
  rcases mkv_some h with ⟨h1, rfl⟩ | ⟨h1, rfl⟩
  · cases sh with
    | none => cases h1
    | some n => simp [fits, V.cells, hl, shz]
  · cases sh with
    | none => exact ho _ (by simp)
    | some n => cases h1

theorem good_store {T : TypeId} {a x : Operand} : Good X live slot ⟨dst, .store T a x, ty, pos, after, gd⟩ := by
  intro n0 φ F H w t ρ base r v H' S hρ hc he
  simp only [compOp] at hc
  split at hc
  · rename_i n a' x' h1 h2 h3
    cases hc
    simp only [exOp] at he
    have hva := hρ _ _ h2
    have hvx := hρ _ _ h3
    split at he
    · rename_i aid sh i o e ha
      split at he
      · rename_i es hes
        split at he
        · rename_i el hel
          split at he
          · rename_i hcond
            obtain ⟨c1, c2, c3⟩ := hcond
            split at he
            · rename_i el' hmk
              cases he
              rw [ha] at hva
              obtain ⟨b, m, hp, hxa⟩ := hva.ptr_inv
              obtain ⟨g1, g2⟩ := warrAt_some hes
              obtain ⟨cs, T', k1, k2, k3, k4, k5, k6, k7, k8⟩ := live_warr S hes hp
              have hs' : ∀ e ∈ es, e.cells.length = shz sh := fun e he => fits_len (k3 e he)
              have hil : i < es.length := (List.getElem?_eq_some_iff.1 hel).1
              have hmem : el ∈ es := List.mem_of_getElem? hel
              have hell := hs' el hmem
              obtain ⟨l1, l2⟩ := hvx.cells
              -- the cells of the element are one cell each
              have hone : ∀ c ∈ splice el.cells o (evA t x').cells, fits none c = true ∧ c.cells = [c] := by
                intro c hcm
                obtain ⟨j, hj, rfl⟩ := List.getElem_of_mem hcm
                have hsp := splice_get (cs := el.cells) (xs := (evA t x').cells) (o := o) (j := j) (by omega)
                rw [List.getElem?_eq_getElem hj] at hsp
                by_cases hr : o ≤ j ∧ j < o + (evA t x').cells.length
                · rw [if_pos hr] at hsp
                  have p1 : j - o < (evA t x').cells.length := by omega
                  rw [List.getElem?_eq_getElem p1] at hsp
                  rw [Option.some.inj hsp]
                  obtain ⟨q1, q2⟩ := l2 (j - o) p1 (by omega)
                  exact one_fits q1 (q2 c3)
                · rw [if_neg hr] at hsp
                  have p1 : j < el.cells.length := by
                    apply Classical.byContradiction; intro hn; rw [List.getElem?_eq_none (by omega)] at hsp; cases hsp
                  rw [List.getElem?_eq_getElem p1] at hsp
                  rw [Option.some.inj hsp]
                  have q := cellsOf_get hs' (i := i) (o := j) (by omega)
                  rw [hel] at q; simp only [Option.bind_some] at q
                  rw [List.getElem?_eq_getElem p1] at q
                  obtain ⟨q1, q2⟩ := List.getElem?_eq_some_iff.1 q
                  obtain ⟨q3, q4⟩ := k8 _ q1 (by omega)
                  rw [q2] at q3
                  exact one_fits q3 q4
              obtain ⟨f1, f2⟩ := mkv_fits hmk (by rw [splice_len (by omega)]; exact hell) hone
              have hle' : el'.cells.length = shz sh := fits_len f1
              have hs2 : ∀ e ∈ es.set i el', fits sh e = true := by
                intro e he'; rcases List.mem_or_eq_of_mem_set he' with h1 | rfl
                · exact k3 e h1
                · exact f1
              have hlen2 : (cellsOf (es.set i el')).length = (cellsOf es).length := by
                rw [cellsOf_len hs', cellsOf_len (fun e he => fits_len (hs2 e he))]; simp
              obtain ⟨φ', w', r1, r2, r3, r4⟩ := S.write g1 (by rw [g2]; exact hp) (off := i * shz sh + o) (vs := (evA t x').cells) (xs := (ρ x).cells.toList) (es' := es.set i el')
                (by simpa using l1) (fun j p q => ⟨(l2 j p (by simpa using q)).1, (l2 j p (by simpa using q)).2 c3⟩)
                (by
                  have : i * shz sh + shz sh ≤ es.length * shz sh := by
                    have := Nat.mul_le_mul_right (shz sh) (Nat.succ_le_of_lt hil); rw [Nat.succ_mul] at this; exact this
                  rw [← cellsOf_len hs'] at this; omega)
                hs2 (by simp) (by omega)
                (by
                  intro j hj
                  rw [cellsOf_set hs' hil hle', f2]
                  by_cases hr : i * shz sh ≤ j ∧ j < i * shz sh + shz sh
                  · rw [if_pos hr, splice_get (by omega)]
                    by_cases hq : i * shz sh + o ≤ j ∧ j < i * shz sh + o + (evA t x').cells.length
                    · rw [if_pos (by omega), if_pos hq]; congr 1; omega
                    · rw [if_neg (by omega), if_neg hq]
                      have q := cellsOf_get hs' (i := i) (o := j - i * shz sh) (by omega)
                      rw [hel] at q; simp only [Option.bind_some] at q
                      rw [← q]; congr 1; omega
                  · rw [if_neg hr, if_neg (by omega)])
              have hsz : szOf X.P T = some n := h1
              refine ⟨φ', F, w', .skip, Go.undef, ?_, .inr ⟨rfl, rfl⟩, VRel.undef, r3, r4⟩
              have hsize : (ρ x).cells.size = n := by omega
              simp only [execOp, Instr.storeAt, hxa, Sem.run_bind, sureAddr_ok, Result.andThen_ok, storeVar, run_szOf hsz, hsize]
              simp [r1]
            · cases he
          · cases he
        · cases he
      · cases he
    · cases he
  · cases hc

end
end Go.Ai
end
section
namespace Go.Ai
open Go Go.RowKit

section
variable {X : Ctx} {n0 : Nat} {φ : Phi} {F : Fz} {H H' : Hp} {w : World} {t : List V} {ρ : Operand → Value} {live : Lo} {slot : Option Nat} {base : Nat} {v : V} {r : R}
variable {dst : Option Tmp} {ty : TypeId} {pos : String} {after : Array Edge} {gd : Option (Nat × Bool)}

theorem optmap_some {α β : Type} {o : Option α} {f : α → β} {y : β} (h : o.map f = some y) : ∃ x, o = some x ∧ f x = y := by
  cases o with
  | none => cases h
  | some x => exact ⟨x, rfl, Option.some.inj h⟩

theorem good_un {op : UnOp} {T : TypeId} {x : Operand} : Good X live slot ⟨dst, .unOp op T x, ty, pos, after, gd⟩ := by
  intro n0 φ F H w t ρ base r v H' S hρ hc he
  simp only [compOp] at hc
  split at hc
  · rename_i a h1
    cases hc
    simp only [exOp] at he
    obtain ⟨y, hy, he⟩ := optmap_some he
    cases he
    have hv := hρ _ _ h1
    unfold exUn at hy
    split at hy
    · rename_i k n ha
      cases hy; rw [ha] at hv
      refine .same S ?_ (.int _ _)
      simp [execOp, hv.int_inv, Op.unary, Op.intArith]
    · rename_i b ha
      cases hy; rw [ha] at hv
      refine .same S ?_ (.bool _)
      simp [execOp, hv.bool_inv, Op.unary]
    · cases hy
  · cases hc

theorem good_conv {s d : TypeId} {x : Operand} : Good X live slot ⟨dst, .convert s d x, ty, pos, after, gd⟩ := by
  intro n0 φ F H w t ρ base r v H' S hρ hc he
  simp only [compOp] at hc
  split at hc
  · rename_i u k a h1 h2 h3
    cases hc
    simp only [exOp] at he
    have hv := hρ _ _ h3
    split at he
    · rename_i k' n ha
      cases he
      rw [ha] at hv
      refine .same S ?_ (.int _ _)
      simp [execOp, convert, hv.int_inv, run_underlying h1, run_underlying h2, Conv.intToInt]
    · cases he
  · cases hc

theorem good_mkfn {fn : Fn} {a b : Array Operand} : Good X live slot ⟨dst, .makeFunc fn a b, ty, pos, after, gd⟩ := by
  intro n0 φ F H w t ρ base r v H' S hρ hc he
  cases fn with
  | func f =>
    simp only [compOp] at hc
    split at hc
    · rename_i as bs h1 h2
      cases hc
      simp only [exOp] at he; cases he
      obtain ⟨l1, k1⟩ := hρ.mapO h1
      obtain ⟨l2, k2⟩ := hρ.mapO h2
      refine .same (x := .func (.func f) (a.map ρ) (b.map ρ)) S (by simp [execOp, Instr.makeFunc]) ?_
      refine .fn _ _ _ _ _ (by simpa using l1) (by simpa using l2) (fun j p q => ?_) (fun j p q => ?_)
      · have := k1 j p (by simpa using q); simpa using this
      · have := k2 j p (by simpa using q); simpa using this
    · cases hc
  | _ => simp [compOp] at hc

theorem good_ext {x : Operand} {i : Nat} : Good X live slot ⟨dst, .extract x i, ty, pos, after, gd⟩ := by
  intro n0 φ F H w t ρ base r v H' S hρ hc he
  simp only [compOp] at hc
  split at hc
  · rename_i a h1
    cases hc
    simp only [exOp] at he
    have hv := hρ _ _ h1
    split at he
    · rename_i vs ha
      obtain ⟨y, hy, he⟩ := optmap_some he
      cases he
      rw [ha] at hv
      generalize hx : ρ x = px at hv
      cases hv with
      | tup _ cs' l h =>
        obtain ⟨hi, rfl⟩ := List.getElem?_eq_some_iff.1 hy
        refine .same (x := cs'[i]'(by omega)) S ?_ (h i hi (by omega))
        have : i < cs'.size := by omega
        simp [execOp, hx, Instr.extract, this]
    · cases he
  · cases hc

theorem good_nilchk {x : Operand} : Good X live slot ⟨dst, .nilCheck x, ty, pos, after, gd⟩ := by
  intro n0 φ F H w t ρ base r v H' S hρ hc he
  simp only [compOp] at hc
  split at hc
  · rename_i a h1
    cases hc
    simp only [exOp] at he
    have hv := hρ _ _ h1
    split at he <;> first | (cases he; done) | skip
    · rename_i ha
      cases he
      rw [ha] at hv
      obtain ⟨b, m, hp, hx⟩ := hv.ptr_inv
      refine .same (x := ρ x) S (by simp [execOp, hx]) hv
    · rename_i ha
      cases he
      rw [ha] at hv
      refine .same (x := ρ x) S ?_ hv
      generalize hx : ρ x = px at hv
      cases hv; simp [execOp, hx]
  · cases hc

theorem good_fa {T : TypeId} {x : Operand} {f : Nat} : Good X live slot ⟨dst, .fieldAddr T x f, ty, pos, after, gd⟩ := by
  intro n0 φ F H w t ρ base r v H' S hρ hc he
  simp only [compOp] at hc
  split at hc
  · rename_i fs a h1 h2
    split at hc
    · rename_i fd hfd
      split at hc
      · rename_i m hsz
        cases hc
        simp only [exOp] at he
        have hv := hρ _ _ h2
        have hrun : ∀ ad : Addr, ρ x = .pointer (some ad) → ad.spot = none → (execOp ρ ⟨dst, .fieldAddr T x f, ty, pos, after, gd⟩).run X.P w = .ok (.value (.pointer (some ⟨ad.block, ad.off + fd.offset, none⟩))) w := by
          intro ad had hsp
          obtain ⟨bb, oo, sp⟩ := ad
          simp only at hsp; subst hsp
          simp [execOp, Instr.fieldAt, run_underlying h1, hfd, had, sureAddr_ok, fieldPlace, run_szOf hsz, add_addr]
        split at he
        · rename_i ha
          cases he
          rw [ha] at hv
          obtain ⟨b, m', hp, hx⟩ := hv.ptr_inv
          refine .same S (hrun _ hx rfl) ?_
          have := VRel.ptr (F := F) _ ‹_› ‹Nat› (‹Nat› + fd.offset) _ _ _ hp
          exact (by rw [Nat.add_assoc]; exact VRel.ptr _ _ _ _ _ _ _ hp)
        · rename_i ha
          cases he
          rw [ha] at hv
          generalize hx : ρ x = px at hv
          cases hv with
          | fptr _ _ _ _ b off y hF ho hs hh =>
            refine .same S (hrun _ hx rfl) ?_
            have := VRel.fptr _ _ ‹Nat› (‹Nat› + fd.offset) b off y hF ho hs hh
            exact (by simp only [Nat.add_assoc]; exact VRel.fptr _ _ _ _ b off y hF ho hs hh)
        · cases he
      · cases hc
    · cases hc
  · cases hc

theorem sub_ok {g : Bool} {cs : List V} {cs' : Array Value} {o n : Nat} {v : V} (h : sub g cs o n = some v) (hr : VRel φ F (.agg cs) (.agg cs')) {T : TypeId} (hg : isAg X.P T = some g)
    (hn : szOf X.P T = some n) (w : World) : ∃ x, (part T cs' o).run X.P w = .ok x w ∧ VRel φ F v x := by
  cases hr with
  | agg _ _ l ho hh =>
    unfold sub at h
    split at h
    · rename_i hle
      rcases mkv_some h with ⟨rfl, rfl⟩ | ⟨rfl, h1⟩
      · refine ⟨.agg (cs'.extract o (o + n)), ?_, ?_⟩
        · simp [part, run_isAg hg, run_szOf hn]
        · refine .agg _ _ (by simp; omega) (fun j c => ?_) fun j a c => ?_
          · simp at c; simp; exact ho _ _
          · simp at c; simp only [List.getElem_take, List.getElem_drop, Array.getElem_extract]
            exact hh _ _ _
      · have hn1 : 0 < n := by
          apply Classical.byContradiction; intro hn0
          obtain rfl : n = 0 := by omega
          simp at h1
        have hoc : o < cs.length := by omega
        have : cs[o] = v := by
          have h0 : ((cs.drop o).take n)[0]? = some v := by rw [h1]; rfl
          rw [List.getElem?_take_of_lt hn1, List.getElem?_drop, List.getElem?_eq_getElem (by omega)] at h0
          exact Option.some.inj h0
        refine ⟨cs'[o]'(by omega), ?_, this ▸ hh o hoc (by omega)⟩
        have : o < cs'.size := by omega
        simp [part, run_isAg hg, this]
    · cases h

theorem good_fld {T : TypeId} {x : Operand} {f : Nat} : Good X live slot ⟨dst, .field T x f, ty, pos, after, gd⟩ := by
  intro n0 φ F H w t ρ base r v H' S hρ hc he
  simp only [compOp] at hc
  split at hc
  · rename_i fs a h1 h2
    split at hc
    · rename_i fd hfd
      split at hc
      · rename_i g n hg hn
        split at hc
        · cases hc
          simp only [exOp] at he
          have hv := hρ _ _ h2
          split at he
          · rename_i cs ha
            obtain ⟨y, hy, he⟩ := optmap_some he
            cases he
            rw [ha] at hv
            generalize hx : ρ x = px at hv
            cases hv with
            | agg _ cs' l ho hh =>
              obtain ⟨z, z1, z2⟩ := sub_ok hy (.agg _ _ l ho hh) hg hn w
              exact .same S (by simp [execOp, hx, Instr.field, run_underlying h1, hfd, asAgg, z1]) z2
          · cases he
        · cases hc
      · cases hc
    · cases hc
  · cases hc

theorem sl_inv {a : Nat} {sh : Option Nat} {i n e : Nat} {c : Option Nat} {x : Value} (h : VRel φ F (.sl a sh i n e c) x) (hn : 0 < n) :
    ∃ b m cap, φ a e = some (b, m) ∧ i + n ≤ e ∧ x = .slice (some ⟨b, i * shz sh, none⟩) n cap := by
  cases h with
  | sl _ _ _ _ _ _ b m cap h hin hc hcap => exact ⟨b, m, cap, h, hin, rfl⟩
  | slz => omega

theorem good_ia {T : TypeId} {x i : Operand} : Good X live slot ⟨dst, .indexAddr T x i, ty, pos, after, gd⟩ := by
  intro n0 φ F H w t ρ base r v H' S hρ hc he
  simp only [compOp] at hc
  split at hc
  · rename_i e a b h1 h2 h3
    split at hc
    · rename_i sz hsz
      cases hc
      simp only [exOp] at he
      have hvx := hρ _ _ h2
      have hvi := hρ _ _ h3
      split at he
      · rename_i k n hb
        rw [hb] at hvi
        split at he
        · rename_i h0
          split at he
          · rename_i a' sh i0 n' e' c ha
            split at he
            · rename_i hcond
              cases he
              rw [ha] at hvx
              obtain ⟨bb, m, cap, p1, p2, p3⟩ := sl_inv hvx (by omega)
              have hlt : n < (n' : Int) := by omega
              refine .same S (x := .pointer (some ⟨bb, i0 * shz sh + n.toNat * sz, none⟩)) ?_ ?_
              · simp [execOp, Instr.indexAt, hvi.int_inv, asIntOf, run_underlying h1, p3, h0, hlt, run_szOf hsz, add_addr]
              · have := VRel.ptr (F := F) a' sh (i0 + n.toNat) 0 e' bb m p1
                rw [← hcond.2, ← Nat.add_mul]; simpa using this
            · cases he
          · rename_i sh es ha
            split at he
            · rename_i hcond
              cases he
              rw [ha] at hvx
              generalize hx : ρ x = px at hvx
              cases hvx with
              | fsl _ _ bb off cap y hl hF ho hs hh =>
                have hlt : n < (es.length : Int) := by omega
                refine .same S (x := .pointer (some ⟨bb, off + n.toNat * sz, none⟩)) ?_ ?_
                · simp [execOp, Instr.indexAt, hvi.int_inv, asIntOf, run_underlying h1, hx, h0, hlt, run_szOf hsz, add_addr]
                · have := VRel.fptr sh es n.toNat 0 bb off y hF ho hs hh
                  rw [← hcond.2]; simpa using this
            · cases he
          · cases he
        · cases he
      · cases he
    · cases hc
  · rename_i len e a b h1 h2 h3
    split at hc
    · rename_i sz hsz
      cases hc
      simp only [exOp] at he
      have hvx := hρ _ _ h2
      have hvi := hρ _ _ h3
      split at he
      · rename_i k n hb
        rw [hb] at hvi
        split at he
        · rename_i h0
          have hrun : ∀ bb oo, ρ x = .pointer (some ⟨bb, oo, none⟩) → (execOp ρ ⟨dst, .indexAddr T x i, ty, pos, after, gd⟩).run X.P w = .ok (.value (.pointer (some ⟨bb, oo + n.toNat * sz, none⟩))) w := by
            intro bb oo hx
            simp [execOp, Instr.indexAt, hvi.int_inv, asIntOf, run_underlying h1, hx, sureAddr_ok, h0, run_szOf hsz, add_addr]
          split at he
          · rename_i ha
            cases he
            rw [ha] at hvx
            obtain ⟨bb, m, p1, p2⟩ := hvx.ptr_inv
            refine .same S (hrun _ _ p2) ?_
            rw [Nat.add_assoc]; exact VRel.ptr _ _ _ _ _ _ _ p1
          · rename_i ha
            cases he
            rw [ha] at hvx
            generalize hx : ρ x = px at hvx
            cases hvx with
            | fptr _ _ _ _ bb off y hF ho hs hh =>
              refine .same S (hrun _ _ hx) ?_
              simp only [Nat.add_assoc]; exact VRel.fptr _ _ _ _ bb off y hF ho hs hh
          · cases he
        · cases he
      · cases he
    · cases hc
  · cases hc

theorem good_idx {T : TypeId} {x i : Operand} : Good X live slot ⟨dst, .index T x i, ty, pos, after, gd⟩ := by
  intro n0 φ F H w t ρ base r v H' S hρ hc he
  simp only [compOp] at hc
  split at hc
  · rename_i len e a b h1 h2 h3
    split at hc
    · rename_i g sz hg hsz
      split at hc
      · cases hc
        simp only [exOp] at he
        have hvx := hρ _ _ h2
        have hvi := hρ _ _ h3
        split at he
        · rename_i k n cs hb ha
          rw [hb] at hvi
          split at he
          · rename_i h0
            obtain ⟨y, hy, he⟩ := optmap_some he
            cases he
            rw [ha] at hvx
            generalize hx : ρ x = px at hvx
            cases hvx with
            | agg _ cs' l ho hh =>
              obtain ⟨z, z1, z2⟩ := sub_ok hy (.agg _ _ l ho hh) hg hsz w
              refine .same S (x := z) ?_ z2
              simp [execOp, Instr.index, hvi.int_inv, asIntOf, run_underlying h1, hx, h0, run_szOf hsz, z1]
          · cases he
        · cases he
      · cases hc
    · cases hc
  · rename_i a b h1 h2 h3
    cases hc
    simp only [exOp] at he
    have hvx := hρ _ _ h2
    have hvi := hρ _ _ h3
    split at he
    · rename_i k n s hb ha
      rw [hb] at hvi; rw [ha] at hvx
      split at he
      · rename_i h0
        split at he
        · rename_i c hcb
          cases he
          refine .same S (x := .int .u8 c.toNat) ?_ (.int _ _)
          simp [execOp, Instr.index, hvi.int_inv, hvx.str_inv, asIntOf, run_underlying h1, h0, hcb]
        · cases he
      · cases he
    · cases he
  · cases hc

end
end Go.Ai
end
section
namespace Go.Ai
open Go Go.RowKit

section
variable {P : Program} {φ : Phi} {F : Fz} {w : World}

theorem ite_none_some {α : Type} {c : Prop} [Decidable c] {x : Option α} {y : α} (h : (if c then x else none) = some y) : c ∧ x = some y := by
  split at h
  · exact ⟨by assumption, h⟩
  · cases h

theorem lEq_len {ks : List LK} {a b : List V} {r : Bool} (h : lEq ks a b = some r) : a.length = ks.length ∧ b.length = ks.length := by
  induction ks generalizing a b r with
  | nil => cases a <;> cases b <;> simp [lEq] at h; exact ⟨rfl, rfl⟩
  | cons k ks ih =>
    cases k <;> cases a <;> cases b <;> (try (simp [lEq] at h; done))
    all_goals
      rename_i u as v bs
      cases u <;> cases v <;> (try (simp [lEq] at h; done))
      simp only [lEq] at h
      try (have h := (ite_none_some h).2)
      obtain ⟨s, h1, _⟩ := optmap_some h
      obtain ⟨e1, e2⟩ := ih h1
      simp [e1, e2]

theorem lEq_append {k1 k2 : List LK} {a b : List V} {r : Bool} (h : lEq (k1 ++ k2) a b = some r) :
    ∃ r1 r2, lEq k1 (a.take k1.length) (b.take k1.length) = some r1 ∧ lEq k2 (a.drop k1.length) (b.drop k1.length) = some r2 ∧ r = (r1 && r2) := by
  induction k1 generalizing a b r with
  | nil => exact ⟨true, r, by simp [lEq], by simpa using h, by simp⟩
  | cons k k1 ih =>
    rw [List.cons_append] at h
    cases k <;> cases a <;> cases b <;> (try (simp [lEq] at h; done))
    all_goals
      rename_i u as v bs
      cases u <;> cases v <;> (try (simp [lEq] at h; done))
      simp only [lEq] at h
      first
        | (obtain ⟨hk, h⟩ := ite_none_some h
           obtain ⟨s, h1, h2⟩ := optmap_some h
           obtain ⟨r1, r2, e1, e2, e3⟩ := ih h1
           refine ⟨_, r2, by simp only [List.length_cons, List.take_succ_cons, lEq]; rw [if_pos hk, e1]; rfl, by simpa using e2, ?_⟩; rw [← h2, e3]; simp [Bool.and_assoc])
        | (obtain ⟨s, h1, h2⟩ := optmap_some h
           obtain ⟨r1, r2, e1, e2, e3⟩ := ih h1
           refine ⟨_, r2, by simp only [List.length_cons, List.take_succ_cons, lEq]; rw [e1]; rfl, by simpa using e2, ?_⟩; rw [← h2, e3]; simp [Bool.and_assoc])

/-- a value of a type: its cells -/
def Holds (P : Program) (φ : Phi) (F : Fz) (t : TypeId) (a : List V) (x : Value) : Prop :=
  if isAg P t = some true then ∃ xs, x = .agg xs ∧ a.length = xs.size ∧ ∀ j (p : j < a.length) (q : j < xs.size), VRel φ F a[j] xs[j]
  else ∃ u, a = [u] ∧ VRel φ F u x

theorem part_holds {t : TypeId} {a : List V} {xs : Array Value} {o n : Nat} {g : Bool} (hl : a.length = xs.size) (hr : ∀ j (p : j < a.length) (q : j < xs.size), VRel φ F a[j] xs[j])
    (hg : isAg P t = some g) (hn : szOf P t = some n) (hgn : g = true ∨ n = 1) (hle : o + n ≤ a.length) :
    ∃ y, (part t xs o).run P w = .ok y w ∧ Holds P φ F t ((a.drop o).take n) y := by
  cases g with
  | true =>
    refine ⟨.agg (xs.extract o (o + n)), by simp [part, run_isAg hg, run_szOf hn], ?_⟩
    simp only [Holds, hg, if_true]
    refine ⟨_, rfl, by simp; omega, fun j p q => ?_⟩
    simp only [List.getElem_take, List.getElem_drop, Array.getElem_extract]
    exact hr _ _ _
  | false =>
    obtain rfl : n = 1 := by simpa using hgn
    have ho : o < xs.size := by omega
    have hoa : o < a.length := by omega
    refine ⟨xs[o], by simp [part, run_isAg hg, ho], ?_⟩
    simp only [Holds, hg]
    refine ⟨a[o], ?_, hr o hoa ho⟩
    rw [List.drop_eq_getElem_cons hoa]; simp only [List.take_succ_cons, List.take_zero]

theorem lEq_run (d : Nat) : (∀ t ks, leaves P d t = some ks → ∀ D, d ≤ D → ∀ a b x y r, Holds P φ F t a x → Holds P φ F t b y → lEq ks a b = some r → (Op.equalIn D t x y).run P w = .ok r w) := by
  induction d with
  | zero => intro t ks h; simp [leaves] at h
  | succ d ih =>
    intro t ks h D hD a b x y r ha hb he
    obtain ⟨D, rfl⟩ : ∃ D', D = D' + 1 := ⟨D - 1, by omega⟩
    simp only [leaves] at h
    split at h
    · rename_i k hu
      cases h
      have hn : ¬ isAg P t = some true := by simp [isAg, hu]
      simp only [Holds, hn, if_false] at ha hb
      obtain ⟨u, rfl, hux⟩ := ha
      obtain ⟨v, rfl, hvy⟩ := hb
      cases u <;> cases v <;> simp [lEq] at he
      obtain ⟨rfl, rfl⟩ := he
      rw [hux.int_inv, hvy.int_inv]
      simpa using run_equalIn_int (P := P) w D t _ _ _ _ hu
    · rename_i hu
      cases h
      have hn : ¬ isAg P t = some true := by simp [isAg, hu]
      simp only [Holds, hn, if_false] at ha hb
      obtain ⟨u, rfl, hux⟩ := ha
      obtain ⟨v, rfl, hvy⟩ := hb
      cases u <;> cases v <;> simp [lEq] at he
      obtain rfl := he
      rw [hux.bool_inv, hvy.bool_inv]
      simpa using run_equalIn_bool' (P := P) w D t _ _ hu
    · rename_i hu
      cases h
      have hn : ¬ isAg P t = some true := by simp [isAg, hu]
      simp only [Holds, hn, if_false] at ha hb
      obtain ⟨u, rfl, hux⟩ := ha
      obtain ⟨v, rfl, hvy⟩ := hb
      cases u <;> cases v <;> simp [lEq] at he
      obtain rfl := he
      rw [hux.str_inv, hvy.str_inv]
      simpa using run_equalIn_string (P := P) w D t _ _ hu
    · rename_i fs hu
      split at h
      · cases h
      · rename_i hst
        have hn : isAg P t = some true := by simp [isAg, hu]
        simp only [Holds, hn, if_true] at ha hb
        obtain ⟨xs, rfl, la, ra⟩ := ha
        obtain ⟨ys, rfl, lb, rb⟩ := hb
        have hf : P.fieldsOf t = fs := by simp [Program.fieldsOf, hu]
        rw [run_equalIn_struct w D t xs ys (by rw [hf]; exact hu) (by simpa using hst), hf]
        -- the fields one by one
        have key : ∀ (l : List Field) (o : Nat) (ks : List LK) (r : Bool), o ≤ a.length → o ≤ b.length → leavesF P (leaves P d) o l = some ks → lEq ks (a.drop o) (b.drop o) = some r →
            (Op.eqFields D xs ys l).run P w = .ok r w := by
          intro l
          induction l with
          | nil =>
            intro o ks r _ _ h he
            simp only [leavesF] at h; cases h
            have := lEq_len he
            have e1 : a.drop o = [] := List.eq_nil_of_length_eq_zero (by simpa using this.1)
            have e2 : b.drop o = [] := List.eq_nil_of_length_eq_zero (by simpa using this.2)
            rw [e1, e2] at he
            simp [lEq] at he
            simp [Op.eqFields, he]
          | cons f l ihl =>
            intro o ks r hoa hob h he
            simp only [leavesF] at h
            split at h
            · rename_i hcond
              simp only [Bool.and_eq_true, bne_iff_ne, beq_iff_eq] at hcond
              obtain ⟨hname, rfl⟩ := hcond
              split at h
              · rename_i lk g n m h1 h2 h3 h4
                split at h
                · rename_i hc2
                  cases h
                  simp only [Bool.and_eq_true, beq_iff_eq, Bool.or_eq_true] at hc2
                  obtain ⟨hnl, hgn⟩ := hc2
                  obtain ⟨r1, r2, e1, e2, rfl⟩ := lEq_append he
                  rw [h3] at h4
                  simp only [Option.getD_some] at h4
                  rw [← hnl] at e1 e2
                  rw [List.drop_drop] at e2
                  rw [List.drop_drop] at e2
                  have hlen := lEq_len he
                  simp only [List.length_drop, List.length_append] at hlen
                  obtain ⟨y1, p1, p2⟩ := part_holds (P := P) (w := w) (o := f.offset) la ra h2 h3 hgn (by omega)
                  obtain ⟨y2, q1, q2⟩ := part_holds (P := P) (w := w) (o := f.offset) lb rb h2 h3 hgn (by omega)
                  have hrec := ih f.type lk h1 D (by omega) _ _ y1 y2 r1 p2 q2 e1
                  have htail := ihl (f.offset + n) m r2 (by omega) (by omega) h4 e2
                  simp only [Op.eqFields, ne_eq, hname, not_false_eq_true, if_true, Sem.run_bind, p1, q1, hrec, Result.andThen_ok, Sem.run_ite]
                  cases r1
                  · simp
                  · simp [htail]
                · cases h
              · cases h
            · cases h
        refine key fs.toList 0 ks r (Nat.zero_le _) (Nat.zero_le _) h ?_
        simpa using he
    · cases h

end
end Go.Ai
end
section
namespace Go.Ai
open Go Go.RowKit

section
variable {X : Ctx} {n0 : Nat} {φ : Phi} {F : Fz} {H H' : Hp} {w : World} {t : List V} {ρ : Operand → Value} {live : Lo} {slot : Option Nat} {base : Nat} {v : V} {r : R}
variable {dst : Option Tmp} {ty : TypeId} {pos : String} {after : Array Edge} {gd : Option (Nat × Bool)}

/-- the run of a built-in -/
theorem run_builtin {P : Program} {b : Builtin} {args : Array Operand} {at' : Array TypeId} {w : World} {nx : Next} {w' : World}
    (h : ∀ cs, (Go.builtin b at' ty cs (args.map ρ)).run P w = .ok nx w') :
    (execOp ρ ⟨dst, .call { callee := .builtin b, args := args, argTypes := at' }, ty, pos, after, gd⟩).run P w = .ok nx w' := by
  simp only [execOp, Sem.run_bind]
  show ((Sem.pure _ : Sem Deferred).run P w).andThen _ = _
  simp only [Sem.run_pure', Result.andThen_ok, Go.invoke]
  exact h _

theorem slLen_rel {v : V} {n : Nat} {x : Value} (h : slLen v = some n) (hv : VRel φ F v x) : ∃ a cap, x = .slice a n cap := by
  unfold slLen at h
  split at h <;> first | (cases h; done) | skip
  · cases h; cases hv; exact ⟨_, _, rfl⟩
  · cases h
    generalize hx : x = y at hv
    cases hv with
    | mtn => exact ⟨_, _, rfl⟩
    | mts ad cap => exact ⟨_, _, rfl⟩
  · cases h; cases hv; exact ⟨_, _, rfl⟩
  · cases h
    generalize hx : x = y at hv
    cases hv with
    | sl => exact ⟨_, _, rfl⟩
    | slz => exact ⟨_, _, rfl⟩

theorem arr1 {α : Type} {a : Array α} {x : α} (h : a.toList = [x]) : a = #[x] := by
  cases a; simp_all
theorem arr2 {α : Type} {a : Array α} {x y : α} (h : a.toList = [x, y]) : a = #[x, y] := by
  cases a; simp_all

/-- the entries of a map -/
theorem mapOf_rel (S : Sim X n0 φ F H w) {v : V} {x : Value} {ks vs : List V} (h : mapOf H v = some (ks, vs)) (hv : VRel φ F v x) :
    (x = .map none ∧ ks = [] ∧ vs = []) ∨ ∃ rr es clk, x = .map (some rr) ∧ w.heap[rr]? = some (.map es clk) ∧ ks.length = es.size ∧ vs.length = es.size ∧
      (∀ j (a : j < ks.length) (b : j < es.size), VRel φ F ks[j] es[j].key) ∧ (∀ j (a : j < vs.length) (b : j < es.size), VRel φ F vs[j] es[j].val) := by
  unfold mapOf at h
  split at h
  · cases h; cases hv; exact .inl ⟨rfl, rfl, rfl⟩
  · cases h
    generalize hx : x = y at hv
    cases hv with
    | fmap _ _ b es hF hk hv h1 h2 =>
      obtain ⟨c, g1, arr, clk, rfl, rfl⟩ := S.fz _ _ hF
      exact .inr ⟨b, arr, clk, rfl, g1, by simpa using hk, by simpa using hv, fun j p q => by rw [← Array.getElem_toList q]; exact h1 j p (by simpa using q), fun j p q => by rw [← Array.getElem_toList q]; exact h2 j p (by simpa using q)⟩
  · rename_i a
    split at h
    · rename_i ks' vs' bs clk hH
      cases h
      generalize hx : x = y at hv
      cases hv with
      | mp _ b n hp =>
        obtain ⟨b', m, c, g1, g2, g3, g4, es, rfl, g5, g6, g7, g8, g9, g10⟩ := S.obj a _ hH trivial
        simp only [Ob.key] at g1
        rw [hp] at g1; cases g1
        exact .inr ⟨b, es, clk, rfl, g4, g5, g6, g8, g9⟩
    · cases h
  · cases h

theorem good_len {args : Array Operand} {at' : Array TypeId} : Good X live slot ⟨dst, .call { callee := .builtin .len, args := args, argTypes := at' }, ty, pos, after, gd⟩ := by
  intro n0 φ F H w t ρ base r v H' S hρ hc he
  simp only [compOp] at hc
  split at hc
  · rename_i x T hx hT
    obtain rfl := arr1 hx
    obtain rfl := arr1 hT
    split at hc
    · rename_i e a h1 h2
      cases hc
      simp only [exOp] at he
      obtain ⟨n, hn, he⟩ := optmap_some he
      cases he
      obtain ⟨ad, cap, hx⟩ := slLen_rel hn (hρ _ _ h2)
      refine .same S (x := .int .i64 n) (run_builtin fun cs => ?_) (.int _ _)
      simp [Go.builtin, Builtin.len_, run_underlying h1, hx, goInt]
    · rename_i a h1 h2
      cases hc
      simp only [exOp] at he
      split at he
      · rename_i s hs
        cases he
        have hv := hρ _ _ h2; rw [hs] at hv
        refine .same S (x := .int .i64 s.size) (run_builtin fun cs => ?_) (.int _ _)
        simp [Go.builtin, Builtin.len_, run_underlying h1, hv.str_inv, goInt]
      · cases he
    · rename_i k e a h1 h2
      cases hc
      simp only [exOp] at he
      obtain ⟨⟨ks, vs⟩, hn, he⟩ := optmap_some he
      cases he
      rcases mapOf_rel S hn (hρ _ _ h2) with ⟨hx, rfl, rfl⟩ | ⟨rr, es, clk, hx, hh, l1, l2, _, _⟩
      · refine .same S (x := .int .i64 0) (run_builtin fun cs => ?_) (.int _ _)
        simp [Go.builtin, Builtin.len_, run_underlying h1, hx, goInt]
      · refine .same S (x := .int .i64 es.size) (run_builtin fun cs => ?_) (by rw [← l1]; exact .int _ _)
        simp [Go.builtin, Builtin.len_, run_underlying h1, hx, goInt, getObj, Sem.run, hh]
    · rename_i n e a h1 h2
      cases hc
      simp only [exOp, evA] at he; cases he
      refine .same S (x := .int .i64 n) (run_builtin fun cs => ?_) (.int _ _)
      simp [Go.builtin, Builtin.len_, run_underlying h1, goInt]
    · cases hc
  · cases hc

theorem good_cap {args : Array Operand} {at' : Array TypeId} : Good X live slot ⟨dst, .call { callee := .builtin .cap, args := args, argTypes := at' }, ty, pos, after, gd⟩ := by
  intro n0 φ F H w t ρ base r v H' S hρ hc he
  simp only [compOp] at hc
  split at hc
  · rename_i x T hx hT
    obtain rfl := arr1 hx
    obtain rfl := arr1 hT
    split at hc
    · rename_i e a h1 h2
      cases hc
      have hv := hρ _ _ h2
      simp only [exOp] at he
      split at he
      · rename_i ha
        cases he
        rw [ha] at hv
        have hx : ρ x = .slice none 0 0 := by generalize ρ x = y at hv; cases hv; rfl
        refine .same S (x := .int .i64 0) (run_builtin fun cs => ?_) (.int _ _)
        simp [Go.builtin, Builtin.cap_, run_underlying h1, hx, goInt]
      · rename_i aid sh i n e' c ha
        cases he
        rw [ha] at hv
        generalize hx : ρ x = y at hv
        cases hv with
        | sl _ _ _ _ _ _ b m cap hp hin hcc hcap =>
          obtain ⟨rfl, _, _⟩ := hcc
          refine .same S (x := .int .i64 cap) (run_builtin fun cs => ?_) (.int _ _)
          simp [Go.builtin, Builtin.cap_, run_underlying h1, hx, goInt]
      · cases he
    · cases hc
  · cases hc

theorem good_max {args : Array Operand} {at' : Array TypeId} : Good X live slot ⟨dst, .call { callee := .builtin .max, args := args, argTypes := at' }, ty, pos, after, gd⟩ := by
  intro n0 φ F H w t ρ base r v H' S hρ hc he
  simp only [compOp] at hc
  split at hc
  · rename_i as has
    cases hc
    simp only [exOp] at he
    obtain ⟨y, hy, he⟩ := optmap_some he
    cases he
    obtain ⟨l, k⟩ := hρ.mapO has
    have key : ∀ (vs : List V) (xs : List Value), vs.length = xs.length → (∀ j (a : j < vs.length) (b : j < xs.length), VRel φ F vs[j] xs[j]) → ∀ k0 n0 u,
        vs.foldl maxS (some (.int k0 n0)) = some u →
        ∃ z, (xs.foldlM Builtin.max2 (.int k0 n0)).run X.P w = .ok z w ∧ VRel φ F u z := by
      intro vs
      induction vs with
      | nil =>
        intro xs hl _ k0 n0 u h
        obtain rfl : xs = [] := by cases xs <;> simp_all
        cases h; exact ⟨_, rfl, .int _ _⟩
      | cons a vs ih =>
        intro xs hl hr k0 n0 u h
        cases xs with
        | nil => simp at hl
        | cons b xs =>
          have hab : VRel φ F a b := hr 0 (by simp) (by simp)
          simp only [List.foldl_cons] at h
          by_cases hint : ∃ k1 n1, a = .int k1 n1
          case neg =>
            exfalso
            have h0 : maxS (some (.int k0 n0)) a = none := by cases a <;> first | rfl | exact absurd ⟨_, _, rfl⟩ hint
            rw [h0] at h
            have hn : ∀ l : List V, l.foldl maxS none = none := by
              intro l; induction l with
              | nil => rfl
              | cons x l ih => rw [List.foldl_cons]; exact ih
            rw [hn] at h; cases h
          obtain ⟨k1, n1, rfl⟩ := hint
          rw [hab.int_inv]
          obtain ⟨z, z1, z2⟩ := ih xs (by simpa using hl) (fun j p q => hr (j + 1) (by simpa using p) (by simpa using q)) k0 (if n1 > n0 then n1 else n0) u h
          exact ⟨z, by simpa [List.foldlM_cons, Builtin.max2] using z1, z2⟩
    cases hvs : as.map (evA t) with
    | nil => rw [hvs] at hy; simp [exMax] at hy
    | cons a vs =>
      rw [hvs] at hy l k
      cases hxs : args.toList.map ρ with
      | nil => rw [hxs] at l; simp at l
      | cons b xs =>
        have l' : (a :: vs).length = (b :: xs).length := by rw [hxs] at l; exact l
        have k' : ∀ j (p : j < (a :: vs).length) (q : j < (b :: xs).length), VRel φ F (a :: vs)[j] (b :: xs)[j] := by
          intro j p q
          have := k j p (by rw [hxs]; exact q)
          simpa [hxs] using this
        have hab := k' 0 (by simp) (by simp)
        simp only [List.getElem_cons_zero] at hab
        cases a <;> (try (simp [exMax] at hy; done))
        rename_i k1 n1
        simp only [exMax] at hy
        obtain ⟨z, z1, z2⟩ := key vs xs (by simpa using l') (fun j p q => by have := k' (j + 1) (by simpa using p) (by simpa using q); simp only [List.getElem_cons_succ] at this; exact this) k1 n1 _ hy
        refine .same S (x := z) (run_builtin fun cs => ?_) z2
        have : (args.map ρ).toList = b :: xs := by rw [Array.toList_map]; exact hxs
        simp only [Go.builtin, Builtin.max_, this, hab.int_inv, Sem.run_bind, z1]; rfl
  · cases hc

theorem good_min {args : Array Operand} {at' : Array TypeId} : Good X live slot ⟨dst, .call { callee := .builtin .min, args := args, argTypes := at' }, ty, pos, after, gd⟩ := by
  intro n0 φ F H w t ρ base r v H' S hρ hc he
  simp only [compOp] at hc
  split at hc
  · rename_i as has
    cases hc
    simp only [exOp] at he
    obtain ⟨y, hy, he⟩ := optmap_some he
    cases he
    obtain ⟨l, k⟩ := hρ.mapO has
    have key : ∀ (vs : List V) (xs : List Value), vs.length = xs.length → (∀ j (a : j < vs.length) (b : j < xs.length), VRel φ F vs[j] xs[j]) → ∀ k0 n0 u,
        vs.foldl minS (some (.int k0 n0)) = some u →
        ∃ z, (xs.foldlM Builtin.min2 (.int k0 n0)).run X.P w = .ok z w ∧ VRel φ F u z := by
      intro vs
      induction vs with
      | nil =>
        intro xs hl _ k0 n0 u h
        obtain rfl : xs = [] := by cases xs <;> simp_all
        cases h; exact ⟨_, rfl, .int _ _⟩
      | cons a vs ih =>
        intro xs hl hr k0 n0 u h
        cases xs with
        | nil => simp at hl
        | cons b xs =>
          have hab : VRel φ F a b := hr 0 (by simp) (by simp)
          simp only [List.foldl_cons] at h
          by_cases hint : ∃ k1 n1, a = .int k1 n1
          case neg =>
            exfalso
            have h0 : minS (some (.int k0 n0)) a = none := by cases a <;> first | rfl | exact absurd ⟨_, _, rfl⟩ hint
            rw [h0] at h
            have hn : ∀ l : List V, l.foldl minS none = none := by
              intro l; induction l with
              | nil => rfl
              | cons x l ih => rw [List.foldl_cons]; exact ih
            rw [hn] at h; cases h
          obtain ⟨k1, n1, rfl⟩ := hint
          rw [hab.int_inv]
          obtain ⟨z, z1, z2⟩ := ih xs (by simpa using hl) (fun j p q => hr (j + 1) (by simpa using p) (by simpa using q)) k0 (if n1 < n0 then n1 else n0) u h
          exact ⟨z, by simpa [List.foldlM_cons, Builtin.min2] using z1, z2⟩
    cases hvs : as.map (evA t) with
    | nil => rw [hvs] at hy; simp [exMin] at hy
    | cons a vs =>
      rw [hvs] at hy l k
      cases hxs : args.toList.map ρ with
      | nil => rw [hxs] at l; simp at l
      | cons b xs =>
        have l' : (a :: vs).length = (b :: xs).length := by rw [hxs] at l; exact l
        have k' : ∀ j (p : j < (a :: vs).length) (q : j < (b :: xs).length), VRel φ F (a :: vs)[j] (b :: xs)[j] := by
          intro j p q
          have := k j p (by rw [hxs]; exact q)
          simpa [hxs] using this
        have hab := k' 0 (by simp) (by simp)
        simp only [List.getElem_cons_zero] at hab
        cases a <;> (try (simp [exMin] at hy; done))
        rename_i k1 n1
        simp only [exMin] at hy
        obtain ⟨z, z1, z2⟩ := key vs xs (by simpa using l') (fun j p q => by have := k' (j + 1) (by simpa using p) (by simpa using q); simp only [List.getElem_cons_succ] at this; exact this) k1 n1 _ hy
        refine .same S (x := z) (run_builtin fun cs => ?_) z2
        have : (args.map ρ).toList = b :: xs := by rw [Array.toList_map]; exact hxs
        simp only [Go.builtin, Builtin.min_, this, hab.int_inv, Sem.run_bind, z1]; rfl
  · cases hc

end
end Go.Ai
end
section
namespace Go.Ai
open Go Go.RowKit

section
variable {X : Ctx} {n0 : Nat} {φ : Phi} {F : Fz} {H H' : Hp} {w : World} {t : List V} {ρ : Operand → Value} {live : Lo} {slot : Option Nat} {base : Nat} {v : V} {r : R}
variable {dst : Option Tmp} {ty : TypeId} {pos : String} {after : Array Edge} {gd : Option (Nat × Bool)}

theorem cmpInt_ok {op : BinOp} {a b : Int} {v : V} (h : cmpInt op a b = some v) (P : Program) (w : World) : ∃ y, (Op.intCmp op a b).run P w = .ok y w ∧ VRel φ F v y := by
  cases op <;> simp only [cmpInt] at h <;> cases h <;> exact ⟨_, rfl, .bool _⟩

theorem binInt_ok {op : BinOp} {k : IntKind} {a b : Int} {v : V} {T : TypeId} (hs : op ≠ .shl) (hs' : op ≠ .shr) (h : binInt op k a b = some v) (P : Program) (w : World) :
    ∃ y, (Go.binOp op T (.int k a) (.int k b)).run P w = .ok y w ∧ VRel φ F v y := by
  cases op <;> first
    | (exact absurd rfl hs)
    | (exact absurd rfl hs')
    | (simp only [binInt] at h; cases h; refine ⟨_, ?_, .int _ _⟩; simp [Go.binOp, Op.intArith]; done)
    | (simp only [binInt] at h; cases h; refine ⟨_, ?_, .int _ _⟩; simp only [Go.binOp, ne_eq, not_true_eq_false, if_false]; rfl)
    | (simp only [binInt] at h
       split at h
       · cases h
       · cases h
         rename_i hb
         exact ⟨_, by simp [Go.binOp, Op.intDiv, hb], .int _ _⟩)
    | (simp only [binInt] at h
       obtain ⟨y, y1, y2⟩ := cmpInt_ok (φ := φ) (F := F) h P w
       exact ⟨y, by simp [Go.binOp, y1], y2⟩)

theorem shiftInt_ok {op : BinOp} {k k' : IntKind} {a b : Int} {v : V} {T : TypeId} (hs : op = .shl ∨ op = .shr) (h : shiftInt op k a b = some v) (P : Program) (w : World) :
    ∃ y, (Go.binOp op T (.int k a) (.int k' b)).run P w = .ok y w ∧ VRel φ F v y := by
  unfold shiftInt at h
  split at h
  · cases h
  · rename_i hb
    rcases hs with rfl | rfl <;> (simp only at h; cases h; exact ⟨_, by simp [Go.binOp, Op.shift, hb], .int _ _⟩)

theorem strOp_ok {op : BinOp} {a b : ByteArray} {v : V} {T : TypeId} (h : strOp op a b = some v) (P : Program) (w : World) :
    ∃ y, (Go.binOp op T (.string a) (.string b)).run P w = .ok y w ∧ VRel φ F v y := by
  cases op <;> simp only [strOp] at h <;> first
    | (cases h; done)
    | (cases h; exact ⟨_, by simp [Go.binOp, Op.stringOp], .bool _⟩)
    | (split at h
       · rename_i hlt
         cases h
         refine ⟨_, ?_, .str _⟩
         have : ¬ (((a.size + b.size : Nat) : Int) > IntKind.i64.max) := by simp [IntKind.max, IntKind.signed, IntKind.bits]; omega
         simp only [Go.binOp, Op.stringOp]
         rw [if_neg this]; rfl
       · cases h)

def NK.fits (P : Program) (T : TypeId) : NK → Prop
  | .ptr => ∃ e, P.underlying T = some (.pointer e)
  | .sl => ∃ e, P.underlying T = some (.slice e)
  | .map => ∃ k e, P.underlying T = some (.map k e)
  | .fn => ∃ a b c, P.underlying T = some (.func a b c)

theorem isNil_ok {k : NK} {x y : V} {a b : Value} {r : Bool} {T : TypeId} {P : Program} (h : isNil k x y = some r) (hx : VRel φ F x a) (hy : VRel φ F y b)
    (hT : k.fits P T) (w : World) (d : Nat) : (Op.equalIn (d + 1) T a b).run P w = .ok r w := by
  cases k <;> cases x <;> cases y <;> (try (simp [isNil] at h; done)) <;> cases h <;> cases hy <;> cases hx
  all_goals
    first
      | (obtain ⟨e, he⟩ := hT; simp [Op.equalIn, run_underlying he]; done)
      | (obtain ⟨k', e, he⟩ := hT; simp [Op.equalIn, run_underlying he]; done)
      | (obtain ⟨a1, a2, a3, he⟩ := hT; simp [Op.equalIn, run_underlying he]; done)

theorem good_bin {op : BinOp} {T T' : TypeId} {x y : Operand} : Good X live slot ⟨dst, .binOp op T x y T', ty, pos, after, gd⟩ := by
  intro n0 φ F H w t ρ base r v H' S hρ hc he
  simp only [compOp] at hc
  split at hc
  · rename_i a b h1 h2
    have hva := hρ _ _ h1
    have hvb := hρ _ _ h2
    -- numbers and strings
    have bin : exOp t H base (.bin op a b) = some (v, H') → OpOK X n0 φ F w (execOp ρ ⟨dst, .binOp op T x y T', ty, pos, after, gd⟩) v H' := by
      intro he
      simp only [exOp] at he
      obtain ⟨u, hu, he⟩ := optmap_some he
      cases he
      unfold exBin at hu
      split at hu
      · rename_i k m k' m' ha hb
        rw [ha] at hva; rw [hb] at hvb
        have hg : (eqGuard op T x y (ρ x) (ρ y)).run X.P w = .ok () w := by
          rw [hva.int_inv, hvb.int_inv]; cases op <;> simp [eqGuard]
        have fin : ∀ z, (Go.binOp op T (ρ x) (ρ y)).run X.P w = .ok z w → VRel φ F v z → OpOK X n0 φ F w (execOp ρ ⟨dst, .binOp op T x y T', ty, pos, after, gd⟩) v H := by
          intro z hz hr
          exact .same S (by simp [execOp, hg, hz]) hr
        rw [hva.int_inv, hvb.int_inv] at fin
        split at hu
        · obtain ⟨z, z1, z2⟩ := shiftInt_ok (φ := φ) (F := F) (k' := k') (T := T) (.inl rfl) hu X.P w
          exact fin z z1 z2
        · obtain ⟨z, z1, z2⟩ := shiftInt_ok (φ := φ) (F := F) (k' := k') (T := T) (.inr rfl) hu X.P w
          exact fin z z1 z2
        · split at hu
          · rename_i hk
            subst hk
            obtain ⟨z, z1, z2⟩ := binInt_ok (φ := φ) (F := F) (T := T) (by intro e; subst e; simp_all) (by intro e; subst e; simp_all) hu X.P w
            exact fin z z1 z2
          · cases hu
      · rename_i s s' ha hb
        rw [ha] at hva; rw [hb] at hvb
        obtain ⟨z, z1, z2⟩ := strOp_ok (φ := φ) (F := F) (T := T) hu X.P w
        have hg : (eqGuard op T x y (ρ x) (ρ y)).run X.P w = .ok () w := by
          rw [hva.str_inv, hvb.str_inv]; cases op <;> simp [eqGuard]
        refine .same S (x := z) ?_ z2
        simp only [execOp, Sem.run_bind, hg, Result.andThen_ok]
        rw [hva.str_inv, hvb.str_inv, z1]; rfl
      · cases hu
    -- what an equality comes to
    have eql : ∀ g r, (op = .eql ∧ g = false ∨ op = .neq ∧ g = true) → (Op.equalIn 10000 T (ρ x) (ρ y)).run X.P w = .ok r w →
        (∀ k m, ρ x ≠ .int k m) → (∀ s, ρ x ≠ .string s) → (∀ k m, ρ x ≠ .float k m) → (∀ k m n, ρ x ≠ .complex k m n) → (eqGuard op T x y (ρ x) (ρ y)).run X.P w = .ok () w →
        (execOp ρ ⟨dst, .binOp op T x y T', ty, pos, after, gd⟩).run X.P w = .ok (.value (.bool (if g then !r else r))) w := by
      intro g r hop hq n1 n2 n3 n4 hg
      have : (Op.equal T (ρ x) (ρ y)).run X.P w = .ok r w := hq
      simp only [execOp, Sem.run_bind, hg, Result.andThen_ok]
      generalize ρ x = px at *
      generalize ρ y = py at *
      rcases hop with ⟨rfl, rfl⟩ | ⟨rfl, rfl⟩
      · cases px <;> first | (exact absurd rfl (n1 _ _)) | (exact absurd rfl (n2 _)) | (exact absurd rfl (n3 _ _)) | (exact absurd rfl (n4 _ _ _)) | simp [Go.binOp, this]
      · cases px <;> first | (exact absurd rfl (n1 _ _)) | (exact absurd rfl (n2 _)) | (exact absurd rfl (n3 _ _)) | (exact absurd rfl (n4 _ _ _)) | simp [Go.binOp, this]
    have hop : ∀ g, (match op with | .eql => some false | .neq => some true | _ => none) = some g → (op = .eql ∧ g = false ∨ op = .neq ∧ g = true) := by
      intro g hg; cases op <;> simp at hg <;> simp [hg]
    have nilc : ∀ g k, (op = .eql ∧ g = false ∨ op = .neq ∧ g = true) → k.fits X.P T → exOp t H base (.nileq g k a b) = some (v, H') → OpOK X n0 φ F w (execOp ρ ⟨dst, .binOp op T x y T', ty, pos, after, gd⟩) v H' := by
      intro g k hop hk he
      simp only [exOp] at he
      obtain ⟨rr, hrr, he⟩ := optmap_some he
      cases he
      have hq := isNil_ok (P := X.P) hrr hva hvb hk w 9999
      refine .same S (eql g rr hop hq ?_ ?_ ?_ ?_ ?_) (.bool _)
      all_goals
        generalize evA t a = ua at *
        generalize evA t b = ub at *
        generalize ρ x = px at *
        generalize ρ y = py at *
      · intro k' m e; subst e; cases hva; cases k <;> cases ub <;> simp [isNil] at hrr
      · intro s e; subst e; cases hva; cases k <;> cases ub <;> simp [isNil] at hrr
      · intro k' m e; subst e; cases hva
      · intro k' m n e; subst e; cases hva
      · cases k <;> cases ua <;> cases ub <;> (try (simp [isNil] at hrr; done)) <;> cases hvb <;> cases hva <;> cases op <;> simp [eqGuard]
    split at hc
    · cases hc; exact bin he
    · cases hc; exact bin he
    · cases hc; exact bin he
    · rename_i g hg hu
      cases hc
      simp only [exOp] at he
      split at he
      · rename_i p q hp hq
        cases he
        rw [hp] at hva; rw [hq] at hvb
        refine .same S (eql g (p == q) (hop g hg) ?_ ?_ ?_ ?_ ?_ ?_) (.bool _)
        · rw [hva.bool_inv, hvb.bool_inv]; exact run_equalIn_bool' (P := X.P) w 9999 T p q hu
        · rw [hva.bool_inv]; intro _ _ e; cases e
        · rw [hva.bool_inv]; intro _ e; cases e
        · rw [hva.bool_inv]; intro _ _ e; cases e
        · rw [hva.bool_inv]; intro _ _ _ e; cases e
        · rw [hva.bool_inv, hvb.bool_inv]; cases op <;> simp [eqGuard]
      · cases he
    · rename_i g e hg hu
      cases hc; exact nilc g .ptr (hop g hg) ⟨_, hu⟩ he
    · rename_i g e hg hu
      cases hc; exact nilc g .sl (hop g hg) ⟨_, hu⟩ he
    · rename_i g k e hg hu
      cases hc; exact nilc g .map (hop g hg) ⟨_, _, hu⟩ he
    · rename_i g p q s hg hu
      cases hc; exact nilc g .fn (hop g hg) ⟨_, _, _, hu⟩ he
    · rename_i g fs hg hu
      split at hc
      · cases hc
      · rename_i hgt
        obtain ⟨ks, hks, hc⟩ := optmap_some hc
        cases hc
        simp only [exOp] at he
        split at he
        · rename_i p q hp hq
          obtain ⟨rr, hrr, he⟩ := optmap_some he
          cases he
          rw [hp] at hva; rw [hq] at hvb
          have hag : isAg X.P T = some true := by simp [isAg, hu]
          obtain ⟨xs, hx, lx, rx⟩ : ∃ xs, ρ x = .agg xs ∧ p.length = xs.size ∧ ∀ j (u : j < p.length) (z : j < xs.size), VRel φ F p[j] xs[j] := by
            generalize ρ x = px at hva; cases hva with | agg _ cs' l ho hh => exact ⟨cs', rfl, l, hh⟩
          obtain ⟨ys, hy, ly, ry⟩ : ∃ xs, ρ y = .agg xs ∧ q.length = xs.size ∧ ∀ j (u : j < q.length) (z : j < xs.size), VRel φ F q[j] xs[j] := by
            generalize ρ y = py at hvb; cases hvb with | agg _ cs' l ho hh => exact ⟨cs', rfl, l, hh⟩
          have hq := lEq_run (P := X.P) (φ := φ) (F := F) (w := w) 9 T ks hks 10000 (by omega) p q (.agg xs) (.agg ys) rr (by simp only [Holds, hag, if_true]; exact ⟨xs, rfl, lx, rx⟩) (by simp only [Holds, hag, if_true]; exact ⟨ys, rfl, ly, ry⟩) hrr
          refine .same S (eql g rr (hop g hg) (by rw [hx, hy]; exact hq) ?_ ?_ ?_ ?_ ?_) (.bool _)
          · rw [hx]; intro _ _ e; cases e
          · rw [hx]; intro _ e; cases e
          · rw [hx]; intro _ _ e; cases e
          · rw [hx]; intro _ _ _ e; cases e
          · rw [hx, hy]; exact run_eqGuard_agg w op T x y xs ys (by simpa using hgt)
        · cases he
    · cases hc
  · cases hc

end
end Go.Ai
end
section
namespace Go.Ai
open Go Go.RowKit

section
variable {X : Ctx} {n0 : Nat} {φ : Phi} {F : Fz} {H H' : Hp} {w : World} {t : List V} {ρ : Operand → Value} {live : Lo} {slot : Option Nat} {base : Nat} {v : V} {r : R}
variable {dst : Option Tmp} {ty : TypeId} {pos : String} {after : Array Edge} {gd : Option (Nat × Bool)}

theorem good_mkmap {T : TypeId} {rs : Option Operand} : Good X live slot ⟨dst, .makeMap T rs, ty, pos, after, gd⟩ := by
  intro n0 φ F H w t ρ base r v H' S hρ hc he
  simp only [compOp] at hc
  have key : ∀ sl, exOp t H base (.mkmap sl) = some (v, H') → (execOp ρ ⟨dst, .makeMap T rs, ty, pos, after, gd⟩).run X.P w = .ok (.value (.map (some w.heap.size))) { w with heap := w.heap.push (.map #[] 0) } →
      OpOK X n0 φ F w (execOp ρ ⟨dst, .makeMap T rs, ty, pos, after, gd⟩) v H' := by
    intro sl he hr
    simp only [exOp] at he
    split at he
    · rename_i a H1 hn
      cases he
      obtain ⟨φ', g1, g2, g3⟩ := S.new hn trivial (.map #[] 0) 0 ⟨#[], rfl, rfl, rfl, rfl, fun j a => absurd a (by simp), fun j a => absurd a (by simp), fun j a => absurd a (by simp)⟩
      exact ⟨φ', F, _, _, _, hr, .inl rfl, .mp _ _ _ g1, g2, g3⟩
    · cases he
  split at hc
  · cases hc
    exact key _ he (by simp [execOp, Instr.makeMap])
  · rename_i k n k' e hu
    cases hc
    have hk := (hρ (.const (.int k n)) (.c (.int k n)) rfl).int_inv
    exact key _ he (by simp [execOp, Instr.makeMap, run_underlying hu, asInt, hk, asIntOf])
  · cases hc

theorem replicate_cells {n : Nat} {z : V} : cellsOf (List.replicate n z) = (List.replicate n z.cells).flatten := by
  simp [cellsOf, List.flatMap_replicate]

/-- the zero cells of n elements -/
theorem zero_rows {z : V} {x : Value} {sh : Option Nat} (hz : fits sh z = true) (hx : VRel φ F z x) (hpos : 0 < shz sh) (n : Nat) :
    let cs := (Array.range (n * x.cells.size)).map fun i => x.cells[i % x.cells.size]!
    (cellsOf (List.replicate n z)).length = cs.size ∧ ∀ j (a : j < (cellsOf (List.replicate n z)).length) (b : j < cs.size), VRel φ F (cellsOf (List.replicate n z))[j] cs[j] ∧ cs[j].oneCell' = true := by
  obtain ⟨l, k⟩ := hx.cells
  have hl := fits_len hz
  have hs : ∀ e ∈ List.replicate n z, e.cells.length = shz sh := by intro e he; rw [List.eq_of_mem_replicate he]; exact hl
  intro cs
  have hsz : cs.size = n * shz sh := by simp [cs, ← l, hl]
  refine ⟨by rw [cellsOf_len hs]; simp [hsz], fun j a b => ?_⟩
  have hm := Nat.mod_lt j hpos
  have hj : j = j / shz sh * shz sh + j % shz sh := by rw [Nat.mul_comm]; exact (Nat.div_add_mod j _).symm
  have hq : j / shz sh < n := by rw [Nat.div_lt_iff_lt_mul hpos]; omega
  have e1 := cellsOf_get hs (i := j / shz sh) hm
  rw [← hj, List.getElem?_eq_getElem a, List.getElem?_replicate_of_lt hq] at e1
  simp only [Option.bind_some] at e1
  have hzl : j % shz sh < z.cells.length := by omega
  rw [List.getElem?_eq_getElem hzl] at e1
  rw [Option.some.inj e1]
  have hcs : cs[j] = x.cells[j % shz sh]'(by omega) := by
    have hx' : x.cells.size = shz sh := by omega
    have hlt : j % shz sh < x.cells.size := by omega
    simp only [cs, Array.getElem_map, Array.getElem_range]
    have hlt' : j % x.cells.size < x.cells.size := Nat.mod_lt _ (by omega)
    rw [getElem!_pos x.cells _ hlt']
    simp only [hx']
  rw [hcs]
  exact ⟨(k _ hzl (by omega)).1, (k _ hzl (by omega)).2 (fits_okv hz)⟩

theorem good_mksl {T : TypeId} {l c : Operand} : Good X live slot ⟨dst, .makeSlice T l c, ty, pos, after, gd⟩ := by
  intro n0 φ F H w t ρ base r v H' S hρ hc he
  simp only [compOp] at hc
  split at hc
  · rename_i e hu
    split at hc
    · rename_i sh z b al ac h1 h2 h3 h4 h5
      obtain ⟨hcond, hc⟩ := ite_none_some hc
      cases hc
      simp only [Bool.and_eq_true, decide_eq_true_eq] at hcond
      obtain ⟨hf, hpos⟩ := hcond
      simp only [exOp] at he
      have hvl := hρ _ _ h4
      have hvc := hρ _ _ h5
      split at he
      · rename_i ln cn hl hcn
        rw [hl] at hvl; rw [hcn] at hvc
        obtain ⟨⟨g1, g2, g3⟩, he⟩ := ite_none_some he
        split at he
        · rename_i a H1 hn
          cases he
          obtain ⟨x, hx1, hx2⟩ := run_zeroOf h2 w
          have hx3 : VRel φ F z x := ofC_rel hx2
          obtain ⟨z1, z2⟩ := zero_rows hf hx3 hpos cn.toNat
          have hsz := (shOf_some h1).1
          obtain ⟨inf, hinf, hb⟩ := optmap_some h3
          have hxs : x.cells.size = shz sh := by rw [← hx3.cells.1]; exact fits_len hf
          have hcb1 : cn * 1 ≤ cn * ((b : Int) + 1) := Int.mul_le_mul (Int.le_refl _) (show (1 : Int) ≤ (b : Int) + 1 by omega) (by omega) (by omega)
          have wl : IntKind.i64.wrap ln = ln := IntWalk.i64_in _ (by omega)
          have wc : IntKind.i64.wrap cn = cn := IntWalk.i64_in _ (by omega)
          have hcb : (b : Int) * cn ≤ 2 ^ 47 := by
            have : cn * ((b : Int) + 1) = (b : Int) * cn + cn := by rw [Int.mul_add, Int.mul_one, Int.mul_comm]
            omega
          have hlb : (b : Int) * ln ≤ 2 ^ 47 := Int.le_trans (Int.mul_le_mul_of_nonneg_left g2 (by omega)) hcb
          let cs := (Array.range (cn.toNat * x.cells.size)).map fun i => x.cells[i % x.cells.size]!
          have hcs : cs.size = cn.toNat * shz sh := by simp [cs, hxs]
          obtain ⟨φ', p1, p2, p3⟩ := S.new hn trivial (.cells cs e (0, 0)) cs.size
            (arr_rel (by intro e' he'; rw [List.eq_of_mem_replicate he']; exact hf) (Nat.le_of_eq z1) z2)
          refine ⟨φ', F, _, .value (.slice (some ⟨w.heap.size, 0, none⟩) ln.toNat cn.toNat), _, ?_, .inl rfl, ?_, p2, p3⟩
          · simp only [execOp, Sem.run_bind, hvl.int_inv, hvc.int_inv]
            have hrun : (Instr.makeSlice T (.int .i64 ln) (.int .i64 cn)).run X.P w = .ok (.slice (some ⟨w.heap.size, 0, none⟩) ln.toNat cn.toNat) { w with heap := w.heap.push (.cells cs e (0, 0)) } := by
              have hinfo : (typeInfo e).run X.P w = .ok inf w := by simp [typeInfo, hinf]
              simp only [Instr.makeSlice, Sem.run_bind, run_underlying hu, Result.andThen_ok, asInt, asIntOf, Sem.run_pure, hinfo, wl, wc, hb]
              have t1 : (decide (cn < 0) || decide ((b : Int) * cn > 2 ^ 48)) = false := by simp; omega
              have t2 : (decide (ln < 0) || decide (ln > cn)) = false := by simp; omega
              simp only [t1, Bool.false_or, t2, Bool.false_eq_true, if_false]
              simp only [Sem.run_bind, run_askRoom, Result.andThen_ok, run_szOf hsz]
              by_cases hz0 : cn.toNat * shz sh = 0
              · simp only [hz0, if_true, Sem.run_bind, Sem.run_pure, Result.andThen_ok]
                have e0 : Array.range 0 = #[] := rfl
                simp [newRow, cs, hxs, hz0, e0]
              · simp only [hz0, if_false, Sem.run_bind, hx1, Sem.run_pure, Result.andThen_ok]
                simp [newRow, cs, hxs]
            rw [hrun]; rfl
          · have := VRel.sl (F := F) a sh 0 ln.toNat cn.toNat (some cn.toNat) w.heap.size cs.size cn.toNat (by simpa [Ob.key] using p1) (by omega) ⟨rfl, by omega, by omega⟩ (by rw [hcs]; simp)
            simpa using this
        · cases he
      · cases he
    · cases hc
  · cases hc

end
end Go.Ai
end
