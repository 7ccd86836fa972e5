/- Calls of known functions agree with the model; the judgement W says what abstract code must do. -/
import Derived.Test.YtcocemppeccldaaGreatDoorAiD
set_option linter.unusedVariables false
set_option linter.unusedSimpArgs false
section
namespace Go.Ai
open Go Go.RowKit

/-! ### loops over functions, and what is put off -/
section
variable {X : Ctx} {n0 : Nat} {φ : Phi} {F : Fz} {H : Hp} {w : World} {P : Program}

theorem run_getLoop {lb : Nat} {r : Loop} (h : w.heap[lb]? = some (.loop r)) : (Instr.getLoop lb).run P w = .ok r w := by
  simp [Instr.getLoop, getObj, Sem.run, h]

theorem live_loop (S : Sim X n0 φ F H w) {l lb n : Nat} {st : LoopState} {pend : Option Jump} {t : List V} {ps : List Nat} {asn body : RC} (h : H[l]? = some (.loop st pend t ps asn body)) (hp : φ l 0 = some (lb, n)) :
    ∃ r, w.heap[lb]? = some (.loop r) ∧ ORel X φ F (.loop st pend t ps asn body) n (.loop r) ∧ n0 ≤ lb ∧ F lb = none := by
  obtain ⟨b', m, c, g1, g2, g3, g4, g5⟩ := S.obj l _ h trivial
  simp only [Ob.key] at g1
  rw [hp] at g1; cases g1
  obtain ⟨r, rfl, g6⟩ := g5
  exact ⟨r, g4, ⟨r, rfl, g6⟩, g2, g3⟩

/-- an object is forgotten -/
theorem Sim.forget (S : Sim X n0 φ F H w) (a : Nat) : Sim X n0 φ F (H.set a .dead) w := by
  have key : ∀ (a' : Nat) (o : Ob), (H.set a .dead)[a']? = some o → o.live → H[a']? = some o := by
    intro a' o h hl
    rw [List.getElem?_set] at h
    split at h
    · split at h
      · cases h; exact absurd hl (by simp [Ob.live])
      · cases h
    · exact h
  refine ⟨S.sz, fun a' e h => ?_, fun a' e h => ?_, fun a' sh es e h => ?_, fun a' o h hl => S.obj a' o (key a' o h hl) hl, fun a' a'' o o' b n n' h hl h' hl' => S.inj a' a'' o o' b n n' (key _ _ h hl) hl (key _ _ h' hl') hl', S.fz, S.f0⟩
  · rw [List.getElem?_set] at h
    split at h
    · split at h
      · cases h
      · rename_i hh hlt; subst hh; exact S.len _ e (List.getElem?_eq_none (by omega))
    · exact S.len a' e h
  · rw [List.getElem?_set] at h
    split at h
    · split at h <;> cases h
    · exact S.non a' e h
  · exact S.fut a' sh es e (key a' _ h trivial)

theorem ORel.setState {l : Loop} {st st' : LoopState} {pend pend' : Option Jump} {t : List V} {ps : List Nat} {asn body : RC} {n : Nat} (h : ORel X φ F (.loop st pend t ps asn body) n (.loop l)) :
    ORel X φ F (.loop st' pend' t ps asn body) n (.loop { l with state := st', pending := pend'.map Jump.code }) := by
  obtain ⟨l', h1, h2, h3, h4, h5⟩ := h
  cases h1
  exact ⟨_, rfl, rfl, rfl, h4, h5⟩

theorem begin_ok (S : Sim X n0 φ F H w) {l lb n : Nat} {pend : Option Jump} {t : List V} {ps : List Nat} {asn body : RC} (h : H[l]? = some (.loop .ready pend t ps asn body)) (hp : φ l 0 = some (lb, n)) :
    ∃ w', (Instr.beginRound lb).run P w = .ok () w' ∧ Sim X n0 φ F (H.set l (.loop .busy pend t ps asn body)) w' ∧ Ext n0 φ F w φ F w' := by
  obtain ⟨r, h1, h2, _, _⟩ := live_loop S h hp
  have h2' := h2
  obtain ⟨l', e, k1, k2, _⟩ := h2'
  cases e
  have := S.turn h trivial rfl hp rfl trivial (fun _ _ e => by cases e) h1 (c' := .loop { r with state := .busy }) (o' := .loop .busy pend t ps asn body) (by
    have := ORel.setState (st' := .busy) (pend' := pend) h2
    rw [← k2] at this; exact this)
  refine ⟨_, ?_, this.1, this.2⟩
  simp [Instr.beginRound, run_getLoop h1, setObj, Sem.run, h1, k1]

theorem end_ok (S : Sim X n0 φ F H w) {l lb n : Nat} {st : LoopState} {pend : Option Jump} {t : List V} {ps : List Nat} {asn body : RC} (h : H[l]? = some (.loop st pend t ps asn body)) (hp : φ l 0 = some (lb, n)) (j : Option Jump) :
    ∃ w', (Instr.endRound lb (j.map Jump.code)).run P w = .ok (.bool j.isNone) w' ∧ Sim X n0 φ F (H.set l (.loop (if j.isNone then .ready else .done) j t ps asn body)) w' ∧ Ext n0 φ F w φ F w' := by
  obtain ⟨r, h1, h2, _, _⟩ := live_loop S h hp
  have := S.turn h trivial rfl hp (o' := .loop (if j.isNone then .ready else .done) j t ps asn body) rfl trivial (fun _ _ e => by cases e) h1 (ORel.setState (st' := if j.isNone then .ready else .done) (pend' := j) h2)
  refine ⟨_, ?_, this.1, this.2⟩
  cases j <;> simp [Instr.endRound, run_getLoop h1, setObj, Sem.run, h1]

theorem endLoop_ok (S : Sim X n0 φ F H w) {l lb n : Nat} {st : LoopState} {pend : Option Jump} {t : List V} {ps : List Nat} {asn body : RC} (h : H[l]? = some (.loop st pend t ps asn body)) (hp : φ l 0 = some (lb, n)) (hb : st ≠ .busy) :
    ∃ w', (Instr.endLoop lb).run P w = .ok (pend.map Jump.code) w' ∧ Sim X n0 φ F (H.set l (.loop .exhausted pend t ps asn body)) w' ∧ Ext n0 φ F w φ F w' := by
  obtain ⟨r, h1, h2, _, _⟩ := live_loop S h hp
  have h2' := h2
  obtain ⟨l', e, k1, k2, _⟩ := h2'
  cases e
  have := S.turn h trivial rfl hp rfl trivial (fun _ _ e => by cases e) h1 (c' := .loop { r with state := .exhausted }) (o' := .loop .exhausted pend t ps asn body) (by
    have := ORel.setState (st' := .exhausted) (pend' := pend) h2
    rw [← k2] at this; exact this)
  refine ⟨_, ?_, this.1, this.2⟩
  have : ¬ r.state = LoopState.busy := by rw [k1]; exact hb
  simp [Instr.endLoop, run_getLoop h1, setObj, Sem.run, h1, this, k2]

theorem take_ok (S : Sim X n0 φ F H w) {a b n : Nat} (h : H[a]? = some .defd) (hp : φ a 0 = some (b, n)) :
    ∃ w', (Instr.takeDeferred b).run P w = .ok [] w' ∧ Sim X n0 φ F (H.set a .dead) w' ∧ Ext n0 φ F w φ F w' := by
  obtain ⟨b', m, c, g1, g2, g3, g4, g5⟩ := S.obj a _ h trivial
  simp only [Ob.key] at g1
  rw [hp] at g1; cases g1
  simp only [ORel] at g5
  subst g5
  have S1 := S.forget a
  have hbl := heap_lt g4
  refine ⟨{ w with heap := w.heap.setIfInBounds b (.deferred none) }, by simp [Instr.takeDeferred, getObj, setObj, Sem.run, g4], ?_, ?_⟩
  · refine ⟨by simp [S1.sz], S1.len, S1.non, S1.fut, fun a' o ho hl => ?_, S1.inj, fun k fo hk => ?_, S1.f0⟩
    · obtain ⟨b1, n1, c1, k1, k2, k3, k4, k5⟩ := S1.obj a' o ho hl
      refine ⟨b1, n1, c1, k1, k2, k3, ?_, k5⟩
      have hne : b ≠ b1 := by
        intro e; subst e
        have ho' : H[a']? = some o := by
          rw [List.getElem?_set] at ho
          split at ho
          · split at ho
            · cases ho; exact absurd hl (by simp [Ob.live])
            · cases ho
          · exact ho
        have := S.inj a' a o .defd b n1 n ho' hl h trivial k1 hp
        subst this
        rw [List.getElem?_set, if_pos rfl] at ho
        split at ho
        · cases ho; exact absurd hl (by simp [Ob.live])
        · cases ho
      simp [hne, k4]
    · obtain ⟨c1, k1, k2⟩ := S1.fz k fo hk
      refine ⟨c1, ?_, k2⟩
      have hne : b ≠ k := by intro e; subst e; rw [g3] at hk; cases hk
      simp [hne, k1]
  · refine ⟨Phi.le.refl _, Fz.le.refl _, ⟨rfl, rfl, rfl, by simp, fun k hk => ?_⟩, fun _ _ => rfl⟩
    have : b ≠ k := by omega
    simp [this]

end


/-! ### freezing for good -/

theorem content_rel {c : Obj} {fo : FO} (h : content c = some fo) : FRel fo c := by
  cases c <;> simp only [content] at h <;> first | cases h | skip
  · exact ⟨_, _, _, rfl, rfl⟩
  · exact ⟨_, _, rfl, rfl⟩

theorem Sim.tag1 {X : Ctx} {n0 : Nat} {φ : Phi} {F : Fz} {H : Hp} {w : World} (S : Sim X n0 φ F H w) (a : Nat) : ∃ F', Sim X n0 φ F' (tag1 H a) w ∧ Ext n0 φ F w φ F' w := by
  unfold Ai.tag1
  split
  · rename_i sh es ha
    obtain ⟨b, n, c, g1, g2, g3, g4, g5⟩ := S.obj a _ ha trivial
    have g3' : F b = none := g3
    have hal : a < H.length := (List.getElem?_eq_some_iff.1 ha).1
    let F' : Fz := fun k => if k = b then content c else F k
    have hF : F.le F' := by
      intro k x hk
      have : k ≠ b := by intro e; subst e; rw [g3'] at hk; cases hk
      simp [F', this, hk]
    have hold : ∀ (a' : Nat) (o : Ob), (H.set a (.fz sh es))[a']? = some o → o.live → ∃ o0, H[a']? = some o0 ∧ o0.live ∧ o0.key = o.key := by
      intro a' o ho hl
      rw [List.getElem?_set] at ho
      split at ho
      · rename_i e; subst e
        cases ho
        exact ⟨_, ha, trivial, rfl⟩
      · exact ⟨o, ho, hl, rfl⟩
    refine ⟨F', ⟨S.sz, fun a' e h => ?_, fun a' e h => ?_, fun a' sh' es' e h => ?_, fun a' o ho hl => ?_, fun a1 a2 o1 o2 b' m m' h1 l1 h2 l2 e1 e2 => ?_, fun k fo hk => ?_, Fz.le.trans S.f0 hF⟩, Phi.le.refl _, hF, .refl _ _, fun k hk => ?_⟩
    · refine S.len a' e ?_
      rw [List.getElem?_eq_none_iff] at h ⊢
      simpa using h
    · rw [List.getElem?_set] at h
      split at h
      · cases h
      · exact S.non a' e h
    · rw [List.getElem?_set] at h
      split at h
      · cases h
      · exact S.fut a' sh' es' e h
    · by_cases e : a' = a
      · subst e
        rw [List.getElem?_set, if_pos rfl, if_pos hal] at ho; cases ho
        refine ⟨b, n, c, g1, g2, by simp [FC, F'], g4, ?_⟩
        exact ORel.mono (o := .fz sh es) (Phi.le.refl _) hF g5
      · rw [List.getElem?_set, if_neg (Ne.symm e)] at ho
        obtain ⟨b', m, c', k1, k2, k3, k4, k5⟩ := S.obj a' o ho hl
        have hne : b' ≠ b := by
          intro e'; subst e'
          exact e (S.inj a' a o _ b' m n ho hl ha trivial k1 g1)
        exact ⟨b', m, c', k1, k2, k3.congr (by simp [F', hne]), k4, k5.mono (Phi.le.refl _) hF⟩
    · obtain ⟨p1, q1, r1, t1⟩ := hold a1 o1 h1 l1
      obtain ⟨p2, q2, r2, t2⟩ := hold a2 o2 h2 l2
      exact S.inj a1 a2 p1 p2 b' m m' q1 r1 q2 r2 (by rw [t1]; exact e1) (by rw [t2]; exact e2)
    · by_cases e : k = b
      · subst e
        simp only [F', if_pos] at hk
        exact ⟨c, g4, content_rel hk⟩
      · simp only [F', if_neg e] at hk
        exact S.fz k fo hk
    · have : k ≠ b := by omega
      simp [F', this]
  · exact ⟨F, S, .refl _ _ _ _⟩

theorem Sim.tags {X : Ctx} {n0 : Nat} {φ : Phi} {w : World} : ∀ (l : List Nat) {F : Fz} {H : Hp}, Sim X n0 φ F H w → ∃ F', Sim X n0 φ F' (l.foldl Ai.tag1 H) w ∧ Ext n0 φ F w φ F' w := by
  intro l
  induction l with
  | nil => intro F H S; exact ⟨F, S, .refl _ _ _ _⟩
  | cons a l ih =>
    intro F H S
    obtain ⟨F1, S1, e1⟩ := S.tag1 a
    obtain ⟨F2, S2, e2⟩ := ih S1
    exact ⟨F2, S2, e1.trans e2⟩

/-! ### comp and labels -/

theorem findL_ok {P : Program} {md : FuncId → Option FMode} {live : Lv} {N l : Nat} : ∀ {code : Code} {c : RC}, comp P md live N code = some c →
    match findLabel code l with
    | some code' => ∃ c', findL c l = some c' ∧ comp P md live N code' = some c'
    | none => findL c l = none := by
  intro code
  induction code with
  | seq a b iha ihb =>
    intro c h
    simp only [comp] at h
    split at h
    · rename_i a' b' ha hb
      cases h
      have h1 := iha ha
      have h2 := ihb hb
      simp only [findLabel, findL]
      cases hf : findLabel a l with
      | some r =>
        rw [hf] at h1
        obtain ⟨c', k1, k2⟩ := h1
        simp only [k1]
        exact ⟨_, rfl, by simp [comp, k2, hb]⟩
      | none =>
        rw [hf] at h1
        simp only [h1]
        exact h2
    · cases h
  | label l' =>
    intro c h
    simp only [comp] at h
    cases h
    simp only [findLabel, findL]
    by_cases e : l' = l
    · subst e; simp [comp]
    · simp [e]
  | region id ops d =>
    intro c h
    simp only [findLabel]
    cases d with
    | false => simp only [comp] at h; obtain ⟨z, _, rfl⟩ := optmap_some h; rfl
    | true =>
      simp only [comp] at h
      obtain ⟨k, l', chk, _, rfl, _⟩ := compDraw_ok h
      rfl
  | _ =>
    intro c h
    simp only [comp] at h
    simp only [findLabel]
    first
      | (cases h; rfl)
      | (obtain ⟨z, _, rfl⟩ := optmap_some h; rfl)
      | (split at h <;> first | (cases h; rfl) | (split at h <;> first | (cases h; rfl) | cases h) | cases h)

end Go.Ai
end
section
namespace Go.Ai
open Go Go.RowKit

/-! ### freezing -/

theorem frzs_mem {l : List V} : frzs l = true ↔ ∀ e ∈ l, frz e = true := by
  induction l with
  | nil => simp [frzs]
  | cons x l ih => simp [frzs, ih]
theorem scals_mem {l : List V} : scals l = true ↔ ∀ e ∈ l, scal e = true := by
  induction l with
  | nil => simp [scals]
  | cons x l ih => simp [scals, ih]

theorem frz_cells {v : V} (h : frz v = true) : ∀ c ∈ v.cells, frz c = true := by
  cases v <;> simp only [V.cells, List.mem_singleton, forall_eq] <;> first | exact h | (simp only [frz] at h; exact frzs_mem.1 h)

theorem cellsOf_mem {es : List V} {c : V} (h : c ∈ cellsOf es) : ∃ e ∈ es, c ∈ e.cells := by
  simpa [cellsOf] using h

theorem frz_rel {φ φ' : Phi} {F F' : Fz} (hF : F.le F') {v : V} {x : Value} (h : VRel φ F v x) : frz v = true → VRel φ' F' v x := by
  induction h with
  | bool b => intro _; exact .bool b
  | int k n => intro _; exact .int k n
  | str s => intro _; exact .str s
  | nilp => intro _; exact .nilp
  | fptr sh es i o b off x hf ho hs _ ih =>
    intro hz
    simp only [frz] at hz
    refine .fptr sh es i o b off x (fun j hj => fcell_mono hF (hf j hj)) ho hs fun j hj => ih j hj ?_
    obtain ⟨e, he, hc⟩ := cellsOf_mem (List.getElem_mem hj)
    exact frz_cells (frzs_mem.1 hz e he) _ hc
  | fsl sh es b off cap x hl hf ho hs _ ih =>
    intro hz
    simp only [frz, Bool.and_eq_true] at hz
    refine .fsl sh es b off cap x hl (fun j hj => fcell_mono hF (hf j hj)) ho hs fun j hj => ih j hj ?_
    obtain ⟨e, he, hc⟩ := cellsOf_mem (List.getElem_mem hj)
    exact frz_cells (frzs_mem.1 hz.2 e he) _ hc
  | mtn => intro _; exact .mtn
  | mts ad cap => intro _; exact .mts ad cap
  | nilm => intro _; exact .nilm
  | fmap ks vs b es hf hk hv _ _ i1 i2 =>
    intro hz
    simp only [frz, Bool.and_eq_true] at hz
    exact .fmap ks vs b es (hF _ _ hf) hk hv (fun j a c => i1 j a c (frzs_mem.1 hz.1 _ (List.getElem_mem a))) (fun j a c => i2 j a c (frzs_mem.1 hz.2 _ (List.getElem_mem a)))
  | fn f first caps first' caps' l1 l2 _ _ i1 i2 =>
    intro hz
    simp only [frz, Bool.and_eq_true] at hz
    exact .fn f first caps first' caps' l1 l2 (fun j a c => i1 j a c (frzs_mem.1 hz.1 _ (List.getElem_mem a))) (fun j a c => i2 j a c (frzs_mem.1 hz.2 _ (List.getElem_mem a)))
  | nilf => intro _; exact .nilf
  | agg cs cs' l ho _ ih =>
    intro hz
    simp only [frz] at hz
    exact .agg cs cs' l ho fun j a c => ih j a c (frzs_mem.1 hz _ (List.getElem_mem a))
  | tup cs cs' l _ ih =>
    intro hz
    simp only [frz] at hz
    exact .tup cs cs' l fun j a c => ih j a c (frzs_mem.1 hz _ (List.getElem_mem a))
  | _ => intro hz; simp [frz] at hz

theorem scal_rel {φ φ' : Phi} {F F' : Fz} {v : V} {x : Value} (h : VRel φ F v x) : scal v = true → VRel φ' F' v x := by
  induction h with
  | bool b => intro _; exact .bool b
  | int k n => intro _; exact .int k n
  | str s => intro _; exact .str s
  | nilp => intro _; exact .nilp
  | nilm => intro _; exact .nilm
  | nilf => intro _; exact .nilf
  | agg cs cs' l ho _ ih =>
    intro hz
    simp only [scal] at hz
    exact .agg cs cs' l ho fun j a c => ih j a c (scals_mem.1 hz _ (List.getElem_mem a))
  | tup cs cs' l _ ih =>
    intro hz
    simp only [scal] at hz
    exact .tup cs cs' l fun j a c => ih j a c (scals_mem.1 hz _ (List.getElem_mem a))
  | _ => intro hz; simp [scal] at hz

theorem fresh_rel {φ φ' : Phi} {F F' : Fz} {H : Hp} {v : V} {x : Value} (h : VRel φ F v x) : ∀ n, fresh H n v = true → frz v = true → VRel φ' F' v x := by
  induction h with
  | bool b => intro _ _ _; exact .bool b
  | int k n => intro _ _ _; exact .int k n
  | str s => intro _ _ _; exact .str s
  | nilp => intro _ _ _; exact .nilp
  | mtn => intro _ _ _; exact .mtn
  | mts ad cap => intro _ _ _; exact .mts ad cap
  | nilm => intro _ _ _; exact .nilm
  | nilf => intro _ _ _; exact .nilf
  | agg cs cs' l ho _ ih =>
    intro n hf hz
    cases n with
    | zero => simp [fresh] at hf
    | succ n =>
      simp only [fresh, frz, List.all_eq_true] at hf hz
      exact .agg cs cs' l ho fun j a c => ih j a c n (hf _ (List.getElem_mem a)) (frzs_mem.1 hz _ (List.getElem_mem a))
  | tup cs cs' l _ ih =>
    intro n hf hz
    cases n with
    | zero => simp [fresh] at hf
    | succ n =>
      simp only [fresh, frz, List.all_eq_true] at hf hz
      exact .tup cs cs' l fun j a c => ih j a c n (hf _ (List.getElem_mem a)) (frzs_mem.1 hz _ (List.getElem_mem a))
  | fn => intro n hf; cases n <;> simp [fresh] at hf
  | fptr => intro n hf; cases n <;> simp [fresh] at hf
  | fsl => intro n hf; cases n <;> simp [fresh] at hf
  | fmap => intro n hf; cases n <;> simp [fresh] at hf
  | _ => intro n hf hz; simp [frz] at hz

/-- cells of lists whose elements' cells go together -/
theorem cellsOf_pw {R : V → V → Prop} : ∀ {es es' : List V}, es.length = es'.length →
    (∀ i (a : i < es.length) (b : i < es'.length), es[i].cells.length = es'[i].cells.length ∧ ∀ j (p : j < es[i].cells.length) (q : j < es'[i].cells.length), R es[i].cells[j] es'[i].cells[j]) →
    (cellsOf es).length = (cellsOf es').length ∧ ∀ j (p : j < (cellsOf es).length) (q : j < (cellsOf es').length), R (cellsOf es)[j] (cellsOf es')[j] := by
  intro es
  induction es with
  | nil => intro es' h _; cases es' with
    | nil => exact ⟨rfl, fun j p => absurd p (by simp [cellsOf])⟩
    | cons y es' => simp at h
  | cons x es ih =>
    intro es' h hp
    cases es' with
    | nil => simp at h
    | cons y es' =>
      obtain ⟨l1, r1⟩ := hp 0 (by simp) (by simp)
      simp only [List.getElem_cons_zero] at l1 r1
      obtain ⟨l2, r2⟩ := ih (es' := es') (by simpa using h) fun i a b => by
        have := hp (i + 1) (by simpa using a) (by simpa using b)
        simp only [List.getElem_cons_succ] at this
        exact this
      simp only [cellsOf_cons]
      refine ⟨by simp [l1, l2], fun j p q => ?_⟩
      simp only [List.getElem_append]
      by_cases hj : j < x.cells.length
      · rw [dif_pos hj, dif_pos (by omega)]; exact r1 j hj (by omega)
      · rw [dif_neg hj, dif_neg (by omega)]
        have := r2 (j - x.cells.length) (by simp at p; omega) (by simp at q; omega)
        simpa only [l1] using this

section
variable {X : Ctx} {n1 : Nat} {φ φ' : Phi} {F F2 : Fz} {H : Hp} {w : World}

/-- v' stands for what v stands for -/
def Keeps (φ φ' : Phi) (F F2 : Fz) (v v' : V) : Prop :=
  (∀ x, VRel φ F v x → VRel φ' F2 v' x) ∧ (∀ sh, fits sh v = true → fits sh v' = true) ∧
  v.cells.length = v'.cells.length ∧ ∀ j (p : j < v.cells.length) (q : j < v'.cells.length), ∀ x, VRel φ F v.cells[j] x → VRel φ' F2 v'.cells[j] x

theorem Keeps.single {v v' : V} (h : ∀ x, VRel φ F v x → VRel φ' F2 v' x) (hv : ∀ cs, v ≠ .agg cs) (hv' : ∀ cs, v' ≠ .agg cs) (ht : ∀ cs, v' ≠ .tup cs) : Keeps φ φ' F F2 v v' := by
  have c1 : v.cells = [v] := by cases v <;> first | rfl | exact absurd rfl (hv _)
  have c2 : v'.cells = [v'] := by cases v' <;> first | rfl | exact absurd rfl (hv' _)
  refine ⟨h, fun sh hs => ?_, by rw [c1, c2]; rfl, fun j p q x hx => ?_⟩
  · cases sh with
    | none => cases v' <;> first | rfl | exact absurd rfl (hv' _) | exact absurd rfl (ht _)
    | some n => cases v <;> first | cases hs | exact absurd rfl (hv _)
  · simp only [c1, c2] at hx p q ⊢
    have : j = 0 := by simpa using p
    subst this
    exact h x hx

theorem Keeps.aggs {cs cs' : List V} (hl : cs.length = cs'.length) (h : ∀ j (p : j < cs.length) (q : j < cs'.length), ∀ x, VRel φ F cs[j] x → VRel φ' F2 cs'[j] x) : Keeps φ φ' F F2 (.agg cs) (.agg cs') := by
  refine ⟨fun x hx => ?_, fun sh hs => ?_, hl, h⟩
  · cases hx with
    | agg _ cs1 l ho hr => exact .agg _ _ (hl ▸ l) ho fun j a c => h j (by omega) a _ (hr j (by omega) c)
  · cases sh with
    | none => cases hs
    | some n => simp only [fits, beq_iff_eq] at hs ⊢; omega

theorem Keeps.tups {cs cs' : List V} (hl : cs.length = cs'.length) (h : ∀ j (p : j < cs.length) (q : j < cs'.length), ∀ x, VRel φ F cs[j] x → VRel φ' F2 cs'[j] x) : Keeps φ φ' F F2 (.tup cs) (.tup cs') := by
  have h0 : ∀ x, VRel φ F (.tup cs) x → VRel φ' F2 (.tup cs') x := by
    intro x hx
    cases hx with
    | tup _ cs1 l hr => exact .tup _ _ (hl ▸ l) fun j a c => h j (by omega) a _ (hr j (by omega) c)
  refine ⟨h0, fun sh hs => (by cases sh <;> cases hs), rfl, fun j p q x hx => ?_⟩
  simp only [V.cells] at hx p q ⊢
  have : j = 0 := by simpa using p
  subst this
  exact h0 x hx

theorem Keeps.same {v : V} (h : ∀ x, VRel φ F v x → VRel φ' F2 v x) (hc : ∀ cs, v = .agg cs → ∀ j (p : j < cs.length), ∀ x, VRel φ F cs[j] x → VRel φ' F2 cs[j] x) : Keeps φ φ' F F2 v v := by
  refine ⟨h, fun sh hs => hs, rfl, fun j p q x hx => ?_⟩
  cases v with
  | agg cs => exact hc cs rfl j p x hx
  | _ =>
    simp only [V.cells] at hx p q ⊢
    have : j = 0 := by simpa using p
    subst this
    exact h x hx

theorem mapO_keeps {n : Nat} {l ys : List V} (h : mapO (freeze H n) l = some ys) (hk : ∀ v ∈ l, ∀ v', freeze H n v = some v' → Keeps φ φ' F F2 v v') :
    l.length = ys.length ∧ ∀ i (a : i < l.length) (b : i < ys.length), Keeps φ φ' F F2 l[i] ys[i] := by
  obtain ⟨h1, h2⟩ := mapO_get h
  refine ⟨h1.symm, fun i a b => ?_⟩
  obtain ⟨y, k1, k2⟩ := h2 i a
  rw [List.getElem?_eq_getElem b] at k1
  cases k1
  exact hk _ (List.getElem_mem a) _ k2

theorem fits_keeps {sh : Option Nat} {es es' : List V} (hl : es.length = es'.length) (hk : ∀ i (a : i < es.length) (b : i < es'.length), Keeps φ φ' F F2 es[i] es'[i]) (hs : ∀ e ∈ es, fits sh e = true) : ∀ e ∈ es', fits sh e = true := by
  intro e he
  obtain ⟨i, hi, rfl⟩ := List.mem_iff_getElem.1 he
  exact (hk i (by omega) hi).2.1 sh (hs _ (List.getElem_mem (by omega)))

theorem fS_rel {sh : Option Nat} {es : List V} {x : Value} (h : VRel φ' F2 (.fsl sh es) x) : VRel φ' F2 (fS sh es) x := by
  cases es with
  | nil => cases h with
    | fsl _ _ b off cap => exact .mts _ _
  | cons e es => exact h

theorem fS_form (sh : Option Nat) (es : List V) : (∀ cs, fS sh es ≠ .agg cs) ∧ ∀ cs, fS sh es ≠ .tup cs := by
  cases es <;> exact ⟨fun _ e => by simp [fS] at e, fun _ e => by simp [fS] at e⟩

theorem freeze_ok (S : H ≠ [] → Sim X n1 φ F H w) (hF2 : ∀ a o b n c, H[a]? = some o → o.live → φ a o.key = some (b, n) → w.heap[b]? = some c → F2 b = content c) :
    ∀ n v v', freeze H n v = some v' → (F.le F2 ∨ fresh H n v = true) → Keeps φ φ' F F2 v v' := by
  intro n
  induction n with
  | zero =>
    intro v v' h hle
    rcases hle with hle | hle
    · simp only [freeze] at h
      obtain ⟨hz, h⟩ := ite_none_some h
      cases h
      refine .same (fun x hx => frz_rel hle hx hz) fun cs e j p x hx => frz_rel hle hx ?_
      subst e
      simp only [frz] at hz
      exact frzs_mem.1 hz _ (List.getElem_mem p)
    · simp [fresh] at hle
  | succ n ih =>
    intro v v' h hle
    simp only [freeze] at h
    split at h
    · rename_i hz
      cases h
      rcases hle with hle | hle
      · refine .same (fun x hx => frz_rel hle hx hz) fun cs e j p x hx => frz_rel hle hx ?_
        subst e
        simp only [frz] at hz
        exact frzs_mem.1 hz _ (List.getElem_mem p)
      · refine .same (fun x hx => fresh_rel hx _ hle hz) fun cs e j p x hx => fresh_rel (H := H) hx n ?_ ?_
        · subst e
          simp only [fresh, List.all_eq_true] at hle
          exact hle _ (List.getElem_mem p)
        · subst e
          simp only [frz] at hz
          exact frzs_mem.1 hz _ (List.getElem_mem p)
    · rename_i hnf
      clear hnf
      have sub : ∀ {l ys : List V}, mapO (freeze H n) l = some ys → (F.le F2 ∨ ∀ v ∈ l, fresh H n v = true) → l.length = ys.length ∧ ∀ i (a : i < l.length) (b : i < ys.length), Keeps φ φ' F F2 l[i] ys[i] := by
        intro l ys h hh
        exact mapO_keeps h fun v hv v' hv' => ih v v' hv' (hh.imp id fun k => k v hv)
      cases v <;> simp only at h <;> (try (cases h; done))
      case nils => cases h; exact .single (fun x hx => by cases hx; exact .mtn) (by simp) (by simp) (by simp)
      case ptr a sh i o e =>
        split at h
        · rename_i es hes
          obtain ⟨ys, h1, rfl⟩ := optmap_some h
          obtain ⟨hl, hk⟩ := sub h1 (hle.imp id fun k => by
            simp only [fresh, hes, List.all_eq_true] at k; exact k)
          refine .single (fun x hx => ?_) (by simp) (by simp) (by simp)
          obtain ⟨b, m, hp, rfl⟩ := hx.ptr_inv
          obtain ⟨cs, T, k1, k2, k3, k4, k5, k6, k7, k8⟩ := live_arr (S (by rintro rfl; simp [arrAt] at hes)) hes hp
          obtain ⟨q1, q2⟩ := arrAt_some hes
          have hc : F2 b = content (.cells cs T (0, 0)) := by
            rcases q1 with q1 | q1 <;> exact hF2 a _ b m _ q1 trivial (by simpa only [Ob.key, q2] using hp) k1
          obtain ⟨cl, cr⟩ := cellsOf_pw (R := fun v v' => ∀ x, VRel φ F v x → VRel φ' F2 v' x) hl fun i a b => ⟨(hk i a b).2.2.1, (hk i a b).2.2.2⟩
          have := VRel.fptr (φ := φ') (F := F2) sh ys i o b 0 (fun j => cs.getD j default) (fun j hj => by
              have : j < cs.size := by omega
              simp [fcell, hc, content, this]) (fun j hj => by
              have : j < cs.size := by omega
              simp only [Array.getD_eq_getD_getElem?, Array.getElem?_eq_getElem this, Option.getD_some]
              exact (k8 j (by omega) this).2) (fits_keeps hl hk k3) (fun j hj => by
              have : j < cs.size := by omega
              simp only [Array.getD_eq_getD_getElem?, Array.getElem?_eq_getElem this, Option.getD_some]
              exact cr j (by omega) hj _ (k8 j (by omega) this).1)
          simpa using this
        · cases h
      case sl a sh i len e c =>
        split at h
        · rename_i es hes
          obtain ⟨hlen, h⟩ := ite_none_some h
          obtain ⟨ys, h1, rfl⟩ := optmap_some h
          obtain ⟨hl, hk⟩ := sub h1 (hle.imp id fun k => by
            simp only [fresh, hes, List.all_eq_true] at k
            exact fun v hv => k v (List.mem_of_mem_drop (List.mem_of_mem_take hv)))
          have hlen' : ((es.drop i).take len).length = len := by
            obtain ⟨g1, g2⟩ := arrAt_some hes
            simp; omega
          have hll : ys.length = len := by rw [← hl]; exact hlen'
          refine .single (fun x hx => ?_) (by simp) (fS_form _ _).1 (fS_form _ _).2
          by_cases hn : 0 < len
          · obtain ⟨b, m, cap, p1, p2, p3⟩ := sl_inv hx hn
            obtain ⟨cs, T', k1, k2, k3, k4, k5, k6, k7, k8⟩ := live_arr (S (by rintro rfl; simp [arrAt] at hes)) hes p1
            obtain ⟨g1, g2⟩ := arrAt_some hes
            have hc : F2 b = content (.cells cs T' (0, 0)) := by
              rcases g1 with g1 | g1 <;> exact hF2 a _ b m _ g1 trivial (by simpa only [Ob.key, g2] using p1) k1
            have hs' : ∀ e ∈ es, e.cells.length = shz sh := fun e he => fits_len (k3 e he)
            have hsub : ∀ e ∈ (es.drop i).take len, e ∈ es := fun e he => List.mem_of_mem_drop (List.mem_of_mem_take he)
            have hs2 : ∀ e ∈ (es.drop i).take len, e.cells.length = shz sh := fun e he => hs' e (hsub e he)
            have hc2 : (cellsOf ((es.drop i).take len)).length = len * shz sh := by rw [cellsOf_len hs2, hlen']
            obtain ⟨cl, cr⟩ := cellsOf_pw (R := fun v v' => ∀ x, VRel φ F v x → VRel φ' F2 v' x) hl fun i a b => ⟨(hk i a b).2.2.1, (hk i a b).2.2.2⟩
            have hget : ∀ j (hj : j < (cellsOf ((es.drop i).take len)).length), ∃ hj2 : i * shz sh + j < (cellsOf es).length, (cellsOf ((es.drop i).take len))[j] = (cellsOf es)[i * shz sh + j] := by
              intro j hj
              have hpos : 0 < shz sh := by
                apply Classical.byContradiction; intro h0
                have : shz sh = 0 := by omega
                rw [hc2, this] at hj; omega
              have hm := Nat.mod_lt j hpos
              have hjj : j = j / shz sh * shz sh + j % shz sh := by rw [Nat.mul_comm]; exact (Nat.div_add_mod j _).symm
              have hq : j / shz sh < len := by rw [Nat.div_lt_iff_lt_mul hpos]; omega
              have e1 := cellsOf_get hs2 (i := j / shz sh) hm
              have e2 := cellsOf_get hs' (i := i + j / shz sh) hm
              rw [← hjj, List.getElem?_eq_getElem hj, List.getElem?_take_of_lt hq, List.getElem?_drop] at e1
              have e3 : (i + j / shz sh) * shz sh + j % shz sh = i * shz sh + j := by rw [Nat.add_mul]; omega
              rw [e3, ← e1] at e2
              obtain ⟨hj2, he2⟩ := List.getElem?_eq_some_iff.1 e2
              exact ⟨hj2, he2.symm⟩
            have hcap : len ≤ cap := by
              rw [p3] at hx
              cases hx with
              | sl _ _ _ _ _ _ _ _ _ _ hin hcc => cases c <;> simp only at hcc <;> omega
              | slz => omega
            rw [p3]
            have := VRel.fsl (φ := φ') (F := F2) sh ys b (i * shz sh) cap (fun j => cs.getD (i * shz sh + j) default) (by omega) (fun j hj => by
                obtain ⟨hj2, _⟩ := hget j (by omega)
                have : i * shz sh + j < cs.size := by omega
                simp [fcell, hc, content, this]) (fun j hj => by
                obtain ⟨hj2, _⟩ := hget j (by omega)
                have : i * shz sh + j < cs.size := by omega
                simp only [Array.getD_eq_getD_getElem?, Array.getElem?_eq_getElem this, Option.getD_some]
                exact (k8 _ hj2 this).2) (fits_keeps hl hk fun e he => k3 e (hsub e he)) (fun j hj => by
                obtain ⟨hj2, hj3⟩ := hget j (by omega)
                have : i * shz sh + j < cs.size := by omega
                simp only [Array.getD_eq_getD_getElem?, Array.getElem?_eq_getElem this, Option.getD_some]
                refine cr j (by omega) hj _ ?_
                rw [hj3]
                exact (k8 _ hj2 this).1)
            rw [hll] at this
            exact fS_rel this
          · obtain rfl : len = 0 := by omega
            obtain rfl : ys = [] := List.length_eq_zero_iff.1 hll
            cases hx with
            | sl => exact .mts _ _
            | slz => exact .mts _ _
        · cases h
      case mp a =>
        split at h
        · rename_i ks vs bs clk hq
          split at h
          · rename_i ks' vs' h1 h2
            cases h
            rcases hle with hle | hle
            · obtain ⟨l1, r1⟩ := sub h1 (.inl hle)
              obtain ⟨l2, r2⟩ := sub h2 (.inl hle)
              refine .single (fun x hx => ?_) (by simp) (by simp) (by simp)
              cases hx with
              | mp _ b m hp =>
                obtain ⟨es, k1, k2, k3, k4, k5, k6, _⟩ := live_map (S (by rintro rfl; simp at hq)) hq hp
                have hc := hF2 a _ b m _ hq trivial hp k1
                refine .fmap ks' vs' b es.toList hc (by simp; omega) (by simp; omega) (fun j p q => ?_) (fun j p q => ?_)
                · exact (r1 j (by omega) p).1 _ (by simpa using k5 j (by omega) (by simpa using q))
                · exact (r2 j (by omega) p).1 _ (by simpa using k6 j (by omega) (by simpa using q))
            · simp [fresh] at hle
          · cases h
        · cases h
      case fptr sh es i o =>
        obtain ⟨ys, h1, rfl⟩ := optmap_some h
        rcases hle with hle | hle
        · obtain ⟨hl, hk⟩ := sub h1 (.inl hle)
          refine .single (fun x hx => ?_) (by simp) (by simp) (by simp)
          obtain ⟨cl, cr⟩ := cellsOf_pw (R := fun v v' => ∀ x, VRel φ F v x → VRel φ' F2 v' x) hl fun i a b => ⟨(hk i a b).2.2.1, (hk i a b).2.2.2⟩
          cases hx with
          | fptr _ _ _ _ b off x hf ho hs hr =>
            exact .fptr sh ys i o b off x (fun j hj => fcell_mono hle (hf j (by omega))) (fun j hj => ho j (by omega)) (fits_keeps hl hk hs) fun j hj => cr j (by omega) hj _ (hr j (by omega))
        · simp [fresh] at hle
      case fsl sh es =>
        obtain ⟨ys, h1, rfl⟩ := optmap_some h
        rcases hle with hle | hle
        · obtain ⟨hl, hk⟩ := sub h1 (.inl hle)
          refine .single (fun x hx => ?_) (by simp) (fS_form _ _).1 (fS_form _ _).2
          obtain ⟨cl, cr⟩ := cellsOf_pw (R := fun v v' => ∀ x, VRel φ F v x → VRel φ' F2 v' x) hl fun i a b => ⟨(hk i a b).2.2.1, (hk i a b).2.2.2⟩
          cases hx with
          | fsl _ _ b off cap x hc hf ho hs hr =>
            rw [hl]
            exact fS_rel (.fsl sh ys b off cap x (by omega) (fun j hj => fcell_mono hle (hf j (by omega))) (fun j hj => ho j (by omega)) (fits_keeps hl hk hs) fun j hj => cr j (by omega) hj _ (hr j (by omega)))
        · simp [fresh] at hle
      case fmap ks vs =>
        split at h
        · rename_i ks' vs' h1 h2
          cases h
          rcases hle with hle | hle
          · obtain ⟨l1, r1⟩ := sub h1 (.inl hle)
            obtain ⟨l2, r2⟩ := sub h2 (.inl hle)
            refine .single (fun x hx => ?_) (by simp) (by simp) (by simp)
            cases hx with
            | fmap _ _ b es hf hk hv k1 k2 =>
              exact .fmap ks' vs' b es (hle _ _ hf) (by omega) (by omega) (fun j p q => (r1 j (by omega) p).1 _ (k1 j (by omega) q)) (fun j p q => (r2 j (by omega) p).1 _ (k2 j (by omega) q))
          · simp [fresh] at hle
        · cases h
      case fn f a b =>
        split at h
        · rename_i ks' vs' h1 h2
          cases h
          rcases hle with hle | hle
          · obtain ⟨l1, r1⟩ := sub h1 (.inl hle)
            obtain ⟨l2, r2⟩ := sub h2 (.inl hle)
            refine .single (fun x hx => ?_) (by simp) (by simp) (by simp)
            cases hx with
            | fn _ _ _ fi ca g1 g2 k1 k2 =>
              exact .fn f ks' vs' fi ca (by omega) (by omega) (fun j p q => (r1 j (by omega) p).1 _ (k1 j (by omega) q)) (fun j p q => (r2 j (by omega) p).1 _ (k2 j (by omega) q))
          · simp [fresh] at hle
        · cases h
      case agg cs =>
        obtain ⟨ys, h1, rfl⟩ := optmap_some h
        obtain ⟨hl, hk⟩ := sub h1 (hle.imp id fun k => by simp only [fresh, List.all_eq_true] at k; exact k)
        exact .aggs hl fun j p q => (hk j p q).1
      case tup cs =>
        obtain ⟨ys, h1, rfl⟩ := optmap_some h
        obtain ⟨hl, hk⟩ := sub h1 (hle.imp id fun k => by simp only [fresh, List.all_eq_true] at k; exact k)
        exact .tups hl fun j p q => (hk j p q).1
end
end Go.Ai
end
section
namespace Go.Ai
open Go Go.RowKit

/-! ### calls that keep to themselves -/
section
variable {X : Ctx} {n0 : Nat} {φ φ1 : Phi} {F F0 F1 : Fz} {H h1 : Hp} {w w1 : World}

def Phi.none : Phi := fun _ _ => Option.none

theorem Sim.empty (hf : ∀ b fo, F b = some fo → ∃ c, w.heap[b]? = some c ∧ FRel fo c) (h0 : X.F0.le F) : Sim X w.heap.size Phi.none F [] w :=
  ⟨Nat.le_refl _, fun _ _ _ => rfl, fun _ _ _ => rfl, fun _ _ _ _ _ _ => rfl, fun a o h => absurd h (by simp), fun a a' o o' b n n' h => absurd h (by simp), hf, h0⟩

/-- all that is live, frozen -/
def snapF (F : Fz) (w : World) : Fz := fun b => match F b with
  | some fo => some fo
  | none => (w.heap[b]?).bind content

theorem snapF_le : F.le (snapF F w) := fun b x h => by simp [snapF, h]
theorem snapF_fz (hf : ∀ b fo, F b = some fo → ∃ c, w.heap[b]? = some c ∧ FRel fo c) : ∀ b fo, snapF F w b = some fo → ∃ c, w.heap[b]? = some c ∧ FRel fo c := by
  intro b fo h
  unfold snapF at h
  split at h
  · rename_i fo' h'; cases h; exact hf b _ h'
  · cases hc : w.heap[b]? with
    | none => rw [hc] at h; simp at h
    | some c => rw [hc] at h; exact ⟨c, rfl, content_rel h⟩
theorem snapF_live (S : Sim X n0 φ F H w) : ∀ (a : Nat) (o : Ob) b n c, H[a]? = some o → o.live → φ a o.key = some (b, n) → w.heap[b]? = some c → snapF F w b = content c := by
  intro a o b n c h hl hp hc
  obtain ⟨b', m, c', k1, k2, k3, k4, _⟩ := S.obj a o h hl
  rw [hp] at k1; cases k1
  rw [hc] at k4; cases k4
  cases o <;> (simp only [FC] at k3) <;> (try (simp [snapF, k3, hc]; done))
  unfold snapF
  rw [k3, hc]
  cases hq : content c <;> simp [hq]

/-- what a call that kept to itself leaves: its results' memory, frozen -/
def backF (n1 : Nat) (F F1 : Fz) (w1 : World) : Fz := fun b => if b < n1 then F b else snapF F1 w1 b

theorem pure_back (S : Sim X n0 φ F H w) (S1 : Sim X w.heap.size φ1 F1 h1 w1) (hB : Below w.heap.size w w1) (hn : ∀ k, k < w.heap.size → F1 k = F0 k) :
    Sim X n0 φ (backF w.heap.size F F1 w1) H w1 ∧ Ext n0 φ F w φ (backF w.heap.size F F1 w1) w1 ∧
    (∀ (a : Nat) (o : Ob) b n c, h1[a]? = some o → o.live → φ1 a o.key = some (b, n) → w1.heap[b]? = some c → backF w.heap.size F F1 w1 b = content c) ∧
    (F0 = F → F1.le (backF w.heap.size F F1 w1)) := by
  have hlt : ∀ b fo, F b = some fo → b < w.heap.size := fun b fo h => by
    obtain ⟨c, hc, _⟩ := S.fz b fo h; exact heap_lt hc
  have hle : F.le (backF w.heap.size F F1 w1) := fun b fo h => by simp [backF, hlt b fo h, h]
  have hsz := S.sz
  refine ⟨⟨by have := hB.size; omega, S.len, S.non, S.fut, fun a o ho hl => ?_, S.inj, fun b fo hb => ?_, Fz.le.trans S.f0 hle⟩, ⟨Phi.le.refl _, hle, hB.mono S.sz, fun k hk => ?_⟩, fun a o b n c h hl hp hc => ?_, fun he b fo hb => ?_⟩
  · obtain ⟨b, n, c, k1, k2, k3, k4, k5⟩ := S.obj a o ho hl
    have hb := heap_lt k4
    exact ⟨b, n, c, k1, k2, k3.congr (by simp [backF, hb]), by rw [hB.block b hb]; exact k4, k5.mono (Phi.le.refl _) hle⟩
  · unfold backF at hb
    split at hb
    · rename_i hb'
      obtain ⟨c, k1, k2⟩ := S.fz b fo hb
      exact ⟨c, by rw [hB.block b hb']; exact k1, k2⟩
    · exact snapF_fz S1.fz b fo hb
  · have : k < w.heap.size := by omega
    simp [backF, this]
  · obtain ⟨b', m, c', k1, k2, k3, k4, _⟩ := S1.obj a o h hl
    rw [hp] at k1; cases k1
    have : ¬ b < w.heap.size := by omega
    simp only [backF, this, if_false]
    exact snapF_live S1 a o b n c h hl hp hc
  · unfold backF
    split
    · rename_i hb'; rw [hn b hb', he] at hb; exact hb
    · exact snapF_le b fo hb

/-- how a call goes -/
def InvRes (X : Ctx) (n0 : Nat) (φ : Phi) (F : Fz) (w : World) (s : Sem Next) (v : V) (H' : Hp) : Prop :=
  ∃ nx, s.run X.P w = .ok nx w ∧ ∀ (c : Frame) (cs : List Frame), ∃ φ' F' w' x, VRel φ' F' v x ∧ Sim X n0 φ' F' H' w' ∧ Ext n0 φ F w φ' F' w' ∧
    ((nx = .value x ∧ w' = w) ∨
     (∃ f as, nx = .enter f as ∧ Steps X.P (lone (Frame.enter X.P f as .normal) (c :: cs) w) (lone (c.finish x) cs w')) ∨
     (∃ l f tms a b, nx = .round l f tms a b ∧ Steps X.P (lone (Frame.round l f tms a b .normal) (c :: cs) w) (lone (c.finish x) cs w')))

/-- a function that is known already -/
def PrimOK (X : Ctx) (f : FuncId) (p : List V → Option V) : Prop :=
  ∀ args v, p args = some v → ∀ (F : Fz) (w : World) (as : Array Value), VsRel Phi.none F args as.toList → (∀ b fo, F b = some fo → ∃ c, w.heap[b]? = some c ∧ FRel fo c) → X.F0.le F →
    InvRes X w.heap.size Phi.none F w (callFunc f as) v []

/-- what is asked of program and environment -/
structure Ctx.OK (X : Ctx) : Prop where
  mixed : X.P.follows .mixedOrders = true
  fn : ∀ f rf, X.E.fn f = some rf → compF X.P X.md X.live f = some rf
  prim : ∀ f p, X.E.prim f = some p → PrimOK X f p

theorem Sim.onlyFz (S : Sim X n0 φ F H w) : Sim X n0 φ F (onlyFz H) w := by
  refine ⟨S.sz, fun a e h => S.len a e ?_, fun a e h => ?_, fun a sh es e h => ?_, fun a o h hl => ?_, fun a a' o o' b n n' h hl h' hl' => ?_, S.fz, S.f0⟩
  · rw [onlyFz_get] at h; cases hq : H[a]? with
    | none => rfl
    | some q => rw [hq] at h; simp at h
  · rcases onlyFz_cases h with h3 | ⟨_, _, h3, _⟩ <;> cases h3
  · rcases onlyFz_cases h with h3 | ⟨_, _, h3, _⟩ <;> cases h3
  · rcases onlyFz_cases h with rfl | ⟨_, _, rfl, h3⟩
    · exact absurd hl (by simp [Ob.live])
    · exact S.obj a _ h3 hl
  · rcases onlyFz_cases h with rfl | ⟨_, _, rfl, h3⟩
    · exact absurd hl (by simp [Ob.live])
    · rcases onlyFz_cases h' with rfl | ⟨_, _, rfl, h4⟩
      · exact absurd hl' (by simp [Ob.live])
      · exact S.inj a a' _ _ b n n' h3 hl h4 hl'

theorem freeze_fz (S : Sim X n0 φ F H w) {φ' : Phi} {n : Nat} (v v' : V) (h : freeze (onlyFz H) n v = some v') : Keeps φ φ' F F v v' :=
  freeze_ok (fun _ => S.onlyFz) (fun a o b n c h hl hp hc => by
    rcases onlyFz_cases h with rfl | ⟨_, _, rfl, h3⟩
    · exact absurd hl (by simp [Ob.live])
    · obtain ⟨b', m, c', k1, k2, k3, k4, _⟩ := S.obj a _ h3 hl
      rw [hp] at k1; cases k1
      rw [hc] at k4; cases k4
      exact k3) n v v' h (.inl (Fz.le.refl _))

theorem mapO_vs {n : Nat} {args args' : List V} {φ φ' : Phi} {F F' : Fz} {as : List Value} (h : mapO (freeze H n) args = some args') (hk : ∀ v v', freeze H n v = some v' → Keeps φ φ' F F' v v') (hv : VsRel φ F args as) : VsRel φ' F' args' as := by
  obtain ⟨h1, h2⟩ := mapO_get h
  refine ⟨by rw [h1]; exact hv.1, fun j a c => ?_⟩
  obtain ⟨y, k1, k2⟩ := h2 j (by omega)
  rw [List.getElem?_eq_getElem a] at k1
  cases k1
  exact (hk _ _ k2).1 _ (hv.2 j (by omega) c)

/-- a call to a function with a body, entered -/
def FRes (X : Ctx) (n0 : Nat) (φ : Phi) (F : Fz) (w : World) (f : FuncId) (as : Array Value) (v : V) (H' : Hp) : Prop :=
  (callFunc f as).run X.P w = .ok (.enter f as) w ∧ ∀ (cs : List Frame), ∃ φ' F' w' x fr, Steps X.P (lone (Frame.enter X.P f as .normal) cs w) (lone fr cs w') ∧ fr.fn = f ∧ fr.leaving X.P w' (.returned x) ∧
    VRel φ' F' v x ∧ Sim X n0 φ' F' H' w' ∧ Ext n0 φ F w φ' F' w'

theorem FRes.inv {f : FuncId} {as : Array Value} {v : V} {H' : Hp} (h : FRes X n0 φ F w f as v H') : InvRes X n0 φ F w (callFunc f as) v H' := by
  refine ⟨_, h.1, fun c cs => ?_⟩
  obtain ⟨φ', F', w', x, fr, k1, _, k3, k4, k5, k6⟩ := h.2 (c :: cs)
  exact ⟨φ', F', w', x, k4, k5, k6, .inr (.inl ⟨f, as, rfl, Steps.trans k1 (Steps.one (step_leave_returned k3))⟩)⟩


end

/-! ### operations of a region -/

theorem evA_known (live : Lo) (t : List V) (a : A) : evA t (knownF live a) = evA t a := by
  cases a with
  | t n => simp only [knownF]; split <;> rfl
  | c v => rfl
  | k n g => rfl


theorem compOp_call {P : Program} {live : Lo} {slot : Option Nat} {o : Oper} {fa : A} {as : List A} (h : compOp P live slot o = some (.call fa as)) :
    ∃ f args at' fa', o.op = .call { callee := .value f, args := args, argTypes := at' } ∧ ofA f = some fa' ∧ fa = knownF live fa' ∧ mapO ofA args.toList = some as := by
  obtain ⟨dst, op, ty, pos, after, gd⟩ := o
  cases op with
  | call c =>
    obtain ⟨callee, args, at'⟩ := c
    cases callee with
    | value f =>
      simp only [compOp] at h
      split at h
      · rename_i f' as' h1 h2
        cases h
        exact ⟨f, args, at', f', rfl, h1, rfl, h2⟩
      · cases h
    | invoke a b => simp [compOp] at h
    | builtin b =>
      exfalso
      cases b <;> simp only [compOp] at h <;> (repeat' (first | contradiction | (split at h))) <;> (try (simp at h; done))
  | _ =>
    exfalso
    simp only [compOp] at h
    repeat' (first | contradiction | (split at h))
    all_goals (try (simp at h; done))

end Go.Ai
end
section
namespace Go.Ai
open Go Go.RowKit

theorem shVs_map (k : Nat) (l : List V) : shVs k l = l.map (shV k) := by
  induction l with
  | nil => rfl
  | cons v l ih => simp [shVs, ih]

theorem shV_cells (k : Nat) (v : V) : (shV k v).cells = v.cells.map (shV k) := by
  cases v <;> simp [shV, V.cells, shVs_map]

theorem shV_cellsOf (k : Nat) (es : List V) : cellsOf (shVs k es) = (cellsOf es).map (shV k) := by
  induction es with
  | nil => rfl
  | cons e es ih => simp only [shVs, cellsOf_cons, shV_cells, ih, List.map_append]

theorem shV_fits (k : Nat) (sh : Option Nat) (v : V) : fits sh (shV k v) = fits sh v := by
  cases sh <;> cases v <;> simp [shV, fits, shVs_map]

theorem shV_rel {φ φ' : Phi} {F F' : Fz} {k : Nat} (hφ : ∀ a e x, φ a e = some x → φ' (a + k) e = some x) (hF : F.le F') {v : V} {x : Value} (h : VRel φ F v x) : VRel φ' F' (shV k v) x := by
  induction h with
  | bool b => exact .bool b
  | int k n => exact .int k n
  | str s => exact .str s
  | nilp => exact .nilp
  | ptr a sh i o e b n h => exact .ptr _ sh i o e b n (hφ _ _ _ h)
  | fptr sh es i o b off x hf ho hs _ ih =>
    refine .fptr sh _ i o b off x (fun j hj => fcell_mono hF (hf j ?_)) (fun j hj => ho j ?_) (fun e he => ?_) fun j hj => ?_
    · simpa [shV_cellsOf] using hj
    · simpa [shV_cellsOf] using hj
    · rw [shVs_map] at he
      obtain ⟨e', h1, rfl⟩ := List.mem_map.1 he
      rw [shV_fits]; exact hs e' h1
    · have hj' : j < (cellsOf es).length := by simpa [shV_cellsOf] using hj
      simp only [shV_cellsOf, List.getElem_map]
      exact ih j hj'
  | nils => exact .nils
  | mtn => exact .mtn
  | mts ad cap => exact .mts ad cap
  | sl a sh i len e c b n cap h hin hc hcap => exact .sl _ sh i len e c b n cap (hφ _ _ _ h) hin hc hcap
  | slz a sh e ad => exact .slz _ sh e ad
  | fsl sh es b off cap x hl hf ho hs _ ih =>
    have := VRel.fsl (φ := φ') (F := F') sh (shVs k es) b off cap x (by simpa [shVs_map] using hl) (fun j hj => fcell_mono hF (hf j (by simpa [shV_cellsOf] using hj))) (fun j hj => ho j (by simpa [shV_cellsOf] using hj)) (fun e he => by
      rw [shVs_map] at he
      obtain ⟨e', h1, rfl⟩ := List.mem_map.1 he
      rw [shV_fits]; exact hs e' h1) (fun j hj => by
      have hj' : j < (cellsOf es).length := by simpa [shV_cellsOf] using hj
      simp only [shV_cellsOf, List.getElem_map]
      exact ih j hj')
    simpa [shV, shVs_map] using this
  | nilm => exact .nilm
  | mp a b n h => exact .mp _ b n (hφ _ _ _ h)
  | fmap ks vs b es hf hk hv _ _ i1 i2 =>
    refine .fmap _ _ b es (hF _ _ hf) (by simpa [shVs_map] using hk) (by simpa [shVs_map] using hv) (fun j a c => ?_) fun j a c => ?_
    · simp only [shVs_map, List.getElem_map]; exact i1 j (by simpa [shVs_map] using a) c
    · simp only [shVs_map, List.getElem_map]; exact i2 j (by simpa [shVs_map] using a) c
  | fn f first caps first' caps' l1 l2 _ _ i1 i2 =>
    refine .fn f _ _ first' caps' (by simpa [shVs_map] using l1) (by simpa [shVs_map] using l2) (fun j a c => ?_) fun j a c => ?_
    · simp only [shVs_map, List.getElem_map]; exact i1 j (by simpa [shVs_map] using a) c
    · simp only [shVs_map, List.getElem_map]; exact i2 j (by simpa [shVs_map] using a) c
  | yld a b n h => exact .yld _ b n (hφ _ _ _ h)
  | nilf => exact .nilf
  | it a b n h => exact .it _ b n (hφ _ _ _ h)
  | agg cs cs' l ho _ ih =>
    refine .agg _ cs' (by simpa [shVs_map] using l) ho fun j a c => ?_
    simp only [shVs_map, List.getElem_map]; exact ih j (by simpa [shVs_map] using a) c
  | tup cs cs' l _ ih =>
    refine .tup _ cs' (by simpa [shVs_map] using l) fun j a c => ?_
    simp only [shVs_map, List.getElem_map]; exact ih j (by simpa [shVs_map] using a) c

theorem shOb_key (k : Nat) (o : Ob) (h : (shOb k o).live) : (shOb k o).key = o.key ∧ o.live := by
  cases o <;> simp [shOb, Ob.key, Ob.live, shVs_map] at h ⊢

section
variable {X : Ctx} {n0 : Nat} {φ φ1 : Phi} {F F1 : Fz} {H h1 : Hp} {w w1 : World}

/-- the memory that a call made comes to the caller's -/
theorem Sim.append (S : Sim X n0 φ F H w) (S1 : Sim X w.heap.size φ1 F1 h1 w1) (e : Ext w.heap.size Phi.none F w φ1 F1 w1) :
    ∃ φ', Sim X n0 φ' F1 (H ++ h1.map (shOb H.length)) w1 ∧ Ext n0 φ F w φ' F1 w1 ∧ ∀ u x, VRel φ1 F1 u x → VRel φ' F1 (shV H.length u) x := by
  have hsz := S.sz
  have hsz1 := S1.sz
  let φ' : Phi := fun a e => if a < H.length then φ a e else φ1 (a - H.length) e
  have hlo : ∀ a e, a < H.length → φ' a e = φ a e := fun a e h => by simp [φ', h]
  have hhi : ∀ a e, ¬ a < H.length → φ' a e = φ1 (a - H.length) e := fun a e h => by simp [φ', h]
  have hle : φ.le φ' := by
    intro a e x h
    by_cases ha : a < H.length
    · rw [hlo a e ha]; exact h
    · rw [S.len a e (List.getElem?_eq_none (by omega))] at h; cases h
  have hsh : ∀ a e x, φ1 a e = some x → φ' (a + H.length) e = some x := by
    intro a e x h
    rw [hhi _ _ (by omega), Nat.add_sub_cancel]; exact h
  have getL : ∀ a, a < H.length → (H ++ h1.map (shOb H.length))[a]? = H[a]? := fun a h => List.getElem?_append_left h
  have getR : ∀ a, ¬ a < H.length → (H ++ h1.map (shOb H.length))[a]? = (h1[a - H.length]?).map (shOb H.length) := fun a h => by
    rw [List.getElem?_append_right (by omega), List.getElem?_map]
  have blk : ∀ (a : Nat) (o : Ob) b n, H[a]? = some o → o.live → φ a o.key = some (b, n) → b < w.heap.size := by
    intro a o b n h hl hp
    obtain ⟨b', m, c, k1, _, _, k4, _⟩ := S.obj a o h hl
    rw [hp] at k1; cases k1
    exact heap_lt k4
  have blk1 : ∀ (a : Nat) (o : Ob) b n, h1[a]? = some o → o.live → φ1 a o.key = some (b, n) → w.heap.size ≤ b := by
    intro a o b n h hl hp
    obtain ⟨b', m, c, k1, k2, _, _, _⟩ := S1.obj a o h hl
    rw [hp] at k1; cases k1
    exact k2
  refine ⟨φ', ⟨by omega, ?_, ?_, ?_, ?_, ?_, S1.fz, S1.f0⟩, ⟨hle, e.f, e.b.mono S.sz, fun k hk => e.n k (by omega)⟩, fun u x h => shV_rel hsh (Fz.le.refl _) h⟩
  · intro a e h
    by_cases ha : a < H.length
    · rw [getL a ha] at h
      rw [hlo a e ha]; exact S.len a e h
    · rw [getR a ha] at h
      rw [hhi a e ha]
      exact S1.len _ e (by simpa using h)
  · intro a e h
    by_cases ha : a < H.length
    · rw [getL a ha] at h
      rw [hlo a e ha]; exact S.non a e h
    · rw [getR a ha] at h
      obtain ⟨o, ho, hs⟩ := optmap_some h
      cases o <;> simp [shOb] at hs
  · intro a sh es e h hlt
    by_cases ha : a < H.length
    · rw [getL a ha] at h
      rw [hlo a e ha]; exact S.fut a sh es e h hlt
    · rw [getR a ha] at h
      rw [hhi a e ha]
      obtain ⟨o, ho, hs⟩ := optmap_some h
      cases o with
      | arr sh' es' =>
        simp only [shOb, Ob.arr.injEq] at hs
        obtain ⟨rfl, rfl⟩ := hs
        exact S1.fut _ sh' es' e ho (by simpa [shVs_map] using hlt)
      | _ => simp [shOb] at hs
  · intro a o h hl
    by_cases ha : a < H.length
    · rw [getL a ha] at h
      obtain ⟨b, n, c, k1, k2, k3, k4, k5⟩ := S.obj a o h hl
      have hb := heap_lt k4
      exact ⟨b, n, c, by rw [hlo a _ ha]; exact k1, k2, k3.congr (e.n b hb), by rw [e.b.block b hb]; exact k4, k5.mono hle e.f⟩
    · rw [getR a ha] at h
      obtain ⟨o', ho', hs⟩ := optmap_some h
      subst hs
      obtain ⟨hk, hl'⟩ := shOb_key H.length o' hl
      obtain ⟨b, n, c, k1, k2, k3, k4, k5⟩ := S1.obj _ o' ho' hl'
      refine ⟨b, n, c, by rw [hk, hhi a _ ha]; exact k1, by omega, ?_, k4, ?_⟩
      · cases o' <;> first | exact k3 | (simp [shOb, Ob.live] at hl)
      · cases o' with
        | arr sh es =>
          obtain ⟨cs, T, q1, q2, q3, q4, q5⟩ := k5
          refine ⟨cs, T, q1, q2, fun e he => ?_, by simpa [shV_cellsOf] using q4, fun j p q => ?_⟩
          · rw [shVs_map] at he
            obtain ⟨e', h1, rfl⟩ := List.mem_map.1 he
            rw [shV_fits]; exact q3 e' h1
          · simp only [shV_cellsOf, List.getElem_map]
            have := q5 j (by simpa [shV_cellsOf] using p) q
            exact ⟨shV_rel hsh (Fz.le.refl _) this.1, this.2⟩
        | fz sh es =>
          obtain ⟨cs, T, q1, q2, q3, q4, q5⟩ := k5
          refine ⟨cs, T, q1, q2, fun e he => ?_, by simpa [shV_cellsOf] using q4, fun j p q => ?_⟩
          · rw [shVs_map] at he
            obtain ⟨e', h1, rfl⟩ := List.mem_map.1 he
            rw [shV_fits]; exact q3 e' h1
          · simp only [shV_cellsOf, List.getElem_map]
            have := q5 j (by simpa [shV_cellsOf] using p) q
            exact ⟨shV_rel hsh (Fz.le.refl _) this.1, this.2⟩
        | map ks vs bs clk =>
          obtain ⟨es, q1, q2, q3, q4, q5, q6, q7⟩ := k5
          refine ⟨es, q1, by simpa [shVs_map] using q2, by simpa [shVs_map] using q3, q4, fun j p q => ?_, fun j p q => ?_, q7⟩
          · simp only [shVs_map, List.getElem_map]
            exact shV_rel hsh (Fz.le.refl _) (q5 j (by simpa [shVs_map] using p) q)
          · simp only [shVs_map, List.getElem_map]
            exact shV_rel hsh (Fz.le.refl _) (q6 j (by simpa [shVs_map] using p) q)
        | _ => simp [shOb, Ob.live] at hl
  · intro a a' o o' b n n' h hl h' hl' hp hp'
    by_cases ha : a < H.length
    · rw [getL a ha] at h
      rw [hlo a _ ha] at hp
      have hb := blk a o b n h hl hp
      by_cases ha' : a' < H.length
      · rw [getL a' ha'] at h'
        rw [hlo a' _ ha'] at hp'
        exact S.inj a a' o o' b n n' h hl h' hl' hp hp'
      · exfalso
        rw [getR a' ha'] at h'
        obtain ⟨q, hq, hs⟩ := optmap_some h'
        subst hs
        obtain ⟨hk, hlq⟩ := shOb_key _ q hl'
        rw [hk, hhi a' _ ha'] at hp'
        have := blk1 _ q b n' hq hlq hp'
        omega
    · rw [getR a ha] at h
      obtain ⟨q, hq, hs⟩ := optmap_some h
      subst hs
      obtain ⟨hk, hlq⟩ := shOb_key _ q hl
      rw [hk, hhi a _ ha] at hp
      have hb := blk1 _ q b n hq hlq hp
      by_cases ha' : a' < H.length
      · exfalso
        rw [getL a' ha'] at h'
        rw [hlo a' _ ha'] at hp'
        have := blk a' o' b n' h' hl' hp'
        omega
      · rw [getR a' ha'] at h'
        obtain ⟨q', hq', hs'⟩ := optmap_some h'
        subst hs'
        obtain ⟨hk', hlq'⟩ := shOb_key _ q' hl'
        rw [hk', hhi a' _ ha'] at hp'
        have := S1.inj _ _ q q' b n n' hq hlq hq' hlq' hp hp'
        omega
end
end Go.Ai
end
section
namespace Go.Ai
open Go Go.RowKit

structure MInv (X : Ctx) (n0 : Nat) (φ : Phi) (F : Fz) (N : Nat) (b : Frame) (s : St) (tm : Array Value) (df : List Deferred) (w : World) : Prop where
  sim : Sim X n0 φ F s.h w
  tr : TRel φ F N s.t tm
  rd : match s.rd with
    | none => b.roundOf = none
    | some l => ∃ lb n, b.roundOf = some lb ∧ φ l 0 = some (lb, n)
  ml : s.m.length = df.length
  mks : ∀ j (_ : j < s.m.length) (_ : j < df.length), ∃ blk n, df[j] = { target := .collected blk, args := #[] } ∧ φ s.m[j] 0 = some (blk, n)

theorem MInv.turn {X : Ctx} {n0 : Nat} {φ φ' : Phi} {F F' : Fz} {N : Nat} {b : Frame} {s s' : St} {tm tm' : Array Value} {df : List Deferred} {w w' : World} (M : MInv X n0 φ F N b s tm df w)
    (S : Sim X n0 φ' F' s'.h w') (T : TRel φ' F' N s'.t tm') (hp : φ.le φ') (hm : s'.m = s.m) (hr : s'.rd = s.rd) : MInv X n0 φ' F' N b s' tm' df w' := by
  refine ⟨S, T, ?_, by rw [hm]; exact M.ml, fun j p q => ?_⟩
  · rw [hr]
    have := M.rd
    cases hs : s.rd with
    | none => rw [hs] at this; exact this
    | some l =>
      rw [hs] at this
      obtain ⟨lb, n, h1, h2⟩ := this
      exact ⟨lb, n, h1, hp _ _ _ h2⟩
  · obtain ⟨blk, n, h1, h2⟩ := M.mks j (by rw [← hm]; exact p) q
    refine ⟨blk, n, h1, hp _ _ _ ?_⟩
    simpa only [hm] using h2

theorem tagS_rd (fz : List Nat) (s : St) : (tagS fz s).rd = s.rd := by cases fz <;> rfl

theorem MInv.tagS {X : Ctx} {n0 : Nat} {φ : Phi} {F : Fz} {N : Nat} {b : Frame} {s : St} {tm : Array Value} {df : List Deferred} {w : World} (M : MInv X n0 φ F N b s tm df w) (fz : List Nat) :
    ∃ F', MInv X n0 φ F' N b (tagS fz s) tm df w ∧ Ext n0 φ F w φ F' w := by
  cases fz with
  | nil => exact ⟨F, M, .refl _ _ _ _⟩
  | cons t fz =>
    obtain ⟨F', S, e⟩ := M.sim.tags ((t :: fz).flatMap fun t => reach s.h deep (T.get s.t t))
    exact ⟨F', M.turn S (M.tr.mono e.p e.f) e.p rfl rfl, e⟩

def IOK (X : Ctx) (inv : V → List V → Hp → Option (V × Hp)) : Prop := ∀ fv args h v h', inv fv args h = some (v, h') → ∀ n0 φ F w fx as, Sim X n0 φ F h w → VRel φ F fv fx → VsRel φ F args as.toList →
  InvRes X n0 φ F w (do let d ← Deferred.ofValue fx as; invoke d.target d.args) v h'

theorem wanted_ok {φ : Phi} {F : Fz} {N : Nat} {t : List V} {tm : Array Value} (T : TRel φ F N t tm) {ops : Array Oper} {o : Oper} {g : Option (Nat × Bool)} (hg : guardOf ops o = some g) :
    Region.wanted o (yielded ops tm) = wanted t g := by
  unfold guardOf at hg
  unfold Region.wanted wanted
  cases hgd : o.guard with
  | none => rw [hgd] at hg; cases hg; rfl
  | some p =>
    obtain ⟨j, want⟩ := p
    rw [hgd] at hg
    simp only at hg ⊢
    cases ho : ops[j]? with
    | none => rw [ho] at hg; cases hg
    | some o' =>
      rw [ho] at hg
      simp only at hg
      cases hd : o'.dst with
      | none => rw [hd] at hg; cases hg
      | some d =>
        rw [hd] at hg
        cases hg
        simp only [yielded, ho, Option.bind_some, hd]
        have hv := T.2.2 d
        rw [Array.getD_eq_getD_getElem?] at hv
        cases hx : tm[d]? with
        | none =>
          rw [hx] at hv
          simp only [Option.getD_none] at hv
          generalize hq : Ai.T.get t d = q at hv
          cases q <;> first | rfl | (cases hv)
        | some x =>
          rw [hx] at hv
          simp only [Option.getD_some] at hv
          generalize hq : Ai.T.get t d = q at hv
          cases hv <;> simp

section
variable {X : Ctx} {n0 : Nat} {N : Nat} {live : Lo} {b : Frame} {df : List Deferred} {k : List Item} {cs : List Frame} {ops : Array Oper} {base : Nat} {inv : V → List V → Hp → Option (V × Hp)}

def putT (tm : Array Value) (d : Option Tmp) (x : Value) : Array Value :=
  match d with
  | some d => tm.setIfInBounds d x
  | none => tm

theorem putDst_rel {φ : Phi} {F : Fz} {t : List V} {tm : Array Value} (T : TRel φ F N t tm) {d : Option Nat} (hd : okDst N d = true) {v : V} {x : Value} (hv : VRel φ F v x) :
    TRel φ F N (putDst t d v) (putT tm d x) := by
  cases d with
  | none => exact T
  | some d => exact T.set (by simpa [okDst] using hd) hv

theorem op_ok (iok : IOK X inv) {i : Nat} {rest : List Nat} {o : Oper} {ro : Ro} {slot : Option Nat} (ho : ops[i]? = some o) (hc : compRo X.P live N slot ops o = some ro) {s s' : St}
    (he : exO inv base ro s = some s') {φ : Phi} {F : Fz} {w : World} {tm : Array Value} (M : MInv X n0 φ F N b s tm df w) :
    ∃ φ' F' w' tm', Ext n0 φ F w φ' F' w' ∧ MInv X n0 φ' F' N b s' tm' df w' ∧ s'.m = s.m ∧ s'.rd = s.rd ∧
      Steps X.P (lone (Fr b tm (.inRegion ops (i :: rest) :: k) df) cs w) (lone (Fr b tm' (.inRegion ops rest :: k) df) cs w') := by
  unfold compRo at hc
  obtain ⟨hd, hc⟩ := ite_none_some hc
  split at hc
  · rename_i g hg
    cases hc
    have hw := wanted_ok M.tr hg
    unfold exO at he
    simp only at he
    have fin : ∀ (x : Value), (Fr b tm (.inRegion ops (i :: rest) :: k) df).finish x = Fr b (putT tm o.dst x) (.inRegion ops rest :: k) df := by
      intro x; rw [finish_Fr, ho]; rfl
    split at he
    · rename_i hwt
      rw [hwt] at hw
      split at he
      · rename_i v h hx
        cases he
        cases hr : compOp X.P live slot o with
        | none => rw [hr] at hx; simp [exC, exOp] at hx
        | some r =>
          rw [hr] at hx
          simp only [Option.getD_some] at hx
          have hnd : ∀ c, o.op ≠ .defer c := by intro c e; simp [compOp, e] at hr
          have hev : Evals φ F s.t (evalIn tm) := evals_act M.tr (fun _ => rfl) (fun _ => rfl) (fun _ => rfl)
          by_cases hcall : ∃ fa as, r = .call fa as
          · obtain ⟨fa, as, rfl⟩ := hcall
            obtain ⟨f, args, at', fa', hop, hf, rfl, has⟩ := compOp_call hr
            simp only [exC] at hx
            obtain ⟨_, hx⟩ := ite_none_some hx
            rw [evA_known] at hx
            obtain ⟨nx, e1, e2⟩ := iok _ _ _ _ _ hx n0 φ F w (evalIn tm f) (args.map (evalIn tm)) M.sim (hev _ _ hf) (by
              simp only [Array.toList_map]
              exact Evals.mapO hev has)
            have hrun : (execOp (evalIn tm) o).run X.P w = .ok nx w := by
              rw [← e1]
              simp [execOp, hop, resolve]
            obtain ⟨φ', F', w', x, k1, k2, k3, k4⟩ := e2 (Fr b tm (.inRegion ops (i :: rest) :: k) df) cs
            refine ⟨φ', F', w', _, k3, M.turn k2 (putDst_rel (M.tr.mono k3.p k3.f) hd k1) k3.p rfl rfl, rfl, rfl, ?_⟩
            rw [← fin x]
            rcases k4 with ⟨rfl, rfl⟩ | ⟨f', as', rfl, st⟩ | ⟨l, f', tms, a', b', rfl, st⟩
            · exact Steps.one (st_value ho hw hnd hrun (.inl rfl))
            · exact Steps.trans (Steps.one (st_enter ho hw hnd hrun)) st
            · exact Steps.trans (Steps.one (st_round ho hw hnd hrun)) st
          · rw [exC_op (fun f args e => hcall ⟨f, args, e⟩)] at hx
            obtain ⟨φ', F', w', nx, x, k1, k2, k3, k4, k5⟩ := good_all o n0 φ F s.h w s.t (evalIn tm) base r v h M.sim hev hr hx
            refine ⟨φ', F', w', _, k5, M.turn k4 (putDst_rel (M.tr.mono k5.p k5.f) hd k3) k5.p rfl rfl, rfl, rfl, ?_⟩
            rw [← fin x]
            exact Steps.one (st_value ho hw hnd k1 k2)
      · cases he
    · rename_i hwt
      cases he
      refine ⟨φ, F, w, _, .refl _ _ _ _, M.turn M.sim (putDst_rel M.tr hd VRel.undef) (Phi.le.refl _) rfl rfl, rfl, rfl, ?_⟩
      rw [← fin Go.undef]
      refine Steps.one (st_unwanted ?_)
      rw [ho]
      simp only [Option.map_some, Option.getD_some, hw]
      simpa using hwt
  · cases hc

theorem ops_ok (iok : IOK X inv) {ρ : Nat → Ro} : ∀ (idx : List Nat), (∀ i ∈ idx, ∃ o slot, ops[i]? = some o ∧ compRo X.P live N slot ops o = some (ρ i)) → ∀ {s s' : St}, exOs inv base (idx.map ρ) s = some s' →
    ∀ {φ : Phi} {F : Fz} {w : World} {tm : Array Value}, MInv X n0 φ F N b s tm df w →
    ∃ φ' F' w' tm', Ext n0 φ F w φ' F' w' ∧ MInv X n0 φ' F' N b s' tm' df w' ∧ s'.m = s.m ∧ s'.rd = s.rd ∧
      Steps X.P (lone (Fr b tm (.inRegion ops idx :: k) df) cs w) (lone (Fr b tm' (.inRegion ops [] :: k) df) cs w') := by
  intro idx
  induction idx with
  | nil =>
    intro _ s s' h φ F w tm M
    cases h
    exact ⟨φ, F, w, tm, .refl _ _ _ _, M, rfl, rfl, Steps.refl _ _⟩
  | cons i idx ih =>
    intro hρ s s' h φ F w tm M
    simp only [List.map_cons, exOs] at h
    split at h
    · rename_i s1 h1
      obtain ⟨o, slot, ho, hc⟩ := hρ i (by simp)
      obtain ⟨φ1, F1, w1, tm1, e1, m1, r1, q1, st1⟩ := op_ok (k := k) (cs := cs) (rest := idx) iok ho hc h1 M
      obtain ⟨φ2, F2, w2, tm2, e2, m2, r2, q2, st2⟩ := ih (fun j hj => hρ j (by simp [hj])) h m1
      exact ⟨φ2, F2, w2, tm2, e1.trans e2, m2, r2.trans r1, q2.trans q1, Steps.trans st1 st2⟩
    · cases h

end
end Go.Ai
end
section
namespace Go.Ai
open Go Go.RowKit

def SameJ (j : Jump) (k' k : List Item) : Prop := match j with
  | .exit i => exitTo i k' = exitTo i k
  | .goto l => gotoIn l k' = gotoIn l k
  | .ret => True

theorem SameJ.refl (j : Jump) (k : List Item) : SameJ j k k := by cases j <;> simp [SameJ]
theorem SameJ.trans {j : Jump} {a b c : List Item} (h : SameJ j a b) (k : SameJ j b c) : SameJ j a c := by
  cases j <;> simp only [SameJ] at * <;> first | trivial | exact h.trans k

def Arr (P : Program) (x : Ex) (M : Machine) (b : Frame) (tm : Array Value) (df : List Deferred) (k : List Item) (cs : List Frame) (w : World) : Prop := match x with
  | .normal => Steps P M (lone (Fr b tm k df) cs w)
  | .jump j => ∃ k', Steps P M (lone (Fr b tm (.code j.code :: k') df) cs w) ∧ SameJ j k' k

theorem Arr.steps {P : Program} {x : Ex} {M M' : Machine} {b : Frame} {tm : Array Value} {df : List Deferred} {k : List Item} {cs : List Frame} {w : World} (h : Steps P M M') (a : Arr P x M' b tm df k cs w) : Arr P x M b tm df k cs w := by
  cases x with
  | normal => exact Steps.trans h a
  | jump j => obtain ⟨k', h1, h2⟩ := a; exact ⟨k', Steps.trans h h1, h2⟩

def Post (X : Ctx) (n0 N : Nat) (b : Frame) (s s' : St) (φ : Phi) (F : Fz) (w : World) (x : Ex) (M : Machine) (k : List Item) (cs : List Frame) : Prop :=
  ∃ φ' F' w' tm' df', Ext n0 φ F w φ' F' w' ∧ MInv X n0 φ' F' N b s' tm' df' w' ∧ s'.rd = s.rd ∧ Arr X.P x M b tm' df' k cs w'

section
variable {X : Ctx} {n0 N : Nat} {b : Frame} {s s1 s' : St} {φ : Phi} {F : Fz} {w : World} {x : Ex} {M M' : Machine} {k k2 : List Item} {cs : List Frame}

theorem Post.steps (h : Steps X.P M M') (p : Post X n0 N b s s' φ F w x M' k cs) : Post X n0 N b s s' φ F w x M k cs := by
  obtain ⟨φ', F', w', tm', df', h1, h2, h3, h4⟩ := p
  exact ⟨φ', F', w', tm', df', h1, h2, h3, h4.steps h⟩

theorem Post.step (h : step X.P M = .next M') (p : Post X n0 N b s s' φ F w x M' k cs) : Post X n0 N b s s' φ F w x M k cs := p.steps (Steps.one h)

/-- one after the other -/
theorem Post.chain {y : Ex} (p : Post X n0 N b s s1 φ F w .normal M k2 cs)
    (q : ∀ φ' F' w' tm' df', MInv X n0 φ' F' N b s1 tm' df' w' → Post X n0 N b s1 s' φ' F' w' y (lone (Fr b tm' k2 df') cs w') k cs) : Post X n0 N b s s' φ F w y M k cs := by
  obtain ⟨φ', F', w', tm', df', h1, h2, h3, h4⟩ := p
  obtain ⟨φ2, F2, w2, tm2, df2, g1, g2, g3, g4⟩ := q φ' F' w' tm' df' h2
  exact ⟨φ2, F2, w2, tm2, df2, h1.trans g1, g2, g3.trans h3, g4.steps h4⟩

theorem Post.here {tm : Array Value} {df : List Deferred} (I : MInv X n0 φ F N b s tm df w) (h : Steps X.P M (lone (Fr b tm k df) cs w)) : Post X n0 N b s s φ F w .normal M k cs :=
  ⟨φ, F, w, tm, df, .refl _ _ _ _, I, rfl, h⟩

theorem Post.jumped {j : Jump} {tm : Array Value} {df : List Deferred} (I : MInv X n0 φ F N b s tm df w) : Post X n0 N b s s φ F w (.jump j) (lone (Fr b tm (.code j.code :: k) df) cs w) k cs :=
  ⟨φ, F, w, tm, df, .refl _ _ _ _, I, rfl, k, Steps.refl _ _, .refl _ _⟩

/-- a jump goes on outwards -/
theorem Post.out {j : Jump} (p : Post X n0 N b s s' φ F w (.jump j) M k2 cs) (h : ∀ k', SameJ j k' k2 → SameJ j k' k) : Post X n0 N b s s' φ F w (.jump j) M k cs := by
  obtain ⟨φ', F', w', tm', df', h1, h2, h3, k', h4, h5⟩ := p
  exact ⟨φ', F', w', tm', df', h1, h2, h3, k', h4, h _ h5⟩

/-- a jump is met -/
theorem Post.met {j : Jump} {k3 : List Item} (p : Post X n0 N b s s' φ F w (.jump j) M k2 cs)
    (h : ∀ k' tm df w, SameJ j k' k2 → Steps X.P (lone (Fr b tm (.code j.code :: k') df) cs w) (lone (Fr b tm k3 df) cs w)) : Post X n0 N b s s' φ F w .normal M k3 cs := by
  obtain ⟨φ', F', w', tm', df', h1, h2, h3, k', h4, h5⟩ := p
  exact ⟨φ', F', w', tm', df', h1, h2, h3, Steps.trans h4 (h _ _ _ _ h5)⟩
end

/-! ### slots -/
theorem Sim.slots {X : Ctx} {n0 : Nat} {φ : Phi} {F : Fz} {H : Hp} {w : World} (S : Sim X n0 φ F H w) (k : Nat) : Sim X n0 φ F (H ++ List.replicate k .none_) w := by
  have key : ∀ (a : Nat) (o : Ob), (H ++ List.replicate k .none_)[a]? = some o → o.live → H[a]? = some o := by
    intro a o h hl
    rw [List.getElem?_append] at h
    split at h
    · exact h
    · rw [List.getElem?_replicate] at h
      split at h
      · cases h; exact absurd hl (by simp [Ob.live])
      · cases h
  refine ⟨S.sz, fun a e h => S.len a e ?_, fun a e h => ?_, fun a sh es e h => S.fut a sh es e (key _ _ h trivial), fun a o h hl => S.obj a o (key _ _ h hl) hl,
    fun a a' o o' b n n' h hl h' hl' => S.inj a a' o o' b n n' (key _ _ h hl) hl (key _ _ h' hl') hl', S.fz, S.f0⟩
  · rw [List.getElem?_eq_none_iff] at h ⊢
    simp at h; omega
  · rw [List.getElem?_append] at h
    split at h
    · exact S.non a e h
    · exact S.len a e (List.getElem?_eq_none (by omega))

/-! ### a value as what ranges -/
theorem st_rangeFunc_value {P : Program} {b : Frame} {tm : Array Value} {k : List Item} {df : List Deferred} {cs : List Frame} {w : World} {f : Operand} {ps : Array Tmp} {asn body : Code} {l : Nat} {mark : List Deferred} {w1 w2 : World} {v : Value}
    (he : (Instr.enterLoop b.fn tm ps asn body b.roundOf).run P w = .ok (l, mark) w1)
    (hr : (do let d ← resolve (evalIn tm) { callee := .value f, args := #[.const (.func (.yield l) #[] #[])], argTypes := #[] } 0; Go.invoke d.target d.args : Sem Next).run P w1 = .ok (.value v) w2) :
    step P (lone (Fr b tm (.code (.rangeFunc f ps asn body) :: k) df) cs w) = .next (lone (Fr b tm (.endRangeFunc l :: k) (mark ++ df)) cs w2) := by
  have hev := eval_Fr (b := b) (tm := tm) (df := mark ++ df) (.inRangeFunc l :: k)
  simp only [Fr] at hev
  exact step_lone_go (by simp only [Fr]; simp [stepG, stepG.exec, he, stepG.apply, hev]; simp at hr; simp [hr, Frame.finish])

/-! ### results -/
def rres (tm : Array Value) : ResultVar → Sem Value
  | .tmp t => pure (tm.getD t Go.undef)
  | .cell a t => do loadVar t (← asAddr (tm.getD a Go.undef))

theorem results_eq (fn : Func) (tm : Array Value) : results fn tm = (do let vs ← fn.results.mapM (rres tm); pure (if h : vs.size = 1 then vs[0] else .tuple vs)) := by
  have : (fun r : ResultVar => (match r with | .tmp t => pure (tm.getD t Go.undef) | .cell a t => do loadVar t (← asAddr (tm.getD a Go.undef)) : Sem Value)) = rres tm := by
    funext r; cases r <;> rfl
  rw [← this]; rfl

theorem run_results {X : Ctx} {n0 : Nat} {φ : Phi} {F : Fz} {N : Nat} {s : St} {tm : Array Value} {w : World} (S : Sim X n0 φ F s.h w) (T : TRel φ F N s.t tm) {fn : Func} {rs : List Res} {vs : List V}
    (hr : mapO (compRes X.P) fn.results.toList = some rs) (hv : mapO (getRes s) rs = some vs) : ∃ x, (results fn tm).run X.P w = .ok x w ∧ VRel φ F (one vs) x := by
  have key : ∀ (l : List ResultVar) (rs : List Res) (vs : List V), mapO (compRes X.P) l = some rs → mapO (getRes s) rs = some vs →
      ∃ xs : List Value, (l.mapM (rres tm)).run X.P w = .ok xs w ∧ VsRel φ F vs xs := by
    intro l
    induction l with
    | nil =>
      intro rs vs h1 h2
      cases h1; cases h2
      exact ⟨[], rfl, rfl, fun j a => absurd a (by simp)⟩
    | cons r l ih =>
      intro rs vs h1 h2
      simp only [mapO] at h1
      split at h1
      · rename_i q qs g1 g2
        cases h1
        simp only [mapO] at h2
        split at h2
        · rename_i u us g3 g4
          cases h2
          obtain ⟨xs, k1, k2⟩ := ih qs us g2 g4
          have hx : ∃ x, (rres tm r).run X.P w = .ok x w ∧ VRel φ F u x := by
            cases r with
            | tmp t => cases g1; cases g3; exact ⟨_, rfl, T.2.2 t⟩
            | cell a t =>
              simp only [compRes] at g1
              split at g1
              · rename_i g n hg hn
                obtain ⟨_, g1⟩ := ite_none_some g1
                cases g1
                simp only [getRes] at g3
                split at g3
                · rename_i a' sh i o e ha
                  split at g3
                  · rename_i es hes
                    have hva := T.2.2 a
                    rw [ha] at hva
                    obtain ⟨b, m, hp, hxx⟩ := hva.ptr_inv
                    obtain ⟨cs, T', k1, k2, k3, k4, k5, _⟩ := live_arr S hes hp
                    obtain ⟨y, y1, y2⟩ := run_loadE (P := X.P) k5 k3 g3 hg hn
                    refine ⟨y, ?_, y2⟩
                    rw [Nat.zero_add] at y1
                    simp only [rres, hxx]
                    simp [asAddr, y1]
                  · cases g3
                · cases g3
              · cases g1
          obtain ⟨x, hx1, hx2⟩ := hx
          refine ⟨x :: xs, ?_, by simp [k2.1], fun j a c => ?_⟩
          · rw [List.mapM_cons]
            simp only [Sem.run_bind, hx1, Result.andThen_ok, k1, Sem.run_pure]
          · cases j with
            | zero => exact hx2
            | succ j => simpa using k2.2 j (by simpa using a) (by simpa using c)
        · cases h2
      · cases h1
  obtain ⟨xs, k1, k2⟩ := key _ _ _ hr hv
  have hrun : (results fn tm).run X.P w = .ok (if h : xs.length = 1 then xs[0] else .tuple xs.toArray) w := by
    rw [results_eq, Array.mapM_eq_mapM_toList]
    simp only [Sem.run_bind, Sem.run_map, k1]
    simp
  refine ⟨_, hrun, ?_⟩
  cases vs with
  | nil =>
    obtain rfl : xs = [] := List.length_eq_zero_iff.1 k2.1.symm
    exact .tup _ _ rfl (fun j a => absurd a (by simp))
  | cons v vs =>
    cases vs with
    | nil =>
      cases xs with
      | nil => exact absurd k2.1 (by simp)
      | cons x xs =>
        obtain rfl : xs = [] := by
          have := k2.1; simp at this; exact this.symm ▸ rfl
        exact k2.2 0 (by simp) (by simp)
    | cons v' vs =>
      have hl := k2.1
      have : xs.length ≠ 1 := by simp at hl; omega
      rw [dif_neg this]
      exact .tup _ _ (by simpa using hl) fun j a c => by simpa using k2.2 j a (by simpa using c)

theorem takes_keep : ∀ (m : List Nat) {h h' : Hp}, takes h m = some h' → ∀ (a : Nat) (o : Ob), h[a]? = some o → o ≠ .defd → h'[a]? = some o := by
  intro m
  induction m with
  | nil => intro h h' ht a o ho _; cases ht; exact ho
  | cons x m ih =>
    intro h h' ht a o ho hne
    simp only [takes] at ht
    split at ht
    · rename_i hd
      refine ih ht a o ?_ hne
      rw [List.getElem?_set, if_neg]
      · exact ho
      · intro e; subst e; rw [hd] at ho; cases ho; exact hne rfl
    · cases ht

theorem takes_ok {X : Ctx} {n0 : Nat} {b : Frame} {tm : Array Value} {todo : List Item} {cs : List Frame} : ∀ (m : List Nat) (df : List Deferred) {φ : Phi} {F : Fz} {h h' : Hp} {w : World}, Sim X n0 φ F h w → takes h m = some h' → m.length = df.length →
    (∀ j (_ : j < m.length) (_ : j < df.length), ∃ blk n, df[j] = { target := .collected blk, args := #[] } ∧ φ m[j] 0 = some (blk, n)) →
    ∃ w', Sim X n0 φ F h' w' ∧ Ext n0 φ F w φ F w' ∧ Steps X.P (lone (Ret b tm todo df) cs w) (lone (Ret b tm todo []) cs w') := by
  intro m
  induction m with
  | nil =>
    intro df φ F h h' w S ht hl _
    cases ht
    obtain rfl : df = [] := List.length_eq_zero_iff.1 hl.symm
    exact ⟨w, S, .refl _ _ _ _, Steps.refl _ _⟩
  | cons a m ih =>
    intro df φ F h h' w S ht hl hm
    cases df with
    | nil => simp at hl
    | cons d df =>
      simp only [takes] at ht
      split at ht
      · rename_i hd
        obtain ⟨blk, n, k1, k2⟩ := hm 0 (by simp) (by simp)
        simp only [List.getElem_cons_zero] at k1 k2
        subst k1
        obtain ⟨w1, g1, g2, g3⟩ := take_ok (P := X.P) S hd k2
        obtain ⟨w2, q1, q2, q3⟩ := ih df g2 ht (by simpa using hl) fun j p q => by
          have := hm (j + 1) (by simpa using p) (by simpa using q)
          simpa only [List.getElem_cons_succ] using this
        exact ⟨w2, q1, g3.trans q2, Steps.head (st_mark g1) q3⟩
      · cases ht
end Go.Ai
end
section
namespace Go.Ai
open Go Go.RowKit

/-! ### what a program must do, whatever is left open -/

inductive Tk where
  | ev (c : RC) (s : St)
  | sc (b c : RC) (s : St)
  | os (base : Nat) (l : List Ro) (s : St)
  | run (f : FuncId) (args : List V) (h : Hp)
  | call (f : FuncId) (args : List V) (h : Hp)
  | inv (fv : V) (args : List V) (h : Hp)

inductive Out where
  | ex (x : Ex) (s : St)
  | st (s : St)
  | vh (v : V) (h : Hp)

def Env.md (E : Env) (f : FuncId) : Option FMode := some (E.mode f)

/-- an operation that is no call: all that it may give -/
def exM (t : List V) (H : Hp) (base : Nat) (r : R) : Option (List (V × Hp)) :=
  match r with
  | .next false x => match evA t x with
    | .it a => nextM H a
    | _ => none
  | .nileq neg .sl x y => match evA t x, evA t y with
    | .mt, .nils => some [(.bool neg, H), (.bool !neg, H)]
    | _, _ => (exOp t H base r).map fun p => [p]
  | r => (exOp t H base r).map fun p => [p]

def isCall : R → Bool
  | .call _ _ => true
  | _ => false

/-- the loop is run -/
def beginB (h : Hp) (l : Nat) : Option Hp := match h[l]? with
  | some (.loop .ready p t ps asn b) => some (h.set l (.loop .busy p t ps asn b))
  | _ => none
/-- the round is over -/
def endB (h : Hp) (l : Nat) (x : Ex) : Option (V × Hp) := match h[l]? with
  | some (.loop _ _ t ps asn b) => match x with
    | .normal => some (.bool true, h.set l (.loop .ready none t ps asn b))
    | .jump j => some (.bool false, h.set l (.loop .done (some j) t ps asn b))
  | _ => none
/-- the loop over a function is over -/
def endRF (s : St) (h : Hp) : Option (Ex × St) := match h[s.h.length]? with
  | some (.loop st pend t ps asn b) => if st = .busy then none else
    some (match pend with | none => .normal | some j => .jump j, { s with h := h.set s.h.length (.loop .exhausted pend t ps asn b) })
  | _ => none
def endRun (rf : RF) (x : Ex) (s : St) : Option (V × Hp) :=
  if x = .normal ∨ x = .jump .ret then
    match mapO (getRes s) rf.res, takes s.h s.m with
    | some vs, some h => some (one vs, h)
    | _, _ => none
  else none

inductive W (E : Env) : Tk → (Out → Prop) → Prop
  | skip {s : St} {Q : Out → Prop} : Q (.ex .normal s) → W E (.ev .skip s) Q
  | label {l : Nat} {s : St} {Q : Out → Prop} : Q (.ex .normal s) → W E (.ev (.label l) s) Q
  | exit {i : Nat} {s : St} {Q : Out → Prop} : Q (.ex (.jump (.exit i)) s) → W E (.ev (.exit i) s) Q
  | goto {l : Nat} {s : St} {Q : Out → Prop} : Q (.ex (.jump (.goto l)) s) → W E (.ev (.goto l) s) Q
  | ret {s : St} {Q : Out → Prop} : Q (.ex (.jump .ret) s) → W E (.ev .ret s) Q
  | ops {fz : List Nat} {l : List Ro} {s : St} {Q R : Out → Prop} : W E (.os 0 l (tagS fz s)) R → (∀ s', R (.st s') → Q (.ex .normal s')) → W E (.ev (.ops fz l) s) Q
  | dops {fz : List Nat} {k : Nat} {l : List Ro} {chk : List (Nat × Nat)} {s s' : St} {Q : Out → Prop} (inv : V → List V → Hp → Option (V × Hp)) : CallOK inv E.md →
      (∀ fv args h v h', inv fv args h = some (v, h') → W E (.inv fv args h) (fun o => o = .vh v h')) →
      exOs inv (tagS fz s).h.length l { tagS fz s with h := (tagS fz s).h ++ List.replicate k .none_ } = some s' → chkOk s'.t l chk = true → Q (.ex .normal s') → W E (.ev (.dops fz k l chk) s) Q
  | seq {a b : RC} {s : St} {Q R : Out → Prop} : W E (.ev a s) R → (∀ s', R (.ex .normal s') → W E (.ev b s') Q) → (∀ j s', R (.ex (.jump j) s') → Q (.ex (.jump j) s')) → W E (.ev (.seq a b) s) Q
  | condT {c : A} {a b : RC} {s : St} {Q : Out → Prop} : evA s.t c = .bool true → W E (.ev a s) Q → W E (.ev (.cond c a b) s) Q
  | condF {c : A} {a b : RC} {s : St} {Q : Out → Prop} : evA s.t c = .bool false → W E (.ev b s) Q → W E (.ev (.cond c a b) s) Q
  | block {id : Nat} {b : RC} {s : St} {Q R : Out → Prop} : W E (.ev b s) R → (∀ x s', R (.ex x s') → Q (.ex (if x = .jump (.exit id) then .normal else x) s')) → W E (.ev (.block id b) s) Q
  | loop {b : RC} {s : St} {Q R : Out → Prop} : W E (.ev b s) R → (∀ s', R (.ex .normal s') → W E (.ev (.loop b) s') Q) → (∀ j s', R (.ex (.jump j) s') → Q (.ex (.jump j) s')) → W E (.ev (.loop b) s) Q
  | scope {b : RC} {s : St} {Q : Out → Prop} : W E (.sc b b s) Q → W E (.ev (.scope b) s) Q
  | sc {b c : RC} {s : St} {Q R : Out → Prop} : W E (.ev c s) R → (∀ l s' r, R (.ex (.jump (.goto l)) s') → findL b l = some r → W E (.sc b r s') Q) →
      (∀ x s', R (.ex x s') → (∀ l, x = .jump (.goto l) → findL b l = none) → Q (.ex x s')) → W E (.sc b c s) Q
  | rangeF {f : A} {ps : List Nat} {asn b : RC} {s s1 : St} {Q R : Out → Prop} : markS s = some s1 →
      W E (.inv (evA s.t f) [.yld s1.h.length] (s1.h ++ [.loop .ready none s.t ps asn b])) R → (∀ v h, R (.vh v h) → ∃ x s', endRF s1 h = some (x, s') ∧ Q (.ex x s')) → W E (.ev (.rangeF f ps asn b) s) Q
  | osNil {base : Nat} {s : St} {Q : Out → Prop} : Q (.st s) → W E (.os base [] s) Q
  | osSkip {base : Nat} {o : Ro} {l : List Ro} {s : St} {Q : Out → Prop} : wanted s.t o.g = false → W E (.os base l { s with t := putDst s.t o.dst .undef }) Q → W E (.os base (o :: l) s) Q
  | osOp {base : Nat} {o : Ro} {l : List Ro} {s : St} {Q : Out → Prop} {outs : List (V × Hp)} : wanted s.t o.g = true → isCall o.op = false → exM s.t s.h base o.op = some outs →
      (∀ p ∈ outs, W E (.os base l { s with t := putDst s.t o.dst p.1, h := p.2 }) Q) → W E (.os base (o :: l) s) Q
  | osCall {base : Nat} {o : Ro} {l : List Ro} {s : St} {Q R : Out → Prop} {f : A} {args : List A} : wanted s.t o.g = true → o.op = .call f args → W E (.inv (evA s.t f) (args.map (evA s.t)) s.h) R →
      (∀ v h, R (.vh v h) → W E (.os base l { s with t := putDst s.t o.dst v, h := h }) Q) → W E (.os base (o :: l) s) Q
  | run {f : FuncId} {args : List V} {h : Hp} {rf : RF} {Q R : Out → Prop} : E.fn f = some rf → args.length ≤ rf.ntmps → W E (.ev rf.body { t := args, h := h }) R →
      (∀ x s, R (.ex x s) → ∃ v h', endRun rf x s = some (v, h') ∧ Q (.vh v h')) → W E (.run f args h) Q
  | primPure {f : FuncId} {args args' : List V} {h : Hp} {p : List V → Option V} {v : V} {Q : Out → Prop} : E.prim f = some p → E.mode f = .pure → mapO (freeze (onlyFz h) deep) args = some args' → p args' = some v → frz v = true →
      Q (.vh v h) → W E (.call f args h) Q
  | prim {f : FuncId} {args args' : List V} {h : Hp} {p : List V → Option V} {v : V} {Q : Out → Prop} : E.prim f = some p → E.mode f = .snap → mapO (freeze h deep) args = some args' → p args' = some v → scal v = true →
      Q (.vh v h) → W E (.call f args h) Q
  | shared {f : FuncId} {args : List V} {h : Hp} {Q : Out → Prop} : E.mode f = .shared → W E (.run f args h) Q → W E (.call f args h) Q
  | pure {f : FuncId} {args args' : List V} {h : Hp} {Q R : Out → Prop} : E.mode f = .pure → mapO (freeze (onlyFz h) deep) args = some args' → W E (.run f args' []) R →
      (∀ u h1, R (.vh u h1) → ∃ v, freeze h1 deep u = some v ∧ Q (.vh v h)) → W E (.call f args h) Q
  | snap {f : FuncId} {args args' : List V} {h : Hp} {Q R : Out → Prop} : E.mode f = .snap → mapO (freeze h deep) args = some args' → W E (.run f args' []) R →
      (∀ u h1, R (.vh u h1) → fresh h1 deep u = true ∧ ∃ v, freeze h1 deep u = some v ∧ Q (.vh v h)) → W E (.call f args h) Q
  | own {f : FuncId} {args args' : List V} {h : Hp} {Q R : Out → Prop} : E.mode f = .own → mapO (freeze (onlyFz h) deep) args = some args' → W E (.run f args' []) R →
      (∀ u h1, R (.vh u h1) → Q (.vh (ownR h u h1).1 (ownR h u h1).2) ∨ (isMt h1 u = true ∧ Q (.vh .mt h))) → W E (.call f args h) Q
  | fn {f : FuncId} {first caps args : List V} {h : Hp} {Q : Out → Prop} : W E (.call f (first ++ args ++ caps) h) Q → W E (.inv (.fn f first caps) args h) Q
  | yld {l : Nat} {args : List V} {h : Hp} {p0 : Option Jump} {t : List V} {ps : List Nat} {asn b : RC} {Q R1 R2 : Out → Prop} : h[l]? = some (.loop .ready p0 t ps asn b) → args.length = ps.length →
      W E (.ev asn { t := setPs t ps args, h := h, rd := some l }) R1 → (∀ x s1, R1 (.ex x s1) → x = .normal ∧ ∃ h2, beginB s1.h l = some h2) →
      (∀ s1 h2, R1 (.ex .normal s1) → beginB s1.h l = some h2 → W E (.ev b { s1 with h := h2 }) R2) →
      (∀ x s2, R2 (.ex x s2) → ∃ v h3, endB s2.h l x = some (v, h3) ∧ Q (.vh v h3)) → W E (.inv (.yld l) args h) Q

/-- a weaker end will do -/
theorem W.mono {E : Env} {k : Tk} {Q Q' : Out → Prop} (h : W E k Q) (hq : ∀ o, Q o → Q' o) : W E k Q' := by
  induction h generalizing Q' with
  | skip h => exact .skip (hq _ h)
  | label h => exact .label (hq _ h)
  | exit h => exact .exit (hq _ h)
  | goto h => exact .goto (hq _ h)
  | ret h => exact .ret (hq _ h)
  | ops h1 h2 _ => exact .ops h1 fun s' r => hq _ (h2 s' r)
  | dops inv h1 h2 h3 h4 h5 _ => exact .dops inv h1 h2 h3 h4 (hq _ h5)
  | seq h1 h2 h3 _ ih => exact .seq h1 (fun s' r => ih s' r hq) fun j s' r => hq _ (h3 j s' r)
  | condT h1 h2 ih => exact .condT h1 (ih hq)
  | condF h1 h2 ih => exact .condF h1 (ih hq)
  | block h1 h2 _ => exact .block h1 fun x s' r => hq _ (h2 x s' r)
  | loop h1 h2 h3 _ ih => exact .loop h1 (fun s' r => ih s' r hq) fun j s' r => hq _ (h3 j s' r)
  | scope h ih => exact .scope (ih hq)
  | sc h1 h2 h3 _ ih => exact .sc h1 (fun l s' r a b => ih l s' r a b hq) fun x s' a b => hq _ (h3 x s' a b)
  | rangeF h1 h2 h3 _ => exact .rangeF h1 h2 fun v h r => let ⟨x, s', a, b⟩ := h3 v h r; ⟨x, s', a, hq _ b⟩
  | osNil h => exact .osNil (hq _ h)
  | osSkip h1 _ ih => exact .osSkip h1 (ih hq)
  | osOp h1 h2 h3 _ ih => exact .osOp h1 h2 h3 fun p hp => ih p hp hq
  | osCall h1 h2 h3 _ _ ih => exact .osCall h1 h2 h3 fun v h r => ih v h r hq
  | run h1 h2 h3 h4 _ => exact .run h1 h2 h3 fun x s r => let ⟨v, h, a, b⟩ := h4 x s r; ⟨v, h, a, hq _ b⟩
  | primPure h1 h2 h3 h4 h5 h6 => exact .primPure h1 h2 h3 h4 h5 (hq _ h6)
  | prim h1 h2 h3 h4 h5 h6 => exact .prim h1 h2 h3 h4 h5 (hq _ h6)
  | shared h2 _ ih => exact .shared h2 (ih hq)
  | pure h2 h3 h4 h5 _ => exact .pure h2 h3 h4 fun u h r => let ⟨v, a, b⟩ := h5 u h r; ⟨v, a, hq _ b⟩
  | snap h2 h3 h4 h5 _ => exact .snap h2 h3 h4 fun u h r => let ⟨c, v, a, b⟩ := h5 u h r; ⟨c, v, a, hq _ b⟩
  | own h2 h3 h4 h5 _ => exact .own h2 h3 h4 fun u h r => (h5 u h r).imp (hq _) fun ⟨a, b⟩ => ⟨a, hq _ b⟩
  | fn _ ih => exact .fn (ih hq)
  | yld h1 h2 h3 h4 h5 h6 _ _ => exact .yld h1 h2 h3 h4 h5 fun x s r => let ⟨v, h, a, b⟩ := h6 x s r; ⟨v, h, a, hq _ b⟩

end Go.Ai
end
