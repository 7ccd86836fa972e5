/- W is sound for the model; an evaluator gives W; tables of known results; rules for walks by hand. -/
import Derived.Test.YtcocemppeccldaaGreatDoorAiE
set_option linter.unusedVariables false
set_option linter.unusedSimpArgs false
section
namespace Go.Ai
open Go Go.RowKit

/-- how a call goes, whatever is left open -/
def InvQ (X : Ctx) (n0 : Nat) (φ : Phi) (F : Fz) (w : World) (s : Sem Next) (Q : Out → Prop) : Prop :=
  ∃ nx, s.run X.P w = .ok nx w ∧ ∀ (c : Frame) (cs : List Frame), ∃ v H', Q (.vh v H') ∧ ∃ φ' F' w' x, VRel φ' F' v x ∧ Sim X n0 φ' F' H' w' ∧ Ext n0 φ F w φ' F' w' ∧
    ((nx = .value x ∧ w' = w) ∨
     (∃ f as, nx = .enter f as ∧ Steps X.P (lone (Frame.enter X.P f as .normal) (c :: cs) w) (lone (c.finish x) cs w')) ∨
     (∃ l f tms a b, nx = .round l f tms a b ∧ Steps X.P (lone (Frame.round l f tms a b .normal) (c :: cs) w) (lone (c.finish x) cs w')))

def FQ (X : Ctx) (n0 : Nat) (φ : Phi) (F : Fz) (w : World) (f : FuncId) (as : Array Value) (Q : Out → Prop) : Prop :=
  (callFunc f as).run X.P w = .ok (.enter f as) w ∧ ∀ (cs : List Frame), ∃ v H', Q (.vh v H') ∧ ∃ φ' F' w' x fr, Steps X.P (lone (Frame.enter X.P f as .normal) cs w) (lone fr cs w') ∧ fr.fn = f ∧ fr.leaving X.P w' (.returned x) ∧
    VRel φ' F' v x ∧ Sim X n0 φ' F' H' w' ∧ Ext n0 φ F w φ' F' w'

section
variable {X : Ctx} {n0 : Nat} {φ : Phi} {F : Fz} {w : World} {Q : Out → Prop}

theorem InvQ.res {s : Sem Next} {v : V} {H' : Hp} (h : InvQ X n0 φ F w s (fun o => o = .vh v H')) : InvRes X n0 φ F w s v H' := by
  obtain ⟨nx, h1, h2⟩ := h
  refine ⟨nx, h1, fun c cs => ?_⟩
  obtain ⟨v', H1, e, r⟩ := h2 c cs
  cases e
  exact r

theorem InvRes.q {s : Sem Next} {v : V} {H' : Hp} (h : InvRes X n0 φ F w s v H') (hq : Q (.vh v H')) : InvQ X n0 φ F w s Q := by
  obtain ⟨nx, h1, h2⟩ := h
  exact ⟨nx, h1, fun c cs => ⟨v, H', hq, h2 c cs⟩⟩

theorem FQ.inv {f : FuncId} {as : Array Value} (h : FQ X n0 φ F w f as Q) : InvQ X n0 φ F w (callFunc f as) Q := by
  refine ⟨_, h.1, fun c cs => ?_⟩
  obtain ⟨v, H', hq, φ', F', w', x, fr, k1, k2, k3, k4, k5, k6⟩ := h.2 (c :: cs)
  exact ⟨v, H', hq, φ', F', w', x, k4, k5, k6, .inr (.inl ⟨f, as, rfl, Steps.trans k1 (Steps.one (step_leave_returned k3))⟩)⟩
end

theorem equal_nil_slice {P : Program} {T e : TypeId} (hu : P.underlying T = some (.slice e)) (w : World) (n : Nat) (c : Nat) (ad : Addr) :
    (Op.equalIn (n + 1) T (.slice none 0 0) (.slice none 0 0)).run P w = .ok true w ∧ (Op.equalIn (n + 1) T (.slice (some ad) 0 c) (.slice none 0 0)).run P w = .ok false w :=
  ⟨by simp [Op.equalIn, run_underlying hu], by simp [Op.equalIn, run_underlying hu]⟩

/-! ### operations, whatever they leave open -/
theorem goodM {X : Ctx} {live : Lo} {slot : Option Nat} (o : Oper) {n0 : Nat} {φ : Phi} {F : Fz} {H : Hp} {w : World} {t : List V} {ρ : Operand → Value} {base : Nat} {r : R} {outs : List (V × Hp)}
    (S : Sim X n0 φ F H w) (hρ : Evals φ F t ρ) (hc : compOp X.P live slot o = some r) (he : exM t H base r = some outs) :
    ∃ p ∈ outs, OpOK X n0 φ F w (execOp ρ o) p.1 p.2 := by
  have std : ((exOp t H base r).map fun p => [p]) = some outs → ∃ p ∈ outs, OpOK X n0 φ F w (execOp ρ o) p.1 p.2 := by
    intro h
    obtain ⟨p, hp, e⟩ := optmap_some h
    subst e
    exact ⟨p, by simp, good_all o n0 φ F H w t ρ base r p.1 p.2 S hρ hc hp⟩
  by_cases h1 : ∃ x, r = .next false x
  · obtain ⟨ax, rfl⟩ := h1
    simp only [exM] at he
    split at he
    · rename_i a ha
      -- the operation is next
      have : ∃ it, o.op = .next it false ∧ ofA it = some ax := by
        obtain ⟨dst, op, ty, pos, after, gd⟩ := o
        cases op with
        | next it str =>
          simp only [compOp] at hc
          split at hc
          · rename_i x hx
            cases hc
            exact ⟨it, rfl, hx⟩
          · cases hc
        | call c =>
          exfalso
          obtain ⟨callee, args, at'⟩ := c
          cases callee with
          | value f =>
            simp only [compOp] at hc
            repeat' (first | contradiction | (split at hc))
            all_goals (try (simp at hc; done))
          | invoke a b => simp [compOp] at hc
          | builtin b =>
            cases b <;> simp only [compOp] at hc <;> (repeat' (first | contradiction | (split at hc))) <;> (try (simp at hc; done))
        | _ =>
          exfalso
          simp only [compOp] at hc
          repeat' (first | contradiction | (split at hc))
          all_goals (try (simp at hc; done))
      obtain ⟨it, hop, hx⟩ := this
      have hv := hρ _ _ hx
      rw [ha] at hv
      obtain ⟨b, m, hp, hxv⟩ := hv.it_inv
      obtain ⟨p, p1, x, w', q1, q2, q3, q4⟩ := nextM_ok S hp he o.type
      exact ⟨p, p1, φ, F, w', _, x, by simp [execOp, hop, hxv, q1], .inl rfl, q2, q3, q4⟩
    · cases he
  · by_cases h2 : ∃ neg x y, r = .nileq neg .sl x y ∧ evA t x = .mt ∧ evA t y = .nils
    · obtain ⟨neg, x, y, rfl, hx, hy⟩ := h2
      simp only [exM, hx, hy, Option.some.injEq] at he
      subst he
      have : ∃ T T' opx opy, o.op = .binOp (if neg then .neq else .eql) T opx opy T' ∧ ofA opx = some x ∧ ofA opy = some y ∧ ∃ e, X.P.underlying T = some (.slice e) := by
        obtain ⟨dst, op, ty, pos, after, gd⟩ := o
        cases op with
        | binOp bo T opx opy T' =>
          simp only [compOp] at hc
          split at hc
          · rename_i ax ay hax hay
            split at hc
            · cases hc
            · cases hc
            · cases hc
            · cases hc
            · cases hc
            · rename_i g e hg hu
              cases hc
              refine ⟨T, T', opx, opy, ?_, hax, hay, e, hu⟩
              cases bo <;> simp at hg <;> subst hg <;> rfl
            · cases hc
            · cases hc
            · split at hc
              · cases hc
              · obtain ⟨_, _, hc⟩ := optmap_some hc; cases hc
            · cases hc
          · cases hc
        | call c =>
          exfalso
          obtain ⟨callee, args, at'⟩ := c
          cases callee with
          | value f =>
            simp only [compOp] at hc
            repeat' (first | contradiction | (split at hc))
            all_goals (try (simp at hc; done))
          | invoke a b => simp [compOp] at hc
          | builtin b =>
            cases b <;> simp only [compOp] at hc <;> (repeat' (first | contradiction | (split at hc))) <;> (try (simp at hc; done))
        | _ =>
          exfalso
          simp only [compOp] at hc
          repeat' (first | contradiction | (split at hc))
          all_goals (try (simp at hc; done))
      obtain ⟨T, T', opx, opy, hop, hax, hay, e, hu⟩ := this
      have vx := hρ _ _ hax
      have vy := hρ _ _ hay
      rw [hx] at vx; rw [hy] at vy
      have hy' : ρ opy = .slice none 0 0 := by generalize ρ opy = u at vy; cases vy; rfl
      -- what an equality comes to
      have eql : ∀ rr, (Op.equalIn 10000 T (ρ opx) (ρ opy)).run X.P w = .ok rr w → (∃ ad l c, ρ opx = .slice ad l c) →
          (execOp ρ o).run X.P w = .ok (.value (.bool (if neg then !rr else rr))) w := by
        intro rr hq hs
        obtain ⟨ad, l, c, hs⟩ := hs
        have heq : (Op.equal T (ρ opx) (ρ opy)).run X.P w = .ok rr w := hq
        rw [hs, hy'] at heq
        simp only [execOp, hop]
        cases neg <;> simp [eqGuard, Go.binOp, hs, hy', heq]
      have two : ρ opx = .slice none 0 0 ∨ ∃ ad c, ρ opx = .slice (some ad) 0 c := by
        generalize ρ opx = u at vx
        cases vx with
        | mtn => exact .inl rfl
        | mts ad c => exact .inr ⟨ad, c, rfl⟩
      rcases two with h | ⟨ad, c, h⟩
      · have : (Op.equalIn 10000 T (ρ opx) (ρ opy)).run X.P w = .ok true w := by rw [h, hy']; exact (equal_nil_slice hu w 9999 0 ⟨0, 0, none⟩).1
        refine ⟨(.bool !neg, H), by simp, .same S (eql _ this ⟨_, _, _, h⟩) ?_⟩
        cases neg <;> exact .bool _
      · have : (Op.equalIn 10000 T (ρ opx) (ρ opy)).run X.P w = .ok false w := by rw [h, hy']; exact (equal_nil_slice hu w 9999 c ad).2
        refine ⟨(.bool neg, H), by simp, .same S (eql _ this ⟨_, _, _, h⟩) ?_⟩
        cases neg <;> exact .bool _
    · refine std ?_
      rw [← he]
      unfold exM
      split
      · exact absurd ⟨_, rfl⟩ h1
      · rename_i neg x y
        split
        · rename_i hx hy
          exact absurd ⟨neg, x, y, rfl, hx, hy⟩ h2
        · rfl
      · rfl

end Go.Ai
end
section
namespace Go.Ai
open Go Go.RowKit

section
variable {X : Ctx} {n0 : Nat} {N : Nat} {live : Lo} {b : Frame} {df : List Deferred} {k : List Item} {cs : List Frame} {ops : Array Oper} {base : Nat}
variable {i : Nat} {rest : List Nat} {o : Oper} {ro : Ro} {slot : Option Nat} {s : St} {φ : Phi} {F : Fz} {w : World} {tm : Array Value}

theorem op_skip (ho : ops[i]? = some o) (hc : compRo X.P live N slot ops o = some ro) (M : MInv X n0 φ F N b s tm df w) (hw : wanted s.t ro.g = false) :
    ∃ tm', MInv X n0 φ F N b { s with t := putDst s.t ro.dst .undef } tm' df w ∧ Steps X.P (lone (Fr b tm (.inRegion ops (i :: rest) :: k) df) cs w) (lone (Fr b tm' (.inRegion ops rest :: k) df) cs w) := by
  unfold compRo at hc
  obtain ⟨hd, hc⟩ := ite_none_some hc
  split at hc
  · rename_i g hg
    cases hc
    have hw' := wanted_ok M.tr hg
    simp only at hw
    have fin : ∀ (x : Value), (Fr b tm (.inRegion ops (i :: rest) :: k) df).finish x = Fr b (putT tm o.dst x) (.inRegion ops rest :: k) df := by
      intro x; rw [finish_Fr, ho]; rfl
    refine ⟨_, M.turn M.sim (putDst_rel M.tr hd VRel.undef) (Phi.le.refl _) rfl rfl, ?_⟩
    rw [← fin Go.undef]
    refine Steps.one (st_unwanted ?_)
    rw [ho]
    simp only [Option.map_some, Option.getD_some, hw', hw]
  · cases hc

theorem op_one (ho : ops[i]? = some o) (hc : compRo X.P live N slot ops o = some ro) (M : MInv X n0 φ F N b s tm df w) (hw : wanted s.t ro.g = true) {outs : List (V × Hp)}
    (hn : isCall ro.op = false) (hx : exM s.t s.h base ro.op = some outs) :
    ∃ p ∈ outs, ∃ φ' F' w' tm', Ext n0 φ F w φ' F' w' ∧ MInv X n0 φ' F' N b { s with t := putDst s.t ro.dst p.1, h := p.2 } tm' df w' ∧
      Steps X.P (lone (Fr b tm (.inRegion ops (i :: rest) :: k) df) cs w) (lone (Fr b tm' (.inRegion ops rest :: k) df) cs w') := by
  unfold compRo at hc
  obtain ⟨hd, hc⟩ := ite_none_some hc
  split at hc
  · rename_i g hg
    cases hc
    have hw' := wanted_ok M.tr hg
    simp only at hw hx hn
    have fin : ∀ (x : Value), (Fr b tm (.inRegion ops (i :: rest) :: k) df).finish x = Fr b (putT tm o.dst x) (.inRegion ops rest :: k) df := by
      intro x; rw [finish_Fr, ho]; rfl
    rw [hw] at hw'
    cases hr : compOp X.P live slot o with
    | none => rw [hr] at hx; simp [exM, exOp] at hx
    | some r =>
      rw [hr] at hx hn
      simp only [Option.getD_some] at hx hn
      have hnd : ∀ c, o.op ≠ .defer c := by intro c e; simp [compOp, e] at hr
      have hev : Evals φ F s.t (evalIn tm) := evals_act M.tr (fun _ => rfl) (fun _ => rfl) (fun _ => rfl)
      obtain ⟨p, hp, φ', F', w', nx, x, k1, k2, k3, k4, k5⟩ := goodM o M.sim hev hr hx
      refine ⟨p, hp, φ', F', w', _, k5, M.turn k4 (putDst_rel (M.tr.mono k5.p k5.f) hd k3) k5.p rfl rfl, ?_⟩
      rw [← fin x]
      exact Steps.one (st_value ho hw' hnd k1 k2)
  · cases hc

theorem op_call (ho : ops[i]? = some o) (hc : compRo X.P live N slot ops o = some ro) (M : MInv X n0 φ F N b s tm df w) (hw : wanted s.t ro.g = true) {f : A} {args : List A} {R : Out → Prop}
    (hop : ro.op = .call f args) (hx : ∀ n0 φ F w fx as, Sim X n0 φ F s.h w → VRel φ F (evA s.t f) fx → VsRel φ F (args.map (evA s.t)) as.toList →
      InvQ X n0 φ F w (do let d ← Deferred.ofValue fx as; invoke d.target d.args) R) :
    ∃ v h, R (.vh v h) ∧ ∃ φ' F' w' tm', Ext n0 φ F w φ' F' w' ∧ MInv X n0 φ' F' N b { s with t := putDst s.t ro.dst v, h := h } tm' df w' ∧
      Steps X.P (lone (Fr b tm (.inRegion ops (i :: rest) :: k) df) cs w) (lone (Fr b tm' (.inRegion ops rest :: k) df) cs w') := by
  unfold compRo at hc
  obtain ⟨hd, hc⟩ := ite_none_some hc
  split at hc
  · rename_i g hg
    cases hc
    have hw' := wanted_ok M.tr hg
    simp only at hw hop
    have fin : ∀ (x : Value), (Fr b tm (.inRegion ops (i :: rest) :: k) df).finish x = Fr b (putT tm o.dst x) (.inRegion ops rest :: k) df := by
      intro x; rw [finish_Fr, ho]; rfl
    rw [hw] at hw'
    cases hr : compOp X.P live slot o with
    | none => rw [hr] at hop; cases hop
    | some r =>
      rw [hr] at hop
      simp only [Option.getD_some] at hop
      subst hop
      have hnd : ∀ c, o.op ≠ .defer c := by intro c e; simp [compOp, e] at hr
      have hev : Evals φ F s.t (evalIn tm) := evals_act M.tr (fun _ => rfl) (fun _ => rfl) (fun _ => rfl)
      obtain ⟨f', args', at', fa', hop, hf, rfl, has⟩ := compOp_call hr
      rw [evA_known] at hx
      obtain ⟨nx, e1, e2⟩ := hx n0 φ F w (evalIn tm f') (args'.map (evalIn tm)) M.sim (hev _ _ hf) (by
        simp only [Array.toList_map]
        exact Evals.mapO hev has)
      have hrun : (execOp (evalIn tm) o).run X.P w = .ok nx w := by
        rw [← e1]
        simp [execOp, hop, resolve]
      obtain ⟨v, h, hR, φ', F', w', x, k1, k2, k3, k4⟩ := e2 (Fr b tm (.inRegion ops (i :: rest) :: k) df) cs
      refine ⟨v, h, hR, φ', F', w', _, k3, M.turn k2 (putDst_rel (M.tr.mono k3.p k3.f) hd k1) k3.p rfl rfl, ?_⟩
      rw [← fin x]
      rcases k4 with ⟨rfl, rfl⟩ | ⟨f', as', rfl, st⟩ | ⟨l, f', tms, a', b', rfl, st⟩
      · exact Steps.one (st_value ho hw' hnd hrun (.inl rfl))
      · exact Steps.trans (Steps.one (st_enter ho hw' hnd hrun)) st
      · exact Steps.trans (Steps.one (st_round ho hw' hnd hrun)) st
  · cases hc
end

def PostQ (X : Ctx) (n0 N : Nat) (b : Frame) (s : St) (Q : Out → Prop) (φ : Phi) (F : Fz) (w : World) (M : Machine) (k : List Item) (cs : List Frame) : Prop :=
  ∃ x s', Q (.ex x s') ∧ Post X n0 N b s s' φ F w x M k cs

def Sound (X : Ctx) : Tk → (Out → Prop) → Prop
  | .ev c s, Q => ∀ lv N code, comp X.P X.md lv N code = some c → ∀ n0 φ F b tm k df cs w, MInv X n0 φ F N b s tm df w →
      PostQ X n0 N b s Q φ F w (lone (Fr b tm (.code code :: k) df) cs w) k cs ∧
      (∀ body, code = .loop body → PostQ X n0 N b s Q φ F w (lone (Fr b tm (.inLoop body :: k) df) cs w) k cs)
  | .sc cb c s, Q => ∀ lv N body code, comp X.P X.md lv N body = some cb → comp X.P X.md lv N code = some c → ∀ n0 φ F b tm k df cs w, MInv X n0 φ F N b s tm df w →
      PostQ X n0 N b s Q φ F w (lone (Fr b tm (.code code :: .inScope body :: k) df) cs w) k cs
  | .os _ l s, Q => ∀ live N ops (ρ : Nat → Ro) idx, l = idx.map ρ → (∀ i ∈ idx, ∃ o slot, ops[i]? = some o ∧ compRo X.P live N slot ops o = some (ρ i)) →
      ∀ n0 φ F b tm df k cs w, MInv X n0 φ F N b s tm df w → ∃ s', Q (.st s') ∧ ∃ φ' F' w' tm', Ext n0 φ F w φ' F' w' ∧ MInv X n0 φ' F' N b s' tm' df w' ∧ s'.rd = s.rd ∧
      Steps X.P (lone (Fr b tm (.inRegion ops idx :: k) df) cs w) (lone (Fr b tm' (.inRegion ops [] :: k) df) cs w')
  | .run f args h, Q => ∀ n0 φ F w as, Sim X n0 φ F h w → VsRel φ F args as.toList → FQ X n0 φ F w f as Q
  | .call f args h, Q => ∀ n0 φ F w as, Sim X n0 φ F h w → VsRel φ F args as.toList → InvQ X n0 φ F w (callFunc f as) Q
  | .inv fv args h, Q => ∀ n0 φ F w fx as, Sim X n0 φ F h w → VRel φ F fv fx → VsRel φ F args as.toList → InvQ X n0 φ F w (do let d ← Deferred.ofValue fx as; invoke d.target d.args) Q

section
variable {X : Ctx} {n0 N : Nat} {b : Frame} {s s1 : St} {φ : Phi} {F : Fz} {w : World} {M M' : Machine} {k k2 : List Item} {cs : List Frame} {Q R : Out → Prop}

theorem PostQ.step (h : step X.P M = .next M') (p : PostQ X n0 N b s Q φ F w M' k cs) : PostQ X n0 N b s Q φ F w M k cs := by
  obtain ⟨x, s', hq, p⟩ := p
  exact ⟨x, s', hq, p.step h⟩

theorem PostQ.here {tm : Array Value} {df : List Deferred} (hq : Q (.ex .normal s)) (I : MInv X n0 φ F N b s tm df w) (h : Steps X.P M (lone (Fr b tm k df) cs w)) : PostQ X n0 N b s Q φ F w M k cs :=
  ⟨_, _, hq, Post.here I h⟩

theorem PostQ.chain (p : Post X n0 N b s s1 φ F w .normal M k2 cs)
    (q : ∀ φ' F' w' tm' df', MInv X n0 φ' F' N b s1 tm' df' w' → PostQ X n0 N b s1 Q φ' F' w' (lone (Fr b tm' k2 df') cs w') k cs) : PostQ X n0 N b s Q φ F w M k cs := by
  obtain ⟨φ', F', w', tm', df', h1, h2, h3, h4⟩ := p
  obtain ⟨x, s', hq, φ2, F2, w2, tm2, df2, g1, g2, g3, g4⟩ := q φ' F' w' tm' df' h2
  exact ⟨x, s', hq, φ2, F2, w2, tm2, df2, h1.trans g1, g2, g3.trans h3, g4.steps h4⟩
end

end Go.Ai
end
section
namespace Go.Ai
open Go Go.RowKit

theorem md_eq (X : Ctx) : Env.md X.E = X.md := by funext f; rfl

/-- what code a translation comes from -/
theorem comp_inv {P : Program} {md : FuncId → Option FMode} {lv : Lv} {N : Nat} {code : Code} {c : RC} (h : comp P md lv N code = some c) : match c with
    | .skip => code = .skip
    | .label l => code = .label l
    | .exit i => code = .exit i
    | .goto l => code = .goto l
    | .ret => code = .ret
    | .ops fz l => (∃ id ops, code = .region id ops false ∧ fz = lv.fz id ∧ mapO (fun o => compRo P lv.live N none ops o) ops.toList = some l) ∨ (∃ why, code = .refuse why ∧ l = [{ dst := none, op := .bad }])
    | .dops fz k l chk => ∃ id ops, code = .region id ops true ∧ fz = lv.fz id ∧ compDraw P md lv.live (lv.fz id) N ops = some (.dops fz k l chk)
    | .seq a b => ∃ x y, code = .seq x y ∧ comp P md lv N x = some a ∧ comp P md lv N y = some b
    | .cond c a b => ∃ z x y, code = .cond z x y ∧ ofA z = some c ∧ comp P md lv N x = some a ∧ comp P md lv N y = some b
    | .block id b => ∃ x, code = .block id x ∧ comp P md lv N x = some b
    | .loop b => ∃ x, code = .loop x ∧ comp P md lv N x = some b
    | .scope b => ∃ x, code = .scope x ∧ comp P md lv N x = some b
    | .rangeF f ps asn b => ∃ f' ps' a' b', code = .rangeFunc f' ps' a' b' ∧ ofA f' = some f ∧ comp P md lv N a' = some asn ∧ comp P md lv N b' = some b ∧ (ps'.all fun p => decide (p < N)) = true ∧ ps = ps'.toList := by
  cases code with
  | region id ops d =>
    cases d with
    | false =>
      simp only [comp] at h
      obtain ⟨l, hl, rfl⟩ := optmap_some h
      exact .inl ⟨id, ops, rfl, rfl, hl⟩
    | true =>
      simp only [comp] at h
      obtain ⟨k, l, chk, ρ, rfl, _⟩ := compDraw_ok h
      exact ⟨id, ops, rfl, rfl, h⟩
  | seq x y =>
    simp only [comp] at h
    split at h
    · rename_i a b h1 h2; cases h; exact ⟨x, y, rfl, h1, h2⟩
    · cases h
  | cond z x y =>
    simp only [comp] at h
    split at h
    · rename_i a b c h1 h2 h3; cases h; exact ⟨z, x, y, rfl, h1, h2, h3⟩
    · cases h
  | block id x => simp only [comp] at h; obtain ⟨b, hb, rfl⟩ := optmap_some h; exact ⟨x, rfl, hb⟩
  | loop x => simp only [comp] at h; obtain ⟨b, hb, rfl⟩ := optmap_some h; exact ⟨x, rfl, hb⟩
  | scope x => simp only [comp] at h; obtain ⟨b, hb, rfl⟩ := optmap_some h; exact ⟨x, rfl, hb⟩
  | rangeFunc f ps a b =>
    simp only [comp] at h
    split at h
    · rename_i x y z h1 h2 h3
      obtain ⟨hp, h⟩ := ite_none_some h
      cases h
      exact ⟨f, ps, a, b, rfl, h1, h2, h3, hp, rfl⟩
    · cases h
  | skip => cases h; rfl
  | label l => cases h; rfl
  | exit l => cases h; rfl
  | goto l => cases h; rfl
  | ret => cases h; rfl
  | refuse why => cases h; exact .inr ⟨why, rfl, rfl⟩

section
variable {X : Ctx}

theorem iok_of {inv : V → List V → Hp → Option (V × Hp)} (h : ∀ fv args h v h', inv fv args h = some (v, h') → Sound X (.inv fv args h) (fun o => o = .vh v h')) : IOK X inv := by
  intro fv args h1 v h' he n0 φ F w fx as S hf hv
  exact (h fv args h1 v h' he n0 φ F w fx as S hf hv).res

theorem sound_rangeF {f : A} {ps : List Nat} {asn bc : RC} {s s1 : St} {Q R : Out → Prop} (hm : markS s = some s1)
    (ih : Sound X (.inv (evA s.t f) [.yld s1.h.length] (s1.h ++ [.loop .ready none s.t ps asn bc])) R)
    (hR : ∀ v h, R (.vh v h) → ∃ x s', endRF s1 h = some (x, s') ∧ Q (.ex x s')) : Sound X (.ev (.rangeF f ps asn bc) s) Q := by
  intro lv N code hc n0 φ F b tm k df cs w I
  obtain ⟨f', ps', a', b', rfl, h0, h1, h2, hps, rfl⟩ := comp_inv hc
  refine ⟨?_, fun _ e => by cases e⟩
  have hN : tm.size = N := I.tr.2.1
  have start : ∃ (φ1 : Phi) (w1 : World) (lb : Nat) (mark : List Deferred), (Instr.enterLoop b.fn tm ps' a' b' b.roundOf).run X.P w = .ok (lb, mark) w1 ∧ φ1 s1.h.length 0 = some (lb, 0) ∧
      Ext n0 φ F w φ1 F w1 ∧ MInv X n0 φ1 F N b { s1 with h := s1.h ++ [.loop .ready none s.t ps'.toList asn bc] } tm (mark ++ df) w1 ∧ s1.t = s.t ∧ s1.rd = s.rd := by
    have hO : ∀ (φ' : Phi) (hp : φ.le φ') (dn : Nat), ORel X φ' F (.loop .ready none s.t ps'.toList asn bc) 0 (.loop { state := .ready, pending := none, fn := b.fn, tmps := tm, params := ps', assign := a', body := b', defers := dn }) :=
      fun φ' hp dn => ⟨_, rfl, rfl, rfl, rfl, lv, hN ▸ I.tr.mono hp (Fz.le.refl _), fun p hp => by rw [hN]; simpa using Array.all_eq_true_iff_forall_mem.1 hps p (by simpa using hp), hN ▸ h1, hN ▸ h2⟩
    unfold markS at hm
    have hrd := I.rd
    split at hm
    · rename_i hr
      cases hm
      rw [hr] at hrd
      obtain ⟨φ1, p1, p2, p3⟩ := I.sim.new (base := 0) (slot := none) (o := .defd) (a := s.h.length) rfl trivial (.deferred (some [])) 0 rfl
      obtain ⟨φ2, q1, q2, q3⟩ := p2.new (base := 0) (slot := none) (o := .loop .ready none s.t ps'.toList asn bc) (a := (s.h ++ [Ob.defd]).length) rfl trivial _ 0 (hO φ1 p3.p w.heap.size)
      refine ⟨φ2, _, _, [{ target := .collected w.heap.size, args := #[] }], ?_, q1, p3.trans q3, ⟨q2, I.tr.mono (Phi.le.trans p3.p q3.p) (Fz.le.refl _), ?_, by simp [I.ml], fun j a c => ?_⟩, rfl, rfl⟩
      · simp [Instr.enterLoop, hrd, newObj, Sem.run]; rfl
      · simp only [hr]; exact hrd
      · cases j with
        | zero => exact ⟨w.heap.size, 0, rfl, q3.p _ _ _ p1⟩
        | succ j =>
          obtain ⟨blk, n', k1, k2⟩ := I.mks j (by simpa using a) (by simpa using c)
          exact ⟨blk, n', by simpa using k1, q3.p _ _ _ (p3.p _ _ _ (by simpa using k2))⟩
    · rename_i lr hr
      split at hm
      · rename_i st' pend' t' ps'' asn' b'' hlr
        cases hm
        rw [hr] at hrd
        obtain ⟨lb, nn, e1, e2⟩ := hrd
        obtain ⟨r, r1, r2, _, _⟩ := live_loop I.sim hlr e2
        obtain ⟨φ2, q1, q2, q3⟩ := I.sim.new (base := 0) (slot := none) (o := .loop .ready none s.t ps'.toList asn bc) (a := s.h.length) rfl trivial _ 0 (hO φ (Phi.le.refl _) r.defers)
        refine ⟨φ2, _, _, [], ?_, q1, q3, I.turn q2 (I.tr.mono q3.p (Fz.le.refl _)) q3.p rfl rfl, rfl, rfl⟩
        simp [Instr.enterLoop, e1, run_getLoop r1, newObj, Sem.run]
      · cases hm
  obtain ⟨φ1, w1, lb, mark, e1, e2, e3, I1, e4, e5⟩ := start
  have hev : Evals φ1 F s.t (evalIn tm) := evals_act (e4 ▸ I1.tr) (fun _ => rfl) (fun _ => rfl) (fun _ => rfl)
  obtain ⟨nx, g1, g2⟩ := ih n0 φ1 F w1 (evalIn tm f') #[.func (.yield lb) #[] #[]] I1.sim (hev _ _ h0) ⟨rfl, fun j a c => by
    have : j = 0 := by simpa using a
    subst this; exact .yld _ _ _ e2⟩
  obtain ⟨u, hh, hRv, φ', F', w', y, k1, k2, k3, k4⟩ := g2 (Fr b tm (.inRangeFunc lb :: k) (mark ++ df)) cs
  obtain ⟨x, s', he, hq⟩ := hR _ _ hRv
  refine ⟨x, s', hq, ?_⟩
  unfold endRF at he
  split at he
  · rename_i st pend t3 ps3 asn3 b3 hl
    split at he
    · cases he
    · rename_i hbusy
      cases he
      obtain ⟨w2, m1, m2, m3⟩ := endLoop_ok (P := X.P) k2 hl (k3.p _ _ _ e2) hbusy
      have hrun : (do let d ← resolve (evalIn tm) { callee := .value f', args := #[.const (.func (.yield lb) #[] #[])], argTypes := #[] } 0; Go.invoke d.target d.args : Sem Next).run X.P w1 = .ok nx w1 := by
        rw [← g1]
        simp [resolve, evalIn]
      have hst : Steps X.P (lone (Fr b tm (.code (.rangeFunc f' ps' a' b') :: k) df) cs w) (lone (Fr b tm (.endRangeFunc lb :: k) (mark ++ df)) cs w') := by
        rw [finish_range] at k4
        rcases k4 with ⟨rfl, rfl⟩ | ⟨f'', as', rfl, st⟩ | ⟨l', f'', tms, a'', b'', rfl, st⟩
        · exact Steps.one (st_rangeFunc_value e1 hrun)
        · exact Steps.head ((st_rangeFunc e1 hrun).1 _ _ rfl) st
        · exact Steps.head ((st_rangeFunc e1 hrun).2 _ _ _ _ _ rfl) st
      have I2 : MInv X n0 φ' F' N b { s1 with h := hh.set s1.h.length (.loop .exhausted pend t3 ps3 asn3 b3) } tm (mark ++ df) w2 := I1.turn m2 (I1.tr.mono k3.p k3.f) k3.p rfl rfl
      have hext := (e3.trans k3).trans m3
      cases pend with
      | none => exact ⟨φ', F', w2, tm, mark ++ df, hext, I2, e5, Steps.trans hst (Steps.one (st_endRange m1))⟩
      | some j => exact ⟨φ', F', w2, tm, mark ++ df, hext, I2, e5, k, Steps.trans hst (Steps.one (st_endRange m1)), .refl _ _⟩
  · cases he

theorem VsRel.app {φ : Phi} {F : Fz} {a b : List V} {x y : List Value} (h : VsRel φ F a x) (k : VsRel φ F b y) : VsRel φ F (a ++ b) (x ++ y) := by
  refine ⟨by simp [h.1, k.1], fun j p q => ?_⟩
  have hl := h.1
  simp only [List.getElem_append]
  by_cases hj : j < a.length
  · rw [dif_pos hj, dif_pos (by omega)]; exact h.2 j hj (by omega)
  · rw [dif_neg hj, dif_neg (by omega)]
    have := k.2 (j - a.length) (by simp at p; omega) (by simp at q; omega)
    simpa only [hl] using this

theorem enter_rel {φ : Phi} {F : Fz} {N : Nat} {args : List V} {as : Array Value} (h : VsRel φ F args as.toList) (hl : args.length ≤ N) : TRel φ F N args (as ++ Array.replicate (N - as.size) Go.undef) := by
  have hs := h.1
  simp only [Array.length_toList] at hs
  refine ⟨hl, by simp; omega, fun j => ?_⟩
  simp only [T.get, List.getD_eq_getElem?_getD, Array.getD_eq_getD_getElem?, Array.getElem?_append, Array.getElem?_replicate]
  by_cases hj : j < args.length
  · rw [if_pos (by omega), List.getElem?_eq_getElem hj, Array.getElem?_eq_getElem (by omega)]
    exact h.2 j hj (by simp; omega)
  · rw [if_neg (by omega), List.getElem?_eq_none (by omega)]
    simp only [Option.getD_none]
    split <;> exact VRel.undef

theorem sound_run (hX : X.OK) {f : FuncId} {args : List V} {h : Hp} {rf : RF} {Q R : Out → Prop} (hrf : X.E.fn f = some rf) (hlen : args.length ≤ rf.ntmps)
    (ih : Sound X (.ev rf.body { t := args, h := h }) R) (hR : ∀ x s, R (.ex x s) → ∃ v h', endRun rf x s = some (v, h') ∧ Q (.vh v h')) : Sound X (.run f args h) Q := by
  intro n0 φ F w as S hv
  have hcf := hX.fn f rf hrf
  unfold compF at hcf
  split at hcf
  · rename_i fn hfn
    split at hcf
    · cases hcf
    · rename_i hname
      split at hcf
      · rename_i body hbody
        split at hcf
        · rename_i cb rs hcb hrs
          cases hcf
          have hn : ¬ fn.name = "runtime.NumGoroutine" := by simpa using hname
          refine ⟨by simp [callFunc, hfn, hn, hbody], fun cs => ?_⟩
          have hN : (Frame.enter X.P f as .normal) = Fr (Frame.enter X.P f as .normal) (as ++ Array.replicate (fn.ntmps - as.size) Go.undef) [.code body] [] := by
            simp [Frame.enter, Fr, hfn, hbody]
          have I : MInv X n0 φ F fn.ntmps (Frame.enter X.P f as .normal) { t := args, h := h } (as ++ Array.replicate (fn.ntmps - as.size) Go.undef) [] w :=
            ⟨S, enter_rel hv hlen, rfl, rfl, fun j a => absurd a (by simp)⟩
          obtain ⟨x, s, hRx, φ', F', w', tm', df', g1, g2, g3, g4⟩ := (ih _ _ _ hcb n0 φ F _ _ [] [] cs w I).1
          obtain ⟨v, h', her, hq⟩ := hR x s hRx
          unfold endRun at her
          obtain ⟨hx, her⟩ := ite_none_some her
          split at her
          · rename_i vs h2 hvs hts
            cases her
            refine ⟨_, _, hq, ?_⟩
            rw [← hN] at g4
            have hro : (Frame.enter X.P f as .normal).roundOf = none := rfl
            obtain ⟨todo, hst⟩ : ∃ todo, Steps X.P (lone (Frame.enter X.P f as .normal) cs w) (lone (Ret (Frame.enter X.P f as .normal) tm' todo df') cs w') := by
              cases x with
              | normal => exact ⟨_, Steps.trans g4 (Steps.one (st_end hro))⟩
              | jump j =>
                have : j = .ret := by rcases hx with hx | hx <;> cases hx; rfl
                subst this
                obtain ⟨k', g5, _⟩ := g4
                exact ⟨_, Steps.trans g5 (Steps.one (st_ret hro))⟩
            obtain ⟨w2, q1, q2, q3⟩ := takes_ok (b := Frame.enter X.P f as .normal) (tm := tm') (todo := todo) (cs := cs) s.m df' g2.sim hts g2.ml g2.mks
            have T2 : TRel φ' F' fn.ntmps s.t tm' := g2.tr
            have hvs' : mapO (getRes { s with h := h' }) rs = some vs := by
              refine mapO_mono (fun r u hu => ?_) hvs
              cases r with
              | tmp t => exact hu
              | cell a g m =>
                simp only [getRes] at hu ⊢
                split at hu
                · rename_i a' sh i o e ha
                  split at hu
                  · rename_i es hes
                    obtain ⟨z1, z2⟩ := arrAt_some hes
                    have hk : arrAt h' a' sh e = some es := by
                      rcases z1 with z1 | z1 <;> (have := takes_keep _ hts _ _ z1 (by simp); simp only [arrAt, this, z2, and_self, if_true])
                    rw [hk]
                    exact hu
                  · cases hu
                · cases hu
            obtain ⟨y, y1, y2⟩ := run_results (s := { s with h := h' }) q1 T2 hrs hvs'
            exact ⟨φ', F', w2, y, _, Steps.trans hst q3, rfl, ⟨rfl, rfl, rfl, fn, hfn, y1⟩, y2, q1, g1.trans q2⟩
          · cases her
        · cases hcf
      · cases hcf
  · cases hcf

theorem setPs_rel {φ : Phi} {F : Fz} {N : Nat} : ∀ (ps : List Nat) (args : List V) (xs : List Value) (t : List V) (tm : Array Value), ps.length = args.length → TRel φ F N t tm → VsRel φ F args xs → (∀ p ∈ ps, p < N) →
    TRel φ F N (setPs t ps args) ((ps.zip xs).foldl (fun tm (p : Nat × Value) => tm.setIfInBounds p.1 p.2) tm) := by
  intro ps
  induction ps with
  | nil => intro args xs t tm _ h _ _; cases args <;> exact h
  | cons p ps ih =>
    intro args xs t tm hl h hv hp
    cases args with
    | nil => simp at hl
    | cons a args =>
      cases xs with
      | nil => exact absurd hv.1 (by simp)
      | cons x xs =>
        simp only [setPs, List.zip_cons_cons, List.foldl_cons]
        exact ih args xs _ _ (by simpa using hl) (h.set (hp p (by simp)) (hv.2 0 (by simp) (by simp))) ⟨by simpa using hv.1, fun j u v => by
          have := hv.2 (j + 1) (by simpa using u) (by simpa using v)
          simp only [List.getElem_cons_succ] at this
          exact this⟩ fun q hq => hp q (by simp [hq])

theorem sound_yld {l : Nat} {args : List V} {h : Hp} {p0 : Option Jump} {t : List V} {ps : List Nat} {asn bc : RC} {Q R1 R2 : Out → Prop} (hl : h[l]? = some (.loop .ready p0 t ps asn bc)) (hlen : args.length = ps.length)
    (ih1 : Sound X (.ev asn { t := setPs t ps args, h := h, rd := some l }) R1) (h1 : ∀ x s1, R1 (.ex x s1) → x = .normal ∧ ∃ h2, beginB s1.h l = some h2)
    (ih2 : ∀ s1 h2, R1 (.ex .normal s1) → beginB s1.h l = some h2 → Sound X (.ev bc { s1 with h := h2 }) R2)
    (h2 : ∀ x s2, R2 (.ex x s2) → ∃ v h3, endB s2.h l x = some (v, h3) ∧ Q (.vh v h3)) : Sound X (.inv (.yld l) args h) Q := by
  intro n0 φ F w fx as S hf hv
  cases hf with
  | yld _ lb nn hp =>
    obtain ⟨r, r1, r2, _, _⟩ := live_loop S hl hp
    obtain ⟨r', e, k1, k2, k3, lv, k4, k5, k6, k7⟩ := r2
    cases e
    have hsz : as.size = r.params.size := by
      have := hv.1; rw [← k3] at hlen; simp at this hlen; omega
    let tms := (r.params.zip as).foldl (fun tmps (t, a) => tmps.setIfInBounds t a) r.tmps
    refine ⟨.round lb r.fn tms r.assign r.body, ?_, fun c cs => ?_⟩
    · simp [Deferred.ofValue, invoke, Instr.yield, run_getLoop r1, hsz, tms]
    · have T0 : TRel φ F r.tmps.size (setPs t ps args) tms := by
        have := setPs_rel ps args as.toList t r.tmps hlen.symm k4 hv k5
        rw [← k3, ← Array.toList_zip, Array.foldl_toList] at this
        rw [← k3]
        exact this
      let b : Frame := Frame.round lb r.fn tms r.assign r.body .normal
      have I0 : MInv X n0 φ F r.tmps.size b { t := setPs t ps args, h := h, rd := some l } tms [] w :=
        ⟨S, T0, ⟨lb, nn, rfl, hp⟩, rfl, fun j a => absurd a (by simp)⟩
      obtain ⟨x1, s1, hR1, φ1, F1, w1, tm1, df1, g1, g2, g3, g4⟩ := (ih1 _ _ _ k6 n0 φ F b tms [.beginRound, .code r.body] [] (c :: cs) w I0).1
      obtain ⟨rfl, hh2, hb2⟩ := h1 x1 s1 hR1
      have ih2' := ih2 s1 hh2 hR1 hb2
      unfold beginB at hb2
      split at hb2
      · rename_i pend2 t2 ps2 asn2 body2 hl2
        cases hb2
        obtain ⟨w2, m1, m2, m3⟩ := begin_ok (P := X.P) g2.sim hl2 (g1.p _ _ _ hp)
        have I1 : MInv X n0 φ1 F1 r.tmps.size b { s1 with h := s1.h.set l (.loop .busy pend2 t2 ps2 asn2 body2) } tm1 df1 w2 := g2.turn m2 g2.tr (Phi.le.refl _) rfl rfl
        obtain ⟨x, s2, hR2, φ2, F2, w3, tm2, df2, q1, q2, q3, q4⟩ := (ih2' _ _ _ k7 n0 φ1 F1 b tm1 [] df1 (c :: cs) w2 I1).1
        obtain ⟨v, h3, hb3, hq⟩ := h2 x s2 hR2
        have hb1 : step X.P (lone (Fr b tm1 [.beginRound, .code r.body] df1) (c :: cs) w1) = .next (lone (Fr b tm1 [.code r.body] df1) (c :: cs) w2) := st_beginRound rfl m1
        have hstart : Steps X.P (lone b (c :: cs) w) (lone (Fr b tm1 [.code r.body] df1) (c :: cs) w2) := Steps.trans g4 (Steps.one hb1)
        have hp3 := q1.p _ _ _ (m3.p _ _ _ (g1.p _ _ _ hp))
        refine ⟨v, h3, hq, ?_⟩
        unfold endB at hb3
        split at hb3
        · rename_i st3 pend3 t3 ps3 asn3 body3 hl3
          split at hb3
          · cases hb3
            obtain ⟨w4, z1, z2, z3⟩ := end_ok (P := X.P) q2.sim hl3 hp3 none
            refine ⟨φ2, F2, w4, .bool true, .bool _, z2, ((g1.trans m3).trans q1).trans z3, .inr (.inr ⟨lb, r.fn, tms, r.assign, r.body, rfl, ?_⟩)⟩
            exact Steps.trans hstart (Steps.trans q4 (Steps.one (st_leaveRound (b := b) (jump := none) rfl rfl (.inl ⟨rfl, rfl⟩) z1)))
          · rename_i j
            cases hb3
            obtain ⟨w4, z1, z2, z3⟩ := end_ok (P := X.P) q2.sim hl3 hp3 (some j)
            obtain ⟨k', q5, q6⟩ := q4
            refine ⟨φ2, F2, w4, .bool false, .bool _, z2, ((g1.trans m3).trans q1).trans z3, .inr (.inr ⟨lb, r.fn, tms, r.assign, r.body, rfl, ?_⟩)⟩
            refine Steps.trans hstart (Steps.trans q5 (Steps.one (st_leaveRound (b := b) (jump := some j.code) rfl rfl ?_ z1)))
            cases j with
            | ret => exact .inr (.inl ⟨k', rfl, rfl⟩)
            | exit i => exact .inr (.inr (.inl ⟨i, k', rfl, q6, rfl⟩))
            | goto i => exact .inr (.inr (.inr ⟨i, k', rfl, q6, rfl⟩))
        · cases hb3
      · cases hb2


/-- WHATEVER IS LEFT OPEN, the program does what `W` says. -/
theorem soundW (hX : X.OK) {k : Tk} {Q : Out → Prop} (h : W X.E k Q) : Sound X k Q := by
  induction h with
  | skip h =>
    intro lv N code hc n0 φ F b tm k df cs w I
    have e : code = .skip := comp_inv hc
    subst e
    exact ⟨PostQ.here h I (Steps.one st_skip), fun _ e => by cases e⟩
  | label h =>
    intro lv N code hc n0 φ F b tm k df cs w I
    have e : code = .label _ := comp_inv hc
    subst e
    exact ⟨PostQ.here h I (Steps.one st_label), fun _ e => by cases e⟩
  | exit h =>
    intro lv N code hc n0 φ F b tm k df cs w I
    have e : code = .exit _ := comp_inv hc
    subst e
    exact ⟨⟨_, _, h, Post.jumped I⟩, fun _ e => by cases e⟩
  | goto h =>
    intro lv N code hc n0 φ F b tm k df cs w I
    have e : code = .goto _ := comp_inv hc
    subst e
    exact ⟨⟨_, _, h, Post.jumped I⟩, fun _ e => by cases e⟩
  | ret h =>
    intro lv N code hc n0 φ F b tm k df cs w I
    have e : code = .ret := comp_inv hc
    subst e
    exact ⟨⟨_, _, h, Post.jumped I⟩, fun _ e => by cases e⟩
  | @ops fz l s Q R h1 hR ih =>
    intro lv N code hc n0 φ F b tm k df cs w I
    rcases comp_inv hc with ⟨id, ops, rfl, rfl, hl⟩ | ⟨why, rfl, rfl⟩
    · refine ⟨?_, fun _ e => by cases e⟩
      obtain ⟨l1, l2⟩ := mapO_get hl
      obtain ⟨Ft, I, hte⟩ := I.tagS (lv.fz id)
      have hlm : l = (List.range ops.size).map fun i => (l[i]?).getD ⟨none, .bad, none⟩ := by
        apply List.ext_getElem?
        intro j
        by_cases hj : j < l.length
        · have : j < ops.size := by simpa using (show j < ops.toList.length by omega)
          simp [this, hj]
        · have : ¬ j < ops.size := by have := l1; simp at this; omega
          rw [List.getElem?_eq_none (by omega), List.getElem?_eq_none (by simp; omega)]
      obtain ⟨s', hs', φ', F', w', tm', g1, g2, g4, g5⟩ := ih lv.live N ops _ (List.range ops.size) hlm (fun i hi => by
        have hi' : i < ops.size := by simpa using hi
        obtain ⟨y, y1, y2⟩ := l2 i (by simpa using hi')
        exact ⟨ops[i], none, Array.getElem?_eq_getElem hi', by rw [y1]; simpa using y2⟩) n0 φ Ft b tm df k cs w I
      exact ⟨_, s', hR s' hs', φ', F', w', tm', df, hte.trans g1, g2, g4.trans (tagS_rd _ _), Steps.head st_region (Steps.trans g5 (Steps.one st_regionEnd))⟩
    · exfalso
      cases h1 with
      | osSkip hw _ => simp [wanted] at hw
      | osOp _ _ he _ => simp [exM, exOp] at he
      | osCall _ he _ _ => cases he
  | @dops fz kk l chk s s1 Q inv hcall _ h1 hchk hq ih =>
    intro lv N code hc n0 φ F b tm k df cs w I
    obtain ⟨id, ops, rfl, rfl, hd⟩ := comp_inv hc
    refine ⟨?_, fun _ e => by cases e⟩
    obtain ⟨kk', l', chk', ρ, e, hρ, hall⟩ := compDraw_ok hd
    cases e
    rw [md_eq] at hcall
    let w1 : World := { w with drawn := w.drawn + 1 }
    obtain ⟨Ft, It, hte⟩ := I.tagS (lv.fz id)
    have hsch := hall _ _ _ _ hcall h1 hchk (w.tape w.drawn (.order b.fn id))
    have hmem : ∀ i ∈ Region.schedule true ops (w.tape w.drawn (.order b.fn id)), i < ops.size := by
      exact fun i hi' => sched_lt _ i hi'
    have I1 : MInv X n0 φ Ft N b { tagS (lv.fz id) s with h := (tagS (lv.fz id) s).h ++ List.replicate kk .none_ } tm df w1 := It.turn ((It.sim.slots kk).drawn _) It.tr (Phi.le.refl _) rfl rfl
    obtain ⟨φ', F', w', tm', g1, g2, g3, g4, g5⟩ := ops_ok (k := k) (cs := cs) (ops := ops) (live := lv.live) (iok_of ih) _ (fun i hi => hρ i (hmem i hi)) hsch I1
    refine ⟨_, s1, hq, φ', F', w', tm', df, hte.trans ?_, g2, g4.trans (tagS_rd _ _), ?_⟩
    · exact ⟨g1.p, g1.f, ⟨g1.b.os, g1.b.tape, g1.b.output, g1.b.size, g1.b.block⟩, g1.n⟩
    · have := st_draw (P := X.P) (b := b) (tm := tm) (k := k) (df := df) (cs := cs) (w := w) (id := id) (ops := ops)
      rw [hX.mixed] at this
      exact Steps.head this (Steps.trans g5 (Steps.one st_regionEnd))
  | @seq a b s Q R _ _ hj ih1 ih2 =>
    intro lv N code hc n0 φ F bf tm k df cs w I
    obtain ⟨x, y, rfl, hx, hy⟩ := comp_inv hc
    refine ⟨?_, fun _ e => by cases e⟩
    refine PostQ.step st_seq ?_
    obtain ⟨e, s1, hR, p⟩ := (ih1 lv N x hx n0 φ F bf tm (.code y :: k) df cs w I).1
    cases e with
    | normal => exact PostQ.chain p fun φ' F' w' tm' df' I' => (ih2 s1 hR lv N y hy n0 φ' F' bf tm' k df' cs w' I').1
    | jump j => exact ⟨_, s1, hj j s1 hR, p.out fun k' hk => by cases j <;> exact hk⟩
  | @condT c a b s Q ht _ ih =>
    intro lv N code hc n0 φ F bf tm k df cs w I
    obtain ⟨z, x, y, rfl, hz, hx, hy⟩ := comp_inv hc
    refine ⟨?_, fun _ e => by cases e⟩
    have hev : Evals φ F s.t (evalIn tm) := evals_act I.tr (fun _ => rfl) (fun _ => rfl) (fun _ => rfl)
    have hv := hev _ _ hz
    rw [ht] at hv
    refine PostQ.step (st_cond hv.bool_inv) ?_
    exact (ih lv N x hx n0 φ F bf tm k df cs w I).1
  | @condF c a b s Q ht _ ih =>
    intro lv N code hc n0 φ F bf tm k df cs w I
    obtain ⟨z, x, y, rfl, hz, hx, hy⟩ := comp_inv hc
    refine ⟨?_, fun _ e => by cases e⟩
    have hev : Evals φ F s.t (evalIn tm) := evals_act I.tr (fun _ => rfl) (fun _ => rfl) (fun _ => rfl)
    have hv := hev _ _ hz
    rw [ht] at hv
    refine PostQ.step (st_cond hv.bool_inv) ?_
    exact (ih lv N y hy n0 φ F bf tm k df cs w I).1
  | @block id b s Q R _ hR ih =>
    intro lv N code hc n0 φ F bf tm k df cs w I
    obtain ⟨x, rfl, hx⟩ := comp_inv hc
    refine ⟨?_, fun _ e => by cases e⟩
    refine PostQ.step st_block ?_
    obtain ⟨e, s1, h1, p⟩ := (ih lv N x hx n0 φ F bf tm (.inBlock id :: k) df cs w I).1
    have hq := hR e s1 h1
    cases e with
    | normal => exact PostQ.chain p fun φ' F' w' tm' df' I' => PostQ.here (by simpa using hq) I' (Steps.one st_inBlock)
    | jump j =>
      cases j with
      | exit i =>
        by_cases hid : i = id
        · rw [if_pos (by rw [hid])] at hq
          exact ⟨_, s1, hq, p.met fun k' tm df w hk => Steps.one (st_exit (by simp only [SameJ] at hk; rw [hk]; simp [exitTo, hid]))⟩
        · rw [if_neg (by intro e; cases e; exact hid rfl)] at hq
          refine ⟨_, s1, hq, p.out fun k' hk => ?_⟩
          simp only [SameJ] at hk ⊢
          rw [hk]
          have : ¬ id = i := fun e => hid e.symm
          simp [exitTo, this]
      | ret => exact ⟨_, s1, by simpa using hq, p.out fun k' hk => trivial⟩
      | goto l => exact ⟨_, s1, by simpa using hq, p.out fun k' hk => hk⟩
  | @loop b s Q R _ _ hj ih1 ih2 =>
    intro lv N code hc n0 φ F bf tm k df cs w I
    obtain ⟨x, rfl, hx⟩ := comp_inv hc
    have q : PostQ X n0 N bf s Q φ F w (lone (Fr bf tm (.code x :: .inLoop x :: k) df) cs w) k cs := by
      obtain ⟨e, s1, hR, p⟩ := (ih1 lv N x hx n0 φ F bf tm (.inLoop x :: k) df cs w I).1
      cases e with
      | normal => exact PostQ.chain p fun φ' F' w' tm' df' I' => (ih2 s1 hR lv N (.loop x) (by simp [comp, hx]) n0 φ' F' bf tm' k df' cs w' I').2 x rfl
      | jump j => exact ⟨_, s1, hj j s1 hR, p.out fun k' hk => by cases j <;> exact hk⟩
    exact ⟨PostQ.step st_loop q, fun body' e => by cases e; exact PostQ.step st_inLoop q⟩
  | @scope b s Q _ ih =>
    intro lv N code hc n0 φ F bf tm k df cs w I
    obtain ⟨x, rfl, hx⟩ := comp_inv hc
    refine ⟨?_, fun _ e => by cases e⟩
    refine PostQ.step st_scope ?_
    exact ih lv N x x hx hx n0 φ F bf tm k df cs w I
  | @sc cb c s Q R _ _ hout ih1 ih2 =>
    intro lv N body code hb hc n0 φ F bf tm k df cs w I
    obtain ⟨e, s1, hR, p⟩ := (ih1 lv N code hc n0 φ F bf tm (.inScope body :: k) df cs w I).1
    cases e with
    | normal => exact PostQ.chain p fun φ' F' w' tm' df' I' => PostQ.here (hout _ s1 hR (fun l e => by cases e)) I' (Steps.one st_inScope)
    | jump j =>
      cases j with
      | exit i => exact ⟨_, s1, hout _ s1 hR (fun l e => by cases e), p.out fun k' hk => hk⟩
      | ret => exact ⟨_, s1, hout _ s1 hR (fun l e => by cases e), p.out fun k' hk => trivial⟩
      | goto l =>
        have hf := findL_ok (l := l) hb
        cases hr : findL cb l with
        | some r =>
          cases hfl : findLabel body l with
          | none => rw [hfl] at hf; rw [hf] at hr; cases hr
          | some rest =>
            rw [hfl] at hf
            obtain ⟨c', e1, e2⟩ := hf
            rw [hr] at e1; cases e1
            have pm := Post.met (k3 := .code rest :: .inScope body :: k) p fun k' tm df w hk => Steps.one (st_goto (by
              simp only [SameJ] at hk
              rw [hk]; simp [gotoIn, hfl]))
            exact PostQ.chain pm fun φ' F' w' tm' df' I' => ih2 l s1 r hR hr lv N body rest hb e2 n0 φ' F' bf tm' k df' cs w' I'
        | none =>
          refine ⟨_, s1, hout _ s1 hR (fun l' e => by cases e; exact hr), p.out fun k' hk => ?_⟩
          simp only [SameJ] at hk ⊢
          rw [hk]
          cases hfl : findLabel body l with
          | none => simp [gotoIn, hfl]
          | some rest =>
            rw [hfl] at hf
            obtain ⟨c', e1, _⟩ := hf
            rw [hr] at e1; cases e1
  | rangeF hm _ hR ih => exact sound_rangeF hm ih hR
  | @osNil base s Q h =>
    intro live N ops ρ idx hl hρ n0 φ F b tm df k cs w I
    obtain rfl : idx = [] := by cases idx <;> first | rfl | (simp at hl)
    exact ⟨s, h, φ, F, w, tm, .refl _ _ _ _, I, rfl, Steps.refl _ _⟩
  | @osSkip base o l s Q hw _ ih =>
    intro live N ops ρ idx hl hρ n0 φ F b tm df k cs w I
    cases idx with
    | nil => simp at hl
    | cons i idx =>
      simp only [List.map_cons, List.cons.injEq] at hl
      obtain ⟨rfl, rfl⟩ := hl
      obtain ⟨op, slot, ho, hc⟩ := hρ i (by simp)
      obtain ⟨tm1, I1, st1⟩ := op_skip (k := k) (cs := cs) (rest := idx) ho hc I hw
      obtain ⟨s', hq, φ', F', w', tm', e1, m1, r1, st2⟩ := ih live N ops ρ idx rfl (fun j hj => hρ j (by simp [hj])) n0 φ F b tm1 df k cs w I1
      exact ⟨s', hq, φ', F', w', tm', e1, m1, r1, Steps.trans st1 st2⟩
  | @osOp base o l s Q outs hw hn he _ ih =>
    intro live N ops ρ idx hl hρ n0 φ F b tm df k cs w I
    cases idx with
    | nil => simp at hl
    | cons i idx =>
      simp only [List.map_cons, List.cons.injEq] at hl
      obtain ⟨rfl, rfl⟩ := hl
      obtain ⟨op, slot, ho, hc⟩ := hρ i (by simp)
      obtain ⟨p, hp, φ1, F1, w1, tm1, x1, I1, st1⟩ := op_one (k := k) (cs := cs) (rest := idx) ho hc I hw hn he
      obtain ⟨s', hq, φ', F', w', tm', e1, m1, r1, st2⟩ := ih p hp live N ops ρ idx rfl (fun j hj => hρ j (by simp [hj])) n0 φ1 F1 b tm1 df k cs w1 I1
      exact ⟨s', hq, φ', F', w', tm', x1.trans e1, m1, r1, Steps.trans st1 st2⟩
  | @osCall base o l s Q R f args hw hop _ _ ih1 ih2 =>
    intro live N ops ρ idx hl hρ n0 φ F b tm df k cs w I
    cases idx with
    | nil => simp at hl
    | cons i idx =>
      simp only [List.map_cons, List.cons.injEq] at hl
      obtain ⟨rfl, rfl⟩ := hl
      obtain ⟨op, slot, ho, hc⟩ := hρ i (by simp)
      obtain ⟨v, h, hR, φ1, F1, w1, tm1, x1, I1, st1⟩ := op_call (k := k) (cs := cs) (rest := idx) ho hc I hw hop ih1
      obtain ⟨s', hq, φ', F', w', tm', e1, m1, r1, st2⟩ := ih2 v h hR live N ops ρ idx rfl (fun j hj => hρ j (by simp [hj])) n0 φ1 F1 b tm1 df k cs w1 I1
      exact ⟨s', hq, φ', F', w', tm', x1.trans e1, m1, r1, Steps.trans st1 st2⟩
  | run hrf hlen _ hR ih => exact sound_run hX hrf hlen ih hR
  | @primPure f args args' h p v Q hp hm hfz hu hs hq =>
    intro n0 φ F w as S hv
    refine InvRes.q ?_ hq
    have hv' : VsRel Phi.none F args' as.toList := mapO_vs hfz (fun v v' hh => freeze_fz S v v' hh) hv
    obtain ⟨nx, k1, k2⟩ := hX.prim f p hp args' v hu F w as hv' S.fz S.f0
    refine ⟨nx, k1, fun c cs => ?_⟩
    obtain ⟨φ', F', w', x, g1, g2, g3, g4⟩ := k2 c cs
    obtain ⟨p1, p2, p3, p4⟩ := pure_back (F0 := F) S g2 g3.b (fun k hk => g3.n k hk)
    exact ⟨φ, _, w', x, frz_rel (p4 rfl) g1 hs, p1, p2, g4⟩
  | @prim f args args' h p v Q hp hm hfz hu hs hq =>
    intro n0 φ F w as S hv
    refine InvRes.q ?_ hq
    have hv' : VsRel Phi.none (snapF F w) args' as.toList := mapO_vs hfz (fun v v' hh => freeze_ok (fun _ => S) (snapF_live S) _ v v' hh (.inl snapF_le)) hv
    obtain ⟨nx, k1, k2⟩ := hX.prim f p hp args' v hu _ w as hv' (snapF_fz S.fz) (Fz.le.trans S.f0 snapF_le)
    refine ⟨nx, k1, fun c cs => ?_⟩
    obtain ⟨φ', F', w', x, g1, g2, g3, g4⟩ := k2 c cs
    obtain ⟨p1, p2, p3, p4⟩ := pure_back (F0 := snapF F w) S g2 g3.b (fun k hk => g3.n k hk)
    exact ⟨φ, _, w', x, scal_rel g1 hs, p1, p2, g4⟩
  | shared hm _ ih =>
    intro n0 φ F w as S hv
    exact (ih n0 φ F w as S hv).inv
  | @pure f args args' h Q R hm hfz _ hR ih =>
    intro n0 φ F w as S hv
    have hv0 : VsRel Phi.none F args' as.toList := mapO_vs hfz (fun v v' hh => freeze_fz S v v' hh) hv
    obtain ⟨e1, e2⟩ := ih w.heap.size Phi.none F w as (Sim.empty S.fz S.f0) hv0
    refine ⟨_, e1, fun c cs => ?_⟩
    obtain ⟨u, h1, hRu, φ', F', w', x, fr, k1, _, k3, k4, k5, k6⟩ := e2 (c :: cs)
    obtain ⟨v, hz, hq⟩ := hR u h1 hRu
    obtain ⟨p1, p2, p3, p4⟩ := pure_back (F0 := F) S k5 k6.b (fun k hk => k6.n k hk)
    exact ⟨v, h, hq, φ, _, w', x, (freeze_ok (fun _ => k5) p3 _ _ _ hz (.inl (p4 rfl))).1 x k4, p1, p2, .inr (.inl ⟨f, as, rfl, Steps.trans k1 (Steps.one (step_leave_returned k3))⟩)⟩
  | @snap f args args' h Q R hm hfz _ hR ih =>
    intro n0 φ F w as S hv
    have hv' : VsRel Phi.none (snapF F w) args' as.toList := mapO_vs hfz (fun v v' hh => freeze_ok (fun _ => S) (snapF_live S) _ v v' hh (.inl snapF_le)) hv
    obtain ⟨e1, e2⟩ := ih w.heap.size Phi.none (snapF F w) w as (Sim.empty (snapF_fz S.fz) (Fz.le.trans S.f0 snapF_le)) hv'
    refine ⟨_, e1, fun c cs => ?_⟩
    obtain ⟨u, h1, hRu, φ', F', w', x, fr, k1, _, k3, k4, k5, k6⟩ := e2 (c :: cs)
    obtain ⟨hfr, v, hz, hq⟩ := hR u h1 hRu
    obtain ⟨p1, p2, p3, p4⟩ := pure_back (F0 := snapF F w) S k5 k6.b (fun k hk => k6.n k hk)
    exact ⟨v, h, hq, φ, _, w', x, (freeze_ok (fun _ => k5) p3 _ _ _ hz (.inr hfr)).1 x k4, p1, p2, .inr (.inl ⟨f, as, rfl, Steps.trans k1 (Steps.one (step_leave_returned k3))⟩)⟩
  | @own f args args' h Q R hm hfz _ hR ih =>
    intro n0 φ F w as S hv
    have hv0 : VsRel Phi.none F args' as.toList := mapO_vs hfz (fun v v' hh => freeze_fz S v v' hh) hv
    obtain ⟨e1, e2⟩ := ih w.heap.size Phi.none F w as (Sim.empty S.fz S.f0) hv0
    refine ⟨_, e1, fun c cs => ?_⟩
    obtain ⟨u, h1, hRu, φ', F', w', x, fr, k1, _, k3, k4, k5, k6⟩ := e2 (c :: cs)
    have hq := hR u h1 hRu
    have hst := Steps.trans k1 (Steps.one (step_leave_returned k3))
    rcases hq with hq | ⟨hz, hq⟩
    rotate_left
    · have hz : freeze h1 deep u = some .mt := by
        unfold isMt at hz
        split at hz
        · rename_i e; exact e
        · cases hz
      obtain ⟨p1, p2, p3, p4⟩ := pure_back (F0 := F) S k5 k6.b (fun k hk => k6.n k hk)
      exact ⟨_, _, hq, φ, _, w', x, (freeze_ok (fun _ => k5) p3 _ _ _ hz (.inl (p4 rfl))).1 x k4, p1, p2, .inr (.inl ⟨f, as, rfl, hst⟩)⟩
    · obtain ⟨φ2, p1, p2, p3⟩ := Sim.append S k5 k6
      exact ⟨_, _, hq, φ2, F', w', x, p3 u x k4, p1, p2, .inr (.inl ⟨f, as, rfl, hst⟩)⟩
  | @fn f first caps args h Q _ ih =>
    intro n0 φ F w fx as S hf hv
    cases hf with
    | fn _ _ _ fi ca l1 l2 r1 r2 =>
      have := ih n0 φ F w (fi ++ as ++ ca) S (by
        simp only [Array.toList_append]
        exact (VsRel.app (VsRel.app ⟨by simpa using l1, fun j a c => by simpa using r1 j a (by simpa using c)⟩ hv) ⟨by simpa using l2, fun j a c => by simpa using r2 j a (by simpa using c)⟩))
      simpa [Deferred.ofValue, invoke] using this
  | yld hl hlen _ h1 _ h2 ih1 ih2 => exact sound_yld hl hlen ih1 h1 ih2 h2

end
end Go.Ai
end
section
namespace Go.Ai
open Go Go.RowKit

/-! ### an evaluator that gives all outcomes -/

mutual
def veq : V → V → Bool
  | .bool a, .bool b => a == b
  | .int k n, .int k' m => decide (k = k') && decide (n = m)
  | .str a, .str b => decide (a.data = b.data)
  | .nilp, .nilp => true
  | .ptr a s i o e, .ptr a' s' i' o' e' => decide (a = a') && decide (s = s') && decide (i = i') && decide (o = o') && decide (e = e')
  | .fptr s es i o, .fptr s' es' i' o' => decide (s = s') && veqs es es' && decide (i = i') && decide (o = o')
  | .nils, .nils => true
  | .mt, .mt => true
  | .sl a s i n e c, .sl a' s' i' n' e' c' => decide (a = a') && decide (s = s') && decide (i = i') && decide (n = n') && decide (e = e') && decide (c = c')
  | .fsl s es, .fsl s' es' => decide (s = s') && veqs es es'
  | .nilm, .nilm => true
  | .mp a, .mp b => decide (a = b)
  | .fmap ks vs, .fmap ks' vs' => veqs ks ks' && veqs vs vs'
  | .fn f a b, .fn f' a' b' => decide (f = f') && veqs a a' && veqs b b'
  | .yld a, .yld b => decide (a = b)
  | .nilf, .nilf => true
  | .it a, .it b => decide (a = b)
  | .agg a, .agg b => veqs a b
  | .tup a, .tup b => veqs a b
  | _, _ => false
def veqs : List V → List V → Bool
  | [], [] => true
  | a :: as, b :: bs => veq a b && veqs as bs
  | _, _ => false
end

mutual
theorem veq_eq : ∀ (a b : V), veq a b = true → a = b
  | .bool a, b, h => by cases b <;> simp [veq] at h; simp [h]
  | .int k n, b, h => by cases b <;> simp [veq] at h; simp [h]
  | .str a, b, h => by cases b <;> simp [veq] at h; simp [ByteArray.ext h]
  | .nilp, b, h => by cases b <;> simp [veq] at h; rfl
  | .ptr a s i o e, b, h => by cases b <;> simp [veq] at h; simp [h]
  | .fptr s es i o, b, h => by cases b <;> simp [veq] at h; simp [h, veqs_eq _ _ h.1.1.2]
  | .nils, b, h => by cases b <;> simp [veq] at h; rfl
  | .mt, b, h => by cases b <;> simp [veq] at h; rfl
  | .sl a s i n e c, b, h => by cases b <;> simp [veq] at h; simp [h]
  | .fsl s es, b, h => by cases b <;> simp [veq] at h; simp [h, veqs_eq _ _ h.2]
  | .nilm, b, h => by cases b <;> simp [veq] at h; rfl
  | .mp a, b, h => by cases b <;> simp [veq] at h; simp [h]
  | .fmap ks vs, b, h => by cases b <;> simp [veq] at h; simp [veqs_eq _ _ h.1, veqs_eq _ _ h.2]
  | .fn f x y, b, h => by cases b <;> simp [veq] at h; simp [h, veqs_eq _ _ h.1.2, veqs_eq _ _ h.2]
  | .yld a, b, h => by cases b <;> simp [veq] at h; simp [h]
  | .nilf, b, h => by cases b <;> simp [veq] at h; rfl
  | .it a, b, h => by cases b <;> simp [veq] at h; simp [h]
  | .agg x, b, h => by cases b <;> simp [veq] at h; simp [veqs_eq _ _ h]
  | .tup x, b, h => by cases b <;> simp [veq] at h; simp [veqs_eq _ _ h]
theorem veqs_eq : ∀ (a b : List V), veqs a b = true → a = b
  | [], b, h => by cases b <;> simp [veqs] at h; rfl
  | x :: xs, b, h => by
    cases b with
    | nil => simp [veqs] at h
    | cons y ys =>
      simp [veqs] at h
      rw [veq_eq _ _ h.1, veqs_eq _ _ h.2]
end

def bindL {α β : Type} : List α → (α → Option (List β)) → Option (List β)
  | [], _ => some []
  | x :: xs, f => match f x with
    | some a => match bindL xs f with
      | some b => some (a ++ b)
      | none => none
    | none => none

theorem bindL_mem {α β : Type} {l : List α} {f : α → Option (List β)} {r : List β} (h : bindL l f = some r) : ∀ x ∈ l, ∃ y, f x = some y ∧ ∀ z ∈ y, z ∈ r := by
  induction l generalizing r with
  | nil => intro x hx; simp at hx
  | cons a l ih =>
    simp only [bindL] at h
    split at h
    · rename_i y hy
      split at h
      · rename_i b hb
        cases h
        intro x hx
        rcases List.mem_cons.1 hx with rfl | hx
        · exact ⟨y, hy, fun z hz => by simp [hz]⟩
        · obtain ⟨y', h1, h2⟩ := ih hb x hx
          exact ⟨y', h1, fun z hz => by simp [h2 z hz]⟩
      · cases h
    · cases h

/-- all outcomes are the same -/
def allSame : List V → Option V
  | [] => none
  | v :: vs => if vs.all (veq v) then some v else none

/-- empty slices, once -/
def ownL (h : Hp) (l : List (V × Hp)) : List (V × Hp) :=
  match l with
  | [p] => [ownR h p.1 p.2]
  | l => if l.all (fun p => isMt p.2 p.1) = true then [(.mt, h)] else l.map fun p => ownR h p.1 p.2

theorem ownL_mem {h : Hp} {l : List (V × Hp)} : ∀ p ∈ l, ownR h p.1 p.2 ∈ ownL h l ∨ (isMt p.2 p.1 = true ∧ (V.mt, h) ∈ ownL h l) := by
  intro p hp
  unfold ownL
  split
  · rw [List.mem_singleton.1 hp]; exact .inl (by simp)
  · split
    · rename_i ha
      exact .inr ⟨List.all_eq_true.1 ha p hp, by simp⟩
    · exact .inl (List.mem_map.2 ⟨p, hp, rfl⟩)

def one? {α : Type} : Option (List α) → Option α
  | some [x] => some x
  | _ => none

/-- what is known of a call already -/
def primL (E : Env) (f : FuncId) (args : List V) : Option V := match E.prim f with
  | some p => p args
  | none => none

theorem primL_some {E : Env} {f : FuncId} {args : List V} {v : V} (h : primL E f args = some v) : ∃ p, E.prim f = some p ∧ p args = some v := by
  unfold primL at h
  split at h
  · rename_i p hp; exact ⟨p, hp, h⟩
  · cases h

section
variable (E : Env)
mutual
def evL : Nat → RC → St → Option (List (Ex × St))
  | 0, _, _ => none
  | n + 1, c, s =>
    match c with
    | .skip | .label _ => some [(.normal, s)]
    | .ops fz l => (osL n 0 l (tagS fz s)).map fun l => l.map fun s => (.normal, s)
    | .dops fz k l chk => match exOs (fun fv args h => one? (invL n fv args h)) (tagS fz s).h.length l { tagS fz s with h := (tagS fz s).h ++ List.replicate k .none_ } with
      | some s => if chkOk s.t l chk then some [(.normal, s)] else none
      | none => none
    | .seq a b => match evL n a s with
      | some l => bindL l fun p => match p with
        | (.normal, s) => evL n b s
        | (.jump j, s) => some [(.jump j, s)]
      | none => none
    | .cond c a b => match evA s.t c with
      | .bool c => if c then evL n a s else evL n b s
      | _ => none
    | .block id b => (evL n b s).map fun l => l.map fun p => (if p.1 = .jump (.exit id) then .normal else p.1, p.2)
    | .loop b => match evL n b s with
      | some l => bindL l fun p => match p with
        | (.normal, s) => evL n (.loop b) s
        | (.jump j, s) => some [(.jump j, s)]
      | none => none
    | .scope b => scL n b b s
    | .exit i => some [(.jump (.exit i), s)]
    | .goto l => some [(.jump (.goto l), s)]
    | .ret => some [(.jump .ret, s)]
    | .rangeF f ps asn b => match markS s with
      | none => none
      | some s1 => match invL n (evA s.t f) [.yld s1.h.length] (s1.h ++ [.loop .ready none s.t ps asn b]) with
        | some l => mapO (fun p => endRF s1 p.2) l
        | none => none
def scL : Nat → RC → RC → St → Option (List (Ex × St))
  | 0, _, _, _ => none
  | n + 1, b, c, s => match evL n c s with
    | some l => bindL l fun p => match p with
      | (.jump (.goto l), s) => match findL b l with
        | some r => scL n b r s
        | none => some [(.jump (.goto l), s)]
      | (x, s) => some [(x, s)]
    | none => none
def osL : Nat → Nat → List Ro → St → Option (List St)
  | 0, _, _, _ => none
  | _ + 1, _, [], s => some [s]
  | n + 1, base, o :: l, s =>
    if wanted s.t o.g then
      match o.op with
      | .call f args => match invL n (evA s.t f) (args.map (evA s.t)) s.h with
        | some vs => bindL vs fun p => osL n base l { s with t := putDst s.t o.dst p.1, h := p.2 }
        | none => none
      | op => match exM s.t s.h base op with
        | some vs => bindL vs fun p => osL n base l { s with t := putDst s.t o.dst p.1, h := p.2 }
        | none => none
    else osL n base l { s with t := putDst s.t o.dst .undef }
def runL : Nat → FuncId → List V → Hp → Option (List (V × Hp))
  | 0, _, _, _ => none
  | n + 1, f, args, h => match E.fn f with
    | none => none
    | some rf =>
      if args.length ≤ rf.ntmps then
        match evL n rf.body { t := args, h := h } with
        | some l => mapO (fun p => endRun rf p.1 p.2) l
        | none => none
      else none
def callL : Nat → FuncId → List V → Hp → Option (List (V × Hp))
  | 0, _, _, _ => none
  | n + 1, f, args, h =>
    match E.mode f with
      | .shared => runL n f args h
      | .pure => match mapO (freeze (onlyFz h) deep) args with
        | some args => match primL E f args with
          | some v => if frz v then some [(v, h)] else none
          | none => match runL n f args [] with
            | some l => match mapO (fun p => freeze p.2 deep p.1) l with
              | some vs => (allSame vs).map fun v => [(v, h)]
              | none => none
            | none => none
        | none => none
      | .snap => match mapO (freeze h deep) args with
        | some args => match primL E f args with
          | some v => if scal v then some [(v, h)] else none
          | none => match runL n f args [] with
            | some l => match mapO (fun p => if fresh p.2 deep p.1 then freeze p.2 deep p.1 else none) l with
              | some vs => (allSame vs).map fun v => [(v, h)]
              | none => none
            | none => none
        | none => none
      | .own => match mapO (freeze (onlyFz h) deep) args with
        | some args => match runL n f args [] with
          | some l => some (ownL h l)
          | none => none
        | none => none
def invL : Nat → V → List V → Hp → Option (List (V × Hp))
  | 0, _, _, _ => none
  | n + 1, fv, args, h =>
    match fv with
    | .fn f first caps => callL n f (first ++ args ++ caps) h
    | .yld l => match h[l]? with
      | some (.loop .ready _ t ps asn b) =>
        if args.length = ps.length then
          match evL n asn { t := setPs t ps args, h := h, rd := some l } with
          | some l1 => bindL l1 fun p => match p with
            | (.normal, s1) => match beginB s1.h l with
              | some h2 => match evL n b { s1 with h := h2 } with
                | some l2 => mapO (fun p => endB p.2.h l p.1) l2
                | none => none
              | none => none
            | _ => none
          | none => none
        else none
      | _ => none
    | _ => none
end
end

section
variable {E : Env}

theorem callL_c (n : Nat) (f : FuncId) (as : List V) (v : V) (H H1 : Hp) (hm : E.mode f = .pure ∨ E.mode f = .snap) (h : callL E n f as H = some [(v, H1)]) :
    H1 = H ∧ ∀ H', Mono H H' → callL E n f as H' = some [(v, H')] := by
  cases n with
  | zero => simp [callL] at h
  | succ n =>
    simp only [callL] at h ⊢
    rcases hm with hm | hm
    · rw [hm] at h
      simp only at h
      split at h
      · rename_i as' has
        split at h
        · rename_i u hu
          obtain ⟨hs, h⟩ := ite_none_some h
          cases h
          refine ⟨rfl, fun H' hH => ?_⟩
          simp only [hm]
          rw [mapO_mono (freeze_mono hH.onlyFz deep) has]
          simp [hu, hs]
        · rename_i hu
          split at h
          · rename_i l hr
            split at h
            · rename_i vs hvs
              obtain ⟨z, hz, h⟩ := optmap_some h
              cases h
              refine ⟨rfl, fun H' hH => ?_⟩
              simp only [hm]
              rw [mapO_mono (freeze_mono hH.onlyFz deep) has]
              simp [hu, hr, hvs, hz]
            · cases h
          · cases h
      · cases h
    · rw [hm] at h
      simp only at h
      split at h
      · rename_i as' has
        split at h
        · rename_i u hu
          obtain ⟨hs, h⟩ := ite_none_some h
          cases h
          refine ⟨rfl, fun H' hH => ?_⟩
          simp only [hm]
          rw [mapO_mono (freeze_mono hH.keep deep) has]
          simp [hu, hs]
        · rename_i hu
          split at h
          · rename_i l hr
            split at h
            · rename_i vs hvs
              obtain ⟨z, hz, h⟩ := optmap_some h
              cases h
              refine ⟨rfl, fun H' hH => ?_⟩
              simp only [hm]
              rw [mapO_mono (freeze_mono hH.keep deep) has]
              simp [hu, hr, hvs, hz]
            · cases h
          · cases h
      · cases h

theorem one?_some {α : Type} {o : Option (List α)} {x : α} (h : one? o = some x) : o = some [x] := by
  unfold one? at h
  split at h
  · cases h; rfl
  · cases h

theorem ownR_new (h h1 : Hp) (u : V) : ∃ N : Hp, (∀ o ∈ N, o ≠ Ob.none_) ∧ (ownR h u h1).2 = h ++ N ∧ ∀ h', h'.length = h.length → ownR h' u h1 = ((ownR h u h1).1, h' ++ N) := by
  unfold ownR
  refine ⟨h1.map (shOb h.length), fun o ho => ?_, rfl, fun h' e => by rw [e]⟩
  obtain ⟨q, _, rfl⟩ := List.mem_map.1 ho
  cases q <;> simp [shOb]

theorem callL_o (n : Nat) (f : FuncId) (as : List V) (v : V) (H H1 : Hp) (hm : E.mode f = .own) (h : callL E n f as H = some [(v, H1)]) :
    ∃ N : Hp, (∀ o ∈ N, o ≠ Ob.none_) ∧ H1 = H ++ N ∧ ∀ H', Mono H H' → H'.length = H.length → callL E n f as H' = some [(v, H' ++ N)] := by
  cases n with
  | zero => simp [callL] at h
  | succ n =>
    simp only [callL, hm] at h ⊢
    split at h
    · rename_i as' has
      split at h
      · rename_i l hr
        simp only [Option.some.injEq] at h
        have key : ∀ H', Mono H H' → (match mapO (freeze (onlyFz H') deep) as with
            | some args => (match runL E n f args [] with
              | some l => some (ownL H' l)
              | none => none)
            | none => none) = some (ownL H' l) := fun H' hH => by rw [mapO_mono (freeze_mono hH.onlyFz deep) has]; simp [hr]
        match l, hr, h, key with
        | [], _, h, key =>
          simp [ownL] at h
          obtain ⟨rfl, rfl⟩ := h
          exact ⟨[], by simp, by simp, fun H' hH _ => by rw [key H' hH]; simp [ownL]⟩
        | [p], _, h, key =>
          simp [ownL] at h
          obtain ⟨N, k1, k2, k3⟩ := ownR_new H p.2 p.1
          refine ⟨N, k1, by rw [← k2, h], fun H' hH hl => ?_⟩
          rw [key H' hH]
          simp only [ownL, k3 H' hl, h]
        | p :: q :: l, _, h, key =>
          simp only [ownL] at h
          split at h
          · rename_i ha
            simp only [List.cons.injEq, Prod.mk.injEq, and_true] at h
            obtain ⟨rfl, rfl⟩ := h
            exact ⟨[], by simp, by simp, fun H' hH hl => by rw [key H' hH]; simp only [ownL, ha, if_true]; simp⟩
          · simp at h
      · cases h
    · cases h

theorem callOKL_c (n : Nat) : ∀ f first caps as v H H1, (match E.md f with | some .pure | some .snap | none => True | _ => False) → one? (invL E n (.fn f first caps) as H) = some (v, H1) → H1 = H ∧ ∀ H', Mono H H' → one? (invL E n (.fn f first caps) as H') = some (v, H') := by
  intro f first caps as v H H1 hm h
  have h := one?_some h
  cases n with
  | zero => simp [invL] at h
  | succ n =>
    simp only [invL] at h ⊢
    have hm' : E.mode f = .pure ∨ E.mode f = .snap := by
      unfold Env.md at hm
      cases hmo : E.mode f <;> rw [hmo] at hm <;> simp at hm
      · exact .inl rfl
      · exact .inr rfl
    obtain ⟨h1, h2⟩ := callL_c n f _ v H H1 hm' h
    exact ⟨h1, fun H' hH => by rw [h2 H' hH]; rfl⟩

theorem callOKL (n : Nat) : CallOK (fun fv args h => one? (invL E n fv args h)) E.md := by
  refine ⟨?_, ?_⟩
  · exact callOKL_c n
  intro f first caps as v H H1 hm h
  have h := one?_some h
  cases n with
  | zero => simp [invL] at h
  | succ n =>
    simp only [invL] at h ⊢
    have hm' : E.mode f = .own := by simpa [Env.md] using hm
    obtain ⟨N, k1, k2, k3⟩ := callL_o n f _ v H H1 hm' h
    exact ⟨N, k1, k2, fun H' hH hl => by rw [k3 H' hH hl]; rfl⟩

theorem allSame_some {vs : List V} {v : V} (h : allSame vs = some v) : ∀ u ∈ vs, u = v := by
  cases vs with
  | nil => cases h
  | cons a vs =>
    simp only [allSame] at h
    obtain ⟨h1, h⟩ := ite_none_some h
    cases h
    intro u hu
    rcases List.mem_cons.1 hu with rfl | hu
    · rfl
    · exact (veq_eq _ _ (List.all_eq_true.1 h1 u hu)).symm

theorem mapO_mem {α β : Type} {f : α → Option β} {l : List α} {r : List β} (h : mapO f l = some r) : ∀ x ∈ l, ∃ y, f x = some y ∧ y ∈ r := by
  induction l generalizing r with
  | nil => intro x hx; simp at hx
  | cons a l ih =>
    simp only [mapO] at h
    split at h
    · rename_i y ys h1 h2
      cases h
      intro x hx
      rcases List.mem_cons.1 hx with rfl | hx
      · exact ⟨y, h1, by simp⟩
      · obtain ⟨y', h3, h4⟩ := ih h2 x hx
        exact ⟨y', h3, by simp [h4]⟩
    · cases h

/-- what is computed holds -/
theorem evL_W : ∀ n,
    (∀ c s l, evL E n c s = some l → ∀ Q : Out → Prop, (∀ p ∈ l, Q (.ex p.1 p.2)) → W E (.ev c s) Q) ∧
    (∀ b c s l, scL E n b c s = some l → ∀ Q : Out → Prop, (∀ p ∈ l, Q (.ex p.1 p.2)) → W E (.sc b c s) Q) ∧
    (∀ base os s l, osL E n base os s = some l → ∀ Q : Out → Prop, (∀ p ∈ l, Q (.st p)) → W E (.os base os s) Q) ∧
    (∀ f args h l, runL E n f args h = some l → ∀ Q : Out → Prop, (∀ p ∈ l, Q (.vh p.1 p.2)) → W E (.run f args h) Q) ∧
    (∀ f args h l, callL E n f args h = some l → ∀ Q : Out → Prop, (∀ p ∈ l, Q (.vh p.1 p.2)) → W E (.call f args h) Q) ∧
    (∀ fv args h l, invL E n fv args h = some l → ∀ Q : Out → Prop, (∀ p ∈ l, Q (.vh p.1 p.2)) → W E (.inv fv args h) Q) := by
  intro n
  induction n with
  | zero =>
    refine ⟨?_, ?_, ?_, ?_, ?_, ?_⟩
    · intro c s l h; simp [evL] at h
    · intro b c s l h; simp [scL] at h
    · intro b c s l h; simp [osL] at h
    · intro b c s l h; simp [runL] at h
    · intro b c s l h; simp [callL] at h
    · intro b c s l h; simp [invL] at h
  | succ n ih =>
    obtain ⟨iev, isc, ios, irun, icall, iinv⟩ := ih
    refine ⟨?_, ?_, ?_, ?_, ?_, ?_⟩
    · intro c s l h Q hQ
      cases c with
      | skip => simp only [evL] at h; cases h; exact .skip (hQ (_, _) (by simp))
      | label l => simp only [evL] at h; cases h; exact .label (hQ (_, _) (by simp))
      | exit l => simp only [evL] at h; cases h; exact .exit (hQ (_, _) (by simp))
      | goto l => simp only [evL] at h; cases h; exact .goto (hQ (_, _) (by simp))
      | ret => simp only [evL] at h; cases h; exact .ret (hQ (_, _) (by simp))
      | ops fz os =>
        simp only [evL] at h
        obtain ⟨l', hl, rfl⟩ := optmap_some h
        exact .ops (R := fun o => ∃ s' ∈ l', o = .st s') (ios _ _ _ _ hl _ fun p hp => ⟨p, hp, rfl⟩) fun s' ⟨s2, h2, e⟩ => by
          cases e; exact hQ (_, _) (List.mem_map.2 ⟨_, h2, rfl⟩)
      | dops fz k os chk =>
        simp only [evL] at h
        split at h
        · rename_i s' he
          obtain ⟨hc, h⟩ := ite_none_some h
          cases h
          exact .dops _ (callOKL n) (fun fv args h v h' hi => iinv _ _ _ _ (one?_some hi) _ fun p hp => by simp only [List.mem_singleton] at hp; subst hp; rfl) he hc (hQ (_, _) (by simp))
        · cases h
      | seq a b =>
        simp only [evL] at h
        split at h
        · rename_i l' hl
          have hb := bindL_mem h
          refine .seq (R := fun o => ∃ p ∈ l', o = .ex p.1 p.2) (iev _ _ _ hl _ fun p hp => ⟨p, hp, rfl⟩) (fun s' ⟨p, hp, e⟩ => ?_) (fun j s' ⟨p, hp, e⟩ => ?_)
          · obtain ⟨x, s2⟩ := p
            cases e
            obtain ⟨y, h1, h2⟩ := hb _ hp
            exact iev _ _ _ h1 _ fun p hp => hQ _ (h2 _ hp)
          · obtain ⟨x, s2⟩ := p
            cases e
            obtain ⟨y, h1, h2⟩ := hb _ hp
            cases h1
            exact hQ (_, _) (h2 _ (by simp))
        · cases h
      | cond c a b =>
        simp only [evL] at h
        split at h
        · rename_i t ht
          cases t
          · exact .condF ht (iev _ _ _ (by simpa using h) _ hQ)
          · exact .condT ht (iev _ _ _ (by simpa using h) _ hQ)
        · cases h
      | block id b =>
        simp only [evL] at h
        obtain ⟨l', hl, rfl⟩ := optmap_some h
        exact .block (R := fun o => ∃ p ∈ l', o = .ex p.1 p.2) (iev _ _ _ hl _ fun p hp => ⟨p, hp, rfl⟩) fun x s' ⟨p, hp, e⟩ => by
          cases e; exact hQ (_, _) (List.mem_map.2 ⟨p, hp, rfl⟩)
      | loop b =>
        simp only [evL] at h
        split at h
        · rename_i l' hl
          have hb := bindL_mem h
          refine .loop (R := fun o => ∃ p ∈ l', o = .ex p.1 p.2) (iev _ _ _ hl _ fun p hp => ⟨p, hp, rfl⟩) (fun s' ⟨p, hp, e⟩ => ?_) (fun j s' ⟨p, hp, e⟩ => ?_)
          · obtain ⟨x, s2⟩ := p
            cases e
            obtain ⟨y, h1, h2⟩ := hb _ hp
            exact iev _ _ _ h1 _ fun p hp => hQ _ (h2 _ hp)
          · obtain ⟨x, s2⟩ := p
            cases e
            obtain ⟨y, h1, h2⟩ := hb _ hp
            cases h1
            exact hQ (_, _) (h2 _ (by simp))
        · cases h
      | scope b => simp only [evL] at h; exact .scope (isc _ _ _ _ h _ hQ)
      | rangeF f ps asn b =>
        simp only [evL] at h
        split at h
        · cases h
        · rename_i s1 hm
          split at h
          · rename_i l' hl
            have hb := mapO_mem h
            refine .rangeF hm (R := fun o => ∃ p ∈ l', o = .vh p.1 p.2) (iinv _ _ _ _ hl _ fun p hp => ⟨p, hp, rfl⟩) fun v h2 ⟨p, hp, e⟩ => ?_
            cases e
            obtain ⟨y, h1, h3⟩ := hb _ hp
            exact ⟨y.1, y.2, h1, hQ _ h3⟩
          · cases h
    · intro b c s l h Q hQ
      simp only [scL] at h
      split at h
      · rename_i l' hl
        have hb := bindL_mem h
        refine .sc (R := fun o => ∃ p ∈ l', o = .ex p.1 p.2) (iev _ _ _ hl _ fun p hp => ⟨p, hp, rfl⟩) (fun lb s' r ⟨p, hp, e⟩ hf => ?_) (fun x s' ⟨p, hp, e⟩ hn => ?_)
        · obtain ⟨x, s2⟩ := p
          cases e
          obtain ⟨y, h1, h2⟩ := hb _ hp
          simp only [hf] at h1
          exact isc _ _ _ _ h1 _ fun p hp => hQ _ (h2 _ hp)
        · obtain ⟨x', s2⟩ := p
          cases e
          obtain ⟨y, h1, h2⟩ := hb _ hp
          have : y = [(x', s2)] := by
            split at h1
            · rename_i lb s3 e
              cases e
              rw [hn lb rfl] at h1
              cases h1; rfl
            · rename_i e
              cases e
              cases h1; rfl
          subst this
          exact hQ (_, _) (h2 _ (by simp))
      · cases h
    · intro base os s l h Q hQ
      cases os with
      | nil => simp only [osL] at h; cases h; exact .osNil (hQ _ (by simp))
      | cons o os =>
        simp only [osL] at h
        split at h
        · rename_i hw
          split at h
          · rename_i f args hop
            split at h
            · rename_i vs hv
              have hb := bindL_mem h
              refine .osCall hw hop (R := fun o => ∃ p ∈ vs, o = .vh p.1 p.2) (iinv _ _ _ _ hv _ fun p hp => ⟨p, hp, rfl⟩) fun v h2 ⟨p, hp, e⟩ => ?_
              cases e
              obtain ⟨y, h1, h3⟩ := hb _ hp
              exact ios _ _ _ _ h1 _ fun p hp => hQ _ (h3 _ hp)
            · cases h
          · rename_i hnc
            split at h
            · rename_i vs hv
              have hb := bindL_mem h
              refine .osOp hw ?_ hv fun p hp => ?_
              · cases ho : o.op <;> first | rfl | exact absurd ho (hnc _ _)
              · obtain ⟨y, h1, h3⟩ := hb _ hp
                exact ios _ _ _ _ h1 _ fun p hp => hQ _ (h3 _ hp)
            · cases h
        · rename_i hw
          exact .osSkip (by simpa using hw) (ios _ _ _ _ h _ hQ)
    · intro f args h l hr Q hQ
      simp only [runL] at hr
      split at hr
      · cases hr
      · rename_i rf hrf
        obtain ⟨hlen, hr⟩ := ite_none_some hr
        split at hr
        · rename_i l' hl
          have hb := mapO_mem hr
          refine .run hrf hlen (R := fun o => ∃ p ∈ l', o = .ex p.1 p.2) (iev _ _ _ hl _ fun p hp => ⟨p, hp, rfl⟩) fun x s ⟨p, hp, e⟩ => ?_
          cases e
          obtain ⟨y, h1, h2⟩ := hb _ hp
          exact ⟨y.1, y.2, h1, hQ _ h2⟩
        · cases hr
    · intro f args h l hr Q hQ
      simp only [callL] at hr
      cases hm : E.mode f with
      | shared => rw [hm] at hr; exact .shared hm (irun _ _ _ _ hr _ hQ)
      | pure =>
        rw [hm] at hr
        simp only at hr
        split at hr
        · rename_i as' has
          split at hr
          · rename_i u hu
            obtain ⟨hs, hr⟩ := ite_none_some hr
            cases hr
            obtain ⟨p, hp, hu⟩ := primL_some hu
            exact .primPure hp hm has hu hs (hQ (_, _) (by simp))
          · split at hr
            · rename_i l' hl
              split at hr
              · rename_i vs hvs
                obtain ⟨z, hz, hr⟩ := optmap_some hr
                cases hr
                refine .pure hm has (R := fun o => ∃ p ∈ l', o = .vh p.1 p.2) (irun _ _ _ _ hl _ fun p hp => ⟨p, hp, rfl⟩) fun u h1 ⟨p, hp, e⟩ => ?_
                cases e
                obtain ⟨y, k1, k2⟩ := mapO_mem hvs _ hp
                have := allSame_some hz _ k2
                subst this
                exact ⟨_, k1, hQ (_, _) (by simp)⟩
              · cases hr
            · cases hr
        · cases hr
      | snap =>
        rw [hm] at hr
        simp only at hr
        split at hr
        · rename_i as' has
          split at hr
          · rename_i u hu
            obtain ⟨hs, hr⟩ := ite_none_some hr
            cases hr
            obtain ⟨p, hp, hu⟩ := primL_some hu
            exact .prim hp hm has hu hs (hQ (_, _) (by simp))
          · split at hr
            · rename_i l' hl
              split at hr
              · rename_i vs hvs
                obtain ⟨z, hz, hr⟩ := optmap_some hr
                cases hr
                refine .snap hm has (R := fun o => ∃ p ∈ l', o = .vh p.1 p.2) (irun _ _ _ _ hl _ fun p hp => ⟨p, hp, rfl⟩) fun u h1 ⟨p, hp, e⟩ => ?_
                cases e
                obtain ⟨y, k1, k2⟩ := mapO_mem hvs _ hp
                obtain ⟨k0, k1⟩ := ite_none_some k1
                have := allSame_some hz _ k2
                subst this
                exact ⟨k0, _, k1, hQ (_, _) (by simp)⟩
              · cases hr
            · cases hr
        · cases hr
      | own =>
        rw [hm] at hr
        simp only at hr
        split at hr
        · rename_i as' has
          split at hr
          · rename_i l' hl
            cases hr
            refine .own hm has (R := fun o => ∃ p ∈ l', o = .vh p.1 p.2) (irun _ _ _ _ hl _ fun p hp => ⟨p, hp, rfl⟩) fun u h1 ⟨p, hp, e⟩ => ?_
            cases e
            exact (ownL_mem _ hp).imp (hQ _) fun ⟨a, b⟩ => ⟨a, hQ (_, _) b⟩
          · cases hr
        · cases hr
    · intro fv args h l hr Q hQ
      simp only [invL] at hr
      cases fv with
      | fn f first caps => exact .fn (icall _ _ _ _ hr _ hQ)
      | yld lb =>
        simp only at hr
        split at hr
        · rename_i p0 t ps asn b hl
          obtain ⟨hlen, hr⟩ := ite_none_some hr
          split at hr
          · rename_i l1 h1
            have hb := bindL_mem hr
            refine .yld hl hlen (R1 := fun o => ∃ p ∈ l1, o = .ex p.1 p.2) (R2 := fun o => ∃ x s, o = .ex x s ∧ ∃ v h3, endB s.h lb x = some (v, h3) ∧ (v, h3) ∈ l) (iev _ _ _ h1 _ fun p hp => ⟨p, hp, rfl⟩) ?_ ?_ ?_
            · rintro x s1 ⟨p, hp, e⟩
              obtain ⟨x', s2⟩ := p
              cases e
              obtain ⟨y, k1, _⟩ := hb _ hp
              cases x' with
              | normal =>
                simp only at k1
                split at k1
                · rename_i h2 hh2; exact ⟨rfl, h2, hh2⟩
                · cases k1
              | jump j => cases k1
            · rintro s1 h2 ⟨p, hp, e⟩ hbeg
              obtain ⟨x', s2⟩ := p
              cases e
              obtain ⟨y, k1, k2⟩ := hb _ hp
              simp only [hbeg] at k1
              split at k1
              · rename_i l2 hl2
                refine iev _ _ _ hl2 _ fun p hp => ⟨p.1, p.2, rfl, ?_⟩
                obtain ⟨q, q1, q2⟩ := mapO_mem k1 _ hp
                exact ⟨q.1, q.2, q1, k2 _ q2⟩
              · cases k1
            · rintro x s2 ⟨x', s3, e, v, h3, k1, k2⟩
              cases e
              exact ⟨v, h3, k1, hQ (_, _) k2⟩
          · cases hr
        · cases hr
      | _ => cases hr
end
end Go.Ai
end
section
namespace Go.Ai
open Go

/-- a search tree -/
inductive Bt (α : Type) where
  | leaf
  | node (k : Nat) (v : α) (l r : Bt α)

def Bt.get {α : Type} : Bt α → Nat → Option α
  | .leaf, _ => none
  | .node k v l r, n => bif Nat.beq n k then some v else bif Nat.blt n k then l.get n else r.get n

def Bt.All {α : Type} (p : Nat → α → Prop) : Bt α → Prop
  | .leaf => True
  | .node k v l r => p k v ∧ l.All p ∧ r.All p

theorem Bt.all_get {α : Type} {p : Nat → α → Prop} {n : Nat} {v : α} : ∀ {t : Bt α}, t.All p → t.get n = some v → p n v
  | .leaf, _, h => by cases h
  | .node k u l r, ha, h => by
    simp only [Bt.get, cond] at h
    split at h
    · rename_i he
      cases h
      have : n = k := Nat.eq_of_beq_eq_true he
      subst this; exact ha.1
    · split at h
      · exact Bt.all_get ha.2.1 h
      · exact Bt.all_get ha.2.2 h

def byts (l : List UInt8) : ByteArray := ⟨l.toArray⟩

/-- what the translation is told -/
def mkLive (lits : List (Nat × Option Nat)) (fks : List (Nat × Nat × Nat)) (fzs : List (Nat × Nat × List Nat)) (f : FuncId) : Lv :=
  ⟨⟨fun t => lits.any fun x => x.1 == f && (x.2 == none || x.2 == some t), fun t => (fks.find? fun x => x.1 == f && x.2.1 == t).map (·.2.2)⟩,
   fun r => (fzs.filter fun x => x.1 == f && x.2.1 == r).flatMap fun x => x.2.2⟩

end Go.Ai
namespace Go.Ai
def Bt.allB {α : Type} (p : Nat → α → Bool) : Bt α → Bool
  | .leaf => true
  | .node k v l r => p k v && (l.allB p && r.allB p)
theorem Bt.allB_all {α : Type} {p : Nat → α → Bool} : ∀ {t : Bt α}, t.allB p = true → t.All fun k v => p k v = true
  | .leaf, _ => trivial
  | .node _ _ _ _, h => by
    simp only [Bt.allB, Bool.and_eq_true] at h
    exact ⟨h.1, Bt.allB_all h.2.1, Bt.allB_all h.2.2⟩
end Go.Ai
end
section
namespace Go.Ai
open Go Go.RowKit

/-! ### calls that are known -/

abbrev MT := Bt (List (Nat × List V × V))

/-- what is known below a layer -/
def lookM (t : MT) (k : Nat) (f : FuncId) : Option (List V → Option V) :=
  match t.get f with
  | some l => some fun args => match l.find? fun e => Nat.blt e.1 k && veqs e.2.1 args with
    | some e => some e.2.2
    | none => none
  | none => none

def frz1 (m : FMode) (h1 : Hp) (u : V) : Option V := match m with
  | .pure => freeze h1 deep u
  | .snap => if fresh h1 deep u then freeze h1 deep u else none
  | _ => none

/-- does a call come to a value? -/
def chkE (E : Env) (n : Nat) (f : FuncId) (args : List V) (v : V) : Bool :=
  match runL E n f args [] with
  | some l => l.all fun p => match frz1 (E.mode f) p.2 p.1 with
    | some u => veq u v
    | none => false
  | none => false

/-- the entries of a layer -/
def chkL (E : Env) (n k : Nat) (f : FuncId) (l : List (Nat × List V × V)) : Bool :=
  l.all fun e => !Nat.beq e.1 k || chkE E n f e.2.1 e.2.2

def PrimOK1 (X : Ctx) (f : FuncId) (args : List V) (v : V) : Prop :=
  ∀ (F : Fz) (w : World) (as : Array Value), VsRel Phi.none F args as.toList → (∀ b fo, F b = some fo → ∃ c, w.heap[b]? = some c ∧ FRel fo c) → X.F0.le F →
    InvRes X w.heap.size Phi.none F w (callFunc f as) v []

theorem Sim.nil {X X' : Ctx} (h0 : X'.F0 = X.F0) {n0 : Nat} {φ : Phi} {F : Fz} {w : World} (S : Sim X n0 φ F [] w) : Sim X' n0 φ F [] w :=
  ⟨S.sz, S.len, S.non, S.fut, fun a o h => absurd h (by simp), fun a a' o o' b n n' h => absurd h (by simp), S.fz, by rw [h0]; exact S.f0⟩

theorem PrimOK1.other {X X' : Ctx} (hP : X'.P = X.P) (h0 : X'.F0 = X.F0) {f : FuncId} {args : List V} {v : V} (h : PrimOK1 X f args v) : PrimOK1 X' f args v := by
  intro F w as hv hF hle
  obtain ⟨nx, h1, h2⟩ := h F w as hv hF (h0 ▸ hle)
  refine ⟨nx, by rw [hP]; exact h1, fun c cs => ?_⟩
  obtain ⟨φ', F', w', x, g1, g2, g3, g4⟩ := h2 c cs
  exact ⟨φ', F', w', x, g1, g2.nil h0, g3, by rw [hP]; exact g4⟩

theorem chkE_ok {X : Ctx} (hX : X.OK) {n : Nat} {f : FuncId} {args : List V} {v : V} (h : chkE X.E n f args v = true) : PrimOK1 X f args v := by
  intro F w as hv hF hle
  unfold chkE at h
  split at h
  · rename_i l hl
    have hw := (evL_W (E := X.E) n).2.2.2.1 f args [] l hl (fun o => ∃ p ∈ l, o = .vh p.1 p.2) fun p hp => ⟨p, hp, rfl⟩
    have S : Sim X w.heap.size Phi.none F [] w := Sim.empty hF hle
    obtain ⟨e1, e2⟩ := soundW hX hw w.heap.size Phi.none F w as S hv
    refine ⟨_, e1, fun c cs => ?_⟩
    obtain ⟨u, h1, ⟨p, hp, e⟩, φ', F', w', x, fr, k1, _, k3, k4, k5, k6⟩ := e2 (c :: cs)
    cases e
    have hz := List.all_eq_true.1 h p hp
    obtain ⟨p1, p2, p3, p4⟩ := pure_back (F0 := F) S k5 k6.b (fun k hk => k6.n k hk)
    have hfz : freeze p.2 deep p.1 = some v := by
      split at hz
      · rename_i z hzz
        have := veq_eq _ _ hz
        subst this
        unfold frz1 at hzz
        split at hzz
        · exact hzz
        · exact (ite_none_some hzz).2
        · cases hzz
      · cases hz
    exact ⟨Phi.none, _, w', x, (freeze_ok (fun _ => k5) p3 _ _ _ hfz (.inl (p4 rfl))).1 x k4, p1, p2, .inr (.inl ⟨f, as, rfl, Steps.trans k1 (Steps.one (step_leave_returned k3))⟩)⟩
  · cases h

/-- programs and environments that part in what is known of calls alone -/
def ctx (P : Program) (fn : FuncId → Option RF) (mode : FuncId → FMode) (live : FuncId → Lv) (prim : FuncId → Option (List V → Option V)) (F0 : Fz := fun _ => none) : Ctx := ⟨P, ⟨fn, mode, prim⟩, live, F0⟩

section
variable {P : Program} {fn : FuncId → Option RF} {mode : FuncId → FMode} {live : FuncId → Lv} {F0 : Fz}

def Known (P : Program) (fn : FuncId → Option RF) (mode : FuncId → FMode) (live : FuncId → Lv) (F0 : Fz) (t : MT) (k : Nat) : Prop :=
  t.All fun f l => ∀ e ∈ l, e.1 < k → PrimOK1 (ctx P fn mode live (fun _ => none) F0) f e.2.1 e.2.2

theorem ctx_ok (hm : P.follows .mixedOrders = true) (hf : ∀ f rf, fn f = some rf → compF P (fun f => some (mode f)) live f = some rf) {t : MT} {k : Nat} (h : Known P fn mode live F0 t k) :
    (ctx P fn mode live (lookM t k) F0).OK := by
  refine ⟨hm, hf, fun f p hp args v hv => ?_⟩
  simp only [ctx, lookM] at hp
  split at hp
  · rename_i l hl
    cases hp
    simp only at hv
    split at hv
    · rename_i e he
      cases hv
      have hb := List.find?_some he
      simp only [Bool.and_eq_true] at hb
      have hlt : e.1 < k := by have := hb.1; simp [Nat.blt] at this; omega
      have := veqs_eq _ _ hb.2
      subst this
      have h1 := Bt.all_get h hl e (List.mem_of_find?_eq_some he) hlt
      exact PrimOK1.other (X' := ctx P fn mode live (lookM t k) F0) (show (ctx P fn mode live (lookM t k) F0).P = (ctx P fn mode live (fun _ => none) F0).P from rfl) rfl h1
    · cases hv
  · cases hp

theorem Bt.All.imp {α : Type} {p q : Nat → α → Prop} (hpq : ∀ n a, p n a → q n a) : ∀ {t : Bt α}, t.All p → t.All q
  | .leaf, _ => trivial
  | .node _ _ _ _, h => ⟨hpq _ _ h.1, Bt.All.imp hpq h.2.1, Bt.All.imp hpq h.2.2⟩

theorem Bt.All.and {α : Type} {p q : Nat → α → Prop} : ∀ {t : Bt α}, t.All p → t.All q → t.All fun n a => p n a ∧ q n a
  | .leaf, _, _ => trivial
  | .node _ _ _ _, h, k => ⟨⟨h.1, k.1⟩, Bt.All.and h.2.1 k.2.1, Bt.All.and h.2.2 k.2.2⟩

theorem known_zero (t : MT) : Known P fn mode live F0 t 0 := by
  unfold Known
  induction t with
  | leaf => trivial
  | node k v l r ih1 ih2 => exact ⟨fun e _ h => absurd h (by omega), ih1, ih2⟩

/-- one layer more -/
theorem known_succ (hm : P.follows .mixedOrders = true) (hf : ∀ f rf, fn f = some rf → compF P (fun f => some (mode f)) live f = some rf) {t : MT} {k n : Nat} (h : Known P fn mode live F0 t k)
    (hc : t.All fun f l => chkL ⟨fn, mode, lookM t k⟩ n k f l = true) : Known P fn mode live F0 t (k + 1) := by
  have hX := ctx_ok hm hf h
  refine Bt.All.imp (fun f l ⟨h1, h2⟩ e he hlt => ?_) (Bt.All.and h hc)
  by_cases hk : e.1 < k
  · exact h1 e he hk
  · have : e.1 = k := by omega
    have hz := List.all_eq_true.1 h2 e he
    simp only [this] at hz
    have hb : Nat.beq k k = true := Nat.beq_refl k
    rw [hb] at hz
    simp only [Bool.not_true, Bool.false_or] at hz
    exact PrimOK1.other (X' := ctx P fn mode live (fun _ => none) F0) (show (ctx P fn mode live (fun _ => none) F0).P = (ctx P fn mode live (lookM t k) F0).P from rfl) rfl (chkE_ok (X := ctx P fn mode live (lookM t k) F0) hX hz)

end
end Go.Ai
end
section
namespace Go.Ai
open Go

/-! ### rules for a walk by hand -/

def seqQ (E : Env) (b : RC) (Q : Out → Prop) : Out → Prop
  | .ex .normal s => W E (.ev b s) Q
  | .ex (.jump j) s => Q (.ex (.jump j) s)
  | _ => False

def blockQ (id : Nat) (Q : Out → Prop) : Out → Prop
  | .ex x s => Q (.ex (if x = .jump (.exit id) then .normal else x) s)
  | _ => False

def runQ (rf : RF) (Q : Out → Prop) : Out → Prop
  | .ex x s => ∃ v h, endRun rf x s = some (v, h) ∧ Q (.vh v h)
  | _ => False

section
variable {E : Env} {Q : Out → Prop} {s s' : St} {n : Nat}

theorem W.seq' {a b : RC} (h : W E (.ev a s) (seqQ E b Q)) : W E (.ev (.seq a b) s) Q := .seq h (fun _ r => r) fun _ _ r => r

theorem W.block' {id : Nat} {b : RC} (h : W E (.ev b s) (blockQ id Q)) : W E (.ev (.block id b) s) Q := .block h fun _ _ r => r

theorem W.ops' {l : List Ro} {fz : List Nat} (h : osL E n 0 l (tagS fz s) = some [s']) (hq : Q (.ex .normal s')) : W E (.ev (.ops fz l) s) Q :=
  .ops (R := fun o => o = .st s') ((evL_W n).2.2.1 _ _ _ _ h _ fun p hp => by rw [List.mem_singleton.1 hp]) fun s2 e => by cases e; exact hq

theorem W.dops' {l : List Ro} {fz : List Nat} {k : Nat} {chk : List (Nat × Nat)}
    (h : exOs (fun fv args h => one? (invL E n fv args h)) (tagS fz s).h.length l { tagS fz s with h := (tagS fz s).h ++ List.replicate k .none_ } = some s')
    (hc : chkOk s'.t l chk = true) (hq : Q (.ex .normal s')) : W E (.ev (.dops fz k l chk) s) Q :=
  .dops _ (callOKL n) (fun fv args h v h' hi => (evL_W n).2.2.2.2.2 _ _ _ _ (one?_some hi) _ fun p hp => by simp only [List.mem_singleton] at hp; subst hp; rfl) h hc hq

theorem W.run' {f : FuncId} {args : List V} {h : Hp} {rf : RF} (hf : E.fn f = some rf) (hl : args.length ≤ rf.ntmps) (hb : W E (.ev rf.body { t := args, h := h }) (runQ rf Q)) : W E (.run f args h) Q :=
  .run hf hl hb fun _ _ r => r
end
end Go.Ai

namespace Go.Ai
open Go
section
variable {E : Env} {Q : Out → Prop} {s s' : St} {n base : Nat} {o : Ro} {l : List Ro} {v : V} {h : Hp} {inv : V → List V → Hp → Option (V × Hp)}

theorem W.ops1 {fz : List Nat} {l : List Ro} (h : W E (.os 0 l (tagS fz s)) (fun o => ∃ s', o = .st s' ∧ Q (.ex .normal s'))) : W E (.ev (.ops fz l) s) Q :=
  .ops h fun s' ⟨s2, e, hq⟩ => by cases e; exact hq

theorem W.oNil (hq : Q (.ex .normal s)) : W E (.os base [] s) (fun o => ∃ s', o = .st s' ∧ Q (.ex .normal s')) := .osNil ⟨s, rfl, hq⟩

theorem W.o1 {Q : Out → Prop} (hw : wanted s.t o.g = true) (hc : isCall o.op = false) (he : exM s.t s.h base o.op = some [(v, h)])
    (k : W E (.os base l { s with t := putDst s.t o.dst v, h := h }) Q) : W E (.os base (o :: l) s) Q :=
  .osOp hw hc he fun p hp => by rw [List.mem_singleton.1 hp]; exact k

theorem str_add {a b : ByteArray} (h : a.size + b.size < 2 ^ 40) : strOp .add a b = some (.str (a ++ b)) := by simp [strOp, h]

theorem W.oStr {Q : Out → Prop} {a b : ByteArray} {x y : A} {d : Option Nat} {g : Option (Nat × Bool)} (hw : wanted s.t g = true) (hx : evA s.t x = .str a) (hy : evA s.t y = .str b) (hs : a.size + b.size < 2 ^ 40)
    (k : W E (.os base l { s with t := putDst s.t d (.str (a ++ b)) }) Q) : W E (.os base (⟨d, .bin .add x y, g⟩ :: l) s) Q :=
  W.o1 (v := .str (a ++ b)) (h := s.h) hw rfl (by simp [exM, exOp, hx, hy, exBin, str_add hs]) k

theorem W.oInv {Q : Out → Prop} {f : A} {args : List A} {fv : V} {xs : List V} {d : Option Nat} {g : Option (Nat × Bool)} (hw : wanted s.t g = true) (hf : evA s.t f = fv) (ha : args.map (evA s.t) = xs)
    (hi : invL E n fv xs s.h = some [(v, h)]) (k : W E (.os base l { s with t := putDst s.t d v, h := h }) Q) : W E (.os base (⟨d, .call f args, g⟩ :: l) s) Q :=
  .osCall (R := fun o => o = .vh v h) hw rfl ((evL_W n).2.2.2.2.2 _ _ _ _ (by rw [hf, ha]; exact hi) _ fun p hp => by rw [List.mem_singleton.1 hp]) fun v' h' e => by cases e; exact k

/-! the same in a region that draws its order -/
def DQ (inv : V → List V → Hp → Option (V × Hp)) (base : Nat) (l : List Ro) (s : St) (K : St → Prop) : Prop := ∃ s', exOs inv base l s = some s' ∧ K s'
def invE (E : Env) (n : Nat) : V → List V → Hp → Option (V × Hp) := fun fv args h => one? (invL E n fv args h)

theorem W.dops1 {l : List Ro} {fz : List Nat} {k : Nat} {chk : List (Nat × Nat)} (n : Nat)
    (h : DQ (invE E n) (tagS fz s).h.length l { tagS fz s with h := (tagS fz s).h ++ List.replicate k .none_ } fun s' => chkOk s'.t l chk = true ∧ Q (.ex .normal s')) : W E (.ev (.dops fz k l chk) s) Q :=
  let ⟨_, h1, h2, h3⟩ := h
  W.dops' (n := n) h1 h2 h3

section
variable {K : St → Prop}
theorem dNil (k : K s) : DQ inv base [] s K := ⟨s, rfl, k⟩
theorem d1 (hw : wanted s.t o.g = true) (hc : isCall o.op = false) (he : exOp s.t s.h base o.op = some (v, h))
    (k : DQ inv base l { s with t := putDst s.t o.dst v, h := h } K) : DQ inv base (o :: l) s K := by
  have : exO inv base o s = some { s with t := putDst s.t o.dst v, h := h } := by
    unfold exO
    rw [if_pos hw, exC_op (fun f args e => by rw [e] at hc; cases hc), he]
  obtain ⟨s', k1, k2⟩ := k
  exact ⟨s', by simp only [exOs, this, k1], k2⟩
theorem dStr {a b : ByteArray} {x y : A} {d : Option Nat} {g : Option (Nat × Bool)} (hw : wanted s.t g = true) (hx : evA s.t x = .str a) (hy : evA s.t y = .str b) (hs : a.size + b.size < 2 ^ 40)
    (k : DQ inv base l { s with t := putDst s.t d (.str (a ++ b)) } K) : DQ inv base (⟨d, .bin .add x y, g⟩ :: l) s K :=
  d1 (v := .str (a ++ b)) (h := s.h) hw rfl (by simp [exOp, hx, hy, exBin, str_add hs]) k
theorem dInv {f : A} {args : List A} {fv : V} {xs : List V} {d : Option Nat} {g : Option (Nat × Bool)} (hw : wanted s.t g = true) (hk : chkA s.t f = true) (hf : evA s.t f = fv) (ha : args.map (evA s.t) = xs)
    (hi : inv fv xs s.h = some (v, h)) (k : DQ inv base l { s with t := putDst s.t d v, h := h } K) : DQ inv base (⟨d, .call f args, g⟩ :: l) s K := by
  have : exO inv base ⟨d, .call f args, g⟩ s = some { s with t := putDst s.t d v, h := h } := by
    unfold exO
    rw [if_pos hw]
    simp only [exC, hk, if_true, hf, ha, hi]
  obtain ⟨s', k1, k2⟩ := k
  exact ⟨s', by simp only [exOs, this, k1], k2⟩
end
end
end Go.Ai
end
