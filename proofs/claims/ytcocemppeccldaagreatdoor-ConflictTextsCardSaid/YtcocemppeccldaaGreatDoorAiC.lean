/- Each kind of operation, on memory, does in the model what the abstract one says (second part). -/
import Derived.Test.YtcocemppeccldaaGreatDoorAiB
set_option linter.unusedVariables false
set_option linter.unusedSimpArgs false
section
namespace Go.Ai
open Go Go.RowKit

section
variable {X : Ctx} {n0 : Nat} {φ : Phi} {F : Fz} {H H' : Hp} {w : World} {t : List V} {ρ : Operand → Value} {live : Lo} {slot : Option Nat} {base : Nat} {v : V} {r : R}
variable {dst : Option Tmp} {ty : TypeId} {pos : String} {after : Array Edge} {gd : Option (Nat × Bool)}

theorem bnd_ok {x : A} {y : Value} {n d : Nat} (h : bnd t (some x) d = some n) (hv : VRel φ F (evA t x) y) : ∃ k, y = .int k n := by
  simp only [bnd] at h
  split at h
  · rename_i k m hm
    split at h
    · rename_i h0
      cases h
      rw [hm] at hv
      exact ⟨k, by rw [hv.int_inv, Int.toNat_of_nonneg h0]⟩
    · cases h
  · cases h

/-- a bound that is given, or not -/
inductive Bd (ρ : Operand → Value) : Option Operand → Option Nat → Prop
  | none : Bd ρ none none
  | some (x : Operand) (k : IntKind) (n : Nat) (h : ρ x = .int k n) : Bd ρ (some x) (some n)

theorem ofAO_some {o : Option Operand} {a : Option A} (h : ofAO o = some a) : (o = none ∧ a = none) ∨ ∃ x y, o = some x ∧ a = some y ∧ ofA x = some y := by
  cases o with
  | none => cases h; exact .inl ⟨rfl, rfl⟩
  | some x =>
    simp only [ofAO] at h
    obtain ⟨y, hy, rfl⟩ := optmap_some h
    exact .inr ⟨x, y, rfl, rfl, hy⟩

theorem run_sliceBound {P : Program} {k : IntKind} {n y : Nat} {c : BoundsCode} (h : n ≤ y) : (Instr.sliceBound (.int k n) y c).run P w = .ok n w := by
  simp [Instr.sliceBound, asIntOf, h]

theorem run_sliceBounds {P : Program} {s : Bool} {len cap : Nat} {lo hi mx : Option Operand} {l : Option Nat} {h m : Option Nat} (hl : Bd ρ lo l) (hh : Bd ρ hi h) (hm : Bd ρ mx m)
    (h1 : m = none ∨ h.isSome) (h2 : l.getD 0 ≤ h.getD len) (h3 : h.isSome → h.getD len ≤ m.getD cap) (h4 : m.isSome → m.getD cap ≤ cap) :
    (Instr.sliceBounds s len cap (lo.map ρ) (hi.map ρ) (mx.map ρ)).run P w = .ok (l.getD 0, h.getD len, m.getD cap) w := by
  cases hm with
  | none =>
    cases hh with
    | none =>
      cases hl with
      | none => simp [Instr.sliceBounds]
      | some x k n hx => simp at h2; simp [Instr.sliceBounds, hx, run_sliceBound h2]
    | some y k' n' hy =>
      simp at h3
      cases hl with
      | none => simp [Instr.sliceBounds, hy, run_sliceBound h3]
      | some x k n hx => simp at h2; simp [Instr.sliceBounds, hx, hy, run_sliceBound h2, run_sliceBound h3]
  | some z k2 n2 hz =>
    simp at h4
    cases hh with
    | none => simp at h1
    | some y k' n' hy =>
      simp at h3
      cases hl with
      | none => simp [Instr.sliceBounds, hy, hz, run_sliceBound h3, run_sliceBound h4]
      | some x k n hx => simp at h2; simp [Instr.sliceBounds, hx, hy, hz, run_sliceBound h2, run_sliceBound h3, run_sliceBound h4]

theorem run_slice {P : Program} {T e : TypeId} {sz : Nat} {x : Operand} {lo hi mx : Option Operand} {l : Option Nat} {h m : Option Nat} (hl : Bd ρ lo l) (hh : Bd ρ hi h) (hm : Bd ρ mx m)
    {ad : Option Addr} {len cap : Nat} (hx : ρ x = .slice ad len cap) (hu : P.underlying T = some (.slice e)) (hs : szOf P e = some sz)
    (h1 : m = none ∨ h.isSome) (h2 : l.getD 0 ≤ h.getD len) (h3 : h.isSome → h.getD len ≤ m.getD cap) (h4 : m.isSome → m.getD cap ≤ cap) :
    (execOp ρ ⟨dst, .slice T x lo hi mx, ty, pos, after, gd⟩).run P w =
      .ok (.value (.slice (if m.getD cap = l.getD 0 then ad else ad.map (·.add (l.getD 0 * sz))) (h.getD len - l.getD 0) (m.getD cap - l.getD 0))) w := by
  simp [execOp, Instr.sliceAt, Instr.slice, run_underlying hu, hx, run_sliceBounds hl hh hm h1 h2 h3 h4, run_szOf hs]

/-- frozen elements, from a place on -/
theorem fsl_drop {sh : Option Nat} {es : List V} {b off cap : Nat} {x : Nat → Value} (hF : ∀ j, j < (cellsOf es).length → fcell F b (off + j) = some (x j))
    (ho : ∀ j, j < (cellsOf es).length → (x j).oneCell' = true) (hs : ∀ e ∈ es, fits sh e = true)
    (hh : ∀ j (h1 : j < (cellsOf es).length), VRel φ F (cellsOf es)[j] (x j)) {l n : Nat} (hl : l + n ≤ es.length) (hcap : n ≤ cap) :
    VRel φ F (fS sh ((es.drop l).take n)) (.slice (some ⟨b, off + l * shz sh, none⟩) n cap) := by
  have hlen : ((es.drop l).take n).length = n := by simp; omega
  unfold fS
  split
  · rename_i he
    rw [he] at hlen; simp at hlen; subst hlen
    exact .mts _ _
  · have hs' : ∀ e ∈ es, e.cells.length = shz sh := fun e he => fits_len (hs e he)
    have hsub : ∀ e ∈ (es.drop l).take n, e ∈ es := fun e he => List.mem_of_mem_drop (List.mem_of_mem_take he)
    have hs2 : ∀ e ∈ (es.drop l).take n, e.cells.length = shz sh := fun e he => hs' e (hsub e he)
    have hc2 : (cellsOf ((es.drop l).take n)).length = n * shz sh := by rw [cellsOf_len hs2, hlen]
    have hc1 : (cellsOf es).length = es.length * shz sh := cellsOf_len hs'
    have hle : l * shz sh + n * shz sh ≤ es.length * shz sh := by rw [← Nat.add_mul]; exact Nat.mul_le_mul_right _ hl
    have hget : ∀ j (hj : j < (cellsOf ((es.drop l).take n)).length) (hj2 : l * shz sh + j < (cellsOf es).length), (cellsOf ((es.drop l).take n))[j] = (cellsOf es)[l * shz sh + j] := by
      intro j hj hj2
      have hpos : 0 < shz sh := by
        apply Classical.byContradiction; intro h0
        have : shz sh = 0 := by omega
        rw [hc2, this] at hj; omega
      have hm := Nat.mod_lt j hpos
      have hjj : j = j / shz sh * shz sh + j % shz sh := by rw [Nat.mul_comm]; exact (Nat.div_add_mod j _).symm
      have hq : j / shz sh < n := by rw [Nat.div_lt_iff_lt_mul hpos]; omega
      have e1 := cellsOf_get hs2 (i := j / shz sh) hm
      have e2 := cellsOf_get hs' (i := l + j / shz sh) hm
      rw [← hjj, List.getElem?_eq_getElem hj, List.getElem?_take_of_lt hq, List.getElem?_drop] at e1
      have : (l + j / shz sh) * shz sh + j % shz sh = l * shz sh + j := by rw [Nat.add_mul]; omega
      rw [this, List.getElem?_eq_getElem hj2] at e2
      rw [← e2] at e1
      exact Option.some.inj e1
    have := VRel.fsl (φ := φ) (F := F) sh ((es.drop l).take n) b (off + l * shz sh) cap (fun j => x (l * shz sh + j)) (by omega)
      (fun j hj => by rw [Nat.add_assoc]; exact hF _ (by omega)) (fun j hj => ho _ (by omega)) (fun e he => hs e (hsub e he))
      (fun j hj => by rw [hget j hj (by omega)]; exact hh _ _)
    rw [hlen] at this
    exact this

theorem good_slice {T : TypeId} {x : Operand} {lo hi mx : Option Operand} : Good X live slot ⟨dst, .slice T x lo hi mx, ty, pos, after, gd⟩ := by
  intro n0 φ F H w t ρ base r v H' S hρ hc he
  simp only [compOp] at hc
  split at hc
  · rename_i e hu
    split at hc
    · rename_i sz a alo ahi amx h1 h2 h3 h4 h5
      cases hc
      simp only [exOp] at he
      split at he
      · rename_i l h m e1 e2 e3
        obtain ⟨y, hy, he⟩ := optmap_some he
        cases he
        have hv := hρ _ _ h2
        -- the bounds
        have bl : ∃ l', Bd ρ lo l' ∧ l'.getD 0 = l := by
          rcases ofAO_some h3 with ⟨rfl, rfl⟩ | ⟨p, q, rfl, rfl, hpq⟩
          · simp [bnd] at e1; exact ⟨none, .none, by simpa using e1⟩
          · obtain ⟨k, hk⟩ := bnd_ok e1 (hρ _ _ hpq)
            exact ⟨some l, .some p k l hk, rfl⟩
        have bh : Bd ρ hi h := by
          rcases ofAO_some h4 with ⟨rfl, rfl⟩ | ⟨p, q, rfl, rfl, hpq⟩
          · simp at e2; subst e2; exact .none
          · simp only at e2
            obtain ⟨n, hn, rfl⟩ := optmap_some e2
            obtain ⟨k, hk⟩ := bnd_ok hn (hρ _ _ hpq)
            exact .some p k n hk
        have bm : Bd ρ mx m := by
          rcases ofAO_some h5 with ⟨rfl, rfl⟩ | ⟨p, q, rfl, rfl, hpq⟩
          · simp at e3; subst e3; exact .none
          · simp only at e3
            obtain ⟨n, hn, rfl⟩ := optmap_some e3
            obtain ⟨k, hk⟩ := bnd_ok hn (hρ _ _ hpq)
            exact .some p k n hk
        obtain ⟨l', bl, rfl⟩ := bl
        generalize hpx : ρ x = px at hv
        unfold exSlice at hy
        split at hy
        · cases hy
        rename_i hmi
        have hmi : m = none ∨ h.isSome := by cases m <;> cases h <;> simp_all
        have hr := fun ad len cap hx a2 a3 a4 => run_slice (w := w) (dst := dst) (ty := ty) (pos := pos) (after := after) (gd := gd) (P := X.P) (x := x) (ad := ad) (len := len) (cap := cap) bl bh bm hx hu h1 hmi a2 a3 a4
        split at hy
        · -- nil
          rename_i hn
          obtain ⟨⟨c1, c2, c3⟩, hy⟩ := ite_none_some hy
          cases hy
          rw [hn] at hv; cases hv
          have hr := hr none 0 0 hpx (by omega) (by intro; omega) (by intro; omega)
          rw [c1, c2, c3] at hr
          simp only [Nat.sub_self, if_true] at hr
          exact .same S hr .nils
        · rename_i hn
          obtain ⟨⟨hm0, c2, c3⟩, hy⟩ := ite_none_some hy
          cases hy
          rw [hn] at hv
          cases hv with
          | mtn =>
            have hr := hr none 0 0 hpx (by omega) (by intro; omega) (by intro; omega)
            rw [c2, c3, hm0] at hr
            simp only [Nat.sub_self, if_true] at hr
            exact .same S hr .mtn
          | mts ad cap =>
            have hr := hr (some ad) 0 cap hpx (by omega) (by intro; rw [c3]; exact Nat.zero_le _) (by intro hh; cases m with | none => cases hh | some k => simp only [Option.getD_some] at hm0 ⊢; omega)
            rw [c2, c3] at hr
            simp only [Nat.sub_zero] at hr
            by_cases hc0 : m.getD cap = 0
            · rw [if_pos hc0] at hr; exact .same S hr (.mts _ _)
            · rw [if_neg hc0] at hr; exact .same S hr (.mts _ _)
        · rename_i sh es hn
          obtain ⟨⟨c1, c2, c3, c4⟩, hy⟩ := ite_none_some hy
          cases hy
          rw [hn] at hv
          cases hv with
          | fsl _ _ b off cap y hl hF ho hs hh =>
            have hr := hr _ _ _ hpx c1 (by intro; cases m <;> simp_all; omega) (by intro hm; cases m <;> simp_all; omega)
            split at hr
            · rename_i hml
              have hz : h.getD es.length - l'.getD 0 = 0 := by cases m <;> simp_all; omega
              rw [hz] at hr ⊢
              simp only [List.take_zero, fS]
              exact .same S hr (.mts _ _)
            · refine .same S hr ?_
              rw [← c4]
              simp only [Option.map_some, add_addr]
              exact fsl_drop hF ho hs hh (by omega) (by cases m with | none => simp only [Option.getD_none] at c2 ⊢; omega | some k => simp only [Option.getD_some] at c2 ⊢; omega)
        · rename_i aid sh i n e' c hn
          obtain ⟨c0, hy⟩ := ite_none_some hy
          rw [hn] at hv
          split at hy
          · obtain ⟨⟨c1, c2⟩, hy⟩ := ite_none_some hy
            cases hy
            cases hv with
            | sl _ _ _ _ _ _ b nn cap hp hin hcc hcap =>
              simp only at hcc
              have hr := hr _ _ _ hpx c1 (by intro; simp; omega) (by intro hm; cases hm)
              simp only [Option.getD_none] at hr
              split at hr
              · rename_i hml
                have e1 : i + l'.getD 0 = e' := by omega
                have e2 : h.getD n - l'.getD 0 = 0 := by omega
                have e3 : cap - l'.getD 0 = 0 := by omega
                rw [e2, e3] at hr
                rw [e1, e2]
                exact .same S hr (.slz _ _ _ _)
              · refine .same S hr ?_
                rw [← c0]
                simp only [Option.map_some, add_addr, ← Nat.add_mul]
                exact .sl aid sh _ _ e' none b nn _ hp (by omega) (by simp only; omega) (Nat.le_trans (Nat.mul_le_mul_right _ (by omega)) hcap)
            | slz _ _ _ ad =>
              have hr := hr _ _ _ hpx c1 (by intro; simp; omega) (by intro hm; cases hm)
              have e2 : h.getD 0 = 0 := by omega
              have e3 : l'.getD 0 = 0 := by omega
              rw [e2, e3] at hr
              simp only [Option.getD_none, if_true, Nat.sub_self] at hr
              rw [e2, e3]
              exact .same S hr (.slz _ _ _ _)
          · rename_i cc
            obtain ⟨⟨c1, c2⟩, hy⟩ := ite_none_some hy
            cases hy
            cases hv with
            | sl _ _ _ _ _ _ b nn cap hp hin hcc hcap =>
              simp only at hcc
              obtain ⟨rfl, hcc1, hcc⟩ := hcc
              have hr := hr _ _ _ hpx c1 (by intro; simp; omega) (by intro hm; cases hm)
              simp only [Option.getD_none] at hr
              by_cases hml : cap = l'.getD 0
              · rw [if_pos hml] at hr
                rw [if_pos hml]
                have e2 : h.getD n - l'.getD 0 = 0 := by omega
                rw [e2, ← hml, Nat.sub_self] at hr
                exact .same S hr (.sl aid sh i 0 e' (some 0) b nn 0 hp (by omega) ⟨rfl, by omega, by omega⟩ (Nat.le_trans (Nat.mul_le_mul_right _ (by omega)) hcap))
              · rw [if_neg hml] at hr
                rw [if_neg hml]
                refine .same S hr ?_
                rw [← c0]
                simp only [Option.map_some, add_addr, ← Nat.add_mul]
                exact .sl aid sh _ _ e' (some _) b nn _ hp (by omega) ⟨rfl, by omega, by omega⟩ (Nat.le_trans (Nat.mul_le_mul_right _ (by omega)) hcap)
          · rename_i mm _ _
            obtain ⟨⟨c1, c2, c3, c4⟩, hy⟩ := ite_none_some hy
            cases hy
            cases hv with
            | sl _ _ _ _ _ _ b nn cap hp hin hcc hcap =>
              have hmc : mm ≤ cap := by
                cases c with
                | none => simp only at hcc; omega
                | some c => simp only at hcc; simp [capOk] at c4; omega
              have hr := hr _ _ _ hpx c1 (by intro; simp; omega) (by intro hm; simpa using hmc)
              simp only [Option.getD_some] at hr
              by_cases hml : mm = l'.getD 0
              · rw [if_pos hml] at hr
                rw [if_pos hml]
                have e2 : h.getD n - l'.getD 0 = 0 := by omega
                rw [e2] at hr
                exact .same S hr (.mts _ _)
              · rw [if_neg hml] at hr
                rw [if_neg hml]
                refine .same S hr ?_
                rw [← c0]
                simp only [Option.map_some, add_addr, ← Nat.add_mul]
                exact .sl aid sh _ _ e' (some _) b nn _ hp (by omega) ⟨rfl, by omega, by omega⟩ (Nat.le_trans (Nat.mul_le_mul_right _ (by omega)) hcap)
            | slz _ _ _ ad =>
              have hr := hr _ _ _ hpx c1 (by intro; simp; omega) (by intro hm; simp; omega)
              simp only [Option.getD_some] at hr
              have e1 : mm = l'.getD 0 := by omega
              rw [if_pos e1] at hr
              rw [if_pos e1]
              have e2 : h.getD 0 - l'.getD 0 = 0 := by omega
              rw [e2] at hr
              exact .same S hr (.mts _ _)
        · cases hy
      · cases he
    · cases hc
  · rename_i hu
    split at hc
    · rename_i a alo ahi h1 h3 h4
      cases hc
      simp only [exOp] at he
      split at he
      · rename_i s hs
        split at he
        · rename_i l h e1 e2
          obtain ⟨⟨c1, c2⟩, he⟩ := ite_none_some he
          cases he
          have hv := hρ _ _ h1
          rw [hs] at hv
          have bl : ∃ l', Bd ρ lo l' ∧ l'.getD 0 = l := by
            rcases ofAO_some h3 with ⟨rfl, rfl⟩ | ⟨p, q, rfl, rfl, hpq⟩
            · simp [bnd] at e1; exact ⟨none, .none, by simpa using e1⟩
            · obtain ⟨k, hk⟩ := bnd_ok e1 (hρ _ _ hpq)
              exact ⟨some l, .some p k l hk, rfl⟩
          have bh : ∃ h', Bd ρ hi h' ∧ h'.getD s.size = h := by
            rcases ofAO_some h4 with ⟨rfl, rfl⟩ | ⟨p, q, rfl, rfl, hpq⟩
            · simp [bnd] at e2; exact ⟨none, .none, by simpa using e2⟩
            · obtain ⟨k, hk⟩ := bnd_ok e2 (hρ _ _ hpq)
              exact ⟨some h, .some p k h hk, rfl⟩
          obtain ⟨l', bl, rfl⟩ := bl
          obtain ⟨h', bh, rfl⟩ := bh
          have := run_sliceBounds (P := X.P) (w := w) (s := false) (len := s.size) (cap := s.size) bl bh (.none : Bd ρ none none) (.inl rfl) c1 (by intro; simpa using c2) (by intro hh; cases hh)
          simp only [Option.map_none] at this
          refine .same S (x := .string (s.extract (l'.getD 0) (h'.getD s.size))) ?_ (.str _)
          simp [execOp, Instr.sliceAt, Instr.slice, run_underlying hu, hv.str_inv, this]
        · cases he
      · cases he
    · cases hc
  · cases hc

end
end Go.Ai
end
section
namespace Go.Ai
open Go Go.RowKit

section
variable {X : Ctx} {n0 : Nat} {φ : Phi} {F : Fz} {H H' : Hp} {w : World} {t : List V} {ρ : Operand → Value} {live : Lo} {slot : Option Nat} {base : Nat} {v : V} {r : R}
variable {dst : Option Tmp} {ty : TypeId} {pos : String} {after : Array Edge} {gd : Option (Nat × Bool)}

/-- a key that is looked for: what its kind asks -/
theorem keyEq_holds {P : Program} {T : TypeId} {st : Bool} {ks : List LK} {a b : V} {x y : Value} {r : Bool} (hst : isAg P T = some st) (h : keyEq st ks a b = some r)
    (ha : VRel φ F a x) (hb : VRel φ F b y) : ∃ as bs, Holds P φ F T as x ∧ Holds P φ F T bs y ∧ lEq ks as bs = some r := by
  unfold keyEq at h
  cases st with
  | true =>
    simp only [if_true] at h
    split at h
    · cases ha with
      | agg _ xs l ho hh => cases hb with
        | agg _ ys l2 ho2 hh2 =>
          exact ⟨_, _, by simp only [Holds, hst, if_true]; exact ⟨_, rfl, l, hh⟩, by simp only [Holds, hst, if_true]; exact ⟨_, rfl, l2, hh2⟩, h⟩
    · cases h
  | false =>
    simp only [Bool.false_eq_true, if_false] at h
    exact ⟨_, _, by simp only [Holds, hst]; exact ⟨_, rfl, ha⟩, by simp only [Holds, hst]; exact ⟨_, rfl, hb⟩, h⟩

/-- the kind of a key's type, and what it says of the two ways to look it up -/
theorem sameNow_ok {P : Program} {T : TypeId} {st : Bool} {ks : List LK} (hst : isAg P T = some st) (hks : leaves P 9 T = some ks) {a b : V} {x y : Value} {r : Bool}
    (h : keyEq st ks a b = some r) (ha : VRel φ F a x) (hb : VRel φ F b y) {d : TypeDesc} (hd : P.underlying T = some d) :
    Instr.sameNow d x y = some r ∨ (Instr.sameNow d x y = none ∧ st = true) := by
  simp only [leaves, hd] at hks
  simp only [isAg, hd, Option.map_some, Option.some.injEq] at hst
  split at hks
  · rename_i k he
    cases hks
    cases he
    subst hst
    simp only [keyEq, Bool.false_eq_true, if_false] at h
    cases a <;> cases b <;> simp [lEq] at h
    obtain ⟨rfl, rfl⟩ := h
    rw [ha.int_inv, hb.int_inv]
    exact .inl (by simp [Instr.sameNow])
  · rename_i he
    cases hks; cases he; subst hst
    simp only [keyEq, Bool.false_eq_true, if_false] at h
    cases a <;> cases b <;> simp [lEq] at h
    obtain rfl := h
    rw [ha.bool_inv, hb.bool_inv]
    exact .inl (by simp [Instr.sameNow])
  · rename_i he
    cases hks; cases he; subst hst
    simp only [keyEq, Bool.false_eq_true, if_false] at h
    cases a <;> cases b <;> simp [lEq] at h
    obtain rfl := h
    rw [ha.str_inv, hb.str_inv]
    exact .inl (by simp [Instr.sameNow, beq_toListBytes])
  · rename_i fs he
    cases he; subst hst
    exact .inr ⟨rfl, rfl⟩
  · cases hks

theorem findK_ok {P : Program} {T : TypeId} {st : Bool} {ks : List LK} (hst : isAg P T = some st) (hks : leaves P 9 T = some ks) {k : V} {x : Value} (hk : VRel φ F k x)
    {keys : List V} {res : Option Nat} {i : Nat} (h : findK st ks k keys i = some res) {es : List MapEntry} (hl : keys.length = es.length)
    (hr : ∀ j (a : j < keys.length) (b : j < es.length), VRel φ F keys[j] es[j].key) :
    (Instr.findAsking T x es i).run P w = .ok (res.bind fun j => (es[j - i]?).map fun e => (j, e.val)) w ∧
    (st = false → ∀ d, P.underlying T = some d → Instr.findNow d x es i = some (res.bind fun j => (es[j - i]?).map fun e => (j, e.val))) ∧ (∀ j, res = some j → i ≤ j ∧ j - i < es.length) := by
  induction keys generalizing es i with
  | nil =>
    obtain rfl : es = [] := by cases es <;> simp_all
    simp only [findK] at h; cases h
    exact ⟨rfl, fun _ _ _ => rfl, fun j hj => by cases hj⟩
  | cons a keys ih =>
    cases es with
    | nil => simp at hl
    | cons e es =>
      have hae : VRel φ F a e.key := hr 0 (by simp) (by simp)
      have hr' : ∀ j (p : j < keys.length) (q : j < es.length), VRel φ F keys[j] es[j].key := fun j p q => by
        have := hr (j + 1) (by simpa using p) (by simpa using q)
        simpa using this
      simp only [findK] at h
      split at h
      · rename_i hq
        cases h
        obtain ⟨as, bs, p1, p2, p3⟩ := keyEq_holds hst hq hk hae
        have heq := lEq_run (P := P) (w := w) 9 T ks hks 10000 (by omega) as bs x e.key true p1 p2 p3
        have heq' : (Op.equal T x e.key).run P w = .ok true w := heq
        refine ⟨?_, fun hs d hd => ?_, fun j hj => by cases hj; exact ⟨Nat.le_refl _, by simp⟩⟩
        · simp [Instr.findAsking, heq']
        · rcases sameNow_ok hst hks hq hk hae hd with h1 | ⟨_, h2⟩
          · simp [Instr.findNow, h1]
          · rw [hs] at h2; cases h2
      · rename_i hq
        obtain ⟨as, bs, p1, p2, p3⟩ := keyEq_holds hst hq hk hae
        have heq := lEq_run (P := P) (w := w) 9 T ks hks 10000 (by omega) as bs x e.key false p1 p2 p3
        have heq' : (Op.equal T x e.key).run P w = .ok false w := heq
        obtain ⟨i1, i2, i3⟩ := ih h (by simpa using hl) hr'
        have hsame : (res.bind fun j => (es[j - (i + 1)]?).map fun e => (j, e.val)) = (res.bind fun j => ((e :: es)[j - i]?).map fun e => (j, e.val)) := by
          cases res with
          | none => rfl
          | some j =>
            obtain ⟨g1, g2⟩ := i3 j rfl
            simp only [Option.bind_some]
            have : j - i = (j - (i + 1)) + 1 := by omega
            rw [this]; simp
        refine ⟨?_, fun hs d hd => ?_, fun j hj => ?_⟩
        · simp only [Instr.findAsking, Sem.run_bind, heq', Result.andThen_ok, Bool.false_eq_true, if_false]
          rw [i1, hsame]
        · rcases sameNow_ok hst hks hq hk hae hd with h1 | ⟨_, h2⟩
          · simp only [Instr.findNow, h1]
            rw [i2 hs d hd, hsame]
          · rw [hs] at h2; cases h2
        · obtain ⟨g1, g2⟩ := i3 j hj
          exact ⟨by omega, by simp; omega⟩
      · cases h

theorem run_findKey {P : Program} {T : TypeId} {st : Bool} {ks : List LK} (hst : isAg P T = some st) (hks : leaves P 9 T = some ks) {k : V} {x : Value} (hk : VRel φ F k x)
    {keys : List V} {res : Option Nat} (h : findK st ks k keys 0 = some res) {es : List MapEntry} (hl : keys.length = es.length)
    (hr : ∀ j (a : j < keys.length) (b : j < es.length), VRel φ F keys[j] es[j].key) :
    (Instr.findKey T x es).run P w = .ok (res.bind fun j => (es[j]?).map fun e => (j, e.val)) w ∧ (∀ j, res = some j → j < es.length) := by
  obtain ⟨h1, h2, h3⟩ := findK_ok (w := w) hst hks hk h hl hr
  refine ⟨?_, fun j hj => by have := h3 j hj; omega⟩
  cases hd : P.underlying T with
  | none => simp [isAg, hd] at hst
  | some d =>
    simp only [Instr.findKey, Sem.run_bind, run_underlying hd, Result.andThen_ok]
    cases st with
    | false => rw [h2 rfl d hd]; simp
    | true =>
      cases es with
      | nil =>
        have : res = none := by cases res with
          | none => rfl
          | some j => have := h3 j rfl; simp at this
        subst this
        simp [Instr.findNow]
      | cons e es =>
        have : Instr.findNow d x (e :: es) 0 = none := by
          have : Instr.sameNow d x e.key = none := by
            simp only [isAg, hd, Option.map_some, Option.some.injEq] at hst
            cases d <;> simp at hst <;> rfl
          simp [Instr.findNow, this]
        rw [this]
        simpa using h1

theorem run_checkKey {P : Program} {em : Bool} (d : Nat) : ∀ T ks, leaves P d T = some ks → ∀ D, d ≤ D → ∀ a x, Holds P φ F T a x → a.length = ks.length → (Instr.checkKey em D T x).run P w = .ok () w := by
  induction d with
  | zero => intro T ks h; simp [leaves] at h
  | succ d ih =>
    intro T ks h D hD a x ha hlen
    obtain ⟨D, rfl⟩ : ∃ D', D = D' + 1 := ⟨D - 1, by omega⟩
    simp only [leaves] at h
    split at h
    · rename_i k hu
      simp [Instr.checkKey, run_underlying hu]
    · rename_i hu
      simp [Instr.checkKey, run_underlying hu]
    · rename_i hu
      simp [Instr.checkKey, run_underlying hu]
    · rename_i fs hu
      split at h
      · cases h
      · have hn : isAg P T = some true := by simp [isAg, hu]
        simp only [Holds, hn, if_true] at ha
        obtain ⟨xs, rfl, la, ra⟩ := ha
        simp only [Instr.checkKey, Sem.run_bind, run_underlying hu, Result.andThen_ok]
        rw [← Array.forIn_toList]
        have key : ∀ (l : List Field) (o : Nat) (ks : List LK), leavesF P (leaves P d) o l = some ks → o + ks.length ≤ a.length →
            (forIn l PUnit.unit (fun f (_ : PUnit) => if f.name ≠ "_" then (do Instr.checkKey em D f.type (← part f.type xs f.offset); pure (ForInStep.yield PUnit.unit)) else (pure (ForInStep.yield PUnit.unit) : Sem (ForInStep PUnit)))).run P w = .ok PUnit.unit w := by
          intro l
          induction l with
          | nil => intro o ks _ _; rfl
          | cons f l ihl =>
            intro o ks h hle
            simp only [leavesF] at h
            split at h
            · rename_i hcond
              simp only [Bool.and_eq_true, bne_iff_ne, beq_iff_eq] at hcond
              obtain ⟨hname, rfl⟩ := hcond
              split at h
              · rename_i lk g n m h1 h2 h3 h4
                split at h
                · rename_i hc2
                  cases h
                  simp only [Bool.and_eq_true, beq_iff_eq, Bool.or_eq_true] at hc2
                  obtain ⟨hnl, hgn⟩ := hc2
                  rw [h3] at h4
                  simp only [Option.getD_some] at h4
                  simp only [List.length_append] at hle
                  obtain ⟨y1, p1, p2⟩ := part_holds (P := P) (w := w) (o := f.offset) la ra h2 h3 hgn (by omega)
                  have hrec := ih f.type lk h1 D (by omega) _ y1 p2 (by simp; omega)
                  have htail := ihl (f.offset + n) m h4 (by omega)
                  simp only [List.forIn_cons, ne_eq, hname, not_false_eq_true, if_true, Sem.run_bind, p1, hrec, Result.andThen_ok, Sem.run_pure]
                  exact htail
                · cases h
              · cases h
            · cases h
        have := key fs.toList 0 ks h (by omega)
        simp at this ⊢
        rw [this]; rfl
    · cases h

/-- a key's own check -/
theorem checkKey_ok {P : Program} {T : TypeId} {st : Bool} {ks : List LK} (hst : isAg P T = some st) (hks : leaves P 9 T = some ks) {k : V} {x : Value} (hk : VRel φ F k x)
    (hfit : keyFit st ks k = true) (em : Bool) (w : World) : (Instr.checkKey em 10000 T x).run P w = .ok () w := by
  unfold keyFit at hfit
  cases st with
  | true =>
    simp only [if_true] at hfit
    split at hfit
    · generalize hx : x = y at hk
      cases hk with
      | agg _ xs l ho hh =>
        exact run_checkKey (φ := φ) (F := F) 9 T ks hks 10000 (by omega) _ _ (by simp only [Holds, hst, if_true]; exact ⟨_, rfl, l, hh⟩) (by simpa using hfit)
    · cases hfit
  | false =>
    simp only [Bool.false_eq_true, if_false] at hfit
    have h1 : ks.length = 1 := by simpa using hfit
    exact run_checkKey (φ := φ) (F := F) 9 T ks hks 10000 (by omega) [k] x (by simp only [Holds, hst]; exact ⟨_, rfl, hk⟩) (by rw [h1]; rfl)

theorem good_look {T : TypeId} {m k : Operand} {ok : Bool} : Good X live slot ⟨dst, .lookup T m k ok, ty, pos, after, gd⟩ := by
  intro n0 φ F H w t ρ base r v H' S hρ hc he
  simp only [compOp] at hc
  split at hc
  · rename_i kt e hu
    split at hc
    · rename_i st ks z am ak h1 h2 h3 h4 h5
      cases hc
      simp only [exOp] at he
      have hvm := hρ _ _ h4
      have hvk := hρ _ _ h5
      split at he
      · rename_i keys vals hmap
        obtain ⟨hfit, he⟩ := ite_none_some he
        obtain ⟨zx, hz1, hz2⟩ := run_zeroOf h3 w
        have hz3 : VRel φ F z zx := ofC_rel hz2
        -- the entries
        have hent : ∃ es : List MapEntry, keys.length = es.length ∧ vals.length = es.length ∧ (∀ j (a : j < keys.length) (b : j < es.length), VRel φ F keys[j] es[j].key) ∧
            (∀ j (a : j < vals.length) (b : j < es.length), VRel φ F vals[j] es[j].val) ∧
            ∀ (x : Value) (res : Option Nat), ρ k = x → (Instr.findKey kt x es).run X.P w = .ok (res.bind fun j => (es[j]?).map fun e => (j, e.val)) w →
              (execOp ρ ⟨dst, .lookup T m k ok, ty, pos, after, gd⟩).run X.P w =
                .ok (.value (let p := match (res.bind fun j => (es[j]?).map fun e => (j, e.val)) with | some (_, y) => (y, true) | none => (zx, false); if ok then .tuple #[p.1, .bool p.2] else p.1)) w := by
          have fin : ∀ (arr : Array MapEntry), (ρ m = .map none ∧ arr = #[]) ∨ (∃ rr clk, ρ m = .map (some rr) ∧ w.heap[rr]? = some (.map arr clk)) →
              ∀ (x : Value) (res : Option Nat), ρ k = x → (Instr.findKey kt x arr.toList).run X.P w = .ok (res.bind fun j => (arr.toList[j]?).map fun e => (j, e.val)) w →
              (execOp ρ ⟨dst, .lookup T m k ok, ty, pos, after, gd⟩).run X.P w =
                .ok (.value (let p := match (res.bind fun j => (arr.toList[j]?).map fun e => (j, e.val)) with | some (_, y) => (y, true) | none => (zx, false); if ok then .tuple #[p.1, .bool p.2] else p.1)) w := by
            intro arr harr x res hx hf
            subst hx
            have hck := checkKey_ok (P := X.P) h1 h2 hvk hfit arr.isEmpty w
            have hmid : (Instr.lookup T (ρ m) (ρ k) ok).run X.P w = .ok (let p := match (res.bind fun j => (arr.toList[j]?).map fun e => (j, e.val)) with | some (_, y) => (y, true) | none => (zx, false); if ok then .tuple #[p.1, .bool p.2] else p.1) w := by
              rcases harr with ⟨hm, rfl⟩ | ⟨rr, clk, hm, hh⟩
              · rw [hm]
                simp only [Instr.lookup, Sem.run_bind, run_underlying hu, Result.andThen_ok, Sem.run_pure, hck, hf]
                cases hq : (res.bind fun j => ((#[] : Array MapEntry).toList[j]?).map fun e => (j, e.val)) with
                | none => simp only [Sem.run_bind, hz1, Result.andThen_ok, Sem.run_pure]
                | some p => obtain ⟨j, y⟩ := p; simp only [Sem.run_bind, Sem.run_pure, Result.andThen_ok]
              · rw [hm]
                have hg : (getObj rr).run X.P w = .ok (.map arr clk) w := by simp [getObj, Sem.run, hh]
                simp only [Instr.lookup, Sem.run_bind, run_underlying hu, Result.andThen_ok, Sem.run_pure, hg, hck, hf]
                cases hq : (res.bind fun j => (arr.toList[j]?).map fun e => (j, e.val)) with
                | none => simp only [Sem.run_bind, hz1, Result.andThen_ok, Sem.run_pure]
                | some p => obtain ⟨j, y⟩ := p; simp only [Sem.run_bind, Sem.run_pure, Result.andThen_ok]
            simp only [execOp, Sem.run_bind, hmid, Result.andThen_ok, Sem.run_pure]
          rcases mapOf_rel S hmap hvm with ⟨hx, rfl, rfl⟩ | ⟨rr, es, clk, hx, hh, l1, l2, r1, r2⟩
          · exact ⟨[], rfl, rfl, fun j a => absurd a (by simp), fun j a => absurd a (by simp), fin #[] (.inl ⟨hx, rfl⟩)⟩
          · exact ⟨es.toList, by simpa using l1, by simpa using l2, fun j a b => by rw [Array.getElem_toList]; exact r1 _ _ _, fun j a b => by rw [Array.getElem_toList]; exact r2 _ _ _, fin es (.inr ⟨rr, clk, hx, hh⟩)⟩
        obtain ⟨es, l1, l2, r1, r2, hrun⟩ := hent
        split at he
        · rename_i i hfi
          split at he
          · rename_i y hy
            cases he
            obtain ⟨q1, q2⟩ := run_findKey (P := X.P) (w := w) h1 h2 hvk hfi l1 r1
            have hil := q2 i rfl
            obtain ⟨hyl, hye⟩ := List.getElem?_eq_some_iff.1 hy
            have := hrun _ (some i) rfl q1
            simp only [Option.bind_some, List.getElem?_eq_getElem hil, Option.map_some] at this
            have hv := r2 i hyl hil
            rw [hye] at hv
            refine .same S this ?_
            cases ok
            · exact hv
            · refine .tup _ _ rfl fun j a b => ?_
              simp only [List.length_cons, List.length_nil] at a
              match j, a with
              | 0, _ => exact hv
              | 1, _ => exact .bool _
          · cases he
        · rename_i hfi
          cases he
          obtain ⟨q1, q2⟩ := run_findKey (P := X.P) (w := w) h1 h2 hvk hfi l1 r1
          have := hrun _ none rfl q1
          simp only [Option.bind_none] at this
          refine .same S this ?_
          cases ok
          · exact hz3
          · refine .tup _ _ rfl fun j a b => ?_
            simp only [List.length_cons, List.length_nil] at a
            match j, a with
            | 0, _ => exact hz3
            | 1, _ => exact .bool _
        · cases he
      · cases he
    · cases hc
  · cases hc

/-- a live map -/
theorem live_map (S : Sim X n0 φ F H w) {a b n : Nat} {ks vs : List V} {bs : List Nat} {clk : Nat} (h : H[a]? = some (.map ks vs bs clk)) (hp : φ a 0 = some (b, n)) :
    ∃ es, w.heap[b]? = some (.map es clk) ∧ ks.length = es.size ∧ vs.length = es.size ∧ bs.length = es.size ∧ (∀ j (p : j < ks.length) (q : j < es.size), VRel φ F ks[j] es[j].key) ∧
      (∀ j (p : j < vs.length) (q : j < es.size), VRel φ F vs[j] es[j].val) ∧ (∀ j (p : j < bs.length) (q : j < es.size), bs[j] = es[j].born) ∧ n0 ≤ b ∧ F b = none := by
  obtain ⟨b', m, c, g1, g2, g3, g4, es, rfl, g5, g6, g7, g8, g9, g10⟩ := S.obj a _ h trivial
  simp only [Ob.key] at g1
  rw [hp] at g1; cases g1
  exact ⟨es, g4, g5, g6, g7, g8, g9, g10, g2, g3⟩

/-- a live map turns -/
theorem Sim.mapWrite (S : Sim X n0 φ F H w) {a b n : Nat} {ks vs ks' vs' : List V} {bs bs' : List Nat} {clk clk' : Nat} (h : H[a]? = some (.map ks vs bs clk)) (hp : φ a 0 = some (b, n)) {es' : Array MapEntry}
    (l1 : ks'.length = es'.size) (l2 : vs'.length = es'.size) (l3 : bs'.length = es'.size) (r1 : ∀ j (p : j < ks'.length) (q : j < es'.size), VRel φ F ks'[j] es'[j].key)
    (r2 : ∀ j (p : j < vs'.length) (q : j < es'.size), VRel φ F vs'[j] es'[j].val) (r3 : ∀ j (p : j < bs'.length) (q : j < es'.size), bs'[j] = es'[j].born) :
    Sim X n0 φ F (H.set a (.map ks' vs' bs' clk')) { w with heap := w.heap.setIfInBounds b (.map es' clk') } ∧
      Ext n0 φ F w φ F { w with heap := w.heap.setIfInBounds b (.map es' clk') } := by
  obtain ⟨es, g1, g2, g3, g4, g5, g6, g7, g8, g9⟩ := live_map S h hp
  have hal : a < H.length := (List.getElem?_eq_some_iff.1 h).1
  have hbl := heap_lt g1
  constructor
  · refine S.update (a := a) (b := b) (n := n) (o' := .map ks' vs' bs' clk') (c := .map es' clk') (by simp [hal]) (fun a' ha => by simp [Ne.symm ha]) (by simp [hbl]) (fun k hk _ => ?_) (by simp) (Phi.le.refl _) hp (fun _ _ hne => absurd rfl hne) g8 g9 ?_
      ⟨es', rfl, l1, l2, l3, r1, r2, r3⟩ trivial ?_ (fun _ _ e => by cases e)
    · simp [Array.getElem?_setIfInBounds, Ne.symm hk]
    · intro a' o n' ha ho hlo hp'
      exact ha (S.inj a' a o _ b n' n ho hlo h trivial hp' hp)
    · intro e _; exact .inr (fun sh es he => by cases he)
  · refine ⟨Phi.le.refl _, Fz.le.refl _, ⟨rfl, rfl, rfl, by simp, fun k hk => ?_⟩, fun _ _ => rfl⟩
    have : b ≠ k := by omega
    simp [Array.getElem?_setIfInBounds, this]

/-- two keys alike, bit by bit -/
theorem lEq_bits {ks : List LK} {as bs : List V} {xs ys : List Value} (h : lEq ks as bs = some true) (l1 : as.length = xs.length) (l2 : bs.length = ys.length)
    (r1 : ∀ j (p : j < as.length) (q : j < xs.length), VRel φ F as[j] xs[j]) (r2 : ∀ j (p : j < bs.length) (q : j < ys.length), VRel φ F bs[j] ys[j]) (d : Nat) :
    ((xs.zip ys).all fun (x, y) => Instr.sameBits d x y) = true ∧ xs = ys := by
  induction ks generalizing as bs xs ys with
  | nil =>
    cases as <;> cases bs <;> simp [lEq] at h
    cases xs <;> cases ys <;> simp at l1 l2
    exact ⟨rfl, rfl⟩
  | cons k ks ih =>
    cases as with
    | nil => cases k <;> simp [lEq] at h
    | cons a as =>
      cases bs with
      | nil => cases k <;> cases a <;> simp [lEq] at h
      | cons b bs =>
        cases xs with
        | nil => simp at l1
        | cons x xs =>
          cases ys with
          | nil => simp at l2
          | cons y ys =>
            have ha : VRel φ F a x := r1 0 (by simp) (by simp)
            have hb : VRel φ F b y := r2 0 (by simp) (by simp)
            have hrec := fun h => ih (as := as) (bs := bs) (xs := xs) (ys := ys) h (by simpa using l1) (by simpa using l2) (fun j p q => by have := r1 (j + 1) (by simpa using p) (by simpa using q); simp only [List.getElem_cons_succ] at this; exact this) (fun j p q => by have := r2 (j + 1) (by simpa using p) (by simpa using q); simp only [List.getElem_cons_succ] at this; exact this)
            cases k <;> cases a <;> cases b <;> (try (simp [lEq] at h; done))
            · simp only [lEq] at h
              obtain ⟨hk, h⟩ := ite_none_some h
              obtain ⟨rr, h1, h2⟩ := optmap_some h
              simp at h2
              obtain ⟨h2, rfl⟩ := h2
              obtain ⟨q1, q2⟩ := hrec h1
              subst hk h2 q2
              rw [ha.int_inv, hb.int_inv]
              cases d <;> simpa [Instr.sameBits] using q1
            · simp only [lEq] at h
              obtain ⟨rr, h1, h2⟩ := optmap_some h
              simp at h2
              obtain ⟨h2, rfl⟩ := h2
              obtain ⟨q1, q2⟩ := hrec h1
              subst h2 q2
              rw [ha.bool_inv, hb.bool_inv]
              cases d <;> simpa [Instr.sameBits] using q1
            · simp only [lEq] at h
              obtain ⟨rr, h1, h2⟩ := optmap_some h
              simp at h2
              obtain ⟨h2, rfl⟩ := h2
              obtain ⟨q1, q2⟩ := hrec h1
              rename_i s s'
              have hss : s = s' := by
                rw [ByteArray.toList_eq, ByteArray.toList_eq] at h2
                cases s; cases s'; simp at h2; exact congrArg _ h2
              subst hss q2
              rw [ha.str_inv, hb.str_inv]
              have hs : (s == s) = true := by rw [beq_toListBytes]; simp
              cases d <;> simpa [Instr.sameBits, hs] using q1

theorem keyEq_same {st : Bool} {ks : List LK} {a b : V} {x y : Value} (h : keyEq st ks a b = some true) (ha : VRel φ F a x) (hb : VRel φ F b y) :
    Instr.sameBits 10000 x y = true ∧ x = y := by
  unfold keyEq at h
  cases st with
  | true =>
    simp only [if_true] at h
    split at h
    · cases ha with
      | agg _ xs l ho hh => cases hb with
        | agg _ ys l2 ho2 hh2 =>
          obtain ⟨q1, q2⟩ := lEq_bits (φ := φ) (F := F) h (xs := xs.toList) (ys := ys.toList) (by simpa using l) (by simpa using l2) (fun j p q => by rw [Array.getElem_toList]; exact hh _ _ _) (fun j p q => by rw [Array.getElem_toList]; exact hh2 _ _ _) 9999
          have hxy : xs = ys := by apply Array.ext'; exact q2
          subst hxy
          refine ⟨?_, rfl⟩
          simp only [Instr.sameBits, beq_self_eq_true, Bool.true_and]
          exact q1
    · cases h
  | false =>
    simp only [Bool.false_eq_true, if_false] at h
    have one : ∀ {u : V} {z : Value}, VRel φ F u z → ∀ j (p : j < [u].length) (q : j < [z].length), VRel φ F [u][j] [z][j] := by
      intro u z hz j p q
      have : j = 0 := by simpa using p
      subst this; exact hz
    obtain ⟨q1, q2⟩ := lEq_bits (φ := φ) (F := F) h (xs := [x]) (ys := [y]) rfl rfl (one ha) (one hb) 10000
    exact ⟨by simpa using q1, by simpa using q2⟩

theorem findK_spec {st : Bool} {kd : List LK} {k : V} {keys : List V} : ∀ {i j : Nat}, findK st kd k keys i = some (some j) → i ≤ j ∧ ∃ (h : j - i < keys.length), keyEq st kd k keys[j - i] = some true := by
  induction keys with
  | nil => intro i j h; simp [findK] at h
  | cons a keys ih =>
    intro i j h
    simp only [findK] at h
    split at h
    · rename_i hq
      cases h
      refine ⟨Nat.le_refl _, by simp, ?_⟩
      simpa using hq
    · obtain ⟨g1, g2, g3⟩ := ih h
      refine ⟨by omega, by simp; omega, ?_⟩
      have : j - i = (j - (i + 1)) + 1 := by omega
      simp only [this, List.getElem_cons_succ]
      exact g3
    · cases h

theorem mupd_ok (S : Sim X n0 φ F H w) {T kt e : TypeId} {st : Bool} {kd : List LK} {m k u : V} {mx kx ux : Value} (hu : X.P.underlying T = some (.map kt e))
    (h1 : isAg X.P kt = some st) (h2 : leaves X.P 9 kt = some kd) (hm : VRel φ F m mx) (hk : VRel φ F k kx) (hx : VRel φ F u ux) {aid : Nat} (hma : m = .mp aid) {ks vs : List V} {bs : List Nat} {clk : Nat}
    (hH : H[aid]? = some (.map ks vs bs clk)) (hfit : keyFit st kd k = true) {res : Option Nat} (hf : findK st kd k ks 0 = some res) :
    ∃ w', (Instr.mapUpdate T mx kx ux).run X.P w = .ok () w' ∧
      Sim X n0 φ F (match res with | some i => H.set aid (.map ks (vs.set i u) bs clk) | none => H.set aid (.map (ks ++ [k]) (vs ++ [u]) (bs ++ [clk]) (clk + 1))) w' ∧ Ext n0 φ F w φ F w' := by
  subst hma
  cases hm with
  | mp _ b n hp =>
    obtain ⟨es, g1, g2, g3, g4, g5, g6, g7, g8, g9⟩ := live_map S hH hp
    have hgo : (getObj b).run X.P w = .ok (.map es clk) w := by simp [getObj, Sem.run, g1]
    have hset : ∀ o, (setObj b o).run X.P w = .ok () { w with heap := w.heap.setIfInBounds b o } := by intro o; simp [setObj, Sem.run, g1]
    obtain ⟨q1, q2⟩ := run_findKey (P := X.P) (w := w) h1 h2 hk hf (es := es.toList) (by simpa using g2) (fun j p q => by rw [Array.getElem_toList]; exact g5 _ _ _)
    have hck := checkKey_ok (P := X.P) h1 h2 hk hfit false w
    cases res with
    | some i =>
      have hil : i < es.size := by simpa using q2 i rfl
      have hq1 : (Instr.findKey kt kx es.toList).run X.P w = .ok (some (i, es[i].val)) w := by
        rw [q1]; simp [hil]
      obtain ⟨_, hjl, hkey⟩ := findK_spec hf
      simp only [Nat.sub_zero] at hjl hkey
      obtain ⟨hbits, hsame⟩ := keyEq_same hkey hk (g5 i hjl hil)
      have hst : (Instr.keyThatStays es[i].key kx).run X.P w = .ok kx w := by
        rw [← hsame] at hbits ⊢
        simp [Instr.keyThatStays, hbits]
      refine ⟨_, ?_, S.mapWrite hH hp (es' := es.modify i fun e => { e with key := kx, val := ux }) (by simpa using g2) (by simpa using g3) (by simpa using g4) ?_ ?_ ?_⟩
      · have hgk : ((es[i]?).map (·.key)).getD kx = es[i].key := by simp [hil]
        simp only [Instr.mapUpdate, Sem.run_bind, run_underlying hu, Result.andThen_ok, hgo, hck, hq1, hgk, hst, hset]
      · intro j p q
        simp only [Array.getElem_modify]
        have q' : j < es.size := by simpa using q
        split
        · rename_i hij
          subst hij
          show VRel φ F ks[i] kx
          rw [hsame]
          exact g5 i hjl hil
        · exact g5 j p q'
      · intro j p q
        simp only [Array.getElem_modify]
        have q' : j < es.size := by simpa using q
        have p' : j < vs.length := by simpa using p
        split
        · rename_i hij
          subst hij
          simpa using hx
        · rename_i hij
          rw [List.getElem_set_ne hij]
          exact g6 j p' q'
      · intro j p q
        simp only [Array.getElem_modify]
        have q' : j < es.size := by simpa using q
        split
        · exact g7 j p q'
        · exact g7 j p q'
    | none =>
      have hq1 : (Instr.findKey kt kx es.toList).run X.P w = .ok none w := by rw [q1]; rfl
      refine ⟨_, ?_, S.mapWrite hH hp (es' := es.push { key := kx, val := ux, born := clk }) (by simp [g2]) (by simp [g3]) (by simp [g4]) ?_ ?_ ?_⟩
      · simp only [Instr.mapUpdate, Sem.run_bind, run_underlying hu, Result.andThen_ok, hgo, hck, hq1, hset]
      · intro j p q
        rw [Array.getElem_push, List.getElem_append]
        by_cases hj : j < ks.length
        · rw [dif_pos hj, dif_pos (by omega)]; exact g5 j hj _
        · simp only [hj, dif_neg, not_false_eq_true, List.getElem_singleton]
          rw [dif_neg (by omega)]; exact hk
      · intro j p q
        rw [Array.getElem_push, List.getElem_append]
        by_cases hj : j < vs.length
        · rw [dif_pos hj, dif_pos (by omega)]; exact g6 j hj _
        · simp only [hj, dif_neg, not_false_eq_true, List.getElem_singleton]
          rw [dif_neg (by omega)]; exact hx
      · intro j p q
        rw [Array.getElem_push, List.getElem_append]
        by_cases hj : j < bs.length
        · rw [dif_pos hj, dif_pos (by omega)]; exact g7 j hj _
        · simp only [hj, dif_neg, not_false_eq_true, List.getElem_singleton]
          rw [dif_neg (by omega)]

theorem good_mupd {T : TypeId} {m k u : Operand} : Good X live slot ⟨dst, .mapUpdate T m k u, ty, pos, after, gd⟩ := by
  intro n0 φ F H w t ρ base r v H' S hρ hc he
  simp only [compOp] at hc
  split at hc
  · rename_i kt e hu
    split at hc
    · rename_i st kd am ak au h1 h2 h3 h4 h5
      cases hc
      simp only [exOp] at he
      split at he
      · rename_i aid hma
        split at he
        · rename_i ks vs bs clk hH
          obtain ⟨hfit, he⟩ := ite_none_some he
          split at he
          · rename_i i hf
            cases he
            obtain ⟨w', q1, q2, q3⟩ := mupd_ok S hu h1 h2 (hρ _ _ h3) (hρ _ _ h4) (hρ _ _ h5) hma hH hfit hf
            exact ⟨φ, F, w', .skip, Go.undef, by simp [execOp, q1], .inr ⟨rfl, rfl⟩, VRel.undef, q2, q3⟩
          · rename_i hf
            cases he
            obtain ⟨w', q1, q2, q3⟩ := mupd_ok S hu h1 h2 (hρ _ _ h3) (hρ _ _ h4) (hρ _ _ h5) hma hH hfit hf
            exact ⟨φ, F, w', .skip, Go.undef, by simp [execOp, q1], .inr ⟨rfl, rfl⟩, VRel.undef, q2, q3⟩
          · cases he
        · cases he
      · cases he
    · cases hc
  · cases hc

theorem good_insert {T : TypeId} {m k u : Operand} : Good X live slot ⟨dst, .insert T m k u, ty, pos, after, gd⟩ := by
  intro n0 φ F H w t ρ base r v H' S hρ hc he
  have := good_mupd (X := X) (live := live) (slot := slot) (dst := dst) (ty := ty) (pos := pos) (after := after) (gd := gd) (T := T) (m := m) (k := k) (u := u) n0 φ F H w t ρ base r v H' S hρ hc he
  exact this

end
end Go.Ai
end
section
namespace Go.Ai
open Go Go.RowKit

section
variable {X : Ctx} {n0 : Nat} {φ : Phi} {F : Fz} {H H' : Hp} {w : World} {t : List V} {ρ : Operand → Value} {live : Lo} {slot : Option Nat} {base : Nat} {v : V} {r : R}
variable {dst : Option Tmp} {ty : TypeId} {pos : String} {after : Array Edge} {gd : Option (Nat × Bool)}

theorem foldl_set (xs : List Value) : ∀ (cs : Array Value) (o k : Nat), o + k + xs.length ≤ cs.size →
    ((xs.zipIdx k).foldl (fun cs (p : Value × Nat) => cs.setIfInBounds (o + p.2) p.1) cs).size = cs.size ∧
    ∀ j, ((xs.zipIdx k).foldl (fun cs (p : Value × Nat) => cs.setIfInBounds (o + p.2) p.1) cs)[j]? = if o + k ≤ j ∧ j < o + k + xs.length then xs[j - (o + k)]? else cs[j]? := by
  induction xs with
  | nil => intro cs o k _; exact ⟨rfl, fun j => by rw [if_neg (by simp)]; rfl⟩
  | cons x xs ih =>
    intro cs o k h
    simp only [List.length_cons] at h
    simp only [List.zipIdx_cons, List.foldl_cons]
    obtain ⟨h1, h2⟩ := ih (cs.setIfInBounds (o + k) x) o (k + 1) (by simp; omega)
    refine ⟨by rw [h1]; simp, fun j => ?_⟩
    rw [h2 j, Array.getElem?_setIfInBounds]
    simp only [List.length_cons]
    by_cases e1 : j = o + k
    · subst e1
      rw [if_neg (by omega), if_pos rfl, if_pos (by omega), if_pos (by omega)]; simp
    · by_cases e2 : o + k ≤ j ∧ j < o + k + (xs.length + 1)
      · rw [if_pos (by omega), if_pos e2]
        have : j - (o + k) = (j - (o + (k + 1))) + 1 := by omega
        rw [this]; simp
      · rw [if_neg (by omega), if_neg e2, if_neg (Ne.symm e1)]

/-- rows of cells, related -/
def CRel (φ : Phi) (F : Fz) (cs : List V) (xs : Array Value) : Prop :=
  cs.length = xs.size ∧ ∀ j (a : j < cs.length) (b : j < xs.size), VRel φ F cs[j] xs[j] ∧ xs[j].oneCell' = true

theorem CRel.agg {cs : List V} {xs : Array Value} (h : CRel φ F cs xs) : VRel φ F (.agg cs) (.agg xs) :=
  .agg _ _ h.1 (fun j b => (h.2 j (by rw [h.1]; exact b) b).2) (fun j a b => (h.2 j a b).1)

theorem CRel.splice {cs us : List V} {xs ys : Array Value} {o : Nat} (h : CRel φ F cs xs) (k : CRel φ F us ys) (hle : o + us.length ≤ cs.length) :
    CRel φ F (splice cs o us) ((ys.toList.zipIdx 0).foldl (fun cs (p : Value × Nat) => cs.setIfInBounds (o + p.2) p.1) xs) := by
  have hl := h.1
  have kl := k.1
  obtain ⟨f1, f2⟩ := foldl_set ys.toList xs o 0 (by simp; omega)
  refine ⟨by rw [splice_len hle, f1, hl], fun j a b => ?_⟩
  have g1 := splice_get (j := j) hle
  have g2 := f2 j
  rw [List.getElem?_eq_getElem a] at g1
  rw [Array.getElem?_eq_getElem b] at g2
  simp only [Nat.add_zero, Array.length_toList] at g2
  by_cases hc : o ≤ j ∧ j < o + us.length
  · rw [if_pos hc, List.getElem?_eq_getElem (by omega)] at g1
    rw [if_pos (by omega), List.getElem?_eq_getElem (by simp; omega)] at g2
    rw [Option.some.inj g1, Option.some.inj g2, Array.getElem_toList]
    exact k.2 _ _ _
  · rw [if_neg hc, List.getElem?_eq_getElem (by rw [splice_len hle] at a; exact a)] at g1
    rw [if_neg (by omega), Array.getElem?_eq_getElem (by rw [f1] at b; exact b)] at g2
    rw [Option.some.inj g1, Option.some.inj g2]
    exact h.2 _ _ _

theorem vcells_rel {u : V} {x : Value} (h : VRel φ F u x) (ho : okv u = true) : CRel φ F u.cells x.cells := by
  obtain ⟨l, k⟩ := h.cells
  exact ⟨l, fun j a b => ⟨(k j a b).1, (k j a b).2 ho⟩⟩

/-- filling in parts -/
theorem fill_ok {place : Nat → Option (Nat × Nat)} {ps : List (Nat × Value)} : ∀ {qs : List (Nat × Nat × V)} {cs cs' : List V} {xs : Array Value}, qs.length = ps.length →
    (∀ j (a : j < qs.length) (b : j < ps.length), place ps[j].1 = some (qs[j].1, qs[j].2.1) ∧ VRel φ F qs[j].2.2 ps[j].2) → CRel φ F cs xs → fillV cs qs = some cs' →
    ∃ xs', Instr.fill place xs ps = some xs' ∧ CRel φ F cs' xs' := by
  induction ps with
  | nil =>
    intro qs cs cs' xs hl _ hc h
    obtain rfl : qs = [] := by cases qs <;> simp_all
    simp only [fillV] at h; cases h
    exact ⟨xs, rfl, hc⟩
  | cons p ps ih =>
    intro qs cs cs' xs hl hr hc h
    cases qs with
    | nil => simp at hl
    | cons q qs =>
      obtain ⟨o, n, u⟩ := q
      obtain ⟨i, x⟩ := p
      obtain ⟨h1, h2⟩ := hr 0 (by simp) (by simp)
      simp only [List.getElem_cons_zero] at h1 h2
      simp only [fillV] at h
      obtain ⟨⟨c1, c2, c3⟩, h⟩ := ite_none_some h
      have hu := vcells_rel h2 c3
      obtain ⟨xs', e1, e2⟩ := ih (by simpa using hl) (fun j a b => by have := hr (j + 1) (by simpa using a) (by simpa using b); simp only [List.getElem_cons_succ] at this; exact this) (hc.splice hu (by omega)) h
      refine ⟨xs', ?_, e2⟩
      have s1 : x.cells.size = n := by rw [← hu.1]; exact c1
      have s2 : ¬ (o + x.cells.size > xs.size) := by have := hc.1; omega
      have s2' : (decide (o + x.cells.size > xs.size)) = false := by simpa using s2
      simp only [Instr.fill, h1, s1, ne_eq, not_true_eq_false, decide_false, Bool.false_or]
      rw [s1] at s2'
      simp only [s2', Bool.false_eq_true, if_false]
      rw [← e1]
      congr 1
      rw [← Array.foldl_toList, Array.toList_zipIdx]

theorem run_places {P : Program} {l : List Field} (h : ∀ f ∈ l, (szOf P f.type).isSome = true) :
    (l.mapM (fun f => do pure (f.offset, ← sizeOf f.type) : Field → Sem (Nat × Nat))).run P w = .ok (l.map fun f => (f.offset, (szOf P f.type).getD 0)) w := by
  induction l with
  | nil => rfl
  | cons f l ih =>
    have hf := h f (List.mem_cons_self ..)
    obtain ⟨n, hn⟩ := Option.isSome_iff_exists.1 hf
    simp only [List.mapM_cons, Sem.run_bind, run_szOf hn, Result.andThen_ok, Sem.run_pure, ih (fun g hg => h g (List.mem_cons_of_mem _ hg)), List.map_cons, hn, Option.getD_some]

theorem good_build {T : TypeId} {ps : Array (Nat × Operand)} : Good X live slot ⟨dst, .build T ps, ty, pos, after, gd⟩ := by
  intro n0 φ F H w t ρ base r v H' S hρ hc he
  simp only [compOp] at hc
  split at hc
  · rename_i fs z hu hz
    split at hc
    · rename_i qs hqs
      obtain ⟨hall, hc⟩ := ite_none_some hc
      cases hc
      simp only [exOp] at he
      split at he
      · rename_i cs hcs
        cases he
        obtain ⟨zx, z1, z2⟩ := run_zeroOf hz w
        have z3 : VRel φ F (.agg z) zx := ofC_rel z2
        obtain ⟨zs, rfl, z4⟩ : ∃ zs, zx = .agg zs ∧ CRel φ F z zs := by
          cases z3 with
          | agg _ zs l ho hh => exact ⟨zs, rfl, l, fun j a b => ⟨hh j a b, ho j b⟩⟩
        obtain ⟨l1, k1⟩ := mapO_some hqs
        have hall' : ∀ f ∈ fs.toList, (szOf X.P f.type).isSome = true := List.all_eq_true.1 hall
        obtain ⟨xs', e1, e2⟩ := fill_ok (φ := φ) (F := F) (place := ((fs.toList.map fun f => (f.offset, (szOf X.P f.type).getD 0)).toArray[·]?)) (ps := (ps.map fun (i, x) => (i, ρ x)).toList)
          (qs := qs.map fun (o, n, x) => (o, n, evA t x)) (by simp [l1]) (by
            intro j a b
            simp only [List.length_map] at a
            have a' : j < ps.toList.length := by simpa using b
            have := k1 j a' a
            simp only [Array.toList_map, List.getElem_map]
            split at this
            · rename_i f x hf hx
              obtain ⟨n, hn, hq⟩ := optmap_some this
              rw [← hq]
              refine ⟨?_, hρ _ _ hx⟩
              have hlt := (Array.getElem?_eq_some_iff.1 hf).1
              have hfe := (Array.getElem?_eq_some_iff.1 hf).2
              simp only [List.getElem?_toArray, List.getElem?_map]
              rw [Array.getElem?_toList, hf]
              simp [hn]
            · cases this) z4 hcs
        refine .same S (x := .agg xs') ?_ e2.agg
        have hp : (fs.mapM (fun f => do pure (f.offset, ← sizeOf f.type) : Field → Sem (Nat × Nat))).run X.P w = .ok (fs.toList.map fun f => (f.offset, (szOf X.P f.type).getD 0)).toArray w := by
          rw [Array.mapM_eq_mapM_toList, Sem.run_map, run_places hall']; rfl
        simp only [execOp, Instr.build, Sem.run_bind, z1, Result.andThen_ok, run_underlying hu, hp]
        simp only [Value.cells, e1, Sem.run_pure, Result.andThen_ok]
      · cases he
    · cases hc
  · rename_i len e z hu hz
    split at hc
    · rename_i n hn
      split at hc
      · rename_i qs hqs
        cases hc
        simp only [exOp] at he
        split at he
        · rename_i cs hcs
          cases he
          obtain ⟨zx, z1, z2⟩ := run_zeroOf hz w
          have z3 : VRel φ F (.agg z) zx := ofC_rel z2
          obtain ⟨zs, rfl, z4⟩ : ∃ zs, zx = .agg zs ∧ CRel φ F z zs := by
            cases z3 with
            | agg _ zs l ho hh => exact ⟨zs, rfl, l, fun j a b => ⟨hh j a b, ho j b⟩⟩
          obtain ⟨l1, k1⟩ := mapO_some hqs
          obtain ⟨xs', e1, e2⟩ := fill_ok (φ := φ) (F := F) (place := fun i => some (i * n, n)) (ps := (ps.map fun (i, x) => (i, ρ x)).toList)
            (qs := qs.map fun (o, n, x) => (o, n, evA t x)) (by simp [l1]) (by
              intro j a b
              simp only [List.length_map] at a
              have a' : j < ps.toList.length := by simpa using b
              have := k1 j a' a
              simp only [Array.toList_map, List.getElem_map]
              obtain ⟨x, hx, hq⟩ := optmap_some this
              rw [← hq]
              exact ⟨rfl, hρ _ _ hx⟩) z4 hcs
          refine .same S (x := .agg xs') ?_ e2.agg
          simp only [execOp, Instr.build, Sem.run_bind, z1, Result.andThen_ok, run_underlying hu, run_szOf hn]
          simp only [Value.cells, e1, Sem.run_pure, Result.andThen_ok]
        · cases he
      · cases hc
    · cases hc
  · cases hc

/-- elements in their places -/
theorem fillE_ok {sh : Option Nat} {ps : List (Nat × Value)} : ∀ {qs : List (Nat × V)} {es es' : List V} {xs : Array Value}, qs.length = ps.length →
    (∀ j (a : j < qs.length) (b : j < ps.length), ps[j].1 = qs[j].1 ∧ VRel φ F qs[j].2 ps[j].2) → (∀ e ∈ es, fits sh e = true) → CRel φ F (cellsOf es) xs → fillE sh es qs = some es' →
    ∃ xs', Instr.fill (fun i => some (i * shz sh, shz sh)) xs ps = some xs' ∧ CRel φ F (cellsOf es') xs' ∧ (∀ e ∈ es', fits sh e = true) ∧ es'.length = es.length := by
  induction ps with
  | nil =>
    intro qs es es' xs hl _ hf hc h
    obtain rfl : qs = [] := by cases qs <;> simp_all
    simp only [fillE] at h; cases h
    exact ⟨xs, rfl, hc, hf, rfl⟩
  | cons p ps ih =>
    intro qs es es' xs hl hr hf hc h
    cases qs with
    | nil => simp at hl
    | cons q qs =>
      obtain ⟨i, u⟩ := q
      obtain ⟨i', x⟩ := p
      obtain ⟨h1, h2⟩ := hr 0 (by simp) (by simp)
      simp only [List.getElem_cons_zero] at h1 h2
      subst h1
      simp only [fillE] at h
      obtain ⟨⟨c1, c2⟩, h⟩ := ite_none_some h
      have hs' : ∀ e ∈ es, e.cells.length = shz sh := fun e he => fits_len (hf e he)
      have hul := fits_len c1
      have hu := vcells_rel h2 (fits_okv c1)
      have hf2 : ∀ e ∈ es.set i' u, fits sh e = true := by
        intro e he; rcases List.mem_or_eq_of_mem_set he with h1 | rfl
        · exact hf e h1
        · exact c1
      have hle : i' * shz sh + u.cells.length ≤ (cellsOf es).length := by
        rw [cellsOf_len hs', hul, ← Nat.succ_mul]; exact Nat.mul_le_mul_right _ c2
      have heq : cellsOf (es.set i' u) = splice (cellsOf es) (i' * shz sh) u.cells := by
        apply List.ext_getElem?
        intro j
        rw [cellsOf_set hs' c2 hul, splice_get hle, hul]
      obtain ⟨xs', e1, e2, e3, e4⟩ := ih (es := es.set i' u) (by simpa using hl) (fun j a b => by have := hr (j + 1) (by simpa using a) (by simpa using b); simp only [List.getElem_cons_succ] at this; exact this) hf2 (by rw [heq]; exact hc.splice hu hle) h
      refine ⟨xs', ?_, e2, e3, by simpa using e4⟩
      have s1 : x.cells.size = shz sh := by rw [← hu.1]; exact hul
      have s2 : ¬ (i' * shz sh + shz sh > xs.size) := by have := hc.1; omega
      have s2' : (decide (i' * shz sh + shz sh > xs.size)) = false := by simpa using s2
      simp only [Instr.fill, s1, ne_eq, not_true_eq_false, decide_false, Bool.false_or]
      simp only [s2', Bool.false_eq_true, if_false]
      rw [← e1]
      congr 1
      rw [← Array.foldl_toList, Array.toList_zipIdx]

theorem good_bsl {T : TypeId} {n : Nat} {ps : Array (Nat × Operand)} : Good X live slot ⟨dst, .buildSlice T n ps, ty, pos, after, gd⟩ := by
  intro n0 φ F H w t ρ base r v H' S hρ hc he
  simp only [compOp] at hc
  split at hc
  · rename_i e hu
    split at hc
    · rename_i sh z qs h1 h2 h3
      obtain ⟨hcond, hc⟩ := ite_none_some hc
      cases hc
      simp only [Bool.and_eq_true, decide_eq_true_eq] at hcond
      obtain ⟨⟨hf, hbig⟩, hpos⟩ := hcond
      simp only [exOp] at he
      split at he
      · rename_i es hes
        obtain ⟨zx, z1, z2⟩ := run_zeroOf h2 w
        have z3 : VRel φ F z zx := ofC_rel z2
        have hsz := (shOf_some h1).1
        have hxs : zx.cells.size = shz sh := by rw [← z3.cells.1]; exact fits_len hf
        obtain ⟨zr1, zr2⟩ := zero_rows hf z3 hpos n
        obtain ⟨l1, k1⟩ := mapO_some h3
        let cs0 := (Array.range (n * zx.cells.size)).map fun i => zx.cells[i % zx.cells.size]!
        obtain ⟨xs', e1, e2, e3, e4⟩ := fillE_ok (φ := φ) (F := F) (sh := sh) (ps := (ps.map fun (i, x) => (i, ρ x)).toList) (qs := qs.map fun (i, x) => (i, evA t x)) (es := List.replicate n z) (xs := cs0)
          (by simp [l1]) (by
            intro j a b
            simp only [List.length_map] at a
            have a' : j < ps.toList.length := by simpa using b
            have := k1 j a' a
            simp only [Array.toList_map, List.getElem_map]
            obtain ⟨x, hx, hq⟩ := optmap_some this
            rw [← hq]
            exact ⟨rfl, hρ _ _ hx⟩) (by intro e' he'; rw [List.eq_of_mem_replicate he']; exact hf) ⟨zr1, zr2⟩ hes
        have hlen : es.length = n := by rw [e4]; simp
        -- the run
        have hrun : (execOp ρ ⟨dst, .buildSlice T n ps, ty, pos, after, gd⟩).run X.P w = .ok (.value (.slice (some ⟨w.heap.size, 0, none⟩) n n)) { w with heap := w.heap.push (.cells xs' e (0, 0)) } := by
          have hcs0 : Instr.fill (fun i => some (i * shz sh, shz sh)) ((Array.range (n * shz sh)).map fun i => (if n * shz sh = 0 then #[] else zx.cells)[i % (if n * shz sh = 0 then #[] else zx.cells).size]!) (ps.map fun (i, x) => (i, ρ x)).toList = some xs' := by
            rw [← e1]
            congr 1
            by_cases hz : n * shz sh = 0
            · have e0 : Array.range 0 = #[] := rfl
              simp [cs0, hxs, hz, e0]
            · simp [cs0, hxs, hz]
          simp only [execOp, Instr.buildSlice, Sem.run_bind, run_underlying hu, Result.andThen_ok, run_szOf hsz]
          rw [if_neg (by omega)]
          by_cases hz : n * shz sh = 0
          · simp only [hz, if_true] at hcs0 ⊢
            simp only [Sem.run_bind, Sem.run_pure, Result.andThen_ok, hcs0]
            simp [newRow]
          · simp only [hz, if_false] at hcs0 ⊢
            simp only [Sem.run_bind, z1, Sem.run_pure, Result.andThen_ok, hcs0]
            simp [newRow]
        split at he
        · -- frozen at once
          cases he
          let F' : Fz := fun b => if b = w.heap.size then some (.cells xs'.toList) else F b
          have hF : F.le F' := by
            intro b x h
            have : b ≠ w.heap.size := by intro e; subst e; rw [S.fresh_F] at h; simp at h
            simp [F', this, h]
          refine ⟨φ, F', _, _, _, hrun, .inl rfl, ?_, S.frozen_new xs' e, Phi.le.refl _, hF, below_push _ _ _ S.sz, ?_⟩
          · have hx : ∀ j, j < (cellsOf es).length → fcell F' w.heap.size (0 + j) = some (xs'[j]!) := by
              intro j hj
              have : j < xs'.size := by rw [← e2.1]; exact hj
              simp [fcell, F', this]
            have := fsl_drop (φ := φ) (F := F') (sh := sh) (es := es) (b := w.heap.size) (off := 0) (cap := n) (x := fun j => xs'[j]!) hx
              (fun j hj => by
                have hj' : j < xs'.size := by rw [← e2.1]; exact hj
                simp only [getElem!_pos, hj']; exact (e2.2 j hj hj').2) e3
              (fun j hj => by
                have hj' : j < xs'.size := by rw [← e2.1]; exact hj
                simp only [getElem!_pos, hj']; exact ((e2.2 j hj hj').1).mono (Phi.le.refl _) hF) (l := 0) (n := n) (by omega) (Nat.le_refl _)
            simp only [List.drop_zero, Nat.zero_mul, Nat.add_zero] at this
            rw [List.take_of_length_le (by omega)] at this
            exact this
          · intro k hk
            have : k ≠ w.heap.size := by have := S.sz; omega
            simp [F', this]
        · rename_i sl
          split at he
          · rename_i a H1 hn
            cases he
            obtain ⟨φ', p1, p2, p3⟩ := S.new hn trivial (.cells xs' e (0, 0)) xs'.size (arr_rel e3 (Nat.le_of_eq e2.1) e2.2)
            refine ⟨φ', F, _, _, _, hrun, .inl rfl, ?_, p2, p3⟩
            have hcl : (cellsOf es).length = n * shz sh := by rw [cellsOf_len (fun e he => fits_len (e3 e he)), hlen]
            have := VRel.sl (F := F) a sh 0 n n (some n) w.heap.size xs'.size n (by simpa [Ob.key, hlen] using p1) (by omega) ⟨rfl, by omega, by omega⟩ (by have := e2.1; rw [hcl] at this; simp; omega)
            simpa using this
          · cases he
      · cases he
    · cases hc
  · cases hc

end
end Go.Ai
end
section
namespace Go.Ai
open Go Go.RowKit

section
variable {X : Ctx} {n0 : Nat} {φ : Phi} {F : Fz} {H H' : Hp} {w : World} {t : List V} {ρ : Operand → Value} {live : Lo} {slot : Option Nat} {base : Nat} {v : V} {r : R}
variable {dst : Option Tmp} {ty : TypeId} {pos : String} {after : Array Edge} {gd : Option (Nat × Bool)}

/-- a live array goes over into a new block, with more elements -/
theorem Sim.moved (S : Sim X n0 φ F H w) {a : Nat} {sh : Option Nat} {es es' : List V} (h : H[a]? = some (.arr sh es)) (hlt : es.length < es'.length) {cs : Array Value} {T : TypeId}
    (hO : ORel X φ F (.arr sh es') cs.size (.cells cs T (0, 0))) (d : Nat) :
    ∃ φ', φ' a es'.length = some (w.heap.size, cs.size) ∧ Sim X n0 φ' F (H.set a (.arr sh es')) { w with heap := w.heap.push (.cells cs T (0, 0)), drawn := d } ∧
      Ext n0 φ F w φ' F { w with heap := w.heap.push (.cells cs T (0, 0)), drawn := d } := by
  have hno := fun e => S.fut a sh es e h
  let φ' : Phi := fun a' e => if a' = a ∧ e = es'.length then some (w.heap.size, cs.size) else φ a' e
  have hle : φ.le φ' := by
    intro a' e x hx
    have : ¬(a' = a ∧ e = es'.length) := by rintro ⟨rfl, rfl⟩; rw [hno _ hlt] at hx; cases hx
    simp [φ', this, hx]
  have hal : a < H.length := (List.getElem?_eq_some_iff.1 h).1
  refine ⟨φ', by simp [φ'], ?_, hle, Fz.le.refl _, ⟨rfl, rfl, rfl, by simp, fun k hk => by
    show (w.heap.push _)[k]? = _
    rw [Array.getElem?_push, if_neg (by have := S.sz; omega)]⟩, fun _ _ => rfl⟩
  refine S.update (a := a) (b := w.heap.size) (n := cs.size) (o' := .arr sh es') (c := .cells cs T (0, 0)) (by simp [hal]) (fun a' ha => by simp [Ne.symm ha]) (by show (w.heap.push _)[_]? = _; simp) ?_ (by simp) hle (by simp [φ', Ob.key]) ?_ S.sz S.fresh_F ?_ (hO.mono hle (Fz.le.refl _)) trivial ?_ (fun _ _ e => by cases e)
  · intro k hk hlt'
    show (w.heap.push _)[k]? = _
    rw [Array.getElem?_push, if_neg (by omega)]
  · intro a' e hx
    apply Classical.byContradiction; intro hn
    exact hx (by simp only [Ob.key] at hn; simp [φ', hn])
  · intro a' o' n' _ ho hlo hp
    obtain ⟨b', m, c, g1, g2, g3, g4, _⟩ := S.obj a' o' ho hlo
    rw [hp] at g1; cases g1
    exact absurd (heap_lt g4) (by omega)
  · intro e he
    simp only [Ob.key] at he
    exact .inl (hno e (by omega))

theorem Sim.drawn (S : Sim X n0 φ F H w) (d : Nat) : Sim X n0 φ F H { w with drawn := d } := S.world rfl

/-- elements that are read -/
theorem elems_view (S : Sim X n0 φ F H w) {u : V} {y : Value} {sh : Option Nat} {us : List V} (h : elems H u = some (sh, us)) (hne : us ≠ []) (hv : VRel φ F u y) :
    ∃ b off cap, y = .slice (some ⟨b, off, none⟩) us.length cap ∧ View φ F w b off us ∧ (∀ e ∈ us, fits sh e = true) := by
  unfold elems at h
  split at h
  · cases h; exact absurd rfl hne
  · cases h; exact absurd rfl hne
  · cases h
    generalize hy : y = z at hv
    cases hv with
    | fsl _ _ b off cap x hl hF ho hs hh => exact ⟨b, off, cap, rfl, fptr_view S hF ho hh, hs⟩
  · rename_i a sh' i n e c
    split at h
    · rename_i es hes
      cases h
      have hn : 0 < n := by
        apply Classical.byContradiction; intro h0
        obtain rfl : n = 0 := by omega
        simp at hne
      obtain ⟨b, m, cap, p1, p2, p3⟩ := sl_inv hv hn
      obtain ⟨cs, T', k1, k2, k3, k4, k5, _⟩ := live_arr S hes p1
      obtain ⟨g1, g2⟩ := arrAt_some hes
      have hlen : ((es.drop i).take n).length = n := by simp; omega
      have hs' : ∀ e ∈ es, e.cells.length = shz sh := fun e he => fits_len (k3 e he)
      have hsub : ∀ e ∈ (es.drop i).take n, e ∈ es := fun e he => List.mem_of_mem_drop (List.mem_of_mem_take he)
      have hs2 : ∀ e ∈ (es.drop i).take n, e.cells.length = shz sh := fun e he => hs' e (hsub e he)
      have hc2 : (cellsOf ((es.drop i).take n)).length = n * shz sh := by rw [cellsOf_len hs2, hlen]
      refine ⟨b, i * shz sh, cap, by rw [hlen]; exact p3, ?_, fun e he => k3 e (hsub e he)⟩
      intro j hj
      have hpos : 0 < shz sh := by
        apply Classical.byContradiction; intro h0
        have : shz sh = 0 := by omega
        rw [hc2, this] at hj; omega
      have hm := Nat.mod_lt j hpos
      have hjj : j = j / shz sh * shz sh + j % shz sh := by rw [Nat.mul_comm]; exact (Nat.div_add_mod j _).symm
      have hq : j / shz sh < n := by rw [Nat.div_lt_iff_lt_mul hpos]; omega
      have e1 := cellsOf_get hs2 (i := j / shz sh) hm
      have e2 := cellsOf_get hs' (i := i + j / shz sh) hm
      rw [← hjj, List.getElem?_eq_getElem hj, List.getElem?_take_of_lt hq, List.getElem?_drop] at e1
      have e3 : (i + j / shz sh) * shz sh + j % shz sh = i * shz sh + j := by rw [Nat.add_mul]; omega
      rw [e3, ← e1] at e2
      obtain ⟨hj2, he2⟩ := List.getElem?_eq_some_iff.1 e2
      obtain ⟨z, z1, z2, z3⟩ := k5 _ hj2
      rw [he2] at z2
      exact ⟨z, by rw [Nat.zero_add] at z1; exact z1, z2, z3⟩
    · cases h
  · cases h

/-- reading all cells that a reader sees -/
theorem view_cells {b off : Nat} {us : List V} (h : View φ F w b off us) (P : Program) :
    ∃ ys : Array Value, (loadCells ⟨b, off, none⟩ (cellsOf us).length).run P w = .ok ys w ∧ CRel φ F (cellsOf us) ys := by
  have hx : ∃ x : Nat → Value, ∀ j (hj : j < (cellsOf us).length), w.cell? ⟨b, off + j, none⟩ = some (x j) ∧ VRel φ F (cellsOf us)[j] (x j) ∧ (x j).oneCell' = true :=
    ⟨fun j => if hj : j < (cellsOf us).length then (h j hj).choose else .nilFunc, fun j hj => by simp only [hj, dif_pos]; exact (h j hj).choose_spec⟩
  obtain ⟨x, hx⟩ := hx
  refine ⟨_, run_loadCells (fun j hj => (hx j hj).1), by simp, fun j a b => ?_⟩
  simp only [List.getElem_toArray, List.getElem_map, List.getElem_range]
  exact (hx j a).2

theorem growBy_le (n c r : Nat) (h : c ≤ 2 * n + 200) : Builtin.growBy n r c ≤ 2 * n + 200 := by
  induction r generalizing c with
  | zero => exact h
  | succ r ih =>
    unfold Builtin.growBy
    split
    · exact h
    · exact ih _ (by omega)

theorem nextcap_le (n c : Nat) (h : c < n) : Builtin.nextslicecap n c ≤ 2 * n + 512 := by
  unfold Builtin.nextslicecap
  split
  · omega
  · split
    · omega
    · have := growBy_le n c 4 (by omega); omega

/-- the elements behind an append, in a block of its own -/
theorem append_cells {P : Program} {e : TypeId} {sh : Option Nat} {old new : List V} {os ns : Array Value} (ho : CRel φ F (cellsOf old) os) (hn : CRel φ F (cellsOf new) ns)
    (h1 : ∀ e ∈ old, fits sh e = true) (h2 : ∀ e ∈ new, fits sh e = true) (rest : Array Value) (T : TypeId) :
    ORel X φ F (.arr sh (old ++ new)) (os ++ ns ++ rest).size (.cells (os ++ ns ++ rest) T (0, 0)) := by
  refine arr_rel (fun e he => (List.mem_append.1 he).elim (h1 e) (h2 e)) ?_ ?_
  · have := ho.1; have := hn.1
    simp [cellsOf] at *; omega
  · intro j a b
    have hc : cellsOf (old ++ new) = cellsOf old ++ cellsOf new := by simp [cellsOf]
    simp only [hc] at a ⊢
    have l1 := ho.1
    have l2 := hn.1
    rw [List.length_append] at a
    by_cases hj : j < (cellsOf old).length
    · rw [List.getElem_append_left hj]
      have : (os ++ ns ++ rest)[j] = os[j]'(by omega) := by
        rw [Array.getElem_append_left (by simp; omega), Array.getElem_append_left (by omega)]
      rw [this]; exact ho.2 _ _ _
    · rw [List.getElem_append_right (by omega)]
      have : (os ++ ns ++ rest)[j] = ns[j - (cellsOf old).length]'(by omega) := by
        rw [Array.getElem_append_left (by simp; omega), Array.getElem_append_right (by omega)]
        simp only [l1]
      rw [this]; exact hn.2 _ _ _

/-- what append comes to, once the two kinds of its second argument are told apart -/
structure AppArg (P : Program) (w : World) (ty : TypeId) (tys : Array TypeId) (args : Array Value) (e : TypeId) (sz k : Nat) (s : Value) (ns : Array Value) : Prop where
  /-- in place -/
  inplace : ∀ base sLen sCap, s = .slice base sLen sCap → sLen + k ≤ sCap → ∀ w', (match base with | some a => storeCells (a.add (sLen * sz)) ns.toList | none => (pure () : Sem Unit)).run P w = .ok () w' →
    (Builtin.append_ tys ty args).run P w = .ok (.slice base (sLen + k) sCap) w'
  /-- anew -/
  anew : ∀ base sLen sCap, s = .slice base sLen sCap → sCap < sLen + k → ((2 * (sLen + k) + 512) * (((P.info? e).map (·.bytes)).getD 0) ≤ 2 ^ 48) → (sLen + k : Int) ≤ 2 ^ 62 →
    ∀ os, (∀ d, (Builtin.firstCells sz sLen s).run P { w with drawn := d } = .ok os { w with drawn := d }) →
    ∃ rest newCap d, sLen + k ≤ newCap ∧ (os ++ ns ++ rest).size = os.size + ns.size + (newCap - (sLen + k)) * sz ∧
      (Builtin.append_ tys ty args).run P w = .ok (.slice (some ⟨w.heap.size, 0, none⟩) (sLen + k) newCap) { w with heap := w.heap.push (.cells (os ++ ns ++ rest) e (0, 0)), drawn := d }

theorem zeroCells_size (z : Array Value) (n : Nat) : (Builtin.zeroCells z n).size = n * z.size := by simp [Builtin.zeroCells]

theorem appArg_slice {P : Program} {ts tx e e' : TypeId} {sz k : Nat} {s : Value} {xa : Option Addr} {xc : Nat} {ns : Array Value} {inf : TypeInfo} {zx : Value}
    (h1 : P.underlying ts = some (.slice e)) (h2 : P.underlying tx = some (.slice e')) (hsz : szOf P e = some sz) (hi : P.info? e = some inf) (hz : inf.zero = some zx) (hzs : zx.cells.size = sz)
    (hn : ∀ d, (Builtin.firstCells sz k (.slice xa k xc)).run P { w with drawn := d } = .ok ns { w with drawn := d }) :
    AppArg P w ty #[ts, tx] #[s, .slice xa k xc] e sz k s ns := by
  have hinfo : ∀ w, (typeInfo e).run P w = .ok inf w := fun w => by simp [typeInfo, hi]
  have hzero : ∀ w, (zeroValue e).run P w = .ok zx w := fun w => by simp [zeroValue, typeInfo, hi, hz]
  constructor
  · rintro base sLen sCap rfl hle w' hst
    have hn : (Builtin.firstCells sz k (.slice xa k xc)).run P w = .ok ns w := hn w.drawn
    have hlen : (Builtin.lenOf (.slice xa k xc)).run P w = .ok k w := rfl
    simp only [Builtin.append_, List.size_toArray, List.length_cons, List.length_nil, Nat.reduceAdd, Nat.zero_lt_succ, getElem?_pos, List.getElem_toArray, List.getElem_cons_zero, Nat.lt_add_one, List.getElem_cons_succ,
      Sem.run_bind, run_underlying h1, Result.andThen_ok, run_szOf hsz, run_underlying h2, Sem.run_pure]
    cases base with
    | none =>
      cases hst
      simp [hlen, hn, hle]
    | some a =>
      simp only at hst
      simp [hlen, hn, hle, hst]
  · rintro base sLen sCap rfl hlt hb hbig os hos
    have hlen : (Builtin.lenOf (.slice xa k xc)).run P w = .ok k w := rfl
    rw [hi] at hb
    simp only [Option.map_some, Option.getD_some] at hb
    have hnc := nextcap_le (sLen + k) sCap hlt
    have hroom : ¬ (Builtin.nextslicecap (sLen + k) sCap * inf.bytes > 2 ^ 48) := by
      have := Nat.mul_le_mul_right inf.bytes hnc; omega
    have hq : (Question.appendCap (sLen + k) sCap e).forced = false := rfl
    have hmax : ¬ (((sLen + k : Nat) : Int) > IntKind.i64.max) := by simp [IntKind.max, IntKind.signed, IntKind.bits]; omega
    let q := Question.appendCap (sLen + k) sCap e
    let newCap := q.cut (w.tape w.drawn q)
    refine ⟨Builtin.zeroCells zx.cells (newCap - (sLen + k)), newCap, w.drawn + 1, ?_, ?_, ?_⟩
    · show sLen + k ≤ (sLen + k) + _; omega
    · simp [zeroCells_size, hzs, Nat.add_assoc]
    · have hos' := hos (w.drawn + 1)
      have hn' := hn (w.drawn + 1)
      have hnot : ¬ (sLen + k ≤ sCap) := by omega
      simp only [Builtin.append_, List.size_toArray, List.length_cons, List.length_nil, Nat.reduceAdd, Nat.zero_lt_succ, getElem?_pos, List.getElem_toArray, List.getElem_cons_zero, Nat.lt_add_one, List.getElem_cons_succ,
        Sem.run_bind, run_underlying h1, Result.andThen_ok, run_szOf hsz, run_underlying h2, Sem.run_pure]
      simp only [Bool.false_eq_true, if_false, hlen, Result.andThen_ok, hnot, Sem.run_bind, hinfo, hmax, false_and, hroom, run_choose, hq, run_askRoom, hos', hn', Bool.not_false, if_true, hzero, newRow, run_newObj, Sem.run_pure]
      rfl

/-- append(s, make([]T, k)...) -/
theorem appArg_make {P : Program} {ts tx e : TypeId} {sz k : Nat} {s : Value} {inf : TypeInfo} {zx : Value}
    (h1 : P.underlying ts = some (.slice e)) (h2 : P.underlying tx = some (.int .i64)) (hsz : szOf P e = some sz) (hi : P.info? e = some inf) (hz : inf.zero = some zx) (hzs : zx.cells.size = sz)
    (hk : 0 < k * sz) (hkb : k * inf.bytes ≤ 2 ^ 47) (hk2 : k < 2 ^ 62) :
    AppArg P w ty #[ts, tx] #[s, .int .i64 k] e sz k s (Builtin.zeroCells zx.cells k) := by
  have hinfo : ∀ w, (typeInfo e).run P w = .ok inf w := fun w => by simp [typeInfo, hi]
  have hzero : ∀ w, (zeroValue e).run P w = .ok zx w := fun w => by simp [zeroValue, typeInfo, hi, hz]
  have hw : IntKind.i64.wrap (k : Int) = k := IntWalk.i64_in _ (by omega)
  have t1 : ¬ ((k : Int) < 0) := by omega
  have t2 : ¬ ((k : Int) * (inf.bytes : Int) > 2 ^ 48) := by
    have : ((k * inf.bytes : Nat) : Int) ≤ ((2 ^ 47 : Nat) : Int) := by exact_mod_cast hkb
    rw [Int.natCast_mul] at this; omega
  have t3 : ¬ (k * sz = 0) := by omega
  constructor
  · rintro base sLen sCap rfl hle w' hst
    simp only [Builtin.append_, List.size_toArray, List.length_cons, List.length_nil, Nat.reduceAdd, Nat.zero_lt_succ, getElem?_pos, List.getElem_toArray, List.getElem_cons_zero, Nat.lt_add_one, List.getElem_cons_succ,
      Sem.run_bind, run_underlying h1, Result.andThen_ok, run_szOf hsz, run_underlying h2, Sem.run_pure]
    simp only [if_true, Bool.not_true, Bool.false_eq_true, if_false, asInt, asIntOf, Sem.run_bind, Sem.run_pure, Result.andThen_ok, hw, t1, hinfo, t2, Int.toNat_natCast, t3, hle, hzero]
    cases base with
    | none => cases hst; simp
    | some a => simp only at hst; simp [hst]
  · rintro base sLen sCap rfl hlt hb hbig os hos
    rw [hi] at hb
    simp only [Option.map_some, Option.getD_some] at hb
    have hnc := nextcap_le (sLen + k) sCap hlt
    have hroom : ¬ (Builtin.nextslicecap (sLen + k) sCap * inf.bytes > 2 ^ 48) := by
      have := Nat.mul_le_mul_right inf.bytes hnc; omega
    have hq : (Question.appendCap (sLen + k) sCap e).forced = false := rfl
    have hmax : ¬ (((sLen + k : Nat) : Int) > IntKind.i64.max) := by simp [IntKind.max, IntKind.signed, IntKind.bits]; omega
    let q := Question.appendCap (sLen + k) sCap e
    let newCap := q.cut (w.tape w.drawn q)
    refine ⟨Builtin.zeroCells zx.cells (newCap - (sLen + k)), newCap, w.drawn + 1, ?_, ?_, ?_⟩
    · show sLen + k ≤ (sLen + k) + _; omega
    · simp [zeroCells_size, hzs, Nat.add_assoc]
    · have hos' := hos (w.drawn + 1)
      have hnot : ¬ (sLen + k ≤ sCap) := by omega
      simp only [Builtin.append_, List.size_toArray, List.length_cons, List.length_nil, Nat.reduceAdd, Nat.zero_lt_succ, getElem?_pos, List.getElem_toArray, List.getElem_cons_zero, Nat.lt_add_one, List.getElem_cons_succ,
        Sem.run_bind, run_underlying h1, Result.andThen_ok, run_szOf hsz, run_underlying h2, Sem.run_pure]
      simp only [if_true, Bool.not_true, Bool.false_eq_true, if_false, asInt, asIntOf, Sem.run_bind, Sem.run_pure, Result.andThen_ok, hw, t1, hinfo, t2, Int.toNat_natCast, t3, hnot, hmax, false_and, hroom, run_choose, hq, run_askRoom, hos', hzero, newRow, run_newObj]
      rfl

theorem cellsOf_append (a b : List V) : cellsOf (a ++ b) = cellsOf a ++ cellsOf b := by simp [cellsOf]

theorem cellsOf_splice {sz : Nat} {es xs : List V} {k : Nat} (h1 : ∀ e ∈ es, e.cells.length = sz) (h2 : ∀ e ∈ xs, e.cells.length = sz) (hle : k + xs.length ≤ es.length) :
    cellsOf (splice es k xs) = splice (cellsOf es) (k * sz) (cellsOf xs) := by
  have ht : ∀ (l : List V) n, (∀ e ∈ l, e.cells.length = sz) → cellsOf (l.take n) = (cellsOf l).take (n * sz) := by
    intro l
    induction l with
    | nil => intro n _; simp [cellsOf]
    | cons x l ih =>
      intro n hl
      cases n with
      | zero => simp [cellsOf]
      | succ n =>
        have hx := hl x (List.mem_cons_self ..)
        rw [List.take_succ_cons, cellsOf_cons, cellsOf_cons, ih n (fun e he => hl e (List.mem_cons_of_mem _ he)), Nat.succ_mul, Nat.add_comm, List.take_append]
        have e1 : x.cells.take (sz + n * sz) = x.cells := List.take_of_length_le (by omega)
        have e2 : sz + n * sz - x.cells.length = n * sz := by omega
        rw [e1, e2]
  have hd : ∀ (l : List V) n, (∀ e ∈ l, e.cells.length = sz) → cellsOf (l.drop n) = (cellsOf l).drop (n * sz) := by
    intro l
    induction l with
    | nil => intro n _; simp [cellsOf]
    | cons x l ih =>
      intro n hl
      cases n with
      | zero => simp [cellsOf]
      | succ n =>
        have hx := hl x (List.mem_cons_self ..)
        rw [List.drop_succ_cons, cellsOf_cons, ih n (fun e he => hl e (List.mem_cons_of_mem _ he)), Nat.succ_mul, Nat.add_comm, List.drop_append]
        have e1 : x.cells.drop (sz + n * sz) = [] := List.drop_of_length_le (by omega)
        have e2 : sz + n * sz - x.cells.length = n * sz := by omega
        rw [e1, e2]; rfl
  unfold splice
  rw [cellsOf_append, cellsOf_append, ht es k h1, hd es _ h1, Nat.add_mul, cellsOf_len h2]

theorem firstCells_nil {P : Program} {sz : Nat} {cap : Nat} {base : Option Addr} : (Builtin.firstCells sz 0 (.slice base 0 cap)).run P w = .ok #[] w := by
  cases base <;> simp [Builtin.firstCells, loadCells, loadCellsFrom]

theorem view_firstCells {b off cap n : Nat} {us : List V} {sh : Option Nat} (hv : View φ F w b off us) (hs : ∀ e ∈ us, fits sh e = true) (hl : us.length = n) (P : Program) :
    ∃ ys : Array Value, (∀ d, (Builtin.firstCells (shz sh) n (.slice (some ⟨b, off, none⟩) n cap)).run P { w with drawn := d } = .ok ys { w with drawn := d }) ∧ CRel φ F (cellsOf us) ys := by
  have hc : (cellsOf us).length = n * shz sh := by rw [cellsOf_len (fun e he => fits_len (hs e he)), hl]
  have hx : ∃ x : Nat → Value, ∀ j (hj : j < (cellsOf us).length), w.cell? ⟨b, off + j, none⟩ = some (x j) ∧ VRel φ F (cellsOf us)[j] (x j) ∧ (x j).oneCell' = true :=
    ⟨fun j => if hj : j < (cellsOf us).length then (hv j hj).choose else .nilFunc, fun j hj => by simp only [hj, dif_pos]; exact (hv j hj).choose_spec⟩
  obtain ⟨x, hx⟩ := hx
  refine ⟨((List.range (cellsOf us).length).map x).toArray, fun d => ?_, by simp, fun j a b => ?_⟩
  · simp only [Builtin.firstCells, ← hc]
    exact run_loadCells (w := { w with drawn := d }) (fun j hj => (hx j hj).1)
  · simp only [List.getElem_toArray, List.getElem_map, List.getElem_range]
    exact (hx j a).2

theorem appL_ok (S : Sim X n0 φ F H w) {tys : Array TypeId} {args : Array Value} {e : TypeId} {sh : Option Nat} {bytes : Nat} {sv : V} {s : Value} {xs : List V} {ns : Array Value}
    (hA : AppArg X.P w ty tys args e (shz sh) xs.length s ns) (hb : (X.P.info? e).map (·.bytes) = some bytes) (hbs : bytes < 1048576) (hne : xs ≠ []) (hxs : ∀ e ∈ xs, fits sh e = true) (hns : CRel φ F (cellsOf xs) ns)
    (hs : VRel φ F sv s) (he : exAppL H sh bytes sv xs = some (v, H')) :
    ∃ φ' w' x, (Builtin.append_ tys ty args).run X.P w = .ok x w' ∧ VRel φ' F v x ∧ Sim X n0 φ' F H' w' ∧ Ext n0 φ F w φ' F w' := by
  have hk : 0 < xs.length := List.length_pos_iff.2 hne
  have hxl : ∀ e ∈ xs, e.cells.length = shz sh := fun e he => fits_len (hxs e he)
  have hcx : (cellsOf xs).length = xs.length * shz sh := cellsOf_len hxl
  have hbounds : ∀ m, m * (bytes + 1) < 2 ^ 46 → (2 * m + 512) * (((X.P.info? e).map (·.bytes)).getD 0) ≤ 2 ^ 48 ∧ (m : Int) ≤ 2 ^ 62 := by
    intro m hm
    rw [hb]
    simp only [Option.getD_some]
    have h1 : m * bytes ≤ m * (bytes + 1) := Nat.mul_le_mul_left _ (by omega)
    have h2 : m * 1 ≤ m * (bytes + 1) := Nat.mul_le_mul_left _ (by omega)
    have h3 : (2 * m + 512) * bytes = 2 * (m * bytes) + 512 * bytes := by rw [Nat.add_mul, Nat.mul_assoc]
    omega
  unfold exAppL at he
  split at he
  · -- nil
    obtain ⟨hlt, he⟩ := ite_none_some he
    cases he
    cases hs
    obtain ⟨b1, b2⟩ := hbounds _ hlt
    obtain ⟨rest, nc, d, r1, r2, r3⟩ := hA.anew none 0 0 rfl (by omega) (by simpa using b1) (by simpa using b2) #[] (fun d => firstCells_nil)
    have hO := append_cells (X := X) (φ := φ) (F := F) (old := []) (new := xs) (os := #[]) (ns := ns) ⟨rfl, fun j a => absurd a (by simp [cellsOf])⟩ hns (by simp) hxs rest e (P := X.P) (e := e) (sh := sh)
    simp only [List.nil_append] at hO
    have S1 : Sim X n0 φ F H { w with drawn := d } := S.drawn d
    obtain ⟨φ', p1, p2, p3⟩ := S1.new (base := 0) (slot := none) (o := .arr sh xs) rfl trivial (.cells (#[] ++ ns ++ rest) e (0, 0)) (#[] ++ ns ++ rest).size hO
    refine ⟨φ', _, _, r3, ?_, p2, ⟨p3.p, p3.f, ⟨p3.b.os, p3.b.tape, p3.b.output, p3.b.size, p3.b.block⟩, p3.n⟩⟩
    have hsz : (#[] ++ ns ++ rest).size = nc * shz sh := by
      rw [r2]; have := hns.1; rw [hcx] at this
      simp only [List.size_toArray, List.length_nil, Nat.zero_add, ← this, ← Nat.add_mul]; congr 1; omega
    have := VRel.sl (F := F) H.length sh 0 xs.length xs.length none w.heap.size _ nc p1 (by omega) (by simp only; omega) (by rw [hsz]; simp)
    simpa using this
  · rename_i aid sh' i n e' c
    split at he
    · cases he
    · rename_i es hes
      obtain ⟨⟨hsh, hlt⟩, he⟩ := ite_none_some he
      subst hsh
      obtain ⟨b1, b2⟩ := hbounds _ hlt
      obtain ⟨g1, g2⟩ := warrAt_some hes
      -- the old cells, and what is written in place
      have live : ∀ b m, φ aid e' = some (b, m) → ∃ cs T, w.heap[b]? = some (.cells cs T (0, 0)) ∧ cs.size = m ∧ (∀ e ∈ es, fits sh' e = true) ∧ (cellsOf es).length ≤ cs.size ∧ View φ F w b 0 es :=
        fun b m hp => by obtain ⟨cs, T', k1, k2, k3, k4, k5, _⟩ := live_warr S hes hp; exact ⟨cs, T', k1, k2, k3, k4, k5⟩
      have hfits : ∀ e ∈ es, fits sh' e = true := by
        obtain ⟨b, m, c', q1, q2, q3, q4, cs, T, _, _, q5, _⟩ := S.obj aid _ g1 trivial
        exact q5
      have hel : ∀ e ∈ es, e.cells.length = shz sh' := fun e he => fits_len (hfits e he)
      have hce : (cellsOf es).length = es.length * shz sh' := cellsOf_len hel
      have inplace : ∀ b m cap es', φ aid e' = some (b, m) → s = .slice (some ⟨b, i * shz sh', none⟩) n cap → n + xs.length ≤ cap → (i + cap) * shz sh' ≤ m → (∀ e ∈ es', fits sh' e = true) → es.length ≤ es'.length → es'.length ≤ i + n + xs.length ∨ es'.length = es.length → i + n + xs.length ≤ es'.length →
          (∀ j, j < (cellsOf es').length → (cellsOf es')[j]? = if (i + n) * shz sh' ≤ j ∧ j < (i + n) * shz sh' + (cellsOf xs).length then (cellsOf xs)[j - (i + n) * shz sh']? else (cellsOf es)[j]?) →
          ∃ φ' w', (Builtin.append_ tys ty args).run X.P w = .ok (.slice (some ⟨b, i * shz sh', none⟩) (n + xs.length) cap) w' ∧ φ' aid es'.length = some (b, m) ∧ Sim X n0 φ' F (H.set aid (.arr sh' es')) w' ∧ Ext n0 φ F w φ' F w' := by
        intro b m cap es' hp hsv hcap hm hf' hle hup hlow hcells
        obtain ⟨cs, T, k1, k2, k3, k4, k5⟩ := live b m hp
        have hce' : (cellsOf es').length = es'.length * shz sh' := cellsOf_len (fun e he => fits_len (hf' e he))
        have hm1 : (i + n + xs.length) * shz sh' ≤ m := Nat.le_trans (Nat.mul_le_mul_right _ (by omega)) hm
        have hm2 : (i + n) * shz sh' + xs.length * shz sh' ≤ m := by rw [← Nat.add_mul]; exact hm1
        obtain ⟨φ', w', r1, r2, r3, r4⟩ := S.write g1 (by rw [g2]; exact hp) (off := (i + n) * shz sh') (vs := cellsOf xs) (xs := ns.toList) (es' := es')
          (by simpa using hns.1) (fun j p q => by rw [Array.getElem_toList]; exact hns.2 j p _) (by rw [hcx]; exact hm2) hf' hle
          (by
            rw [hce']
            rcases hup with h1 | h1
            · exact Nat.le_trans (Nat.mul_le_mul_right _ h1) hm1
            · rw [h1, ← hce]; omega) hcells
        refine ⟨φ', w', ?_, r2, r3, r4⟩
        refine hA.inplace (some ⟨b, i * shz sh', none⟩) n cap hsv hcap w' ?_
        simp only [add_addr, ← Nat.add_mul]
        exact r1
      -- anew
      have anew : ∀ (sLen sCap : Nat) (base : Option Addr) (old : List V) (os : Array Value), s = .slice base sLen sCap → sCap < sLen + xs.length → sLen = n → old.length = n → (∀ e ∈ old, fits sh' e = true) →
          (∀ d, (Builtin.firstCells (shz sh') sLen s).run X.P { w with drawn := d } = .ok os { w with drawn := d }) → CRel φ F (cellsOf old) os →
          ∃ rest nc d, n + xs.length ≤ nc ∧ (os ++ ns ++ rest).size = nc * shz sh' ∧ ORel X φ F (.arr sh' (old ++ xs)) (os ++ ns ++ rest).size (.cells (os ++ ns ++ rest) e (0, 0)) ∧
            (Builtin.append_ tys ty args).run X.P w = .ok (.slice (some ⟨w.heap.size, 0, none⟩) (n + xs.length) nc) { w with heap := w.heap.push (.cells (os ++ ns ++ rest) e (0, 0)), drawn := d } := by
        intro sLen sCap base old os hsv hc hsl hol hof hos hor
        subst hsl
        obtain ⟨rest, nc, d, r1, r2, r3⟩ := hA.anew base sLen sCap hsv hc b1 (by exact_mod_cast b2) os hos
        refine ⟨rest, nc, d, r1, ?_, append_cells (X := X) (P := X.P) (e := e) (sh := sh') hor hns hof hxs rest e, r3⟩
        rw [r2]
        have h1 := hor.1
        have h2 := hns.1
        rw [hcx] at h2
        rw [cellsOf_len (fun e he => fits_len (hof e he)), hol] at h1
        rw [← h1, ← h2, ← Nat.add_mul, ← Nat.add_mul]; congr 1; omega
      -- the cells that are there
      have olds : ∀ b m cap, φ aid e' = some (b, m) → i + n ≤ e' → s = .slice (some ⟨b, i * shz sh', none⟩) n cap →
          ∃ os : Array Value, (∀ d, (Builtin.firstCells (shz sh') n s).run X.P { w with drawn := d } = .ok os { w with drawn := d }) ∧ CRel φ F (cellsOf ((es.drop i).take n)) os := by
        intro b m cap hp hin hsv
        by_cases hn0 : n = 0
        · subst hn0
          exact ⟨#[], fun d => by rw [hsv]; exact firstCells_nil, by simp [cellsOf, CRel]⟩
        · have hel := elems_view (u := .sl aid sh' i n e' c) (y := s) (sh := sh') (us := (es.drop i).take n) S (by simp [elems, arrAt_of_warr hes]) (by
            intro h0; have := congrArg List.length h0; simp at this; omega) hs
          obtain ⟨b', off, cap', q1, q2, q3⟩ := hel
          have hlen : ((es.drop i).take n).length = n := by simp; omega
          rw [hlen] at q1
          rw [q1]
          exact view_firstCells q2 q3 hlen X.P
      split at he
      · rename_i cc
        split at he
        · -- closed, in place
          rename_i hcc
          cases he
          cases hs with
          | sl _ _ _ _ _ _ b m cap hp hin hcl hcap =>
            obtain ⟨rfl, hc1, hc2⟩ := hcl
            obtain ⟨φ', w', r1, r2, r3, r4⟩ := inplace b m cap (splice es (i + n) xs) hp rfl hcc hcap (by
              intro e he
              unfold splice at he
              rcases List.mem_append.1 he with h1 | h1
              · rcases List.mem_append.1 h1 with h2 | h2
                · exact hfits e (List.mem_of_mem_take h2)
                · exact hxs e h2
              · exact hfits e (List.mem_of_mem_drop h1)) (by rw [splice_len (by omega)]; exact Nat.le_refl _) (.inr (splice_len (by omega))) (by rw [splice_len (by omega)]; omega)
              (by
                intro j hj
                rw [cellsOf_splice hel hxl (by omega), splice_get (by
                  rw [hcx, hce, ← Nat.add_mul]; exact Nat.mul_le_mul_right _ (by omega))])
            refine ⟨φ', w', _, r1, ?_, r3, r4⟩
            rw [splice_len (by omega), g2] at r2
            exact .sl aid sh' i _ e' (some cap) b m cap r2 (by omega) ⟨rfl, hcc, hc2⟩ hcap
        · -- closed, anew
          rename_i hcc
          cases he
          cases hs with
          | sl _ _ _ _ _ _ b m cap hp hin hcl hcap =>
            obtain ⟨rfl, hc1, hc2⟩ := hcl
            obtain ⟨os, o1, o2⟩ := olds b m cap hp hin rfl
            obtain ⟨rest, nc, d, r1, r2, r3, r4⟩ := anew n cap _ ((es.drop i).take n) os rfl (by omega) rfl (by simp; omega) (fun e he => hfits e (List.mem_of_mem_drop (List.mem_of_mem_take he))) o1 o2
            have S1 : Sim X n0 φ F H { w with drawn := d } := S.drawn d
            obtain ⟨φ', p1, p2, p3⟩ := S1.new (base := 0) (slot := none) (o := .arr sh' ((es.drop i).take n ++ xs)) rfl trivial (.cells (os ++ ns ++ rest) e (0, 0)) (os ++ ns ++ rest).size r3
            refine ⟨φ', _, _, r4, ?_, p2, ⟨p3.p, p3.f, ⟨p3.b.os, p3.b.tape, p3.b.output, p3.b.size, p3.b.block⟩, p3.n⟩⟩
            have hkey : ((es.drop i).take n ++ xs).length = n + xs.length := by simp; omega
            simp only [Ob.key, hkey] at p1
            have := VRel.sl (F := F) H.length sh' 0 (n + xs.length) (n + xs.length) none w.heap.size _ nc p1 (by omega) (by simp only; omega) (by rw [r2]; simp)
            simpa using this
      · split at he
        · -- open, in place for sure
          rename_i hle
          cases he
          cases hs with
          | sl _ _ _ _ _ _ b m cap hp hin hcl hcap =>
            simp only at hcl
            obtain ⟨φ', w', r1, r2, r3, r4⟩ := inplace b m cap (splice es (i + n) xs) hp rfl (by omega) hcap (by
              intro e he
              unfold splice at he
              rcases List.mem_append.1 he with h1 | h1
              · rcases List.mem_append.1 h1 with h2 | h2
                · exact hfits e (List.mem_of_mem_take h2)
                · exact hxs e h2
              · exact hfits e (List.mem_of_mem_drop h1)) (by rw [splice_len (by omega)]; exact Nat.le_refl _) (.inr (splice_len (by omega))) (by rw [splice_len (by omega)]; omega)
              (by
                intro j hj
                rw [cellsOf_splice hel hxl (by omega), splice_get (by
                  rw [hcx, hce, ← Nat.add_mul]; exact Nat.mul_le_mul_right _ (by omega))])
            refine ⟨φ', w', _, r1, ?_, r3, r4⟩
            rw [splice_len (by omega), g2] at r2
            exact .sl aid sh' i _ e' none b m cap r2 (by omega) hcl hcap
          | slz _ _ _ ad => omega
        · rename_i hgt
          obtain ⟨hi0, he⟩ := ite_none_some he
          cases he
          subst hi0
          have hels : ∀ e ∈ es.take n ++ xs, fits sh' e = true := by
            intro e he
            rcases List.mem_append.1 he with h1 | h1
            · exact hfits e (List.mem_of_mem_take h1)
            · exact hxs e h1
          cases hs with
          | sl _ _ _ _ _ _ b m cap hp hin hcl hcap =>
            simp only at hcl
            have hlen : (es.take n ++ xs).length = n + xs.length := by simp; omega
            by_cases hc : n + xs.length ≤ cap
            · -- there was room
              obtain ⟨φ', w', r1, r2, r3, r4⟩ := inplace b m cap (es.take n ++ xs) hp rfl hc hcap hels (by rw [hlen]; omega) (.inl (by rw [hlen]; omega)) (by rw [hlen]; omega)
                (by
                  intro j hj
                  rw [cellsOf_append]
                  have hct : (cellsOf (es.take n)).length = n * shz sh' := by
                    rw [cellsOf_len (fun e he => hel e (List.mem_of_mem_take he))]; congr 1; simp; omega
                  simp only [Nat.zero_add]
                  by_cases hj2 : j < n * shz sh'
                  · rw [if_neg (by omega), List.getElem?_append_left (by omega)]
                    have hpos : 0 < shz sh' := by
                      apply Classical.byContradiction; intro h0
                      have : shz sh' = 0 := by omega
                      rw [this] at hj2; omega
                    have hm := Nat.mod_lt j hpos
                    have hjj : j = j / shz sh' * shz sh' + j % shz sh' := by rw [Nat.mul_comm]; exact (Nat.div_add_mod j _).symm
                    have hq : j / shz sh' < n := by rw [Nat.div_lt_iff_lt_mul hpos]; omega
                    have e1 := cellsOf_get (es := es.take n) (fun e he => hel e (List.mem_of_mem_take he)) (i := j / shz sh') hm
                    have e2 := cellsOf_get hel (i := j / shz sh') hm
                    rw [← hjj] at e1 e2
                    rw [e1, e2, List.getElem?_take_of_lt hq]
                  · rw [List.getElem?_append_right (by omega), hct]
                    by_cases hj3 : j < n * shz sh' + (cellsOf xs).length
                    · rw [if_pos (by omega)]
                    · rw [cellsOf_append, List.length_append, hct] at hj; omega)
              refine ⟨φ', w', _, r1, ?_, r3, r4⟩
              rw [hlen] at r2
              exact .sl aid sh' 0 _ _ none b m cap r2 (by omega) (by simp only; omega) hcap
            · obtain ⟨os, o1, o2⟩ := olds b m cap hp hin rfl
              simp only [List.drop_zero] at o2
              obtain ⟨rest, nc, d, r1, r2, r3, r4⟩ := anew n cap _ (es.take n) os rfl (by omega) rfl (by simp; omega) (fun e he => hfits e (List.mem_of_mem_take he)) o1 o2
              obtain ⟨φ', p1, p2, p3⟩ := S.moved g1 (by rw [hlen]; omega) r3 d
              refine ⟨φ', _, _, r4, ?_, p2, p3⟩
              rw [hlen] at p1
              have := VRel.sl (F := F) aid sh' 0 (n + xs.length) (n + xs.length) none w.heap.size _ nc p1 (by omega) (by simp only; omega) (by rw [r2]; simp)
              simpa using this
          | slz _ _ _ ad =>
            -- an empty slice of an empty array
            have hes0 : es = [] := List.eq_nil_of_length_eq_zero g2
            subst hes0
            obtain ⟨rest, nc, d, r1, r2, r3, r4⟩ := anew 0 0 _ [] #[] rfl (by omega) rfl rfl (by simp) (fun d => firstCells_nil) (by simp [cellsOf, CRel])
            simp only [List.take_nil, List.nil_append] at r3 r4 ⊢
            obtain ⟨φ', p1, p2, p3⟩ := S.moved g1 (by simpa using hk) r3 d
            refine ⟨φ', _, _, r4, ?_, p2, p3⟩
            have := VRel.sl (F := F) aid sh' 0 (0 + xs.length) (0 + xs.length) none w.heap.size _ nc (by rw [Nat.zero_add]; exact p1) (by omega) (by simp only; omega) (by rw [r2]; simp)
            simpa using this
  · cases he

end
end Go.Ai
end
section
namespace Go.Ai
open Go Go.RowKit

section
variable {X : Ctx} {n0 : Nat} {φ : Phi} {F : Fz} {H H' : Hp} {w : World} {t : List V} {ρ : Operand → Value} {live : Lo} {slot : Option Nat} {base : Nat} {v : V} {r : R}
variable {dst : Option Tmp} {ty : TypeId} {pos : String} {after : Array Edge} {gd : Option (Nat × Bool)}

/-- a live object that is neither cells nor moved turns, in its block -/
theorem Sim.turn (S : Sim X n0 φ F H w) {a b n : Nat} {o o' : Ob} {c c' : Obj} (h : H[a]? = some o) (hl : o.live) (hk : o.key = 0) (hp : φ a 0 = some (b, n)) (hk' : o'.key = 0) (hl' : o'.live)
    (ho' : ∀ sh es, o' ≠ .arr sh es) (hw : w.heap[b]? = some c) (hO : ORel X φ F o' n c') (hf' : ∀ sh es, o' ≠ .fz sh es := by intro _ _ e; cases e) (hfo : ∀ sh es, o ≠ .fz sh es := by intro _ _ e; cases e) :
    Sim X n0 φ F (H.set a o') { w with heap := w.heap.setIfInBounds b c' } ∧ Ext n0 φ F w φ F { w with heap := w.heap.setIfInBounds b c' } := by
  have hal : a < H.length := (List.getElem?_eq_some_iff.1 h).1
  have hbl := heap_lt hw
  obtain ⟨b', m, c0, g1, g2, g3, g4, _⟩ := S.obj a _ h hl
  rw [hk, hp] at g1; cases g1
  constructor
  · refine S.update (a := a) (b := b) (n := n) (o' := o') (c := c') (by simp [hal]) (fun a' ha => by simp [Ne.symm ha]) (by simp [hbl]) (fun k hk _ => ?_) (by simp) (Phi.le.refl _) (by rw [hk']; exact hp) (fun _ _ hne => absurd rfl hne) g2 (g3.none hfo) ?_
      hO hl' ?_ hf'
    · simp [Ne.symm hk]
    · intro a' o1 n' ha ho hlo hp'
      exact ha (S.inj a' a o1 _ b n' n ho hlo h hl hp' (by rw [hk]; exact hp))
    · intro e _; exact .inr ho'
  · refine ⟨Phi.le.refl _, Fz.le.refl _, ⟨rfl, rfl, rfl, by simp, fun k hk => ?_⟩, fun _ _ => rfl⟩
    have : b ≠ k := by omega
    simp [this]


theorem filter_rel {α β : Type} {R : α → β → Prop} {p : α → Bool} {q : β → Bool} (hpq : ∀ x y, R x y → p x = q y) : ∀ {xs : List α} {ys : List β}, xs.length = ys.length → (∀ j (a : j < xs.length) (b : j < ys.length), R xs[j] ys[j]) →
    (xs.filter p).length = (ys.filter q).length ∧ ∀ j (a : j < (xs.filter p).length) (b : j < (ys.filter q).length), R (xs.filter p)[j] (ys.filter q)[j] := by
  intro xs
  induction xs with
  | nil => intro ys h _; cases ys with
    | nil => exact ⟨rfl, fun j a => absurd a (by simp)⟩
    | cons y ys => simp at h
  | cons x xs ih =>
    intro ys h hr
    cases ys with
    | nil => simp at h
    | cons y ys =>
      have h0 := hr 0 (by simp) (by simp)
      simp only [List.getElem_cons_zero] at h0
      obtain ⟨l, k⟩ := ih (ys := ys) (by simpa using h) fun j a b => by
        have := hr (j + 1) (by simpa using a) (by simpa using b)
        simp only [List.getElem_cons_succ] at this
        exact this
      cases hq : q y
      · rw [List.filter_cons_of_neg (by rw [hpq x y h0, hq]; simp), List.filter_cons_of_neg (by rw [hq]; simp)]
        exact ⟨l, k⟩
      · rw [List.filter_cons_of_pos (by rw [hpq x y h0, hq]), List.filter_cons_of_pos hq]
        refine ⟨by simp [l], fun j a b => ?_⟩
        cases j with
        | zero => exact h0
        | succ j =>
          simp only [List.getElem_cons_succ]
          exact k j (by simpa using a) (by simpa using b)


theorem VRel.it_inv {a : Nat} {x : Value} (h : VRel φ F (.it a) x) : ∃ b m, φ a 0 = some (b, m) ∧ x = .pointer (some ⟨b, 0, none⟩) := by
  cases h with
  | it _ b m h => exact ⟨b, m, h, rfl⟩

theorem live_siter (S : Sim X n0 φ F H w) {a b n : Nat} {s : ByteArray} {pos : Nat} (h : H[a]? = some (.siter s pos)) (hp : φ a 0 = some (b, n)) : w.heap[b]? = some (.stringIter s pos) := by
  obtain ⟨b', m, c, g1, g2, g3, g4, g5⟩ := S.obj a _ h trivial
  simp only [Ob.key] at g1
  rw [hp] at g1; cases g1
  rw [g4]; exact congrArg some g5

theorem live_miter (S : Sim X n0 φ F H w) {a b n m since stepped : Nat} {seen : List Nat} (h : H[a]? = some (.miter m since seen stepped)) (hp : φ a 0 = some (b, n)) :
    ∃ mb k, w.heap[b]? = some (.mapIter (some mb) since seen.toArray stepped) ∧ φ m 0 = some (mb, k) := by
  obtain ⟨b', m', c, g1, g2, g3, g4, mb, k, rfl, g5⟩ := S.obj a _ h trivial
  simp only [Ob.key] at g1
  rw [hp] at g1; cases g1
  exact ⟨mb, k, g4, g5⟩

theorem run_getObj' {P : Program} {w : World} {b : Nat} {c : Obj} (h : w.heap[b]? = some c) (hn : ∀ x y z, c ≠ .cells x y z := by intro _ _ _ e; cases e) : (getObj b).run P w = .ok c w := by
  cases c <;> first | (simp [getObj, Sem.run, h]; done) | exact absurd rfl (hn _ _ _)
theorem run_setObj' {P : Program} {w : World} {b : Nat} {c c' : Obj} (h : w.heap[b]? = some c) (hn : ∀ x y z, c ≠ .cells x y z := by intro _ _ _ e; cases e) : (setObj b c').run P w = .ok () { w with heap := w.heap.setIfInBounds b c' } := by
  cases c <;> first | (simp [setObj, Sem.run, h]; done) | exact absurd rfl (hn _ _ _)

theorem VRel.mp_inv {a : Nat} {x : Value} (h : VRel φ F (.mp a) x) : ∃ b m, φ a 0 = some (b, m) ∧ x = .map (some b) := by
  cases h with
  | mp _ b m h => exact ⟨b, m, h, rfl⟩

theorem good_range {T : TypeId} {x : Operand} : Good X live slot ⟨dst, .range T x, ty, pos, after, gd⟩ := by
  intro n0 φ F H w t ρ base r v H' S hρ hc he
  simp only [compOp] at hc
  have hn : ∀ o, Hp.new H 0 none o = some (H.length, H ++ [o]) := fun _ => rfl
  split at hc
  · rename_i ax hu hx
    cases hc
    have hv := hρ _ _ hx
    simp only [exOp] at he
    split at he
    · rename_i s _ hs
      cases he
      rw [hs] at hv
      obtain ⟨φ', g1, g2, g3⟩ := S.new (hn (.siter s 0)) trivial (.stringIter s 0) 0 rfl
      exact ⟨φ', F, _, _, _, by simp [execOp, Instr.range, run_underlying hu, hv.str_inv], .inl rfl, .it _ _ _ g1, g2, g3⟩
    · rename_i h _; cases h
    · cases he
  · rename_i kt e ax hu hx
    cases hc
    have hv := hρ _ _ hx
    simp only [exOp] at he
    split at he
    · rename_i h _; cases h
    · rename_i m _ hm
      split at he
      · rename_i ks vs bs clk hH
        cases he
        rw [hm] at hv
        obtain ⟨b, k, hp, hxv⟩ := hv.mp_inv
        obtain ⟨es, q1, _⟩ := live_map S hH hp
        obtain ⟨φ', g1, g2, g3⟩ := S.new (hn (.miter m clk [] clk)) trivial (.mapIter (some b) clk #[] clk) 0 ⟨b, k, rfl, hp⟩
        exact ⟨φ', F, _, _, _, by simp [execOp, Instr.range, run_underlying hu, hxv, run_getObj' q1], .inl rfl, .it _ _ _ g1, g2, g3⟩
      · cases he
    · cases he
  · cases hc

theorem good_next {it : Operand} {str : Bool} : Good X live slot ⟨dst, .next it str, ty, pos, after, gd⟩ := by
  intro n0 φ F H w t ρ base r v H' S hρ hc he
  simp only [compOp] at hc
  split at hc
  · rename_i ax hx
    cases hc
    have hv := hρ _ _ hx
    simp only [exOp] at he
    split at he
    · rename_i a ha
      rw [ha] at hv
      obtain ⟨b, m, hp, hxv⟩ := hv.it_inv
      split at he
      · rename_i s p hH
        obtain ⟨hstr, he⟩ := ite_none_some he
        subst hstr
        have hw := live_siter S hH hp
        by_cases hlt : p < s.size
        · rw [if_pos hlt] at he
          cases he
          obtain ⟨S', e'⟩ := S.turn hH trivial rfl hp (o' := .siter s (p + (Utf8.decode s p).2)) (c' := .stringIter s (p + (Utf8.decode s p).2)) rfl trivial (fun _ _ e => by cases e) hw rfl
          refine ⟨φ, F, _, _, .tuple #[.bool true, .int .i64 p, .int .i32 (Utf8.decode s p).1], ?_, .inl rfl, ?_, S', e'⟩
          · simp [execOp, Instr.next, hxv, run_getObj' hw, hlt, run_setObj' hw, goInt]
          · refine .tup _ _ rfl fun j a c => ?_
            match j, a, c with
            | 0, _, _ => exact .bool _
            | 1, _, _ => exact .int _ _
            | 2, _, _ => exact .int _ _
            | j + 3, a, _ => simp at a; omega
        · rw [if_neg hlt] at he
          cases he
          refine .same S (x := .tuple #[.bool false]) (by simp [execOp, Instr.next, hxv, run_getObj' hw, hlt]) (.tup _ _ rfl fun j a c => ?_)
          match j, a, c with
          | 0, _, _ => exact .bool _
          | j + 1, a, _ => simp at a
      · cases he
    · cases he
  · cases hc

theorem born_list {es : Array MapEntry} {bs : List Nat} (l : bs.length = es.size) (h : ∀ j (p : j < bs.length) (q : j < es.size), bs[j] = es[j].born) : bs = es.toList.map (·.born) := by
  apply List.ext_getElem (by simpa using l)
  intro j p q
  have hq : j < es.size := by simpa using q
  rw [h j p hq]; simp

theorem find_idx {α : Type} {p : α → Bool} : ∀ (l : List α), match l.find? p with
    | some x => ∃ i, ∃ h : i < l.length, l[i] = x
    | none => True := by
  intro l
  cases h : l.find? p with
  | none => trivial
  | some x => exact List.getElem_of_mem (List.mem_of_find?_eq_some h)

theorem good_entry {it : Operand} : Good X live slot ⟨dst, .entry it, ty, pos, after, gd⟩ := by
  intro n0 φ F H w t ρ base r v H' S hρ hc he
  simp only [compOp] at hc
  split at hc
  · rename_i ax hx
    cases hc
    have hv := hρ _ _ hx
    simp only [exOp] at he
    split at he
    · rename_i a ha
      rw [ha] at hv
      obtain ⟨b, m, hp, hxv⟩ := hv.it_inv
      split at he
      · rename_i mm since seen stepped hH
        obtain ⟨mb, k, hw, hpm⟩ := live_miter S hH hp
        split at he
        · rename_i ks vs bs clk hM
          obtain ⟨es, q1, q2, q3, q4, q5, q6, q7, _, _⟩ := live_map S hM hpm
          obtain ⟨hclk, he⟩ := ite_none_some he
          split at he
          · rename_i st hst
            split at he
            · rename_i u1 k1 v1 hf
              cases he
              have hbs := born_list q4 q7
              -- the same place in the model's map
              have key : ∀ (bs : List Nat) (ks vs : List V) (es : List MapEntry), bs = es.map (·.born) → ks.length = es.length → vs.length = es.length →
                  (∀ j (p : j < ks.length) (q : j < es.length), VRel φ F ks[j] es[j].key) → (∀ j (p : j < vs.length) (q : j < es.length), VRel φ F vs[j] es[j].val) →
                  ∀ u1 k1 v1, (bs.zip (ks.zip vs)).find? (fun p => p.1 == st) = some (u1, k1, v1) → ∃ e, es.find? (fun e => e.born == st) = some e ∧ VRel φ F k1 e.key ∧ VRel φ F v1 e.val := by
                intro bs ks vs es
                induction es generalizing bs ks vs with
                | nil => intro hb; subst hb; intro _ _ _ _ u1 k1 v1 h; simp at h
                | cons e es ih =>
                  intro hb lk lv rk rv u1 k1 v1 h
                  subst hb
                  cases ks with
                  | nil => simp at lk
                  | cons k ks =>
                    cases vs with
                    | nil => simp at lv
                    | cons v vs =>
                      simp only [List.map_cons, List.zip_cons_cons, List.find?_cons] at h ⊢
                      cases hb : (e.born == st)
                      · rw [hb] at h
                        simp only [Bool.false_eq_true] at h ⊢
                        exact ih _ ks vs rfl (by simpa using lk) (by simpa using lv) (fun j p q => rk (j + 1) (by simpa using p) (by simpa using q)) (fun j p q => rv (j + 1) (by simpa using p) (by simpa using q)) u1 k1 v1 h
                      · rw [hb] at h
                        simp only [Option.some.injEq, Prod.mk.injEq] at h
                        obtain ⟨_, rfl, rfl⟩ := h
                        exact ⟨e, rfl, rk 0 (by simp) (by simp), rv 0 (by simp) (by simp)⟩
              obtain ⟨e, e1, e2, e3⟩ := key bs ks vs es.toList hbs (by simpa using q2) (by simpa using q3) (fun j p q => by simpa using q5 j p (by simpa using q)) (fun j p q => by simpa using q6 j p (by simpa using q)) u1 k1 v1 hf
              have hb' : seen.toArray.back? = some st := by simpa using hst
              have hfe : es.find? (fun e => e.born == st) = some e := by rw [← Array.find?_toList]; exact e1
              refine .same S (x := .tuple #[e.key, e.val]) (by simp [execOp, Instr.entry, hxv, run_getObj' hw, hst, run_getObj' q1, hclk, hfe]) (.tup _ _ rfl fun j a c => ?_)
              match j, a, c with
              | 0, _, _ => exact e2
              | 1, _, _ => exact e3
              | j + 2, a, _ => simp at a; omega
            · cases he
          · cases he
        · cases he
      · cases he
    · cases he
  · cases hc

/-- an iterator over a map steps -/
theorem nextM_ok (S : Sim X n0 φ F H w) {a b n : Nat} (hp : φ a 0 = some (b, n)) {outs : List (V × Hp)} (h : nextM H a = some outs) (T : TypeId) :
    ∃ p ∈ outs, ∃ x w', (Instr.next (.pointer (some ⟨b, 0, none⟩)) false T).run X.P w = .ok x w' ∧ VRel φ F p.1 x ∧ Sim X n0 φ F p.2 w' ∧ Ext n0 φ F w φ F w' := by
  unfold nextM at h
  split at h
  · rename_i m since seen stepped hH
    obtain ⟨mb, k, hw, hpm⟩ := live_miter S hH hp
    split at h
    · rename_i ks vs bs clk hM
      obtain ⟨es, q1, q2, q3, q4, q5, q6, q7, _, _⟩ := live_map S hM hpm
      have hbs := born_list q4 q7
      split at h
      · cases h
      · rename_i hg
        have hg' : ¬ (!seen.toArray.isEmpty && !es.isEmpty && es.all (·.born ≥ stepped)) = true := by
          intro hc
          apply hg
          simp only [Bool.and_eq_true, Bool.not_eq_true', Array.isEmpty_eq_false_iff, Array.all_eq_true] at hc
          obtain ⟨⟨c1, c2⟩, c3⟩ := hc
          have : bs ≠ [] := by rw [hbs]; simpa using c2
          simp only [Bool.and_eq_true, Bool.not_eq_true', List.isEmpty_eq_false_iff]
          refine ⟨⟨by simpa using c1, this⟩, ?_⟩
          rw [hbs]
          simp only [List.all_map, List.all_eq_true, Function.comp]
          intro e he
          obtain ⟨i, hi, rfl⟩ := List.getElem_of_mem he
          exact c3 i (by simpa using hi)
        obtain ⟨f1, f2⟩ := filter_rel (R := fun (p : Nat × V × V) (e : MapEntry) => p.1 = e.born ∧ VRel φ F p.2.1 e.key ∧ VRel φ F p.2.2 e.val) (p := fun p => !seen.contains p.1) (q := fun e => !seen.contains e.born)
          (fun x y hxy => by rw [hxy.1]) (xs := bs.zip (ks.zip vs)) (ys := es.toList) (by simp; omega) (fun j p q => by
            have l1 : j < bs.length := by simp at p; omega
            have l2 : j < ks.length := by simp at p; omega
            have l3 : j < vs.length := by simp at p; omega
            have l4 : j < es.size := by simpa using q
            simp only [List.getElem_zip, Array.getElem_toList]
            exact ⟨q7 j l1 l4, q5 j l2 l4, q6 j l3 l4⟩)
        generalize hcs : (bs.zip (ks.zip vs)).filter (fun p => !seen.contains p.1) = cs at h f1 f2
        have hleft : (es.filter fun e => !seen.toArray.contains e.born) = (es.toList.filter fun e => !seen.contains e.born).toArray := by
          apply Array.toList_inj.1
          simp
        generalize hls : (es.toList.filter fun e => !seen.contains e.born) = ls at f1 f2 hleft
        cases cs with
        | nil =>
          obtain rfl : ls = [] := List.length_eq_zero_iff.1 (by simpa using f1.symm)
          simp only [Option.some.injEq] at h
          subst h
          refine ⟨(.tup [.bool false], H), by simp, .tuple #[.bool false], w, ?_, .tup _ _ rfl fun j a c => ?_, S, .refl _ _ _ _⟩
          · have hcand : ((if (((es.filter fun e => !seen.toArray.contains e.born).filter (·.born < since)).isEmpty) then #[none] else #[]) ++ (((es.filter fun e => !seen.toArray.contains e.born).filter (·.born < since)) ++ ((es.filter fun e => !seen.toArray.contains e.born).filter (·.born ≥ since))).map some) = #[(none : Option MapEntry)] := by
              rw [hleft]; simp
            simp only [Instr.next, Sem.run_bind, run_getObj' hw, Result.andThen_ok, run_getObj' q1, Sem.run_ite, if_neg hg']
            simp only [Sem.run_bind, Sem.run_pure, Result.andThen_ok, hcand]
            simp [Question.forced]
          · match j, a, c with
            | 0, _, _ => exact .bool _
            | j + 1, a, _ => simp at a
        | cons c0 cs' =>
          simp only at h
          obtain ⟨hall, h⟩ := ite_none_some h
          cases h
          generalize hcc : (c0 :: cs') = cs at f1 f2 hall
          have hpos : 0 < ls.length := by rw [← f1, ← hcc]; simp
          have hlt : ∀ e ∈ ls, e.born < since := by
            intro e he
            obtain ⟨i, hi, rfl⟩ := List.getElem_of_mem he
            have := (f2 i (by omega) hi).1
            rw [← this]
            have := List.all_eq_true.1 hall _ (List.getElem_mem (show i < cs.length by omega))
            simpa using this
          have hcand : ((if (((es.filter fun e => !seen.toArray.contains e.born).filter (·.born < since)).isEmpty) then #[none] else #[]) ++ (((es.filter fun e => !seen.toArray.contains e.born).filter (·.born < since)) ++ ((es.filter fun e => !seen.toArray.contains e.born).filter (·.born ≥ since))).map some) = (ls.map some).toArray := by
            have o : (ls.toArray.filter (fun e => e.born < since)) = ls.toArray := by
              apply Array.toList_inj.1
              simp only [Array.toList_filter]
              exact List.filter_eq_self.2 fun e he => by simpa using hlt e he
            have nw : (ls.toArray.filter (fun e => e.born ≥ since)) = #[] := by
              apply Array.toList_inj.1
              simp only [Array.toList_filter]
              exact List.filter_eq_nil_iff.2 fun e he => by have := hlt e he; simp; omega
            rw [hleft, o, nw]
            have : ls ≠ [] := by intro e; subst e; simp at hpos
            simp [this]
          -- the choice
          obtain ⟨i, w1, hi, hch, hw1⟩ : ∃ i w1, i < ls.length ∧ (choose (.mapNext (ls.map some).toArray.size) : Sem Nat).run X.P w = .ok i w1 ∧ (w1 = w ∨ w1 = { w with drawn := w.drawn + 1 }) := by
            simp only [run_choose]
            split
            · exact ⟨0, w, hpos, rfl, .inl rfl⟩
            · exact ⟨_, _, by simp only [Question.cut]; simpa using Nat.mod_lt _ (by simpa using hpos), rfl, .inr rfl⟩
          have hheap : w1.heap = w.heap := by rcases hw1 with rfl | rfl <;> rfl
          have S1 : Sim X n0 φ F H w1 := S.world hheap
          have E1 : Ext n0 φ F w φ F w1 := by
            refine ⟨Phi.le.refl _, Fz.le.refl _, ?_, fun _ _ => rfl⟩
            rcases hw1 with rfl | rfl
            · exact .refl _ _
            · exact ⟨rfl, rfl, rfl, Nat.le_refl _, fun _ _ => rfl⟩
          have hic : i < cs.length := by omega
          obtain ⟨r1, r2, r3⟩ := f2 i hic hi
          obtain ⟨S2, E2⟩ := S1.turn hH trivial rfl hp (o' := .miter m since (seen ++ [cs[i].1]) clk) (c' := .mapIter (some mb) since (seen.toArray.push ls[i].born) clk) rfl trivial (fun _ _ e => by cases e) (by rw [hheap]; exact hw)
            ⟨mb, k, by rw [r1]; simp, hpm⟩
          refine ⟨(.tup [.bool true, cs[i].2.1, cs[i].2.2], H.set a (.miter m since (seen ++ [cs[i].1]) clk)), List.mem_map.2 ⟨cs[i], List.getElem_mem hic, rfl⟩, .tuple #[.bool true, ls[i].key, ls[i].val], _, ?_, .tup _ _ rfl fun j a c => ?_, S2, E1.trans E2⟩
          · simp only [Instr.next, Sem.run_bind, run_getObj' hw, Result.andThen_ok, run_getObj' q1, Sem.run_ite, if_neg hg']
            simp only [Sem.run_bind, Sem.run_pure, Result.andThen_ok, hcand, hch]
            have hget : (ls.map some).toArray[i]? = some (some ls[i]) := by simp [hi]
            simp only [hget]
            simp [run_setObj' (show w1.heap[b]? = some _ by rw [hheap]; exact hw)]
          · match j, a, c with
            | 0, _, _ => exact .bool _
            | 1, _, _ => exact r2
            | 2, _, _ => exact r3
            | j + 3, a, _ => simp at a; omega
    · cases h
  · cases h

end
end Go.Ai
end
section
namespace Go.Ai
open Go Go.RowKit

section
variable {X : Ctx} {n0 : Nat} {φ : Phi} {F : Fz} {H H' : Hp} {w : World} {t : List V} {ρ : Operand → Value} {live : Lo} {slot : Option Nat} {base : Nat} {v : V} {r : R}
variable {dst : Option Tmp} {ty : TypeId} {pos : String} {after : Array Edge} {gd : Option (Nat × Bool)}

theorem zeroOf_info {P : Program} {t : TypeId} {z : V} (h : zeroOf P t = some z) : ∃ inf zx, P.info? t = some inf ∧ inf.zero = some zx ∧ ofC zx = some z := by
  unfold zeroOf at h
  cases hu : P.info? t with
  | none => rw [hu] at h; cases h
  | some i =>
    rw [hu] at h
    simp only at h
    cases hz : i.zero with
    | none => rw [hz] at h; cases h
    | some v => rw [hz] at h; exact ⟨i, v, rfl, hz, h⟩

theorem OpOK.of_append (S : Sim X n0 φ F H w) {args : Array Operand} {at' : Array TypeId} (h : ∃ φ' w' x, (Builtin.append_ at' ty (args.map ρ)).run X.P w = .ok x w' ∧ VRel φ' F v x ∧ Sim X n0 φ' F H' w' ∧ Ext n0 φ F w φ' F w') :
    OpOK X n0 φ F w (execOp ρ ⟨dst, .call { callee := .builtin .append, args := args, argTypes := at' }, ty, pos, after, gd⟩) v H' := by
  obtain ⟨φ', w', x, h1, h2, h3, h4⟩ := h
  exact ⟨φ', F, w', _, x, run_builtin (fun cs => by simp [Go.builtin, h1]), .inl rfl, h2, h3, h4⟩

theorem good_app {args : Array Operand} {at' : Array TypeId} : Good X live slot ⟨dst, .call { callee := .builtin .append, args := args, argTypes := at' }, ty, pos, after, gd⟩ := by
  intro n0 φ F H w t ρ base r v H' S hρ hc he
  simp only [compOp] at hc
  split at hc
  · rename_i s x ts tx hx hT
    obtain rfl := arr2 hx
    obtain rfl := arr2 hT
    split at hc
    · rename_i e e' h1 h2
      split at hc
      · rename_i sh sh' b z as ax g1 g2 g3 g4 g5 g6
        obtain ⟨⟨c1, c2, c3, c4⟩, hc⟩ := ite_none_some hc
        cases hc
        subst c1
        simp only [exOp] at he
        unfold exApp at he
        have hvs := hρ _ _ g5
        have hvx := hρ _ _ g6
        obtain ⟨inf, zx, i1, i2, i3⟩ := zeroOf_info g4
        have hz3 : VRel φ F z zx := ofC_rel i3
        have hzs : zx.cells.size = shz sh := by rw [← hz3.cells.1]; exact fits_len c2
        have hsz := (shOf_some g1).1
        split at he
        · cases he
        · rename_i shx us hus
          split at he
          · -- nothing to append
            have hxv : ∃ xa xc, ρ x = .slice xa 0 xc := by
              generalize evA t ax = ux at hus hvx
              generalize ρ x = px at hvx
              unfold elems at hus
              split at hus
              · cases hvx; exact ⟨_, _, rfl⟩
              · cases hvx <;> exact ⟨_, _, rfl⟩
              · rename_i es; cases hus
                generalize hl : (V.fsl shx []) = q at hvx
                cases hvx <;> first | (cases hl; exact ⟨_, _, rfl⟩) | cases hl
              · split at hus
                · rename_i aid sh0 i n e c _ es hes
                  cases hvx with
                  | sl _ _ _ _ _ _ bb m cap hp hin hcc hcap =>
                    obtain ⟨q1, q2⟩ := arrAt_some hes
                    simp only [Option.some.injEq, Prod.mk.injEq] at hus
                    have := congrArg List.length hus.2
                    simp at this
                    have : n = 0 := by omega
                    subst this; exact ⟨_, _, rfl⟩
                  | slz => exact ⟨_, _, rfl⟩
                · cases hus
              · cases hus
            obtain ⟨xa, xc, hxv⟩ := hxv
            have hn : ∀ d, (Builtin.firstCells (shz sh) 0 (.slice xa 0 xc)).run X.P { w with drawn := d } = .ok #[] { w with drawn := d } := fun d => firstCells_nil
            have hA := appArg_slice (w := w) (ty := ty) (s := ρ s) h1 h2 hsz i1 i2 hzs hn
            have fin : ∀ bs sl cap, ρ s = .slice bs sl cap → sl ≤ cap → VRel φ F (evA t as) (ρ s) → OpOK X n0 φ F w (execOp ρ ⟨dst, .call { callee := .builtin .append, args := #[s, x], argTypes := #[ts, tx] }, ty, pos, after, gd⟩) (evA t as) H := by
              intro bs sl cap hs hle hv
              refine OpOK.of_append S ⟨φ, w, ρ s, ?_, hv, S, .refl _ _ _ _⟩
              have := hA.inplace bs sl cap hs (by omega) w (by cases bs <;> simp [storeCells])
              have hm : #[s, x].map ρ = #[ρ s, .slice xa 0 xc] := by simp [hxv]
              rw [hm, this, hs]; rfl
            split at he <;> first | (cases he; done) | skip
            · rename_i hs; cases he; rw [hs] at hvs ⊢
              generalize hp : ρ s = ps at hvs
              cases hvs
              have := fin none 0 0 hp (Nat.le_refl _) (by rw [hs, hp]; exact .nils)
              rw [hs] at this; exact this
            · rename_i hs; cases he; rw [hs] at hvs ⊢
              generalize hp : ρ s = ps at hvs
              cases hvs with
              | mtn =>
                have := fin none 0 0 hp (Nat.le_refl _) (by rw [hs, hp]; exact .mtn)
                rw [hs] at this; exact this
              | mts ad cap =>
                have := fin (some ad) 0 cap hp (Nat.zero_le _) (by rw [hs, hp]; exact .mts _ _)
                rw [hs] at this; exact this
            · rename_i hs; cases he
              have hvs' := hvs
              rw [hs] at hvs ⊢
              generalize hp : ρ s = ps at hvs
              cases hvs with
              | sl _ _ _ _ _ _ bb m cap hpp hin hcc hcap =>
                have := fin _ _ _ hp (by split at hcc <;> omega) hvs'
                rw [hs] at this; exact this
              | slz =>
                have := fin _ _ _ hp (Nat.zero_le _) hvs'
                rw [hs] at this; exact this
            · rename_i hs; cases he
              have hvs' := hvs
              rw [hs] at hvs ⊢
              generalize hp : ρ s = ps at hvs
              cases hvs with
              | fsl _ _ bb off cap y hl hF ho hss hh =>
                have := fin _ _ _ hp hl hvs'
                rw [hs] at this; exact this
          · rename_i u us
            obtain ⟨hsh, he⟩ := ite_none_some he
            subst hsh
            obtain ⟨bx, off, xc, q1, q2, q3⟩ := elems_view S hus (by simp) hvx
            obtain ⟨ns, n1, n2⟩ := view_firstCells (cap := xc) q2 q3 rfl X.P
            have hA := appArg_slice (w := w) (ty := ty) (s := ρ s) h1 h2 hsz i1 i2 hzs n1
            refine OpOK.of_append S ?_
            have hm : #[s, x].map ρ = #[ρ s, .slice (some ⟨bx, off, none⟩) (u :: us).length xc] := by simp only [List.map_toArray, List.map_cons, List.map_nil, q1]
            rw [hm]
            exact appL_ok S hA g3 c4 (by simp) q3 n2 hvs he
      · cases hc
    · rename_i e h1 h2
      split at hc
      · rename_i sh b z as ax g1 g3 g4 g5 g6
        obtain ⟨⟨c2, c3, c4⟩, hc⟩ := ite_none_some hc
        cases hc
        simp only [exOp] at he
        have hvs := hρ _ _ g5
        have hvx := hρ _ _ g6
        obtain ⟨inf, zx, i1, i2, i3⟩ := zeroOf_info g4
        have hz3 : VRel φ F z zx := ofC_rel i3
        have hzs : zx.cells.size = shz sh := by rw [← hz3.cells.1]; exact fits_len c2
        have hsz := (shOf_some g1).1
        split at he
        · rename_i n hn
          rw [hn] at hvx
          have hfit : ∀ e' ∈ List.replicate (n + 1) z, fits sh e' = true := fun e' he' => by rw [List.eq_of_mem_replicate he']; exact c2
          have hb : inf.bytes = b := by rw [i1] at g3; simpa using g3
          have hsm : (n + 1) * (b + 1) < 2 ^ 46 := by
            unfold exAppL at he
            split at he
            · have := (ite_none_some he).1; simpa using this
            · split at he
              · cases he
              · have := (ite_none_some he).1.2
                simp only [List.length_replicate] at this
                exact Nat.lt_of_le_of_lt (Nat.mul_le_mul_right _ (by omega)) this
            · cases he
          have hA := appArg_make (w := w) (ty := ty) (s := ρ s) (k := n + 1) h1 h2 hsz i1 i2 hzs (Nat.mul_pos (by omega) c3) (by
            rw [hb]; have : (n + 1) * b ≤ (n + 1) * (b + 1) := Nat.mul_le_mul_left _ (by omega)
            omega) (by have : (n + 1) * 1 ≤ (n + 1) * (b + 1) := Nat.mul_le_mul_left _ (by omega)
                       omega)
          refine OpOK.of_append S ?_
          have hm : #[s, x].map ρ = #[ρ s, .int .i64 ((n + 1 : Nat) : Int)] := by
            simp only [List.map_toArray, List.map_cons, List.map_nil, hvx.int_inv]; rfl
          rw [hm]
          exact appL_ok (ns := Builtin.zeroCells zx.cells (n + 1)) S (by rw [List.length_replicate]; exact hA) g3 c4 (by simp) hfit (zero_rows c2 hz3 c3 (n + 1)) hvs he
        · cases he
      · cases hc
    · cases hc
  · cases hc

theorem good_clear {args : Array Operand} {at' : Array TypeId} : Good X live slot ⟨dst, .call { callee := .builtin .clear, args := args, argTypes := at' }, ty, pos, after, gd⟩ := by
  intro n0 φ F H w t ρ base r v H' S hρ hc he
  simp only [compOp] at hc
  split at hc
  · rename_i x T hx hT
    obtain rfl := arr1 hx
    obtain rfl := arr1 hT
    split at hc
    · rename_i e hu
      split at hc
      · rename_i sh z ax g1 g2 g3
        obtain ⟨hf, hc⟩ := ite_none_some hc
        cases hc
        simp only [exOp] at he
        have hv := hρ _ _ g3
        have none0 : ∀ ad cap, ρ x = .slice ad 0 cap → OpOK X n0 φ F w (execOp ρ ⟨none, .call { callee := .builtin .clear, args := #[x], argTypes := #[T] }, ty, pos, after, gd⟩) V.undef H := by
          intro ad cap hx
          refine ⟨φ, F, w, _, Go.undef, run_builtin (nx := .value (.tuple #[])) (fun cs => ?_), .inl rfl, VRel.undef, S, .refl _ _ _ _⟩
          cases ad <;> simp [Go.builtin, Builtin.clear_, run_underlying hu, hx]
        split at he
        · rename_i ha
          cases he
          rw [ha] at hv
          generalize hp : ρ x = px at hv
          cases hv
          exact none0 _ _ hp
        · rename_i ha
          cases he
          rw [ha] at hv
          generalize hp : ρ x = px at hv
          cases hv <;> exact none0 _ _ hp
        · rename_i aid sh' i n e' c ha
          split at he
          · rename_i es hes
            obtain ⟨hsh, he⟩ := ite_none_some he
            cases he
            subst hsh
            rw [ha] at hv
            obtain ⟨q1, q2⟩ := warrAt_some hes
            have hal : aid < H.length := (List.getElem?_eq_some_iff.1 q1).1
            by_cases hn : n = 0
            · subst hn
              have hsp : H.set aid (.arr sh' (splice es i (List.replicate 0 z))) = H := by
                have : splice es i [] = es := by simp [splice]
                simp only [List.replicate_zero, this]
                apply List.ext_getElem?
                intro j
                rw [List.getElem?_set]
                split
                · rename_i hj; subst hj; rw [q1]
                · rfl
              rw [hsp]
              generalize hp : ρ x = px at hv
              cases hv with
              | sl => exact none0 _ _ hp
              | slz => exact none0 _ _ hp
            · obtain ⟨b, m, cap, p1, p2, p3⟩ := sl_inv hv (by omega)
              obtain ⟨cs, T', k1, k2, k3, k4, k5, _⟩ := live_warr S hes p1
              obtain ⟨inf, zx, i1, i2, i3⟩ := zeroOf_info g2
              have hz3 : VRel φ F z zx := ofC_rel i3
              have hel : ∀ e ∈ es, e.cells.length = shz sh' := fun e he => fits_len (k3 e he)
              have hrl : ∀ e ∈ List.replicate n z, e.cells.length = shz sh' := fun e he => by rw [List.eq_of_mem_replicate he]; exact fits_len hf
              have hce : (cellsOf es).length = es.length * shz sh' := cellsOf_len hel
              have hcr : (cellsOf (List.replicate n z)).length = n * shz sh' := by rw [cellsOf_len hrl]; simp
              have hle : i + (List.replicate n z).length ≤ es.length := by simp; omega
              have hzx : zx.cells.size = shz sh' := by rw [← hz3.cells.1]; exact fits_len hf
              -- the zero cells
              have hzr : CRel φ F (cellsOf (List.replicate n z)) (Builtin.zeroCells zx.cells n) := by
                by_cases hp : 0 < shz sh'
                · exact zero_rows hf hz3 hp n
                · have h0 : shz sh' = 0 := by omega
                  refine ⟨by rw [hcr, zeroCells_size, hzx], fun j a b => ?_⟩
                  rw [hcr, h0] at a; omega
              have hm : (i + n) * shz sh' ≤ m := by
                have h1 : (i + n) * shz sh' ≤ es.length * shz sh' := Nat.mul_le_mul_right _ (by simp at hle; omega)
                omega
              obtain ⟨φ', w', r1, r2, r3, r4⟩ := S.write q1 (by rw [q2]; exact p1) (off := i * shz sh') (vs := cellsOf (List.replicate n z)) (xs := (Builtin.zeroCells zx.cells n).toList) (es' := splice es i (List.replicate n z))
                (by simpa using hzr.1) (fun j p q => by rw [Array.getElem_toList]; exact hzr.2 j p _) (by rw [hcr, ← Nat.add_mul]; exact hm)
                (by
                  intro e he
                  unfold splice at he
                  rcases List.mem_append.1 he with h1 | h1
                  · rcases List.mem_append.1 h1 with h2 | h2
                    · exact k3 e (List.mem_of_mem_take h2)
                    · rw [List.eq_of_mem_replicate h2]; exact hf
                  · exact k3 e (List.mem_of_mem_drop h1)) (by rw [splice_len hle]; exact Nat.le_refl _)
                (by rw [cellsOf_splice hel hrl hle, splice_len (by rw [hcr, hce, ← Nat.add_mul]; exact Nat.mul_le_mul_right _ (by simpa using hle))]; omega)
                (by
                  intro j hj
                  rw [cellsOf_splice hel hrl hle, splice_get (by rw [hcr, hce, ← Nat.add_mul]; exact Nat.mul_le_mul_right _ (by simpa using hle))])
              refine ⟨φ', F, w', _, Go.undef, run_builtin (nx := .value (.tuple #[])) (fun cs => ?_), .inl rfl, VRel.undef, r3, r4⟩
              have hzero : (zeroValue e).run X.P w = .ok zx w := by simp [zeroValue, typeInfo, i1, i2]
              obtain ⟨n, rfl⟩ : ∃ n', n = n' + 1 := ⟨n - 1, by omega⟩
              have hcl : (Builtin.clear_ #[T] ty #[ρ x]).run X.P w = .ok (.tuple #[]) w' := by
                rw [p3]
                simp [Builtin.clear_, run_underlying hu, hzero, r1]
              simp [Go.builtin, hcl]
          · cases he
        · cases he
      · cases hc
    · cases hc
  · cases hc

theorem good_copy {args : Array Operand} {at' : Array TypeId} : Good X live slot ⟨dst, .call { callee := .builtin .copy, args := args, argTypes := at' }, ty, pos, after, gd⟩ := by
  intro n0 φ F H w t ρ base r v H' S hρ hc he
  simp only [compOp] at hc
  split at hc
  · rename_i d s T U hx hT
    obtain rfl := arr2 hx
    obtain rfl := arr2 hT
    split at hc
    · rename_i e e' hu hu'
      split at hc
      · rename_i sz ad as g1 g2 g3
        cases hc
        simp only [exOp] at he
        have hvd := hρ _ _ g2
        have hvs := hρ _ _ g3
        split at he
        · rename_i shx us hus
          -- the length of the source
          have hsrc : ∃ xa xc, ρ s = .slice xa us.length xc := by
            by_cases hne : us = []
            · subst hne
              generalize evA t as = ux at hus hvs
              generalize ρ s = px at hvs
              unfold elems at hus
              split at hus
              · cases hvs; exact ⟨_, _, rfl⟩
              · cases hvs <;> exact ⟨_, _, rfl⟩
              · rename_i es; cases hus
                generalize hl : (V.fsl shx []) = q at hvs
                cases hvs <;> first | (cases hl; exact ⟨_, _, rfl⟩) | cases hl
              · split at hus
                · rename_i aid sh0 i n e c _ es hes
                  cases hvs with
                  | sl _ _ _ _ _ _ bb m cap hp hin hcc hcap =>
                    obtain ⟨q1, q2⟩ := arrAt_some hes
                    simp only [Option.some.injEq, Prod.mk.injEq] at hus
                    have := congrArg List.length hus.2
                    simp at this
                    have : n = 0 := by omega
                    subst this; exact ⟨_, _, rfl⟩
                  | slz => exact ⟨_, _, rfl⟩
                · cases hus
              · cases hus
            · obtain ⟨bx, off, xc, q1, q2, q3⟩ := elems_view S hus hne hvs
              exact ⟨_, _, q1⟩
          obtain ⟨xa, xc, hxs⟩ := hsrc
          have hls : (Builtin.lenOf (ρ s)).run X.P w = .ok us.length w := by rw [hxs]; rfl
          have none0 : ∀ da cap, ρ d = .slice da 0 cap → OpOK X n0 φ F w (execOp ρ ⟨dst, .call { callee := .builtin .copy, args := #[d, s], argTypes := #[T, U] }, ty, pos, after, gd⟩) (.int .i64 0) H := by
            intro da cap hd
            refine .same S (x := .int .i64 0) (run_builtin (fun cs => ?_)) (.int _ _)
            have hfc : (Builtin.firstCells sz 0 (ρ s)).run X.P w = .ok #[] w := by
              rw [hxs]; cases xa <;> simp [Builtin.firstCells, loadCells, loadCellsFrom]
            cases da <;> simp [Go.builtin, Builtin.copy_, run_underlying hu, hd, hls, run_szOf g1, hfc, storeCells, goInt]
          split at he
          · rename_i hd
            cases he
            rw [hd] at hvd
            generalize hp : ρ d = px at hvd
            cases hvd
            exact none0 _ _ hp
          · rename_i hd
            cases he
            rw [hd] at hvd
            generalize hp : ρ d = px at hvd
            cases hvd <;> exact none0 _ _ hp
          · rename_i aid sh i n e0 c hd
            split at he
            · rename_i es hes
              obtain ⟨⟨c1, c2⟩, he⟩ := ite_none_some he
              cases he
              rw [hd] at hvd
              obtain ⟨q1, q2⟩ := warrAt_some hes
              have hal : aid < H.length := (List.getElem?_eq_some_iff.1 q1).1
              by_cases hmn : min us.length n = 0
              · have hsp : H.set aid (.arr sh (splice es i (us.take (min us.length n)))) = H := by
                  have : splice es i [] = es := by simp [splice]
                  rw [hmn, List.take_zero, this]
                  apply List.ext_getElem?
                  intro j
                  rw [List.getElem?_set]
                  split
                  · rename_i hj; subst hj; rw [q1]
                  · rfl
                rw [hsp, hmn]
                by_cases hn : n = 0
                · subst hn
                  generalize hp : ρ d = px at hvd
                  cases hvd with
                  | sl => exact none0 _ _ hp
                  | slz => exact none0 _ _ hp
                · obtain ⟨b, m, cap, p1, p2, p3⟩ := sl_inv hvd (by omega)
                  have hus0 : us.length = 0 := by omega
                  refine .same S (x := .int .i64 0) (run_builtin (fun cs => ?_)) (.int _ _)
                  have hfc : (Builtin.firstCells sz 0 (ρ s)).run X.P w = .ok #[] w := by
                    rw [hxs]; cases xa <;> simp [Builtin.firstCells, loadCells, loadCellsFrom]
                  have hmin : Nat.min 0 n = 0 := by simp
                  rw [hus0] at hls
                  simp [Go.builtin, Builtin.copy_, run_underlying hu, p3, hls, run_szOf g1, hfc, storeCells, goInt]
              · obtain ⟨b, m, cap, p1, p2, p3⟩ := sl_inv hvd (by omega)
                have hne : us ≠ [] := by intro h0; rw [h0] at hmn; simp at hmn
                have hshx : shx = sh := by rcases c2 with h | h; exact h; exact absurd h hne
                subst hshx
                obtain ⟨bx, off, xc', r1, r2, r3⟩ := elems_view S hus hne hvs
                obtain ⟨cs, T', k1, k2, k3, k4, k5, _⟩ := live_warr S hes p1
                have hel : ∀ e ∈ es, e.cells.length = shz shx := fun e he => fits_len (k3 e he)
                generalize hmm : min us.length n = mm at *
                have htl : (us.take mm).length = mm := by simp; omega
                have hut : ∀ e ∈ us.take mm, fits shx e = true := fun e he => r3 e (List.mem_of_mem_take he)
                have hul : ∀ e ∈ us.take mm, e.cells.length = shz shx := fun e he => fits_len (hut e he)
                have hview : View φ F w bx off (us.take mm) := by
                  intro j hj
                  have hpre : ∀ (l : List V) k j, j < (cellsOf (l.take k)).length → (cellsOf (l.take k))[j]? = (cellsOf l)[j]? := by
                    intro l k j hj
                    have : cellsOf l = cellsOf (l.take k) ++ cellsOf (l.drop k) := by rw [← cellsOf_append, List.take_append_drop]
                    rw [this, List.getElem?_append_left hj]
                  have e1 := hpre us mm j hj
                  rw [List.getElem?_eq_getElem hj] at e1
                  obtain ⟨hj2, he2⟩ := List.getElem?_eq_some_iff.1 e1.symm
                  obtain ⟨z, z1, z2, z3⟩ := r2 j hj2
                  rw [he2] at z2
                  exact ⟨z, z1, z2, z3⟩
                obtain ⟨ns, n1, n2⟩ := view_firstCells (cap := xc') hview hut htl X.P
                have hce : (cellsOf es).length = es.length * shz shx := cellsOf_len hel
                have hcu : (cellsOf (us.take mm)).length = mm * shz shx := by rw [cellsOf_len hul, htl]
                have hle : i + (us.take mm).length ≤ es.length := by rw [htl]; omega
                have hm : (i + mm) * shz shx ≤ m := by
                  have h1 : (i + mm) * shz shx ≤ es.length * shz shx := Nat.mul_le_mul_right _ (by rw [htl] at hle; exact hle)
                  omega
                obtain ⟨φ', w', s1, s2, s3, s4⟩ := S.write q1 (by rw [q2]; exact p1) (off := i * shz shx) (vs := cellsOf (us.take mm)) (xs := ns.toList) (es' := splice es i (us.take mm))
                  (by simpa using n2.1) (fun j p q => by rw [Array.getElem_toList]; exact n2.2 j p _) (by rw [hcu, ← Nat.add_mul]; exact hm)
                  (by
                    intro e he
                    unfold splice at he
                    rcases List.mem_append.1 he with h1 | h1
                    · rcases List.mem_append.1 h1 with h2 | h2
                      · exact k3 e (List.mem_of_mem_take h2)
                      · exact hut e h2
                    · exact k3 e (List.mem_of_mem_drop h1)) (by rw [splice_len hle]; exact Nat.le_refl _)
                  (by rw [cellsOf_splice hel hul hle, splice_len (by rw [hcu, hce, ← Nat.add_mul]; exact Nat.mul_le_mul_right _ (by rw [htl] at hle; exact hle))]; omega)
                  (by
                    intro j hj
                    rw [cellsOf_splice hel hul hle, splice_get (by rw [hcu, hce, ← Nat.add_mul]; exact Nat.mul_le_mul_right _ (by rw [htl] at hle; exact hle))])
                refine ⟨φ', F, w', _, .int .i64 mm, run_builtin (fun cs => ?_), .inl rfl, .int _ _, s3, s4⟩
                have hfc : (Builtin.firstCells sz mm (ρ s)).run X.P w = .ok ns w := by
                  rw [r1, ← c1]
                  have := n1 w.drawn
                  -- the length in the header does not matter to the reading
                  simpa [Builtin.firstCells] using this
                have hmin : Nat.min us.length n = mm := hmm
                have hcp : (Builtin.copy_ #[T, U] ty #[ρ d, ρ s]).run X.P w = .ok (goInt mm) w' := by
                  rw [p3]
                  simp only [Builtin.copy_, List.size_toArray, List.length_cons, List.length_nil, Nat.reduceAdd, Nat.zero_lt_succ, getElem?_pos, List.getElem_toArray, List.getElem_cons_zero, Nat.lt_add_one, List.getElem_cons_succ,
                    Sem.run_bind, run_underlying hu, Result.andThen_ok, hls, run_szOf g1, hmin, hfc, s1, Sem.run_pure]
                simp [Go.builtin, hcp, goInt]
            · cases he
          · cases he
        · cases he
      · cases hc
    · cases hc
  · cases hc

theorem good_value_call {f : Operand} {args : Array Operand} {at' : Array TypeId} : Good X live slot ⟨dst, .call { callee := .value f, args := args, argTypes := at' }, ty, pos, after, gd⟩ := by
  intro n0 φ F H w t ρ base r v H' S hρ hc he
  simp only [compOp] at hc
  split at hc
  · cases hc; simp [exOp] at he
  · cases hc

/-- EVERY OPERATION THAT IS TRANSLATED -/
theorem good_all (o : Oper) : Good X live slot o := by
  obtain ⟨dst, op, ty, pos, after, gd⟩ := o
  cases op with
  | move x => exact good_move
  | assign x => exact good_assign
  | pick c a b => exact good_pick
  | alloc t => exact good_alloc
  | box t x => exact good_box
  | build t ps => exact good_build
  | buildSlice t n ps => exact good_bsl
  | insert t m k v => exact good_insert
  | load t a => exact good_load
  | store t a v => exact good_store
  | nilCheck x => exact good_nilchk
  | binOp op t x y t' => exact good_bin
  | unOp op t x => exact good_un
  | convert s d x => exact good_conv
  | makeFunc fn a b => exact good_mkfn
  | makeMap t r => exact good_mkmap
  | makeSlice t l c => exact good_mksl
  | slice t x l h m => exact good_slice
  | fieldAddr t x f => exact good_fa
  | field t x f => exact good_fld
  | indexAddr t x i => exact good_ia
  | index t x i => exact good_idx
  | lookup t m k ok => exact good_look
  | mapUpdate t m k v => exact good_mupd
  | extract x i => exact good_ext
  | range t x => exact good_range
  | next it str => exact good_next
  | entry it => exact good_entry
  | call c =>
    obtain ⟨callee, args, at'⟩ := c
    cases callee with
    | value f => exact good_value_call
    | invoke a b => intro n0 φ F H w t ρ base r v H' S hρ hc he; simp [compOp] at hc
    | builtin b =>
      cases b <;> first
        | exact good_app
        | exact good_len
        | exact good_cap
        | exact good_max
        | exact good_min
        | exact good_clear
        | exact good_copy
        | (intro n0 φ F H w t ρ base r v H' S hρ hc he; simp [compOp] at hc; done)
  | _ => intro n0 φ F H w t ρ base r v H' S hρ hc he; simp [compOp] at hc

end
end Go.Ai
end
