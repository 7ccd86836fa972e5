/- strconv.Itoa is known: what the shelf's contract says, as an abstract known function. -/
import Derived.Test.YtcocemppeccldaaGreatDoorEnv
import Derived.Test.YtcocemppeccldaaGreatDoorAiF
import Derived.Test.YtcocemppeccldaaGreatDoorIto
import Derived.Lib.Small
set_option linter.unusedVariables false
set_option linter.unusedSimpArgs false
namespace Go.S32
open Go Go.Ai Go.RowKit Go.Proofs

noncomputable def gTab : Nat := (Tryz.prog.globalNamed "internal/strconv.uint64pow10").getD 0
theorem gTab_eq : Tryz.prog.globalNamed "internal/strconv.uint64pow10" = some gTab := by kernel_rfl

/-- the table, frozen from the beginning -/
noncomputable def F0 : Fz := fun b => if b = gTab then some (.cells (Lib.pow10Tab.map fun z => Value.int .u64 z)) else none

def inR (n : Int) : Bool := decide (-9223372036854775808 ≤ n) && decide (n ≤ 9223372036854775807)
def its (n : Int) : ByteArray := ⟨(Lib.itoa n).toArray⟩
def itoaP : List V → Option V
  | [.int .i64 n] => if inR n = true then some (.str (its n)) else none
  | _ => none

theorem tab_of {F : Fz} {w : World} (h0 : F0.le F) (hF : ∀ b fo, F b = some fo → ∃ c, w.heap[b]? = some c ∧ FRel fo c) :
    Lib.TabIs Tryz.prog w "internal/strconv.uint64pow10" .u64 Lib.pow10Tab := by
  have h := h0 gTab _ (by simp only [F0, if_true]; rfl)
  obtain ⟨c, h1, cs, T, fr, rfl, h2⟩ := hF _ _ h
  unfold Lib.TabIs World.var?
  rw [gTab_eq]
  simp only [Option.bind_some, h1, Option.some.injEq]
  rw [← h2]

theorem itoa_ok {X : Ctx} (hP : X.P = Tryz.prog) (h0 : X.F0 = F0) : PrimOK X 15 itoaP := by
  intro args v hp F w xs hv hF hle
  unfold itoaP at hp
  split at hp
  · rename_i n
    obtain ⟨hr, hp⟩ := ite_none_some hp
    cases hp
    simp only [inR, Bool.and_eq_true, decide_eq_true_eq] at hr
    have hl := hv.1
    simp only [List.length_cons, List.length_nil, Array.length_toList] at hl
    obtain ⟨x, rfl⟩ : ∃ x, xs = #[x] := by
      match xs, hl with
      | ⟨[x]⟩, _ => exact ⟨x, rfl⟩
    have hx := (hv.2 0 (by simp) (by simp)).int_inv
    simp only [List.getElem_cons_zero] at hx
    subst hx
    have htab := tab_of (h0 ▸ hle) hF
    have hc := Tryz.strconv_Itoa n hr.1 hr.2 w htab
    rw [← hP] at hc
    refine ⟨.enter 15 #[.int .i64 n], by rw [hP]; simp [callFunc, Tryz.func15]; rfl, fun c cs => ?_⟩
    obtain ⟨e, w', fr, ⟨rfl, k, os, rfl⟩, hst, hfn, hlv⟩ := hc (c :: cs)
    have hb : Below w.heap.size w (Go.Sort.grow (w.drewN k) os) := by
      refine ⟨rfl, rfl, rfl, by simp [Go.Sort.grow, World.drewN], fun b hb => ?_⟩
      simp [Go.Sort.grow, World.drewN, Array.getElem?_append, hb]
    refine ⟨Phi.none, F, _, _, .str _, ⟨hb.size, fun _ _ _ => rfl, fun _ _ _ => rfl, fun _ _ _ _ _ _ => rfl, fun a o h => absurd h (by simp), fun a a' o o' b n n' h => absurd h (by simp), fun b fo h => ?_, hle⟩,
      ⟨Phi.le.refl _, Fz.le.refl _, hb, fun _ _ => rfl⟩, .inr (.inl ⟨15, _, rfl, Steps.trans hst (Steps.one (step_leave_returned hlv))⟩)⟩
    obtain ⟨c1, k1, k2⟩ := hF b fo h
    exact ⟨c1, by rw [hb.block b (heap_lt k1)]; exact k1, k2⟩
  · cases hp

end Go.S32
