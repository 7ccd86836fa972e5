/- The texts that conflict.Text makes are as the law asks: plain law. -/
import Derived.Test.YtcocemppeccldaaGreatDoorLwA
import Derived.Laws.Strings
set_option linter.unusedVariables false
set_option linter.unusedSimpArgs false
namespace Go.S32
open Go Go.Ai

theorem tmod4 {n : Int} (h : 0 ≤ n) : n.tmod 4 = 0 ∨ n.tmod 4 = 1 ∨ n.tmod 4 = 2 ∨ n.tmod 4 = 3 := by
  rw [Int.tmod_eq_emod_of_nonneg h]; omega

theorem okw {r : Int} (h : r = 0 ∨ r = 1 ∨ r = 2 ∨ r = 3) : okK (IntKind.i64.wrap (1 + IntKind.i64.wrap r)) = true := by
  rcases h with rfl | rfl | rfl | rfl <;> decide

theorem K1_ok {wh : Int} (h : 0 ≤ wh ∧ wh ≤ 255) : okK (K1 wh) = true := okw (tmod4 h.1)

theorem K2_ok {wh : Int} (h : 0 ≤ wh ∧ wh ≤ 255) : okK (K2 wh) = true := by
  refine okw (tmod4 ?_)
  have h1 : wh.tdiv 4 = wh / 4 := Int.tdiv_eq_ediv_of_nonneg h.1
  have h2 : IntKind.u8.wrap (wh.tdiv 4) = wh / 4 := by
    rw [h1]
    simp [IntKind.wrap, IntKind.bits, IntKind.signed]
    omega
  rw [h2]; omega

theorem txt_pos (k w a b d1 d2 : Int) : decide (((txtK k w a b d1 d2).size : Int) > 0) = true := by
  unfold txtK txt1 txt2 txt3 txt4
  simp only [decide_eq_true_eq]
  split
  · simp only [ByteArray.size_append, bsz, List.length_cons, List.length_nil]; omega
  · split
    · simp only [ByteArray.size_append, bsz, List.length_cons, List.length_nil]; omega
    · split
      · simp only [ByteArray.size_append, bsz, List.length_cons, List.length_nil]; omega
      · simp only [ByteArray.size_append, bsz, List.length_cons, List.length_nil]; omega

/-! ### numerals -/
def isN (c : UInt8) : Bool := decide (c = 45) || (decide (48 ≤ c.toNat) && decide (c.toNat ≤ 57))

theorem dig_toNat {u : Nat} (h : u < 10) : (UInt8.ofNat (48 + u)).toNat = 48 + u := by
  rw [UInt8.toNat_ofNat']; omega

theorem dec_isN (u : Nat) : ∀ c ∈ Lib.decDigits u, 48 ≤ c.toNat ∧ c.toNat ≤ 57 := by
  induction u using Nat.strongRecOn with
  | _ u ih =>
    intro c hc
    rw [Lib.decDigits] at hc
    split at hc
    · rename_i h
      simp only [List.mem_singleton] at hc
      subst hc
      rw [dig_toNat h]; omega
    · rename_i h
      rcases List.mem_append.1 hc with hc | hc
      · exact ih (u / 10) (by omega) c hc
      · simp only [List.mem_singleton] at hc
        subst hc
        rw [dig_toNat (by omega)]; omega

def val (l : List UInt8) : Nat := l.foldl (fun acc c => acc * 10 + (c.toNat - 48)) 0

theorem val_dec (u : Nat) : val (Lib.decDigits u) = u := by
  induction u using Nat.strongRecOn with
  | _ u ih =>
    rw [Lib.decDigits]
    split
    · rename_i h
      simp only [val, List.foldl_cons, List.foldl_nil, dig_toNat h]; omega
    · rename_i h
      have := ih (u / 10) (by omega)
      simp only [val, List.foldl_append, List.foldl_cons, List.foldl_nil] at this ⊢
      rw [this, dig_toNat (by omega)]; omega

theorem dec_inj {u v : Nat} (h : Lib.decDigits u = Lib.decDigits v) : u = v := by rw [← val_dec u, ← val_dec v, h]

theorem dec_ne (u : Nat) : ∀ r, Lib.decDigits u ≠ 45 :: r := by
  intro r h
  have := dec_isN u 45 (by rw [h]; simp)
  revert this; decide

theorem itoa_inj {n m : Int} (h : Lib.itoa n = Lib.itoa m) : n = m := by
  unfold Lib.itoa at h
  split at h
  · split at h
    · simp only [List.cons.injEq, true_and] at h
      have := dec_inj h; omega
    · exact absurd h.symm (dec_ne _ _)
  · split at h
    · exact absurd h (dec_ne _ _)
    · have := dec_inj h; omega

theorem itoa_isN (n : Int) : ∀ c ∈ Lib.itoa n, isN c = true := by
  intro c hc
  unfold Lib.itoa at hc
  have key : ∀ u, c ∈ Lib.decDigits u → isN c = true := fun u h => by
    have := dec_isN u c h
    simp [isN, this]
  split at hc
  · rcases List.mem_cons.1 hc with rfl | hc
    · rfl
    · exact key _ hc
  · exact key _ hc

/-- a numeral ends at the first sign that is none of a numeral -/
theorem num_split {n m : Int} {c c' : UInt8} {r r' : List UInt8} (hc : isN c = false) (hc' : isN c' = false) (h : Lib.itoa n ++ c :: r = Lib.itoa m ++ c' :: r') : n = m ∧ c :: r = c' :: r' := by
  have key : ∀ (n : Int) (c : UInt8) (r : List UInt8), isN c = false → (Lib.itoa n ++ c :: r).takeWhile isN = Lib.itoa n ∧ (Lib.itoa n ++ c :: r).dropWhile isN = c :: r := by
    intro n c r hc
    have hall : ∀ x ∈ Lib.itoa n, isN x = true := itoa_isN n
    constructor
    · rw [List.takeWhile_append_of_pos hall]; simp [List.takeWhile_cons, hc]
    · rw [List.dropWhile_append_of_pos hall]; simp [List.dropWhile_cons, hc]
  obtain ⟨k1, k2⟩ := key n c r hc
  obtain ⟨k3, k4⟩ := key m c' r' hc'
  rw [h] at k1 k2
  exact ⟨itoa_inj (k1.symm.trans k3), k2.symm.trans k4⟩

theorem its_list (n : Int) : (its n).toList = Lib.itoa n := by simp [its]
theorem byts_list (l : List UInt8) : (byts l).toList = l := by simp [byts]
theorem app_list (a b : ByteArray) : (a ++ b).toList = a.toList ++ b.toList := by simp [ByteArray.toList_eq]

/-- the texts, as lists -/
theorem l1 (w a b d1 d2 : Int) : (txt1 w a b d1 d2).toList = [114, 111, 111, 109, 32] ++ (Lib.itoa w ++ (58 :: ([32, 109, 101, 101, 116, 105, 110, 103] ++ (115 :: 32 :: (Lib.itoa a ++ (32 :: ([97, 110, 100, 32] ++ (Lib.itoa b ++ (32 :: ([111, 118, 101, 114, 108, 97, 112, 32, 111, 110, 32, 100, 97, 121, 115, 32] ++ (Lib.itoa d1 ++ (32 :: ([97, 110, 100, 32] ++ Lib.itoa d2))))))))))))) := by
  simp [txt1, app_list, its_list, byts_list]
theorem l2 (w a b d1 d2 : Int) : (txt2 w a b d1 d2).toList = [112, 101, 114, 115, 111, 110, 32] ++ (Lib.itoa w ++ (58 :: ([32, 109, 101, 101, 116, 105, 110, 103] ++ (115 :: 32 :: (Lib.itoa a ++ (32 :: ([97, 110, 100, 32] ++ (Lib.itoa b ++ (32 :: ([111, 118, 101, 114, 108, 97, 112, 32, 111, 110, 32, 100, 97, 121, 115, 32] ++ (Lib.itoa d1 ++ (32 :: ([97, 110, 100, 32] ++ Lib.itoa d2))))))))))))) := by
  simp [txt2, app_list, its_list, byts_list]
theorem l3 (w a b d1 d2 : Int) : (txt3 w a b d1 d2).toList = [114, 111, 111, 109, 32] ++ (Lib.itoa w ++ (58 :: ([32, 109, 101, 101, 116, 105, 110, 103] ++ (32 :: (Lib.itoa a ++ (32 :: ([105, 115, 32, 111, 117, 116, 115, 105, 100, 101, 32, 111, 102, 32, 116, 104, 101, 32, 111, 112, 101, 110, 105, 110, 103, 32, 104, 111, 117, 114, 115, 32, 111, 110, 32, 100, 97, 121, 32] ++ Lib.itoa d1))))))) := by
  simp [txt3, app_list, its_list, byts_list]
theorem l4 (w a b d1 d2 : Int) : (txt4 w a b d1 d2).toList = [114, 111, 111, 109, 32] ++ (Lib.itoa w ++ (58 :: ([32, 109, 101, 101, 116, 105, 110, 103] ++ (32 :: (Lib.itoa a ++ (32 :: ([101, 120, 99, 101, 101, 100, 115, 32, 97, 32, 113, 117, 111, 116, 97, 32, 111, 110, 32, 100, 97, 121, 32] ++ Lib.itoa d1))))))) := by
  simp [txt4, app_list, its_list, byts_list]

theorem n58 : isN 58 = false := by decide
theorem n32 : isN 32 = false := by decide

/-- both of one of the first kinds -/
theorem pair_inj {p : List UInt8} {w a b d1 d2 w' a' b' d1' d2' : Int}
    (h : p ++ (Lib.itoa w ++ (58 :: ([32, 109, 101, 101, 116, 105, 110, 103] ++ (115 :: 32 :: (Lib.itoa a ++ (32 :: ([97, 110, 100, 32] ++ (Lib.itoa b ++ (32 :: ([111, 118, 101, 114, 108, 97, 112, 32, 111, 110, 32, 100, 97, 121, 115, 32] ++ (Lib.itoa d1 ++ (32 :: ([97, 110, 100, 32] ++ Lib.itoa d2))))))))))))) =
      p ++ (Lib.itoa w' ++ (58 :: ([32, 109, 101, 101, 116, 105, 110, 103] ++ (115 :: 32 :: (Lib.itoa a' ++ (32 :: ([97, 110, 100, 32] ++ (Lib.itoa b' ++ (32 :: ([111, 118, 101, 114, 108, 97, 112, 32, 111, 110, 32, 100, 97, 121, 115, 32] ++ (Lib.itoa d1' ++ (32 :: ([97, 110, 100, 32] ++ Lib.itoa d2')))))))))))))) :
    w = w' ∧ a = a' ∧ b = b' ∧ d1 = d1' ∧ d2 = d2' := by
  have h := List.append_cancel_left h
  obtain ⟨e1, h⟩ := num_split n58 n58 h
  simp only [List.cons.injEq, true_and] at h
  have h := List.append_cancel_left h
  simp only [List.cons.injEq, true_and] at h
  obtain ⟨e2, h⟩ := num_split n32 n32 h
  simp only [List.cons.injEq, true_and] at h
  have h := List.append_cancel_left h
  obtain ⟨e3, h⟩ := num_split n32 n32 h
  simp only [List.cons.injEq, true_and] at h
  have h := List.append_cancel_left h
  obtain ⟨e4, h⟩ := num_split n32 n32 h
  simp only [List.cons.injEq, true_and] at h
  have h := List.append_cancel_left h
  exact ⟨e1, e2, e3, e4, itoa_inj h⟩

theorem single_inj {q : List UInt8} {w a d1 w' a' d1' : Int}
    (h : [114, 111, 111, 109, 32] ++ (Lib.itoa w ++ (58 :: ([32, 109, 101, 101, 116, 105, 110, 103] ++ (32 :: (Lib.itoa a ++ (32 :: (q ++ Lib.itoa d1))))))) =
      [114, 111, 111, 109, 32] ++ (Lib.itoa w' ++ (58 :: ([32, 109, 101, 101, 116, 105, 110, 103] ++ (32 :: (Lib.itoa a' ++ (32 :: (q ++ Lib.itoa d1')))))))) : w = w' ∧ a = a' ∧ d1 = d1' := by
  have h := List.append_cancel_left h
  obtain ⟨e1, h⟩ := num_split n58 n58 h
  simp only [List.cons.injEq, true_and] at h
  have h := List.append_cancel_left h
  simp only [List.cons.injEq, true_and] at h
  obtain ⟨e2, h⟩ := num_split n32 n32 h
  simp only [List.cons.injEq, true_and] at h
  have h := List.append_cancel_left h
  exact ⟨e1, e2, itoa_inj h⟩

/-- the first kind's against the others' -/
theorem n13 {q : List UInt8} {w a w' : Int} {r : List UInt8} :
    [114, 111, 111, 109, 32] ++ (Lib.itoa w ++ (58 :: ([32, 109, 101, 101, 116, 105, 110, 103] ++ (115 :: r)))) ≠ [114, 111, 111, 109, 32] ++ (Lib.itoa w' ++ (58 :: ([32, 109, 101, 101, 116, 105, 110, 103] ++ (32 :: (Lib.itoa a ++ (32 :: q)))))) := by
  intro h
  have h := List.append_cancel_left h
  obtain ⟨e1, h⟩ := num_split n58 n58 h
  simp only [List.cons.injEq, true_and] at h
  have h := List.append_cancel_left h
  simp at h

theorem n34 {w a w' a' : Int} {r r' : List UInt8} :
    [114, 111, 111, 109, 32] ++ (Lib.itoa w ++ (58 :: ([32, 109, 101, 101, 116, 105, 110, 103] ++ (32 :: (Lib.itoa a ++ (32 :: (105 :: r))))))) ≠ [114, 111, 111, 109, 32] ++ (Lib.itoa w' ++ (58 :: ([32, 109, 101, 101, 116, 105, 110, 103] ++ (32 :: (Lib.itoa a' ++ (32 :: (101 :: r'))))))) := by
  intro h
  have h := List.append_cancel_left h
  obtain ⟨e1, h⟩ := num_split n58 n58 h
  simp only [List.cons.injEq, true_and] at h
  have h := List.append_cancel_left h
  simp only [List.cons.injEq, true_and] at h
  obtain ⟨e2, h⟩ := num_split n32 n32 h
  simp at h

theorem beq_iff {α : Type} [BEq α] [LawfulBEq α] {x y : α} {r : Bool} (h : x = y ↔ r = true) : (x == y) = r := by
  cases r
  · simpa using h
  · simpa using h

theorem txt_law {k1 w a b d1 d2 k2 w' a' b' d1' d2' : Int} (o1 : okK k1 = true) (o2 : okK k2 = true) :
    ((txtK k1 w a b d1 d2).toList == (txtK k2 w' a' b' d1' d2').toList) = lawS k1 w a b d1 d2 k2 w' a' b' d1' d2' := by
  have o1 : k1 = 1 ∨ k1 = 2 ∨ k1 = 3 ∨ k1 = 4 := by simpa [okK, or_assoc] using o1
  have o2 : k2 = 1 ∨ k2 = 2 ∨ k2 = 3 ∨ k2 = 4 := by simpa [okK, or_assoc] using o2
  have t1 : ∀ w a b d1 d2, txtK 1 w a b d1 d2 = txt1 w a b d1 d2 := fun _ _ _ _ _ => rfl
  have t2 : ∀ w a b d1 d2, txtK 2 w a b d1 d2 = txt2 w a b d1 d2 := fun _ _ _ _ _ => rfl
  have t3 : ∀ w a b d1 d2, txtK 3 w a b d1 d2 = txt3 w a b d1 d2 := fun _ _ _ _ _ => rfl
  have t4 : ∀ w a b d1 d2, txtK 4 w a b d1 d2 = txt4 w a b d1 d2 := fun _ _ _ _ _ => rfl
  refine beq_iff ?_
  rcases o1 with rfl | rfl | rfl | rfl <;> rcases o2 with rfl | rfl | rfl | rfl
  · rw [t1, t1, l1, l1]
    constructor
    · intro h; obtain ⟨rfl, rfl, rfl, rfl, rfl⟩ := pair_inj h; simp [lawS]
    · intro h; simp [lawS] at h; obtain ⟨⟨rfl, rfl, rfl⟩, rfl, rfl⟩ := h; rfl
  · rw [t1, t2, l1, l2]; simp [lawS]
  · rw [t1, t3, l1, l3]
    constructor
    · intro h; exact absurd h n13
    · intro h; simp [lawS] at h
  · rw [t1, t4, l1, l4]
    constructor
    · intro h; exact absurd h n13
    · intro h; simp [lawS] at h
  · rw [t2, t1, l2, l1]; simp [lawS]
  · rw [t2, t2, l2, l2]
    constructor
    · intro h; obtain ⟨rfl, rfl, rfl, rfl, rfl⟩ := pair_inj h; simp [lawS]
    · intro h; simp [lawS] at h; obtain ⟨⟨rfl, rfl, rfl⟩, rfl, rfl⟩ := h; rfl
  · rw [t2, t3, l2, l3]; simp [lawS]
  · rw [t2, t4, l2, l4]; simp [lawS]
  · rw [t3, t1, l3, l1]
    constructor
    · intro h; exact absurd h.symm n13
    · intro h; simp [lawS] at h
  · rw [t3, t2, l3, l2]; simp [lawS]
  · rw [t3, t3, l3, l3]
    constructor
    · intro h; obtain ⟨rfl, rfl, rfl⟩ := single_inj h; simp [lawS]
    · intro h; simp [lawS] at h; obtain ⟨rfl, rfl, rfl⟩ := h; rfl
  · rw [t3, t4, l3, l4]
    constructor
    · intro h; exact absurd h n34
    · intro h; simp [lawS] at h
  · rw [t4, t1, l4, l1]
    constructor
    · intro h; exact absurd h.symm n13
    · intro h; simp [lawS] at h
  · rw [t4, t2, l4, l2]; simp [lawS]
  · rw [t4, t3, l4, l3]
    constructor
    · intro h; exact absurd h.symm n34
    · intro h; simp [lawS] at h
  · rw [t4, t4, l4, l4]
    constructor
    · intro h; obtain ⟨rfl, rfl, rfl⟩ := single_inj h; simp [lawS]
    · intro h; simp [lawS] at h; obtain ⟨rfl, rfl, rfl⟩ := h; rfl

end Go.S32
