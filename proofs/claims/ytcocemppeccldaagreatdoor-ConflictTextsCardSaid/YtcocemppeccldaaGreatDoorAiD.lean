/- One step of the abstract code, and code whose order of evaluation is drawn, agree with the model. -/
import Derived.Test.YtcocemppeccldaaGreatDoorAiC
import Derived.Calls
import Derived.Orders
set_option linter.unusedVariables false
set_option linter.unusedSimpArgs false
section
namespace Go.Ai
open Go Go.RowKit

/-- a frame that runs -/
def Fr (b : Frame) (tm : Array Value) (todo : List Item) (df : List Deferred) : Frame :=
  { fn := b.fn, tmps := tm, todo := todo, defers := df, mode := .run, kind := b.kind, roundOf := b.roundOf }

section
variable {P : Program} {b : Frame} {tm : Array Value} {k : List Item} {df : List Deferred} {cs : List Frame} {w : World}

theorem st_skip : step P (lone (Fr b tm (.code .skip :: k) df) cs w) = .next (lone (Fr b tm k df) cs w) := step_lone_go (by simp [stepG, stepG.exec, Fr])
theorem st_label {l : Nat} : step P (lone (Fr b tm (.code (.label l) :: k) df) cs w) = .next (lone (Fr b tm k df) cs w) := step_lone_go (by simp [stepG, stepG.exec, Fr])
theorem st_inBlock {i : Nat} : step P (lone (Fr b tm (.inBlock i :: k) df) cs w) = .next (lone (Fr b tm k df) cs w) := step_lone_go (by simp [stepG, stepG.exec, Fr])
theorem st_inScope {c : Code} : step P (lone (Fr b tm (.inScope c :: k) df) cs w) = .next (lone (Fr b tm k df) cs w) := step_lone_go (by simp [stepG, stepG.exec, Fr])
theorem st_seq {x y : Code} : step P (lone (Fr b tm (.code (.seq x y) :: k) df) cs w) = .next (lone (Fr b tm (.code x :: .code y :: k) df) cs w) := step_lone_go (by simp [stepG, stepG.exec, Fr])
theorem st_block {i : Nat} {c : Code} : step P (lone (Fr b tm (.code (.block i c) :: k) df) cs w) = .next (lone (Fr b tm (.code c :: .inBlock i :: k) df) cs w) := step_lone_go (by simp [stepG, stepG.exec, Fr])
theorem st_loop {c : Code} : step P (lone (Fr b tm (.code (.loop c) :: k) df) cs w) = .next (lone (Fr b tm (.code c :: .inLoop c :: k) df) cs w) := step_lone_go (by simp [stepG, stepG.exec, Fr])
theorem st_inLoop {c : Code} : step P (lone (Fr b tm (.inLoop c :: k) df) cs w) = .next (lone (Fr b tm (.code c :: .inLoop c :: k) df) cs w) := step_lone_go (by simp [stepG, stepG.exec, Fr])
theorem st_scope {c : Code} : step P (lone (Fr b tm (.code (.scope c) :: k) df) cs w) = .next (lone (Fr b tm (.code c :: .inScope c :: k) df) cs w) := step_lone_go (by simp [stepG, stepG.exec, Fr])
theorem st_exit {i : Nat} {k' : List Item} (h : exitTo i k = some k') : step P (lone (Fr b tm (.code (.exit i) :: k) df) cs w) = .next (lone (Fr b tm k' df) cs w) :=
  step_lone_go (by simp [stepG, stepG.exec, Fr, h])
theorem st_goto {l : Nat} {k' : List Item} (h : gotoIn l k = some k') : step P (lone (Fr b tm (.code (.goto l) :: k) df) cs w) = .next (lone (Fr b tm k' df) cs w) :=
  step_lone_go (by simp [stepG, stepG.exec, Fr, h])

/-- what operands come to in a frame -/
def evalIn (tm : Array Value) : Operand → Value
  | .tmp t => tm.getD t undef
  | .const v => v
  | .global g => .pointer (some ⟨g, 0, none⟩)
  | .func f => .func (.func f) #[] #[]

theorem eval_Fr (todo : List Item) : (Fr b tm todo df).eval = evalIn tm := by funext x; cases x <;> rfl

theorem st_cond {c : Operand} {x y : Code} {t : Bool} (h : evalIn tm c = .bool t) :
    step P (lone (Fr b tm (.code (.cond c x y) :: k) df) cs w) = .next (lone (Fr b tm (.code (if t then x else y) :: k) df) cs w) :=
  step_lone_go (by
    have := congrFun (eval_Fr (b := b) (tm := tm) (df := df) (.code (.cond c x y) :: k)) c
    simp only [Fr] at this
    simp [stepG, stepG.exec, Fr, this, h])

theorem st_region {id : Nat} {ops : Array Oper} : step P (lone (Fr b tm (.code (.region id ops false) :: k) df) cs w) = .next (lone (Fr b tm (.inRegion ops (List.range ops.size) :: k) df) cs w) :=
  step_lone_go (by simp [stepG, stepG.exec, Fr])
theorem st_draw {id : Nat} {ops : Array Oper} : step P (lone (Fr b tm (.code (.region id ops true) :: k) df) cs w) =
    .next (lone (Fr b tm (.inRegion ops (Region.schedule (P.follows .mixedOrders) ops (w.tape w.drawn (.order b.fn id))) :: k) df) cs { w with drawn := w.drawn + 1 }) :=
  step_lone_go (by simp [stepG, stepG.exec, Fr, choose, Sem.run, Question.forced, Question.cut])
theorem st_regionEnd {ops : Array Oper} : step P (lone (Fr b tm (.inRegion ops [] :: k) df) cs w) = .next (lone (Fr b tm k df) cs w) := step_lone_go (by simp [stepG, stepG.exec, Fr])

theorem finish_Fr {ops : Array Oper} {i : Nat} {rest : List Nat} {v : Value} :
    (Fr b tm (.inRegion ops (i :: rest) :: k) df).finish v = Fr b (match (ops[i]?).bind (·.dst) with | some d => tm.setIfInBounds d v | none => tm) (.inRegion ops rest :: k) df := by
  simp only [Frame.finish, Fr]
  cases (ops[i]?).bind (·.dst) <;> rfl

theorem st_unwanted {ops : Array Oper} {i : Nat} {rest : List Nat} (h : ((ops[i]?).map (Region.wanted · (yielded ops tm))).getD false = false) :
    step P (lone (Fr b tm (.inRegion ops (i :: rest) :: k) df) cs w) = .next (lone ((Fr b tm (.inRegion ops (i :: rest) :: k) df).finish undef) cs w) :=
  step_lone_go (by
    have h' := h
    simp only [Fr] at *
    simp [stepG, stepG.exec, h'])

/-- an operation of a frame: the machine's own step -/
theorem stG_op {ops : Array Oper} {i : Nat} {rest : List Nat} {o : Oper} (ho : ops[i]? = some o) (hw : Region.wanted o (yielded ops tm) = true) (hd : ∀ c, o.op ≠ .defer c) :
    stepG P true { frame := Fr b tm (.inRegion ops (i :: rest) :: k) df, callers := cs, status := .running, dying := none } w =
      stepG.apply P true (Fr b tm (.inRegion ops (i :: rest) :: k) df) cs none (execOp (evalIn tm) o) w := by
  have he := eval_Fr (b := b) (tm := tm) (df := df) (.inRegion ops (i :: rest) :: k)
  simp only [Fr] at he
  cases hr : b.roundOf with
  | none => rw [hr] at he; simp [stepG, stepG.exec, stepG.oper, Frame.oper?, Fr, ho, hw, he, hr]
  | some l =>
    rw [hr] at he
    obtain ⟨dst, op, ty, pos, after, gd⟩ := o
    cases op <;> first
      | (exact absurd rfl (hd _))
      | (simp [stepG, stepG.exec, stepG.oper, Frame.oper?, Fr, ho, hw, he, hr])

theorem st_value {ops : Array Oper} {i : Nat} {rest : List Nat} {o : Oper} {nx : Next} {x : Value} {w' : World} (ho : ops[i]? = some o) (hw : Region.wanted o (yielded ops tm) = true) (hd : ∀ c, o.op ≠ .defer c)
    (hr : (execOp (evalIn tm) o).run P w = .ok nx w') (hx : nx = .value x ∨ (nx = .skip ∧ x = undef)) :
    step P (lone (Fr b tm (.inRegion ops (i :: rest) :: k) df) cs w) = .next (lone ((Fr b tm (.inRegion ops (i :: rest) :: k) df).finish x) cs w') :=
  step_lone_go (by
    rw [stG_op ho hw hd]
    rcases hx with rfl | ⟨rfl, rfl⟩ <;> simp [stepG.apply, hr])

theorem st_enter {ops : Array Oper} {i : Nat} {rest : List Nat} {o : Oper} {f : FuncId} {args : Array Value} {w' : World} (ho : ops[i]? = some o) (hw : Region.wanted o (yielded ops tm) = true) (hd : ∀ c, o.op ≠ .defer c)
    (hr : (execOp (evalIn tm) o).run P w = .ok (.enter f args) w') :
    step P (lone (Fr b tm (.inRegion ops (i :: rest) :: k) df) cs w) = .next (lone (Frame.enter P f args .normal) (Fr b tm (.inRegion ops (i :: rest) :: k) df :: cs) w') :=
  step_lone_go (by
    rw [stG_op ho hw hd]
    simp only [Fr]
    simp [stepG.apply, hr])

theorem st_round {ops : Array Oper} {i : Nat} {rest : List Nat} {o : Oper} {l : Nat} {f : FuncId} {tms : Array Value} {asn body : Code} {w' : World} (ho : ops[i]? = some o) (hw : Region.wanted o (yielded ops tm) = true) (hd : ∀ c, o.op ≠ .defer c)
    (hr : (execOp (evalIn tm) o).run P w = .ok (.round l f tms asn body) w') :
    step P (lone (Fr b tm (.inRegion ops (i :: rest) :: k) df) cs w) = .next (lone (Frame.round l f tms asn body .normal) (Fr b tm (.inRegion ops (i :: rest) :: k) df :: cs) w') :=
  step_lone_go (by
    rw [stG_op ho hw hd]
    simp only [Fr]
    simp [stepG.apply, hr])

/-- a loop over a function is entered: the call that it makes -/
theorem st_rangeFunc {f : Operand} {ps : Array Tmp} {asn body : Code} {l : Nat} {mark : List Deferred} {w1 w2 : World} {nx : Next}
    (he : (Instr.enterLoop b.fn tm ps asn body b.roundOf).run P w = .ok (l, mark) w1)
    (hr : (do let d ← resolve (evalIn tm) { callee := .value f, args := #[.const (.func (.yield l) #[] #[])], argTypes := #[] } 0; Go.invoke d.target d.args : Sem Next).run P w1 = .ok nx w2) :
    (∀ g args, nx = .enter g args → step P (lone (Fr b tm (.code (.rangeFunc f ps asn body) :: k) df) cs w) = .next (lone (Frame.enter P g args .normal) (Fr b tm (.inRangeFunc l :: k) (mark ++ df) :: cs) w2)) ∧
    (∀ l' g tms a' b', nx = .round l' g tms a' b' → step P (lone (Fr b tm (.code (.rangeFunc f ps asn body) :: k) df) cs w) = .next (lone (Frame.round l' g tms a' b' .normal) (Fr b tm (.inRangeFunc l :: k) (mark ++ df) :: cs) w2)) := by
  have hev := eval_Fr (b := b) (tm := tm) (df := mark ++ df) (.inRangeFunc l :: k)
  simp only [Fr] at hev
  constructor
  · rintro g args rfl
    exact step_lone_go (by simp only [Fr]; simp [stepG, stepG.exec, he, stepG.apply, hev]; simp at hr; simp [hr])
  · rintro l' g tms a' b' rfl
    exact step_lone_go (by simp only [Fr]; simp [stepG, stepG.exec, he, stepG.apply, hev]; simp at hr; simp [hr])

theorem finish_range {l : Nat} {v : Value} : (Fr b tm (.inRangeFunc l :: k) df).finish v = Fr b tm (.endRangeFunc l :: k) df := rfl

theorem st_endRange {l : Nat} {jump : Option Code} {w' : World} (h : (Instr.endLoop l).run P w = .ok jump w') :
    step P (lone (Fr b tm (.endRangeFunc l :: k) df) cs w) = .next (lone (Fr b tm ((jump.map Item.code).toList ++ k) df) cs w') :=
  step_lone_go (by simp [stepG, stepG.exec, Fr, h])

theorem st_beginRound {l : Nat} {w' : World} (hb : b.roundOf = some l) (h : (Instr.beginRound l).run P w = .ok () w') :
    step P (lone (Fr b tm (.beginRound :: k) df) cs w) = .next (lone (Fr b tm k df) cs w') :=
  step_lone_go (by simp [stepG, stepG.exec, Fr, hb, stepG.apply, h, Frame.finish])

/-- a round ends: its caller goes on -/
theorem st_leaveRound {l : Nat} {todo : List Item} {jump : Option Code} {v : Value} {w' : World} {c : Frame} (hb : b.roundOf = some l) (hk : b.kind = .normal)
    (ht : (todo = [] ∧ jump = none) ∨ (∃ r, todo = .code .ret :: r ∧ jump = some .ret) ∨ (∃ i r, todo = .code (.exit i) :: r ∧ exitTo i r = none ∧ jump = some (.exit i)) ∨ (∃ i r, todo = .code (.goto i) :: r ∧ gotoIn i r = none ∧ jump = some (.goto i)))
    (h : (Instr.endRound l jump).run P w = .ok v w') :
    step P (lone (Fr b tm todo df) (c :: cs) w) = .next (lone (c.finish v) cs w') := by
  rcases ht with ⟨rfl, rfl⟩ | ⟨r, rfl, rfl⟩ | ⟨i, r, rfl, hi, rfl⟩ | ⟨i, r, rfl, hi, rfl⟩
  · exact step_lone_go (by simp [stepG, stepG.exec, Fr, hb, h, doReturn, hk])
  · exact step_lone_go (by simp [stepG, stepG.exec, Fr, hb, h, doReturn, hk])
  · exact step_lone_go (by simp [stepG, stepG.exec, Fr, hb, h, doReturn, hk, hi])
  · exact step_lone_go (by simp [stepG, stepG.exec, Fr, hb, h, doReturn, hk, hi])

/-- a function's frame ends -/
def Ret (b : Frame) (tm : Array Value) (todo : List Item) (df : List Deferred) : Frame := { Fr b tm todo df with mode := .returning }

theorem st_ret (hb : b.roundOf = none) : step P (lone (Fr b tm (.code .ret :: k) df) cs w) = .next (lone (Ret b tm (.code .ret :: k) df) cs w) :=
  step_lone_go (by simp [stepG, stepG.exec, Fr, Ret, hb])
theorem st_end (hb : b.roundOf = none) : step P (lone (Fr b tm [] df) cs w) = .next (lone (Ret b tm [] df) cs w) :=
  step_lone_go (by simp [stepG, stepG.exec, Fr, Ret, hb])
theorem st_mark {todo : List Item} {blk : Nat} {as : Array Value} {w' : World} (h : (Instr.takeDeferred blk).run P w = .ok [] w') :
    step P (lone (Ret b tm todo ({ target := .collected blk, args := as } :: df)) cs w) = .next (lone (Ret b tm todo df) cs w') :=
  step_lone_go (by simp [stepG, unwind, Fr, Ret, h])

end
end Go.Ai
end
section
namespace Go.Ai
open Go Go.RowKit

/-! ### what an operation hangs on -/

theorem evA_congr {t t' : List V} {a : A} (h : ∀ x ∈ a.tmps, T.get t x = T.get t' x) : evA t a = evA t' a := by
  cases a with
  | t n => exact h n (by simp [A.tmps])
  | c v => rfl
  | k n g => exact h n (by simp [A.tmps])

theorem chkA_congr {t t' : List V} {a : A} (h : ∀ x ∈ a.tmps, T.get t x = T.get t' x) : chkA t a = chkA t' a := by
  cases a with
  | t n => rfl
  | c v => rfl
  | k n g => simp only [chkA, h n (by simp [A.tmps])]

theorem map_congr' {α β : Type} {f g : α → β} {l : List α} (h : ∀ x ∈ l, f x = g x) : l.map f = l.map g := List.map_congr_left h

theorem bnd_congr {t t' : List V} {a : Option A} {d : Nat} (h : ∀ x ∈ AO.tmps a, T.get t x = T.get t' x) : bnd t a d = bnd t' a d := by
  cases a with
  | none => rfl
  | some a => simp only [bnd, evA_congr (show ∀ x ∈ a.tmps, _ from h)]

theorem exOp_congr {t t' : List V} {H : Hp} {base : Nat} {r : R} (h : ∀ x ∈ r.tmps, T.get t x = T.get t' x) : exOp t H base r = exOp t' H base r := by
  have e : ∀ a : A, (∀ x ∈ a.tmps, x ∈ r.tmps) → evA t a = evA t' a := fun a ha => evA_congr fun x hx => h x (ha x hx)
  have eo : ∀ a : Option A, (∀ x ∈ AO.tmps a, x ∈ r.tmps) → ∀ d, bnd t a d = bnd t' a d := fun a ha d => bnd_congr fun x hx => h x (ha x hx)
  cases r with
  | build z ps =>
    have : (ps.map fun (p : Nat × Nat × A) => (p.1, p.2.1, evA t p.2.2)) = ps.map fun p => (p.1, p.2.1, evA t' p.2.2) :=
      map_congr' fun p hp => by rw [e p.2.2 fun x hx => by simp only [R.tmps, List.mem_flatMap]; exact ⟨p, hp, hx⟩]
    simp only [exOp]
    rw [this]
  | bsl live sh z n ps =>
    have : (ps.map fun (p : Nat × A) => (p.1, evA t p.2)) = ps.map fun p => (p.1, evA t' p.2) :=
      map_congr' fun p hp => by rw [e p.2 fun x hx => by simp only [R.tmps, List.mem_flatMap]; exact ⟨p, hp, hx⟩]
    simp only [exOp]
    rw [this]
  | mkfn f a b =>
    have h1 : a.map (evA t) = a.map (evA t') := map_congr' fun p hp => e p fun x hx => by simp only [R.tmps, List.mem_append, List.mem_flatMap]; exact .inl ⟨p, hp, hx⟩
    have h2 : b.map (evA t) = b.map (evA t') := map_congr' fun p hp => e p fun x hx => by simp only [R.tmps, List.mem_append, List.mem_flatMap]; exact .inr ⟨p, hp, hx⟩
    simp only [exOp, h1, h2]
  | mx as =>
    have h1 : as.map (evA t) = as.map (evA t') := map_congr' fun p hp => e p fun x hx => by simp only [R.tmps, List.mem_flatMap]; exact ⟨p, hp, hx⟩
    simp only [exOp, h1]
  | mn as =>
    have h1 : as.map (evA t) = as.map (evA t') := map_congr' fun p hp => e p fun x hx => by simp only [R.tmps, List.mem_flatMap]; exact ⟨p, hp, hx⟩
    simp only [exOp, h1]
  | slice sz x lo hi mx =>
    have h1 := e x fun y hy => by simp only [R.tmps, List.mem_append]; exact .inl (.inl (.inl hy))
    have h2 := eo lo fun y hy => by simp only [R.tmps, List.mem_append]; exact .inl (.inl (.inr hy))
    have h3 : ∀ d, bnd t hi d = bnd t' hi d := eo hi fun y hy => by simp only [R.tmps, List.mem_append]; exact .inl (.inr hy)
    have h4 : ∀ d, bnd t mx d = bnd t' mx d := eo mx fun y hy => by simp only [R.tmps, List.mem_append]; exact .inr hy
    simp only [exOp, h1, h2]
    cases hi <;> cases mx <;> simp only [h3, h4]
  | sslice x lo hi =>
    have h1 := e x fun y hy => by simp only [R.tmps, List.mem_append]; exact .inl (.inl hy)
    have h2 := eo lo fun y hy => by simp only [R.tmps, List.mem_append]; exact .inl (.inr hy)
    have h3 := eo hi fun y hy => by simp only [R.tmps, List.mem_append]; exact .inr hy
    simp only [exOp, h1, h2, h3]
  | _ =>
    simp only [R.tmps, List.mem_append] at e
    first
      | rfl
      | (simp only [exOp]; rw [e _ fun x hx => hx]; done)
      | (simp only [exOp]; rw [e _ fun x hx => .inl hx, e _ fun x hx => .inr hx]; done)
      | (simp only [exOp]; rw [e _ fun x hx => .inl (.inl hx), e _ fun x hx => .inl (.inr hx), e _ fun x hx => .inr hx]; done)

theorem touchId_congr {t t' : List V} {r : R} (h : ∀ x ∈ r.tmps, T.get t x = T.get t' x) : touchId t r = touchId t' r := by
  have e : ∀ a : A, (∀ x ∈ a.tmps, x ∈ r.tmps) → evA t a = evA t' a := fun a ha => evA_congr fun x hx => h x (ha x hx)
  cases r <;> first
    | rfl
    | (simp only [R.tmps, List.mem_append] at e; simp only [touchId]; rw [e _ fun x hx => hx]; done)
    | (simp only [R.tmps, List.mem_append] at e; simp only [touchId]; rw [e _ fun x hx => .inl hx]; done)
    | (simp only [R.tmps, List.mem_append] at e; simp only [touchId]; rw [e _ fun x hx => .inl (.inl hx)]; done)
theorem readId_congr {t t' : List V} {r : R} (h : ∀ x ∈ r.tmps, T.get t x = T.get t' x) : readId t r = readId t' r := by
  have e : ∀ a : A, (∀ x ∈ a.tmps, x ∈ r.tmps) → evA t a = evA t' a := fun a ha => evA_congr fun x hx => h x (ha x hx)
  cases r <;> first
    | rfl
    | (simp only [R.tmps, List.mem_append] at e; simp only [readId]; rw [e _ fun x hx => hx]; done)
    | (simp only [R.tmps, List.mem_append] at e; simp only [readId]; rw [e _ fun x hx => .inl hx]; done)

theorem callKind_cx (md : FuncId → Option FMode) (f : A) : callKind md f = .c ∨ callKind md f = .x ∨ callKind md f = .o := by
  unfold callKind
  split
  · split <;> simp
  · split <;> simp
  · simp
theorem slotKind_lx (s : Option Nat) : (∃ k, s = some k ∧ slotKind s = .l) ∨ slotKind s = .x := by
  cases s with
  | none => exact .inr rfl
  | some k => exact .inl ⟨k, rfl, rfl⟩

/-- pure operations -/
theorem kind_p_form {md : FuncId → Option FMode} {r : R} (hk : kindOf md r = .p) (t : List V) (base : Nat) (H : Hp) :
    exOp t H base r = ((exOp t [] base r).map (·.1)).map fun v => (v, H) := by
  have nosl : ∀ s, slotKind s ≠ .p := by intro s; rcases slotKind_lx s with ⟨k, _, h⟩ | h <;> rw [h] <;> simp
  cases r <;> simp only [kindOf] at hk <;> (try (simp at hk; done)) <;> (try (exact absurd hk (nosl _))) <;> simp only [exOp]
  case bsl live sh z n ps =>
    cases live with
    | none => simp only; split <;> rfl
    | some s => exact absurd hk (nosl _)
  all_goals
    first
    | rfl
    | (simp only [Option.map_map, Function.comp_def]; done)
    | (repeat' (first | rfl | (simp only [Option.map_map, Function.comp_def]; done) | split))

theorem kind_p {md : FuncId → Option FMode} {r : R} (hk : kindOf md r = .p) {t : List V} {H H' H1 : Hp} {base : Nat} {v : V} (h : exOp t H base r = some (v, H1)) :
    H1 = H ∧ exOp t H' base r = some (v, H') := by
  rw [kind_p_form hk t base H] at h
  obtain ⟨u, hu, he⟩ := optmap_some h
  cases he
  refine ⟨rfl, ?_⟩
  rw [kind_p_form hk t base H', hu]; rfl

/-- operations that read one object -/
theorem arrAt_congr {H H' : Hp} {a : Nat} (h : H'[a]? = H[a]?) (sh : Option Nat) (e : Nat) : arrAt H' a sh e = arrAt H a sh e := by simp only [arrAt, h]

theorem arrAt_there {H : Hp} {a e : Nat} {sh : Option Nat} {es : List V} (h : arrAt H a sh e = some es) : ∃ o, H[a]? = some o ∧ o ≠ .none_ := by
  rcases (arrAt_some h).1 with h | h <;> exact ⟨_, h, by simp⟩

theorem kind_r {md : FuncId → Option FMode} {r : R} (hk : kindOf md r = .r) {t : List V} {H H1 : Hp} {base : Nat} {v : V} (h : exOp t H base r = some (v, H1)) :
    H1 = H ∧ (∀ a, readId t r = some a → ∃ o, H[a]? = some o ∧ o ≠ .none_) ∧ ∀ H', (∀ a, readId t r = some a → H'[a]? = H[a]?) → exOp t H' base r = some (v, H') := by
  have nosl : ∀ s, slotKind s ≠ .r := by intro s; rcases slotKind_lx s with ⟨k, _, h⟩ | h <;> rw [h] <;> simp
  have nocl : ∀ f, callKind md f ≠ .r := by intro f; rcases callKind_cx md f with h | h | h <;> rw [h] <;> simp
  cases r <;> simp only [kindOf] at hk <;> (try (simp at hk; done)) <;> (try (exact absurd hk (nosl _))) <;> (try (exact absurd hk (nocl _)))
  case load g n x =>
    simp only [exOp, readId] at h ⊢
    cases hx : evA t x <;> rw [hx] at h <;> simp only at h ⊢ <;> (try (cases h; done))
    · rename_i a sh i o e
      split at h
      · rename_i es hes
        obtain ⟨u, hu, he⟩ := optmap_some h
        cases he
        refine ⟨rfl, fun a' ha => ?_, fun H' hH => ?_⟩
        · cases ha
          exact arrAt_there hes
        · rw [arrAt_congr (hH _ rfl), hes]
          simp [hu]
      · cases h
    · obtain ⟨u, hu, he⟩ := optmap_some h
      cases he
      exact ⟨rfl, fun a' ha => (by cases ha), fun H' hH => by simp [hu]⟩
  case look st ks z m k ok =>
    have hm : ∀ H', (∀ a, readId t (.look st ks z m k ok) = some a → H'[a]? = H[a]?) → mapOf H' (evA t m) = mapOf H (evA t m) := by
      intro H' hH
      simp only [readId] at hH
      cases hx : evA t m <;> simp only [mapOf]
      rename_i a
      rw [hx] at hH
      rw [hH a rfl]
    simp only [exOp] at h ⊢
    split at h
    · rename_i kk vv hmm
      have hrd : ∀ a, readId t (.look st ks z m k ok) = some a → ∃ o, H[a]? = some o ∧ o ≠ .none_ := by
        intro a ha
        simp only [readId] at ha
        cases hx : evA t m <;> rw [hx] at ha <;> (try (cases ha; done))
        cases ha
        rw [hx] at hmm
        simp only [mapOf] at hmm
        split at hmm
        · rename_i hq; exact ⟨_, hq, by simp⟩
        · cases hmm
      obtain ⟨hf, h⟩ := ite_none_some h
      split at h
      · rename_i i hfi
        split at h
        · rename_i u hu
          cases h
          refine ⟨rfl, hrd, fun H' hH => ?_⟩
          rw [hm H' hH, hmm]; simp [hf, hfi, hu]
        · cases h
      · rename_i hfi
        cases h
        refine ⟨rfl, hrd, fun H' hH => ?_⟩
        rw [hm H' hH, hmm]; simp [hf, hfi]
      · cases h
    · cases h
  case lenM x =>
    have hm : ∀ H', (∀ a, readId t (.lenM x) = some a → H'[a]? = H[a]?) → mapOf H' (evA t x) = mapOf H (evA t x) := by
      intro H' hH
      simp only [readId] at hH
      cases hx : evA t x <;> simp only [mapOf]
      rename_i a
      rw [hx] at hH
      rw [hH a rfl]
    simp only [exOp] at h ⊢
    obtain ⟨u, hu, he⟩ := optmap_some h
    cases he
    refine ⟨rfl, fun a ha => ?_, fun H' hH => by rw [hm H' hH, hu]; rfl⟩
    simp only [readId] at ha
    cases hx : evA t x <;> rw [hx] at ha <;> (try (cases ha; done))
    cases ha
    rw [hx] at hu
    simp only [mapOf] at hu
    split at hu
    · rename_i hq; exact ⟨_, hq, by simp⟩
    · cases hu
  case bsl live sh z n ps =>
    cases live with
    | none => simp at hk
    | some s => exact absurd hk (nosl _)

/-- operations that make an object in a slot -/
theorem kind_l {md : FuncId → Option FMode} {r : R} (hk : kindOf md r = .l) {t : List V} {H H1 : Hp} {base : Nat} {v : V} (h : exOp t H base r = some (v, H1)) :
    ∃ s o, H[s]? = some .none_ ∧ o ≠ Ob.none_ ∧ H1 = H.set s o ∧ ∀ H', H'[s]? = some .none_ → exOp t H' base r = some (v, H'.set s o) := by
  have new : ∀ {H H1 : Hp} {sl a : Nat} {o : Ob}, H.new base (some sl) o = some (a, H1) → a = base + sl ∧ H[base + sl]? = some .none_ ∧ H1 = H.set (base + sl) o ∧ ∀ H' : Hp, H'[base + sl]? = some .none_ → H'.new base (some sl) o = some (base + sl, H'.set (base + sl) o) := by
    intro H H1 sl a o h
    simp only [Hp.new] at h
    split at h
    · rename_i hq
      cases h
      exact ⟨rfl, hq, rfl, fun H' hH => by simp [Hp.new, hH]⟩
    · cases h
  have nocl : ∀ f, callKind md f ≠ .l := by intro f; rcases callKind_cx md f with h | h | h <;> rw [h] <;> simp
  cases r <;> simp only [kindOf] at hk <;> (try (simp at hk; done)) <;> (try (exact absurd hk (nocl _)))
  case alloc sh z slot =>
    cases slot with
    | none => simp [slotKind] at hk
    | some sl =>
      simp only [exOp] at h ⊢
      split at h
      · rename_i a H2 hn
        cases h
        obtain ⟨rfl, n1, rfl, n3⟩ := new hn
        exact ⟨_, _, n1, by simp, rfl, fun H' hH => by simp [n3 H' hH]⟩
      · cases h
  case box sh x slot =>
    cases slot with
    | none => simp [slotKind] at hk
    | some sl =>
      simp only [exOp] at h ⊢
      obtain ⟨hf, h⟩ := ite_none_some h
      split at h
      · rename_i a H2 hn
        cases h
        obtain ⟨rfl, n1, rfl, n3⟩ := new hn
        exact ⟨_, _, n1, by simp, rfl, fun H' hH => by simp [n3 H' hH, hf]⟩
      · cases h
  case bsl live sh z n ps =>
    cases live with
    | none => simp at hk
    | some slot =>
      cases slot with
      | none => simp [slotKind] at hk
      | some sl =>
        simp only [exOp] at h ⊢
        split at h
        · rename_i es hes
          split at h
          · rename_i a H2 hn
            cases h
            obtain ⟨rfl, n1, rfl, n3⟩ := new hn
            exact ⟨_, _, n1, by simp, rfl, fun H' hH => by simp [n3 H' hH, hes]⟩
          · cases h
        · cases h
  case mkmap slot =>
    cases slot with
    | none => simp [slotKind] at hk
    | some sl =>
      simp only [exOp] at h ⊢
      split at h
      · rename_i a H2 hn
        cases h
        obtain ⟨rfl, n1, rfl, n3⟩ := new hn
        exact ⟨_, _, n1, by simp, rfl, fun H' hH => by simp [n3 H' hH]⟩
      · cases h
  case mksl sh z b l c slot =>
    cases slot with
    | none => simp [slotKind] at hk
    | some sl =>
      simp only [exOp] at h ⊢
      split at h
      · rename_i ln cn hl hc
        obtain ⟨hcond, h⟩ := ite_none_some h
        split at h
        · rename_i a H2 hn
          cases h
          obtain ⟨rfl, n1, rfl, n3⟩ := new hn
          refine ⟨_, _, n1, by simp, rfl, fun H' hH => ?_⟩
          rw [if_pos hcond, n3 H' hH]
        · cases h
      · cases h

/-- operations that change one object (or put one behind the others) -/
theorem kind_w {md : FuncId → Option FMode} {r : R} (hk : kindOf md r = .w) {t : List V} {H H1 : Hp} {base : Nat} {v : V} (h : exOp t H base r = some (v, H1)) :
    ∀ a o, H[a]? = some o → touchId t r ≠ some a → H1[a]? = H[a]? := by
  have setne : ∀ {H : Hp} {a b : Nat} {o : Ob}, some b ≠ some a → (H.set b o)[a]? = H[a]? := by
    intro H a b o hne
    rw [List.getElem?_set]
    rw [if_neg (by intro e; subst e; exact hne rfl)]
  have pushlt : ∀ {H : Hp} {a : Nat} {o p : Ob}, H[a]? = some o → (H ++ [p])[a]? = H[a]? := by
    intro H a o p ha
    rw [List.getElem?_append_left (List.getElem?_eq_some_iff.1 ha).1]
  have app : ∀ {H H1 : Hp} {sh : Option Nat} {b : Nat} {s v : V} {xs : List V}, exAppL H sh b s xs = some (v, H1) → ∀ j q, H[j]? = some q → (∀ d sh i n e c, s = .sl d sh i n e c → d ≠ j) → H1[j]? = H[j]? := by
    intro H H1 sh b s v xs h j q ha hne
    unfold exAppL at h
    split at h
    · obtain ⟨_, h⟩ := ite_none_some h; cases h; exact pushlt ha
    · rename_i d sh' i n e c
      have hd : some d ≠ some j := by intro h; exact hne _ _ _ _ _ _ rfl (Option.some.inj h)
      split at h
      · cases h
      · obtain ⟨_, h⟩ := ite_none_some h
        split at h
        · split at h
          · cases h; exact setne hd
          · cases h; exact pushlt ha
        · split at h
          · cases h; exact setne hd
          · obtain ⟨_, h⟩ := ite_none_some h; cases h; exact setne hd
    · cases h
  intro a o ha hne
  have nosl : ∀ s, slotKind s ≠ .w := by intro s; rcases slotKind_lx s with ⟨k, _, h⟩ | h <;> rw [h] <;> simp
  have nocl : ∀ f, callKind md f ≠ .w := by intro f; rcases callKind_cx md f with h | h | h <;> rw [h] <;> simp
  cases r <;> simp only [kindOf] at hk <;> (try (simp at hk; done)) <;> (try (exact absurd hk (nosl _))) <;> (try (exact absurd hk (nocl _)))
  case store n p x =>
    simp only [exOp, touchId] at h hne
    split at h
    · rename_i aid sh i o' e hx
      rw [hx] at hne
      split at h
      · split at h
        · obtain ⟨_, h⟩ := ite_none_some h
          split at h
          · cases h; exact setne hne
          · cases h
        · cases h
      · cases h
    · cases h
  case app sh b s x =>
    simp only [exOp, touchId, exApp] at h hne
    split at h
    · cases h
    · split at h
      · split at h <;> first | (cases h; rfl) | cases h
      · obtain ⟨_, h⟩ := ite_none_some h
        exact app h a o ha (by intro d _ _ _ _ _ hs e; rw [hs] at hne; exact hne (by rw [e]))
  case appz sh b z s n =>
    simp only [exOp, touchId] at h hne
    split at h
    · exact app h a o ha (by intro d _ _ _ _ _ hs e; rw [hs] at hne; exact hne (by rw [e]))
    · cases h
  case mupd st ks m k u =>
    simp only [exOp, touchId] at h hne
    split at h
    · rename_i aid hx
      rw [hx] at hne
      split at h
      · obtain ⟨_, h⟩ := ite_none_some h
        split at h
        · cases h; exact setne hne
        · cases h; exact setne hne
        · cases h
      · cases h
    · cases h
  case clr sh z x =>
    simp only [exOp, touchId] at h hne
    split at h
    · cases h; rfl
    · cases h; rfl
    · rename_i aid sh' i n e c hx
      rw [hx] at hne
      split at h
      · obtain ⟨_, h⟩ := ite_none_some h; cases h; exact setne hne
      · cases h
    · cases h
  case cpy sz d s =>
    simp only [exOp, touchId] at h hne
    split at h
    · split at h
      · cases h; rfl
      · cases h; rfl
      · rename_i aid sh' i n e c hx
        rw [hx] at hne
        split at h
        · obtain ⟨_, h⟩ := ite_none_some h; cases h; exact setne hne
        · cases h
      · cases h
    · cases h
  case bsl live sh z n ps =>
    cases live with
    | none => simp at hk
    | some s => exact absurd hk (nosl _)

end Go.Ai
end
section
namespace Go.Ai
open Go Go.RowKit

/-- what is there stays there -/
def Mono (H H' : Hp) : Prop := ∀ (a : Nat) (o : Ob), H[a]? = some o → o ≠ Ob.none_ → H'[a]? = some o

/-- what can be read can still be read -/
structure Keep (H H' : Hp) : Prop where
  arr : ∀ a sh e es, arrAt H a sh e = some es → arrAt H' a sh e = some es
  map : ∀ (a : Nat) ks vs bs clk, H[a]? = some (.map ks vs bs clk) → H'[a]? = some (.map ks vs bs clk)

theorem Mono.keep {H H' : Hp} (h : Mono H H') : Keep H H' := by
  refine ⟨fun a sh e es k => ?_, fun a ks vs bs clk k => h a _ k (by simp)⟩
  obtain ⟨h1, h2⟩ := arrAt_some k
  rcases h1 with h1 | h1 <;> (have := h a _ h1 (by simp); simp [arrAt, this, h2])

theorem onlyFz_get {H : Hp} {a : Nat} : (onlyFz H)[a]? = (H[a]?).map fzOf := by simp [onlyFz]

theorem onlyFz_fz {H : Hp} {a : Nat} {sh : Option Nat} {es : List V} : (onlyFz H)[a]? = some (.fz sh es) ↔ H[a]? = some (.fz sh es) := by
  rw [onlyFz_get]
  cases h : H[a]? with
  | none => simp
  | some o => cases o <;> simp [fzOf]

theorem onlyFz_cases {H : Hp} {a : Nat} {o : Ob} (h : (onlyFz H)[a]? = some o) : o = .dead ∨ ∃ sh es, o = .fz sh es ∧ H[a]? = some (.fz sh es) := by
  rw [onlyFz_get] at h
  cases h' : H[a]? with
  | none => rw [h'] at h; simp at h
  | some q => rw [h'] at h; cases q <;> simp [fzOf] at h <;> subst h <;> simp

theorem Mono.onlyFz {H H' : Hp} (h : Mono H H') : Keep (onlyFz H) (onlyFz H') := by
  refine ⟨fun a sh e es k => ?_, fun a ks vs bs clk k => ?_⟩
  · obtain ⟨h1, h2⟩ := arrAt_some k
    rcases h1 with h1 | h1
    · rcases onlyFz_cases h1 with h3 | ⟨_, _, h3, _⟩ <;> cases h3
    · have := onlyFz_fz.2 (h a _ (onlyFz_fz.1 h1) (by simp))
      simp [arrAt, this, h2]
  · rcases onlyFz_cases k with h3 | ⟨_, _, h3, _⟩ <;> cases h3

theorem mapO_mono {α β : Type} {f g : α → Option β} (hfg : ∀ x y, f x = some y → g x = some y) {l : List α} {ys : List β} (h : mapO f l = some ys) : mapO g l = some ys := by
  induction l generalizing ys with
  | nil => exact h
  | cons x l ih =>
    simp only [mapO] at h ⊢
    split at h
    · rename_i y ys' h1 h2
      cases h
      rw [hfg _ _ h1, ih h2]
    · cases h

theorem freeze_mono {H H' : Hp} (hm : Keep H H') : ∀ n v u, freeze H n v = some u → freeze H' n v = some u := by
  intro n
  induction n with
  | zero => intro v u h; exact h
  | succ n ih =>
    intro v u h
    have ihm : ∀ {l : List V} {ys : List V}, mapO (freeze H n) l = some ys → mapO (freeze H' n) l = some ys := fun h => mapO_mono ih h
    simp only [freeze] at h ⊢
    split
    · rename_i hf; rw [if_pos hf] at h; exact h
    · rename_i hf
      rw [if_neg hf] at h
      cases v <;> simp only at h ⊢ <;> (try (cases h; done)) <;> (try exact h)
      case ptr a sh i o e =>
        split at h
        · rename_i es hes
          obtain ⟨ys, h1, h2⟩ := optmap_some h
          rw [hm.arr _ _ _ _ hes]; simp only; rw [ihm h1]; simp [h2]
        · cases h
      case sl a sh i len e c =>
        split at h
        · rename_i es hes
          obtain ⟨hc, h⟩ := ite_none_some h
          obtain ⟨ys, h1, h2⟩ := optmap_some h
          rw [hm.arr _ _ _ _ hes]; simp only; rw [if_pos hc, ihm h1]; simp [h2]
        · cases h
      case mp a =>
        split at h
        · rename_i ks vs bs clk hq
          rw [hm.map a _ _ _ _ hq]
          simp only
          split at h
          · rename_i ks' vs' h1 h2
            rw [ihm h1, ihm h2]; exact h
          · cases h
        · cases h
      case fptr sh es i o =>
        obtain ⟨ys, h1, h2⟩ := optmap_some h
        rw [ihm h1]; simp [h2]
      case fsl sh es =>
        obtain ⟨ys, h1, h2⟩ := optmap_some h
        rw [ihm h1]; simp [h2]
      case fmap ks vs =>
        split at h
        · rename_i ks' vs' h1 h2
          rw [ihm h1, ihm h2]; exact h
        · cases h
      case fn f a b =>
        split at h
        · rename_i ks' vs' h1 h2
          rw [ihm h1, ihm h2]; exact h
        · cases h
      case agg cs =>
        obtain ⟨ys, h1, h2⟩ := optmap_some h
        rw [ihm h1]; simp [h2]
      case tup cs =>
        obtain ⟨ys, h1, h2⟩ := optmap_some h
        rw [ihm h1]; simp [h2]

/-- the calls of the kind c: the heap stays, and more of it does not matter; those of the kind o: new objects come to it -/
structure CallOK (inv : V → List V → Hp → Option (V × Hp)) (md : FuncId → Option FMode) : Prop where
  c : ∀ f first caps as v H H1, (match md f with | some .pure | some .snap | none => True | _ => False) → inv (.fn f first caps) as H = some (v, H1) → H1 = H ∧ ∀ H', Mono H H' → inv (.fn f first caps) as H' = some (v, H')
  o : ∀ f first caps as v H H1, md f = some .own → inv (.fn f first caps) as H = some (v, H1) →
    ∃ N : Hp, (∀ o ∈ N, o ≠ Ob.none_) ∧ H1 = H ++ N ∧ ∀ H', Mono H H' → H'.length = H.length → inv (.fn f first caps) as H' = some (v, H' ++ N)

section
variable {inv : V → List V → Hp → Option (V × Hp)} {md : FuncId → Option FMode} {base : Nat}

/-- an operation's result and heap -/
def exR (inv : V → List V → Hp → Option (V × Hp)) (base : Nat) (o : Ro) (t : List V) (H : Hp) : Option (V × Hp) :=
  if wanted t o.g then exC inv base t H o.op else some (.undef, H)

theorem exO_eq (o : Ro) (s : St) : exO inv base o s = (exR inv base o s.t s.h).map fun p => { s with t := putDst s.t o.dst p.1, h := p.2 } := by
  unfold exO exR
  split
  · cases exC inv base s.t s.h o.op with
    | none => rfl
    | some p => rfl
  · rfl

theorem exC_op {t : List V} {H : Hp} {op : R} (h : ∀ f args, op ≠ .call f args) : exC inv base t H op = exOp t H base op := by
  unfold exC
  split
  · rename_i f args; exact absurd rfl (h f args)
  · rfl

theorem exC_congr {op : R} {t t' : List V} {H : Hp} (hr : ∀ x ∈ op.tmps, T.get t x = T.get t' x) : exC inv base t H op = exC inv base t' H op := by
  unfold exC
  split
  · simp only [R.tmps, List.mem_append, List.mem_flatMap] at hr
    rw [chkA_congr (fun x hx => hr x (.inl hx)), evA_congr (fun x hx => hr x (.inl hx)), map_congr' (f := evA t) (g := evA t') fun a ha => evA_congr fun x hx => hr x (.inr ⟨a, ha, hx⟩)]
  · exact exOp_congr hr

theorem exR_congr {o : Ro} {t t' : List V} {H : Hp} (h : ∀ x ∈ o.reads, T.get t x = T.get t' x) : exR inv base o t H = exR inv base o t' H := by
  have hw : wanted t o.g = wanted t' o.g := by
    unfold wanted
    cases hg : o.g with
    | none => rfl
    | some p => simp only; rw [h p.1 (by simp [Ro.reads, hg])]
  have hr : ∀ x ∈ o.op.tmps, T.get t x = T.get t' x := fun x hx => h x (by simp only [Ro.reads, List.mem_append]; exact .inr hx)
  unfold exR
  rw [hw, exC_congr hr]

theorem kind_call {f : A} {args : List A} {k : Kd} (h : kindOf md (.call f args) = k) (hc : k ≠ .c) (hx : k ≠ .x) (ho : k ≠ .o := by simp) : False := by
  simp only [kindOf] at h
  rcases callKind_cx md f with h' | h' | h' <;> rw [h'] at h
  · exact hc h.symm
  · exact hx h.symm
  · exact ho h.symm

theorem not_call {r : R} {k : Kd} (h : kindOf md r = k) (hc : k ≠ .c) (hx : k ≠ .x) (ho : k ≠ .o := by simp) : ∀ f args, r ≠ .call f args := by
  intro f args e
  subst e
  exact kind_call h hc hx ho

theorem T.set_comm (t : List V) (i j : Nat) (a b : V) (h : i ≠ j) : T.set (T.set t i a) j b = T.set (T.set t j b) i a := by
  apply List.ext_getElem?
  intro k
  have l1 : (T.set (T.set t i a) j b).length = (T.set (T.set t j b) i a).length := by simp only [T.length_set]; omega
  by_cases hk : k < (T.set (T.set t i a) j b).length
  · have g : T.get (T.set (T.set t i a) j b) k = T.get (T.set (T.set t j b) i a) k := by
      simp only [T.get_set]
      by_cases h1 : j = k
      · subst h1; simp [h]
      · by_cases h2 : i = k <;> simp [h1, h2]
    simp only [T.get, List.getD_eq_getElem?_getD] at g
    rw [List.getElem?_eq_getElem hk, List.getElem?_eq_getElem (by omega)] at g ⊢
    simpa using g
  · rw [List.getElem?_eq_none (by omega), List.getElem?_eq_none (by omega)]

theorem putDst_comm {t : List V} {d d' : Option Nat} {a b : V} (h : ∀ x, d = some x → d' ≠ some x) : putDst (putDst t d a) d' b = putDst (putDst t d' b) d a := by
  cases d with
  | none => cases d' <;> rfl
  | some x =>
    cases d' with
    | none => rfl
    | some y => exact T.set_comm t x y a b (by intro e; subst e; exact h x rfl rfl)

theorem putDst_get {t : List V} {d : Option Nat} {a : V} {x : Nat} (h : d ≠ some x) : T.get (putDst t d a) x = T.get t x := by
  cases d with
  | none => rfl
  | some y => simp only [putDst, T.get_set]; rw [if_neg (by intro e; subst e; exact h rfl)]

/-- THE EXCHANGE ON THE HEAP -/
theorem heap_swap (hc : CallOK inv md) {a b : Ro} {t : List V} {H H1 H2 : Hp} {va vb : V} (hind : indep md a b = true) (hrw : kindOf md a.op = .r → kindOf md b.op = .w → apart t b.op a.op = true)
    (h1 : exR inv base a t H = some (va, H1)) (h2 : exR inv base b t H1 = some (vb, H2)) : ∃ H', exR inv base b t H = some (vb, H') ∧ exR inv base a t H' = some (va, H2) := by
  unfold exR at h1 h2 ⊢
  by_cases wa : wanted t a.g = true
  · by_cases wb : wanted t b.g = true
    · simp only [wa, wb, if_true] at h1 h2 ⊢
      simp only [indep, Bool.and_eq_true] at hind
      obtain ⟨_, hk⟩ := hind
      -- what the kinds give
      have fp : ∀ {r : R} {H H1 : Hp} {v : V}, kindOf md r = .p → exC inv base t H r = some (v, H1) → H1 = H ∧ ∀ H', exC inv base t H' r = some (v, H') := by
        intro r H H1 v hk h
        have hn := not_call hk (by simp) (by simp)
        rw [exC_op hn] at h
        exact ⟨(kind_p (H' := H) hk h).1, fun H' => by rw [exC_op hn]; exact (kind_p (H' := H') hk h).2⟩
      have fr : ∀ {r : R} {H H1 : Hp} {v : V}, kindOf md r = .r → exC inv base t H r = some (v, H1) →
          H1 = H ∧ (∀ a, readId t r = some a → ∃ o, H[a]? = some o ∧ o ≠ Ob.none_) ∧ ∀ H', (∀ a, readId t r = some a → H'[a]? = H[a]?) → exC inv base t H' r = some (v, H') := by
        intro r H H1 v hk h
        have hn := not_call hk (by simp) (by simp)
        rw [exC_op hn] at h
        obtain ⟨k1, k2, k3⟩ := kind_r hk h
        exact ⟨k1, k2, fun H' hH => by rw [exC_op hn]; exact k3 H' hH⟩
      have fc : ∀ {r : R} {H H1 : Hp} {v : V}, kindOf md r = .c → exC inv base t H r = some (v, H1) → H1 = H ∧ ∀ H', Mono H H' → exC inv base t H' r = some (v, H') := by
        intro r H H1 v hk h
        cases r <;> simp only [kindOf] at hk <;> (try (simp at hk; done)) <;> (try (exfalso; revert hk; rename_i s; rcases slotKind_lx s with ⟨k, _, h'⟩ | h' <;> simp [h']; done))
        case bsl live sh z n ps =>
          cases live with
          | none => simp at hk
          | some s => rcases slotKind_lx s with ⟨k, _, h'⟩ | h' <;> simp [h'] at hk
        case call f args =>
          simp only [exC] at h ⊢
          unfold callKind at hk
          split at hk
          · rename_i f'
            have hmd : (match md f' with | some .pure | some .snap | none => True | _ => False) := by
              split at hk <;> rename_i hmm <;> first | (rw [hmm]; trivial) | (simp at hk)
            simp only [chkA, if_true] at h ⊢
            exact hc.c f' _ _ _ v H H1 hmd h
          · rename_i n f'
            have hmd : (match md f' with | some .pure | some .snap | none => True | _ => False) := by
              split at hk <;> rename_i hmm <;> first | (rw [hmm]; trivial) | (simp at hk)
            obtain ⟨hck, h⟩ := ite_none_some h
            simp only [hck, if_true]
            simp only [chkA] at hck
            split at hck
            · rename_i g' fi ca hg
              have hgg : g' = f' := by simpa using hck
              subst hgg
              simp only [evA, hg] at h ⊢
              exact hc.c g' _ _ _ v H H1 hmd h
            · cases hck
          · simp at hk
      have fo : ∀ {r : R} {H H1 : Hp} {v : V}, kindOf md r = .o → exC inv base t H r = some (v, H1) →
          ∃ N : Hp, (∀ o ∈ N, o ≠ Ob.none_) ∧ H1 = H ++ N ∧ ∀ H', Mono H H' → H'.length = H.length → exC inv base t H' r = some (v, H' ++ N) := by
        intro r H H1 v hk h
        cases r <;> simp only [kindOf] at hk <;> (try (simp at hk; done)) <;> (try (exfalso; revert hk; rename_i s; rcases slotKind_lx s with ⟨k, _, h'⟩ | h' <;> simp [h']; done))
        case bsl live sh z n ps =>
          cases live with
          | none => simp at hk
          | some s => rcases slotKind_lx s with ⟨k, _, h'⟩ | h' <;> simp [h'] at hk
        case call f args =>
          simp only [exC] at h ⊢
          unfold callKind at hk
          split at hk
          · rename_i f'
            have hmd : md f' = some .own := by
              split at hk <;> rename_i hmm <;> first | exact hmm | (simp at hk)
            simp only [chkA, if_true] at h ⊢
            exact hc.o f' _ _ _ v H H1 hmd h
          · rename_i n f'
            have hmd : md f' = some .own := by
              split at hk <;> rename_i hmm <;> first | exact hmm | (simp at hk)
            obtain ⟨hck, h⟩ := ite_none_some h
            simp only [hck, if_true]
            simp only [chkA] at hck
            split at hck
            · rename_i g' fi ca hg
              have hgg : g' = f' := by simpa using hck
              subst hgg
              simp only [evA, hg] at h ⊢
              exact hc.o g' _ _ _ v H H1 hmd h
            · cases hck
          · simp at hk
      have fl : ∀ {r : R} {H H1 : Hp} {v : V}, kindOf md r = .l → exC inv base t H r = some (v, H1) →
          ∃ s o, H[s]? = some .none_ ∧ o ≠ Ob.none_ ∧ H1 = H.set s o ∧ ∀ (H' : Hp), H'[s]? = some Ob.none_ → exC inv base t H' r = some (v, H'.set s o) := by
        intro r H H1 v hk h
        have hn := not_call hk (by simp) (by simp)
        rw [exC_op hn] at h
        obtain ⟨s, o, k1, k2, k3, k4⟩ := kind_l hk h
        exact ⟨s, o, k1, k2, k3, fun H' hH => by rw [exC_op hn]; exact k4 H' hH⟩
      cases ka : kindOf md a.op <;> cases kb : kindOf md b.op <;> rw [ka, kb] at hk <;> (try (simp at hk; done))
      -- the first one is pure
      all_goals first
        | (obtain ⟨rfl, e2⟩ := fp ka h1
           exact ⟨H2, h2, e2 H2⟩)
        | (obtain ⟨rfl, e2⟩ := fp kb h2
           exact ⟨H, e2 H, h1⟩)
        | skip
      · -- r, r
        obtain ⟨rfl, _, _⟩ := fr ka h1
        obtain ⟨rfl, _, _⟩ := fr kb h2
        exact ⟨_, h2, h1⟩
      · obtain ⟨rfl, _, _⟩ := fr ka h1
        obtain ⟨rfl, _⟩ := fc kb h2
        exact ⟨_, h2, h1⟩
      · -- r, o
        obtain ⟨rfl, k2, k3⟩ := fr ka h1
        obtain ⟨N, n1, rfl, n3⟩ := fo kb h2
        refine ⟨_, h2, k3 _ fun x hx => ?_⟩
        obtain ⟨q, hq, hq2⟩ := k2 x hx
        rw [List.getElem?_append_left (List.getElem?_eq_some_iff.1 hq).1]
      · -- r, w
        obtain ⟨rfl, k2, k3⟩ := fr ka h1
        refine ⟨H2, h2, k3 H2 fun x hx => ?_⟩
        obtain ⟨o, ho, _⟩ := k2 x hx
        have h2' : exOp t H1 base b.op = some (vb, H2) := by rwa [exC_op (not_call kb (by simp) (by simp))] at h2
        refine kind_w kb h2' x o ho ?_
        have hap := hrw ka kb
        unfold apart at hap
        intro ht
        rw [ht, hx] at hap
        simp at hap
      · -- r, l
        obtain ⟨rfl, k2, k3⟩ := fr ka h1
        obtain ⟨s, o, l1, l2, rfl, l4⟩ := fl kb h2
        refine ⟨_, h2, k3 _ fun x hx => ?_⟩
        obtain ⟨q, hq, hq2⟩ := k2 x hx
        rw [List.getElem?_set, if_neg]
        intro e; subst e; rw [l1] at hq; cases hq; exact hq2 rfl
      · obtain ⟨rfl, _⟩ := fc ka h1
        obtain ⟨rfl, _, _⟩ := fr kb h2
        exact ⟨_, h2, h1⟩
      · obtain ⟨rfl, _⟩ := fc ka h1
        obtain ⟨rfl, _⟩ := fc kb h2
        exact ⟨_, h2, h1⟩
      · -- c, l
        obtain ⟨rfl, k2⟩ := fc ka h1
        obtain ⟨s, o, l1, l2, rfl, l4⟩ := fl kb h2
        refine ⟨_, h2, k2 _ fun x q hq hq2 => ?_⟩
        rw [List.getElem?_set, if_neg]
        · exact hq
        · intro e; subst e; rw [l1] at hq; cases hq; exact hq2 rfl
      · -- o, l
        obtain ⟨N, n1, rfl, n3⟩ := fo ka h1
        obtain ⟨s, o, l1, l2, rfl, l4⟩ := fl kb h2
        have hs : s < H.length := by
          apply Classical.byContradiction; intro hn
          rw [List.getElem?_append_right (by omega)] at l1
          exact n1 _ (List.mem_of_getElem? l1) rfl
        have l1' : H[s]? = some .none_ := by rwa [List.getElem?_append_left hs] at l1
        refine ⟨_, l4 H l1', ?_⟩
        rw [n3 (H.set s o) (fun x q hq hq2 => ?_) (by simp), List.set_append_left _ _ hs]
        rw [List.getElem?_set, if_neg]
        · exact hq
        · intro e; subst e; rw [l1'] at hq; cases hq; exact hq2 rfl
      · -- l, l
        obtain ⟨s, o, l1, l2, rfl, l4⟩ := fl ka h1
        obtain ⟨s', o', m1, m2, rfl, m4⟩ := fl kb h2
        have hne : s ≠ s' := by
          intro e; subst e
          have hlt : s < H.length := (List.getElem?_eq_some_iff.1 l1).1
          rw [List.getElem?_set, if_pos rfl, if_pos hlt] at m1
          cases m1; exact l2 rfl
        have m1' : H[s']? = some .none_ := by rwa [List.getElem?_set, if_neg hne] at m1
        refine ⟨H.set s' o', m4 H m1', ?_⟩
        rw [l4 (H.set s' o') (by rw [List.getElem?_set, if_neg (Ne.symm hne)]; exact l1), List.set_comm _ _ hne]
    · simp only [wa, if_true, wb] at h1 h2 ⊢
      simp only [Bool.false_eq_true, if_false, Option.some.injEq, Prod.mk.injEq] at h2 ⊢
      obtain ⟨rfl, rfl⟩ := h2
      exact ⟨H, ⟨rfl, rfl⟩, h1⟩
  · simp only [wa] at h1 ⊢
    simp only [Bool.false_eq_true, if_false, Option.some.injEq, Prod.mk.injEq] at h1 ⊢
    obtain ⟨rfl, rfl⟩ := h1
    exact ⟨H2, h2, rfl, rfl⟩

end
end Go.Ai
end
section
namespace Go.Ai
open Go Go.RowKit

section
variable {inv : V → List V → Hp → Option (V × Hp)} {md : FuncId → Option FMode} {base : Nat}

theorem exO_m {o : Ro} {s s' : St} (h : exO inv base o s = some s') : s'.m = s.m ∧ s'.rd = s.rd ∧ (∀ u, o.dst ≠ some u → T.get s'.t u = T.get s.t u) := by
  rw [exO_eq] at h
  obtain ⟨p, _, h⟩ := optmap_some h
  subst h
  exact ⟨rfl, rfl, fun u hu => putDst_get hu⟩

theorem exOs_get {l : List Ro} {s s' : St} {u : Nat} (h : exOs inv base l s = some s') (hu : ∀ o ∈ l, o.dst ≠ some u) : T.get s'.t u = T.get s.t u := by
  induction l generalizing s with
  | nil => cases h; rfl
  | cons o l ih =>
    simp only [exOs] at h
    split at h
    · rename_i s1 h1
      rw [ih h fun o ho => hu o (List.mem_cons_of_mem _ ho), (exO_m h1).2.2 u (hu o (by simp))]
    · cases h

/-- THE EXCHANGE -/
theorem exO_swap (hc : CallOK inv md) {a b : Ro} {s s1 s2 : St} (hind : indep md a b = true) (hrw : kindOf md a.op = .r → kindOf md b.op = .w → apart s.t b.op a.op = true)
    (h1 : exO inv base a s = some s1) (h2 : exO inv base b s1 = some s2) : ∃ s', exO inv base b s = some s' ∧ exO inv base a s' = some s2 := by
  rw [exO_eq] at h1 h2
  obtain ⟨⟨va, H1⟩, g1, rfl⟩ := optmap_some h1
  obtain ⟨⟨vb, H2⟩, g2, rfl⟩ := optmap_some h2
  clear h1 h2
  simp only at g1 g2 ⊢
  have hind' := hind
  simp only [indep, Bool.and_eq_true] at hind'
  obtain ⟨⟨i1, i2⟩, _⟩ := hind'
  have ab : ∀ x, a.dst = some x → x ∉ b.reads ∧ b.dst ≠ some x := by
    intro x hx
    rw [hx] at i1
    simp only [Bool.and_eq_true, Bool.not_eq_true', bne_iff_ne, ne_eq] at i1
    exact ⟨by have := i1.1; simpa using this, i1.2⟩
  have ba : ∀ x, b.dst = some x → x ∉ a.reads := by
    intro x hx
    rw [hx] at i2
    simpa using i2
  rw [exR_congr (t' := s.t) fun x hx => putDst_get (fun e => (ab x e).1 hx)] at g2
  obtain ⟨H', k1, k2⟩ := heap_swap hc hind hrw g1 g2
  refine ⟨{ s with t := putDst s.t b.dst vb, h := H' }, by rw [exO_eq, k1]; rfl, ?_⟩
  rw [exO_eq]
  simp only
  rw [exR_congr (t' := s.t) fun x hx => putDst_get (fun e => ba x e hx), k2]
  simp only [Option.map_some, Option.some.injEq, St.mk.injEq, and_true]
  exact (putDst_comm fun x hx => (ab x hx).2).symm

variable {ρ : Nat → Ro} {D : Nat → Nat → Prop}

theorem apart_congr {t t' : List V} {a b : R} (ha : ∀ x ∈ a.tmps, T.get t x = T.get t' x) (hb : ∀ x ∈ b.tmps, T.get t x = T.get t' x) : apart t a b = apart t' a b := by
  simp only [apart, touchId_congr ha, readId_congr hb]

/-- an operation moves behind those that do not wait for it -/
theorem hoist (hc : CallOK inv md) {x : Nat} {π2 : List Nat} {s' : St} : ∀ (π1 : List Nat) (s : St), exOs inv base ((x :: (π1 ++ π2)).map ρ) s = some s' →
    (∀ y ∈ π1, indep md (ρ x) (ρ y) = true) →
    (∀ y ∈ π1, kindOf md (ρ x).op = .r → kindOf md (ρ y).op = .w → apart s'.t (ρ y).op (ρ x).op = true) →
    (∀ y ∈ π1, kindOf md (ρ x).op = .r → kindOf md (ρ y).op = .w → ∀ z ∈ x :: (π1 ++ π2), ∀ d, (ρ z).dst = some d → (d ∈ (ρ x).op.tmps → D x z) ∧ (d ∈ (ρ y).op.tmps → D y z)) →
    (∀ z ∈ x :: (π1 ++ π2), ¬ D x z) → (∀ y ∈ π1, ¬ D y x ∧ ¬ D y y) → (π1 ++ π2).Pairwise (fun a b => ¬ D a b) →
    exOs inv base ((π1 ++ x :: π2).map ρ) s = some s' := by
  intro π1
  induction π1 with
  | nil => intro s h _ _ _ _ _ _; exact h
  | cons y π1 ih =>
    intro s h hi ha hw hx hy hp
    simp only [List.cons_append, List.map_cons, exOs] at h ⊢
    split at h
    · rename_i s1 h1
      split at h
      · rename_i s2 h2
        have hap : kindOf md (ρ x).op = .r → kindOf md (ρ y).op = .w → apart s.t (ρ y).op (ρ x).op = true := by
          intro kr kw
          have hf := ha y (by simp) kr kw
          have hall : exOs inv base ((x :: y :: (π1 ++ π2)).map ρ) s = some s' := by
            simp only [List.map_cons, exOs, h1, h2, h]
          have key := hw y (by simp) kr kw
          rw [apart_congr (t' := s'.t)]
          · exact hf
          · intro u hu
            refine (exOs_get hall ?_).symm
            intro o ho e
            obtain ⟨z, hz, rfl⟩ := List.mem_map.1 ho
            have hD := (key z hz u e).2 hu
            rcases List.mem_cons.1 hz with rfl | hz
            · exact (hy y (by simp)).1 hD
            · rcases List.mem_cons.1 hz with rfl | hz
              · exact (hy z (by simp)).2 hD
              · exact (List.pairwise_cons.1 hp).1 z hz hD
          · intro u hu
            refine (exOs_get hall ?_).symm
            intro o ho e
            obtain ⟨z, hz, rfl⟩ := List.mem_map.1 ho
            exact hx z hz ((key z hz u e).1 hu)
        obtain ⟨t1, k1, k2⟩ := exO_swap hc (hi y (by simp)) hap h1 h2
        rw [k1]
        simp only
        refine ih t1 ?_ (fun z hz => hi z (by simp [hz])) (fun z hz => ha z (by simp [hz])) (fun z hz kr kw q hq => hw z (by simp [hz]) kr kw q ?_) (fun q hq => hx q ?_) (fun z hz => hy z (by simp [hz])) (List.pairwise_cons.1 hp).2
        · simp only [List.map_cons, exOs, k2, h]
        · simp only [List.mem_cons, List.cons_append] at hq ⊢
          rcases hq with h | h
          · exact .inl h
          · exact .inr (.inr h)
        · simp only [List.mem_cons, List.cons_append] at hq ⊢
          rcases hq with h | h
          · exact .inl h
          · exact .inr (.inr h)
      · cases h
    · cases h

/-- ANY ORDER COMES TO THE SAME -/
theorem reorder (hc : CallOK inv md) {s' : St} (irr : ∀ x, ¬ D x x) : ∀ (c π : List Nat) (s : St),
    c.Nodup → π.Nodup → (∀ z, z ∈ π ↔ z ∈ c) →
    c.Pairwise (fun x y => ¬ D x y ∧ (¬ D y x → indep md (ρ x) (ρ y) = true ∧ (kindOf md (ρ x).op = .r → kindOf md (ρ y).op = .w → apart s'.t (ρ y).op (ρ x).op = true ∧
        ∀ z ∈ c, ∀ d, (ρ z).dst = some d → (d ∈ (ρ x).op.tmps → D x z) ∧ (d ∈ (ρ y).op.tmps → D y z)))) →
    π.Pairwise (fun a b => ¬ D a b) →
    exOs inv base (c.map ρ) s = some s' → exOs inv base (π.map ρ) s = some s' := by
  intro c
  induction c with
  | nil =>
    intro π s _ _ hm _ _ h
    have : π = [] := by
      cases π with
      | nil => rfl
      | cons x π => exact absurd ((hm x).1 (by simp)) (by simp)
    subst this; exact h
  | cons x c ih =>
    intro π s hnc hnp hm hcp hpp h
    obtain ⟨π1, π2, rfl⟩ := List.append_of_mem ((hm x).2 (by simp))
    have hnc' := List.nodup_cons.1 hnc
    have hnp' : (π1 ++ π2).Nodup ∧ x ∉ π1 ++ π2 := by
      have hh : (x :: (π1 ++ π2)).Nodup := (List.Perm.nodup_iff (List.perm_middle (l₁ := π1) (l₂ := π2) (a := x))).1 hnp
      exact ⟨(List.nodup_cons.1 hh).2, (List.nodup_cons.1 hh).1⟩
    have hm' : ∀ z, z ∈ π1 ++ π2 ↔ z ∈ c := by
      intro z
      have := hm z
      simp only [List.mem_append, List.mem_cons] at this ⊢
      constructor
      · intro hz
        have h1 := this.1 (hz.imp id .inr)
        rcases h1 with rfl | h1
        · exact absurd (List.mem_append.2 hz) hnp'.2
        · exact h1
      · intro hz
        rcases this.2 (.inr hz) with h1 | h1 | h1
        · exact .inl h1
        · subst h1; exact absurd hz hnc'.1
        · exact .inr h1
    obtain ⟨hcx, hcc⟩ := List.pairwise_cons.1 hcp
    have hpq := List.pairwise_append.1 hpp
    have hp' : (π1 ++ π2).Pairwise (fun a b => ¬ D a b) := List.pairwise_append.2 ⟨hpq.1, (List.pairwise_cons.1 hpq.2.1).2, fun a ha b hb => hpq.2.2 a ha b (by simp [hb])⟩
    simp only [List.map_cons, exOs] at h
    split at h
    · rename_i s1 h1
      have h2 := ih (π1 ++ π2) s1 hnc'.2 hnp'.1 hm' (hcc.imp fun {a b} hab => ⟨hab.1, fun hd => ⟨(hab.2 hd).1, fun kr kw => ⟨((hab.2 hd).2 kr kw).1, fun z hz => ((hab.2 hd).2 kr kw).2 z (by simp [hz])⟩⟩⟩) hp' h
      have hyc : ∀ y ∈ π1, y ∈ c := fun y hy => (hm' y).1 (by simp [hy])
      have hyx : ∀ y ∈ π1, ¬ D y x := fun y hy => hpq.2.2 y hy x (by simp)
      refine hoist (D := D) hc π1 s (by simp only [List.map_cons, exOs, h1, h2]) (fun y hy => ((hcx y (hyc y hy)).2 (hyx y hy)).1) (fun y hy kr kw => (((hcx y (hyc y hy)).2 (hyx y hy)).2 kr kw).1) (fun y hy kr kw z hz => (((hcx y (hyc y hy)).2 (hyx y hy)).2 kr kw).2 z ?_) (fun z hz => ?_) (fun y hy => ⟨hyx y hy, irr y⟩) hp'
      · rcases List.mem_cons.1 hz with rfl | hz
        · simp
        · exact List.mem_cons_of_mem _ ((hm' z).1 hz)
      · rcases List.mem_cons.1 hz with rfl | hz
        · exact irr z
        · exact (hcx z ((hm' z).1 hz)).1
    · cases h
end

/-! ### the orders that the model may choose -/

section
variable {ops : Array Oper}

/-- the forebears -/
def Anc (an : List Nat) (a b : Nat) : Prop := (an.getD a 0).testBit b = true

theorem foldl_bits (acc : List Nat) (es : List Nat) (s b : Nat) :
    (es.foldl (fun s e => s ||| 2 ^ e ||| acc.getD e 0) s).testBit b = true ↔ s.testBit b = true ∨ ∃ e ∈ es, e = b ∨ (acc.getD e 0).testBit b = true := by
  induction es generalizing s with
  | nil => simp
  | cons e es ih =>
    rw [List.foldl_cons, ih]
    simp only [Nat.testBit_or, Bool.or_eq_true, Nat.testBit_two_pow, decide_eq_true_eq, List.mem_cons, exists_eq_or_imp]
    constructor
    · rintro ((h | h) | h) <;> simp_all
      rcases h with h | h <;> simp_all
    · rintro (h | (h | h) | h) <;> simp_all

theorem ancs_spec : ∀ (os : List Oper) (acc : List Nat), (ancs os acc).length = acc.length + os.length ∧ (∀ i, i < acc.length → (ancs os acc).getD i 0 = acc.getD i 0) ∧
    ∀ i b, i < os.length → ((ancs os acc).getD (acc.length + i) 0).testBit b = true → ∃ e ∈ (os[i]?.map edgesOf).getD [], e = b ∨ (e < acc.length + i ∧ ((ancs os acc).getD e 0).testBit b = true) := by
  intro os
  induction os with
  | nil => intro acc; exact ⟨rfl, fun i _ => rfl, fun i b hi => absurd hi (by simp)⟩
  | cons o os ih =>
    intro acc
    obtain ⟨h1, h2, h3⟩ := ih (acc ++ [(edgesOf o).foldl (fun s e => s ||| 2 ^ e ||| acc.getD e 0) 0])
    simp only [ancs]
    refine ⟨by rw [h1]; simp; omega, fun i hi => ?_, fun i b hi hb => ?_⟩
    · rw [h2 i (by simp; omega)]
      simp [List.getElem?_append, hi]
    · cases i with
      | zero =>
        rw [Nat.add_zero, h2 _ (by simp)] at hb
        simp only [List.getD_eq_getElem?_getD, List.getElem?_append_right (Nat.le_refl _), Nat.sub_self, List.getElem?_cons_zero, Option.getD_some] at hb
        have := (foldl_bits acc _ _ _).1 (by simpa only [List.getD_eq_getElem?_getD] using hb)
        rcases this with h | ⟨e, he, h⟩
        · simp at h
        · refine ⟨e, by simpa using he, h.imp id fun h => ?_⟩
          have hlt : e < acc.length := by
            apply Nat.lt_of_not_le; intro hle
            rw [List.getD_eq_getElem?_getD, List.getElem?_eq_none hle] at h
            simp at h
          refine ⟨by omega, ?_⟩
          rw [h2 e (by simp; omega)]
          rw [List.getD_eq_getElem?_getD, List.getElem?_append_left hlt, ← List.getD_eq_getElem?_getD]
          exact h
      | succ i =>
        have := h3 i b (by simpa using hi) (by simpa [Nat.add_assoc, Nat.add_comm 1 i] using hb)
        obtain ⟨e, he, h⟩ := this
        exact ⟨e, by simpa using he, h.imp id fun h => ⟨by simp at h; omega, h.2⟩⟩

/-- each one's edges stand ahead of it -/
def ExtOK (ops : Array Oper) (listed : Nat → Prop) (π : List Nat) : Prop :=
  ∀ π1 a π2, π = π1 ++ a :: π2 → ∀ e ∈ (ops[a]?.map edgesOf).getD [], listed e ∨ e ∈ π1

theorem anc_before {an : List Nat} (han : an = ancs ops.toList []) {π : List Nat} (hπ : ExtOK ops (fun _ => False) π) : ∀ (a : Nat) (π1 π2 : List Nat), π = π1 ++ a :: π2 → ∀ b, Anc an a b → b ∈ π1 := by
  intro a
  induction a using Nat.strongRecOn with
  | _ a ih =>
    intro π1 π2 hp b hb
    have hspec := (ancs_spec ops.toList []).2.2
    simp only [List.length_nil, Nat.zero_add] at hspec
    have ha : a < ops.toList.length := by
      apply Nat.lt_of_not_le; intro hle
      unfold Anc at hb
      rw [List.getD_eq_getElem?_getD, List.getElem?_eq_none (by rw [han, (ancs_spec ops.toList []).1]; simpa using hle)] at hb
      simp at hb
    rw [Anc, han] at hb
    obtain ⟨e, he, h⟩ := hspec a b ha hb
    have he1 := (hπ π1 a π2 hp e (by simpa using he)).resolve_left id
    rcases h with rfl | ⟨hlt, h⟩
    · exact he1
    · obtain ⟨p1, p2, rfl⟩ := List.append_of_mem he1
      exact List.mem_append_left _ (ih e hlt p1 (p2 ++ a :: π2) (by rw [hp]; simp) b (by rw [Anc, han]; exact h))

theorem ext_pairwise {an : List Nat} (han : an = ancs ops.toList []) {π : List Nat} (hn : π.Nodup) (hπ : ExtOK ops (fun _ => False) π) : π.Pairwise (fun a b => ¬ Anc an a b) := by
  rw [List.pairwise_iff_forall_sublist]
  intro a b hab hD
  have hsub : ∃ π1 π2, π = π1 ++ a :: π2 ∧ b ∈ π2 := by
    clear hn hπ hD
    induction π with
    | nil => cases hab
    | cons x π ih =>
      cases hab with
      | cons _ h => obtain ⟨p1, p2, rfl, hb⟩ := ih h; exact ⟨x :: p1, p2, rfl, hb⟩
      | cons_cons _ h => exact ⟨[], π, rfl, by simpa using h⟩
  obtain ⟨π1, π2, rfl, hb⟩ := hsub
  have h1 := anc_before han hπ a π1 π2 rfl b hD
  have := List.nodup_append.1 hn
  exact this.2.2 b h1 b (by simp [hb]) rfl

end
end Go.Ai
end
section
namespace Go.Ai
open Go Go.RowKit

theorem filter_lt {α : Type} {p q : α → Bool} (hpq : ∀ x, q x = true → p x = true) : ∀ l : List α, (l.filter q).length ≤ (l.filter p).length ∧ ∀ x ∈ l, p x = true → q x = false → (l.filter q).length < (l.filter p).length := by
  intro l
  induction l with
  | nil => exact ⟨Nat.le_refl _, fun x hx => absurd hx (by simp)⟩
  | cons y l ih =>
    simp only [List.filter_cons]
    refine ⟨?_, fun x hx hp hq => ?_⟩
    · cases hq : q y
      · cases hp : p y <;> simp <;> have := ih.1 <;> omega
      · simp [hpq y hq]; exact ih.1
    · rcases List.mem_cons.1 hx with rfl | hx
      · have := ih.1; simp [hp, hq]; omega
      · have := ih.2 x hx hp hq
        cases hq' : q y
        · cases hp' : p y <;> simp <;> omega
        · simp [hpq y hq', this]

section
variable {ops : Array Oper}

theorem mem_ready {listed : Array Bool} {i : Nat} : i ∈ Region.ready .any ops listed ↔ i < ops.size ∧ listed.getD i true = false ∧ ∀ e ∈ (ops[i]?.map edgesOf).getD [], listed.getD e false = true := by
  simp only [Region.ready, List.mem_filter, List.mem_range, Bool.and_eq_true, Bool.not_eq_true']
  constructor
  · rintro ⟨h1, h2, h3⟩
    refine ⟨h1, h2, fun e he => ?_⟩
    rw [Array.getElem?_eq_getElem h1] at h3 he
    simp only [Option.map_some, Option.getD_some, edgesOf, List.mem_filterMap] at h3 he
    obtain ⟨x, hx, hx2⟩ := he
    split at hx2
    · rename_i hb
      cases hx2
      have := Array.all_eq_true_iff_forall_mem.1 h3 x (by simpa using hx)
      rw [hb] at this
      simpa using this
    · cases hx2
  · rintro ⟨h1, h2, h3⟩
    refine ⟨h1, h2, ?_⟩
    rw [Array.getElem?_eq_getElem h1] at h3 ⊢
    simp only [Option.map_some, Option.getD_some, edgesOf, List.mem_filterMap] at h3 ⊢
    rw [Array.all_eq_true_iff_forall_mem]
    intro x hx
    cases hb : Region.binds .any x
    · rfl
    · simp only [Bool.not_true, Bool.false_or]
      exact h3 x.on ⟨x, by simpa using hx, by simp [hb]⟩

theorem getD_set {l : Array Bool} {i j : Nat} {d : Bool} (hi : i < l.size) : (l.setIfInBounds i true).getD j d = if i = j then true else l.getD j d := by
  simp only [Array.getD_eq_getD_getElem?, Array.getElem?_setIfInBounds]
  by_cases h : i = j
  · subst h; simp [hi]
  · simp [h]

theorem go_spec : ∀ (fuel t : Nat) (listed : Array Bool), listed.size = ops.size →
    (Region.linearise.go .any ops fuel t listed []).Nodup ∧ (∀ i ∈ Region.linearise.go .any ops fuel t listed [], i < ops.size ∧ listed.getD i true = false) ∧
    ExtOK ops (fun e => listed.getD e false = true) (Region.linearise.go .any ops fuel t listed []) ∧
    ((∀ i, ∀ e ∈ (ops[i]?.map edgesOf).getD [], e < i) → ((List.range ops.size).filter fun i => !listed.getD i true).length ≤ fuel → ∀ i, i < ops.size → listed.getD i true = false → i ∈ Region.linearise.go .any ops fuel t listed []) := by
  intro fuel
  induction fuel with
  | zero =>
    intro t listed hs
    simp only [Region.linearise.go, List.reverse_nil]
    refine ⟨List.nodup_nil, by simp, ?_, fun _ hf i hi hl => ?_⟩
    · intro π1 a π2 h; simp at h
    · have : i ∈ (List.range ops.size).filter fun i => !listed.getD i true := by rw [List.mem_filter, List.mem_range, hl]; exact ⟨hi, rfl⟩
      rw [List.length_eq_zero_iff.1 (Nat.le_zero.1 hf)] at this
      exact absurd this (by simp)
  | succ fuel ih =>
    intro t listed hs
    simp only [Region.linearise.go]
    change _ ∧ _ ∧ _ ∧ _
    have hr : ((List.range ops.size).filter fun i => !listed.getD i true && ((ops[i]?).map (·.after.all fun e => !Region.binds .any e || listed.getD e.on false)).getD false) = Region.ready .any ops listed := rfl
    rw [hr]
    cases hi : (Region.ready .any ops listed)[t % (Region.ready .any ops listed).length]? with
    | none =>
      simp only [List.reverse_nil]
      refine ⟨List.nodup_nil, by simp, ?_, fun hed hf => ?_⟩
      · intro π1 a π2 h; simp at h
      · have hnil : Region.ready .any ops listed = [] := by
          cases hr : Region.ready .any ops listed with
          | nil => rfl
          | cons x xs =>
            rw [hr] at hi
            have hlt : t % (x :: xs).length < (x :: xs).length := Nat.mod_lt _ (by simp)
            rw [List.getElem?_eq_none_iff] at hi
            omega
        intro i
        induction i using Nat.strongRecOn with
        | _ i ih' =>
          intro h1 h2
          exfalso
          have : i ∈ Region.ready .any ops listed := by
            rw [mem_ready]
            refine ⟨h1, h2, fun e he => ?_⟩
            have hlt := hed i e he
            cases hl : listed.getD e true with
            | true =>
              have : e < listed.size := by omega
              simp only [Array.getD_eq_getD_getElem?, Array.getElem?_eq_getElem this, Option.getD_some] at hl ⊢
              exact hl
            | false =>
              exact absurd (ih' e hlt (by omega) hl) (by simp)
          rw [hnil] at this
          simp at this
    | some i =>
      simp only
      rw [linearise_go_acc, List.reverse_singleton, List.singleton_append]
      have hmem := List.mem_of_getElem? hi
      obtain ⟨m1, m2, m3⟩ := mem_ready.1 hmem
      have hil : i < listed.size := by omega
      obtain ⟨g1, g2, g3, g4⟩ := ih (t / (Region.ready .any ops listed).length) (listed.setIfInBounds i true) (by simp [hs])
      refine ⟨List.nodup_cons.2 ⟨fun hm => ?_, g1⟩, ?_, ?_, ?_⟩
      · have := (g2 i hm).2; rw [getD_set hil] at this; simp at this
      · intro j hj
        rcases List.mem_cons.1 hj with rfl | hj
        · exact ⟨m1, m2⟩
        · obtain ⟨h1, h2⟩ := g2 j hj
          rw [getD_set hil] at h2
          split at h2
          · cases h2
          · exact ⟨h1, h2⟩
      · intro π1 a π2 hp e he
        cases π1 with
        | nil =>
          simp only [List.nil_append, List.cons.injEq] at hp
          obtain ⟨rfl, _⟩ := hp
          exact .inl (m3 e he)
        | cons y π1 =>
          simp only [List.cons_append, List.cons.injEq] at hp
          obtain ⟨rfl, hp⟩ := hp
          rcases g3 π1 a π2 hp e he with h | h
          · rw [getD_set hil] at h
            split at h
            · rename_i hh; subst hh; exact .inr (by simp)
            · exact .inl h
          · exact .inr (by simp [h])
      · intro hed hf j hj hl
        by_cases hij : i = j
        · subst hij; simp
        · refine List.mem_cons_of_mem _ (g4 hed ?_ j hj ?_)
          · have := (filter_lt (p := fun i => !listed.getD i true) (q := fun j => !(listed.setIfInBounds i true).getD j true) (fun x hx => by
              rw [getD_set hil] at hx
              split at hx
              · simp at hx
              · exact hx) (List.range ops.size)).2 i (by simpa using m1) (by simp [m2]) (by rw [getD_set hil]; simp)
            omega
          · rw [getD_set hil, if_neg hij]; exact hl

theorem schedule_spec (hed : ∀ i, ∀ e ∈ (ops[i]?.map edgesOf).getD [], e < i) (t : Nat) :
    (Region.schedule true ops t).Nodup ∧ (∀ i, i ∈ Region.schedule true ops t ↔ i < ops.size) ∧ ExtOK ops (fun _ => False) (Region.schedule true ops t) := by
  simp only [Region.schedule, Bool.true_or, if_true, Region.linearise]
  obtain ⟨g1, g2, g3, g4⟩ := go_spec (ops := ops) ops.size t (Array.replicate ops.size false) (by simp)
  refine ⟨g1, fun i => ⟨fun h => (g2 i h).1, fun h => g4 hed ?_ i h ?_⟩, ?_⟩
  · exact Nat.le_trans List.filter_sublist.length_le (by simp)
  · simp [Array.getD_eq_getD_getElem?, h]
  · intro π1 a π2 hp e he
    rcases g3 π1 a π2 hp e he with h | h
    · exfalso
      simp only [Array.getD_eq_getD_getElem?, Array.getElem?_replicate] at h
      split at h <;> simp at h
    · exact .inr h
end

theorem mapO_get {α β : Type} {f : α → Option β} {l : List α} {ys : List β} (h : mapO f l = some ys) : ys.length = l.length ∧ ∀ i (hi : i < l.length), ∃ y, ys[i]? = some y ∧ f l[i] = some y := by
  induction l generalizing ys with
  | nil => cases h; exact ⟨rfl, fun i hi => absurd hi (by simp)⟩
  | cons x l ih =>
    simp only [mapO] at h
    split at h
    · rename_i y ys' h1 h2
      cases h
      obtain ⟨k1, k2⟩ := ih h2
      refine ⟨by simp [k1], fun i hi => ?_⟩
      cases i with
      | zero => exact ⟨y, rfl, h1⟩
      | succ i => simpa using k2 i (by simpa using hi)
    · cases h

/-- A DRAWN REGION: what the canonical order brings about, every order brings about -/
theorem compDraw_ok {P : Program} {md : FuncId → Option FMode} {live : Lo} {fz : List Nat} {N : Nat} {ops : Array Oper} {c : RC} (h : compDraw P md live fz N ops = some c) :
    ∃ k l chk, ∃ ρ : Nat → Ro, c = .dops fz k l chk ∧ (∀ i, i < ops.size → ∃ o slot, ops[i]? = some o ∧ compRo P live N slot ops o = some (ρ i)) ∧
      ∀ inv base s s', CallOK inv md → exOs inv base l s = some s' → chkOk s'.t l chk = true → ∀ t, exOs inv base ((Region.schedule true ops t).map ρ) s = some s' := by
  unfold compDraw at h
  simp only at h
  generalize hal : (ops.toList.map fun o => match compRo P live N (some 0) ops o with
      | some r => decide (kindOf md r.op = Kd.l)
      | none => false) = al at h
  generalize hlo : (ops.toList.map fun o => match compRo P live N (some 0) ops o with
      | some r => decide (kindOf md r.op = Kd.o)
      | none => false) = lo at h
  generalize hcl : order al lo (ops.toList.map edgesOf) ops.size [] = cl at h
  generalize han : ancs ops.toList [] = an at h
  split at h
  · rename_i h0
    simp only [Bool.and_eq_true, decide_eq_true_eq] at h0
    obtain ⟨⟨⟨e1, e2⟩, e3⟩, e4⟩ := h0
    split at h
    · rename_i l hl
      obtain ⟨hlen, hget⟩ := mapO_get hl
      simp only [List.length_zipIdx] at hlen hget
      split at h
      · rename_i h1
        cases h
        simp only [Bool.and_eq_true] at h1
        obtain ⟨⟨⟨p1, p2⟩, p3⟩, p4⟩ := h1
        have hρ : ∀ j (hj : j < cl.length), l[j]? = some ((l[cl.idxOf cl[j]]?).getD ⟨none, .bad, none⟩) := by
          intro j hj
          rw [List.Nodup.idxOf_getElem e4 j hj]
          have : j < l.length := by omega
          rw [List.getElem?_eq_getElem this]; rfl
        generalize hr : (fun i => (l[cl.idxOf i]?).getD (⟨none, .bad, none⟩ : Ro)) = ρ at *
        have hρ' : ∀ j (hj : j < cl.length), l[j]? = some (ρ cl[j]) := by subst hr; exact hρ
        have hlm : l = cl.map ρ := by
          apply List.ext_getElem?
          intro j
          by_cases hj : j < cl.length
          · rw [hρ' j hj, List.getElem?_map, List.getElem?_eq_getElem hj]; rfl
          · rw [List.getElem?_eq_none (by omega), List.getElem?_eq_none (by simp; omega)]
        have hcD : ∀ j (hj : j < cl.length), cl.getD j 0 = cl[j] := fun j hj => by rw [List.getD_eq_getElem?_getD, List.getElem?_eq_getElem hj]; rfl
        have hmemc : ∀ i, i ∈ cl ↔ i < ops.size := fun i => ⟨fun hi => by simpa using List.all_eq_true.1 e3 i hi, fun hi => by simpa using List.all_eq_true.1 e2 i (by simpa using hi)⟩
        refine ⟨_, l, _, ρ, rfl, ?_, ?_⟩
        · intro i hi
          have hic : i ∈ cl := (hmemc i).2 hi
          have hj : cl.idxOf i < cl.length := List.idxOf_lt_length_iff.2 hic
          obtain ⟨y, hy, hf⟩ := hget (cl.idxOf i) hj
          simp only [List.getElem_zipIdx, List.getElem_idxOf] at hf
          rw [Array.getElem?_eq_getElem hi] at hf
          refine ⟨ops[i], some (List.filter (fun i => al.getD i false) (List.take (0 + List.idxOf i cl) cl)).length, Array.getElem?_eq_getElem hi, ?_⟩
          rw [hρ' _ hj, List.getElem_idxOf] at hy
          cases hy
          exact hf
        · intro inv base s s' hc hx hk t
          have hed : ∀ i, ∀ e ∈ (ops[i]?.map edgesOf).getD [], e < i := by
            intro i e he
            by_cases hi : i < ops.size
            · rw [Array.getElem?_eq_getElem hi] at he
              simp only [Option.map_some, Option.getD_some] at he
              have h2 := List.all_eq_true.1 e1 (ops[i], i) (by
                rw [List.mem_iff_getElem]
                exact ⟨i, by simpa using hi, by simp⟩)
              simpa using List.all_eq_true.1 h2 e he
            · rw [Array.getElem?_eq_none (by omega)] at he
              simp at he
          obtain ⟨s1, s2, s3⟩ := schedule_spec hed t
          have hpp := ext_pairwise han.symm s1 s3
          have irr : ∀ x, x ∈ cl → ¬ Anc an x x := by
            intro x hx hD
            have hj : cl.idxOf x < cl.length := List.idxOf_lt_length_iff.2 hx
            have := List.all_eq_true.1 p3 (cl.idxOf x) (by simp; omega)
            rw [hcD _ hj, List.getElem_idxOf] at this
            rw [hD] at this
            simp at this
          refine reorder (D := fun a b => a ∈ cl ∧ Anc an a b) hc (fun x hx => irr x hx.1 hx.2) cl _ s e4 s1 (fun z => (s2 z).trans (hmemc z).symm) ?_ (hpp.imp fun h h' => h h'.2) (hlm ▸ hx)
          rw [List.pairwise_iff_getElem]
          intro i j hi hj hij
          have hnD : ¬ Anc an cl[i] cl[j] := by
            have := List.all_eq_true.1 (List.all_eq_true.1 p2 j (by simp; omega)) i (by simpa using hij)
            rw [hcD _ hi, hcD _ hj] at this
            intro hD; unfold Anc at hD; rw [hD] at this; simp at this
          refine ⟨fun h => hnD h.2, fun hd => ?_⟩
          have hd' : (an.getD cl[j] 0).testBit cl[i] = false := by
            cases h : (an.getD cl[j] 0).testBit cl[i]
            · rfl
            · exact absurd ⟨List.getElem_mem hj, h⟩ hd
          have hpair : (i, j) ∈ (List.range l.length).flatMap fun j => ((List.range j).filter fun i => !(an.getD (cl.getD j 0) 0).testBit (cl.getD i 0)).map fun i => (i, j) := by
            rw [List.mem_flatMap]
            refine ⟨j, by simp; omega, ?_⟩
            rw [List.mem_map]
            refine ⟨i, ?_, rfl⟩
            rw [List.mem_filter]
            refine ⟨by simpa using hij, ?_⟩
            rw [hcD _ hi, hcD _ hj, hd']; rfl
          have hin := List.all_eq_true.1 p1 _ hpair
          simp only [hρ' i hi, hρ' j hj] at hin
          refine ⟨hin, fun kr kw => ?_⟩
          have h4 := List.all_eq_true.1 p4 (i, j) (List.mem_filter.2 ⟨hpair, by simp only [hρ' i hi, hρ' j hj, kr, kw]; rfl⟩)
          simp only [hρ' i hi, hρ' j hj] at h4
          have h5 := List.all_eq_true.1 hk (i, j) (List.mem_filter.2 ⟨hpair, by simp only [hρ' i hi, hρ' j hj, kr, kw]; rfl⟩)
          simp only [hρ' i hi, hρ' j hj] at h5
          refine ⟨h5, fun z hz d hzd => ?_⟩
          have hq : cl.idxOf z < cl.length := List.idxOf_lt_length_iff.2 hz
          have h6 := List.all_eq_true.1 h4 (cl.idxOf z) (by simp; omega)
          simp only [hρ' _ hq, List.getElem_idxOf, hzd, hcD _ hi, hcD _ hj, hcD _ hq] at h6
          simp only [Bool.and_eq_true, Bool.or_eq_true, Bool.not_eq_true', List.contains_eq_mem, decide_eq_false_iff_not] at h6
          exact ⟨fun hm => ⟨List.getElem_mem hi, h6.1.resolve_left (fun h => h hm)⟩, fun hm => ⟨List.getElem_mem hj, h6.2.resolve_left (fun h => h hm)⟩⟩
      · cases h
    · cases h
  · cases h

theorem sched_lt {ops : Array Oper} (t i : Nat) (hi : i ∈ Region.schedule true ops t) : i < ops.size := by
  simp only [Region.schedule, Bool.true_or, if_true, Region.linearise] at hi
  exact ((go_spec (ops := ops) ops.size t (Array.replicate ops.size false) (by simp)).2.1 i hi).1
end Go.Ai
end
