/- The abstract values and code, its checker from the model's functions, and the relation of abstract memory to a world. -/
import GoSem.Core.World
import Derived.Laws.Sem
import Derived.Below
import GoSem.Core.Code
import GoSem.Dispatch
set_option linter.unusedVariables false
set_option linter.unusedSimpArgs false
section
namespace Go.Ai
open Go

/-- cells of an element: `none`: one cell, `some n`: a struct or an array of n cells -/
def shz : Option Nat → Nat
  | none => 1
  | some n => n

/-- Abstract values. `fsl`/`fptr`/`fmap`: memory that never changes any more; its contents stand in the value.
`sl`/`ptr`/`mp`/`yld`/`it`: name an object of the abstract heap. `mt`: an empty slice, nil or not. -/
inductive V where
  | bool (b : Bool)
  | int (k : IntKind) (n : Int)
  | str (s : ByteArray)
  | nilp
  | ptr (a : Nat) (sh : Option Nat) (i o e : Nat)
  | fptr (sh : Option Nat) (es : List V) (i o : Nat)
  | nils
  | mt
  | sl (a : Nat) (sh : Option Nat) (i n e : Nat) (c : Option Nat)
  | fsl (sh : Option Nat) (es : List V)
  | nilm
  | mp (a : Nat)
  | fmap (ks vs : List V)
  | fn (f : FuncId) (first caps : List V)
  | yld (l : Nat)
  | nilf
  | it (a : Nat)
  | agg (cs : List V)
  | tup (vs : List V)
  deriving Inhabited

def V.undef : V := .tup []

/-- the cells of an element -/
def V.cells : V → List V
  | .agg cs => cs
  | v => [v]

def cellsOf (es : List V) : List V := es.flatMap V.cells

/-- no tuple -/
def okv : V → Bool
  | .tup _ => false
  | _ => true

/-- does a value fit a shape? -/
def fits : Option Nat → V → Bool
  | some n, .agg cs => cs.length == n
  | some _, _ => false
  | none, .agg _ => false
  | none, .tup _ => false
  | none, _ => true

/-- frozen memory -/
inductive FO where
  | cells (cs : List Value)
  | map (es : List MapEntry)

abbrev Fz := Nat → Option FO
abbrev Phi := Nat → Nat → Option (Nat × Nat)

def fcell (F : Fz) (b j : Nat) : Option Value :=
  match F b with
  | some (.cells cs) => cs[j]?
  | _ => none

/-- an abstract value stands for a value of the model -/
inductive VRel (φ : Phi) (F : Fz) : V → Value → Prop
  | bool (b : Bool) : VRel φ F (.bool b) (.bool b)
  | int (k : IntKind) (n : Int) : VRel φ F (.int k n) (.int k n)
  | str (s : ByteArray) : VRel φ F (.str s) (.string s)
  | nilp : VRel φ F .nilp (.pointer none)
  | ptr (a : Nat) (sh : Option Nat) (i o e b n : Nat) (h : φ a e = some (b, n)) :
      VRel φ F (.ptr a sh i o e) (.pointer (some ⟨b, i * shz sh + o, none⟩))
  | fptr (sh : Option Nat) (es : List V) (i o b off : Nat) (x : Nat → Value)
      (hF : ∀ j, j < (cellsOf es).length → fcell F b (off + j) = some (x j))
      (ho : ∀ j, j < (cellsOf es).length → (x j).oneCell' = true) (hs : ∀ e ∈ es, fits sh e = true)
      (h : ∀ j (h1 : j < (cellsOf es).length), VRel φ F (cellsOf es)[j] (x j)) :
      VRel φ F (.fptr sh es i o) (.pointer (some ⟨b, off + (i * shz sh + o), none⟩))
  | nils : VRel φ F .nils (.slice none 0 0)
  | mtn : VRel φ F .mt (.slice none 0 0)
  | mts (ad : Addr) (cap : Nat) : VRel φ F .mt (.slice (some ad) 0 cap)
  | sl (a : Nat) (sh : Option Nat) (i len e : Nat) (c : Option Nat) (b n cap : Nat) (h : φ a e = some (b, n)) (hin : i + len ≤ e)
      (hc : match c with | some c' => cap = c' ∧ len ≤ c' ∧ i + c' ≤ e | none => e - i ≤ cap) (hcap : (i + cap) * shz sh ≤ n) :
      VRel φ F (.sl a sh i len e c) (.slice (some ⟨b, i * shz sh, none⟩) len cap)
  | slz (a : Nat) (sh : Option Nat) (e : Nat) (ad : Addr) : VRel φ F (.sl a sh e 0 e none) (.slice (some ad) 0 0)
  | fsl (sh : Option Nat) (es : List V) (b off cap : Nat) (x : Nat → Value) (hlen : es.length ≤ cap)
      (hF : ∀ j, j < (cellsOf es).length → fcell F b (off + j) = some (x j))
      (ho : ∀ j, j < (cellsOf es).length → (x j).oneCell' = true) (hs : ∀ e ∈ es, fits sh e = true)
      (h : ∀ j (h1 : j < (cellsOf es).length), VRel φ F (cellsOf es)[j] (x j)) :
      VRel φ F (.fsl sh es) (.slice (some ⟨b, off, none⟩) es.length cap)
  | nilm : VRel φ F .nilm (.map none)
  | mp (a b n : Nat) (h : φ a 0 = some (b, n)) : VRel φ F (.mp a) (.map (some b))
  | fmap (ks vs : List V) (b : Nat) (es : List MapEntry) (hF : F b = some (.map es)) (hk : ks.length = es.length) (hv : vs.length = es.length)
      (h1 : ∀ j (a : j < ks.length) (c : j < es.length), VRel φ F ks[j] es[j].key)
      (h2 : ∀ j (a : j < vs.length) (c : j < es.length), VRel φ F vs[j] es[j].val) :
      VRel φ F (.fmap ks vs) (.map (some b))
  | fn (f : FuncId) (first caps : List V) (first' caps' : Array Value) (l1 : first.length = first'.size) (l2 : caps.length = caps'.size)
      (h1 : ∀ j (a : j < first.length) (c : j < first'.size), VRel φ F first[j] first'[j])
      (h2 : ∀ j (a : j < caps.length) (c : j < caps'.size), VRel φ F caps[j] caps'[j]) :
      VRel φ F (.fn f first caps) (.func (.func f) first' caps')
  | yld (a b n : Nat) (h : φ a 0 = some (b, n)) : VRel φ F (.yld a) (.func (.yield b) #[] #[])
  | nilf : VRel φ F .nilf .nilFunc
  | it (a b n : Nat) (h : φ a 0 = some (b, n)) : VRel φ F (.it a) (.pointer (some ⟨b, 0, none⟩))
  | agg (cs : List V) (cs' : Array Value) (l : cs.length = cs'.size) (ho : ∀ j (c : j < cs'.size), cs'[j].oneCell' = true)
      (h : ∀ j (a : j < cs.length) (c : j < cs'.size), VRel φ F cs[j] cs'[j]) : VRel φ F (.agg cs) (.agg cs')
  | tup (cs : List V) (cs' : Array Value) (l : cs.length = cs'.size)
      (h : ∀ j (a : j < cs.length) (c : j < cs'.size), VRel φ F cs[j] cs'[j]) : VRel φ F (.tup cs) (.tuple cs')

def Phi.le (φ φ' : Phi) : Prop := ∀ a e x, φ a e = some x → φ' a e = some x
/-- Frozen memory only grows: a block of cells may become known further. -/
def Fz.le (F F' : Fz) : Prop := ∀ b x, F b = some x → F' b = some x

theorem Phi.le.refl (φ : Phi) : φ.le φ := fun _ _ _ h => h
theorem Phi.le.trans {a b c : Phi} (h : a.le b) (k : b.le c) : a.le c := fun _ _ _ x => k _ _ _ (h _ _ _ x)
theorem Fz.le.refl (F : Fz) : F.le F := fun _ _ h => h
theorem Fz.le.trans {a b c : Fz} (h : a.le b) (k : b.le c) : a.le c := fun _ _ x => k _ _ (h _ _ x)

theorem fcell_mono {F F' : Fz} (h : F.le F') {b j : Nat} {x : Value} (k : fcell F b j = some x) : fcell F' b j = some x := by
  unfold fcell at *
  cases hb : F b with
  | none => simp [hb] at k
  | some o => rw [h b o hb]; rw [hb] at k; exact k

theorem VRel.mono {φ φ' : Phi} {F F' : Fz} (hφ : φ.le φ') (hF : F.le F') {v : V} {x : Value} (h : VRel φ F v x) : VRel φ' F' v x := by
  induction h with
  | bool b => exact .bool b
  | int k n => exact .int k n
  | str s => exact .str s
  | nilp => exact .nilp
  | ptr a sh i o e b n h => exact .ptr a sh i o e b n (hφ _ _ _ h)
  | fptr sh es i o b off x hf ho hs _ ih => exact .fptr sh es i o b off x (fun j hj => fcell_mono hF (hf j hj)) ho hs ih
  | nils => exact .nils
  | mtn => exact .mtn
  | mts ad cap => exact .mts ad cap
  | sl a sh i len e c b n cap h hin hc hcap => exact .sl a sh i len e c b n cap (hφ _ _ _ h) hin hc hcap
  | slz a sh e ad => exact .slz a sh e ad
  | fsl sh es b off cap x hl hf ho hs _ ih => exact .fsl sh es b off cap x hl (fun j hj => fcell_mono hF (hf j hj)) ho hs ih
  | nilm => exact .nilm
  | mp a b n h => exact .mp a b n (hφ _ _ _ h)
  | fmap ks vs b es hf hk hv _ _ i1 i2 => exact .fmap ks vs b es (hF _ _ hf) hk hv i1 i2
  | fn f first caps first' caps' l1 l2 _ _ i1 i2 => exact .fn f first caps first' caps' l1 l2 i1 i2
  | yld a b n h => exact .yld a b n (hφ _ _ _ h)
  | nilf => exact .nilf
  | it a b n h => exact .it a b n (hφ _ _ _ h)
  | agg cs cs' l ho _ ih => exact .agg cs cs' l ho ih
  | tup cs cs' l _ ih => exact .tup cs cs' l ih

/-- lists of values -/
def VsRel (φ : Phi) (F : Fz) (vs : List V) (xs : List Value) : Prop :=
  vs.length = xs.length ∧ ∀ j (a : j < vs.length) (c : j < xs.length), VRel φ F vs[j] xs[j]

theorem VsRel.mono {φ φ' : Phi} {F F' : Fz} (hφ : φ.le φ') (hF : F.le F') {v : List V} {x : List Value} (h : VsRel φ F v x) : VsRel φ' F' v x :=
  ⟨h.1, fun j a c => (h.2 j a c).mono hφ hF⟩

end Go.Ai
end
section
namespace Go.Ai
open Go

/-- kinds of cells that are compared -/
inductive LK where
  | int | bool | str
  deriving DecidableEq, Inhabited

/-- kinds of types that nil belongs to -/
inductive NK where
  | ptr | sl | map | fn
  deriving DecidableEq, Inhabited

/-- operands -/
inductive A where
  | t (n : Nat)
  | c (v : V)
  | k (n : Nat) (g : FuncId)
  deriving Inhabited

/-- operations -/
inductive R where
  | mov (x : A)
  | pick (c a b : A)
  | alloc (sh : Option Nat) (z : V) (slot : Option Nat)
  | box (sh : Option Nat) (x : A) (slot : Option Nat)
  | build (z : List V) (ps : List (Nat × Nat × A))
  | bsl (live : Option (Option Nat)) (sh : Option Nat) (z : V) (n : Nat) (ps : List (Nat × A))
  | load (g : Bool) (n : Nat) (x : A)
  | store (n : Nat) (a x : A)
  | bin (op : BinOp) (x y : A)
  | un (op : UnOp) (x : A)
  | conv (k : IntKind) (x : A)
  | mkfn (f : FuncId) (first caps : List A)
  | mkmap (slot : Option Nat)
  | mksl (sh : Option Nat) (z : V) (bytes : Nat) (len cap : A) (slot : Option Nat)
  | slice (sz : Nat) (x : A) (lo hi mx : Option A)
  | sslice (x : A) (lo hi : Option A)
  | fa (o : Nat) (x : A)
  | fld (g : Bool) (o n : Nat) (x : A)
  | ia (sz : Nat) (x i : A)
  | iaA (len sz : Nat) (x i : A)
  | idx (g : Bool) (len sz : Nat) (x i : A)
  | sidx (x i : A)
  | eqs (neg : Bool) (ks : List LK) (x y : A)
  | beq (neg : Bool) (x y : A)
  | nileq (neg : Bool) (k : NK) (x y : A)
  | look (st : Bool) (ks : List LK) (z : V) (m k : A) (ok : Bool)
  | mupd (st : Bool) (ks : List LK) (m k v : A)
  | ext (x : A) (i : Nat)
  | nilchk (x : A)
  | app (sh : Option Nat) (bytes : Nat) (s x : A)
  | appz (sh : Option Nat) (bytes : Nat) (z : V) (s n : A)
  | cap (x : A)
  | len (x : A)
  | lenS (x : A)
  | lenM (x : A)
  | mx (xs : List A)
  | mn (xs : List A)
  | clr (sh : Option Nat) (z : V) (x : A)
  | cpy (sz : Nat) (d s : A)
  | call (f : A) (args : List A)
  | rng (str : Bool) (x : A)
  | next (str : Bool) (x : A)
  | entry (x : A)
  | bad
  deriving Inhabited

/-- an operation with its destination, its guard and the operations to be looked at once more behind it -/
structure Ro where
  dst : Option Nat
  op : R
  g : Option (Nat × Bool) := none
  deriving Inhabited

inductive RC where
  | skip
  | ops (fz : List Nat) (l : List Ro)
  | dops (fz : List Nat) (slots : Nat) (l : List Ro) (chk : List (Nat × Nat))
  | seq (a b : RC)
  | cond (c : A) (thn els : RC)
  | block (id : Nat) (body : RC)
  | loop (body : RC)
  | rangeF (f : A) (ps : List Nat) (asn body : RC)
  | exit (id : Nat)
  | scope (body : RC)
  | label (l : Nat)
  | goto (l : Nat)
  | ret
  deriving Inhabited

/-- how a function is run -/
inductive FMode where
  | shared
  | pure
  | snap
  | own
  deriving DecidableEq, Inhabited

inductive Res where
  | tmp (t : Nat)
  | cell (a : Nat) (g : Bool) (n : Nat)
  deriving Inhabited

structure RF where
  ntmps : Nat
  res : List Res
  body : RC
  deriving Inhabited

inductive Jump where
  | exit (id : Nat)
  | goto (l : Nat)
  | ret
  deriving Inhabited, DecidableEq

/-- objects of the abstract heap -/
inductive Ob where
  | none_
  | dead
  | arr (sh : Option Nat) (es : List V)
  | fz (sh : Option Nat) (es : List V)
  | miter (m since : Nat) (seen : List Nat) (stepped : Nat)
  | siter (s : ByteArray) (pos : Nat)
  | map (ks vs : List V) (bs : List Nat) (clk : Nat)
  | loop (st : LoopState) (pend : Option Jump) (t : List V) (ps : List Nat) (asn body : RC)
  | defd
  deriving Inhabited

abbrev Hp := List Ob

namespace T
/-- temporaries: a list, `undef` beyond its end -/
def get (t : List V) (n : Nat) : V := t.getD n .undef
def set : List V → Nat → V → List V
  | [], 0, v => [v]
  | [], n + 1, v => .undef :: set [] n v
  | _ :: xs, 0, v => v :: xs
  | x :: xs, n + 1, v => x :: set xs n v
end T

def evA (t : List V) : A → V
  | .t n => T.get t n
  | .c v => v
  | .k n _ => T.get t n

/-- is the function the one that it is taken for? -/
def chkA (t : List V) : A → Bool
  | .k n g => match T.get t n with
    | .fn g' _ _ => g' == g
    | _ => false
  | _ => true

def mkv (g : Bool) (cs : List V) : Option V :=
  if g then some (.agg cs) else match cs with | [v] => some v | _ => none

/-- cells from `o` on -/
def sub (g : Bool) (cs : List V) (o n : Nat) : Option V :=
  if o + n ≤ cs.length then mkv g ((cs.drop o).take n) else none

def loadE (g : Bool) (n : Nat) (sh : Option Nat) (es : List V) (i o : Nat) : Option V :=
  match es[i]? with
  | some el => if g && o == 0 && sh == some n then some el else sub g el.cells o n
  | none => none

/-- an array that may be written -/
def warrAt (H : Hp) (a : Nat) (sh : Option Nat) (e : Nat) : Option (List V) :=
  match H[a]? with
  | some (.arr sh' es) => if sh' = sh ∧ es.length = e then some es else none
  | _ => none

/-- an array, frozen or not -/
def arrAt (H : Hp) (a : Nat) (sh : Option Nat) (e : Nat) : Option (List V) :=
  match H[a]? with
  | some (.arr sh' es) => if sh' = sh ∧ es.length = e then some es else none
  | some (.fz sh' es) => if sh' = sh ∧ es.length = e then some es else none
  | _ => none

def splice (cs : List V) (o : Nat) (xs : List V) : List V := cs.take o ++ xs ++ cs.drop (o + xs.length)

/-- a new object: at the heap's end, or in the slot kept for it -/
def Hp.new (H : Hp) (base : Nat) (slot : Option Nat) (o : Ob) : Option (Nat × Hp) :=
  match slot with
  | none => some (H.length, H ++ [o])
  | some r => match H[base + r]? with
    | some .none_ => some (base + r, H.set (base + r) o)
    | _ => none

def intv : V → Option Int
  | .int _ n => some n
  | _ => none

def cmpInt (op : BinOp) (a b : Int) : Option V :=
  match op with
  | .eql => some (.bool (a == b))
  | .neq => some (.bool (a != b))
  | .lss => some (.bool (decide (a < b)))
  | .leq => some (.bool (decide (a ≤ b)))
  | .gtr => some (.bool (decide (a > b)))
  | .geq => some (.bool (decide (a ≥ b)))
  | _ => none

def binInt (op : BinOp) (k : IntKind) (a b : Int) : Option V :=
  match op with
  | .add => some (.int k (k.wrap (a + b)))
  | .sub => some (.int k (k.wrap (a - b)))
  | .mul => some (.int k (k.wrap (a * b)))
  | .quo => if b = 0 then none else some (.int k (k.wrap (a.tdiv b)))
  | .rem => if b = 0 then none else some (.int k (a.tmod b))
  | .and => some (.int k (k.wrap (BitVec.ofInt k.bits a &&& BitVec.ofInt k.bits b).toNat))
  | .or => some (.int k (k.wrap (BitVec.ofInt k.bits a ||| BitVec.ofInt k.bits b).toNat))
  | .xor => some (.int k (k.wrap (BitVec.ofInt k.bits a ^^^ BitVec.ofInt k.bits b).toNat))
  | .andNot => some (.int k (k.wrap (BitVec.ofInt k.bits a &&& ~~~(BitVec.ofInt k.bits b)).toNat))
  | op => cmpInt op a b

def shiftInt (op : BinOp) (k : IntKind) (a b : Int) : Option V :=
  if b < 0 then none else
  match op with
  | .shl => some (.int k (k.wrap (a * 2 ^ (min b.toNat k.bits))))
  | .shr => some (.int k (a.fdiv (2 ^ (min b.toNat k.bits))))
  | _ => none

/-- equality by kinds -/
def lEq : List LK → List V → List V → Option Bool
  | [], [], [] => some true
  | .int :: ks, .int k a :: as, .int k' b :: bs => if k = k' then (lEq ks as bs).map ((a == b) && ·) else none
  | .bool :: ks, .bool a :: as, .bool b :: bs => (lEq ks as bs).map ((a == b) && ·)
  | .str :: ks, .str a :: as, .str b :: bs => (lEq ks as bs).map ((a.toList == b.toList) && ·)
  | _, _, _ => none

def keyEq (st : Bool) (ks : List LK) (x y : V) : Option Bool :=
  if st then
    match x, y with
    | .agg a, .agg b => lEq ks a b
    | _, _ => none
  else lEq ks [x] [y]

def isNil : NK → V → V → Option Bool
  | .ptr, .nilp, .nilp => some true
  | .ptr, .ptr .., .nilp | .ptr, .fptr .., .nilp => some false
  | .sl, .nils, .nils => some true
  | .sl, .sl .., .nils | .sl, .fsl .., .nils => some false
  | .map, .nilm, .nilm => some true
  | .map, .mp _, .nilm | .map, .fmap .., .nilm => some false
  | .fn, .nilf, .nilf => some true
  | .fn, .fn .., .nilf => some false
  | _, _, _ => none

def strOp (op : BinOp) (a b : ByteArray) : Option V :=
  match op with
  | .add => if a.size + b.size < 2 ^ 40 then some (.str (a ++ b)) else none
  | .eql => some (.bool (a.toList == b.toList))
  | .neq => some (.bool !(a.toList == b.toList))
  | .lss => some (.bool (Op.bytesLess a.toList b.toList))
  | .leq => some (.bool (Op.bytesLess a.toList b.toList || a.toList == b.toList))
  | .gtr => some (.bool !(Op.bytesLess a.toList b.toList || a.toList == b.toList))
  | .geq => some (.bool !(Op.bytesLess a.toList b.toList))
  | _ => none

def exBin (op : BinOp) (x y : V) : Option V :=
  match x, y with
  | .int k a, .int k' b =>
    match op with
    | .shl | .shr => shiftInt op k a b
    | _ => if k = k' then binInt op k a b else none
  | .str a, .str b => strOp op a b
  | _, _ => none

def exUn (op : UnOp) (x : V) : Option V :=
  match op, x with
  | .neg, .int k n => some (.int k (k.wrap (0 - n)))
  | .not, .bool b => some (.bool !b)
  | _, _ => none

def fillV : List V → List (Nat × Nat × V) → Option (List V)
  | cs, [] => some cs
  | cs, (o, n, v) :: r =>
    if v.cells.length = n ∧ o + n ≤ cs.length ∧ okv v = true then fillV (splice cs o v.cells) r else none

def fillE (sh : Option Nat) : List V → List (Nat × V) → Option (List V)
  | es, [] => some es
  | es, (i, v) :: r => if fits sh v = true ∧ i < es.length then fillE sh (es.set i v) r else none

/-- the elements of a slice -/
def elems (H : Hp) : V → Option (Option Nat × List V)
  | .nils => some (none, [])
  | .mt => some (none, [])
  | .fsl sh es => some (sh, es)
  | .sl a sh i n e _ => match arrAt H a sh e with
    | some es => some (sh, (es.drop i).take n)
    | none => none
  | _ => none

def slLen : V → Option Nat
  | .nils | .mt => some 0
  | .fsl _ es => some es.length
  | .sl _ _ _ n _ _ => some n
  | _ => none

/-- frozen slices, with one form for the empty ones -/
def fS (sh : Option Nat) (es : List V) : V :=
  match es with
  | [] => .mt
  | es => .fsl sh es

def bnd (t : List V) (x : Option A) (d : Nat) : Option Nat :=
  match x with
  | none => some d
  | some x => match evA t x with
    | .int _ n => if 0 ≤ n then some n.toNat else none
    | _ => none

def capOk (c : Option Nat) (m : Nat) : Bool :=
  match c with
  | some c => decide (m ≤ c)
  | none => true

def exSlice (sz : Nat) (x : V) (lo : Nat) (hi : Option Nat) (mx : Option Nat) : Option V :=
  if mx.isSome && hi.isNone then none else
  match x with
  | .nils => if lo = 0 ∧ hi.getD 0 = 0 ∧ mx.getD 0 = 0 then some .nils else none
  | .mt => if mx.getD 0 = 0 ∧ lo = 0 ∧ hi.getD 0 = 0 then some .mt else none
  | .fsl sh es =>
    if lo ≤ hi.getD es.length ∧ hi.getD es.length ≤ mx.getD es.length ∧ mx.getD es.length ≤ es.length ∧ shz sh = sz then
      some (fS sh ((es.drop lo).take (hi.getD es.length - lo))) else none
  | .sl a sh i n e c =>
    if shz sh = sz then
      match mx, c with
      | none, none => if lo ≤ hi.getD n ∧ i + hi.getD n ≤ e then some (.sl a sh (i + lo) (hi.getD n - lo) e none) else none
      | none, some c =>
        if lo ≤ hi.getD n ∧ hi.getD n ≤ c then some (if c = lo then .sl a sh i 0 e (some 0) else .sl a sh (i + lo) (hi.getD n - lo) e (some (c - lo))) else none
      | some m, c =>
        if lo ≤ hi.getD n ∧ hi.getD n ≤ m ∧ i + m ≤ e ∧ capOk c m = true then
          some (if m = lo then .mt else .sl a sh (i + lo) (hi.getD n - lo) e (some (m - lo))) else none
    else none
  | _ => none

/-- a key of its kind -/
def keyFit (st : Bool) (ks : List LK) (k : V) : Bool :=
  if st then
    match k with
    | .agg a => a.length == ks.length
    | _ => false
  else ks.length == 1

/-- maps: the place of a key -/
def findK (st : Bool) (ks : List LK) (k : V) : List V → Nat → Option (Option Nat)
  | [], _ => some none
  | x :: r, i => match keyEq st ks k x with
    | some true => some (some i)
    | some false => findK st ks k r (i + 1)
    | none => none

def mapOf (H : Hp) : V → Option (List V × List V)
  | .nilm => some ([], [])
  | .fmap ks vs => some (ks, vs)
  | .mp a => match H[a]? with
    | some (.map ks vs _ _) => some (ks, vs)
    | _ => none
  | _ => none

/-- append of a list of elements that is not empty -/
def exAppL (H : Hp) (sh : Option Nat) (bytes : Nat) (s : V) (xs : List V) : Option (V × Hp) :=
  match s with
  | .nils => if xs.length * (bytes + 1) < 2 ^ 46 then some (.sl H.length sh 0 xs.length xs.length none, H ++ [.arr sh xs]) else none
  | .sl a sh' i n e c =>
    match warrAt H a sh' e with
    | none => none
    | some es =>
      if sh' = sh ∧ (n + xs.length) * (bytes + 1) < 2 ^ 46 then
        match c with
        | some c =>
          if n + xs.length ≤ c then
            some (.sl a sh i (n + xs.length) e (some c), H.set a (.arr sh (splice es (i + n) xs)))
          else some (.sl H.length sh 0 (n + xs.length) (n + xs.length) none, H ++ [.arr sh ((es.drop i).take n ++ xs)])
        | none =>
          if i + n + xs.length ≤ e then
            some (.sl a sh i (n + xs.length) e none, H.set a (.arr sh (splice es (i + n) xs)))
          else if i = 0 then
            some (.sl a sh 0 (n + xs.length) (n + xs.length) none, H.set a (.arr sh (es.take n ++ xs)))
          else none
      else none
  | _ => none

def exApp (H : Hp) (sh : Option Nat) (bytes : Nat) (s x : V) : Option (V × Hp) :=
  match elems H x with
  | none => none
  | some (shx, xs) =>
    match xs with
    | [] =>
      match s with
      | .nils | .mt | .sl .. | .fsl .. => some (s, H)
      | _ => none
    | x :: xs => if shx = sh then exAppL H sh bytes s (x :: xs) else none

def maxS : Option V → V → Option V
  | some (.int k x), .int _ y => some (.int k (if y > x then y else x))
  | _, _ => none
def minS : Option V → V → Option V
  | some (.int k x), .int _ y => some (.int k (if y < x then y else x))
  | _, _ => none
def exMax : List V → Option V
  | [] => none
  | .int k x :: r => r.foldl maxS (some (.int k x))
  | _ => none
def exMin : List V → Option V
  | [] => none
  | .int k x :: r => r.foldl minS (some (.int k x))
  | _ => none

/-- an operation that is no call -/
def exOp (t : List V) (H : Hp) (base : Nat) : R → Option (V × Hp)
  | .mov x => some (evA t x, H)
  | .pick c a b => match evA t c with
    | .bool c => some (if c then evA t a else evA t b, H)
    | _ => none
  | .alloc sh z slot => match H.new base slot (.arr sh [z]) with
    | some (a, H) => some (.ptr a sh 0 0 1, H)
    | none => none
  | .box sh x slot =>
    if fits sh (evA t x) then
      match H.new base slot (.arr sh [evA t x]) with
      | some (a, H) => some (.ptr a sh 0 0 1, H)
      | none => none
    else none
  | .build z ps => match fillV z (ps.map fun (o, n, x) => (o, n, evA t x)) with
    | some cs => some (.agg cs, H)
    | none => none
  | .bsl live sh z n ps => match fillE sh (List.replicate n z) (ps.map fun (i, x) => (i, evA t x)) with
    | some es => match live with
      | none => some (fS sh es, H)
      | some slot => match H.new base slot (.arr sh es) with
        | some (a, H) => some (.sl a sh 0 n n (some n), H)
        | none => none
    | none => none
  | .load g n x => match evA t x with
    | .ptr a sh i o e => match arrAt H a sh e with
      | some es => (loadE g n sh es i o).map fun v => (v, H)
      | none => none
    | .fptr sh es i o => (loadE g n sh es i o).map fun v => (v, H)
    | _ => none
  | .store n a x => match evA t a with
    | .ptr a sh i o e => match warrAt H a sh e with
      | some es => match es[i]? with
        | some el =>
          let xs := (evA t x).cells
          if xs.length = n ∧ o + n ≤ el.cells.length ∧ okv (evA t x) = true then
            match mkv sh.isSome (splice el.cells o xs) with
            | some el' => some (.undef, H.set a (.arr sh (es.set i el')))
            | none => none
          else none
        | none => none
      | none => none
    | _ => none
  | .bin op x y => (exBin op (evA t x) (evA t y)).map fun v => (v, H)
  | .un op x => (exUn op (evA t x)).map fun v => (v, H)
  | .conv k x => match evA t x with
    | .int _ n => some (.int k (k.wrap n), H)
    | _ => none
  | .mkfn f first caps => some (.fn f (first.map (evA t)) (caps.map (evA t)), H)
  | .mkmap slot => match H.new base slot (.map [] [] [] 0) with
    | some (a, H) => some (.mp a, H)
    | none => none
  | .mksl sh z bytes l c slot => match evA t l, evA t c with
    | .int .i64 l, .int .i64 c =>
      if 0 ≤ l ∧ l ≤ c ∧ c * (bytes + 1) < 2 ^ 46 then
        match H.new base slot (.arr sh (List.replicate c.toNat z)) with
        | some (a, H) => some (.sl a sh 0 l.toNat c.toNat (some c.toNat), H)
        | none => none
      else none
    | _, _ => none
  | .slice sz x lo hi mx => match bnd t lo 0, (match hi with | none => some none | some h => (bnd t (some h) 0).map some), (match mx with | none => some none | some m => (bnd t (some m) 0).map some) with
    | some lo, some hi, some mx => (exSlice sz (evA t x) lo hi mx).map fun v => (v, H)
    | _, _, _ => none
  | .sslice x lo hi => match evA t x with
    | .str s => match bnd t lo 0, bnd t hi s.size with
      | some l, some h => if l ≤ h ∧ h ≤ s.size then some (.str (s.extract l h), H) else none
      | _, _ => none
    | _ => none
  | .fa o x => match evA t x with
    | .ptr a sh i o' e => some (.ptr a sh i (o' + o) e, H)
    | .fptr sh es i o' => some (.fptr sh es i (o' + o), H)
    | _ => none
  | .fld g o n x => match evA t x with
    | .agg cs => (sub g cs o n).map fun v => (v, H)
    | _ => none
  | .ia sz x i => match evA t i with
    | .int _ i =>
      if 0 ≤ i then
        match evA t x with
        | .sl a sh i0 n e _ => if i.toNat < n ∧ shz sh = sz then some (.ptr a sh (i0 + i.toNat) 0 e, H) else none
        | .fsl sh es => if i.toNat < es.length ∧ shz sh = sz then some (.fptr sh es i.toNat 0, H) else none
        | _ => none
      else none
    | _ => none
  | .iaA len sz x i => match evA t i with
    | .int _ i =>
      if 0 ≤ i ∧ i < (len : Int) then
        match evA t x with
        | .ptr a sh i0 o e => some (.ptr a sh i0 (o + i.toNat * sz) e, H)
        | .fptr sh es i0 o => some (.fptr sh es i0 (o + i.toNat * sz), H)
        | _ => none
      else none
    | _ => none
  | .idx g len sz x i => match evA t i, evA t x with
    | .int _ i, .agg cs => if 0 ≤ i ∧ i < (len : Int) then (sub g cs (i.toNat * sz) sz).map fun v => (v, H) else none
    | _, _ => none
  | .sidx x i => match evA t i, evA t x with
    | .int _ i, .str s => if 0 ≤ i then match s[i.toNat]? with
        | some b => some (.int .u8 b.toNat, H)
        | none => none
      else none
    | _, _ => none
  | .eqs neg ks x y => match evA t x, evA t y with
    | .agg a, .agg b => (lEq ks a b).map fun r => (.bool (if neg then !r else r), H)
    | _, _ => none
  | .beq neg x y => match evA t x, evA t y with
    | .bool a, .bool b => some (.bool (if neg then !(a == b) else a == b), H)
    | _, _ => none
  | .nileq neg k x y => (isNil k (evA t x) (evA t y)).map fun r => (.bool (if neg then !r else r), H)
  | .look st kd z m k ok => match mapOf H (evA t m) with
    | some (ks, vs) => if keyFit st kd (evA t k) then
        match findK st kd (evA t k) ks 0 with
        | some (some i) => match vs[i]? with
          | some v => some (if ok then .tup [v, .bool true] else v, H)
          | none => none
        | some none => some (if ok then .tup [z, .bool false] else z, H)
        | none => none
      else none
    | none => none
  | .mupd st kd m k v => match evA t m with
    | .mp a => match H[a]? with
      | some (.map ks vs bs clk) => if keyFit st kd (evA t k) then
          match findK st kd (evA t k) ks 0 with
          | some (some i) => some (.undef, H.set a (.map ks (vs.set i (evA t v)) bs clk))
          | some none => some (.undef, H.set a (.map (ks ++ [evA t k]) (vs ++ [evA t v]) (bs ++ [clk]) (clk + 1)))
          | none => none
        else none
      | _ => none
    | _ => none
  | .ext x i => match evA t x with
    | .tup vs => (vs[i]?).map fun v => (v, H)
    | _ => none
  | .nilchk x => match evA t x with
    | .ptr a sh i o e => some (.ptr a sh i o e, H)
    | .fptr sh es i o => some (.fptr sh es i o, H)
    | _ => none
  | .app sh bytes s x => exApp H sh bytes (evA t s) (evA t x)
  | .appz sh bytes z s n => match evA t n with
    | .int .i64 (.ofNat (n + 1)) => exAppL H sh bytes (evA t s) (List.replicate (n + 1) z)
    | _ => none
  | .cap x => match evA t x with
    | .nils => some (.int .i64 0, H)
    | .sl _ _ _ _ _ (some c) => some (.int .i64 c, H)
    | _ => none
  | .len x => (slLen (evA t x)).map fun (n : Nat) => (V.int .i64 (n : Int), H)
  | .lenS x => match evA t x with
    | .str s => some (.int .i64 s.size, H)
    | _ => none
  | .lenM x => (mapOf H (evA t x)).map fun p => (.int .i64 p.1.length, H)
  | .mx xs => (exMax (xs.map (evA t))).map fun v => (v, H)
  | .mn xs => (exMin (xs.map (evA t))).map fun v => (v, H)
  | .clr sh z x => match evA t x with
    | .nils | .mt => some (.undef, H)
    | .sl a sh' i n e _ => match warrAt H a sh' e with
      | some es => if sh' = sh then some (.undef, H.set a (.arr sh (splice es i (List.replicate n z)))) else none
      | none => none
    | _ => none
  | .cpy sz d s => match elems H (evA t s) with
    | some (shx, xs) => match evA t d with
      | .nils | .mt => some (.int .i64 0, H)
      | .sl a sh i n e _ => match warrAt H a sh e with
        | some es =>
          if shz sh = sz ∧ (shx = sh ∨ xs = []) then
            some (.int .i64 (min xs.length n : Nat), H.set a (.arr sh (splice es i (xs.take (min xs.length n)))))
          else none
        | none => none
      | _ => none
    | none => none
  | .call _ _ => none
  | .rng str x => match str, evA t x with
    | true, .str s => some (.it H.length, H ++ [.siter s 0])
    | false, .mp m => match H[m]? with
      | some (.map _ _ _ clk) => some (.it H.length, H ++ [.miter m clk [] clk])
      | _ => none
    | _, _ => none
  | .next str x => match evA t x with
    | .it a => match H[a]? with
      | some (.siter s pos) =>
        if str = true then
          if pos < s.size then some (.tup [.bool true, .int .i64 pos, .int .i32 (Utf8.decode s pos).1], H.set a (.siter s (pos + (Utf8.decode s pos).2)))
          else some (.tup [.bool false], H)
        else none
      | _ => none
    | _ => none
  | .entry x => match evA t x with
    | .it a => match H[a]? with
      | some (.miter m _ seen stepped) => match H[m]? with
        | some (.map ks vs bs clk) => if clk = stepped then
            match seen.getLast? with
            | some st => match (bs.zip (ks.zip vs)).find? fun p => p.1 == st with
              | some (_, k, v) => some (.tup [k, v], H)
              | none => none
            | none => none
          else none
        | _ => none
      | _ => none
    | _ => none
  | .bad => none

/-- what an iterator over a map may give next -/
def nextM (H : Hp) (a : Nat) : Option (List (V × Hp)) :=
  match H[a]? with
  | some (.miter m since seen stepped) => match H[m]? with
    | some (.map ks vs bs clk) =>
      if (!seen.isEmpty && !bs.isEmpty && bs.all (fun b => decide (b ≥ stepped))) = true then none else
      match (bs.zip (ks.zip vs)).filter fun p => !seen.contains p.1 with
      | [] => some [(.tup [.bool false], H)]
      | c => if c.all (fun p => decide (p.1 < since)) = true then some (c.map fun p => (.tup [.bool true, p.2.1, p.2.2], H.set a (.miter m since (seen ++ [p.1]) clk))) else none
    | _ => none
  | _ => none

end Go.Ai
end
section
namespace Go.Ai
open Go

mutual
/-- no part names an object of the heap, and no slice is the nil slice for sure -/
def frz : V → Bool
  | .bool _ | .int .. | .str _ | .nilp | .mt | .nilm | .nilf => true
  | .ptr .. | .nils | .sl .. | .mp _ | .yld _ | .it _ => false
  | .fptr _ es _ _ => frzs es
  | .fsl _ es => !es.isEmpty && frzs es
  | .fmap ks vs => frzs ks && frzs vs
  | .fn _ a b => frzs a && frzs b
  | .agg cs => frzs cs
  | .tup cs => frzs cs
def frzs : List V → Bool
  | [] => true
  | v :: vs => frz v && frzs vs
end

def mapO {α β : Type} (f : α → Option β) : List α → Option (List β)
  | [] => some []
  | x :: xs => match f x, mapO f xs with
    | some y, some ys => some (y :: ys)
    | _, _ => none

/-- a value in which every live part is replaced by what it holds -/
def freeze (H : Hp) : Nat → V → Option V
  | 0, v => if frz v then some v else none
  | n + 1, v => if frz v then some v else
    match v with
    | .nils => some .mt
    | .ptr a sh i o e => match arrAt H a sh e with
      | some es => (mapO (freeze H n) es).map fun es => .fptr sh es i o
      | none => none
    | .sl a sh i len e _ => match arrAt H a sh e with
      | some es => if i + len ≤ es.length then (mapO (freeze H n) ((es.drop i).take len)).map (fS sh) else none
      | none => none
    | .mp a => match H[a]? with
      | some (.map ks vs _ _) => match mapO (freeze H n) ks, mapO (freeze H n) vs with
        | some ks, some vs => some (.fmap ks vs)
        | _, _ => none
      | _ => none
    | .fptr sh es i o => (mapO (freeze H n) es).map fun es => .fptr sh es i o
    | .fsl sh es => (mapO (freeze H n) es).map (fS sh)
    | .fmap ks vs => match mapO (freeze H n) ks, mapO (freeze H n) vs with
        | some ks, some vs => some (.fmap ks vs)
        | _, _ => none
    | .fn f a b => match mapO (freeze H n) a, mapO (freeze H n) b with
        | some a, some b => some (.fn f a b)
        | _, _ => none
    | .agg cs => (mapO (freeze H n) cs).map .agg
    | .tup cs => (mapO (freeze H n) cs).map .tup
    | _ => none

def fzOf : Ob → Ob
  | .fz sh es => .fz sh es
  | _ => .dead
/-- what is frozen in the heap -/
def onlyFz (H : Hp) : Hp := H.map fzOf

/-- an array is frozen for good -/
def tag1 (H : Hp) (a : Nat) : Hp := match H[a]? with
  | some (.arr sh es) => H.set a (.fz sh es)
  | _ => H

/-- is every part that lies in memory a live one? -/
def fresh (H : Hp) : Nat → V → Bool
  | 0, _ => false
  | n + 1, v =>
    match v with
    | .bool _ | .int .. | .str _ | .nilp | .mt | .nils | .nilm | .nilf => true
    | .ptr a sh _ _ e | .sl a sh _ _ e _ => match arrAt H a sh e with
      | some es => es.all (fresh H n)
      | none => false
    | .agg cs | .tup cs => cs.all (fresh H n)
    | _ => false

/-- the live arrays and maps that a value reaches -/
def reach (H : Hp) : Nat → V → List Nat
  | 0, _ => []
  | n + 1, v =>
    match v with
    | .ptr a sh _ _ e | .sl a sh _ _ e _ => match arrAt H a sh e with
      | some es => a :: es.flatMap (reach H n)
      | none => []
    | .mp a => match H[a]? with
      | some (.map ks vs _ _) => a :: (ks.flatMap (reach H n) ++ vs.flatMap (reach H n))
      | _ => []
    | .fptr _ es _ _ | .fsl _ es => es.flatMap (reach H n)
    | .fmap ks vs => ks.flatMap (reach H n) ++ vs.flatMap (reach H n)
    | .fn _ a b => a.flatMap (reach H n) ++ b.flatMap (reach H n)
    | .agg cs | .tup cs => cs.flatMap (reach H n)
    | _ => []

def kills (H : Hp) (l : List Nat) : Hp := l.foldl (fun H a => H.set a .dead) H

mutual
/-- the heap's objects under later names -/
def shV (k : Nat) : V → V
  | .ptr a sh i o e => .ptr (a + k) sh i o e
  | .fptr sh es i o => .fptr sh (shVs k es) i o
  | .sl a sh i n e c => .sl (a + k) sh i n e c
  | .fsl sh es => .fsl sh (shVs k es)
  | .mp a => .mp (a + k)
  | .fmap ks vs => .fmap (shVs k ks) (shVs k vs)
  | .fn f a b => .fn f (shVs k a) (shVs k b)
  | .yld a => .yld (a + k)
  | .it a => .it (a + k)
  | .agg cs => .agg (shVs k cs)
  | .tup cs => .tup (shVs k cs)
  | v => v
def shVs (k : Nat) : List V → List V
  | [] => []
  | v :: vs => shV k v :: shVs k vs
end

def shOb (k : Nat) : Ob → Ob
  | .arr sh es => .arr sh (shVs k es)
  | .fz sh es => .fz sh (shVs k es)
  | .map ks vs bs clk => .map (shVs k ks) (shVs k vs) bs clk
  | _ => .dead

/-- how deep data may nest -/
def deep : Nat := 12

/-- what a call that keeps to itself hands over: its result, and the memory that it made -/
def ownR (h : Hp) (u : V) (h1 : Hp) : V × Hp := (shV h.length u, h ++ h1.map (shOb h.length))

/-- an empty slice -/
def isMt (h1 : Hp) (u : V) : Bool := match freeze h1 deep u with
  | some .mt => true
  | _ => false

mutual
/-- scalars: no part lies in memory -/
def scal : V → Bool
  | .bool _ | .int .. | .str _ | .nilp | .nilm | .nilf => true
  | .agg cs | .tup cs => scals cs
  | _ => false
def scals : List V → Bool
  | [] => true
  | v :: vs => scal v && scals vs
end

structure Env where
  fn : FuncId → Option RF
  mode : FuncId → FMode
  prim : FuncId → Option (List V → Option V)

structure St where
  t : List V
  h : Hp
  m : List Nat := []
  rd : Option Nat := none

inductive Ex where
  | normal
  | jump (j : Jump)
  deriving DecidableEq

def findL : RC → Nat → Option RC
  | .seq a b, l => match findL a l with
    | some r => some (.seq r b)
    | none => findL b l
  | .label l', l => if l' = l then some .skip else none
  | _, _ => none

def getRes (s : St) : Res → Option V
  | .tmp t => some (T.get s.t t)
  | .cell a g n => match T.get s.t a with
    | .ptr a sh i o e => match arrAt s.h a sh e with
      | some es => loadE g n sh es i o
      | none => none
    | _ => none

def setPs (t : List V) : List Nat → List V → List V
  | p :: ps, v :: vs => setPs (T.set t p v) ps vs
  | _, _ => t

def one (vs : List V) : V := match vs with | [v] => v | vs => .tup vs

def putDst (t : List V) (d : Option Nat) (v : V) : List V :=
  match d with
  | some d => T.set t d v
  | none => t

def wanted (t : List V) (g : Option (Nat × Bool)) : Bool :=
  match g with
  | none => true
  | some (i, b) => match T.get t i with
    | .bool b' => b' == b
    | _ => false

section
variable (E : Env)

/-- an operation that is wanted, calls by `inv` -/
def exC (inv : V → List V → Hp → Option (V × Hp)) (base : Nat) (t : List V) (H : Hp) (op : R) : Option (V × Hp) :=
  match op with
  | .call f args => if chkA t f = true then inv (evA t f) (args.map (evA t)) H else none
  | op => exOp t H base op

/-- one operation, calls by `inv` -/
def exO (inv : V → List V → Hp → Option (V × Hp)) (base : Nat) (o : Ro) (s : St) : Option St :=
  if wanted s.t o.g then
    match exC inv base s.t s.h o.op with
    | some (v, h) => some { s with t := putDst s.t o.dst v, h := h }
    | none => none
  else some { s with t := putDst s.t o.dst .undef }

def exOs (inv : V → List V → Hp → Option (V × Hp)) (base : Nat) : List Ro → St → Option St
  | [], s => some s
  | o :: os, s => match exO inv base o s with
    | some s => exOs inv base os s
    | none => none

end

/-- the object that an operation changes -/
def touchId (t : List V) : R → Option Nat
  | .store _ a _ => match evA t a with
    | .ptr a .. => some a
    | _ => none
  | .app _ _ s _ => match evA t s with
    | .sl a .. => some a
    | _ => none
  | .appz _ _ _ s _ => match evA t s with
    | .sl a .. => some a
    | _ => none
  | .mupd _ _ m _ _ => match evA t m with
    | .mp a => some a
    | _ => none
  | .clr _ _ x => match evA t x with
    | .sl a .. => some a
    | _ => none
  | .cpy _ d _ => match evA t d with
    | .sl a .. => some a
    | _ => none
  | _ => none

/-- the object that an operation reads -/
def readId (t : List V) : R → Option Nat
  | .load _ _ x => match evA t x with
    | .ptr a .. => some a
    | _ => none
  | .look _ _ _ m _ _ => match evA t m with
    | .mp a => some a
    | _ => none
  | .lenM x => match evA t x with
    | .mp a => some a
    | _ => none
  | _ => none

def apart (t : List V) (a b : R) : Bool :=
  match touchId t a, readId t b with
  | some x, some y => x != y
  | _, _ => true

def chkOk (t : List V) (l : List Ro) (chk : List (Nat × Nat)) : Bool :=
  chk.all fun (r, w) => match l[r]?, l[w]? with
    | some r, some w => apart t w.op r.op
    | _, _ => false

/-- all that some temporaries reach is frozen for good -/
def tagS (fz : List Nat) (s : St) : St :=
  match fz with
  | [] => s
  | _ => { s with h := (fz.flatMap fun t => reach s.h deep (T.get s.t t)).foldl tag1 s.h }

/-- the blocks for deferred calls are taken -/
def takes : Hp → List Nat → Option Hp
  | h, [] => some h
  | h, a :: as => match h[a]? with
    | some .defd => takes (h.set a .dead) as
    | _ => none

/-- before a loop over a function: the block for its deferred calls -/
def markS (s : St) : Option St :=
  match s.rd with
  | none => some { s with h := s.h ++ [.defd], m := s.h.length :: s.m }
  | some l => match s.h[l]? with
    | some (.loop ..) => some s
    | _ => none

end Go.Ai
end
section
namespace Go.Ai
open Go

def ofCell : Value → Option V
  | .bool b => some (.bool b)
  | .int k n => some (.int k n)
  | .string s => some (.str s)
  | .pointer none => some .nilp
  | .slice none 0 0 => some .nils
  | .map none => some .nilm
  | .nilFunc => some .nilf
  | .func (.func f) a b => if a.size = 0 ∧ b.size = 0 then some (.fn f [] []) else none
  | _ => none

def ofC : Value → Option V
  | .agg cs => (mapO ofCell cs.toList).map .agg
  | .tuple cs => if cs.size = 0 then some (.tup []) else none
  | v => ofCell v

def ofA : Operand → Option A
  | .tmp t => some (.t t)
  | .const v => (ofC v).map .c
  | .global _ => none
  | .func f => some (.c (.fn f [] []))

def ofAO : Option Operand → Option (Option A)
  | none => some none
  | some x => (ofA x).map some

/-- what the translation is told of a function's temps: which slice literals are live, which function a temp holds -/
structure Lo where
  lit : Nat → Bool
  fk : Nat → Option FuncId := fun _ => none

def knownF (live : Lo) : A → A
  | .t n => match live.fk n with
    | some g => .k n g
    | none => .t n
  | a => a

section
variable (P : Program)

def szOf (t : TypeId) : Option Nat := (P.info? t).map (·.size)
def isAg (t : TypeId) : Option Bool := (P.underlying t).map fun d => match d with
  | .struct _ | .array _ _ => true
  | _ => false
def shOf (t : TypeId) : Option (Option Nat) :=
  match isAg P t, szOf P t with
  | some true, some n => some (some n)
  | some false, some 1 => some none
  | _, _ => none
def zeroOf (t : TypeId) : Option V :=
  match P.info? t with
  | some i => match i.zero with
    | some v => ofC v
    | none => none
  | none => none

/-- the kinds of the cells of fields, from an offset on -/
def leavesF (rec_ : TypeId → Option (List LK)) : Nat → List Field → Option (List LK)
  | _, [] => some []
  | o, f :: fs => if f.name != "_" && f.offset == o then
      match rec_ f.type, isAg P f.type, szOf P f.type, leavesF rec_ (o + (szOf P f.type).getD 0) fs with
      | some l, some g, some n, some m => if n == l.length && (g || n == 1) then some (l ++ m) else none
      | _, _, _, _ => none
    else none

/-- the kinds of the cells of a type whose cells are all compared -/
def leaves : Nat → TypeId → Option (List LK)
  | 0, _ => none
  | d + 1, t => match P.underlying t with
    | some (.int _) => some [.int]
    | some .bool => some [.bool]
    | some .string => some [.str]
    | some (.struct fs) => if P.stoodInHeld t then none else leavesF P (leaves d) 0 fs.toList
    | _ => none

def compOp (live : Lo) (slot : Option Nat) (o : Oper) : Option R :=
  match o.op with
  | .move x | .assign x => match ofA x with
    | some x => some (.mov x)
    | none => none
  | .pick c a b => match ofA c, ofA a, ofA b with
    | some c, some a, some b => some (.pick c a b)
    | _, _, _ => none
  | .alloc t => match shOf P t, zeroOf P t with
    | some sh, some z => if fits sh z then some (.alloc sh z slot) else none
    | _, _ => none
  | .box t x => match shOf P t, ofA x with
    | some sh, some x => some (.box sh x slot)
    | _, _ => none
  | .build t ps => match P.underlying t, zeroOf P t with
    | some (.struct fs), some (.agg z) => match mapO (fun (p : Nat × Operand) => match fs[p.1]?, ofA p.2 with
        | some f, some x => (szOf P f.type).map fun n => (f.offset, n, x)
        | _, _ => none) ps.toList with
      | some ps => if fs.toList.all (fun f => (szOf P f.type).isSome) then some (.build z ps) else none
      | none => none
    | some (.array _ e), some (.agg z) => match szOf P e with
      | some n => match mapO (fun (p : Nat × Operand) => (ofA p.2).map fun x => (p.1 * n, n, x)) ps.toList with
        | some ps => some (.build z ps)
        | none => none
      | none => none
    | _, _ => none
  | .buildSlice t n ps => match P.underlying t with
    | some (.slice e) => match shOf P e, zeroOf P e, mapO (fun (p : Nat × Operand) => (ofA p.2).map fun x => (p.1, x)) ps.toList with
      | some sh, some z, some ps =>
        if fits sh z && decide (n * shz sh ≤ 2 ^ 24) && decide (0 < shz sh) then
          some (.bsl (if n == 0 || (match o.dst with | some d => live.lit d | none => false) then some slot else none) sh z n ps)
        else none
      | _, _, _ => none
    | _ => none
  | .load t x => match isAg P t, szOf P t, ofA x with
    | some g, some n, some x => if g || n == 1 then some (.load g n x) else none
    | _, _, _ => none
  | .store t a x => match szOf P t, ofA a, ofA x, o.dst with
    | some n, some a, some x, none => some (.store n a x)
    | _, _, _, _ => none
  | .nilCheck x => match ofA x with
    | some x => some (.nilchk x)
    | none => none
  | .binOp op t x y _ => match ofA x, ofA y with
    | some x, some y =>
      match (match op with | .eql => some false | .neq => some true | _ => none), P.underlying t with
      | none, _ => some (.bin op x y)
      | some _, some (.int _) | some _, some .string => some (.bin op x y)
      | some g, some .bool => some (.beq g x y)
      | some g, some (.pointer _) => some (.nileq g .ptr x y)
      | some g, some (.slice _) => some (.nileq g .sl x y)
      | some g, some (.map _ _) => some (.nileq g .map x y)
      | some g, some (.func _ _ _) => some (.nileq g .fn x y)
      | some g, some (.struct _) => if P.eqGuardType P.depth t then none else (leaves P 9 t).map fun ks => .eqs g ks x y
      | _, _ => none
    | _, _ => none
  | .unOp op _ x => match ofA x with
    | some x => some (.un op x)
    | none => none
  | .convert s d x => match P.underlying s, P.underlying d, ofA x with
    | some _, some (.int k), some x => some (.conv k x)
    | _, _, _ => none
  | .makeFunc (.func f) first caps => match mapO ofA first.toList, mapO ofA caps.toList with
    | some a, some b => some (.mkfn f a b)
    | _, _ => none
  | .makeMap t r => match r, P.underlying t with
    | none, _ => some (.mkmap slot)
    | some (.const (.int _ _)), some (.map _ _) => some (.mkmap slot)
    | _, _ => none
  | .makeSlice t l c => match P.underlying t with
    | some (.slice e) => match shOf P e, zeroOf P e, (P.info? e).map (·.bytes), ofA l, ofA c with
      | some sh, some z, some b, some l, some c => if fits sh z && decide (0 < shz sh) then some (.mksl sh z b l c slot) else none
      | _, _, _, _, _ => none
    | _ => none
  | .slice t x lo hi mx => match P.underlying t with
    | some (.slice e) => match szOf P e, ofA x, ofAO lo, ofAO hi, ofAO mx with
      | some n, some x, some lo, some hi, some mx => some (.slice n x lo hi mx)
      | _, _, _, _, _ => none
    | some .string => match ofA x, ofAO lo, ofAO hi, mx with
      | some x, some lo, some hi, none => some (.sslice x lo hi)
      | _, _, _, _ => none
    | _ => none
  | .fieldAddr t x f => match P.underlying t, ofA x with
    | some (.struct fs), some x => match fs[f]? with
      | some f => match szOf P f.type with
        | some (_ + 1) => some (.fa f.offset x)
        | _ => none
      | none => none
    | _, _ => none
  | .field t x f => match P.underlying t, ofA x with
    | some (.struct fs), some x => match fs[f]? with
      | some f => match isAg P f.type, szOf P f.type with
        | some g, some n => if g || n == 1 then some (.fld g f.offset n x) else none
        | _, _ => none
      | none => none
    | _, _ => none
  | .indexAddr t x i => match P.underlying t, ofA x, ofA i with
    | some (.slice e), some x, some i => match szOf P e with
      | some n => some (.ia n x i)
      | none => none
    | some (.array len e), some x, some i => match szOf P e with
      | some n => some (.iaA len n x i)
      | none => none
    | _, _, _ => none
  | .index t x i => match P.underlying t, ofA x, ofA i with
    | some (.array len e), some x, some i => match isAg P e, szOf P e with
      | some g, some n => if g || n == 1 then some (.idx g len n x i) else none
      | _, _ => none
    | some .string, some x, some i => some (.sidx x i)
    | _, _, _ => none
  | .lookup t m k ok => match P.underlying t with
    | some (.map kt e) => match isAg P kt, leaves P 9 kt, zeroOf P e, ofA m, ofA k with
      | some st, some ks, some z, some m, some k => some (.look st ks z m k ok)
      | _, _, _, _, _ => none
    | _ => none
  | .mapUpdate t m k v | .insert t m k v => match P.underlying t, o.dst with
    | some (.map kt _), none => match isAg P kt, leaves P 9 kt, ofA m, ofA k, ofA v with
      | some st, some ks, some m, some k, some v => some (.mupd st ks m k v)
      | _, _, _, _, _ => none
    | _, _ => none
  | .range t x => match P.underlying t, ofA x with
    | some .string, some x => some (.rng true x)
    | some (.map _ _), some x => some (.rng false x)
    | _, _ => none
  | .next it str => match ofA it with
    | some x => some (.next str x)
    | none => none
  | .entry it => match ofA it with
    | some x => some (.entry x)
    | none => none
  | .extract x i => match ofA x with
    | some x => some (.ext x i)
    | none => none
  | .call { callee := .value f, args, .. } => match ofA f, mapO ofA args.toList with
    | some f, some as => some (.call (knownF live f) as)
    | _, _ => none
  | .call { callee := .builtin .append, args, argTypes } => match args.toList, argTypes.toList with
    | [s, x], [ts, tx] => match P.underlying ts, P.underlying tx with
      | some (.slice e), some (.slice e') => match shOf P e, shOf P e', (P.info? e).map (·.bytes), zeroOf P e, ofA s, ofA x with
        | some sh, some sh', some b, some z, some s, some x =>
          if sh = sh' ∧ fits sh z = true ∧ 0 < shz sh ∧ b < 1048576 then some (.app sh b s x) else none
        | _, _, _, _, _, _ => none
      | some (.slice e), some (.int .i64) => match shOf P e, (P.info? e).map (·.bytes), zeroOf P e, ofA s, ofA x with
        | some sh, some b, some z, some s, some x =>
          if fits sh z = true ∧ 0 < shz sh ∧ b < 1048576 then some (.appz sh b z s x) else none
        | _, _, _, _, _ => none
      | _, _ => none
    | _, _ => none
  | .call { callee := .builtin .len, args, argTypes } => match args.toList, argTypes.toList with
    | [x], [t] => match P.underlying t, ofA x with
      | some (.slice _), some x => some (.len x)
      | some .string, some x => some (.lenS x)
      | some (.map _ _), some x => some (.lenM x)
      | some (.array n _), some _ => some (.mov (.c (.int .i64 n)))
      | _, _ => none
    | _, _ => none
  | .call { callee := .builtin .cap, args, argTypes } => match args.toList, argTypes.toList with
    | [x], [t] => match P.underlying t, ofA x with
      | some (.slice _), some x => some (.cap x)
      | _, _ => none
    | _, _ => none
  | .call { callee := .builtin .max, args, .. } => match mapO ofA args.toList with
    | some as => some (.mx as)
    | none => none
  | .call { callee := .builtin .min, args, .. } => match mapO ofA args.toList with
    | some as => some (.mn as)
    | none => none
  | .call { callee := .builtin .clear, args, argTypes } => match args.toList, argTypes.toList, o.dst with
    | [x], [t], none => match P.underlying t with
      | some (.slice e) => match shOf P e, zeroOf P e, ofA x with
        | some sh, some z, some x => if fits sh z then some (.clr sh z x) else none
        | _, _, _ => none
      | _ => none
    | _, _, _ => none
  | .call { callee := .builtin .copy, args, argTypes } => match args.toList, argTypes.toList with
    | [d, s], [t, u] => match P.underlying t, P.underlying u with
      | some (.slice e), some (.slice _) => match szOf P e, ofA d, ofA s with
        | some n, some d, some s => some (.cpy n d s)
        | _, _, _ => none
      | _, _ => none
    | _, _ => none
  | _ => none
end

/-! ### a region -/

def okDst (N : Nat) : Option Nat → Bool
  | none => true
  | some d => decide (d < N)

def guardOf (ops : Array Oper) (o : Oper) : Option (Option (Nat × Bool)) :=
  match o.guard with
  | none => some none
  | some (j, w) => match ops[j]? with
    | some o' => match o'.dst with
      | some d => some (some (d, w))
      | none => none
    | none => none

def compRo (P : Program) (live : Lo) (N : Nat) (slot : Option Nat) (ops : Array Oper) (o : Oper) : Option Ro :=
  if okDst N o.dst then
    match guardOf ops o with
    | some g => some { dst := o.dst, op := (compOp P live slot o).getD .bad, g }
    | none => none
  else none

inductive Kd where
  | p | r | c | o | w | l | x
  deriving DecidableEq

def callKind (md : FuncId → Option FMode) : A → Kd
  | .c (.fn f [] []) => match md f with
    | some .pure | some .snap | none => .c
    | some .own => .o
    | _ => .x
  | .k _ f => match md f with
    | some .pure | some .snap | none => .c
    | some .own => .o
    | _ => .x
  | _ => .x

def slotKind (s : Option Nat) : Kd := if s.isSome then .l else .x

def kindOf (md : FuncId → Option FMode) : R → Kd
  | .alloc _ _ s => slotKind s
  | .box _ _ s => slotKind s
  | .mkmap s => slotKind s
  | .mksl _ _ _ _ _ s => slotKind s
  | .bsl live _ _ _ _ => match live with
    | none => .p
    | some s => slotKind s
  | .load .. => .r
  | .look .. => .r
  | .lenM .. => .r
  | .store .. => .w
  | .app .. => .w
  | .appz .. => .w
  | .mupd .. => .w
  | .clr .. => .w
  | .cpy .. => .w
  | .call f _ => callKind md f
  | .rng _ _ | .next _ _ | .entry _ => .x
  | _ => .p

def A.tmps : A → List Nat
  | .t n => [n]
  | .c _ => []
  | .k n _ => [n]
def AO.tmps : Option A → List Nat
  | some a => a.tmps
  | none => []
def R.tmps : R → List Nat
  | .mov x | .box _ x _ | .load _ _ x | .un _ x | .conv _ x | .fa _ x | .fld _ _ _ x | .ext x _ | .nilchk x | .len x | .lenS x | .lenM x | .cap x | .clr _ _ x | .rng _ x | .next _ x | .entry x => x.tmps
  | .pick a b c | .mupd _ _ a b c => a.tmps ++ b.tmps ++ c.tmps
  | .alloc .. | .mkmap .. | .bad => []
  | .build _ ps => ps.flatMap fun p => p.2.2.tmps
  | .bsl _ _ _ _ ps => ps.flatMap fun p => p.2.tmps
  | .store _ a b | .bin _ a b | .mksl _ _ _ a b _ | .ia _ a b | .iaA _ _ a b | .idx _ _ _ a b | .sidx a b | .look _ _ _ a b _ | .eqs _ _ a b | .beq _ a b | .nileq _ _ a b | .app _ _ a b | .appz _ _ _ a b | .cpy _ a b => a.tmps ++ b.tmps
  | .mkfn _ a b => a.flatMap A.tmps ++ b.flatMap A.tmps
  | .slice _ x a b c => x.tmps ++ AO.tmps a ++ AO.tmps b ++ AO.tmps c
  | .sslice x a b => x.tmps ++ AO.tmps a ++ AO.tmps b
  | .mx as | .mn as => as.flatMap A.tmps
  | .call f as => f.tmps ++ as.flatMap A.tmps
def Ro.reads (o : Ro) : List Nat := (match o.g with | some (t, _) => [t] | none => []) ++ o.op.tmps

def edgesOf (o : Oper) : List Nat := o.after.toList.filterMap fun e => if Region.binds .any e then some e.on else none

def ancs : List Oper → List Nat → List Nat
  | [], acc => acc
  | o :: os, acc => ancs os (acc ++ [(edgesOf o).foldl (fun s e => s ||| 2 ^ e ||| acc.getD e 0) 0])

/-- the canonical order: what makes no object first, then the calls that make some -/
def order (al lo : List Bool) (ed : List (List Nat)) : Nat → List Nat → List Nat
  | 0, acc => acc
  | n + 1, acc =>
    let rdy := (List.range ed.length).filter fun i => !acc.contains i && (ed.getD i []).all (acc.contains ·)
    match rdy.find? (fun i => !al.getD i false && !lo.getD i false) with
    | some i => order al lo ed n (acc ++ [i])
    | none => match rdy.find? (fun i => !al.getD i false) with
      | some i => order al lo ed n (acc ++ [i])
      | none => match rdy with
        | i :: _ => order al lo ed n (acc ++ [i])
        | [] => acc

/-- may two operations that no edge orders be exchanged, the first one standing ahead of the second? -/
def indep (md : FuncId → Option FMode) (a b : Ro) : Bool :=
  (match a.dst with | some d => !b.reads.contains d && b.dst != some d | none => true) &&
  (match b.dst with | some d => !a.reads.contains d | none => true) &&
  match kindOf md a.op, kindOf md b.op with
  | .p, _ | _, .p => true
  | .r, .r | .r, .c | .c, .r | .c, .c | .r, .l | .c, .l | .l, .l => true
  | .r, .w => true
  | .r, .o | .o, .l => true
  | _, _ => false

def compDraw (P : Program) (md : FuncId → Option FMode) (live : Lo) (fz : List Nat) (N : Nat) (ops : Array Oper) : Option RC :=
  let ed := ops.toList.map edgesOf
  let al := ops.toList.map fun o => match compRo P live N (some 0) ops o with
    | some r => decide (kindOf md r.op = .l)
    | none => false
  let lo := ops.toList.map fun o => match compRo P live N (some 0) ops o with
    | some r => decide (kindOf md r.op = .o)
    | none => false
  let c := order al lo ed ops.size []
  let an := ancs ops.toList []
  if ops.toList.zipIdx.all (fun (o, i) => (edgesOf o).all (· < i)) && (List.range ops.size).all (c.contains ·) && c.all (fun i => decide (i < ops.size)) && decide c.Nodup then
    match mapO (fun (p : Nat × Nat) => match ops[p.1]? with
      | some o => compRo P live N (some ((c.take p.2).filter fun i => al.getD i false).length) ops o
      | none => none) c.zipIdx with
    | some l =>
      let pairs := (List.range l.length).flatMap fun j => ((List.range j).filter fun i => !(an.getD (c.getD j 0) 0).testBit (c.getD i 0)).map fun i => (i, j)
      let chk := pairs.filter fun (i, j) => match l[i]?, l[j]? with
        | some a, some b => kindOf md a.op = .r && kindOf md b.op = .w
        | _, _ => false
      if pairs.all (fun (i, j) => match l[i]?, l[j]? with
          | some a, some b => indep md a b
          | _, _ => false) &&
        -- no operation stands behind one that waits for it
        ((List.range l.length).all fun j => (List.range j).all fun i => !(an.getD (c.getD i 0) 0).testBit (c.getD j 0)) &&
        ((List.range l.length).all fun j => !(an.getD (c.getD j 0) 0).testBit (c.getD j 0)) &&
        -- what a pair to be looked at reads is written by nothing but what it waits for
        chk.all (fun (i, j) => match l[i]?, l[j]? with
            | some a, some b => (List.range l.length).all fun k => match l[k]? with
              | some o => match o.dst with
                | some d => (!a.op.tmps.contains d || (an.getD (c.getD i 0) 0).testBit (c.getD k 0)) && (!b.op.tmps.contains d || (an.getD (c.getD j 0) 0).testBit (c.getD k 0))
                | none => true
              | none => true
            | _, _ => false) then
        some (.dops fz (c.filter fun i => al.getD i false).length l chk)
      else none
    | none => none
  else none

/-- what the translation is told: which slice literals are live, and what is frozen before a region -/
structure Lv where
  live : Lo
  fz : Nat → List Nat

def comp (P : Program) (md : FuncId → Option FMode) (live : Lv) (N : Nat) : Code → Option RC
  | .skip => some .skip
  | .region id ops false => (mapO (fun o => compRo P live.live N none ops o) ops.toList).map (.ops (live.fz id))
  | .region id ops true => compDraw P md live.live (live.fz id) N ops
  | .seq a b => match comp P md live N a, comp P md live N b with
    | some a, some b => some (.seq a b)
    | _, _ => none
  | .cond c a b => match ofA c, comp P md live N a, comp P md live N b with
    | some c, some a, some b => some (.cond c a b)
    | _, _, _ => none
  | .block id b => (comp P md live N b).map (.block id)
  | .loop b => (comp P md live N b).map .loop
  | .rangeFunc f ps a b => match ofA f, comp P md live N a, comp P md live N b with
    | some f, some a, some b => if ps.all (fun p => decide (p < N)) then some (.rangeF f ps.toList a b) else none
    | _, _, _ => none
  | .exit id => some (.exit id)
  | .scope b => (comp P md live N b).map .scope
  | .label l => some (.label l)
  | .goto l => some (.goto l)
  | .ret => some .ret
  | .refuse _ => some (.ops [] [{ dst := none, op := .bad }])

def compRes (P : Program) : ResultVar → Option Res
  | .tmp t => some (.tmp t)
  | .cell a t => match isAg P t, szOf P t with
    | some g, some n => if g || n == 1 then some (.cell a g n) else none
    | _, _ => none

def compF (P : Program) (md : FuncId → Option FMode) (live : FuncId → Lv) (f : FuncId) : Option RF :=
  match P.funcs[f]? with
  | some fn => if fn.name == "runtime.NumGoroutine" then none else match fn.body with
    | some b => match comp P md (live f) fn.ntmps b, mapO (compRes P) fn.results.toList with
      | some c, some rs => some { ntmps := fn.ntmps, res := rs, body := c }
      | _, _ => none
    | none => none
  | none => none

end Go.Ai
end
section
namespace Go.Ai
open Go Go.RowKit

def Jump.code : Jump → Code
  | .exit i => .exit i
  | .goto l => .goto l
  | .ret => .ret

/-- what the theory needs of a program and of an environment -/
structure Ctx where
  P : Program
  E : Env
  live : FuncId → Lv
  F0 : Fz := fun _ => none

def Ctx.md (X : Ctx) (f : FuncId) : Option FMode := some (X.E.mode f)

def TRel (φ : Phi) (F : Fz) (N : Nat) (t : List V) (tm : Array Value) : Prop :=
  t.length ≤ N ∧ tm.size = N ∧ ∀ j, VRel φ F (T.get t j) (tm.getD j undef)

theorem TRel.mono {φ φ' : Phi} {F F' : Fz} (hφ : φ.le φ') (hF : F.le F') {N : Nat} {t : List V} {tm : Array Value} (h : TRel φ F N t tm) :
    TRel φ' F' N t tm := ⟨h.1, h.2.1, fun j => (h.2.2 j).mono hφ hF⟩

theorem T.get_set (t : List V) (i j : Nat) (v : V) : T.get (T.set t i v) j = if i = j then v else T.get t j := by
  induction t generalizing i j with
  | nil =>
    induction i generalizing j with
    | zero => cases j <;> simp [T.get, T.set]
    | succ i ih =>
      cases j with
      | zero => simp [T.get, T.set]
      | succ j => have := ih j; simp [T.get, T.set] at this ⊢; exact this
  | cons x t ih =>
    cases i with
    | zero => cases j <;> simp [T.get, T.set]
    | succ i =>
      cases j with
      | zero => simp [T.get, T.set]
      | succ j => have := ih i j; simp [T.get, T.set] at this ⊢; exact this

theorem T.length_set (t : List V) (i : Nat) (v : V) : (T.set t i v).length = max t.length (i + 1) := by
  induction t generalizing i with
  | nil =>
    induction i with
    | zero => simp [T.set]
    | succ i ih => simp only [T.set, List.length_cons, ih]; simp
  | cons x t ih =>
    cases i with
    | zero => simp [T.set]
    | succ i => simp only [T.set, List.length_cons, ih]; omega

theorem TRel.set {φ : Phi} {F : Fz} {N : Nat} {t : List V} {tm : Array Value} (h : TRel φ F N t tm) {d : Nat} (hd : d < N) {v : V} {x : Value} (hv : VRel φ F v x) :
    TRel φ F N (T.set t d v) (tm.setIfInBounds d x) := by
  refine ⟨by rw [T.length_set]; have := h.1; omega, by simp [h.2.1], fun j => ?_⟩
  rw [T.get_set, Array.getD_eq_getD_getElem?, Array.getElem?_setIfInBounds]
  by_cases e : d = j
  · subst e; simp [h.2.1, hd, hv]
  · simp only [e, if_false]
    rw [← Array.getD_eq_getD_getElem?]; exact h.2.2 j

def Ob.key : Ob → Nat
  | .arr _ es => es.length
  | .fz _ es => es.length
  | _ => 0
def Ob.live : Ob → Prop
  | .none_ | .dead => False
  | _ => True

/-- what a block holds, frozen -/
def content : Obj → Option FO
  | .cells cs _ _ => some (.cells cs.toList)
  | .map es _ => some (.map es.toList)
  | _ => none

/-- is an object's block frozen? -/
def FC (F : Fz) (o : Ob) (b : Nat) (c : Obj) : Prop := match o with
  | .fz _ _ => F b = content c
  | _ => F b = none

theorem FC.of {F : Fz} {o : Ob} {b : Nat} {c : Obj} (h : F b = none) (ho : ∀ sh es, o ≠ .fz sh es) : FC F o b c := by
  cases o <;> first | exact h | exact absurd rfl (ho _ _)

theorem FC.none {F : Fz} {o : Ob} {b : Nat} {c : Obj} (h : FC F o b c) (ho : ∀ sh es, o ≠ .fz sh es) : F b = .none := by
  cases o <;> first | exact h | exact absurd rfl (ho _ _)

theorem FC.congr {F F' : Fz} {o : Ob} {b : Nat} {c : Obj} (h : FC F o b c) (e : F' b = F b) : FC F' o b c := by
  cases o <;> exact e.trans h

def ORel (X : Ctx) (φ : Phi) (F : Fz) (o : Ob) (n : Nat) (c : Obj) : Prop :=
  match o with
  | .none_ | .dead => True
  | .arr sh es => ∃ cs T, c = .cells cs T (0, 0) ∧ cs.size = n ∧ (∀ e ∈ es, fits sh e = true) ∧ (cellsOf es).length ≤ cs.size ∧
      ∀ j (a : j < (cellsOf es).length) (b : j < cs.size), VRel φ F (cellsOf es)[j] cs[j] ∧ cs[j].oneCell' = true
  | .fz sh es => ∃ cs T, c = .cells cs T (0, 0) ∧ cs.size = n ∧ (∀ e ∈ es, fits sh e = true) ∧ (cellsOf es).length ≤ cs.size ∧
      ∀ j (a : j < (cellsOf es).length) (b : j < cs.size), VRel φ F (cellsOf es)[j] cs[j] ∧ cs[j].oneCell' = true
  | .map ks vs bs clk => ∃ es, c = .map es clk ∧ ks.length = es.size ∧ vs.length = es.size ∧ bs.length = es.size ∧
      (∀ j (a : j < ks.length) (b : j < es.size), VRel φ F ks[j] es[j].key) ∧
      (∀ j (a : j < vs.length) (b : j < es.size), VRel φ F vs[j] es[j].val) ∧
      (∀ j (a : j < bs.length) (b : j < es.size), bs[j] = es[j].born)
  | .loop st pend t ps asn body => ∃ l, c = .loop l ∧ l.state = st ∧ l.pending = pend.map Jump.code ∧ l.params.toList = ps ∧
      ∃ lv, TRel φ F l.tmps.size t l.tmps ∧ (∀ p ∈ ps, p < l.tmps.size) ∧ comp X.P X.md lv l.tmps.size l.assign = some asn ∧ comp X.P X.md lv l.tmps.size l.body = some body
  | .defd => c = .deferred (some [])
  | .miter m since seen stepped => ∃ mb k, c = .mapIter (some mb) since seen.toArray stepped ∧ φ m 0 = some (mb, k)
  | .siter s pos => c = .stringIter s pos

def FRel (fo : FO) (c : Obj) : Prop :=
  match fo with
  | .cells fc => ∃ cs T fr, c = .cells cs T fr ∧ cs.toList = fc
  | .map es => ∃ arr clk, c = .map arr clk ∧ arr.toList = es

structure Sim (X : Ctx) (n0 : Nat) (φ : Phi) (F : Fz) (H : Hp) (w : World) : Prop where
  sz : n0 ≤ w.heap.size
  len : ∀ a e, H[a]? = none → φ a e = none
  non : ∀ a e, H[a]? = some .none_ → φ a e = none
  fut : ∀ a sh es e, H[a]? = some (.arr sh es) → es.length < e → φ a e = none
  obj : ∀ a o, H[a]? = some o → o.live → ∃ b n c, φ a o.key = some (b, n) ∧ n0 ≤ b ∧ FC F o b c ∧ w.heap[b]? = some c ∧ ORel X φ F o n c
  inj : ∀ a a' o o' b n n', H[a]? = some o → o.live → H[a']? = some o' → o'.live → φ a o.key = some (b, n) → φ a' o'.key = some (b, n') → a = a'
  fz : ∀ b fo, F b = some fo → ∃ c, w.heap[b]? = some c ∧ FRel fo c
  f0 : X.F0.le F

/-- what a step leaves as it was -/
structure Ext (n0 : Nat) (φ : Phi) (F : Fz) (w : World) (φ' : Phi) (F' : Fz) (w' : World) : Prop where
  p : φ.le φ'
  f : F.le F'
  b : Below n0 w w'
  n : ∀ k, k < n0 → F' k = F k

theorem Ext.refl (n0 : Nat) (φ : Phi) (F : Fz) (w : World) : Ext n0 φ F w φ F w := ⟨Phi.le.refl _, Fz.le.refl _, .refl _ _, fun _ _ => rfl⟩
theorem Ext.trans {n0 : Nat} {φ φ' φ'' : Phi} {F F' F'' : Fz} {w w' w'' : World} (h : Ext n0 φ F w φ' F' w') (k : Ext n0 φ' F' w' φ'' F'' w'') :
    Ext n0 φ F w φ'' F'' w'' := ⟨Phi.le.trans h.p k.p, Fz.le.trans h.f k.f, h.b.trans k.b, fun i hi => (k.n i hi).trans (h.n i hi)⟩

theorem ORel.mono {X : Ctx} {φ φ' : Phi} {F F' : Fz} (hφ : φ.le φ') (hF : F.le F') {o : Ob} {n : Nat} {c : Obj} (h : ORel X φ F o n c) : ORel X φ' F' o n c := by
  cases o with
  | none_ => trivial
  | dead => trivial
  | arr sh es =>
    obtain ⟨cs, T, h1, h2, h3, h4, h5⟩ := h
    exact ⟨cs, T, h1, h2, h3, h4, fun j a b => ⟨(h5 j a b).1.mono hφ hF, (h5 j a b).2⟩⟩
  | fz sh es =>
    obtain ⟨cs, T, h1, h2, h3, h4, h5⟩ := h
    exact ⟨cs, T, h1, h2, h3, h4, fun j a b => ⟨(h5 j a b).1.mono hφ hF, (h5 j a b).2⟩⟩
  | map ks vs bs clk =>
    obtain ⟨es, h1, h2, h3, h4, h5, h6, h7⟩ := h
    exact ⟨es, h1, h2, h3, h4, fun j a b => (h5 j a b).mono hφ hF, fun j a b => (h6 j a b).mono hφ hF, h7⟩
  | loop st pend t ps asn body =>
    obtain ⟨l, h1, h2, h3, h4, lv, h5, h6, h7, h8⟩ := h
    exact ⟨l, h1, h2, h3, h4, lv, h5.mono hφ hF, h6, h7, h8⟩
  | defd => exact h
  | miter m since seen stepped =>
    obtain ⟨mb, k, h1, h2⟩ := h
    exact ⟨mb, k, h1, hφ _ _ _ h2⟩
  | siter s pos => exact h

/-- ONE OBJECT TURNS (or comes to be), in one block: the simulation goes on. -/
theorem Sim.update {X : Ctx} {n0 : Nat} {φ φ' : Phi} {F : Fz} {H H' : Hp} {w w' : World} (S : Sim X n0 φ F H w) {a b n : Nat} {o' : Ob} {c : Obj}
    (hH : H'[a]? = some o') (hHo : ∀ a', a' ≠ a → H'[a']? = H[a']?)
    (hw : w'.heap[b]? = some c) (hwo : ∀ k, k ≠ b → k < w.heap.size → w'.heap[k]? = w.heap[k]?) (hsz : w.heap.size ≤ w'.heap.size)
    (hφ : φ.le φ') (hφn : φ' a o'.key = some (b, n)) (hφo : ∀ a' e, φ' a' e ≠ φ a' e → a' = a ∧ e = o'.key)
    (hb : n0 ≤ b) (hFb : F b = none) (hother : ∀ a' o n', a' ≠ a → H[a']? = some o → o.live → φ a' o.key ≠ some (b, n'))
    (hO : ORel X φ' F o' n c) (hl : o'.live) (hfut : ∀ e, o'.key < e → φ a e = none ∨ (∀ sh es, o' ≠ .arr sh es)) (hnf : ∀ sh es, o' ≠ .fz sh es) : Sim X n0 φ' F H' w' := by
  have hle := S.sz
  refine ⟨by omega, ?_, ?_, ?_, ?_, ?_, ?_, S.f0⟩
  · intro a' e h
    by_cases ha : a' = a
    · subst ha; rw [hH] at h; simp at h
    · rw [hHo a' ha] at h
      apply Classical.byContradiction
      intro hne
      by_cases hx : φ' a' e = φ a' e
      · rw [hx, S.len a' e h] at hne; exact hne rfl
      · exact ha (hφo a' e hx).1
  · intro a' e h
    by_cases ha : a' = a
    · subst ha; rw [hH] at h; cases h; exact absurd hl (by simp [Ob.live])
    · rw [hHo a' ha] at h
      apply Classical.byContradiction
      intro hne
      by_cases hx : φ' a' e = φ a' e
      · rw [hx, S.non a' e h] at hne; exact hne rfl
      · exact ha (hφo a' e hx).1
  · intro a' sh es e h hlt
    by_cases ha : a' = a
    · subst ha; rw [hH] at h; cases h
      apply Classical.byContradiction
      intro hne
      by_cases hx : φ' a' e = φ a' e
      · rcases hfut e hlt with h1 | h1
        · rw [hx, h1] at hne; exact hne rfl
        · exact h1 sh es rfl
      · have := (hφo a' e hx).2; simp [Ob.key] at this; omega
    · rw [hHo a' ha] at h
      apply Classical.byContradiction
      intro hne
      by_cases hx : φ' a' e = φ a' e
      · rw [hx, S.fut a' sh es e h hlt] at hne; exact hne rfl
      · exact ha (hφo a' e hx).1
  · intro a' o h ho
    by_cases ha : a' = a
    · subst ha; rw [hH] at h; cases h
      exact ⟨b, n, c, hφn, hb, .of hFb hnf, hw, hO⟩
    · rw [hHo a' ha] at h
      obtain ⟨b', m, c', h1, h2, h3, h4, h5⟩ := S.obj a' o h ho
      have hbb : b' ≠ b := by
        intro e; subst e; exact hother a' o m ha h ho h1
      have hlt : b' < w.heap.size := by
        apply Classical.byContradiction; intro hn
        rw [Array.getElem?_eq_none (by omega)] at h4; simp at h4
      exact ⟨b', m, c', hφ _ _ _ h1, h2, h3, by rw [hwo b' hbb hlt]; exact h4, h5.mono hφ (Fz.le.refl _)⟩
  · intro a1 a2 o1 o2 b' m m' h1 l1 h2 l2 e1 e2
    by_cases ha1 : a1 = a
    · by_cases ha2 : a2 = a
      · rw [ha1, ha2]
      · exfalso
        subst ha1; rw [hH] at h1; cases h1
        rw [hφn] at e1; cases e1
        rw [hHo a2 ha2] at h2
        have hx : φ' a2 o2.key = φ a2 o2.key := by
          apply Classical.byContradiction; intro hx; exact ha2 (hφo _ _ hx).1
        rw [hx] at e2
        exact hother a2 o2 m' ha2 h2 l2 e2
    · have hx1 : φ' a1 o1.key = φ a1 o1.key := by
        apply Classical.byContradiction; intro hx; exact ha1 (hφo _ _ hx).1
      by_cases ha2 : a2 = a
      · exfalso
        subst ha2; rw [hH] at h2; cases h2
        rw [hφn] at e2; cases e2
        rw [hHo a1 ha1] at h1; rw [hx1] at e1
        exact hother a1 o1 m ha1 h1 l1 e1
      · have hx2 : φ' a2 o2.key = φ a2 o2.key := by
          apply Classical.byContradiction; intro hx; exact ha2 (hφo _ _ hx).1
        rw [hHo a1 ha1] at h1; rw [hHo a2 ha2] at h2; rw [hx1] at e1; rw [hx2] at e2
        exact S.inj a1 a2 o1 o2 b' m m' h1 l1 h2 l2 e1 e2
  · intro b' fo h
    obtain ⟨c', h1, h2⟩ := S.fz b' fo h
    have hbb : b' ≠ b := by intro e; subst e; rw [hFb] at h; simp at h
    have hlt : b' < w.heap.size := by
      apply Classical.byContradiction; intro hn
      rw [Array.getElem?_eq_none (by omega)] at h1; simp at h1
    exact ⟨c', by rw [hwo b' hbb hlt]; exact h1, h2⟩

/-- the world's other parts do not matter -/
theorem Sim.world {X : Ctx} {n0 : Nat} {φ : Phi} {F : Fz} {H : Hp} {w w' : World} (S : Sim X n0 φ F H w) (h : w'.heap = w.heap) : Sim X n0 φ F H w' := by
  obtain ⟨a, b, c, d, e, f, g, g0⟩ := S
  exact ⟨by rw [h]; exact a, b, c, d, by rw [h]; exact e, f, by rw [h]; exact g, g0⟩

theorem heap_lt {w : World} {b : Nat} {c : Obj} (h : w.heap[b]? = some c) : b < w.heap.size := by
  apply Classical.byContradiction; intro hn
  rw [Array.getElem?_eq_none (by omega)] at h; simp at h

/-- fresh blocks are not frozen, and no object lies there -/
theorem Sim.fresh_F {X : Ctx} {n0 : Nat} {φ : Phi} {F : Fz} {H : Hp} {w : World} (S : Sim X n0 φ F H w) : F w.heap.size = none := by
  cases h : F w.heap.size with
  | none => rfl
  | some fo => obtain ⟨c, h1, _⟩ := S.fz _ _ h; exact absurd (heap_lt h1) (by omega)

/-- new memory that is frozen at once -/
theorem Sim.frozen_new {X : Ctx} {n0 : Nat} {φ : Phi} {F : Fz} {H : Hp} {w : World} (S : Sim X n0 φ F H w) (cs : Array Value) (T : TypeId) :
    Sim X n0 φ (fun b => if b = w.heap.size then some (.cells cs.toList) else F b) H { w with heap := w.heap.push (.cells cs T (0, 0)) } := by
  have hle := S.sz
  have hF : F.le (fun b => if b = w.heap.size then some (.cells cs.toList) else F b) := by
    intro b x h
    have : b ≠ w.heap.size := by intro e; subst e; rw [S.fresh_F] at h; simp at h
    simp [this, h]
  refine ⟨by simp; omega, S.len, S.non, S.fut, ?_, S.inj, ?_, Fz.le.trans S.f0 hF⟩
  · intro a o h ho
    obtain ⟨b, n, c, h1, h2, h3, h4, h5⟩ := S.obj a o h ho
    have hb := heap_lt h4
    refine ⟨b, n, c, h1, h2, ?_, ?_, h5.mono (Phi.le.refl _) hF⟩
    · have : b ≠ w.heap.size := by omega
      exact h3.congr (by simp [this])
    · show (w.heap.push _)[b]? = _
      rw [Array.getElem?_push, if_neg (by omega)]; exact h4
  · intro b fo h
    by_cases hb : b = w.heap.size
    · subst hb
      simp at h; subst h
      exact ⟨_, by show (w.heap.push _)[w.heap.size]? = _; simp, cs, T, (0, 0), rfl, rfl⟩
    · simp [hb] at h
      obtain ⟨c, h1, h2⟩ := S.fz b fo h
      have := heap_lt h1
      exact ⟨c, by show (w.heap.push _)[b]? = _; rw [Array.getElem?_push, if_neg (by omega)]; exact h1, h2⟩

end Go.Ai
end
