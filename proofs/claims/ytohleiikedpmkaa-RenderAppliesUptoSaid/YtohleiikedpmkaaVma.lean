/- A symbolic machine for a loaded program: its definitions, its steps, its soundness. -/
import Derived.Orders
import Derived.RowKit3
import Derived.Below
import Derived.Laws.IdiomCopy
import Derived.Laws.Entries
import Derived.Laws.StructEq
import Derived.ChangeKeysEq
import Derived.Laws.Externs
import Derived.KernelRfl
import Derived.Laws.BytesString
set_option linter.unusedSimpArgs false
set_option linter.unusedVariables false
namespace Go.Proofs.Ytohleiikedpmkaa.Vm
open Go
inductive C where
  | int (k : IntKind) (n : Int)
  | bool (b : Bool)
  | str (s : ByteArray)
  | nilp
  | ptr (b i o : Nat)
  | nils
  | sl (b i o n es : Nat)
  | fn (f : Nat) (caps : List (Nat × Nat × Nat))
  | nilf
  | nili
  | ifi (t : Nat) (k : IntKind) (n : Int)
  | unk
inductive V where
  | c (x : C)
  | agg (l : List C)
  | aggi (k : IntKind) (l : List Int)
  | tup (l : List V)
  | unk
inductive Body where
  | cells (l : List C)
  | ints (k : IntKind) (l : List Int)
  | gen (n : Nat) (f : Nat → C)
  | row (n w : Nat) (f : Nat → List C)
  | ig (n : Nat) (kf : Nat → IntKind) (g : Nat → Int)
structure Blk where
  own : Bool
  ex : Bool
  body : Body
inductive Ent where
  | one (k : Blk)
  | many (f : Nat → Option Blk)
def recGet (w : Nat) (f : Nat → List C) (j : Nat) : C := List.getD (f (j / w)) (j % w) .unk
def Body.len : Body → Nat
  | .cells l => l.length
  | .ints _ l => l.length
  | .gen n _ => n
  | .row n _ _ => n
  | .ig n _ _ => n
def Blk.len (k : Blk) : Nat := k.body.len
def Body.get : Body → Nat → C
  | .cells l, j => l.getD j .unk
  | .ints k l, j => .int k (l.getD j 0)
  | .gen _ f, j => f j
  | .row _ w f, j => recGet w f j
  | .ig _ kf g, j => .int (kf j) (g j)
abbrev Mem := List (Nat × Ent)
abbrev Tm := List (Nat × V)
def ent : Mem → Nat → Option Ent
  | [], _ => none
  | (b', e) :: r, b => bif Nat.beq b' b then some e else ent r b
def Ent.at : Ent → Nat → Option Blk
  | .one k, i => bif Nat.beq i 0 then some k else none
  | .many f, i => f i
abbrev updF (f : Nat → Option Blk) (i : Nat) (k : Blk) : Nat → Option Blk := fun j => bif Nat.beq j i then some k else f j
def Ent.set : Ent → Nat → Blk → Ent
  | .one _, _, k => .one k
  | .many f, i, k => .many (updF f i k)
def look (m : Mem) (b i : Nat) : Option Blk :=
  match ent m b with
  | none => none
  | some e => e.at i
def upd (m : Mem) (b i : Nat) (k : Blk) : Mem :=
  match ent m b with
  | none => []
  | some e => [(b, e.set i k)]
def putE : Mem → Nat → Ent → Mem
  | [], b, e => [(b, e)]
  | (b', e') :: r, b, e => bif Nat.beq b' b then (b, e) :: r else (b', e') :: putE r b e
def delE : Mem → Nat → Mem
  | [], _ => []
  | (b', e') :: r, b => bif Nat.beq b' b then delE r b else (b', e') :: delE r b
def getT : Tm → Nat → V
  | [], _ => .unk
  | (t', v) :: r, t => bif Nat.beq t' t then v else getT r t
def putT : Tm → Nat → V → Tm
  | [], t, v => [(t, v)]
  | (t', v') :: r, t, v => bif Nat.beq t' t then (t, v) :: r else (t', v') :: putT r t v
def delT : Tm → Nat → Tm
  | [], _ => []
  | (t', v') :: r, t => bif Nat.beq t' t then delT r t else (t', v') :: delT r t
structure Loc where
  r : Nat
  s : Nat
  sz : Nat
  own : Bool
abbrev Phi := Nat → Nat → Option Loc
def Phi.le (φ φ' : Phi) : Prop := ∀ b i l, φ b i = some l → φ' b i = some l
theorem Phi.le_refl (φ : Phi) : φ.le φ := fun _ _ _ h => h
theorem Phi.le_trans {a b c : Phi} (h : a.le b) (k : b.le c) : a.le c := fun _ _ _ e => k _ _ _ (h _ _ _ e)
inductive All2 {α β : Type} (R : α → β → Prop) : List α → List β → Prop where
  | nil : All2 R [] []
  | cons {a b l m} : R a b → All2 R l m → All2 R (a :: l) (b :: m)
namespace All2
variable {α β : Type} {R R' : α → β → Prop}
theorem imp (h : ∀ a b, R a b → R' a b) {l : List α} {m : List β} (H : All2 R l m) : All2 R' l m := by
  induction H with
  | nil => exact .nil
  | cons a _ ih => exact .cons (h _ _ a) ih
theorem length {l : List α} {m : List β} (H : All2 R l m) : l.length = m.length := by
  induction H with
  | nil => rfl
  | cons _ _ ih => simp [ih]
theorem get {l : List α} {m : List β} (H : All2 R l m) : ∀ (j : Nat) (a : α), l[j]? = some a → ∃ b, m[j]? = some b ∧ R a b := by
  induction H with
  | nil => intro j a h; simp at h
  | cons h0 _ ih =>
    intro j a h
    cases j with
    | zero => simp at h; subst h; exact ⟨_, by simp, h0⟩
    | succ j => simp at h; obtain ⟨b, hb, hr⟩ := ih j a h; exact ⟨b, by simpa using hb, hr⟩
theorem of_get : ∀ {l : List α} {m : List β}, l.length = m.length → (∀ (j : Nat) (a : α) (b : β), l[j]? = some a → m[j]? = some b → R a b) → All2 R l m
  | [], [], _, _ => .nil
  | [], _ :: _, h, _ => by simp at h
  | _ :: _, [], h, _ => by simp at h
  | a :: l, b :: m, h, H => .cons (H 0 a b rfl rfl) (of_get (by simpa using h) fun j x y hx hy => H (j + 1) x y (by simpa using hx) (by simpa using hy))
theorem append {l l' : List α} {m m' : List β} (h : All2 R l m) (h' : All2 R l' m') : All2 R (l ++ l') (m ++ m') := by
  induction h with
  | nil => exact h'
  | cons a _ ih => exact .cons a ih
theorem take {l : List α} {m : List β} (h : All2 R l m) (n : Nat) : All2 R (l.take n) (m.take n) := by
  induction h generalizing n with
  | nil => simp; exact .nil
  | cons a _ ih => cases n with
    | zero => simp; exact .nil
    | succ n => exact .cons a (ih n)
theorem drop {l : List α} {m : List β} (h : All2 R l m) (n : Nat) : All2 R (l.drop n) (m.drop n) := by
  induction h generalizing n with
  | nil => simp; exact .nil
  | cons a t ih => cases n with
    | zero => exact .cons a t
    | succ n => exact ih n
theorem map_left {γ : Type} {f : γ → α} {l : List γ} {m : List β} : All2 R (l.map f) m ↔ All2 (fun x y => R (f x) y) l m := by
  constructor
  · intro h
    induction l generalizing m with
    | nil => cases h; exact .nil
    | cons a l ih => cases h with | cons h0 h1 => exact .cons h0 (ih h1)
  · intro h
    induction h with
    | nil => exact .nil
    | cons a _ ih => exact .cons a ih
theorem set {l : List α} {m : List β} (h : All2 R l m) {a : α} {b : β} (hab : R a b) (n : Nat) : All2 R (l.set n a) (m.set n b) := by
  induction h generalizing n with
  | nil => simp; exact .nil
  | cons x t ih => cases n with
    | zero => exact .cons hab t
    | succ n => exact .cons x (ih n)
end All2
def RP (φ : Phi) (p : Nat × Nat × Nat) (v : Value) : Prop := ∃ l, φ p.1 p.2.1 = some l ∧ v = .pointer (some ⟨l.r, l.s + p.2.2, none⟩)
def RC (φ : Phi) : C → Value → Prop
  | .int k n, v => v = .int k n
  | .bool b, v => v = .bool b
  | .str s, v => v = .string s
  | .nilp, v => v = .pointer none
  | .ptr b i o, v => RP φ (b, i, o) v
  | .nils, v => v = .slice none 0 0
  | .sl b i o n es, v => ∃ a cap, v = .slice a n cap ∧ n ≤ cap ∧ (cap = 0 ∨ ∃ l, φ b i = some l ∧ a = some ⟨l.r, l.s + o, none⟩ ∧ (l.own = true → l.s + o + cap * es ≤ l.sz))
  | .fn f caps, v => ∃ vs : Array Value, v = .func (.func f) #[] vs ∧ All2 (RP φ) caps vs.toList
  | .nilf, v => v = .nilFunc
  | .nili, v => v = .nilIface
  | .ifi t k n, v => v = .iface t (.int k n)
  | .unk, v => v.oneCell' = true
def RV1 (φ : Phi) : V → Value → Prop
  | .c x, v => RC φ x v
  | .agg l, v => ∃ a : Array Value, v = .agg a ∧ All2 (RC φ) l a.toList
  | .aggi k l, v => v = .agg (l.map (Value.int k)).toArray
  | .tup _, _ => False
  | .unk, _ => True
def RV (φ : Phi) : V → Value → Prop
  | .tup l, v => ∃ a : Array Value, v = .tuple a ∧ All2 (RV1 φ) l a.toList
  | x, v => RV1 φ x v
theorem RP.mono {φ φ' : Phi} (h : φ.le φ') {p : Nat × Nat × Nat} {v : Value} (H : RP φ p v) : RP φ' p v := by
  obtain ⟨l, a, b⟩ := H; exact ⟨l, h _ _ _ a, b⟩
theorem RC.mono {φ φ' : Phi} (h : φ.le φ') {c : C} {v : Value} (H : RC φ c v) : RC φ' c v := by
  cases c <;> simp only [RC] at H ⊢ <;> try exact H
  · exact H.mono h
  · obtain ⟨a, cap, e, hn, hc⟩ := H
    refine ⟨a, cap, e, hn, ?_⟩
    rcases hc with hc | ⟨l, hl, ha, ho⟩
    · exact .inl hc
    · exact .inr ⟨l, h _ _ _ hl, ha, ho⟩
  · obtain ⟨vs, e, H⟩ := H
    exact ⟨vs, e, H.imp fun _ _ => RP.mono h⟩
theorem RV1.mono {φ φ' : Phi} (h : φ.le φ') {x : V} {v : Value} (H : RV1 φ x v) : RV1 φ' x v := by
  cases x <;> simp only [RV1] at H ⊢ <;> try exact H
  · exact H.mono h
  · obtain ⟨a, e, H⟩ := H
    exact ⟨a, e, H.imp fun _ _ => RC.mono h⟩
theorem RV.mono {φ φ' : Phi} (h : φ.le φ') {x : V} {v : Value} (H : RV φ x v) : RV φ' x v := by
  cases x
  case tup l =>
    simp only [RV] at H ⊢
    obtain ⟨a, e, H⟩ := H
    exact ⟨a, e, H.imp fun _ _ => RV1.mono h⟩
  all_goals (simp only [RV] at H ⊢; exact RV1.mono h H)
theorem RC.one {φ : Phi} {c : C} {v : Value} (H : RC φ c v) : v.oneCell' = true := by
  cases c <;> simp only [RC] at H
  case ptr => obtain ⟨l, _, rfl⟩ := H; rfl
  case sl => obtain ⟨a, cap, rfl, _⟩ := H; rfl
  case fn => obtain ⟨vs, rfl, _⟩ := H; rfl
  case unk => exact H
  all_goals (subst H; rfl)
structure RB (φ : Phi) (l : Loc) (k : Blk) (w : World) : Prop where
  own : l.own = k.own
  fits : l.s + k.len ≤ l.sz
  exact : k.ex = true → l.s = 0 ∧ l.sz = k.len
  there : 0 < l.sz → ∃ T, w.shape? l.r = some (T, l.sz)
  cell : ∀ j, j < k.len → ∃ v, w.cell? ⟨l.r, l.s + j, none⟩ = some v ∧ RC φ (k.body.get j) v
  free : l.own = true → ∀ j, j < l.sz → w.frozen? ⟨l.r, j, none⟩ = false
structure RM (φ : Phi) (m : Mem) (w : World) : Prop where
  glob : ∀ g, ∃ l, φ 0 g = some l ∧ l.r = g ∧ l.s = 0
  blk : ∀ b i k, look m b i = some k → ∃ l, φ b i = some l ∧ RB φ l k w
  inj : ∀ b i k l b' i' k' l', look m b i = some k → look m b' i' = some k' → φ b i = some l → φ b' i' = some l' → l.own = true → 0 < l.sz → 0 < l'.sz → l.r = l'.r → b = b' ∧ i = i'
structure Keeps (S : Nat → Prop) (w w' : World) : Prop where
  os : w'.os = w.os
  tape : w'.tape = w.tape
  output : w'.output = w.output
  size : w.heap.size ≤ w'.heap.size
  block : ∀ k, k < w.heap.size → ¬ S k → w'.heap[k]? = w.heap[k]?
def RT (φ : Phi) (t : Tm) (a : Act) : Prop := ∀ n, getT t n = .unk ∨ ∃ x, a.tmps[n]? = some x ∧ RV φ (getT t n) x
end Go.Proofs.Ytohleiikedpmkaa.Vm

namespace Go.Proofs.Ytohleiikedpmkaa.Vm
open Go
inductive Opd where
  | t (n : Nat)
  | k (v : V)
inductive TK where
  | bool | int | str | ptr | slice | func | iface
inductive LenK where
  | arr (n : Nat) | sl | str
inductive I where
  | mv (x : Opd)
  | pick (c a b : Opd)
  | zero (z : List C)
  | box (x : Opd)
  | build (z : List C) (ps : List (Nat × Nat × Opd))
  | buildSl (es n : Nat) (z : List C) (ps : List (Nat × Nat × Opd))
  | load (agg : Bool) (sz : Nat) (x : Opd)
  | store (sz : Nat) (x y : Opd)
  | nilc (x : Opd)
  | bin (op : BinOp) (x y : Opd)
  | eqs (neg : Bool) (tk : TK) (x y : Opd)
  | eqv (neg : Bool) (ks : List TK) (x y : Opd)
  | un (op : UnOp) (x : Opd)
  | conv (k : IntKind) (x : Opd)
  | s2b (x : Opd)
  | b2s (x : Opd)
  | cvs (x : Opd)
  | mkfn (f : Nat) (caps : List Opd)
  | mksl (es bytes : Nat) (kd : Option IntKind) (z : List C) (len cap : Opd)
  | slA (n es : Nat) (x : Opd) (lo hi : Option Opd)
  | sl (es : Nat) (x : Opd) (lo hi : Option Opd)
  | slS (x : Opd) (lo hi : Option Opd)
  | fa (x : Opd) (off : Nat)
  | ia (n es : Nat) (x ix : Opd)
  | is (es : Nat) (x ix : Opd)
  | ix (n es : Nat) (agg : Bool) (x ix : Opd)
  | ixS (x ix : Opd)
  | fld (off sz : Nat) (agg : Bool) (x : Opd)
  | ext (x : Opd) (i : Nat)
  | call (f : Nat) (args : List Opd)
  | callv (f : Opd) (args : List Opd)
  | add64 (x y z : Opd)
  | len (k : LenK) (x : Opd)
  | app (es bytes : Nat) (x y : Opd)
  | copy (es : Nat) (x y : Opd)
  | mm (mx : Bool) (x y : Opd)
  | mm3 (mx : Bool) (x y z : Opd)
structure Ins where
  dst : Option Nat
  op : I
  g : Option (Nat × Bool)
  pre : List Nat
inductive K where
  | skip
  | reg (ops : List Ins) (dr : Bool)
  | seq (a b : K)
  | cond (x : Opd) (a b : K)
  | block (id : Nat) (k : K)
  | loop (k : K)
  | exit (id : Nat)
  | ret
  | gh (dt db : List Nat) (k : K)
def cV : Value → Option V
  | .bool b => some (.c (.bool b))
  | .int k n => some (.c (.int k n))
  | .string s => some (.c (.str s))
  | .pointer none => some (.c .nilp)
  | .slice none 0 0 => some (.c .nils)
  | .nilFunc => some (.c .nilf)
  | .nilIface => some (.c .nili)
  | _ => none
def cC : Value → Option C
  | .bool b => some (.bool b)
  | .int k n => some (.int k n)
  | .string s => some (.str s)
  | .pointer none => some .nilp
  | .slice none 0 0 => some .nils
  | .nilFunc => some .nilf
  | .nilIface => some .nili
  | _ => none
def mapO {α β : Type} (f : α → Option β) : List α → Option (List β)
  | [] => some []
  | a :: r => match f a with
    | none => none
    | some b => match mapO f r with
      | none => none
      | some l => some (b :: l)
def cOpd : Operand → Option Opd
  | .tmp t => some (.t t)
  | .const v => match cV v with | some x => some (.k x) | none => none
  | .func f => some (.k (.c (.fn f [])))
  | .global g => some (.k (.c (.ptr 0 g 0)))
def cOpdO : Option Operand → Option (Option Opd)
  | none => some none
  | some x => match cOpd x with | some y => some (some y) | none => none
def aggD : TypeDesc → Bool
  | .struct _ | .array _ _ => true
  | _ => false
def zeroC (P : Program) (t : Nat) : Option (List C) :=
  match P.info? t with
  | some i => match i.zero with
    | some v => mapO cC v.cells.toList
    | none => none
  | none => none
def flatTK : TypeDesc → Option TK
  | .bool => some .bool
  | .int _ => some .int
  | .string => some .str
  | .pointer _ => some .ptr
  | .slice _ => some .slice
  | .func _ _ _ => some .func
  | .interface _ => some .iface
  | _ => none
def sizeT (P : Program) (t : Nat) : Option Nat := match P.info? t with | some i => some i.size | none => none
def flatFs (P : Program) (g : Nat → Option (List TK)) : List Field → Nat → Option (List TK)
  | [], _ => some []
  | f :: r, off => bif (f.name != "_") && Nat.beq f.offset off then (match g f.type with
    | some ks => bif (match sizeT P f.type with | some s => Nat.beq s ks.length | none => false) then (match flatFs P g r (off + ks.length) with | some l => some (ks ++ l) | none => none) else none
    | none => none) else none
def replK (ks : List TK) : Nat → List TK
  | 0 => []
  | n + 1 => ks ++ replK ks n
def flatKs (P : Program) : Nat → Nat → Option (List TK)
  | 0, _ => none
  | d + 1, t => match P.underlying t with
    | some .bool => some [.bool]
    | some (.int _) => some [.int]
    | some .string => some [.str]
    | some (.struct fs) => bif P.stoodInHeld t then none else flatFs P (flatKs P d) fs.toList 0
    | some (.array n e) => match flatKs P d e with
      | some ks => bif (match sizeT P e with | some s => Nat.beq s ks.length | none => false) then some (replK ks n) else none
      | none => none
    | _ => none
def allInt : List TK → Bool
  | [] => true
  | .int :: r => allInt r
  | _ => false
def cParts (size : Nat → Option (Nat × Nat)) : List (Nat × Operand) → Option (List (Nat × Nat × Opd))
  | [] => some []
  | (i, x) :: r => match size i, cOpd x, cParts size r with
    | some (o, s), some y, some l => some ((o, s, y) :: l)
    | _, _, _ => none
def zk : List C → Option IntKind
  | [.int k n] => bif n == 0 then some k else none
  | _ => none
def fldPlace (P : Program) (fs : Array Field) (i : Nat) : Option (Nat × Nat) :=
  match fs[i]? with
  | some f => (match sizeT P f.type with | some s => some (f.offset, s) | none => none)
  | none => none
def cCall (P : Program) (c : Call) (ty : Nat) : Option I :=
  match c.callee with
  | .value (.func f) =>
    match P.funcs[f]?, mapO cOpd c.args.toList with
    | some fn, some l =>
      bif fn.body.isSome && (fn.name != "runtime.NumGoroutine") then some (.call f l) else
      (match fn.body, l with
       | none, [x, y, z] => bif (fn.name == "math/bits.Add64") && (fn.origin == "") then some (.add64 x y z) else none
       | _, _ => none)
    | _, _ => none
  | .value x =>
    match cOpd x, mapO cOpd c.args.toList with
    | some y, some l => some (.callv y l)
    | _, _ => none
  | .builtin .len =>
    match c.args.toList, c.argTypes.toList with
    | [x], [t] => match cOpd x, P.underlying t with
      | some y, some .string => some (.len .str y)
      | some y, some (.slice _) => some (.len .sl y)
      | some y, some (.array n _) => some (.len (.arr n) y)
      | _, _ => none
    | _, _ => none
  | .builtin .append =>
    match c.args.toList, c.argTypes.toList with
    | [x, y], [t, u] => match cOpd x, cOpd y, P.underlying t, P.underlying u with
      | some x, some y, some (.slice e), some d =>
        (match d, P.info? e, zeroC P e with
         | .int _, _, _ => none
         | _, some i, some z => bif Nat.beq z.length i.size && Nat.blt 0 i.size then some (.app i.size (i.bytes + 1) x y) else none
         | _, _, _ => none)
      | _, _, _, _ => none
    | _, _ => none
  | .builtin .copy =>
    match c.args.toList, c.argTypes.toList with
    | [x, y], [t, _] => match cOpd x, cOpd y, P.underlying t with
      | some x, some y, some (.slice e) => (match P.info? e with | some i => some (.copy i.size x y) | none => none)
      | _, _, _ => none
    | _, _ => none
  | .builtin .min =>
    match mapO cOpd c.args.toList with
    | some [x, y] => some (.mm false x y)
    | some [x, y, z] => some (.mm3 false x y z)
    | _ => none
  | .builtin .max =>
    match mapO cOpd c.args.toList with
    | some [x, y] => some (.mm true x y)
    | some [x, y, z] => some (.mm3 true x y z)
    | _ => none
  | _ => let _ := ty; none
def isSl : Option TypeDesc → Option Nat
  | some (.slice e) => some e
  | _ => none
def cvsOp (P : Program) (s d : Nat) (x : Operand) : Option I :=
  match cOpd x, isSl (P.underlying s), isSl (P.underlying d) with
  | some y, some _, some e => (match P.underlying e with | some (.int .u8) => bif Nat.beq s d then some (.cvs y) else none | _ => none)
  | _, _, _ => none
def cOp (P : Program) (o : Op) (ty : Nat) : Option I :=
  match o with
  | .move x | .assign x => match cOpd x with | some y => some (.mv y) | none => none
  | .pick c a b => match cOpd c, cOpd a, cOpd b with | some c, some a, some b => some (.pick c a b) | _, _, _ => none
  | .alloc t => match zeroC P t with | some z => some (.zero z) | none => none
  | .box _ x => match cOpd x with | some y => some (.box y) | none => none
  | .build t ps =>
    match zeroC P t, P.underlying t with
    | some z, some (.struct fs) =>
      (match cParts (fldPlace P fs) ps.toList, fs.all (fun f => (sizeT P f.type).isSome) with
       | some l, true => some (.build z l)
       | _, _ => none)
    | some z, some (.array _ e) =>
      (match sizeT P e with
       | some s => (match cParts (fun i => some (i * s, s)) ps.toList with | some l => some (.build z l) | none => none)
       | none => none)
    | _, _ => none
  | .buildSlice t n ps =>
    match P.underlying t with
    | some (.slice e) => (match sizeT P e, zeroC P e with
      | some s, some z => (match cParts (fun i => some (i * s, s)) ps.toList with | some l => bif (n * s ≤ 16777216) && (z.length == s) && (0 < s) then some (.buildSl s n z l) else none | none => none)
      | _, _ => none)
    | _ => none
  | .load t x => match cOpd x, P.underlying t, sizeT P t with | some y, some d, some s => some (.load (aggD d) s y) | _, _, _ => none
  | .store t x y => match cOpd x, cOpd y, sizeT P t with | some x, some y, some s => some (.store s x y) | _, _, _ => none
  | .nilCheck x => match cOpd x with | some y => some (.nilc y) | none => none
  | .binOp op t x y _ =>
    match cOpd x, cOpd y, P.underlying t with
    | some x, some y, some (.int _) => some (.bin op x y)
    | some x, some y, some .string => some (.bin op x y)
    | some x, some y, some d =>
      (match op with
       | .eql => bif aggD d then (match flatKs P 30 t with | some ks => bif P.eqGuardType P.depth t then none else some (.eqv false ks x y) | none => none) else (match flatTK d with | some k => some (.eqs false k x y) | none => none)
       | .neq => bif aggD d then (match flatKs P 30 t with | some ks => bif P.eqGuardType P.depth t then none else some (.eqv true ks x y) | none => none) else (match flatTK d with | some k => some (.eqs true k x y) | none => none)
       | _ => none)
    | _, _, _ => none
  | .unOp op _ x => match cOpd x with | some y => some (.un op y) | none => none
  | .convert s d x =>
    match cOpd x, P.underlying s, P.underlying d with
    | some y, some (.int _), some (.int k) => some (.conv k y)
    | some y, some .string, some (.slice e) => (match P.underlying e with | some (.int .u8) => some (.s2b y) | _ => none)
    | some y, some (.slice e), some .string => (match P.underlying e with | some (.int .u8) => some (.b2s y) | _ => none)
    | _, _, _ => cvsOp P s d x
  | .makeFunc (.func f) fi ca => match fi.toList, mapO cOpd ca.toList with | [], some l => some (.mkfn f l) | _, _ => none
  | .makeSlice t x y =>
    match cOpd x, cOpd y, P.underlying t with
    | some x, some y, some (.slice e) =>
      (match P.info? e, zeroC P e with
       | some i, some z => bif (z.length == i.size) && (0 < i.size) then some (.mksl i.size i.bytes (zk z) z x y) else none
       | _, _ => none)
    | _, _, _ => none
  | .slice t x lo hi none =>
    match cOpd x, cOpdO lo, cOpdO hi, P.underlying t with
    | some x, some lo, some hi, some (.array n e) => (match sizeT P e with | some s => some (.slA n s x lo hi) | none => none)
    | some x, some lo, some hi, some (.slice e) => (match sizeT P e with | some s => some (.sl s x lo hi) | none => none)
    | some x, some lo, some hi, some .string => some (.slS x lo hi)
    | _, _, _, _ => none
  | .fieldAddr t x f =>
    match cOpd x, P.underlying t with
    | some y, some (.struct fs) => (match fs[f]? with
      | some fd => (match sizeT P fd.type with | some s => bif s == 0 then none else some (.fa y fd.offset) | none => none)
      | none => none)
    | _, _ => none
  | .indexAddr t x i =>
    match cOpd x, cOpd i, P.underlying t with
    | some x, some i, some (.array n e) => (match sizeT P e with | some s => some (.ia n s x i) | none => none)
    | some x, some i, some (.slice e) => (match sizeT P e with | some s => some (.is s x i) | none => none)
    | _, _, _ => none
  | .index t x i =>
    match cOpd x, cOpd i, P.underlying t with
    | some x, some i, some (.array n e) => (match sizeT P e, P.underlying e with | some s, some d => some (.ix n s (aggD d) x i) | _, _ => none)
    | some x, some i, some .string => some (.ixS x i)
    | _, _, _ => none
  | .field t x f =>
    match cOpd x, P.underlying t with
    | some y, some (.struct fs) => (match fs[f]? with
      | some fd => (match sizeT P fd.type, P.underlying fd.type with | some s, some d => some (.fld fd.offset s (aggD d) y) | _, _ => none)
      | none => none)
    | _, _ => none
  | .extract x i => match cOpd x with | some y => some (.ext y i) | none => none
  | .call c => cCall P c ty
  | .makeInterface _ _ | .panic _ => some (.nilc (.k .unk))
  | _ => none
def mmI (mx : Bool) (a b : Int) : Int := bif mx then (bif decide (b > a) then b else a) else (bif decide (b < a) then b else a)
inductive Ex where
  | normal
  | exit (id : Nat)
  | ret
structure S0 where
  tm : Tm
  me : Mem
  nx : Nat
abbrev Th := List (Nat × Nat)
structure SView where
  keepT : List Nat
  keepB : List Nat
  t : Th
  nx : Nat
inductive H where
  | auto | ask
  | call (ids : List Nat) (res : V) (kill : List Nat) (up : Mem)
  | sum (v : SView) (x : Ex) (s : S0)
structure Hint where
  h : H
  to : Option V
structure Eff where
  v : V
  up : Mem
  kill : List Nat
  rd : List Nat
  wr : List Nat
  cs : List Prop
def vv (T : Nat → V) : Opd → V
  | .t n => T n
  | .k v => v
def vvO (T : Nat → V) : Option Opd → Option V
  | none => none
  | some x => some (vv T x)
def chk (h : H) (p : Prop) [Decidable p] : Option (List Prop) :=
  match h with
  | .ask => some [p]
  | _ => bif decide p then some [] else none
def pureE (v : V) (cs : List Prop) : Option Eff := some ⟨v, [], [], [], [], cs⟩
def readE (v : V) (b : Nat) (cs : List Prop) : Option Eff := some ⟨v, [], [], [b], [], cs⟩
def mulE (n es : Nat) : Nat := bif Nat.beq es 1 then n else n * es
def addO (o n : Nat) : Nat := bif Nat.beq o 0 then n else (bif Nat.beq n 0 then o else o + n)
def Body.seg (b : Body) (o n : Nat) : Body :=
  match b with
  | .cells l => .cells ((l.drop o).take n)
  | .ints k l => .ints k ((l.drop o).take n)
  | .gen _ f => .gen n fun j => f (o + j)
  | .row _ w f => .gen n fun j => recGet w f (o + j)
  | .ig _ kf g => .ig n (fun p => kf (p + o)) (fun p => g (p + o))
def Body.list : Body → List C
  | .cells l => l
  | .ints k l => l.map (.int k)
  | .gen n f => (List.range n).map f
  | .row n w f => (List.range n).map (recGet w f)
  | .ig n kf g => (List.range n).map fun p => .int (kf p) (g p)
def Body.agg : Body → V
  | .cells l => .agg l
  | .ints k l => .aggi k l
  | .gen n f => .agg ((List.range n).map f)
  | .row n w f => .agg ((List.range n).map (recGet w f))
  | .ig n kf g => .agg ((List.range n).map fun p => .int (kf p) (g p))
def V.body : V → Option Body
  | .c x => some (.cells [x])
  | .agg l => some (.cells l)
  | .aggi k l => some (.ints k l)
  | _ => none
def V.abody : V → Option Body
  | .agg l => some (.cells l)
  | .aggi k l => some (.ints k l)
  | _ => none
def sameK : IntKind → IntKind → Bool
  | .i8, .i8 | .i16, .i16 | .i32, .i32 | .i64, .i64 | .u8, .u8 | .u16, .u16 | .u32, .u32 | .u64, .u64 => true
  | _, _ => false
def allInts (k : IntKind) : List C → Option (List Int)
  | [] => some []
  | .int k' n :: r => bif sameK k k' then (match allInts k r with | some l => some (n :: l) | none => none) else none
  | _ => none
def zBody : List C → Body
  | .int k n :: r => match allInts k r with
    | some q => .ints k (n :: q)
    | none => .cells (.int k n :: r)
  | l => .cells l
def splice {α : Type} (l : List α) (o : Nat) : List α → List α
  | [x] => l.set o x
  | s => l.take o ++ s ++ l.drop (o + s.length)
def intsOf : List C → Option (List (IntKind × Int))
  | [] => some []
  | .int k n :: r => match intsOf r with | some l => some ((k, n) :: l) | none => none
  | _ => none
def inR (o m p : Nat) : Bool := Nat.ble o p && Nat.blt p (o + m)
def igK (q : List (IntKind × Int)) (p : Nat) : IntKind := (q.getD p (.i64, 0)).1
def igG (q : List (IntKind × Int)) (p : Nat) : Int := (q.getD p (.i64, 0)).2
def Body.wr (b : Body) (o : Nat) (s : Body) : Option Body :=
  match b, s with
  | .cells l, .cells m => some (.cells (splice l o m))
  | .cells l, .ints k m => some (.cells (splice l o (m.map (.int k))))
  | .ints k l, .ints k' m => bif sameK k k' then some (.ints k (splice l o m)) else none
  | .ints k l, .cells m => match allInts k m with | some q => some (.ints k (splice l o q)) | none => none
  | .ig n kf g, .cells m => match intsOf m with | some q => some (.ig n (fun p => bif inR o q.length p then igK q (p - o) else kf p) (fun p => bif inR o q.length p then igG q (p - o) else g p)) | none => none
  | .ig n kf g, .ig m kf' g' => some (.ig n (fun p => bif inR o m p then kf' (p - o) else kf p) (fun p => bif inR o m p then g' (p - o) else g p))
  | .row n w f, .cells m => some (.gen n fun p => bif inR o m.length p then m.getD (p - o) .unk else recGet w f p)
  | .gen n f, .cells m => some (.gen n fun p => bif inR o m.length p then m.getD (p - o) .unk else f p)
  | _, _ => none
def Body.cat (b s : Body) : Option Body :=
  match b, s with
  | .cells [], s => some s
  | .cells l, .cells m => some (.cells (l ++ m))
  | .cells l, .ints k m => match allInts k l with | some q => some (.ints k (q ++ m)) | none => some (.cells (l ++ m.map (.int k)))
  | .ints k l, .ints k' m => bif sameK k k' then some (.ints k (l ++ m)) else none
  | .ints k l, .cells m => match allInts k m with | some q => some (.ints k (l ++ q)) | none => none
  | .ig n kf g, .ig m kf' g' => some (.ig (n + m) (fun p => bif Nat.blt p n then kf p else kf' (p - n)) (fun p => bif Nat.blt p n then g p else g' (p - n)))
  | .ig n kf g, .cells m => match intsOf m with | some q => some (.ig (n + q.length) (fun p => bif Nat.blt p n then kf p else igK q (p - n)) (fun p => bif Nat.blt p n then g p else igG q (p - n))) | none => none
  | .gen n f, .cells m => some (.gen (n + m.length) (fun p => bif Nat.blt p n then f p else m.getD (p - n) .unk))
  | .row n w f, .cells m => some (.gen (n + m.length) (fun p => bif Nat.blt p n then recGet w f p else m.getD (p - n) .unk))
  | _, _ => none
def fillC (cs : List C) : List (Nat × Nat × V) → Option (List C)
  | [] => some cs
  | (o, s, v) :: r => match v.body with
    | none => none
    | some b => bif (b.len == s) && (o + b.len ≤ cs.length) then fillC (splice cs o b.list) r else none
def vparts (T : Nat → V) : List (Nat × Nat × Opd) → List (Nat × Nat × V)
  | [] => []
  | (o, s, x) :: r => (o, s, vv T x) :: vparts T r
def repl (n : Nat) (z : List C) : List C :=
  match n with
  | 0 => []
  | n + 1 => z ++ repl n z
def eqC : TK → C → C → Option Bool
  | .int, .int k a, .int k' b => bif sameK k k' then some (a == b) else none
  | .bool, .bool a, .bool b => some (a == b)
  | .str, .str a, .str b => some (a.toList == b.toList)
  | _, _, _ => none
def eqCs : List TK → List C → List C → Option Bool
  | [], [], [] => some true
  | k :: ks, a :: l, b :: m => match eqC k a b, eqCs ks l m with
    | some x, some y => some (x && y)
    | _, _ => none
  | _, _, _ => none
def eqI (h : H) (ks : List TK) (l m : List Int) : Option (Bool × List Prop) :=
  bif allInt ks then (match chk h (l.length = ks.length ∧ m.length = ks.length) with | some p => some (l == m, p) | none => none) else none
def eqV (h : H) (ks : List TK) : V → V → Option (Bool × List Prop)
  | .aggi k l, .aggi k' m => bif sameK k k' then eqI h ks l m else none
  | .agg l, .agg m => match eqCs ks l m with | some r => some (r, []) | none => none
  | .aggi k l, .agg m => match allInts k m with | some q => eqI h ks l q | none => none
  | .agg l, .aggi k m => match allInts k l with | some q => eqI h ks q m | none => none
  | _, _ => none
def binI (op : BinOp) (k : IntKind) (a b : Int) : Option C :=
  match op with
  | .add => some (.int k (k.wrap (a + b)))
  | .sub => some (.int k (k.wrap (a - b)))
  | .mul => some (.int k (k.wrap (a * b)))
  | .and => some (.int k (k.wrap (BitVec.ofInt k.bits a &&& BitVec.ofInt k.bits b).toNat))
  | .or => some (.int k (k.wrap (BitVec.ofInt k.bits a ||| BitVec.ofInt k.bits b).toNat))
  | .xor => some (.int k (k.wrap (BitVec.ofInt k.bits a ^^^ BitVec.ofInt k.bits b).toNat))
  | .andNot => some (.int k (k.wrap (BitVec.ofInt k.bits a &&& ~~~ BitVec.ofInt k.bits b).toNat))
  | .eql => some (.bool (a == b))
  | .neq => some (.bool (a != b))
  | .lss => some (.bool (decide (a < b)))
  | .leq => some (.bool (decide (a ≤ b)))
  | .gtr => some (.bool (decide (a > b)))
  | .geq => some (.bool (decide (a ≥ b)))
  | _ => none
def vbin (h : H) (op : BinOp) (x y : C) : Option Eff :=
  match x, y with
  | .int k a, .int k' b =>
    match op with
    | .shl => match chk h (0 ≤ b) with | some p => pureE (.c (.int k (k.wrap (a * 2 ^ (min b.toNat k.bits))))) p | none => none
    | .shr => match chk h (0 ≤ b) with | some p => pureE (.c (.int k (a / (2 ^ (min b.toNat k.bits))))) p | none => none
    | .quo => bif sameK k k' then (match chk h (b ≠ 0) with | some p => pureE (.c (.int k (k.wrap (a.tdiv b)))) p | none => none) else none
    | .rem => bif sameK k k' then (match chk h (b ≠ 0) with | some p => pureE (.c (.int k (a.tmod b))) p | none => none) else none
    | _ => bif sameK k k' then (match binI op k a b with | some c => pureE (.c c) [] | none => none) else none
  | .str a, .str b =>
    match op with
    | .add => match chk h (((a.size + b.size : Nat) : Int) ≤ IntKind.i64.max) with | some p => pureE (.c (.str (a ++ b))) p | none => none
    | .eql => pureE (.c (.bool (a.toList == b.toList))) []
    | .neq => pureE (.c (.bool (!(a.toList == b.toList)))) []
    | _ => none
  | _, _ => none
def eqS (h : H) (tk : TK) (x y : C) : Option (Bool × List Prop) :=
  match tk, x, y with
  | .bool, .bool a, .bool b => some (a == b, [])
  | .ptr, .nilp, .nilp => some (true, [])
  | .ptr, .nilp, .ptr _ _ _ => some (false, [])
  | .ptr, .ptr _ _ _, .nilp => some (false, [])
  | .slice, .nils, .nils => some (true, [])
  | .slice, .nils, .sl _ _ _ n _ => match chk h (0 < n) with | some p => some (false, p) | none => none
  | .slice, .sl _ _ _ n _, .nils => match chk h (0 < n) with | some p => some (false, p) | none => none
  | .func, .nilf, .nilf => some (true, [])
  | .func, .nilf, .fn _ _ => some (false, [])
  | .func, .fn _ _, .nilf => some (false, [])
  | _, _, _ => none
def intOf : V → Option (IntKind × Int)
  | .c (.int k n) => some (k, n)
  | _ => none
def bnd (v : Option V) (d : Int) : Option Int :=
  match v with
  | none => some d
  | some (.c (.int _ n)) => some n
  | _ => none
def seqOf (n : Nat) (lo hi : Option V) : Option (Int × Int) :=
  match bnd lo 0, bnd hi n with
  | some l, some h => some (l, h)
  | _, _ => none
def seg? (m : Mem) (b i o n : Nat) : Option Body :=
  match look m b i with
  | some k => some (k.body.seg o n)
  | none => none
def mkB (es m : Nat) (kd : Option IntKind) (z : List C) : Body :=
  match kd with
  | some k => .ints k (List.replicate m 0)
  | none => bif Nat.blt 1 es then (match intsOf z with | some q => .ig (m * es) (fun p => igK q (p % es)) (fun p => igG q (p % es)) | none => .cells (repl m z)) else .cells (repl m z)
def srcOf (m : Mem) (es : Nat) : V → Option (Nat × Body × List Nat × Nat × Nat)
  | .c .nils => some (0, .cells [], [], 0, 0)
  | .c (.sl b i o n es') => bif Nat.beq es' es then (match look m b i with
    | some k => some (n, k.body.seg o (mulE n es), [b], o + n * es, k.len)
    | none => none) else none
  | .c (.str s) => bif Nat.beq es 1 then some (s.size, .ints .u8 (s.data.toList.map fun c => (c.toNat : Int)), [], 0, 0) else none
  | _ => none
def minN (h : H) (a b : Nat) : Nat := match h with | .ask => min a b | _ => bif Nat.ble a b then a else b
def vop (i : I) (T : Nat → V) (m : Mem) (nid : Nat) (h : H) : Option Eff :=
  match i with
  | .mv x => pureE (vv T x) []
  | .pick c a b => match vv T c with
    | .c (.bool t) => pureE (bif t then vv T a else vv T b) []
    | _ => none
  | .zero z => some ⟨.c (.ptr nid 0 0), [(nid, .one ⟨true, true, zBody z⟩)], [], [], [], []⟩
  | .box x => match (vv T x).body with
    | some b => some ⟨.c (.ptr nid 0 0), [(nid, .one ⟨true, true, b⟩)], [], [], [], []⟩
    | none => none
  | .build z ps => match fillC z (vparts T ps) with
    | some l => pureE (.agg l) []
    | none => none
  | .buildSl es n z ps => match fillC (repl n z) (vparts T ps) with
    | some l => some ⟨.c (.sl nid 0 0 n es), [(nid, .one ⟨true, true, .cells l⟩)], [], [], [], []⟩
    | none => none
  | .load agg sz x => match vv T x with
    | .c (.ptr b i o) => match look m b i with
      | some k => match chk h (o + sz ≤ k.len) with
        | some p => bif agg then readE (k.body.seg o sz).agg b p else bif Nat.beq sz 1 then readE (.c (k.body.get o)) b p else none
        | none => none
      | none => none
    | _ => none
  | .store sz x y => match vv T x, (vv T y).body with
    | .c (.ptr b i o), some s => match look m b i with
      | some k => match chk h (o + sz ≤ k.len ∧ s.len = sz), k.body.wr o s with
        | some p, some r => bif k.own then some ⟨.unk, upd m b i { k with body := r }, [], [b], [b], p⟩ else none
        | _, _ => none
      | none => none
    | _, _ => none
  | .nilc x => match vv T x with
    | .c (.ptr b i o) => pureE (.c (.ptr b i o)) []
    | .c (.fn f cs) => pureE (.c (.fn f cs)) []
    | _ => none
  | .bin op x y => match vv T x, vv T y with
    | .c a, .c b => vbin h op a b
    | _, _ => none
  | .eqs neg tk x y => match vv T x, vv T y with
    | .c a, .c b => match eqS h tk a b with
      | some (r, p) => pureE (.c (.bool (bif neg then !r else r))) p
      | none => none
    | _, _ => none
  | .eqv neg ks x y => match eqV h ks (vv T x) (vv T y) with
    | some (r, p) => pureE (.c (.bool (bif neg then !r else r))) p
    | none => none
  | .un op x => match op, vv T x with
    | .neg, .c (.int k n) => pureE (.c (.int k (k.wrap (0 - n)))) []
    | .xor, .c (.int k n) => pureE (.c (.int k (k.wrap (BitVec.ofInt k.bits (if k.signed then -1 else k.max) ^^^ BitVec.ofInt k.bits n).toNat))) []
    | .not, .c (.bool b) => pureE (.c (.bool (!b))) []
    | _, _ => none
  | .conv k x => match vv T x with
    | .c (.int _ n) => pureE (.c (.int k (k.wrap n))) []
    | _ => none
  | .s2b x => match vv T x with
    | .c (.str s) => match chk h (s.size ≤ 4294967296) with
      | some p => some ⟨.c (.sl nid 0 0 s.size 1), [(nid, .one ⟨true, false, .ints .u8 (s.data.toList.map fun c => (c.toNat : Int))⟩)], [], [], [], p⟩
      | none => none
    | _ => none
  | .cvs x => match vv T x with
    | .c (.sl b 0 o n es) => match look m b 0 with
      | some k => bif k.own && Nat.beq es 1 then (match chk h (1 ≤ n) with
        | some p => some ⟨.c (.sl nid 0 o n es), [(nid, .one ⟨false, k.ex, k.body⟩)], [b], [b], [b], p⟩
        | none => none) else none
      | none => none
    | _ => none
  | .b2s x => match vv T x with
    | .c .nils => pureE (.c (.str .empty)) []
    | .c (.sl b i o n _) => match seg? m b i o n, look m b i with
      | some (.ints .u8 l), some k => match chk h (o + n ≤ k.len) with
        | some p => readE (.c (.str ⟨(l.map fun n => UInt8.ofNat n.toNat).toArray⟩)) b p
        | none => none
      | some (.cells q), some k => match allInts .u8 q, chk h (o + n ≤ k.len) with
        | some l, some p => readE (.c (.str ⟨(l.map fun n => UInt8.ofNat n.toNat).toArray⟩)) b p
        | _, _ => none
      | _, _ => none
    | _ => none
  | .mkfn f caps => match mapO (fun x => match vv T x with | .c (.ptr b i o) => some (b, i, o) | _ => none) caps with
    | some l => pureE (.c (.fn f l)) []
    | none => none
  | .mksl es bytes kd z l c => match intOf (vv T l), intOf (vv T c) with
    | some (_, n), some (_, m) => match chk h (0 ≤ n ∧ n ≤ m ∧ m ≤ 4294967296 ∧ bytes * m.toNat ≤ 4398046511104) with
      | some p => some ⟨.c (.sl nid 0 0 n.toNat es), [(nid, .one ⟨true, true, mkB es m.toNat kd z⟩)], [], [], [], p⟩
      | none => none
    | _, _ => none
  | .slA n es x lo hi => match vv T x, seqOf n (vvO T lo) (vvO T hi) with
    | .c (.ptr b i o), some (l, u) => match look m b i with
      | some k => match chk h (0 ≤ l ∧ l ≤ u ∧ u ≤ n ∧ o + n * es ≤ k.len) with
        | some p => readE (.c (.sl b i (addO o (mulE l.toNat es)) (u - l).toNat es)) b p
        | none => none
      | none => none
    | _, _ => none
  | .sl es x lo hi => match vv T x with
    | .c (.sl b i o n es') => bif Nat.beq es' es then (match seqOf n (vvO T lo) (vvO T hi) with
      | some (l, u) => match chk h (0 ≤ l ∧ l ≤ u ∧ u ≤ n) with
        | some p => pureE (.c (.sl b i (addO o (mulE l.toNat es)) (u - l).toNat es)) p
        | none => none
      | none => none) else none
    | _ => none
  | .slS x lo hi => match vv T x with
    | .c (.str s) => match seqOf s.size (vvO T lo) (vvO T hi) with
      | some (l, u) => match chk h (0 ≤ l ∧ l ≤ u ∧ u ≤ s.size) with
        | some p => pureE (.c (.str (s.extract l.toNat u.toNat))) p
        | none => none
      | none => none
    | _ => none
  | .fa x off => match vv T x with
    | .c (.ptr b i o) => pureE (.c (.ptr b i (addO o off))) []
    | _ => none
  | .ia n es x ix => match vv T x, intOf (vv T ix) with
    | .c (.ptr b i o), some (_, j) => match chk h (0 ≤ j ∧ j < n) with
      | some p => pureE (.c (.ptr b i (addO o (mulE j.toNat es)))) p
      | none => none
    | _, _ => none
  | .is es x ix => match vv T x, intOf (vv T ix) with
    | .c (.sl b i o n _), some (_, j) => match chk h (0 ≤ j ∧ j < n) with
      | some p => pureE (.c (.ptr b i (addO o (mulE j.toNat es)))) p
      | none => none
    | _, _ => none
  | .ix n es agg x ix => match (vv T x).abody, intOf (vv T ix) with
    | some b, some (_, j) => match chk h (0 ≤ j ∧ j < n ∧ n * es = b.len) with
      | some p => bif agg then pureE (b.seg (mulE j.toNat es) es).agg p else bif Nat.beq es 1 then pureE (.c (b.get j.toNat)) p else none
      | none => none
    | _, _ => none
  | .ixS x ix => match vv T x, intOf (vv T ix) with
    | .c (.str s), some (_, j) => match chk h (0 ≤ j ∧ j < s.size) with
      | some p => pureE (.c (.int .u8 ((s.data.toList.getD j.toNat 0).toNat : Int))) p
      | none => none
    | _, _ => none
  | .fld off sz agg x => match (vv T x).abody with
    | some b => bif Nat.ble (off + sz) b.len then (bif agg then pureE (b.seg off sz).agg [] else bif Nat.beq sz 1 then pureE (.c (b.get off)) [] else none) else none
    | none => none
  | .ext x i => match vv T x with
    | .tup l => match l[i]? with | some v => pureE v [] | none => none
    | _ => none
  | .add64 x y z => match vv T x, vv T y, vv T z with
    | .c (.int .u64 a), .c (.int .u64 b), .c (.int .u64 c) =>
      match chk h (0 ≤ a ∧ a < 18446744073709551616 ∧ 0 ≤ b ∧ b < 18446744073709551616 ∧ 0 ≤ c ∧ c ≤ 1) with
      | some p => pureE (.tup [.c (.int .u64 ((a + b + c) % 18446744073709551616)), .c (.int .u64 ((a + b + c) / 18446744073709551616))]) p
      | none => none
    | _, _, _ => none
  | .len k x => match k, vv T x with
    | .arr n, _ => pureE (.c (.int .i64 n)) []
    | .sl, .c (.sl _ _ _ n _) => pureE (.c (.int .i64 n)) []
    | .sl, .c .nils => pureE (.c (.int .i64 0)) []
    | .str, .c (.str s) => pureE (.c (.int .i64 s.size)) []
    | _, _ => none
  | .app es bytes x y => match srcOf m es (vv T y), vv T x with
    | some (n, s, rd, x, y), .c .nils => match chk h (x ≤ y ∧ bytes * n ≤ 4398046511104) with
      | some q => some ⟨.c (.sl nid 0 0 n es), [(nid, .one ⟨true, false, s⟩)], [], rd, [], q⟩
      | none => none
    | some (n, s, rd, x, y), .c (.sl b i o l es') => match look m b i with
      | some k => match (k.body.seg o (mulE l es)).cat s, chk h (x ≤ y ∧ bytes * (l + n) ≤ 4398046511104 ∧ o + l * es ≤ k.len) with
        | some r, some q => bif Nat.beq es' es && k.own && Nat.beq i 0 && !(rd.any fun e => Nat.beq e b) then
            some ⟨.c (.sl nid 0 0 (addO l n) es), [(nid, .one ⟨true, false, r⟩)], [b], b :: rd, [b], q⟩ else none
        | _, _ => none
      | none => none
    | _, _ => none
  | .copy es x y => match srcOf m es (vv T y), vv T x with
    | some (n, s, rd, x, y), .c (.sl b i o l es') => match look m b i with
      | some k => match k.body.wr o (s.seg 0 (mulE (minN h n l) es)), chk h (x ≤ y ∧ o + l * es ≤ k.len) with
        | some r, some q => bif Nat.beq es' es && k.own then some ⟨.c (.int .i64 (minN h n l)), upd m b i { k with body := r }, [], b :: rd, [b], q⟩ else none
        | _, _ => none
      | none => none
    | _, _ => none
  | .mm mx x y => match vv T x, vv T y with
    | .c (.int k a), .c (.int _ b) => pureE (.c (.int k (bif mx then (bif decide (b > a) then b else a) else (bif decide (b < a) then b else a)))) []
    | _, _ => none
  | .mm3 mx x y z => match vv T x, vv T y, vv T z with
    | .c (.int k a), .c (.int _ b), .c (.int _ c) => pureE (.c (.int k (mmI mx (mmI mx a b) c))) []
    | _, _, _ => none
  | .call _ _ => none
  | .callv _ _ => none
end Go.Proofs.Ytohleiikedpmkaa.Vm

namespace Go.Proofs.Ytohleiikedpmkaa.Vm
open Go
theorem sameK_eq {k k' : IntKind} (h : sameK k k' = true) : k = k' := by
  cases k <;> cases k' <;> first | rfl | simp [sameK] at h
theorem chk_ok {h : H} {p : Prop} [Decidable p] {l : List Prop} (e : chk h p = some l) (H : ∀ q ∈ l, q) : p := by
  unfold chk at e
  split at e
  · injection e with e; subst e; exact H p (by simp)
  · by_cases hp : p
    · exact hp
    · simp [hp] at e
theorem allInts_eq {k : IntKind} : ∀ {m : List C} {q : List Int}, allInts k m = some q → m = q.map (C.int k)
  | [], q, h => by simp [allInts] at h; subst h; rfl
  | .int k' n :: r, q, h => by
    simp only [allInts] at h
    cases hk : sameK k k' with
    | false => simp [hk] at h
    | true =>
      have := sameK_eq hk
      subst this
      rw [hk] at h
      simp only [cond_true] at h
      cases hr : allInts k r with
      | none => simp [hr] at h
      | some l =>
        simp only [hr] at h
        injection h with h
        subst h
        simp [allInts_eq hr]
  | .bool _ :: _, _, h | .str _ :: _, _, h | .nilp :: _, _, h | .ptr _ _ _ :: _, _, h | .nils :: _, _, h | .sl _ _ _ _ _ :: _, _, h | .fn _ _ :: _, _, h | .nilf :: _, _, h | .nili :: _, _, h | .ifi _ _ _ :: _, _, h | .unk :: _, _, h => by simp [allInts] at h
theorem splice_eq {α : Type} (l : List α) (o : Nat) (s : List α) (h : o + s.length ≤ l.length) : splice l o s = l.take o ++ s ++ l.drop (o + s.length) := by
  unfold splice
  split
  · rename_i x
    simp at h
    rw [List.set_eq_take_append_cons_drop]
    simp [Nat.lt_of_succ_le h]
  · rfl
theorem splice_len {α : Type} (l : List α) (o : Nat) (s : List α) (h : o + s.length ≤ l.length) : (splice l o s).length = l.length := by
  rw [splice_eq l o s h]; simp; omega
theorem splice_getD {α : Type} (l : List α) (o : Nat) (s : List α) (d : α) (h : o + s.length ≤ l.length) (j : Nat) (_ : j < l.length) :
    (splice l o s).getD j d = if o ≤ j ∧ j < o + s.length then s.getD (j - o) d else l.getD j d := by
  rw [splice_eq l o s h]
  simp only [List.getD_eq_getElem?_getD, List.append_assoc]
  rw [List.getElem?_append, List.getElem?_append]
  have ht : (l.take o).length = o := by simp; omega
  rw [ht]
  by_cases h1 : j < o
  · rw [if_pos h1, if_neg (by omega), List.getElem?_take, if_pos h1]
  · rw [if_neg h1]
    by_cases h2 : j - o < s.length
    · rw [if_pos h2, if_pos (by omega)]
    · rw [if_neg h2, if_neg (by omega), List.getElem?_drop]
      congr 2; omega
theorem map_getD {k : IntKind} (l : List Int) (j : Nat) (h : j < l.length) : (l.map (C.int k)).getD j .unk = .int k (l.getD j 0) := by
  simp [List.getD_eq_getElem?_getD, h]
theorem intsOf_len : ∀ {m : List C} {q : List (IntKind × Int)}, intsOf m = some q → q.length = m.length
  | [], q, h => by simp [intsOf] at h; subst h; rfl
  | .int k n :: r, q, h => by
    simp only [intsOf] at h
    cases hr : intsOf r with
    | none => simp [hr] at h
    | some l => simp only [hr] at h; injection h with h; subst h; simp [intsOf_len hr]
  | .bool _ :: _, _, h | .str _ :: _, _, h | .nilp :: _, _, h | .ptr _ _ _ :: _, _, h | .nils :: _, _, h | .sl _ _ _ _ _ :: _, _, h | .fn _ _ :: _, _, h | .nilf :: _, _, h | .nili :: _, _, h | .ifi _ _ _ :: _, _, h | .unk :: _, _, h => by simp [intsOf] at h
theorem intsOf_get : ∀ {m : List C} {q : List (IntKind × Int)}, intsOf m = some q → ∀ j, j < m.length → m.getD j .unk = .int (igK q j) (igG q j)
  | [], q, h, j, hj => by simp at hj
  | .int k n :: r, q, h, j, hj => by
    simp only [intsOf] at h
    cases hr : intsOf r with
    | none => simp [hr] at h
    | some l =>
      simp only [hr] at h; injection h with h; subst h
      cases j with
      | zero => rfl
      | succ j =>
        have := intsOf_get hr j (by simpa using hj)
        simpa [igK, igG] using this
  | .bool _ :: _, _, h, _, _ | .str _ :: _, _, h, _, _ | .nilp :: _, _, h, _, _ | .ptr _ _ _ :: _, _, h, _, _ | .nils :: _, _, h, _, _ | .sl _ _ _ _ _ :: _, _, h, _, _ | .fn _ _ :: _, _, h, _, _ | .nilf :: _, _, h, _, _ | .nili :: _, _, h, _, _ | .ifi _ _ _ :: _, _, h, _, _ | .unk :: _, _, h, _, _ => by simp [intsOf] at h
theorem inR_iff {o m p : Nat} : inR o m p = true ↔ (o ≤ p ∧ p < o + m) := by
  unfold inR
  rw [Bool.and_eq_true, Nat.ble_eq, Nat.blt_eq]
theorem inR_f {o m p : Nat} (h : ¬ (o ≤ p ∧ p < o + m)) : inR o m p = false := by
  cases e : inR o m p with
  | false => rfl
  | true => exact absurd (inR_iff.1 e) h
theorem bltT {a b : Nat} (h : a < b) : Nat.blt a b = true := by rw [Nat.blt_eq]; exact h
theorem bltF {a b : Nat} (h : ¬ a < b) : Nat.blt a b = false := by
  cases e : Nat.blt a b with
  | false => rfl
  | true => rw [Nat.blt_eq] at e; exact absurd e h
theorem Body.wr_len {b s b' : Body} {o : Nat} (h : b.wr o s = some b') (hs : o + s.len ≤ b.len) : b'.len = b.len := by
  unfold Body.wr at h
  split at h
  · injection h with h; subst h; exact splice_len _ _ _ hs
  · injection h with h; subst h; simp only [Body.len] at hs ⊢; exact splice_len _ _ _ (by simpa using hs)
  · rename_i k l k' m
    cases hk : sameK k k' with
    | false => simp [hk] at h
    | true => simp [hk] at h; subst h; exact splice_len _ _ _ hs
  · split at h
    · rename_i q hq
      injection h with h; subst h
      have := allInts_eq hq
      simp only [Body.len] at hs ⊢
      exact splice_len _ _ _ (by simpa [this] using hs)
    · simp at h
  · split at h
    · injection h with h; subst h; rfl
    · simp at h
  · injection h with h; subst h; rfl
  · injection h with h; subst h; rfl
  · injection h with h; subst h; rfl
  · simp at h
theorem splice_in {α : Type} (l : List α) (o : Nat) (s : List α) (d : α) (h : o + s.length ≤ l.length) (j : Nat) (h1 : o ≤ j) (h2 : j < o + s.length) : (splice l o s).getD j d = s.getD (j - o) d := by
  rw [splice_getD l o s d h j (by omega), if_pos ⟨h1, h2⟩]
theorem splice_out {α : Type} (l : List α) (o : Nat) (s : List α) (d : α) (h : o + s.length ≤ l.length) (j : Nat) (hj : j < l.length) (h1 : ¬ (o ≤ j ∧ j < o + s.length)) : (splice l o s).getD j d = l.getD j d := by
  rw [splice_getD l o s d h j hj, if_neg h1]
theorem Body.wr_in {b s b' : Body} {o : Nat} (h : b.wr o s = some b') (hs : o + s.len ≤ b.len) (j : Nat) (h1 : o ≤ j) (h2 : j < o + s.len) : b'.get j = s.get (j - o) := by
  unfold Body.wr at h
  split at h
  · injection h with h; subst h; exact splice_in _ _ _ _ hs _ h1 h2
  · rename_i l k m
    injection h with h; subst h
    have h2' : j < o + m.length := h2
    have hs' : o + m.length ≤ l.length := hs
    show (splice l o (m.map (C.int k))).getD j .unk = .int k (m.getD (j - o) 0)
    rw [splice_in _ _ _ _ (by simpa using hs') _ h1 (by simpa using h2'), map_getD _ _ (by omega)]
  · rename_i k l k' m
    cases hk : sameK k k' with
    | false => simp [hk] at h
    | true =>
      have := sameK_eq hk
      subst this
      simp [hk] at h; subst h
      show C.int k ((splice l o m).getD j 0) = .int k (m.getD (j - o) 0)
      rw [splice_in _ _ _ _ hs _ h1 h2]
  · rename_i k l m
    split at h
    · rename_i q hq
      injection h with h; subst h
      have := allInts_eq hq
      subst this
      have h2' : j < o + q.length := by simpa [Body.len] using h2
      have hs' : o + q.length ≤ l.length := by simpa [Body.len] using hs
      show C.int k ((splice l o q).getD j 0) = (q.map (C.int k)).getD (j - o) .unk
      rw [splice_in _ _ _ _ hs' _ h1 h2', map_getD _ _ (by omega)]
    · simp at h
  · rename_i n kf g m
    split at h
    · rename_i q hq
      injection h with h; subst h
      have hl := intsOf_len hq
      have h2' : j < o + m.length := h2
      show C.int (bif inR o q.length j then _ else _) (bif inR o q.length j then _ else _) = m.getD (j - o) .unk
      rw [inR_iff.2 ⟨h1, by omega⟩, intsOf_get hq _ (by omega)]
      rfl
    · simp at h
  · rename_i n kf g m kf' g'
    injection h with h; subst h
    have h2' : j < o + m := h2
    show C.int (bif inR o m j then _ else _) (bif inR o m j then _ else _) = .int (kf' (j - o)) (g' (j - o))
    rw [inR_iff.2 ⟨h1, h2'⟩]
    rfl
  · rename_i n w f m
    injection h with h; subst h
    have h2' : j < o + m.length := h2
    show (bif inR o m.length j then m.getD (j - o) .unk else recGet w f j) = m.getD (j - o) .unk
    rw [inR_iff.2 ⟨h1, h2'⟩]
    rfl
  · rename_i n f m
    injection h with h; subst h
    have h2' : j < o + m.length := h2
    show (bif inR o m.length j then m.getD (j - o) .unk else f j) = m.getD (j - o) .unk
    rw [inR_iff.2 ⟨h1, h2'⟩]
    rfl
  · simp at h
theorem Body.wr_out {b s b' : Body} {o : Nat} (h : b.wr o s = some b') (hs : o + s.len ≤ b.len) (j : Nat) (hj : j < b.len) (h1 : ¬ (o ≤ j ∧ j < o + s.len)) : b'.get j = b.get j := by
  unfold Body.wr at h
  split at h
  · injection h with h; subst h; exact splice_out _ _ _ _ hs _ hj h1
  · rename_i l k m
    injection h with h; subst h
    have h1' : ¬ (o ≤ j ∧ j < o + m.length) := h1
    have hs' : o + m.length ≤ l.length := hs
    exact splice_out _ _ _ _ (by simpa using hs') _ hj (by simpa using h1')
  · rename_i k l k' m
    cases hk : sameK k k' with
    | false => simp [hk] at h
    | true =>
      have := sameK_eq hk
      subst this
      simp [hk] at h; subst h
      show C.int k ((splice l o m).getD j 0) = .int k (l.getD j 0)
      rw [splice_out _ _ _ _ hs _ hj h1]
  · rename_i k l m
    split at h
    · rename_i q hq
      injection h with h; subst h
      have := allInts_eq hq
      subst this
      have h1' : ¬ (o ≤ j ∧ j < o + q.length) := by simpa [Body.len] using h1
      have hs' : o + q.length ≤ l.length := by simpa [Body.len] using hs
      show C.int k ((splice l o q).getD j 0) = .int k (l.getD j 0)
      rw [splice_out _ _ _ _ hs' _ hj h1']
    · simp at h
  · rename_i n kf g m
    split at h
    · rename_i q hq
      injection h with h; subst h
      have hl := intsOf_len hq
      have h1' : ¬ (o ≤ j ∧ j < o + m.length) := h1
      show C.int (bif inR o q.length j then _ else _) (bif inR o q.length j then _ else _) = .int (kf j) (g j)
      rw [inR_f (by rw [hl]; exact h1')]
      rfl
    · simp at h
  · rename_i n kf g m kf' g'
    injection h with h; subst h
    have h1' : ¬ (o ≤ j ∧ j < o + m) := h1
    show C.int (bif inR o m j then _ else _) (bif inR o m j then _ else _) = .int (kf j) (g j)
    rw [inR_f h1']
    rfl
  · rename_i n w f m
    injection h with h; subst h
    have h1' : ¬ (o ≤ j ∧ j < o + m.length) := h1
    show (bif inR o m.length j then m.getD (j - o) .unk else recGet w f j) = recGet w f j
    rw [inR_f h1']
    rfl
  · rename_i n f m
    injection h with h; subst h
    have h1' : ¬ (o ≤ j ∧ j < o + m.length) := h1
    show (bif inR o m.length j then m.getD (j - o) .unk else f j) = f j
    rw [inR_f h1']
    rfl
  · simp at h
theorem Body.cat_len {b s r : Body} (h : b.cat s = some r) : r.len = b.len + s.len := by
  unfold Body.cat at h
  split at h
  · injection h with h; subst h; simp [Body.len]
  · injection h with h; subst h; simp [Body.len]
  · split at h
    · rename_i q hq
      injection h with h; subst h
      have := allInts_eq hq
      simp [Body.len, this]
    · injection h with h; subst h; simp [Body.len]
  · rename_i k l k' m
    cases hk : sameK k k' with
    | false => simp [hk] at h
    | true => simp [hk] at h; subst h; simp [Body.len]
  · split at h
    · rename_i q hq
      injection h with h; subst h
      have := allInts_eq hq
      simp [Body.len, this]
    · simp at h
  · injection h with h; subst h; rfl
  · split at h
    · rename_i q hq
      injection h with h; subst h
      simp [Body.len, intsOf_len hq]
    · simp at h
  · injection h with h; subst h; rfl
  · injection h with h; subst h; rfl
  · simp at h
theorem getD_append' {α : Type} (l m : List α) (d : α) (j : Nat) : (l ++ m).getD j d = if j < l.length then l.getD j d else m.getD (j - l.length) d := by
  simp only [List.getD_eq_getElem?_getD]
  rw [List.getElem?_append]
  split <;> rfl
theorem getD_l {α : Type} (l m : List α) (d : α) (j : Nat) (h : j < l.length) : (l ++ m).getD j d = l.getD j d := by rw [getD_append', if_pos h]
theorem getD_r {α : Type} (l m : List α) (d : α) (j : Nat) (h : l.length ≤ j) : (l ++ m).getD j d = m.getD (j - l.length) d := by rw [getD_append', if_neg (by omega)]
theorem Body.cat_l {b s r : Body} (h : b.cat s = some r) (j : Nat) (hj : j < b.len) : r.get j = b.get j := by
  unfold Body.cat at h
  split at h
  · simp [Body.len] at hj
  · injection h with h; subst h; exact getD_l _ _ _ _ hj
  · rename_i l k m _
    split at h
    · rename_i q hq
      injection h with h; subst h
      have e := allInts_eq hq
      subst e
      have hj' : j < q.length := by have : j < (q.map (C.int k)).length := hj; simpa using this
      show C.int k ((q ++ m).getD j 0) = (q.map (C.int k)).getD j .unk
      rw [getD_l _ _ _ _ hj', map_getD _ _ hj']
    · injection h with h; subst h; exact getD_l _ _ _ _ hj
  · rename_i k l k' m
    cases hk : sameK k k' with
    | false => simp [hk] at h
    | true =>
      simp [hk] at h; subst h
      show C.int k ((l ++ m).getD j 0) = .int k (l.getD j 0)
      rw [getD_l _ _ _ _ hj]
  · rename_i k l m
    split at h
    · rename_i q hq
      injection h with h; subst h
      show C.int k ((l ++ q).getD j 0) = .int k (l.getD j 0)
      rw [getD_l _ _ _ _ hj]
    · simp at h
  · rename_i n kf g m kf' g'
    injection h with h; subst h
    have hj' : j < n := hj
    show C.int (bif Nat.blt j n then _ else _) (bif Nat.blt j n then _ else _) = .int (kf j) (g j)
    rw [bltT hj']; rfl
  · rename_i n kf g m
    split at h
    · rename_i q hq
      injection h with h; subst h
      have hj' : j < n := hj
      show C.int (bif Nat.blt j n then _ else _) (bif Nat.blt j n then _ else _) = .int (kf j) (g j)
      rw [bltT hj']; rfl
    · simp at h
  · rename_i n f m
    injection h with h; subst h
    have hj' : j < n := hj
    show (bif Nat.blt j n then _ else _) = f j
    rw [bltT hj']; rfl
  · rename_i n w f m
    injection h with h; subst h
    have hj' : j < n := hj
    show (bif Nat.blt j n then _ else _) = recGet w f j
    rw [bltT hj']; rfl
  · simp at h
theorem Body.cat_r {b s r : Body} (h : b.cat s = some r) (j : Nat) (h1 : b.len ≤ j) (hj : j < b.len + s.len) : r.get j = s.get (j - b.len) := by
  unfold Body.cat at h
  split at h
  · injection h with h; subst h; simp [Body.len]
  · injection h with h; subst h; exact getD_r _ _ _ _ h1
  · rename_i l k m _
    have h1' : l.length ≤ j := h1
    have hj' : j < l.length + m.length := hj
    split at h
    · rename_i q hq
      injection h with h; subst h
      have e := allInts_eq hq
      have hl : l.length = q.length := by rw [e]; simp
      show C.int k ((q ++ m).getD j 0) = .int k (m.getD (j - l.length) 0)
      rw [hl, getD_r _ _ _ _ (by omega)]
    · injection h with h; subst h
      show (l ++ m.map (C.int k)).getD j .unk = .int k (m.getD (j - l.length) 0)
      rw [getD_r _ _ _ _ h1, map_getD _ _ (by omega)]
  · rename_i k l k' m
    cases hk : sameK k k' with
    | false => simp [hk] at h
    | true =>
      have := sameK_eq hk
      subst this
      simp [hk] at h; subst h
      show C.int k ((l ++ m).getD j 0) = .int k (m.getD (j - l.length) 0)
      rw [getD_r _ _ _ _ h1]
  · rename_i k l m
    split at h
    · rename_i q hq
      injection h with h; subst h
      have := allInts_eq hq
      subst this
      show C.int k ((l ++ q).getD j 0) = (q.map (C.int k)).getD (j - l.length) .unk
      have h1' : l.length ≤ j := h1
      have hj' : j < l.length + q.length := by simpa [Body.len] using hj
      rw [getD_r _ _ _ _ h1, map_getD _ _ (by omega)]
    · simp at h
  · rename_i n kf g m kf' g'
    injection h with h; subst h
    have h1' : n ≤ j := h1
    show C.int (bif Nat.blt j n then _ else _) (bif Nat.blt j n then _ else _) = .int (kf' (j - n)) (g' (j - n))
    rw [bltF (by omega)]; rfl
  · rename_i n kf g m
    split at h
    · rename_i q hq
      injection h with h; subst h
      have h1' : n ≤ j := h1
      have hj' : j < n + m.length := hj
      show C.int (bif Nat.blt j n then _ else _) (bif Nat.blt j n then _ else _) = m.getD (j - n) .unk
      rw [bltF (by omega), intsOf_get hq _ (by omega)]; rfl
    · simp at h
  · rename_i n f m
    injection h with h; subst h
    have h1' : n ≤ j := h1
    show (bif Nat.blt j n then _ else _) = m.getD (j - n) .unk
    rw [bltF (by omega)]; rfl
  · rename_i n w f m
    injection h with h; subst h
    have h1' : n ≤ j := h1
    show (bif Nat.blt j n then _ else _) = m.getD (j - n) .unk
    rw [bltF (by omega)]; rfl
  · simp at h
theorem Body.seg_len {b : Body} {o n : Nat} (h : o + n ≤ b.len) : (b.seg o n).len = n := by
  cases b with
  | ig m kf g => rfl
  | _ => simp [Body.seg, Body.len] at h ⊢ <;> omega
theorem Body.seg_get {b : Body} {o n : Nat} (j : Nat) (hj : j < n) : (b.seg o n).get j = b.get (o + j) := by
  cases b with
  | ig m kf g => show C.int (kf (j + o)) (g (j + o)) = .int (kf (o + j)) (g (o + j)); rw [Nat.add_comm]
  | _ => simp [Body.seg, Body.get, hj]
def RBd (φ : Phi) (b : Body) (vs : List Value) : Prop := vs.length = b.len ∧ ∀ (j : Nat) (v : Value), vs[j]? = some v → RC φ (b.get j) v
theorem RBd.mono {φ φ' : Phi} (h : φ.le φ') {b : Body} {vs : List Value} (H : RBd φ b vs) : RBd φ' b vs := ⟨H.1, fun j v e => (H.2 j v e).mono h⟩
theorem RBd.one {φ : Phi} {b : Body} {vs : List Value} (H : RBd φ b vs) : ∀ v ∈ vs, v.oneCell' = true := by
  intro v hv
  obtain ⟨j, hj⟩ := List.mem_iff_getElem?.1 hv
  exact (H.2 j v hj).one
theorem RBd.of_cells {φ : Phi} {l : List C} {vs : List Value} (H : All2 (RC φ) l vs) : RBd φ (.cells l) vs := by
  refine ⟨H.length.symm, fun j v hv => ?_⟩
  have hj : j < l.length := by
    have := (List.getElem?_eq_some_iff.1 hv).1
    rw [H.length]; exact this
  obtain ⟨b, hb, hr⟩ := H.get j l[j] (by simp [hj])
  rw [hv] at hb
  injection hb with hb
  subst hb
  simpa [Body.get, hj] using hr
theorem RBd.cells {φ : Phi} {l : List C} {vs : List Value} (H : RBd φ (.cells l) vs) : All2 (RC φ) l vs := by
  refine All2.of_get H.1.symm fun j a b ha hb => ?_
  have := H.2 j b hb
  simpa [Body.get, List.getD_eq_getElem?_getD, ha] using this
theorem RBd.ints {φ : Phi} {k : IntKind} {l : List Int} {vs : List Value} (H : RBd φ (.ints k l) vs) : vs = l.map (Value.int k) := by
  apply List.ext_getElem?
  intro j
  by_cases hj : j < l.length
  · have hv : j < vs.length := by rw [H.1]; exact hj
    have := H.2 j vs[j] (by simp [hv])
    simp only [Body.get, RC] at this
    simp [hv, hj, this]
  · have hv : ¬ j < vs.length := by rw [H.1]; exact hj
    simp [hj, hv]
theorem RBd.of_ints {φ : Phi} {k : IntKind} {l : List Int} : RBd φ (.ints k l) (l.map (Value.int k)) := by
  refine ⟨by simp [Body.len], fun j v hv => ?_⟩
  simp only [List.getElem?_map, Option.map_eq_some_iff] at hv
  obtain ⟨n, hn, rfl⟩ := hv
  simp [Body.get, RC, hn]
theorem RBd.gen {φ : Phi} {n : Nat} {f : Nat → C} {vs : List Value} (H : RBd φ (.gen n f) vs) : All2 (RC φ) ((List.range n).map f) vs := by
  refine All2.of_get (by simp [H.1, Body.len]) fun j a b ha hb => ?_
  have := H.2 j b hb
  simp only [List.getElem?_map, Option.map_eq_some_iff] at ha
  obtain ⟨m, hm, rfl⟩ := ha
  have : m = j := by
    have := List.getElem?_eq_some_iff.1 hm
    obtain ⟨_, e⟩ := this
    simpa using e.symm
  subst this
  simpa [Body.get] using H.2 m b hb
theorem RBd.row {φ : Phi} {n w : Nat} {f : Nat → List C} {vs : List Value} (H : RBd φ (.row n w f) vs) : All2 (RC φ) ((List.range n).map (recGet w f)) vs :=
  RBd.gen (f := recGet w f) H
theorem RBd.ig {φ : Phi} {n : Nat} {kf : Nat → IntKind} {g : Nat → Int} {vs : List Value} (H : RBd φ (.ig n kf g) vs) : All2 (RC φ) ((List.range n).map fun p => C.int (kf p) (g p)) vs :=
  RBd.gen (f := fun p => C.int (kf p) (g p)) H
theorem RBd.list {φ : Phi} {b : Body} {vs : List Value} (H : RBd φ b vs) : All2 (RC φ) b.list vs := by
  cases b with
  | cells l => exact H.cells
  | ints k l =>
    have := H.ints
    subst this
    refine All2.of_get (by simp [Body.list]) fun j x y hx hy => ?_
    simp only [Body.list, List.getElem?_map, Option.map_eq_some_iff] at hx hy
    obtain ⟨p, hp, rfl⟩ := hx
    obtain ⟨q, hq, rfl⟩ := hy
    rw [hp] at hq
    injection hq with hq
    subst hq
    rfl
  | gen n f => exact H.gen
  | row n w f => exact H.row
  | ig n kf g => exact H.ig
theorem RBd.agg {φ : Phi} {b : Body} {vs : List Value} (H : RBd φ b vs) : RV φ b.agg (.agg vs.toArray) := by
  cases b with
  | cells l => exact ⟨_, rfl, by simpa using H.cells⟩
  | ints k l => simp only [Body.agg, RV, RV1, H.ints]
  | gen n f => exact ⟨_, rfl, by simpa using H.gen⟩
  | row n w f => exact ⟨_, rfl, by simpa using H.row⟩
  | ig n kf g => exact ⟨_, rfl, by simpa using H.ig⟩
theorem RBd.seg {φ : Phi} {b : Body} {vs : List Value} (H : RBd φ b vs) {o n : Nat} (h : o + n ≤ b.len) : RBd φ (b.seg o n) ((vs.drop o).take n) := by
  refine ⟨by rw [Body.seg_len h]; simp [H.1]; omega, fun j v hv => ?_⟩
  rw [List.getElem?_take] at hv
  by_cases hj : j < n
  · rw [if_pos hj, List.getElem?_drop] at hv
    rw [Body.seg_get j hj]
    exact H.2 _ _ hv
  · simp [hj] at hv
theorem RBd.congr {φ : Phi} {b b' : Body} {vs : List Value} (hl : b.len = b'.len) (hg : ∀ j, j < b.len → b.get j = b'.get j) (H : RBd φ b vs) : RBd φ b' vs := by
  refine ⟨H.1.trans hl, fun j v hv => ?_⟩
  have hj : j < b.len := by
    have := (List.getElem?_eq_some_iff.1 hv).1
    rw [← H.1]; exact this
  rw [← hg j hj]
  exact H.2 j v hv
theorem RV.body {φ : Phi} {v : V} {x : Value} {b : Body} (H : RV φ v x) (h : v.body = some b) : RBd φ b x.cells.toList := by
  cases v with
  | c y =>
    simp only [V.body] at h
    injection h with h; subst h
    simp only [RV, RV1] at H
    have h1 := H.one
    have : x.cells = #[x] := by cases x <;> first | rfl | simp [Value.oneCell'] at h1
    rw [this]
    exact .of_cells (.cons H .nil)
  | agg l =>
    simp only [V.body] at h
    injection h with h; subst h
    simp only [RV, RV1] at H
    obtain ⟨a, rfl, H⟩ := H
    exact .of_cells H
  | aggi k l =>
    simp only [V.body] at h
    injection h with h; subst h
    simp only [RV, RV1] at H
    subst H
    simpa [Value.cells] using RBd.of_ints
  | tup l => simp [V.body] at h
  | unk => simp [V.body] at h
theorem add_at (r o j : Nat) : (⟨r, o, none⟩ : Addr).add j = ⟨r, o + j, none⟩ := by
  unfold Addr.add
  split
  · subst_vars; simp
  · rfl
theorem cell_of_heap {w w2 : World} (h : w2.heap = w.heap) (ad : Addr) : w2.cell? ad = w.cell? ad := by simp only [World.cell?, h]
theorem RB.load {φ : Phi} {l : Loc} {k : Blk} {w : World} (H : RB φ l k w) (P : Program) {o n : Nat} (h : o + n ≤ k.len) :
    ∃ vs : List Value, (∀ w2 : World, w2.heap = w.heap → (loadCells ⟨l.r, l.s + o, none⟩ n).run P w2 = .ok vs.toArray w2) ∧ RBd φ (k.body.seg o n) vs := by
  refine ⟨(List.range n).map fun j => (w.cell? ⟨l.r, l.s + (o + j), none⟩).getD undef, ?_, ?_⟩
  · intro w2 hw2
    refine run_loadCells w2 _ n _ fun j hj => ?_
    obtain ⟨v, hv, _⟩ := H.cell (o + j) (by omega)
    rw [add_at, Nat.add_assoc, cell_of_heap hw2, hv]; rfl
  · refine ⟨by rw [Body.seg_len h]; simp, fun j v hv => ?_⟩
    simp only [List.getElem?_map, Option.map_eq_some_iff] at hv
    obtain ⟨m, hm, rfl⟩ := hv
    obtain ⟨hj, e⟩ := List.getElem?_eq_some_iff.1 hm
    simp at e hj
    subst e
    obtain ⟨v, hv, hr⟩ := H.cell (o + j) (by omega)
    rw [hv, Body.seg_get j hj]
    exact hr
end Go.Proofs.Ytohleiikedpmkaa.Vm

namespace Go.Proofs.Ytohleiikedpmkaa.Vm
open Go
def WW : Nat := 16
structure Step (φ φ' : Phi) (m up : Mem) (wr : List Nat) (nid : Nat) (w w' : World) : Prop where
  le : φ.le φ'
  new : ∀ b i l, φ' b i = some l → φ b i = some l ∨ (nid ≤ b ∧ b < nid + WW)
  keeps : Keeps (fun r => ∃ b i k l, b ∈ wr ∧ look m b i = some k ∧ φ b i = some l ∧ l.own = true ∧ 0 < l.sz ∧ l.r = r) w w'
  blk : ∀ b i k, look up b i = some k → ∃ l, φ' b i = some l ∧ RB φ' l k w'
  src : ∀ b i k l, look up b i = some k → φ' b i = some l → 0 < l.sz → w.heap.size ≤ l.r ∨ (∃ b0 i0 k0 l0, b0 ∈ wr ∧ look m b0 i0 = some k0 ∧ φ b0 i0 = some l0 ∧ l0.own = true ∧ 0 < l0.sz ∧ l0.r = l.r) ∨ ∃ k0, look m b i = some k0 ∧ φ b i = some l
  inj : ∀ b i k l b' i' k' l', look up b i = some k → look up b' i' = some k' → φ' b i = some l → φ' b' i' = some l' → l.own = true → 0 < l.sz → 0 < l'.sz → l.r = l'.r → b = b' ∧ i = i'
theorem Keeps.refl (S : Nat → Prop) (w : World) : Keeps S w w := ⟨rfl, rfl, rfl, Nat.le_refl _, fun _ _ _ => rfl⟩
theorem Keeps.trans {S : Nat → Prop} {a b c : World} (h : Keeps S a b) (k : Keeps S b c) : Keeps S a c :=
  ⟨k.os.trans h.os, k.tape.trans h.tape, k.output.trans h.output, Nat.le_trans h.size k.size, fun i hi hs => (k.block i (Nat.lt_of_lt_of_le hi h.size) hs).trans (h.block i hi hs)⟩
theorem Keeps.imp {S S' : Nat → Prop} {a b : World} (h : Keeps S a b) (hs : ∀ r, r < a.heap.size → S r → S' r) : Keeps S' a b :=
  ⟨h.os, h.tape, h.output, h.size, fun i hi n => h.block i hi fun k => n (hs i hi k)⟩
theorem step_pure {φ : Phi} {m : Mem} {nid : Nat} {w : World} : Step φ φ m [] [] nid w w where
  le := Phi.le_refl φ
  new := fun _ _ _ h => .inl h
  keeps := Keeps.refl _ _
  blk := fun _ _ _ h => by simp [look, ent] at h
  src := fun _ _ _ _ h => by simp [look, ent] at h
  inj := fun _ _ _ _ _ _ _ _ h => by simp [look, ent] at h
def Phi.put (φ : Phi) (b : Nat) (l : Loc) : Phi := fun b' i => if b' = b ∧ i = 0 then some l else φ b' i
theorem Phi.put_le {φ : Phi} {b : Nat} {l : Loc} (h : φ b 0 = none) : φ.le (φ.put b l) := by
  intro b' i l' e
  unfold Phi.put
  split
  · rename_i h'
    obtain ⟨rfl, rfl⟩ := h'
    rw [h] at e; simp at e
  · exact e
theorem beqF {a b : Nat} (h : a ≠ b) : Nat.beq a b = false := by
  cases e : Nat.beq a b with
  | false => rfl
  | true => exact absurd (Nat.eq_of_beq_eq_true e) h
theorem ent_one (b b' : Nat) (e : Ent) : ent [(b, e)] b' = if b' = b then some e else none := by
  unfold ent
  by_cases hb : b = b'
  · subst hb; simp
  · have hb' : ¬ b' = b := fun h => hb h.symm
    simp [beqF hb, ent, hb']
theorem look_one {b b' i : Nat} {k k' : Blk} (h : look [(b, .one k)] b' i = some k') : b' = b ∧ i = 0 ∧ k' = k := by
  unfold look at h
  rw [ent_one] at h
  by_cases hb : b' = b
  · subst hb
    simp only [if_true, Ent.at] at h
    by_cases hi : i = 0
    · subst hi; simp at h; exact ⟨rfl, rfl, h.symm⟩
    · simp [beqF hi] at h
  · simp [hb] at h
theorem heap_lt_of_shape {w : World} {r : Nat} {x : TypeId × Nat} (h : w.shape? r = some x) : r < w.heap.size := by
  by_cases hlt : r < w.heap.size
  · exact hlt
  · have hn : w.heap[r]? = none := by simp; omega
    simp [World.shape?, hn] at h
theorem step_alloc {φ : Phi} {m : Mem} {nid : Nat} {w w' : World} (hf : φ nid 0 = none) (arr : Array Value) (T : TypeId) (fr : Nat × Nat)
    (hh : w'.heap = w.heap.push (.cells arr T fr)) (ho : w'.os = w.os) (ht : w'.tape = w.tape) (hu : w'.output = w.output)
    (hfr : ∀ j, j < arr.size → ¬ (fr.1 ≤ j ∧ j < fr.2)) (k : Blk) (hk : k.own = true) (n : Nat) (hn : n = k.len) (hsz : n ≤ arr.size) (hex : k.ex = true → arr.size = n)
    (hb : RBd φ k.body (arr.toList.take n)) :
    Step φ (φ.put nid ⟨w.heap.size, 0, arr.size, true⟩) m [(nid, .one k)] [] nid w w' := by
  have hle : φ.le (φ.put nid ⟨w.heap.size, 0, arr.size, true⟩) := Phi.put_le hf
  have hnew : w'.heap[w.heap.size]? = some (.cells arr T fr) := by rw [hh]; simp
  have hput : (φ.put nid ⟨w.heap.size, 0, arr.size, true⟩) nid 0 = some ⟨w.heap.size, 0, arr.size, true⟩ := by simp [Phi.put]
  refine ⟨hle, ?_, ?_, ?_, ?_, ?_⟩
  · intro b i l h
    unfold Phi.put at h
    split at h
    · rename_i h'; obtain ⟨rfl, rfl⟩ := h'; exact .inr ⟨Nat.le_refl _, by unfold WW; omega⟩
    · exact .inl h
  · refine ⟨ho, ht, hu, by rw [hh]; simp, fun i hi _ => ?_⟩
    rw [hh, Array.getElem?_push, if_neg (by omega)]
  · intro b i k' h
    obtain ⟨rfl, rfl, rfl⟩ := look_one h
    refine ⟨_, hput, hk.symm, by simpa using hn ▸ hsz, fun he => ⟨rfl, by simpa [hn] using hex he⟩, fun _ => ⟨T, by simp [World.shape?, hnew]⟩, fun j hj => ?_, fun _ j hj => ?_⟩
    · have hj' : j < arr.size := by omega
      refine ⟨arr[j], by simp [World.cell?, hnew, hj'], ?_⟩
      exact (hb.2 j arr[j] (by rw [List.getElem?_take, if_pos (by omega)]; simp [hj'])).mono hle
    · simp only [World.frozen?, hnew]
      have := hfr j hj
      simpa using this
  · intro b i k' l h hl _
    obtain ⟨rfl, rfl, rfl⟩ := look_one h
    rw [hput] at hl
    injection hl with hl
    subst hl
    exact .inl (Nat.le_refl _)
  · intro b i k l b' i' k' l' h h' _ _ _ _ _ _
    obtain ⟨rfl, rfl, rfl⟩ := look_one h
    obtain ⟨rfl, rfl, rfl⟩ := look_one h'
    exact ⟨rfl, rfl⟩
theorem shape_setCell (w : World) (a : Addr) (v : Value) (r : Nat) : (w.setCell a v).shape? r = w.shape? r := by
  simp only [World.shape?, World.setCell, Array.getElem?_modify]
  by_cases h : a.block = r
  · subst h
    simp only [if_true]
    cases hh : w.heap[a.block]? with
    | none => simp
    | some x => cases x <;> simp; split <;> simp
  · rw [if_neg h]
theorem shape_setCells (r : Nat) : ∀ (vs : List Value) (o : Nat) (w : World) (k : Nat), (w.setCells r o vs).shape? k = w.shape? k
  | [], _, _, _ => rfl
  | v :: l, o, w, k => by rw [World.setCells, shape_setCells r l, shape_setCell]
theorem keeps_setCells (r : Nat) {S : Nat → Prop} (hS : S r) : ∀ (vs : List Value) (o : Nat) (w : World), Keeps S w (w.setCells r o vs)
  | [], _, w => Keeps.refl _ _
  | v :: l, o, w => by
    have h1 : Keeps S w (w.setCell ⟨r, o, none⟩ v) := ⟨rfl, rfl, rfl, by simp [World.setCell], fun k hk hs => by
      simp only [World.setCell, Array.getElem?_modify]
      rw [if_neg (fun e => hs (by rw [← e]; exact hS))]⟩
    exact h1.trans (keeps_setCells r hS l (o + 1) _)
theorem look_upd {m : Mem} {b i : Nat} {k0 k : Blk} (h : look m b i = some k0) (b' i' : Nat) : look (upd m b i k) b' i' = if b' = b then (if i' = i then some k else look m b i') else none := by
  unfold look at h
  split at h
  · simp at h
  · rename_i e he
    unfold upd
    rw [he]
    simp only [look, ent_one]
    by_cases hb : b' = b
    · subst hb
      simp only [if_true, he]
      cases e with
      | one q =>
        simp only [Ent.at, Ent.set] at h ⊢
        by_cases h0 : i = 0
        · subst h0
          by_cases hi : i' = 0
          · subst hi; simp
          · simp [hi, beqF hi]
        · simp [beqF h0] at h
      | many f =>
        simp only [Ent.at, Ent.set]
        by_cases hi : i' = i
        · subst hi; simp [updF]
        · simp [updF, beqF hi, hi]
    · simp [hb]
theorem step_write {φ : Phi} {m : Mem} {nid : Nat} {w : World} (hm : RM φ m w) {b i o : Nat} {k : Blk} {s body' : Body} (hl : look m b i = some k) (hw : k.body.wr o s = some body') (hs : o + s.len ≤ k.len)
    (hown : k.own = true) {vs : List Value} (hvs : RBd φ s vs) {l : Loc} (hφ : φ b i = some l) :
    Step φ φ m (upd m b i { k with body := body' }) [b] nid w (w.setCells l.r (l.s + o) vs) := by
  obtain ⟨l1, hφ1, hB⟩ := hm.blk b i k hl
  rw [hφ] at hφ1
  injection hφ1 with hφ1
  subst hφ1
  have hlook : ∀ b' i', look (upd m b i { k with body := body' }) b' i' = if b' = b then (if i' = i then some { k with body := body' } else look m b i') else none := by
    intro b' i'
    rw [look_upd hl]
  have hlow : l.own = true := by rw [hB.own]; exact hown
  have hlen : body'.len = k.len := Body.wr_len hw hs
  have old : ∀ b' i' k', look (upd m b i { k with body := body' }) b' i' = some k' → ∃ k0, look m b' i' = some k0 := by
    intro b' i' k' h
    rw [hlook] at h
    by_cases hb : b' = b
    · subst hb
      by_cases hi : i' = i
      · subst hi; exact ⟨k, hl⟩
      · simp only [if_true, if_neg hi] at h; exact ⟨k', h⟩
    · simp [hb] at h
  have hsh : ∀ r, (w.setCells l.r (l.s + o) vs).shape? r = w.shape? r := shape_setCells _ _ _ _
  have hkeep : ∀ b' i' k' l', look m b' i' = some k' → φ b' i' = some l' → ¬ (b' = b ∧ i' = i) → RB φ l' k' w → RB φ l' k' (w.setCells l.r (l.s + o) vs) := by
    intro b' i' k' l' h1 h2 h4 H
    refine ⟨H.own, H.fits, H.exact, fun h => by rw [hsh]; exact H.there h, fun j hj => ?_, fun h j hj => by rw [World.frozen?_setCells]; exact H.free h j hj⟩
    have h3 : 0 < l'.sz := by have := H.fits; omega
    obtain ⟨v, hv, hr⟩ := H.cell j hj
    refine ⟨v, ?_, hr⟩
    by_cases hz : 0 < l.sz
    · rw [World.cell?_setCells_out _ _ _ _ _ (fun e => ?_)]
      · exact hv
      · exact absurd (hm.inj b i k l b' i' k' l' hl h1 hφ h2 hlow hz h3 e.symm) (fun q => h4 ⟨q.1.symm, q.2.symm⟩)
    · have hv0 : vs = [] := by
        have h1 := hB.fits
        have h2 := hvs.1
        cases vs with
        | nil => rfl
        | cons x y => simp at h2; omega
      subst hv0
      exact hv
  refine ⟨Phi.le_refl φ, fun _ _ _ h => .inl h, ?_, ?_, ?_, ?_⟩
  · by_cases hz : 0 < l.sz
    · exact keeps_setCells l.r ⟨b, i, k, l, by simp, hl, hφ, hlow, hz, rfl⟩ vs (l.s + o) w
    · have hv0 : vs = [] := by
        have h1 := hB.fits
        have h2 := hvs.1
        cases vs with
        | nil => rfl
        | cons x y => simp at h2; omega
      subst hv0
      exact Keeps.refl _ _
  · intro b' i' k' h
    rw [hlook] at h
    by_cases hb : b' = b
    · subst hb
      simp only [if_true] at h
      by_cases hi : i' = i
      · subst hi
        simp only [if_true] at h
        injection h with h
        subst h
        refine ⟨l, hφ, hB.own, by simpa [Blk.len, hlen] using hB.fits, fun he => by have := hB.exact he; simpa [Blk.len, hlen] using this, fun h => by rw [hsh]; exact hB.there h, fun j hj => ?_, fun h j hj => by rw [World.frozen?_setCells]; exact hB.free h j hj⟩
        have hj' : j < k.len := by simpa [Blk.len, hlen] using hj
        by_cases hin : o ≤ j ∧ j < o + s.len
        · have hjv : j - o < vs.length := by rw [hvs.1]; omega
          refine ⟨vs[j - o], ?_, ?_⟩
          · have := World.cell?_setCells_in l.r vs (l.s + o) w (fun q hq => by
              obtain ⟨v, hv, _⟩ := hB.cell (o + q) (by have := hvs.1; omega)
              rw [Nat.add_assoc, hv]; rfl) (j - o) hjv
            rw [← this]
            congr 2; omega
          · show RC φ (body'.get j) _
            rw [Body.wr_in hw hs j hin.1 hin.2]
            exact hvs.2 (j - o) _ (by simp [hjv])
        · obtain ⟨v, hv, hr⟩ := hB.cell j hj'
          refine ⟨v, ?_, ?_⟩
          · rw [World.cell?_setCells_out _ _ _ _ _ (fun _ _ => ?_)]
            · exact hv
            · show l.s + j < l.s + o ∨ l.s + o + vs.length ≤ l.s + j
              rw [hvs.1]; omega
          · show RC φ (body'.get j) _
            rw [Body.wr_out hw hs j hj' hin]
            exact hr
      · rw [if_neg hi] at h
        obtain ⟨l', hl', hB'⟩ := hm.blk _ _ _ h
        exact ⟨l', hl', hkeep _ _ _ _ h hl' (fun e => hi e.2) hB'⟩
    · simp [hb] at h
  · intro b' i' k' l' h hl' _
    obtain ⟨k0, hk0⟩ := old _ _ _ h
    exact .inr (.inr ⟨k0, hk0, hl'⟩)
  · intro b1 i1 k1 l1 b2 i2 k2 l2 h1 h2 hl1 hl2 ho hz1 hz2 e
    obtain ⟨q1, hq1⟩ := old _ _ _ h1
    obtain ⟨q2, hq2⟩ := old _ _ _ h2
    exact hm.inj _ _ _ _ _ _ _ _ hq1 hq2 hl1 hl2 ho hz1 hz2 e
end Go.Proofs.Ytohleiikedpmkaa.Vm

namespace Go.Proofs.Ytohleiikedpmkaa.Vm
open Go
def Res (P : Program) (o : Oper) (a : Act) (w : World) (φ : Phi) (m : Mem) (nid : Nat) (e : Eff) : Prop :=
  ∃ v w' φ', (∀ next Q, o.upon P a next Q ((execOp a.eval o).run P w) = next (a.put o.dst v) w') ∧ RV φ' e.v v ∧ Step φ φ' m e.up e.wr nid w w'
def EV (φ : Phi) (T : Nat → V) (a : Act) : Prop := ∀ x y, cOpd x = some y → RV φ (vv T y) (a.eval x)
variable {P : Program} {o : Oper} {a : Act} {w : World} {φ : Phi} {m : Mem} {nid : Nat} {e : Eff} {T : Nat → V}
theorem res_pure {v : Value} {x : V} {cs : List Prop} (he : pureE x cs = some e) (hrun : (execOp a.eval o).run P w = .ok (.value v) w) (hR : RV φ x v) : Res P o a w φ m nid e := by
  unfold pureE at he
  injection he with he
  subst he
  exact ⟨v, w, φ, fun next Q => by rw [hrun]; rfl, hR, step_pure⟩
theorem res_read {v : Value} {x : V} {b : Nat} {cs : List Prop} (he : readE x b cs = some e) (hrun : (execOp a.eval o).run P w = .ok (.value v) w) (hR : RV φ x v) : Res P o a w φ m nid e := by
  unfold readE at he
  injection he with he
  subst he
  exact ⟨v, w, φ, fun next Q => by rw [hrun]; rfl, hR, step_pure⟩
theorem pure_cs {x : V} {cs : List Prop} (he : pureE x cs = some e) : e.cs = cs := by
  unfold pureE at he; injection he with he; subst he; rfl
theorem read_cs {x : V} {b : Nat} {cs : List Prop} (he : readE x b cs = some e) : e.cs = cs := by
  unfold readE at he; injection he with he; subst he; rfl
theorem cV_rel {v : Value} {x : V} (h : cV v = some x) : RV φ x v := by
  unfold cV at h
  split at h <;> first | (injection h with h; subst h; simp [RV, RV1, RC]) | simp at h
theorem cC_rel {v : Value} {x : C} (h : cC v = some x) : RC φ x v := by
  unfold cC at h
  split at h <;> first | (injection h with h; subst h; simp [RC]) | simp at h
theorem mapO_all2 {α β : Type} {f : α → Option β} : ∀ {l : List α} {r : List β}, mapO f l = some r → All2 (fun y x => f x = some y) r l
  | [], r, h => by simp [mapO] at h; subst h; exact .nil
  | x :: l, r, h => by
    simp only [mapO] at h
    cases hf : f x with
    | none => simp [hf] at h
    | some y =>
      simp only [hf] at h
      cases hm : mapO f l with
      | none => simp [hm] at h
      | some q =>
        simp only [hm] at h
        injection h with h
        subst h
        exact .cons hf (mapO_all2 hm)
theorem RT.ev {t : Tm} (hg : ∀ g, ∃ l, φ 0 g = some l ∧ l.r = g ∧ l.s = 0) (h : RT φ t a) : EV φ (getT t) a := by
  intro x y hc
  cases x with
  | tmp n =>
    simp only [cOpd] at hc
    injection hc with hc
    subst hc
    simp only [vv, Act.eval]
    rcases h n with h | ⟨v, hv, hr⟩
    · rw [h]; simp [RV, RV1]
    · simpa [Array.getD_eq_getD_getElem?, hv] using hr
  | const v =>
    simp only [cOpd] at hc
    cases hv : cV v with
    | none => simp [hv] at hc
    | some x => simp only [hv] at hc; injection hc with hc; subst hc; exact cV_rel hv
  | func f =>
    simp only [cOpd] at hc
    injection hc with hc
    subst hc
    simp only [vv, Act.eval, RV, RV1, RC]
    exact ⟨#[], rfl, .nil⟩
  | global g =>
    simp only [cOpd] at hc
    injection hc with hc
    subst hc
    obtain ⟨l, h1, h2, h3⟩ := hg g
    simp only [vv, Act.eval, RV, RV1, RC]
    exact ⟨l, h1, by simp [h2, h3]⟩
theorem RV.int {k : IntKind} {n : Int} {v : Value} (h : RV φ (.c (.int k n)) v) : v = .int k n := by simpa [RV, RV1, RC] using h
theorem RV.bool {b : Bool} {v : Value} (h : RV φ (.c (.bool b)) v) : v = .bool b := by simpa [RV, RV1, RC] using h
theorem RV.str {s : ByteArray} {v : Value} (h : RV φ (.c (.str s)) v) : v = .string s := by simpa [RV, RV1, RC] using h
theorem RV.ptr {b i o : Nat} {v : Value} (h : RV φ (.c (.ptr b i o)) v) : ∃ l, φ b i = some l ∧ v = .pointer (some ⟨l.r, l.s + o, none⟩) := by simpa [RV, RV1, RC, RP] using h
theorem RV.nilp {v : Value} (h : RV φ (.c .nilp) v) : v = .pointer none := by simpa [RV, RV1, RC] using h
theorem RV.nils {v : Value} (h : RV φ (.c .nils) v) : v = .slice none 0 0 := by simpa [RV, RV1, RC] using h
theorem rv_c {x : C} {v : Value} (h : RC φ x v) : RV φ (.c x) v := by simpa [RV, RV1] using h
theorem rv_int {k : IntKind} {n : Int} : RV φ (.c (.int k n)) (.int k n) := rv_c rfl
theorem rv_bool {b : Bool} : RV φ (.c (.bool b)) (.bool b) := rv_c rfl
theorem run_move (x : Operand) (hop : o.op = .move x ∨ o.op = .assign x) : (execOp a.eval o).run P w = .ok (.value (a.eval x)) w := by
  rcases hop with h | h <;> simp [execOp, h]
theorem s_mv {x : Operand} {y : Opd} {h : H} (hop : o.op = .move x ∨ o.op = .assign x) (hx : cOpd x = some y) (hE : EV φ T a) (hv : vop (.mv y) T m nid h = some e) : Res P o a w φ m nid e :=
  res_pure hv (run_move x hop) (hE x y hx)
theorem s_pick {c x y : Operand} {c' x' y' : Opd} {h : H} (hop : o.op = .pick c x y) (hc : cOpd c = some c') (hx : cOpd x = some x') (hy : cOpd y = some y') (hE : EV φ T a) (hv : vop (.pick c' x' y') T m nid h = some e) : Res P o a w φ m nid e := by
  simp only [vop] at hv
  have h1 := hE c c' hc
  split at hv
  · rename_i t ht
    rw [ht] at h1
    have h2 := h1.bool
    refine res_pure hv (v := if t then a.eval x else a.eval y) ?_ ?_
    · simp [execOp, hop, h2, asBool]
    · cases t
      · exact hE y y' hy
      · exact hE x x' hx
  · simp at hv
theorem s_un {op : UnOp} {t : Nat} {x : Operand} {y : Opd} {h : H} (hop : o.op = .unOp op t x) (hx : cOpd x = some y) (hE : EV φ T a) (hv : vop (.un op y) T m nid h = some e) : Res P o a w φ m nid e := by
  simp only [vop] at hv
  have h1 := hE x y hx
  split at hv
  · rename_i k n ht
    rw [ht] at h1
    refine res_pure hv ?_ rv_int
    simp [execOp, hop, h1.int, Op.unary, Op.intArith]
  · rename_i k n ht
    rw [ht] at h1
    refine res_pure hv ?_ rv_int
    simp [execOp, hop, h1.int, Op.unary, Op.intBits]
  · rename_i b ht
    rw [ht] at h1
    refine res_pure hv ?_ rv_bool
    simp [execOp, hop, h1.bool, Op.unary]
  · simp at hv
theorem s_conv {s d : Nat} {x : Operand} {y : Opd} {k k' : IntKind} {h : H} (hop : o.op = .convert s d x) (hx : cOpd x = some y) (hs : P.underlying s = some (.int k')) (hd : P.underlying d = some (.int k)) (hE : EV φ T a) (hv : vop (.conv k y) T m nid h = some e) : Res P o a w φ m nid e := by
  simp only [vop] at hv
  have h1 := hE x y hx
  split at hv
  · rename_i k2 n ht
    rw [ht] at h1
    refine res_pure hv ?_ rv_int
    simp [execOp, hop, h1.int, convert, run_underlying hs, run_underlying hd, Conv.intToInt]
  · simp at hv
def c2v : C → Value
  | .int k n => .int k n
  | .bool b => .bool b
  | _ => undef
theorem binI_run {op : BinOp} {k : IntKind} {x y : Int} {c : C} (h : binI op k x y = some c) : (binOp op 0 (.int k x) (.int k y)).run P w = .ok (c2v c) w := by
  unfold binI at h
  split at h <;> first | (simp at h; done) | (injection h with h; subst h; simp [c2v, binOp, Op.intArith, Op.intBits, Op.intCmp])
theorem binOp_int_ty {op : BinOp} {k k' : IntKind} {x y : Int} (t t' : Nat) : binOp op t (.int k x) (.int k' y) = binOp op t' (.int k x) (.int k' y) := by
  cases op <;> rfl
theorem run_eqGuard_int {op : BinOp} {t : Nat} {x y : Operand} {k k' : IntKind} {n n' : Int} : (eqGuard op t x y (.int k n) (.int k' n')).run P w = .ok () w := by
  cases op <;> simp [eqGuard]
theorem run_eqGuard_str {op : BinOp} {t : Nat} {x y : Operand} {s s' : ByteArray} : (eqGuard op t x y (.string s) (.string s')).run P w = .ok () w := by
  cases op <;> simp [eqGuard]
theorem s_bin {op : BinOp} {t u : Nat} {x y : Operand} {x' y' : Opd} {h : H} (hop : o.op = .binOp op t x y u) (hx : cOpd x = some x') (hy : cOpd y = some y') (hE : EV φ T a) (hv : vop (.bin op x' y') T m nid h = some e) (hcs : ∀ q ∈ e.cs, q) : Res P o a w φ m nid e := by
  simp only [vop] at hv
  have h1 := hE x x' hx
  have h2 := hE y y' hy
  split at hv
  · rename_i c d hc hd
    rw [hc] at h1
    rw [hd] at h2
    unfold vbin at hv
    split at hv
    · rename_i k p k' q
      have e1 := h1.int
      have e2 := h2.int
      split at hv
      · split at hv
        · rename_i l hl
          have hq : 0 ≤ q := chk_ok hl (fun z hz => hcs z (by rw [pure_cs hv]; exact hz))
          refine res_pure hv ?_ rv_int
          simp [execOp, hop, e1, e2, run_eqGuard_int, binOp, Op.shift, Int.not_lt.2 hq]
        · simp at hv
      · split at hv
        · rename_i l hl
          have hq : 0 ≤ q := chk_ok hl (fun z hz => hcs z (by rw [pure_cs hv]; exact hz))
          refine res_pure hv ?_ rv_int
          simp [execOp, hop, e1, e2, run_eqGuard_int, binOp, Op.shift, Int.not_lt.2 hq]
          exact Int.fdiv_eq_ediv_of_nonneg _ (Int.pow_nonneg (by decide))
        · simp at hv
      · cases hk : sameK k k' with
        | false => simp [hk] at hv
        | true =>
          have := sameK_eq hk
          subst this
          simp only [hk, cond_true] at hv
          split at hv
          · rename_i l hl
            have hq : q ≠ 0 := chk_ok hl (fun z hz => hcs z (by rw [pure_cs hv]; exact hz))
            refine res_pure hv ?_ rv_int
            simp [execOp, hop, e1, e2, run_eqGuard_int, binOp, Op.intDiv, hq]
          · simp at hv
      · cases hk : sameK k k' with
        | false => simp [hk] at hv
        | true =>
          have := sameK_eq hk
          subst this
          simp only [hk, cond_true] at hv
          split at hv
          · rename_i l hl
            have hq : q ≠ 0 := chk_ok hl (fun z hz => hcs z (by rw [pure_cs hv]; exact hz))
            refine res_pure hv ?_ rv_int
            simp [execOp, hop, e1, e2, run_eqGuard_int, binOp, Op.intDiv, hq]
          · simp at hv
      · cases hk : sameK k k' with
        | false => simp [hk] at hv
        | true =>
          have := sameK_eq hk
          subst this
          simp only [hk, cond_true] at hv
          split at hv
          · rename_i c hc
            have hr := binI_run (P := P) (w := w) hc
            refine res_pure hv (v := c2v c) ?_ ?_
            · rw [binOp_int_ty 0 t] at hr
              simp [execOp, hop, e1, e2, run_eqGuard_int, hr]
            · unfold binI at hc
              split at hc <;> first | (simp at hc; done) | (injection hc with hc; subst hc; first | exact rv_int | exact rv_bool)
          · simp at hv
    · rename_i p q
      have e1 := h1.str
      have e2 := h2.str
      split at hv
      · split at hv
        · rename_i l hl
          have hq : ((p.size + q.size : Nat) : Int) ≤ IntKind.i64.max := chk_ok hl (fun z hz => hcs z (by rw [pure_cs hv]; exact hz))
          refine res_pure hv ?_ (rv_c rfl)
          have : ¬ (((p.size + q.size : Nat) : Int) > IntKind.i64.max) := by omega
          simp only [execOp, hop, e1, e2, Sem.run_bind, run_eqGuard_str, Result.andThen_ok, binOp, Op.stringOp, if_neg this, Sem.run_pure]
        · simp at hv
      · refine res_pure hv ?_ rv_bool
        simp [execOp, hop, e1, e2, run_eqGuard_str, binOp, Op.stringOp]
      · refine res_pure hv ?_ rv_bool
        simp [execOp, hop, e1, e2, run_eqGuard_str, binOp, Op.stringOp]
      · simp at hv
    · simp at hv
  · simp at hv
end Go.Proofs.Ytohleiikedpmkaa.Vm

namespace Go.Proofs.Ytohleiikedpmkaa.Vm
open Go
variable {P : Program} {o : Oper} {a : Act} {w : World} {φ : Phi} {m : Mem} {nid : Nat} {e : Eff} {T : Nat → V}
theorem mulE_eq (n es : Nat) : mulE n es = n * es := by
  unfold mulE
  by_cases h : es = 1
  · subst h; simp
  · simp [beqF h]
theorem addO_eq (o n : Nat) : addO o n = o + n := by
  unfold addO
  by_cases h : o = 0
  · subst h; simp
  · rw [beqF h]
    by_cases h' : n = 0
    · subst h'; simp
    · simp [beqF h']
theorem info_of_size {t s : Nat} (h : sizeT P t = some s) : ∃ i, P.info? t = some i ∧ i.size = s := by
  unfold sizeT at h
  split at h
  · rename_i i hi; injection h with h; exact ⟨i, hi, h⟩
  · simp at h
theorem run_sizeT {t s : Nat} (h : sizeT P t = some s) : (sizeOf t).run P w = .ok s w := by
  obtain ⟨i, hi, hs⟩ := info_of_size h
  simp [sizeOf, typeInfo, hi, hs]
theorem run_isAggD {t : Nat} {d : TypeDesc} (h : P.underlying t = some d) : (isAgg t).run P w = .ok (aggD d) w := by
  simp only [isAgg, Sem.run_bind, run_underlying h, Result.andThen_ok]
  cases d <;> simp [aggD]
theorem s_nilc {x : Operand} {y : Opd} {h : H} (hop : o.op = .nilCheck x) (hx : cOpd x = some y) (hE : EV φ T a) (hv : vop (.nilc y) T m nid h = some e) : Res P o a w φ m nid e := by
  simp only [vop] at hv
  have h1 := hE x y hx
  split at hv
  · rename_i b i q ht
    rw [ht] at h1
    obtain ⟨l, hl, hval⟩ := h1.ptr
    refine res_pure hv (v := a.eval x) ?_ (by rw [← ht]; exact hE x y hx)
    simp [execOp, hop, hval]
  · rename_i f cs ht
    rw [ht] at h1
    have h2 := h1
    simp only [RV, RV1, RC] at h2
    obtain ⟨vs, hval, _⟩ := h2
    refine res_pure hv (v := a.eval x) ?_ (by rw [← ht]; exact hE x y hx)
    simp [execOp, hop, hval]
  · simp at hv
theorem s_ext {x : Operand} {y : Opd} {i : Nat} {h : H} (hop : o.op = .extract x i) (hx : cOpd x = some y) (hE : EV φ T a) (hv : vop (.ext y i) T m nid h = some e) : Res P o a w φ m nid e := by
  simp only [vop] at hv
  have h1 := hE x y hx
  split at hv
  · rename_i l ht
    rw [ht] at h1
    simp only [RV] at h1
    obtain ⟨vs, hval, hall⟩ := h1
    split at hv
    · rename_i v hl
      obtain ⟨b, hb, hr⟩ := hall.get i v hl
      refine res_pure hv (v := b) ?_ ?_
      · simp only [Array.getElem?_toList] at hb
        simp [execOp, hop, hval, Instr.extract, hb]
      · cases v with
        | tup l => simp [RV1] at hr
        | _ => simpa [RV] using hr
    · simp at hv
  · simp at hv
theorem fieldPlace_run {ad : Addr} {f : Field} {s : Nat} (h : sizeT P f.type = some s) (h0 : s ≠ 0) : (fieldPlace ad f).run P w = .ok (ad.add f.offset) w := by
  simp [fieldPlace, run_sizeT h, h0]
theorem s_fa {t f : Nat} {x : Operand} {y : Opd} {fs : Array Field} {fd : Field} {s : Nat} {h : H} (hop : o.op = .fieldAddr t x f) (hx : cOpd x = some y) (ht : P.underlying t = some (.struct fs)) (hf : fs[f]? = some fd) (hs : sizeT P fd.type = some s) (h0 : s ≠ 0) (hE : EV φ T a) (hv : vop (.fa y fd.offset) T m nid h = some e) : Res P o a w φ m nid e := by
  simp only [vop] at hv
  have h1 := hE x y hx
  split at hv
  · rename_i b i q hy
    rw [hy] at h1
    obtain ⟨l, hl, hval⟩ := h1.ptr
    refine res_pure hv ?_ (rv_c ⟨l, hl, rfl⟩)
    simp only [execOp, hop, hval, Instr.fieldAt, Sem.run_bind, run_underlying ht, Result.andThen_ok, hf, Instr.sureAddr, Sem.run_pure, fieldPlace_run hs h0, add_at, addO_eq, Nat.add_assoc]
  · simp at hv
theorem intOf_rel {v : V} {x : Value} {k : IntKind} {n : Int} (h : intOf v = some (k, n)) (H : RV φ v x) : x = .int k n := by
  unfold intOf at h
  split at h
  · injection h with h; injection h with h1 h2; subst h1; subst h2; exact H.int
  · simp at h
theorem s_ia {t n el : Nat} {x ix : Operand} {y iy : Opd} {s : Nat} {h : H} (hop : o.op = .indexAddr t x ix) (hx : cOpd x = some y) (hi : cOpd ix = some iy) (ht : P.underlying t = some (.array n el)) (hs : sizeT P el = some s) (hE : EV φ T a) (hv : vop (.ia n s y iy) T m nid h = some e) (hcs : ∀ q ∈ e.cs, q) : Res P o a w φ m nid e := by
  simp only [vop] at hv
  have h1 := hE x y hx
  have h2 := hE ix iy hi
  split at hv
  · rename_i b i q k j hy hj
    rw [hy] at h1
    obtain ⟨l, hl, hval⟩ := h1.ptr
    have hv2 := intOf_rel hj h2
    split at hv
    · rename_i cs hc
      have hq : 0 ≤ j ∧ j < (n : Int) := chk_ok hc (fun z hz => hcs z (by rw [pure_cs hv]; exact hz))
      refine res_pure hv ?_ (rv_c ⟨l, hl, rfl⟩)
      simp only [execOp, hop, hval, hv2, Instr.indexAt, asIntOf, Sem.run_bind, Sem.run_pure, run_underlying ht, Result.andThen_ok, Instr.sureAddr]
      simp only [Sem.run_bind, Sem.run_pure, Result.andThen_ok, if_pos hq, run_sizeT hs, add_at, addO_eq, mulE_eq, Nat.add_assoc]
    · simp at hv
  · simp at hv
theorem s_is {t el : Nat} {x ix : Operand} {y iy : Opd} {s : Nat} {h : H} (hop : o.op = .indexAddr t x ix) (hx : cOpd x = some y) (hi : cOpd ix = some iy) (ht : P.underlying t = some (.slice el)) (hs : sizeT P el = some s) (hE : EV φ T a) (hv : vop (.is s y iy) T m nid h = some e) (hcs : ∀ q ∈ e.cs, q) : Res P o a w φ m nid e := by
  simp only [vop] at hv
  have h1 := hE x y hx
  have h2 := hE ix iy hi
  split at hv
  · rename_i b i q n es k j hy hj
    rw [hy] at h1
    simp only [RV, RV1, RC] at h1
    obtain ⟨ad, cap, hval, hnc, hcap⟩ := h1
    have hv2 := intOf_rel hj h2
    split at hv
    · rename_i cs hc
      have hq : 0 ≤ j ∧ j < (n : Int) := chk_ok hc (fun z hz => hcs z (by rw [pure_cs hv]; exact hz))
      have hc0 : cap ≠ 0 := by omega
      rcases hcap with hcap | ⟨l, hl, had, _⟩
      · exact absurd hcap hc0
      subst had
      refine res_pure hv ?_ (rv_c ⟨l, hl, rfl⟩)
      simp only [execOp, hop, hval, hv2, Instr.indexAt, asIntOf, Sem.run_bind, Sem.run_pure, run_underlying ht, Result.andThen_ok]
      simp only [Sem.run_bind, Sem.run_pure, Result.andThen_ok, if_pos hq, run_sizeT hs, add_at, addO_eq, mulE_eq, Nat.add_assoc]
    · simp at hv
  · simp at hv
theorem RBd.at {b : Body} {vs : List Value} (H : RBd φ b vs) {j : Nat} (hj : j < b.len) : ∃ v, vs[j]? = some v ∧ RC φ (b.get j) v := by
  have : j < vs.length := by rw [H.1]; exact hj
  exact ⟨vs[j], by simp [this], H.2 j _ (by simp [this])⟩
theorem part_agg {t s off : Nat} {d : TypeDesc} {cs : Array Value} (ht : P.underlying t = some d) (ha : aggD d = true) (hs : sizeT P t = some s) : (part t cs off).run P w = .ok (.agg (cs.extract off (off + s))) w := by
  simp [part, run_isAggD ht, ha, run_sizeT hs]
theorem part_one {t off : Nat} {d : TypeDesc} {cs : Array Value} {v : Value} (ht : P.underlying t = some d) (ha : aggD d = false) (hv : cs[off]? = some v) : (part t cs off).run P w = .ok v w := by
  simp [part, run_isAggD ht, ha, hv]
theorem extract_toList (cs : Array Value) (o n : Nat) : (cs.extract o (o + n)).toList = (cs.toList.drop o).take n := by
  rw [Array.toList_extract, List.extract_eq_take_drop]
  congr 1; omega
theorem extract_arr (cs : Array Value) (o n : Nat) : cs.extract o (o + n) = ((cs.toList.drop o).take n).toArray := by
  rw [← extract_toList]
theorem agg_of_body {v : V} {x : Value} {b : Body} (H : RV φ v x) (h : v.abody = some b) : ∃ arr, x = .agg arr ∧ RBd φ b arr.toList := by
  cases v with
  | agg l =>
    have hb := H.body (b := b) h
    simp only [RV, RV1] at H; obtain ⟨arr, rfl, _⟩ := H; exact ⟨arr, rfl, hb⟩
  | aggi k l =>
    have hb := H.body (b := b) h
    simp only [RV, RV1] at H; subst H; exact ⟨_, rfl, hb⟩
  | c y => simp [V.abody] at h
  | tup l => simp [V.abody] at h
  | unk => simp [V.abody] at h
theorem s_ix {t n el s : Nat} {d : TypeDesc} {x ix : Operand} {y iy : Opd} {h : H} (hop : o.op = .index t x ix) (hx : cOpd x = some y) (hi : cOpd ix = some iy) (ht : P.underlying t = some (.array n el)) (hs : sizeT P el = some s) (hd : P.underlying el = some d) (hE : EV φ T a) (hv : vop (.ix n s (aggD d) y iy) T m nid h = some e) (hcs : ∀ q ∈ e.cs, q) : Res P o a w φ m nid e := by
  simp only [vop] at hv
  have h1 := hE x y hx
  have h2 := hE ix iy hi
  split at hv
  · rename_i b k j hy hj
    obtain ⟨arr, hval, hb⟩ := agg_of_body h1 hy
    have hv2 := intOf_rel hj h2
    split at hv
    · rename_i cs hc
      have hrun : ∀ q, (part el arr (j.toNat * s)).run P w = .ok q w → (0 ≤ j ∧ j < (n : Int)) → (execOp a.eval o).run P w = .ok (.value q) w := by
        intro q hq hj
        simp only [execOp, hop, hval, hv2, Instr.index, asIntOf, Sem.run_bind, Sem.run_pure, run_underlying ht, Result.andThen_ok]
        simp only [Sem.run_bind, Result.andThen_ok, if_pos hj, run_sizeT hs, hq]
      cases hag : aggD d with
      | true =>
        simp only [hag, cond_true] at hv
        have hq : 0 ≤ j ∧ j < (n : Int) ∧ n * s = b.len := chk_ok hc (fun z hz => hcs z (by rw [pure_cs hv]; exact hz))
        have hle : j.toNat * s + s ≤ b.len := by
          rw [← hq.2.2, ← Nat.succ_mul]; exact Nat.mul_le_mul_right _ (by omega)
        refine res_pure hv (hrun _ (part_agg hd hag hs) ⟨hq.1, hq.2.1⟩) ?_
        rw [mulE_eq, extract_arr]
        exact (hb.seg hle).agg
      | false =>
        simp only [hag, cond_false] at hv
        by_cases hs1 : s = 1
        · subst hs1
          simp only [Nat.beq_refl, cond_true] at hv
          have hq : 0 ≤ j ∧ j < (n : Int) ∧ n * 1 = b.len := chk_ok hc (fun z hz => hcs z (by rw [pure_cs hv]; exact hz))
          obtain ⟨v, hv1, hv2⟩ := hb.at (j := j.toNat) (by omega)
          refine res_pure hv (hrun v (part_one hd hag ?_) ⟨hq.1, hq.2.1⟩) (rv_c hv2)
          simpa using hv1
        · simp [beqF hs1] at hv
    · simp at hv
  · simp at hv
theorem s_fld {t f s : Nat} {d : TypeDesc} {fs : Array Field} {fd : Field} {x : Operand} {y : Opd} {h : H} (hop : o.op = .field t x f) (hx : cOpd x = some y) (ht : P.underlying t = some (.struct fs)) (hf : fs[f]? = some fd) (hs : sizeT P fd.type = some s) (hd : P.underlying fd.type = some d) (hE : EV φ T a) (hv : vop (.fld fd.offset s (aggD d) y) T m nid h = some e) : Res P o a w φ m nid e := by
  simp only [vop] at hv
  have h1 := hE x y hx
  split at hv
  · rename_i b hy
    obtain ⟨arr, hval, hb⟩ := agg_of_body h1 hy
    cases hle : Nat.ble (fd.offset + s) b.len with
    | false => simp [hle] at hv
    | true =>
      have hle' := Nat.le_of_ble_eq_true hle
      simp only [hle, cond_true] at hv
      have hrun : ∀ q, (part fd.type arr fd.offset).run P w = .ok q w → (execOp a.eval o).run P w = .ok (.value q) w := by
        intro q hq
        simp only [execOp, hop, hval, Instr.field, asAgg, Sem.run_bind, Sem.run_pure, run_underlying ht, Result.andThen_ok, hf, hq]
      cases hag : aggD d with
      | true =>
        simp only [hag, cond_true] at hv
        refine res_pure hv (hrun _ (part_agg hd hag hs)) ?_
        rw [extract_arr]
        exact (hb.seg hle').agg
      | false =>
        simp only [hag, cond_false] at hv
        by_cases hs1 : s = 1
        · subst hs1
          simp only [Nat.beq_refl, cond_true] at hv
          obtain ⟨v, hv1, hv2⟩ := hb.at (j := fd.offset) (by omega)
          refine res_pure hv (hrun v (part_one hd hag (by simpa using hv1))) (rv_c hv2)
        · simp [beqF hs1] at hv
  · simp at hv
theorem s_ixS {t : Nat} {x ix : Operand} {y iy : Opd} {h : H} (hop : o.op = .index t x ix) (hx : cOpd x = some y) (hi : cOpd ix = some iy) (ht : P.underlying t = some .string) (hE : EV φ T a) (hv : vop (.ixS y iy) T m nid h = some e) (hcs : ∀ q ∈ e.cs, q) : Res P o a w φ m nid e := by
  simp only [vop] at hv
  have h1 := hE x y hx
  have h2 := hE ix iy hi
  split at hv
  · rename_i s k j hy hj
    rw [hy] at h1
    have hval := h1.str
    have hv2 := intOf_rel hj h2
    split at hv
    · rename_i cs hc
      have hq : 0 ≤ j ∧ j < (s.size : Int) := chk_ok hc (fun z hz => hcs z (by rw [pure_cs hv]; exact hz))
      have hlt : j.toNat < s.size := by omega
      have hg : s[j.toNat]? = some s[j.toNat] := by simp [hlt]
      refine res_pure hv (v := .int .u8 (s[j.toNat].toNat : Int)) ?_ ?_
      · simp only [execOp, hop, hval, hv2, Instr.index, asIntOf, Sem.run_bind, Sem.run_pure, run_underlying ht, Result.andThen_ok, if_pos hq.1, hg]
      · have : s.data.toList.getD j.toNat 0 = s[j.toNat] := by
          have hd : j.toNat < s.data.toList.length := by simpa using hlt
          rw [List.getD_eq_getElem?_getD, List.getElem?_eq_getElem hd]
          simp [ByteArray.getElem_eq_getElem_data]
        rw [this]
        exact rv_int
    · simp at hv
  · simp at hv
end Go.Proofs.Ytohleiikedpmkaa.Vm

namespace Go.Proofs.Ytohleiikedpmkaa.Vm
open Go
variable {P : Program} {o : Oper} {a : Act} {w : World} {φ : Phi} {m : Mem} {nid : Nat} {e : Eff} {T : Nat → V}
def EVO (φ : Phi) (T : Nat → V) (a : Act) (x : Option Operand) (y : Option Opd) : Prop :=
  match x, y with
  | none, none => True
  | some x, some y => RV φ (vv T y) (a.eval x)
  | _, _ => False
theorem EV.opt (hE : EV φ T a) {x : Option Operand} {y : Option Opd} (h : cOpdO x = some y) : EVO φ T a x y := by
  cases x with
  | none => simp [cOpdO] at h; subst h; trivial
  | some x =>
    simp only [cOpdO] at h
    cases hx : cOpd x with
    | none => simp [hx] at h
    | some z => simp only [hx] at h; injection h with h; subst h; exact hE x z hx
theorem bounds_run {isS : Bool} {len cap : Nat} {lo hi : Option Operand} {lo' hi' : Option Opd} {l u : Int} (h1 : EVO φ T a lo lo') (h2 : EVO φ T a hi hi')
    (hb : seqOf len (vvO T lo') (vvO T hi') = some (l, u)) (h0 : 0 ≤ l) (hlu : l ≤ u) (hu : u ≤ len) (hc : len ≤ cap) :
    (Instr.sliceBounds isS len cap (lo.map a.eval) (hi.map a.eval) none).run P w = .ok (l.toNat, u.toNat, cap) w := by
  unfold seqOf at hb
  have bl : ∀ {x : Option Operand} {y : Option Opd} {d r : Int}, EVO φ T a x y → bnd (vvO T y) d = some r → (x = none ∧ r = d) ∨ ∃ z k, x = some z ∧ a.eval z = .int k r := by
    intro x y d r hE hb
    cases x with
    | none =>
      cases y with
      | none => simp [vvO, bnd] at hb; exact .inl ⟨rfl, hb.symm⟩
      | some y => simp [EVO] at hE
    | some x =>
      cases y with
      | none => simp [EVO] at hE
      | some y =>
        simp only [EVO] at hE
        simp only [vvO, bnd] at hb
        split at hb
        · rename_i heq
          simp at heq
        · rename_i heq
          injection heq with heq
          injection hb with hb
          subst hb
          rw [heq] at hE
          exact .inr ⟨x, _, rfl, hE.int⟩
        · simp at hb
  cases hbl : bnd (vvO T lo') 0 with
  | none => simp [hbl] at hb
  | some l' =>
    cases hbu : bnd (vvO T hi') len with
    | none => simp [hbl, hbu] at hb
    | some u' =>
      simp only [hbl, hbu] at hb
      injection hb with hb
      injection hb with e1 e2
      subst e1
      subst e2
      have c1 : 0 ≤ u' ∧ u' ≤ (cap : Int) := ⟨by omega, by omega⟩
      have c2 : 0 ≤ l' ∧ l' ≤ ((u'.toNat : Nat) : Int) := ⟨h0, by omega⟩
      have c3 : ∀ z : Nat, z = u'.toNat → 0 ≤ l' ∧ l' ≤ (z : Int) := fun z hz => by subst hz; exact c2
      rcases bl h1 hbl with ⟨rfl, e⟩ | ⟨z, k, rfl, hz⟩ <;> rcases bl h2 hbu with ⟨rfl, e'⟩ | ⟨z', k', rfl, hz'⟩
      · subst e; subst e'
        simp [Instr.sliceBounds]
      · subst e
        simp only [Option.map_none, Option.map_some, hz', Instr.sliceBounds, Instr.sliceBound, asIntOf, Sem.run_bind, Sem.run_pure, Result.andThen_ok, if_pos c1]
        rfl
      · subst e'
        simp only [Option.map_none, Option.map_some, hz, Instr.sliceBounds, Instr.sliceBound, asIntOf, Sem.run_bind, Sem.run_pure, Result.andThen_ok, if_pos (c3 len (by omega))]
        simp
      · simp only [Option.map_some, hz, hz', Instr.sliceBounds, Instr.sliceBound, asIntOf, Sem.run_bind, Sem.run_pure, Result.andThen_ok, if_pos c1, if_pos c2]
theorem addr_add (r o n : Nat) : (⟨r, o, none⟩ : Addr).add n = ⟨r, o + n, none⟩ := add_at r o n
theorem s_slA {t n el s : Nat} {x : Operand} {y : Opd} {lo hi : Option Operand} {lo' hi' : Option Opd} {h : H} (hop : o.op = .slice t x lo hi none) (hx : cOpd x = some y) (hlo : cOpdO lo = some lo') (hhi : cOpdO hi = some hi')
    (ht : P.underlying t = some (.array n el)) (hs : sizeT P el = some s) (hE : EV φ T a) (hm : RM φ m w) (hv : vop (.slA n s y lo' hi') T m nid h = some e) (hcs : ∀ q ∈ e.cs, q) : Res P o a w φ m nid e := by
  simp only [vop] at hv
  have h1 := hE x y hx
  split at hv
  · rename_i b i q l u hy hb
    rw [hy] at h1
    obtain ⟨lc, hl, hval⟩ := h1.ptr
    split at hv
    · rename_i k hk
      split at hv
      · rename_i cs hc
        have hq : 0 ≤ l ∧ l ≤ u ∧ u ≤ (n : Int) ∧ q + n * s ≤ k.len := chk_ok hc (fun z hz => hcs z (by rw [read_cs hv]; exact hz))
        obtain ⟨q1, q2, q3, q4⟩ := hq
        have hr := bounds_run (P := P) (w := w) (isS := false) (cap := n) (hE.opt hlo) (hE.opt hhi) hb q1 q2 q3 (Nat.le_refl _)
        obtain ⟨lc', hl', hB⟩ := hm.blk _ _ _ hk
        rw [hl] at hl'
        injection hl' with hl'
        subst hl'
        refine res_read hv (v := .slice (some (if n = l.toNat then ⟨lc.r, lc.s + q, none⟩ else ⟨lc.r, lc.s + q + l.toNat * s, none⟩)) (u.toNat - l.toNat) (n - l.toNat)) ?_ ?_
        · simp only [execOp, hop, hval, Instr.sliceAt, Sem.run_bind, run_underlying ht, Result.andThen_ok, Instr.sureAddr, Sem.run_pure, Option.map_none, hr, run_sizeT hs, addr_add]
        · refine rv_c ⟨_, _, by rw [show (u - l).toNat = u.toNat - l.toNat by omega], by omega, ?_⟩
          by_cases hnl : n = l.toNat
          · exact .inl (by omega)
          · refine .inr ⟨lc, hl, by rw [if_neg hnl, addO_eq, mulE_eq, Nat.add_assoc], fun _ => ?_⟩
            rw [addO_eq, mulE_eq]
            have hf := hB.fits
            have : l.toNat * s + (n - l.toNat) * s = n * s := by rw [← Nat.add_mul]; congr 1; omega
            omega
      · simp at hv
    · simp at hv
  · simp at hv
theorem s_sl {t el s : Nat} {x : Operand} {y : Opd} {lo hi : Option Operand} {lo' hi' : Option Opd} {h : H} (hop : o.op = .slice t x lo hi none) (hx : cOpd x = some y) (hlo : cOpdO lo = some lo') (hhi : cOpdO hi = some hi')
    (ht : P.underlying t = some (.slice el)) (hs : sizeT P el = some s) (hE : EV φ T a) (hv : vop (.sl s y lo' hi') T m nid h = some e) (hcs : ∀ q ∈ e.cs, q) : Res P o a w φ m nid e := by
  simp only [vop] at hv
  have h1 := hE x y hx
  split at hv
  · rename_i b i q n es hy
    cases hes : Nat.beq es s with
    | false => simp [hes] at hv
    | true =>
    have hes' := Nat.eq_of_beq_eq_true hes
    subst hes'
    simp only [Nat.beq_refl, cond_true] at hv
    split at hv
    · rename_i l u hb
      rw [hy] at h1
      simp only [RV, RV1, RC] at h1
      obtain ⟨ad, cap, hval, hnc, hcap⟩ := h1
      split at hv
      · rename_i cs hc
        have hq : 0 ≤ l ∧ l ≤ u ∧ u ≤ (n : Int) := chk_ok hc (fun z hz => hcs z (by rw [pure_cs hv]; exact hz))
        obtain ⟨q1, q2, q3⟩ := hq
        have hr := bounds_run (P := P) (w := w) (isS := true) (cap := cap) (hE.opt hlo) (hE.opt hhi) hb q1 q2 q3 hnc
        refine res_pure hv (v := .slice (if cap = l.toNat then ad else ad.map (·.add (l.toNat * es))) (u.toNat - l.toNat) (cap - l.toNat)) ?_ ?_
        · simp only [execOp, hop, hval, Instr.sliceAt, Sem.run_bind, run_underlying ht, Result.andThen_ok, Instr.slice, Sem.run_pure, Option.map_none, hr, run_sizeT hs]
        · refine rv_c ⟨_, _, by rw [show (u - l).toNat = u.toNat - l.toNat by omega], by omega, ?_⟩
          by_cases hnl : cap = l.toNat
          · exact .inl (by omega)
          · rcases hcap with hcap | ⟨lc, hl, had, hown⟩
            · exact absurd (by omega : cap = l.toNat) hnl
            · subst had
              refine .inr ⟨lc, hl, by rw [if_neg hnl]; simp only [Option.map_some, addr_add, addO_eq, mulE_eq, Nat.add_assoc], fun ho => ?_⟩
              have := hown ho
              rw [addO_eq, mulE_eq]
              have : l.toNat * es + (cap - l.toNat) * es = cap * es := by rw [← Nat.add_mul]; congr 1; omega
              omega
      · simp at hv
    · simp at hv
  · simp at hv
theorem s_slS {t : Nat} {x : Operand} {y : Opd} {lo hi : Option Operand} {lo' hi' : Option Opd} {h : H} (hop : o.op = .slice t x lo hi none) (hx : cOpd x = some y) (hlo : cOpdO lo = some lo') (hhi : cOpdO hi = some hi')
    (ht : P.underlying t = some .string) (hE : EV φ T a) (hv : vop (.slS y lo' hi') T m nid h = some e) (hcs : ∀ q ∈ e.cs, q) : Res P o a w φ m nid e := by
  simp only [vop] at hv
  have h1 := hE x y hx
  split at hv
  · rename_i s hy
    split at hv
    · rename_i l u hb
      rw [hy] at h1
      have hval := h1.str
      split at hv
      · rename_i cs hc
        have hq : 0 ≤ l ∧ l ≤ u ∧ u ≤ (s.size : Int) := chk_ok hc (fun z hz => hcs z (by rw [pure_cs hv]; exact hz))
        obtain ⟨q1, q2, q3⟩ := hq
        have hr := bounds_run (P := P) (w := w) (isS := false) (cap := s.size) (hE.opt hlo) (hE.opt hhi) hb q1 q2 q3 (Nat.le_refl _)
        refine res_pure hv ?_ (rv_c rfl)
        simp only [execOp, hop, hval, Instr.sliceAt, Sem.run_bind, run_underlying ht, Result.andThen_ok, Instr.slice, Option.map_none, Option.isSome_none, Bool.false_eq_true, if_false, hr, Sem.run_pure]
      · simp at hv
    · simp at hv
  · simp at hv
theorem s_mkfn {f : Nat} {ca : Array Operand} {cl : List Opd} {fi : Array Operand} {h : H} (hop : o.op = .makeFunc (.func f) fi ca) (hfi : fi.toList = []) (hc : mapO cOpd ca.toList = some cl) (hE : EV φ T a) (hv : vop (.mkfn f cl) T m nid h = some e) : Res P o a w φ m nid e := by
  simp only [vop] at hv
  split at hv
  · rename_i l hl
    have hfi' : fi = #[] := by simpa using congrArg List.toArray hfi
    refine res_pure hv (v := .func (.func f) #[] (ca.map a.eval)) ?_ ?_
    · simp [execOp, hop, Instr.makeFunc, hfi']
    · refine rv_c ⟨_, rfl, ?_⟩
      have h1 := mapO_all2 hc
      have h2 := mapO_all2 hl
      clear hl hc hv hop
      simp only [Array.toList_map]
      generalize ca.toList = q at h1
      clear ca
      induction h2 generalizing q with
      | nil => cases h1; exact .nil
      | cons hd _ ih =>
        cases h1 with
        | cons h0 ht =>
          refine .cons ?_ (ih _ ht)
          have := hE _ _ h0
          split at hd
          · rename_i heq
            injection hd with hd
            subst hd
            rw [heq] at this
            exact this.ptr
          · simp at hd
  · simp at hv
end Go.Proofs.Ytohleiikedpmkaa.Vm

namespace Go.Proofs.Ytohleiikedpmkaa.Vm
open Go
variable {P : Program} {o : Oper} {a : Act} {w : World} {φ : Phi} {m : Mem} {nid : Nat} {e : Eff} {T : Nat → V}
theorem zeroC_rel {t : Nat} {z : List C} (h : zeroC P t = some z) : ∃ v : Value, (∀ w, (zeroValue t).run P w = .ok v w) ∧ All2 (RC φ) z v.cells.toList := by
  unfold zeroC at h
  split at h
  · rename_i i hi
    split at h
    · rename_i v hv
      refine ⟨v, fun w => by simp [zeroValue, typeInfo, hi, hv], ?_⟩
      exact (mapO_all2 h).imp fun _ _ => cC_rel
    · simp at h
  · simp at h
theorem res_alloc (hf : φ nid 0 = none) {v : V} {k : Blk} {cs : List Prop} (he : (some ⟨v, [(nid, .one k)], [], [], [], cs⟩ : Option Eff) = some e) (arr : Array Value) (T : TypeId) (fr : Nat × Nat) {w' : World} {x : Value}
    (hrun : (execOp a.eval o).run P w = .ok (.value x) w')
    (hh : w'.heap = w.heap.push (.cells arr T fr)) (ho : w'.os = w.os) (ht : w'.tape = w.tape) (hu : w'.output = w.output)
    (hfr : ∀ j, j < arr.size → ¬ (fr.1 ≤ j ∧ j < fr.2)) (hk : k.own = true) (n : Nat) (hn : n = k.len) (hsz : n ≤ arr.size) (hex : k.ex = true → arr.size = n)
    (hb : RBd φ k.body (arr.toList.take n)) (hv : ∀ φ', φ' nid 0 = some ⟨w.heap.size, 0, arr.size, true⟩ → RV φ' v x) : Res P o a w φ m nid e := by
  injection he with he
  subst he
  refine ⟨x, w', _, fun next Q => by rw [hrun]; rfl, hv _ ?_, step_alloc hf arr T fr hh ho ht hu hfr k hk n hn hsz hex hb⟩
  simp [Phi.put]
theorem zBody_rows (z : List C) : zBody z = .cells z ∨ ∃ k q, zBody z = .ints k q ∧ z = q.map (.int k) := by
  cases z with
  | nil => exact .inl rfl
  | cons c r =>
    cases c <;> try exact .inl rfl
    rename_i k n
    unfold zBody
    cases h : allInts k r with
    | none => exact .inl (by simp only [h])
    | some q => exact .inr ⟨k, n :: q, by simp only [h], by rw [allInts_eq h]; rfl⟩
theorem zBody_len (z : List C) : (⟨true, true, zBody z⟩ : Blk).len = z.length := by
  rcases zBody_rows z with h | ⟨k, q, h, hz⟩ <;> simp only [Blk.len, h, Body.len]
  subst hz; simp
theorem zBody_rbd {z : List C} {vs : List Value} (H : RBd φ (.cells z) vs) : RBd φ (zBody z) vs := by
  rcases zBody_rows z with h | ⟨k, q, h, hz⟩ <;> rw [h]
  · exact H
  · subst hz
    refine ⟨by rw [H.1]; simp [Body.len], fun j v hj => ?_⟩
    have := H.2 j v hj
    have hl : j < q.length := by
      have h1 := H.1
      simp only [Body.len, List.length_map] at h1
      have := (List.getElem?_eq_some_iff.mp hj).1
      omega
    simpa [Body.get, List.getD_eq_getElem?_getD, hl] using this
theorem s_zero {t : Nat} {z : List C} {h : H} (hop : o.op = .alloc t) (hz : zeroC P t = some z) (hf : φ nid 0 = none) (hv : vop (.zero z) T m nid h = some e) : Res P o a w φ m nid e := by
  simp only [vop] at hv
  obtain ⟨v, hr, hall⟩ := zeroC_rel (φ := φ) hz
  have hl := hall.length
  have hlk : v.cells.size = z.length := by simpa using hl.symm
  refine res_alloc hf hv v.cells t (0, 0) (w' := w.alloc (.cells v.cells t)) (x := .pointer (some ⟨w.heap.size, 0, none⟩)) ?_ rfl rfl rfl rfl (fun _ _ => by simp) rfl z.length (zBody_len z).symm (by omega) (fun _ => hlk) ?_ ?_
  · simp [execOp, hop, Instr.alloc, hr, newVar, newRow]
  · have := RBd.of_cells hall
    rw [List.take_of_length_le (by simp; omega)]
    exact zBody_rbd this
  · intro φ' h'
    exact rv_c ⟨_, h', by simp⟩
theorem s_box {t : Nat} {x : Operand} {y : Opd} {h : H} (hop : o.op = .box t x) (hx : cOpd x = some y) (hf : φ nid 0 = none) (hE : EV φ T a) (hv : vop (.box y) T m nid h = some e) : Res P o a w φ m nid e := by
  simp only [vop] at hv
  have h1 := hE x y hx
  split at hv
  · rename_i b hb
    have hB := h1.body hb
    have hlk : (a.eval x).cells.size = b.len := by simpa using hB.1
    refine res_alloc hf hv (a.eval x).cells t (0, 0) (w' := w.alloc (.cells (a.eval x).cells t)) (x := .pointer (some ⟨w.heap.size, 0, none⟩)) ?_ rfl rfl rfl rfl (fun _ _ => by simp) rfl b.len rfl (by omega) (fun _ => hlk) ?_ ?_
    · simp [execOp, hop, Instr.box, newVar, newRow]
    · rwa [List.take_of_length_le (by simp; omega)]
    · intro φ' h'
      exact rv_c ⟨_, h', by simp⟩
  · simp at hv
theorem s_load {t s : Nat} {d : TypeDesc} {x : Operand} {y : Opd} {h : H} (hop : o.op = .load t x) (hx : cOpd x = some y) (ht : P.underlying t = some d) (hs : sizeT P t = some s) (hE : EV φ T a) (hm : RM φ m w) (hv : vop (.load (aggD d) s y) T m nid h = some e) (hcs : ∀ q ∈ e.cs, q) : Res P o a w φ m nid e := by
  simp only [vop] at hv
  have h1 := hE x y hx
  split at hv
  · rename_i b i q hy
    rw [hy] at h1
    obtain ⟨l, hl, hval⟩ := h1.ptr
    split at hv
    · rename_i k hk
      obtain ⟨l', hl', hB⟩ := hm.blk _ _ _ hk
      rw [hl] at hl'
      injection hl' with hl'
      subst hl'
      split at hv
      · rename_i cs hc
        cases hag : aggD d with
        | true =>
          simp only [hag, cond_true] at hv
          have hq : q + s ≤ k.len := chk_ok hc (fun z hz => hcs z (by rw [read_cs hv]; exact hz))
          obtain ⟨vs, hr, hrb⟩ := hB.load P hq
          refine res_read hv (v := .agg vs.toArray) ?_ hrb.agg
          simp [execOp, hop, hval, Instr.loadAt, Instr.sureAddr, loadVar, run_isAggD ht, hag, run_sizeT hs, hr w rfl]
        | false =>
          simp only [hag, cond_false] at hv
          by_cases hs1 : s = 1
          · subst hs1
            simp only [Nat.beq_refl, cond_true] at hv
            have hq : q + 1 ≤ k.len := chk_ok hc (fun z hz => hcs z (by rw [read_cs hv]; exact hz))
            obtain ⟨v, hcv, hrc⟩ := hB.cell q (by omega)
            refine res_read hv (v := v) ?_ (rv_c hrc)
            simp [execOp, hop, hval, Instr.loadAt, Instr.sureAddr, loadVar, run_isAggD ht, hag, hcv]
          · simp [beqF hs1] at hv
      · simp at hv
    · simp at hv
  · simp at hv
theorem storeCells_run {l : Loc} {k : Blk} (hB : RB φ l k w) (hown : k.own = true) {q : Nat} {vs : List Value} (hle : q + vs.length ≤ k.len) (h1 : ∀ v ∈ vs, v.oneCell' = true) :
    (storeCells ⟨l.r, l.s + q, none⟩ vs).run P w = .ok () (w.setCells l.r (l.s + q) vs) := by
  have := run_storeCells_cells (P := P) l.r (l.s + q) vs 0 w (fun j hj => by
    obtain ⟨v, hv, _⟩ := hB.cell (q + j) (by omega)
    rw [Nat.add_zero, Nat.add_assoc, hv]; rfl) (fun j hj => hB.free (by rw [hB.own]; exact hown) _ (by have := hB.fits; omega)) h1
  simpa using this
theorem s_store {t s : Nat} {x z : Operand} {y z' : Opd} {h : H} (hop : o.op = .store t x z) (hx : cOpd x = some y) (hz : cOpd z = some z') (hs : sizeT P t = some s) (hE : EV φ T a) (hm : RM φ m w) (hv : vop (.store s y z') T m nid h = some e) (hcs : ∀ q ∈ e.cs, q) : Res P o a w φ m nid e := by
  simp only [vop] at hv
  have h1 := hE x y hx
  have h2 := hE z z' hz
  split at hv
  · rename_i b i q sb hy hzb
    rw [hy] at h1
    obtain ⟨l, hl, hval⟩ := h1.ptr
    have hbd := h2.body hzb
    split at hv
    · rename_i k hk
      obtain ⟨l', hl', hB⟩ := hm.blk _ _ _ hk
      rw [hl] at hl'
      injection hl' with hl'
      subst hl'
      split at hv
      · rename_i cs r hc hw
        cases hown : k.own with
        | false => simp [hown] at hv
        | true =>
          simp only [hown, cond_true] at hv
          injection hv with hv
          subst hv
          have hq : q + s ≤ k.len ∧ sb.len = s := chk_ok hc (fun z hz => hcs z hz)
          have hst := storeCells_run (P := P) hB hown (q := q) (vs := (a.eval z).cells.toList) (by rw [hbd.1]; omega) hbd.one
          refine ⟨undef, w.setCells l.r (l.s + q) (a.eval z).cells.toList, φ, fun next Q => ?_, by simp [RV, RV1], by have hS := step_write (nid := nid) hm hk hw (by omega) hown hbd hl; simp only [hown] at hS; exact hS⟩
          have hsz : (a.eval z).cells.size = s := by have := hbd.1; simp at this; omega
          have : (execOp a.eval o).run P w = .ok .skip (w.setCells l.r (l.s + q) (a.eval z).cells.toList) := by
            simp [execOp, hop, hval, Instr.storeAt, Instr.sureAddr, storeVar, run_sizeT hs, hsz, hst]
          rw [this]
          rfl
      · simp at hv
    · simp at hv
  · simp at hv
end Go.Proofs.Ytohleiikedpmkaa.Vm

namespace Go.Proofs.Ytohleiikedpmkaa.Vm
open Go
variable {P : Program} {o : Oper} {a : Act} {w : World} {φ : Phi} {m : Mem} {nid : Nat} {e : Eff} {T : Nat → V}
theorem foldl_set (off : Nat) : ∀ (vs : List Value) (j0 : Nat) (cells : Array Value), off + j0 + vs.length ≤ cells.size →
    ((vs.zipIdx j0).foldl (fun cs (p : Value × Nat) => cs.setIfInBounds (off + p.2) p.1) cells).toList = cells.toList.take (off + j0) ++ vs ++ cells.toList.drop (off + j0 + vs.length)
  | [], j0, cells, _ => by simp
  | v :: r, j0, cells, h => by
    simp at h
    rw [List.zipIdx_cons, List.foldl_cons, foldl_set off r (j0 + 1) _ (by simp; omega)]
    simp only [Array.toList_setIfInBounds]
    rw [List.set_eq_take_append_cons_drop, if_pos (by simp; omega)]
    have h1 : (List.take (off + j0) cells.toList).length = off + j0 := by simp; omega
    have h2 : off + (j0 + 1) = (off + j0) + 1 := by omega
    rw [h2, List.take_append, h1, List.take_of_length_le (by omega), Nat.add_sub_cancel_left, List.take_succ_cons, List.take_zero]
    rw [List.drop_append, h1, List.drop_of_length_le (by omega)]
    rw [show off + j0 + 1 + r.length - (off + j0) = r.length + 1 by omega, List.drop_succ_cons, List.drop_drop]
    simp
    congr 1
    omega
theorem All2.splice {l s : List C} {vs ws : List Value} {o : Nat} (h : All2 (RC φ) l vs) (h' : All2 (RC φ) s ws) (hle : o + s.length ≤ l.length) :
    All2 (RC φ) (splice l o s) (vs.take o ++ ws ++ vs.drop (o + ws.length)) := by
  rw [splice_eq l o s hle, h'.length]
  exact ((h.take o).append h').append (h.drop _)
theorem fill_run {place : Nat → Option (Nat × Nat)} : ∀ {ps : List (Nat × Operand)} {ls : List (Nat × Nat × Opd)} {cs l : List C} {cells : Array Value}, cParts place ps = some ls → EV φ T a → fillC cs (vparts T ls) = some l → All2 (RC φ) cs cells.toList →
    ∃ arr, Instr.fill place cells (ps.map fun p => (p.1, a.eval p.2)) = some arr ∧ All2 (RC φ) l arr.toList
  | [], ls, cs, l, cells, hc, _, hf, hall => by
    simp [cParts] at hc
    subst hc
    simp [vparts, fillC] at hf
    subst hf
    exact ⟨cells, by simp [Instr.fill], hall⟩
  | (i, x) :: r, ls, cs, l, cells, hc, hE, hf, hall => by
    simp only [cParts] at hc
    split at hc
    · rename_i off s y lr hpl hx hr
      injection hc with hc
      subst hc
      simp only [vparts, fillC] at hf
      split at hf
      · simp at hf
      · rename_i b hb
        cases hcond : ((b.len == s) && decide (off + b.len ≤ cs.length)) with
        | false => simp [hcond] at hf
        | true =>
          simp only [hcond, cond_true] at hf
          simp only [Bool.and_eq_true, beq_iff_eq, decide_eq_true_eq] at hcond
          obtain ⟨hbs, hle⟩ := hcond
          have hB := (hE x y hx).body hb
          have hBl := hB.list
          have hsz : (a.eval x).cells.size = s := by have := hB.1; simp at this; omega
          have hcs : cells.size = cs.length := by have := hall.length; simpa using this.symm
          have hfold : ((a.eval x).cells.zipIdx.foldl (fun cs (p : Value × Nat) => cs.setIfInBounds (off + p.2) p.1) cells).toList = cells.toList.take off ++ (a.eval x).cells.toList ++ cells.toList.drop (off + (a.eval x).cells.toList.length) := by
            have := foldl_set off (a.eval x).cells.toList 0 cells (by simp; omega)
            rw [← Array.foldl_toList, Array.toList_zipIdx]
            simpa using this
          have hbl : b.list.length = b.len := by rw [hBl.length, hB.1]
          have hall' : All2 (RC φ) (splice cs off b.list) ((a.eval x).cells.zipIdx.foldl (fun cs (p : Value × Nat) => cs.setIfInBounds (off + p.2) p.1) cells).toList := by
            rw [hfold]
            exact hall.splice hBl (by omega)
          obtain ⟨arr, h1, h2⟩ := fill_run hr hE hf hall'
          refine ⟨arr, ?_, h2⟩
          have hno : ¬ (((a.eval x).cells.size ≠ s || decide (off + (a.eval x).cells.size > cells.size)) = true) := by simp; omega
          simp only [List.map_cons, Instr.fill, hpl, if_neg hno]
          exact h1
    · simp at hc
theorem places_run {fs : Array Field} (h : fs.all (fun f => (sizeT P f.type).isSome) = true) : (fs.mapM fun f => do pure (f.offset, ← sizeOf f.type) : Sem (Array (Nat × Nat))).run P w = .ok (fs.map fun f => (f.offset, (sizeT P f.type).getD 0)) w := by
  have key : ∀ (l : List Field), (∀ f ∈ l, (sizeT P f.type).isSome = true) → (l.mapM fun f => do pure (f.offset, ← sizeOf f.type) : Sem (List (Nat × Nat))).run P w = .ok (l.map fun f => (f.offset, (sizeT P f.type).getD 0)) w := by
    intro l
    induction l with
    | nil => intro _; rfl
    | cons f l ih =>
      intro h
      obtain ⟨s, hs⟩ := Option.isSome_iff_exists.1 (h f (by simp))
      simp only [List.mapM_cons, Sem.run_bind, run_sizeT hs, Result.andThen_ok, Sem.run_pure, ih (fun g hg => h g (by simp [hg])), List.map_cons, hs, Option.getD_some]
  rw [Array.mapM_eq_mapM_toList, Sem.run_map, key fs.toList (fun f hf => by
    rw [Array.all_eq_true_iff_forall_mem] at h
    exact h f (by simpa using hf))]
  simp only [Result.andThen_ok]
  rw [← Array.toList_map]
theorem s_build_struct {t : Nat} {ps : Array (Nat × Operand)} {ls : List (Nat × Nat × Opd)} {fs : Array Field} {z : List C} {h : H} (hop : o.op = .build t ps) (hz : zeroC P t = some z) (ht : P.underlying t = some (.struct fs))
    (hp : cParts (fldPlace P fs) ps.toList = some ls)
    (hall : fs.all (fun f => (sizeT P f.type).isSome) = true) (hE : EV φ T a) (hv : vop (.build z ls) T m nid h = some e) : Res P o a w φ m nid e := by
  simp only [vop] at hv
  split at hv
  · rename_i l hl
    obtain ⟨v, hr, hzz⟩ := zeroC_rel (φ := φ) hz
    have hfun : (fldPlace P fs) = ((fs.map fun f : Field => (f.offset, (sizeT P f.type).getD 0))[·]?) := by
      funext i
      simp only [Array.getElem?_map, fldPlace]
      cases hfi : fs[i]? with
      | none => rfl
      | some f =>
        have : (sizeT P f.type).isSome = true := by
          rw [Array.all_eq_true_iff_forall_mem] at hall
          exact hall f (Array.mem_of_getElem? hfi)
        obtain ⟨s, hs⟩ := Option.isSome_iff_exists.1 this
        simp [hs]
    rw [hfun] at hp
    obtain ⟨arr, h1, h2⟩ := fill_run hp hE hl hzz
    refine res_pure hv (v := .agg arr) ?_ ⟨arr, rfl, h2⟩
    have hpl := places_run (P := P) (w := w) hall
    simp only [execOp, hop, Instr.build, Sem.run_bind, hr, Result.andThen_ok, run_underlying ht, hpl, Array.toList_map]
    simp only [h1]
    simp
  · simp at hv
theorem s_build_array {t n el s : Nat} {ps : Array (Nat × Operand)} {ls : List (Nat × Nat × Opd)} {z : List C} {h : H} (hop : o.op = .build t ps) (hz : zeroC P t = some z) (ht : P.underlying t = some (.array n el)) (hs : sizeT P el = some s)
    (hp : cParts (fun i => some (i * s, s)) ps.toList = some ls) (hE : EV φ T a) (hv : vop (.build z ls) T m nid h = some e) : Res P o a w φ m nid e := by
  simp only [vop] at hv
  split at hv
  · rename_i l hl
    obtain ⟨v, hr, hzz⟩ := zeroC_rel (φ := φ) hz
    obtain ⟨arr, h1, h2⟩ := fill_run hp hE hl hzz
    refine res_pure hv (v := .agg arr) ?_ ⟨arr, rfl, h2⟩
    simp only [execOp, hop, Instr.build, Sem.run_bind, hr, Result.andThen_ok, run_underlying ht, run_sizeT hs, Array.toList_map]
    simp only [h1]
    simp
  · simp at hv
theorem repl_all2 {z : List C} {zs : List Value} (h : All2 (RC φ) z zs) : ∀ n, All2 (RC φ) (repl n z) (List.flatten (List.replicate n zs))
  | 0 => .nil
  | n + 1 => by rw [List.replicate_succ, List.flatten_cons]; exact h.append (repl_all2 h n)
theorem range_mod (zs : List Value) (hz : 0 < zs.length) : ∀ n, (List.range (n * zs.length)).map (fun i => zs.getD (i % zs.length) undef) = List.flatten (List.replicate n zs)
  | 0 => by simp
  | n + 1 => by
    rw [Nat.succ_mul, Nat.add_comm, List.range_add, List.map_append, List.map_map, List.replicate_succ, List.flatten_cons, ← range_mod zs hz n]
    congr 1
    · apply List.ext_getElem?
      intro i
      by_cases hi : i < zs.length
      · simp [hi, Nat.mod_eq_of_lt hi]
      · simp [hi]
    · apply List.map_congr_left
      intro i _
      simp
theorem zeros_arr (cs : Array Value) (hz : 0 < cs.size) (n : Nat) : ((Array.range (n * cs.size)).map (cs[· % cs.size]!)).toList = List.flatten (List.replicate n cs.toList) := by
  have h1 : 0 < cs.toList.length := by simpa using hz
  rw [← range_mod cs.toList h1 n]
  simp only [Array.toList_map, Array.toList_range, Array.length_toList]
  apply List.map_congr_left
  intro i _
  have : i % cs.size < cs.size := Nat.mod_lt _ hz
  simp [this]
theorem s_buildSl {t n el s : Nat} {ps : Array (Nat × Operand)} {ls : List (Nat × Nat × Opd)} {z : List C} {h : H} (hop : o.op = .buildSlice t n ps) (hz : zeroC P el = some z) (ht : P.underlying t = some (.slice el)) (hs : sizeT P el = some s)
    (hzl : z.length = s) (h0 : 0 < s) (hlim : n * s ≤ 16777216) (hp : cParts (fun i => some (i * s, s)) ps.toList = some ls) (hf : φ nid 0 = none) (hE : EV φ T a) (hv : vop (.buildSl s n z ls) T m nid h = some e) : Res P o a w φ m nid e := by
  simp only [vop] at hv
  split at hv
  · rename_i l hl
    obtain ⟨v, hr, hzz⟩ := zeroC_rel (φ := φ) hz
    have hcsz : v.cells.size = s := by have := hzz.length; simp at this; omega
    have hall : All2 (RC φ) (repl n z) ((Array.range (n * s)).map (v.cells[· % v.cells.size]!)).toList := by
      have := zeros_arr v.cells (by omega) n
      rw [hcsz] at this
      rw [show ((Array.range (n * s)).map (v.cells[· % v.cells.size]!)) = ((Array.range (n * s)).map (v.cells[· % s]!)) by rw [hcsz], this]
      exact repl_all2 hzz n
    obtain ⟨arr, h1, h2⟩ := fill_run hp hE hl hall
    have hlen : l.length = n * s := by
      have : ∀ {q : List (Nat × Nat × V)} {cs l : List C}, fillC cs q = some l → l.length = cs.length := by
        intro q
        induction q with
        | nil => intro cs l h; simp [fillC] at h; subst h; rfl
        | cons p q ih =>
          obtain ⟨o1, s1, v1⟩ := p
          intro cs l h
          simp only [fillC] at h
          split at h
          · simp at h
          · rename_i b hb
            cases hcond : ((b.len == s1) && decide (o1 + b.len ≤ cs.length)) with
            | false => simp [hcond] at h
            | true =>
              simp only [hcond, cond_true] at h
              simp only [Bool.and_eq_true, beq_iff_eq, decide_eq_true_eq] at hcond
              rw [ih h]
              have hbl : b.list.length = b.len := by cases b <;> simp [Body.list, Body.len]
              exact splice_len _ _ _ (by omega)
      rw [this hl]
      have := hall.length
      simpa using this
    have hal : arr.size = n * s := by have := h2.length; simp at this; omega
    refine res_alloc hf hv arr el (0, 0) (w' := w.alloc (.cells arr el)) (x := .slice (some ⟨w.heap.size, 0, none⟩) n n) ?_ rfl rfl rfl rfl (fun _ _ => by simp) rfl (n * s) hlen.symm (by omega) (fun _ => hal) ?_ ?_
    · have hcond : ¬ (n * s > 2 ^ 24) := by omega
      simp only [execOp, hop, Instr.buildSlice, Sem.run_bind, run_underlying ht, Result.andThen_ok, run_sizeT hs, if_neg hcond]
      by_cases hn0 : n * s = 0
      · simp only [if_pos hn0, Sem.run_pure]
        have e0 : ∀ f : Nat → Value, (Array.range (n * s)).map f = #[] := by intro f; rw [hn0]; simp
        rw [e0] at h1
        simp only [Array.toList_map, e0, h1]
        simp [newRow]
      · simp only [if_neg hn0, Sem.run_bind, hr, Result.andThen_ok, Sem.run_pure, Array.toList_map, h1]
        simp [newRow]
    · have := RBd.of_cells h2
      rwa [List.take_of_length_le (by simp; omega)]
    · intro φ' h'
      exact rv_c ⟨_, n, rfl, Nat.le_refl _, .inr ⟨_, h', by simp, fun _ => by simp [hal]⟩⟩
  · simp at hv
end Go.Proofs.Ytohleiikedpmkaa.Vm

namespace Go.Proofs.Ytohleiikedpmkaa.Vm
open Go
variable {P : Program} {o : Oper} {a : Act} {w : World} {φ : Phi} {m : Mem} {nid : Nat} {e : Eff} {T : Nat → V}
theorem wrap_i64 {n : Int} (h : 0 ≤ n) (h' : n < 9223372036854775808) : IntKind.i64.wrap n = n := by
  rw [IntKind.wrap]
  simp [IntKind.bits, IntKind.signed]
  omega
theorem flatten_one (v : Value) (n : Nat) : List.flatten (List.replicate n [v]) = List.replicate n v := by
  induction n with
  | zero => rfl
  | succ n ih => simp [List.replicate_succ, ih]
theorem zk_eq {z : List C} {k : IntKind} (h : zk z = some k) : z = [.int k 0] := by
  unfold zk at h
  split at h
  · rename_i k' n
    by_cases hn : n = 0
    · subst hn; simp at h; subst h; rfl
    · have : (n == 0) = false := by simpa using hn
      simp [this] at h
  · simp at h
theorem repl_getD (z : List C) : ∀ (m p : Nat), p < m * z.length → (repl m z).getD p .unk = z.getD (p % z.length) .unk
  | 0, p, h => by simp at h
  | m + 1, p, h => by
    show (z ++ repl m z).getD p .unk = _
    by_cases hp : p < z.length
    · rw [getD_l _ _ _ _ hp, Nat.mod_eq_of_lt hp]
    · have h' : p < m * z.length + z.length := by rw [Nat.add_mul, Nat.one_mul] at h; exact h
      rw [getD_r _ _ _ _ (by omega), repl_getD z m (p - z.length) (by omega), Nat.mod_eq_sub_mod (a := p) (b := z.length) (by omega)]
theorem repl_length (z : List C) : ∀ m : Nat, (repl m z).length = m * z.length
  | 0 => by simp [repl]
  | m + 1 => by show (z ++ repl m z).length = _; rw [List.length_append, repl_length z m, Nat.add_mul]; omega
theorem mkB_none {es m : Nat} {z : List C} (hz : z.length = es) (h0 : 0 < es) : (mkB es m none z).len = (Body.cells (repl m z)).len ∧ ∀ j, j < (Body.cells (repl m z)).len → (mkB es m none z).get j = (Body.cells (repl m z)).get j := by
  unfold mkB
  cases h1 : Nat.blt 1 es with
  | false => exact ⟨rfl, fun _ _ => rfl⟩
  | true =>
    simp only [cond_true]
    split
    · rename_i q hq
      refine ⟨by show m * es = (repl m z).length; rw [repl_length, hz], fun j hj => ?_⟩
      have hj : j < (repl m z).length := hj
      rw [repl_length] at hj
      show C.int (igK q (j % es)) (igG q (j % es)) = (repl m z).getD j .unk
      rw [repl_getD z m j hj, ← hz, intsOf_get hq _ (Nat.mod_lt _ (by omega))]
    · exact ⟨rfl, fun _ _ => rfl⟩
theorem s_mksl {t el : Nat} {x z' : Operand} {y yc : Opd} {i : TypeInfo} {z : List C} {h : H} (hop : o.op = .makeSlice t x z') (hx : cOpd x = some y) (hc : cOpd z' = some yc) (ht : P.underlying t = some (.slice el)) (hi : P.info? el = some i) (hz : zeroC P el = some z)
    (hzl : z.length = i.size) (h0 : 0 < i.size) (hf : φ nid 0 = none) (hE : EV φ T a) (hv : vop (.mksl i.size i.bytes (zk z) z y yc) T m nid h = some e) (hcs : ∀ q ∈ e.cs, q) : Res P o a w φ m nid e := by
  simp only [vop] at hv
  have h1 := hE x y hx
  have h2 := hE z' yc hc
  split at hv
  · rename_i k1 n k2 mm hn hm
    have e1 := intOf_rel hn h1
    have e2 := intOf_rel hm h2
    split at hv
    · rename_i cs hcc
      have hq : 0 ≤ n ∧ n ≤ mm ∧ mm ≤ 4294967296 ∧ i.bytes * mm.toNat ≤ 4398046511104 := chk_ok hcc (fun z hz => hcs z (by injection hv with hv; subst hv; exact hz))
      obtain ⟨q1, q2, q3, q4⟩ := hq
      obtain ⟨v, hr, hzz⟩ := zeroC_rel (φ := φ) hz
      have hcsz : v.cells.size = i.size := by have := hzz.length; simp at this; omega
      have hs : sizeT P el = some i.size := by simp [sizeT, hi]
      have hti : (typeInfo el).run P w = .ok i w := by simp [typeInfo, hi]
      have hw1 : IntKind.i64.wrap n = n := wrap_i64 q1 (by omega)
      have hw2 : IntKind.i64.wrap mm = mm := wrap_i64 (by omega) (by omega)
      have harr : ((Array.range (mm.toNat * i.size)).map (v.cells[· % v.cells.size]!)).toList = List.flatten (List.replicate mm.toNat v.cells.toList) := by
        have := zeros_arr v.cells (by omega) mm.toNat
        rw [← this, hcsz]
      have hall := repl_all2 hzz mm.toNat
      have hbm : (i.bytes : Int) * mm = ((i.bytes * mm.toNat : Nat) : Int) := by
        rw [Int.natCast_mul, Int.toNat_of_nonneg (by omega)]
      have hrun : (execOp a.eval o).run P w = .ok (.value (.slice (some ⟨w.heap.size, 0, none⟩) n.toNat mm.toNat)) (w.alloc (.cells ((Array.range (mm.toNat * i.size)).map (v.cells[· % v.cells.size]!)) el)) := by
        have hB : (i.bytes : Int) * mm ≤ 4398046511104 := by rw [hbm]; exact Int.ofNat_le.2 q4
        have c1 : ¬ ((decide (mm < 0) || decide ((i.bytes : Int) * mm > 2 ^ 48) || decide (n < 0) || decide (n > mm)) = true) := by
          simp only [Bool.or_eq_true, decide_eq_true_eq]
          generalize (i.bytes : Int) * mm = X at hB
          omega
        simp only [execOp, hop, e1, e2, Instr.makeSlice, Sem.run_bind, run_underlying ht, Result.andThen_ok, asInt, asIntOf, Sem.run_pure, hti, hw1, hw2, if_neg c1, run_askRoom, run_sizeT hs]
        by_cases hz0 : mm.toNat * i.size = 0
        · simp only [if_pos hz0]
          have e0 : ∀ f : Nat → Value, (Array.range (mm.toNat * i.size)).map f = #[] := by intro f; rw [hz0]; simp
          simp [e0, newRow]
        · simp only [if_neg hz0, Sem.run_bind, hr, Result.andThen_ok, Sem.run_pure]
          simp [newRow]
      refine res_alloc hf hv ((Array.range (mm.toNat * i.size)).map (v.cells[· % v.cells.size]!)) el (0, 0) hrun rfl rfl rfl rfl (fun _ _ => by simp) rfl (mm.toNat * i.size) ?_ (by simp) (fun _ => by simp) ?_ ?_
      · have hl : (repl mm.toNat z).length = mm.toNat * i.size := by
          have := hall.length
          rw [this, ← harr]; simp
        cases hk : zk z with
        | none => simp only [Blk.len]; rw [(mkB_none hzl h0).1]; exact hl.symm
        | some k =>
          have := zk_eq hk
          subst this
          simp at hzl
          simp [Blk.len, mkB, Body.len, ← hzl]
      · rw [List.take_of_length_le (by simp), harr]
        cases hk : zk z with
        | none => exact (RBd.of_cells hall).congr (mkB_none hzl h0).1.symm (fun j hj => ((mkB_none hzl h0).2 j hj).symm)
        | some k =>
          have := zk_eq hk
          subst this
          have hv1 : v.cells.toList = [.int k 0] := by
            generalize v.cells.toList = q at hzz
            cases hzz with
            | cons h1 h2 => cases h2; simp [RC] at h1; rw [h1]
          rw [hv1, flatten_one]
          have := RBd.of_ints (φ := φ) (k := k) (l := List.replicate mm.toNat 0)
          simpa [mkB] using this
      · intro φ' h'
        refine rv_c ⟨_, mm.toNat, rfl, by omega, .inr ⟨_, h', by simp, fun _ => by simp⟩⟩
    · simp at hv
  · simp at hv
theorem s_len {ty : Nat} {x : Operand} {t : Nat} {y : Opd} {c : Call} {lk : LenK} {h : H} (hop : o.op = .call c) (hty : o.type = ty) (hcal : c.callee = .builtin .len) (hargs : c.args.toList = [x]) (htys : c.argTypes.toList = [t]) (hx : cOpd x = some y)
    (ht : (P.underlying t = some .string ∧ lk = .str) ∨ (∃ el, P.underlying t = some (.slice el) ∧ lk = .sl) ∨ (∃ n el, P.underlying t = some (.array n el) ∧ lk = .arr n))
    (hE : EV φ T a) (hv : vop (.len lk y) T m nid h = some e) : Res P o a w φ m nid e := by
  have h1 := hE x y hx
  have ha : c.args = #[x] := by simpa using congrArg List.toArray hargs
  have hat : c.argTypes = #[t] := by simpa using congrArg List.toArray htys
  have hrun : ∀ v, (Builtin.len_ #[t] ty #[a.eval x]).run P w = .ok v w → (execOp a.eval o).run P w = .ok (.value v) w := by
    intro v hvv
    simp only [execOp, hop, resolve, hcal, Sem.run_bind, Sem.run_pure, Result.andThen_ok, invoke, builtin, ha, hat, hty]
    simp [hvv]
  simp only [vop] at hv
  split at hv
  · rename_i n
    rcases ht with ⟨_, h⟩ | ⟨_, _, h⟩ | ⟨n', el, hu, h⟩
    · cases h
    · cases h
    · injection h with h; subst h
      refine res_pure hv (hrun _ ?_) rv_int
      simp [Builtin.len_, run_underlying hu, goInt]
  · rename_i b i q n es hy
    rw [hy] at h1
    simp only [RV, RV1, RC] at h1
    obtain ⟨ad, cap, hval, _⟩ := h1
    rcases ht with ⟨_, h⟩ | ⟨el, hu, h⟩ | ⟨n', el, hu, h⟩
    · cases h
    · refine res_pure hv (hrun _ ?_) rv_int
      simp [Builtin.len_, run_underlying hu, goInt, hval]
    · cases h
  · rename_i hy
    rw [hy] at h1
    have hval := h1.nils
    rcases ht with ⟨_, h⟩ | ⟨el, hu, h⟩ | ⟨n', el, hu, h⟩
    · cases h
    · refine res_pure hv (hrun _ ?_) rv_int
      simp [Builtin.len_, run_underlying hu, goInt, hval]
    · cases h
  · rename_i s hy
    rw [hy] at h1
    have hval := h1.str
    rcases ht with ⟨hu, h⟩ | ⟨el, hu, h⟩ | ⟨n', el, hu, h⟩
    · refine res_pure hv (hrun _ ?_) rv_int
      simp [Builtin.len_, run_underlying hu, goInt, hval]
    · cases h
    · cases h
  · simp at hv
theorem s_mm {y y2 : Opd} {c : Call} {mx : Bool} {h : H} (hop : o.op = .call c) (hcal : c.callee = .builtin (if mx then .max else .min)) (hargs : mapO cOpd c.args.toList = some [y, y2])
    (hE : EV φ T a) (hv : vop (.mm mx y y2) T m nid h = some e) : Res P o a w φ m nid e := by
  have hall := mapO_all2 hargs
  have : ∃ x z, c.args.toList = [x, z] ∧ cOpd x = some y ∧ cOpd z = some y2 := by
    generalize c.args.toList = q at hall
    cases hall with
    | cons h1 h2 => cases h2 with
      | cons h3 h4 => cases h4; exact ⟨_, _, rfl, h1, h3⟩
  obtain ⟨x, z, hargs', hx, hz⟩ := this
  have h1 := hE x y hx
  have h2 := hE z y2 hz
  have ha : c.args = #[x, z] := by simpa using congrArg List.toArray hargs'
  simp only [vop] at hv
  split at hv
  · rename_i k p k' q hp hq
    rw [hp] at h1
    rw [hq] at h2
    have e1 := h1.int
    have e2 := h2.int
    cases mx with
    | true =>
      refine res_pure hv (v := .int k (if q > p then q else p)) ?_ ?_
      · simp only [if_true] at hcal
        simp [execOp, hop, resolve, hcal, invoke, builtin, ha, Builtin.max_, Builtin.max2, e1, e2]
      · by_cases hqp : q > p
        · simp [hqp]; exact rv_int
        · simp [hqp]; exact rv_int
    | false =>
      refine res_pure hv (v := .int k (if q < p then q else p)) ?_ ?_
      · simp only [Bool.false_eq_true, if_false] at hcal
        simp [execOp, hop, resolve, hcal, invoke, builtin, ha, Builtin.min_, Builtin.min2, e1, e2]
      · by_cases hqp : q < p
        · simp [hqp]; exact rv_int
        · simp [hqp]; exact rv_int
  · simp at hv
theorem s_mm3 {y y2 y3 : Opd} {c : Call} {mx : Bool} {h : H} (hop : o.op = .call c) (hcal : c.callee = .builtin (if mx then .max else .min)) (hargs : mapO cOpd c.args.toList = some [y, y2, y3])
    (hE : EV φ T a) (hv : vop (.mm3 mx y y2 y3) T m nid h = some e) : Res P o a w φ m nid e := by
  have hall := mapO_all2 hargs
  have : ∃ x z u, c.args.toList = [x, z, u] ∧ cOpd x = some y ∧ cOpd z = some y2 ∧ cOpd u = some y3 := by
    generalize c.args.toList = q at hall
    cases hall with
    | cons h1 h2 => cases h2 with
      | cons h3 h4 => cases h4 with
        | cons h5 h6 => cases h6; exact ⟨_, _, _, rfl, h1, h3, h5⟩
  obtain ⟨x, z, u, hargs', hx, hz, hu⟩ := this
  have h1 := hE x y hx
  have h2 := hE z y2 hz
  have h3 := hE u y3 hu
  have ha : c.args = #[x, z, u] := by simpa using congrArg List.toArray hargs'
  simp only [vop] at hv
  split at hv
  · rename_i k p k' q k'' r hp hq hr
    rw [hp] at h1
    rw [hq] at h2
    rw [hr] at h3
    have e1 := h1.int
    have e2 := h2.int
    have e3 := h3.int
    cases mx with
    | true =>
      refine res_pure hv (v := .int k (if r > (if q > p then q else p) then r else (if q > p then q else p))) ?_ ?_
      · simp only [if_true] at hcal
        simp [execOp, hop, resolve, hcal, invoke, builtin, ha, Builtin.max_, Builtin.max2, e1, e2, e3]
      · have : mmI true (mmI true p q) r = (if r > (if q > p then q else p) then r else (if q > p then q else p)) := by
          unfold mmI
          by_cases hqp : q > p <;> by_cases h5 : r > q <;> by_cases h6 : r > p <;> simp [hqp, h5, h6]
        rw [this]; exact rv_int
    | false =>
      refine res_pure hv (v := .int k (if r < (if q < p then q else p) then r else (if q < p then q else p))) ?_ ?_
      · simp only [Bool.false_eq_true, if_false] at hcal
        simp [execOp, hop, resolve, hcal, invoke, builtin, ha, Builtin.min_, Builtin.min2, e1, e2, e3]
      · have : mmI false (mmI false p q) r = (if r < (if q < p then q else p) then r else (if q < p then q else p)) := by
          unfold mmI
          by_cases hqp : q < p <;> by_cases h5 : r < q <;> by_cases h6 : r < p <;> simp [hqp, h5, h6]
        rw [this]; exact rv_int
  · simp at hv
end Go.Proofs.Ytohleiikedpmkaa.Vm

namespace Go.Proofs.Ytohleiikedpmkaa.Vm
open Go
variable {P : Program} {o : Oper} {a : Act} {w : World} {φ : Phi} {m : Mem} {nid : Nat} {e : Eff} {T : Nat → V}
def eqR1 : TK → Value → Value → Option Bool
  | .int, .int k a, .int k' b => bif sameK k k' then some (a == b) else none
  | .bool, .bool a, .bool b => some (a == b)
  | .str, .string a, .string b => some (a.toList == b.toList)
  | _, _, _ => none
def eqR : List TK → List Value → List Value → Option Bool
  | [], [], [] => some true
  | k :: ks, a :: l, b :: m => match eqR1 k a b, eqR ks l m with
    | some x, some y => some (x && y)
    | _, _ => none
  | _, _, _ => none
theorem eqR_len : ∀ {ks : List TK} {l m : List Value} {r : Bool}, eqR ks l m = some r → l.length = ks.length ∧ m.length = ks.length
  | [], [], [], _, _ => ⟨rfl, rfl⟩
  | k :: ks, a :: l, b :: m, r, h => by
    simp only [eqR] at h
    split at h
    · rename_i x y h1 h2
      have := eqR_len h2
      simp [this.1, this.2]
    · simp at h
  | [], _ :: _, _, _, h => by simp [eqR] at h
  | [], [], _ :: _, _, h => by simp [eqR] at h
  | _ :: _, [], _, _, h => by simp [eqR] at h
  | _ :: _, _ :: _, [], _, h => by simp [eqR] at h
theorem eqR_append : ∀ {ks1 ks2 : List TK} {l m : List Value} {r : Bool}, eqR (ks1 ++ ks2) l m = some r → ∃ r1 r2, eqR ks1 (l.take ks1.length) (m.take ks1.length) = some r1 ∧ eqR ks2 (l.drop ks1.length) (m.drop ks1.length) = some r2 ∧ r = (r1 && r2)
  | [], ks2, l, m, r, h => ⟨true, r, by simp [eqR], by simpa using h, by simp⟩
  | k :: ks, ks2, [], m, r, h => by simp [eqR] at h
  | k :: ks, ks2, a :: l, [], r, h => by simp [eqR] at h
  | k :: ks, ks2, a :: l, b :: m, r, h => by
    simp only [List.cons_append, eqR] at h
    split at h
    · rename_i x y h1 h2
      injection h with h
      obtain ⟨r1, r2, e1, e2, e3⟩ := eqR_append h2
      refine ⟨x && r1, r2, ?_, ?_, ?_⟩
      · simp only [List.length_cons, List.take_succ_cons, eqR, h1, e1]
      · simpa using e2
      · rw [← h, e3, Bool.and_assoc]
    · simp at h
theorem eqC_rel {k : TK} {c d : C} {r : Bool} {x y : Value} (h : eqC k c d = some r) (hx : RC φ c x) (hy : RC φ d y) : eqR1 k x y = some r := by
  unfold eqC at h
  split at h
  · simp only [RC] at hx hy; subst hx; subst hy; exact h
  · simp only [RC] at hx hy; subst hx; subst hy; exact h
  · simp only [RC] at hx hy; subst hx; subst hy; exact h
  · simp at h
theorem eqCs_rel : ∀ {ks : List TK} {l m : List C} {r : Bool} {xs ys : List Value}, eqCs ks l m = some r → All2 (RC φ) l xs → All2 (RC φ) m ys → eqR ks xs ys = some r
  | [], [], [], r, _, _, h, .nil, .nil => by simpa [eqCs, eqR] using h
  | k :: ks, c :: l, d :: m, r, _, _, h, .cons h1 t1, .cons h2 t2 => by
    simp only [eqCs] at h
    split at h
    · rename_i x y e1 e2
      simp only [eqR, eqC_rel e1 h1 h2, eqCs_rel e2 t1 t2]
      exact h
    · simp at h
  | [], _ :: _, _, _, _, _, h, _, _ => by simp [eqCs] at h
  | [], [], _ :: _, _, _, _, h, _, _ => by simp [eqCs] at h
  | _ :: _, [], _, _, _, _, h, _, _ => by simp [eqCs] at h
  | _ :: _, _ :: _, [], _, _, _, h, _, _ => by simp [eqCs] at h
theorem sameK_refl (k : IntKind) : sameK k k = true := by cases k <;> rfl
theorem eqI_rel {k : IntKind} : ∀ {ks : List TK} {l m : List Int}, allInt ks = true → l.length = ks.length → m.length = ks.length → eqR ks (l.map (Value.int k)) (m.map (Value.int k)) = some (l == m)
  | [], [], [], _, _, _ => rfl
  | .int :: ks, a :: l, b :: m, h, h1, h2 => by
    simp only [List.map_cons, eqR, eqR1, sameK_refl, cond_true, eqI_rel (k := k) (ks := ks) h (by simpa using h1) (by simpa using h2)]
    rfl
  | .bool :: _, _, _, h, _, _ | .str :: _, _, _, h, _, _ | .ptr :: _, _, _, h, _, _ | .slice :: _, _, _, h, _, _ | .func :: _, _, _, h, _, _ | .iface :: _, _, _, h, _, _ => by simp [allInt] at h
  | [], _ :: _, _, _, h, _ => by simp at h
  | [], [], _ :: _, _, _, h => by simp at h
  | .int :: _, [], _, _, h, _ => by simp at h
  | .int :: _, _ :: _, [], _, _, h => by simp at h
theorem eqV_rel {h : H} {ks : List TK} {x y : V} {r : Bool} {p : List Prop} {vx vy : Value} (he : eqV h ks x y = some (r, p)) (hp : ∀ q ∈ p, q) (hx : RV φ x vx) (hy : RV φ y vy) :
    ∃ ax ay : Array Value, vx = .agg ax ∧ vy = .agg ay ∧ eqR ks ax.toList ay.toList = some r := by
  have key : ∀ {k : IntKind} {l m : List Int}, eqI h ks l m = some (r, p) → eqR ks (l.map (Value.int k)) (m.map (Value.int k)) = some r := by
    intro k l m h1
    unfold eqI at h1
    cases ha : allInt ks with
    | false => simp [ha] at h1
    | true =>
      simp only [ha, cond_true] at h1
      split at h1
      · rename_i q hq
        injection h1 with h1
        injection h1 with e1 e2
        subst e1; subst e2
        have := chk_ok hq hp
        exact eqI_rel ha this.1 this.2
      · simp at h1
  unfold eqV at he
  split at he
  · rename_i k l k' m'
    cases hk : sameK k k' with
    | false => simp [hk] at he
    | true =>
      have := sameK_eq hk
      subst this
      simp only [hk, cond_true] at he
      simp only [RV, RV1] at hx hy
      subst hx; subst hy
      exact ⟨_, _, rfl, rfl, by simpa using key he⟩
  · rename_i l m'
    split at he
    · rename_i q hq
      injection he with he
      injection he with e1 e2
      subst e1
      simp only [RV, RV1] at hx hy
      obtain ⟨ax, rfl, h1⟩ := hx
      obtain ⟨ay, rfl, h2⟩ := hy
      exact ⟨_, _, rfl, rfl, eqCs_rel hq h1 h2⟩
    · simp at he
  · rename_i k l m'
    split at he
    · rename_i q hq
      have := allInts_eq hq
      subst this
      simp only [RV, RV1] at hx hy
      obtain ⟨ay, rfl, h2⟩ := hy
      subst hx
      refine ⟨_, _, rfl, rfl, ?_⟩
      have h3 : ay.toList = q.map (Value.int k) := (RBd.of_cells h2 |> fun hb => by
        apply List.ext_getElem?
        intro j
        have hl := h2.length
        by_cases hj : j < q.length
        · obtain ⟨v, hv, hr⟩ := h2.get j (C.int k q[j]) (by simp [hj])
          rw [hv]
          simp only [RC] at hr
          simp [hj, hr]
        · have : ¬ j < ay.toList.length := by rw [← hl]; simpa using hj
          rw [List.getElem?_eq_none (by omega), List.getElem?_eq_none (by simp; omega)])
      rw [h3]
      simpa using key he
    · simp at he
  · rename_i l k m'
    split at he
    · rename_i q hq
      have := allInts_eq hq
      subst this
      simp only [RV, RV1] at hx hy
      obtain ⟨ax, rfl, h2⟩ := hx
      subst hy
      refine ⟨_, _, rfl, rfl, ?_⟩
      have h3 : ax.toList = q.map (Value.int k) := by
        apply List.ext_getElem?
        intro j
        have hl := h2.length
        by_cases hj : j < q.length
        · obtain ⟨v, hv, hr⟩ := h2.get j (C.int k q[j]) (by simp [hj])
          rw [hv]
          simp only [RC] at hr
          simp [hj, hr]
        · have : ¬ j < ax.toList.length := by rw [← hl]; simpa using hj
          rw [List.getElem?_eq_none (by omega), List.getElem?_eq_none (by simp; omega)]
      rw [h3]
      simpa using key he
    · simp at he
  · simp at he
theorem beq_get {t s : Nat} (h : (match sizeT P t with | some q => Nat.beq q s | none => false) = true) : sizeT P t = some s := by
  split at h
  · rename_i q hq; rw [hq, Nat.eq_of_beq_eq_true h]
  · simp at h
def Shp (P : Program) (t : Nat) (x y : Value) : Prop := ∀ dd, P.underlying t = some dd → (aggD dd = true → ∃ ax ay : Array Value, x = .agg ax ∧ y = .agg ay) ∧ (aggD dd = false → x.cells = #[x] ∧ y.cells = #[y])
theorem drop_take_one {l : List Value} {j : Nat} (h : j < l.length) : (l.drop j).take 1 = [l[j]] := by
  rw [List.drop_eq_getElem_cons h, List.take_succ_cons, List.take_zero]
theorem bifS {α : Type} {b : Bool} {x : Option α} {y : α} (h : (bif b then x else none) = some y) : b = true ∧ x = some y := by
  cases b
  · simp at h
  · exact ⟨rfl, h⟩
theorem part_eq {d D t : Nat} {ks : List TK} (ih : ∀ {t : Nat} {ks : List TK} {x y : Value} {r : Bool}, flatKs P d t = some ks → Shp P t x y → eqR ks x.cells.toList y.cells.toList = some r → (Op.equalIn D t x y).run P w = .ok r w)
    (hk : flatKs P d t = some ks) (hs : sizeT P t = some ks.length) {xs ys : Array Value} {off : Nat} {r : Bool} (he : eqR ks ((xs.toList.drop off).take ks.length) ((ys.toList.drop off).take ks.length) = some r) :
    ∃ va vb, (part t xs off).run P w = .ok va w ∧ (part t ys off).run P w = .ok vb w ∧ (Op.equalIn D t va vb).run P w = .ok r w := by
  have hlen := eqR_len he
  obtain ⟨dd, hd⟩ : ∃ dd, P.underlying t = some dd := by
    cases d with
    | zero => simp [flatKs] at hk
    | succ d =>
      simp only [flatKs] at hk
      split at hk <;> first | exact ⟨_, by assumption⟩ | simp at hk
  cases ha : aggD dd with
  | true =>
    refine ⟨_, _, part_agg hd ha hs, part_agg hd ha hs, ih hk ?_ ?_⟩
    · intro d2 h2
      rw [hd] at h2; injection h2 with h2; subst h2
      exact ⟨fun _ => ⟨_, _, rfl, rfl⟩, fun h => by rw [ha] at h; simp at h⟩
    · show eqR ks (xs.extract off (off + ks.length)).toList (ys.extract off (off + ks.length)).toList = some r
      rw [extract_toList, extract_toList]; exact he
  | false =>
    have h1 : ks.length = 1 := by
      cases d with
      | zero => simp [flatKs] at hk
      | succ d =>
        simp only [flatKs, hd] at hk
        cases dd <;> simp [aggD] at ha hk <;> (subst hk; rfl)
    have hx : off < xs.size := by have := hlen.1; simp at this; omega
    have hy : off < ys.size := by have := hlen.2; simp at this; omega
    have e1 : (xs.toList.drop off).take ks.length = [xs[off]] := by
      rw [h1, drop_take_one (by simpa using hx)]; simp
    have e2 : (ys.toList.drop off).take ks.length = [ys[off]] := by
      rw [h1, drop_take_one (by simpa using hy)]; simp
    rw [e1, e2] at he
    have c1 : ∀ {v u : Value}, eqR ks [v] [u] = some r → v.cells = #[v] ∧ u.cells = #[u] := by
      intro v u hh
      cases ks with
      | nil => simp at h1
      | cons k ks =>
        simp only [eqR] at hh
        split at hh
        · rename_i q1 q2 e1 e2
          cases k <;> cases v <;> cases u <;> simp [eqR1] at e1 <;> exact ⟨rfl, rfl⟩
        · simp at hh
    refine ⟨xs[off], ys[off], part_one hd ha (by simp [hx]), part_one hd ha (by simp [hy]), ih hk ?_ ?_⟩
    · intro d2 h2
      rw [hd] at h2; injection h2 with h2; subst h2
      exact ⟨fun h => by rw [ha] at h; simp at h, fun _ => c1 he⟩
    · rw [(c1 he).1, (c1 he).2]
      exact he
theorem eqR_one {k : TK} {x y : Value} {r : Bool} (h : eqR [k] [x] [y] = some r) : eqR1 k x y = some r := by
  simp only [eqR] at h
  split at h
  · rename_i a b h1 h2
    injection h2 with h2
    injection h with h
    rw [h1, ← h, ← h2]; simp
  · simp at h
theorem equalIn_flat : ∀ (d D : Nat), d ≤ D → ∀ {t : Nat} {ks : List TK} {x y : Value} {r : Bool}, flatKs P d t = some ks → Shp P t x y → eqR ks x.cells.toList y.cells.toList = some r → (Op.equalIn D t x y).run P w = .ok r w
  | 0, _, _, t, ks, x, y, r, hk, _, _ => by simp [flatKs] at hk
  | d + 1, 0, h, _, _, _, _, _, _, _, _ => by omega
  | d + 1, D + 1, hD, t, ks, x, y, r, hk, hag, he => by
    have ih := fun {t : Nat} {ks : List TK} {x y : Value} {r : Bool} => equalIn_flat d D (by omega) (t := t) (ks := ks) (x := x) (y := y) (r := r)
    simp only [flatKs] at hk
    split at hk
    · rename_i hu
      injection hk with hk; subst hk
      have hc := (hag _ hu).2 rfl
      rw [hc.1, hc.2] at he
      have h1 := eqR_one he
      unfold eqR1 at h1
      split at h1 <;> first | (simp at h1; done) | skip
      · rename_i heq; simp at heq
      · injection h1 with h1; subst h1; exact run_equalIn_bool' w D t _ _ hu
      · rename_i heq; simp at heq
    · rename_i hu
      injection hk with hk; subst hk
      have hc := (hag _ hu).2 rfl
      rw [hc.1, hc.2] at he
      have h1 := eqR_one he
      unfold eqR1 at h1
      split at h1 <;> first | (simp at h1; done) | skip
      · obtain ⟨hb, h2⟩ := bifS h1
        have := sameK_eq hb
        subst this
        injection h2 with h2; subst h2; exact run_equalIn_int w D t _ _ _ _ hu
      · rename_i heq; simp at heq
      · rename_i heq; simp at heq
    · rename_i hu
      injection hk with hk; subst hk
      have hc := (hag _ hu).2 rfl
      rw [hc.1, hc.2] at he
      have h1 := eqR_one he
      unfold eqR1 at h1
      split at h1 <;> first | (simp at h1; done) | skip
      · rename_i heq; simp at heq
      · rename_i heq; simp at heq
      · injection h1 with h1; subst h1; exact run_equalIn_string w D t _ _ hu
    · rename_i fs hu
      cases hst : P.stoodInHeld t with
      | true => simp [hst] at hk
      | false =>
        simp only [hst, cond_false] at hk
        obtain ⟨xs, ys, rfl, rfl⟩ := (hag _ hu).1 rfl
        have hfo : P.fieldsOf t = fs := by simp [Program.fieldsOf, hu]
        rw [run_equalIn_struct w D t xs ys (by rw [hfo]; exact hu) hst, hfo]
        have key : ∀ (l : List Field) (off : Nat) (ks : List TK) (r : Bool), flatFs P (flatKs P d) l off = some ks → eqR ks (xs.toList.drop off) (ys.toList.drop off) = some r → (Op.eqFields D xs ys l).run P w = .ok r w := by
          intro l
          induction l with
          | nil =>
            intro off ks r h1 h2
            simp [flatFs] at h1; subst h1
            have hl := eqR_len h2
            have e1 : xs.toList.drop off = [] := List.eq_nil_of_length_eq_zero hl.1
            have e2 : ys.toList.drop off = [] := List.eq_nil_of_length_eq_zero hl.2
            rw [e1, e2] at h2
            simp [eqR] at h2
            subst h2
            simp [Op.eqFields]
          | cons f l ihl =>
            intro off ks r h1 h2
            simp only [flatFs] at h1
            obtain ⟨hc, h1⟩ := bifS h1
            simp only [Bool.and_eq_true, bne_iff_ne, ne_eq] at hc
            have hoff := Nat.eq_of_beq_eq_true hc.2
            split at h1
            · rename_i k1 hk1
              obtain ⟨hsz, h1⟩ := bifS h1
              have hs := beq_get hsz
              split at h1
              · rename_i k2 hk2
                injection h1 with h1; subst h1
                obtain ⟨r1, r2, e1, e2, e3⟩ := eqR_append h2
                subst hoff
                obtain ⟨va, vb, p1, p2, p3⟩ := part_eq (w := w) ih hk1 hs e1
                have hrest := ihl (f.offset + k1.length) k2 r2 hk2 (by simpa [List.drop_drop] using e2)
                simp only [Op.eqFields]
                rw [if_pos hc.1]
                simp only [Sem.run_bind, p1, p2, p3, Result.andThen_ok, Sem.run_ite]
                subst e3
                cases r1
                · simp
                · simpa using hrest
              · simp at h1
            · simp at h1
        exact key fs.toList 0 ks r hk (by rw [List.drop_zero, List.drop_zero]; exact he)
    · rename_i n el hu
      split at hk
      · rename_i k1 hk1
        obtain ⟨hsz, hk⟩ := bifS hk
        · injection hk with hk; subst hk
          have hs := beq_get hsz
          obtain ⟨xs, ys, rfl, rfl⟩ := (hag _ hu).1 rfl
          obtain ⟨i, hi, hsi⟩ := info_of_size hs
          rw [run_equalIn_array w D xs ys hu hi]
          have hco : P.cellsOf el = k1.length := by simp [Program.cellsOf, hi, hsi]
          rw [hco]
          have key : ∀ (n j : Nat) (r : Bool), eqR (replK k1 n) (xs.toList.drop (j * k1.length)) (ys.toList.drop (j * k1.length)) = some r → (Op.eqItems D el k1.length xs ys (List.range' j n)).run P w = .ok r w := by
            intro n
            induction n with
            | zero =>
              intro j r h2
              simp only [replK] at h2
              have hl := eqR_len h2
              have e1 : xs.toList.drop (j * k1.length) = [] := List.eq_nil_of_length_eq_zero hl.1
              have e2 : ys.toList.drop (j * k1.length) = [] := List.eq_nil_of_length_eq_zero hl.2
              rw [e1, e2] at h2
              simp [eqR] at h2
              subst h2
              simp [Op.eqItems]
            | succ n ihn =>
              intro j r h2
              simp only [replK] at h2
              obtain ⟨r1, r2, e1, e2, e3⟩ := eqR_append h2
              obtain ⟨va, vb, p1, p2, p3⟩ := part_eq (w := w) ih hk1 hs e1
              have hrest := ihn (j + 1) r2 (by rw [Nat.succ_mul]; simpa [List.drop_drop] using e2)
              simp only [List.range'_succ, Op.eqItems, Sem.run_bind, p1, p2, p3, Result.andThen_ok, Sem.run_ite]
              subst e3
              cases r1
              · simp
              · simpa using hrest
          have := key n 0 r (by rw [Nat.zero_mul, List.drop_zero, List.drop_zero]; exact he)
          rwa [List.range_eq_range']
      · simp at hk
    · simp at hk
theorem s_eqv {op : BinOp} {neg : Bool} {t u : Nat} {x y : Operand} {x' y' : Opd} {ks : List TK} {d : TypeDesc} {h : H} (hop : o.op = .binOp op t x y u) (hneg : (op = .eql ∧ neg = false) ∨ (op = .neq ∧ neg = true)) (hx : cOpd x = some x') (hy : cOpd y = some y')
    (hd : P.underlying t = some d) (hag : aggD d = true) (hk : flatKs P 30 t = some ks) (hg : P.eqGuardType P.depth t = false) (hE : EV φ T a) (hv : vop (.eqv neg ks x' y') T m nid h = some e) (hcs : ∀ q ∈ e.cs, q) : Res P o a w φ m nid e := by
  simp only [vop] at hv
  have h1 := hE x x' hx
  have h2 := hE y y' hy
  split at hv
  · rename_i r p hr
    obtain ⟨ax, ay, e1, e2, e3⟩ := eqV_rel hr (fun z hz => hcs z (by rw [pure_cs hv]; exact hz)) h1 h2
    have heq := equalIn_flat (P := P) (w := w) 30 10000 (by omega) (x := .agg ax) (y := .agg ay) hk (fun dd hdd => by
      rw [hd] at hdd; injection hdd with hdd; subst hdd
      exact ⟨fun _ => ⟨_, _, rfl, rfl⟩, fun h => by rw [hag] at h; simp at h⟩) e3
    refine res_pure hv ?_ rv_bool
    rcases hneg with ⟨rfl, rfl⟩ | ⟨rfl, rfl⟩
    · simp only [execOp, hop, e1, e2, Sem.run_bind, run_eqGuard_agg w _ _ _ _ _ _ hg, Result.andThen_ok, run_eql_struct, heq, Sem.run_pure]
      simp
    · simp only [execOp, hop, e1, e2, Sem.run_bind, run_eqGuard_agg w _ _ _ _ _ _ hg, Result.andThen_ok, run_neq_struct, heq, Sem.run_pure]
      simp
  · simp at hv
end Go.Proofs.Ytohleiikedpmkaa.Vm

namespace Go.Proofs.Ytohleiikedpmkaa.Vm
open Go
variable {P : Program} {o : Oper} {a : Act} {w : World} {φ : Phi} {m : Mem} {nid : Nat} {e : Eff} {T : Nat → V}
theorem run_eqGuard_plain {op : BinOp} {t : Nat} {x y : Operand} {v u : Value} (h1 : v.oneCell' = true) (h2 : v ≠ .nilIface) : (eqGuard op t x y v u).run P w = .ok () w := by
  cases v <;> first | (simp [Value.oneCell'] at h1; done) | (exact absurd rfl h2) | (cases op <;> simp [eqGuard])
structure EqOk (P : Program) (D t : Nat) (r : Bool) (vx vy : Value) (w : World) : Prop where
  nn : vx ≠ .nilIface
  one : vx.oneCell' = true
  eql : binOp .eql t vx vy = (do pure (.bool (← Op.equal t vx vy)))
  neq : binOp .neq t vx vy = (do pure (.bool (!(← Op.equal t vx vy))))
  run : (Op.equalIn (D + 1) t vx vy).run P w = .ok r w
theorem eqS_run {D t : Nat} {d : TypeDesc} {tk : TK} {c1 c2 : C} {h : H} {r : Bool} {p : List Prop} {vx vy : Value} (hd : P.underlying t = some d) (htk : flatTK d = some tk) (hr : eqS h tk c1 c2 = some (r, p)) (hp : ∀ q ∈ p, q) (h1 : RC φ c1 vx) (h2 : RC φ c2 vy) :
    EqOk P D t r vx vy w := by
  unfold eqS at hr
  split at hr
  · injection hr with hr; injection hr with hr1 hr2; subst hr1
    simp only [RC] at h1 h2; subst h1; subst h2
    have : d = .bool := by cases d <;> simp [flatTK] at htk; rfl
    subst this
    exact ⟨by simp, rfl, rfl, rfl, run_equalIn_bool' w D t _ _ hd⟩
  · injection hr with hr; injection hr with hr1 hr2; subst hr1
    simp only [RC] at h1 h2; subst h1; subst h2
    obtain ⟨q, rfl⟩ : ∃ q, d = .pointer q := by cases d <;> simp [flatTK] at htk; exact ⟨_, rfl⟩
    exact ⟨by simp, rfl, rfl, rfl, by simp [Op.equalIn, run_underlying hd]⟩
  · injection hr with hr; injection hr with hr1 hr2; subst hr1
    simp only [RC, RP] at h1 h2; obtain ⟨l, _, rfl⟩ := h2; subst h1
    obtain ⟨q, rfl⟩ : ∃ q, d = .pointer q := by cases d <;> simp [flatTK] at htk; exact ⟨_, rfl⟩
    exact ⟨by simp, rfl, rfl, rfl, by simp [Op.equalIn, run_underlying hd]⟩
  · injection hr with hr; injection hr with hr1 hr2; subst hr1
    simp only [RC, RP] at h1 h2; obtain ⟨l, _, rfl⟩ := h1; subst h2
    obtain ⟨q, rfl⟩ : ∃ q, d = .pointer q := by cases d <;> simp [flatTK] at htk; exact ⟨_, rfl⟩
    exact ⟨by simp, rfl, rfl, rfl, by simp [Op.equalIn, run_underlying hd]⟩
  · injection hr with hr; injection hr with hr1 hr2; subst hr1
    simp only [RC] at h1 h2; subst h1; subst h2
    obtain ⟨q, rfl⟩ : ∃ q, d = .slice q := by cases d <;> simp [flatTK] at htk; exact ⟨_, rfl⟩
    exact ⟨by simp, rfl, rfl, rfl, by simp [Op.equalIn, run_underlying hd]⟩
  · split at hr
    · rename_i pp hpp
      injection hr with hr; injection hr with hr1 hr2; subst hr1; subst hr2
      have hn := chk_ok hpp hp
      simp only [RC] at h1 h2; subst h1
      obtain ⟨ad, cap, rfl, hnc, hcap⟩ := h2
      obtain ⟨q, rfl⟩ : ∃ q, d = .slice q := by cases d <;> simp [flatTK] at htk; exact ⟨_, rfl⟩
      rcases hcap with hcap | ⟨l, _, rfl, _⟩
      · omega
      · exact ⟨by simp, rfl, rfl, rfl, by simp [Op.equalIn, run_underlying hd]⟩
    · simp at hr
  · split at hr
    · rename_i pp hpp
      injection hr with hr; injection hr with hr1 hr2; subst hr1; subst hr2
      have hn := chk_ok hpp hp
      simp only [RC] at h1 h2; subst h2
      obtain ⟨ad, cap, rfl, hnc, hcap⟩ := h1
      obtain ⟨q, rfl⟩ : ∃ q, d = .slice q := by cases d <;> simp [flatTK] at htk; exact ⟨_, rfl⟩
      rcases hcap with hcap | ⟨l, _, rfl, _⟩
      · omega
      · exact ⟨by simp, rfl, rfl, rfl, by simp [Op.equalIn, run_underlying hd]⟩
    · simp at hr
  · injection hr with hr; injection hr with hr1 hr2; subst hr1
    simp only [RC] at h1 h2; subst h1; subst h2
    obtain ⟨q1, q2, q3, rfl⟩ : ∃ q1 q2 q3, d = .func q1 q2 q3 := by cases d <;> simp [flatTK] at htk; exact ⟨_, _, _, rfl⟩
    exact ⟨by simp, rfl, rfl, rfl, by simp [Op.equalIn, run_underlying hd]⟩
  · injection hr with hr; injection hr with hr1 hr2; subst hr1
    simp only [RC] at h1 h2; obtain ⟨vs, rfl, _⟩ := h2; subst h1
    obtain ⟨q1, q2, q3, rfl⟩ : ∃ q1 q2 q3, d = .func q1 q2 q3 := by cases d <;> simp [flatTK] at htk; exact ⟨_, _, _, rfl⟩
    exact ⟨by simp, rfl, rfl, rfl, by simp [Op.equalIn, run_underlying hd]⟩
  · injection hr with hr; injection hr with hr1 hr2; subst hr1
    simp only [RC] at h1 h2; obtain ⟨vs, rfl, _⟩ := h1; subst h2
    obtain ⟨q1, q2, q3, rfl⟩ : ∃ q1 q2 q3, d = .func q1 q2 q3 := by cases d <;> simp [flatTK] at htk; exact ⟨_, _, _, rfl⟩
    exact ⟨by simp, rfl, rfl, rfl, by simp [Op.equalIn, run_underlying hd]⟩
  · simp at hr
theorem s_eqs {op : BinOp} {neg : Bool} {t u : Nat} {x y : Operand} {x' y' : Opd} {tk : TK} {d : TypeDesc} {h : H} (hop : o.op = .binOp op t x y u) (hneg : (op = .eql ∧ neg = false) ∨ (op = .neq ∧ neg = true)) (hx : cOpd x = some x') (hy : cOpd y = some y')
    (hd : P.underlying t = some d) (htk : flatTK d = some tk) (hE : EV φ T a) (hv : vop (.eqs neg tk x' y') T m nid h = some e) (hcs : ∀ q ∈ e.cs, q) : Res P o a w φ m nid e := by
  simp only [vop] at hv
  have h1 := hE x x' hx
  have h2 := hE y y' hy
  split at hv
  · rename_i c1 c2 hc1 hc2
    rw [hc1] at h1
    rw [hc2] at h2
    simp only [RV, RV1] at h1 h2
    split at hv
    · rename_i r p hr
      have k := eqS_run (D := 9999) (w := w) hd htk hr (fun z hz => hcs z (by rw [pure_cs hv]; exact hz)) h1 h2
      have hguard := run_eqGuard_plain (P := P) (w := w) (op := op) (t := t) (x := x) (y := y) (u := a.eval y) k.one k.nn
      have hq : (Op.equal t (a.eval x) (a.eval y)).run P w = .ok r w := k.run
      refine res_pure hv ?_ rv_bool
      rcases hneg with ⟨rfl, rfl⟩ | ⟨rfl, rfl⟩
      · simp only [execOp, hop, Sem.run_bind, hguard, Result.andThen_ok, k.eql, hq, Sem.run_pure, cond_false]
      · simp only [execOp, hop, Sem.run_bind, hguard, Result.andThen_ok, k.neq, hq, Sem.run_pure, cond_true]
    · simp at hv
  · simp at hv
theorem find_add64 {fn : Func} (hn : fn.name = "math/bits.Add64") (ho : fn.origin = "") : Extern.findNext fn = none ∧ Extern.find fn = some add64Entry := by
  have h1 : Extern.allNextRows.lookup "math/bits.Add64" = none := by kernel_rfl
  have h2 : Extern.allNextRows.lookup "" = none := by kernel_rfl
  have h3 : Extern.allGenericRows.lookup "math/bits.Add64" = none := by kernel_rfl
  have h4 : Extern.allTypedRows.lookup "math/bits.Add64" = none := by kernel_rfl
  have h5 : Extern.allRows.lookup "math/bits.Add64" = some add64Entry := by kernel_rfl
  constructor
  · simp [Extern.findNext, hn, ho, h1, h2]
  · simp [Extern.find, hn, h3, h4, h5]
theorem s_add64 {c : Call} {f : Nat} {fn : Func} {y1 y2 y3 : Opd} {h : H} (hop : o.op = .call c) (hcal : c.callee = .value (.func f)) (hfn : P.funcs[f]? = some fn) (hb : fn.body = none) (hn : fn.name = "math/bits.Add64") (ho : fn.origin = "")
    (hargs : mapO cOpd c.args.toList = some [y1, y2, y3]) (hE : EV φ T a) (hv : vop (.add64 y1 y2 y3) T m nid h = some e) (hcs : ∀ q ∈ e.cs, q) : Res P o a w φ m nid e := by
  have hall := mapO_all2 hargs
  have : ∃ x1 x2 x3, c.args.toList = [x1, x2, x3] ∧ cOpd x1 = some y1 ∧ cOpd x2 = some y2 ∧ cOpd x3 = some y3 := by
    generalize c.args.toList = q at hall
    cases hall with
    | cons h1 h2 => cases h2 with
      | cons h3 h4 => cases h4 with
        | cons h5 h6 => cases h6; exact ⟨_, _, _, rfl, h1, h3, h5⟩
  obtain ⟨x1, x2, x3, hargs', hx1, hx2, hx3⟩ := this
  have h1 := hE x1 y1 hx1
  have h2 := hE x2 y2 hx2
  have h3 := hE x3 y3 hx3
  have ha : c.args = #[x1, x2, x3] := by simpa using congrArg List.toArray hargs'
  simp only [vop] at hv
  split at hv
  · rename_i p q r hp hq hr
    rw [hp] at h1
    rw [hq] at h2
    rw [hr] at h3
    split at hv
    · rename_i cs hc
      have hh : 0 ≤ p ∧ p < 18446744073709551616 ∧ 0 ≤ q ∧ q < 18446744073709551616 ∧ 0 ≤ r ∧ r ≤ 1 := chk_ok hc (fun z hz => hcs z (by rw [pure_cs hv]; exact hz))
      obtain ⟨f1, f2⟩ := find_add64 hn ho
      have hrun := run_callFunc_extern (P := P) hfn (by rw [hn]; rfl) (by rw [hb]; rfl) f1 f2 #[.int .u64 p, .int .u64 q, .int .u64 r] w
      rw [run_add64 p q r hh.1 hh.2.2.1 hh.2.2.2.2.1 hh.2.2.2.2.2] at hrun
      refine res_pure hv (v := .tuple #[.int .u64 ((p + q + r) % 18446744073709551616), .int .u64 ((p + q + r) / 18446744073709551616)]) ?_ ?_
      · have e0 : a.eval (.func f) = .func (.func f) #[] #[] := rfl
        have e1 : #[] ++ Array.map a.eval #[x1, x2, x3] ++ #[] = #[Value.int .u64 p, .int .u64 q, .int .u64 r] := by simp [h1.int, h2.int, h3.int]
        simp only [execOp, hop, resolve, hcal, ha, e0, Deferred.ofValue, Sem.run_bind, Sem.run_pure, Result.andThen_ok, invoke, e1, hrun]
      · exact ⟨_, rfl, .cons (by simp [RV1, RC]) (.cons (by simp [RV1, RC]) .nil)⟩
    · simp at hv
  · simp at hv
end Go.Proofs.Ytohleiikedpmkaa.Vm

namespace Go.Proofs.Ytohleiikedpmkaa.Vm
open Go
variable {P : Program} {o : Oper} {a : Act} {w : World} {φ : Phi} {m : Mem} {nid : Nat} {e : Eff} {T : Nat → V}
theorem str_vals (s : ByteArray) : (s.data.map fun b => Value.int .u8 (b.toNat : Int)).toList = (s.data.toList.map fun c => (c.toNat : Int)).map (Value.int .u8) := by
  simp [List.map_map, Function.comp_def]
theorem loadCells_zero (ad : Addr) : (loadCells ad 0).run P w = .ok #[] w := by simpa using run_loadCells_list (P := P) w ad [] (by simp)
theorem src_run {es : Nat} {v : V} {val : Value} {n x y : Nat} {s : Body} {rd : List Nat} (h : srcOf m es v = some (n, s, rd, x, y)) (hxy : x ≤ y) (hv : RV φ v val) (hm : RM φ m w) :
    (Builtin.lenOf val).run P w = .ok n w ∧ s.len = n * es ∧ ∀ c, c ≤ n → ∃ vs : List Value, (∀ w2 : World, w2.heap = w.heap → (Builtin.firstCells es c val).run P w2 = .ok vs.toArray w2) ∧ RBd φ (s.seg 0 (c * es)) vs := by
  unfold srcOf at h
  split at h
  · injection h with h; injection h with h1 h2; injection h2 with h2 h3; subst h1; subst h2
    have := hv.nils
    subst this
    refine ⟨by simp [Builtin.lenOf], by simp [Body.len], fun c hc => ?_⟩
    have : c = 0 := by omega
    subst this
    exact ⟨[], fun _ _ => by simp [Builtin.firstCells], by simp [RBd, Body.seg, Body.len]⟩
  · rename_i b i q n' es'
    obtain ⟨hes, h⟩ := bifS h
    have := Nat.eq_of_beq_eq_true hes
    subst this
    split at h
    · rename_i k hk
      injection h with h; injection h with h1 h2; injection h2 with h2 h3; injection h3 with h3 h4; injection h4 with h4 h5
      subst h1; subst h2; subst h4; subst h5
      simp only [RV, RV1, RC] at hv
      obtain ⟨ad, cap, rfl, hnc, hcap⟩ := hv
      rw [mulE_eq]
      refine ⟨by simp [Builtin.lenOf], Body.seg_len hxy, fun c hc => ?_⟩
      have hsegc : ((k.body.seg q (n' * es')).seg 0 (c * es')).len = c * es' := Body.seg_len (by rw [Body.seg_len hxy]; simpa using Nat.mul_le_mul_right _ hc)
      by_cases hc0 : c * es' = 0
      · refine ⟨[], fun w2 _ => ?_, ?_⟩
        · cases ad with
          | none => simp [Builtin.firstCells]
          | some ad => simp [Builtin.firstCells, hc0, loadCells_zero]
        · exact ⟨by rw [hsegc, hc0]; rfl, fun j v hv => by simp at hv⟩
      · have hcpos : c ≠ 0 := fun h => hc0 (by rw [h, Nat.zero_mul])
        rcases hcap with hcap | ⟨l, hl, rfl, _⟩
        · omega
        · obtain ⟨l', hl', hB⟩ := hm.blk _ _ _ hk
          rw [hl] at hl'
          injection hl' with hl'
          subst hl'
          have hle : c * es' ≤ n' * es' := Nat.mul_le_mul_right _ hc
          have hle2 : q + c * es' ≤ k.len := by omega
          obtain ⟨vs, hr, hrb⟩ := hB.load P hle2
          refine ⟨vs, fun w2 hw2 => by simpa [Builtin.firstCells] using hr w2 hw2, hrb.congr ?_ ?_⟩
          · rw [Body.seg_len hle2, hsegc]
          · intro j hj
            rw [Body.seg_len hle2] at hj
            rw [Body.seg_get j hj, Body.seg_get j (by simpa using hj), Nat.zero_add, Body.seg_get j (by omega)]
    · simp at h
  · rename_i str
    obtain ⟨hes, h⟩ := bifS h
    have := Nat.eq_of_beq_eq_true hes
    subst this
    injection h with h; injection h with h1 h2; injection h2 with h2 h3
    subst h1; subst h2
    have := hv.str
    subst this
    refine ⟨by simp [Builtin.lenOf], by simp [Body.len], fun c hc => ?_⟩
    refine ⟨((str.data.toList.map fun c => (c.toNat : Int)).map (Value.int .u8)).take c, fun w2 _ => ?_, ?_⟩
    · simp only [Builtin.firstCells, Sem.run_pure]
      congr 1
      apply Array.ext'
      simp [ByteArray.data_extract, Function.comp_def]
    · have := (RBd.of_ints (φ := φ) (k := .u8) (l := str.data.toList.map fun c => (c.toNat : Int))).seg (o := 0) (n := c * 1) (by simpa [Body.len] using hc)
      simpa using this
  · simp at h
theorem minN_eq (h : H) (x y : Nat) : minN h x y = min x y := by
  unfold minN
  split
  · rfl
  · cases hb : Nat.ble x y with
    | true => have := Nat.le_of_ble_eq_true hb; simp; omega
    | false =>
      have : ¬ x ≤ y := fun h => by rw [Nat.ble_eq_true_of_le h] at hb; simp at hb
      simp; omega
theorem s_copy {c : Call} {t u el s : Nat} {x z : Operand} {y y2 : Opd} {h : H} (hop : o.op = .call c) (hcal : c.callee = .builtin .copy) (hargs : c.args.toList = [x, z]) (htys : c.argTypes.toList = [t, u]) (hx : cOpd x = some y) (hz : cOpd z = some y2)
    (ht : P.underlying t = some (.slice el)) (hs : sizeT P el = some s) (hE : EV φ T a) (hm : RM φ m w) (hv : vop (.copy s y y2) T m nid h = some e) (hcs : ∀ q ∈ e.cs, q) : Res P o a w φ m nid e := by
  have h1 := hE x y hx
  have h2 := hE z y2 hz
  have ha : c.args = #[x, z] := by simpa using congrArg List.toArray hargs
  have hat : c.argTypes = #[t, u] := by simpa using congrArg List.toArray htys
  simp only [vop] at hv
  split at hv
  · rename_i n sb rd p1 p2 b i q l es' hsrc hdst
    rw [hdst] at h1
    split at hv
    · rename_i k hk
      split at hv
      · rename_i r cs hw hc
        obtain ⟨hb, hv⟩ := bifS hv
        injection hv with hv
        subst hv
        simp only [Bool.and_eq_true] at hb
        have hes := Nat.eq_of_beq_eq_true hb.1
        subst hes
        have hown := hb.2
        have hq : p1 ≤ p2 ∧ q + l * es' ≤ k.len := chk_ok hc (fun z hz => hcs z hz)
        obtain ⟨hlen, hsl, hfirst⟩ := src_run (P := P) hsrc hq.1 h2 hm
        rw [mulE_eq, minN_eq] at hw
        obtain ⟨vs, hvr, hvb⟩ := hfirst (min n l) (by omega)
        have hsegl : (sb.seg 0 (min n l * es')).len = min n l * es' := Body.seg_len (by rw [hsl]; simpa using Nat.mul_le_mul_right _ (by omega))
        simp only [RV, RV1, RC] at h1
        obtain ⟨ad, cap, hval, hnc, hcap⟩ := h1
        obtain ⟨lc, hlc, hB⟩ := hm.blk _ _ _ hk
        have hfit : q + (sb.seg 0 (min n l * es')).len ≤ k.len := by
          rw [hsegl]
          have : min n l * es' ≤ l * es' := Nat.mul_le_mul_right _ (by omega)
          omega
        have hst : ∀ dT, (Builtin.copy_ #[t, u] dT #[a.eval x, a.eval z]).run P w = .ok (.int .i64 ((min n l : Nat) : Int)) (w.setCells lc.r (lc.s + q) vs) := by
          intro dT
          have hvr' : (Builtin.firstCells es' (Nat.min n l) (a.eval z)).run P w = .ok vs.toArray w := hvr w rfl
          have hmin : ((Nat.min n l : Nat) : Int) = ((min n l : Nat) : Int) := rfl
          generalize a.eval z = az at hlen hvr'
          cases hvs : vs with
          | nil =>
            rw [hvs] at hvr'
            cases ad with
            | none => simp [Builtin.copy_, hval, run_underlying ht, hlen, run_sizeT hs, hvr', goInt, World.setCells, hmin]
            | some ad => simp [Builtin.copy_, hval, run_underlying ht, hlen, run_sizeT hs, hvr', goInt, storeCells, World.setCells, hmin]
          | cons v0 vr =>
            have hpos : 0 < min n l * es' := by have := hvb.1; rw [hsegl, hvs] at this; simp at this; omega
            have hlpos : min n l ≠ 0 := fun h => by rw [h, Nat.zero_mul] at hpos; omega
            rcases hcap with hcap | ⟨l2, hl2, rfl, _⟩
            · omega
            · rw [hlc] at hl2
              injection hl2 with hl2
              subst hl2
              have hsc := storeCells_run (P := P) hB hown (q := q) (vs := vs) (by rw [hvb.1]; exact hfit) hvb.one
              rw [hvs] at hsc
              rw [hvs] at hvr'
              simp [Builtin.copy_, hval, run_underlying ht, hlen, run_sizeT hs, hvr', hsc, goInt, hmin]
        refine ⟨.int .i64 ((min n l : Nat) : Int), w.setCells lc.r (lc.s + q) vs, φ, fun next Q => ?_, by rw [minN_eq]; exact rv_int, by
          have hS := step_write (nid := nid) hm hk hw hfit hown hvb hlc
          exact hS⟩
        have hrun : (execOp a.eval o).run P w = .ok (.value (.int .i64 ((min n l : Nat) : Int))) (w.setCells lc.r (lc.s + q) vs) := by
          simp only [execOp, hop, resolve, hcal, Sem.run_bind, Sem.run_pure, Result.andThen_ok, invoke, builtin, ha, hat]
          have := hst o.type
          simp [this]
        rw [hrun]
        rfl
      · simp at hv
    · simp at hv
  · simp at hv
end Go.Proofs.Ytohleiikedpmkaa.Vm

namespace Go.Proofs.Ytohleiikedpmkaa.Vm
open Go
variable {P : Program} {o : Oper} {a : Act} {w : World} {φ : Phi} {m : Mem} {nid : Nat} {e : Eff} {T : Nat → V}
theorem growBy_le (need : Nat) : ∀ (rounds c : Nat), c ≤ 2 * need → 256 ≤ c → Builtin.growBy need rounds c ≤ 2 * need + 2 * need
  | 0, c, h, _ => by simp [Builtin.growBy]; omega
  | r + 1, c, h, h2 => by
    simp only [Builtin.growBy]
    split
    · omega
    · exact growBy_le need r _ (by omega) (by omega)
theorem nextcap_le {need cap : Nat} (h : cap < need) : Builtin.nextslicecap need cap ≤ 4 * need := by
  unfold Builtin.nextslicecap
  split
  · omega
  · split
    · omega
    · have := growBy_le need 4 cap (by omega) (by omega)
      omega
theorem zeroCells_size (z : Array Value) (n : Nat) : (Builtin.zeroCells z n).size = n * z.size := by simp [Builtin.zeroCells]
theorem cut_cap {need old : Nat} {el : TypeId} (t : Nat) : need ≤ Question.cut (.appendCap need old el) t := by simp only [Question.cut]; omega
def inPl (w : World) (base : Option Addr) (off : Nat) (vs : List Value) : World :=
  match base with
  | some ad => w.setCells ad.block (ad.add off).off vs
  | none => w
theorem append_run {t u el bytes es l n cap : Nat} {d : TypeDesc} {i : TypeInfo} {z : List C} {base : Option Addr} {val : Value} {vs0 vs : List Value} {dT : Nat}
    (ht : P.underlying t = some (.slice el)) (hu : P.underlying u = some d) (hd : ∀ k, d ≠ .int k) (hi : P.info? el = some i) (hes : i.size = es) (hby : i.bytes + 1 = bytes) (hz : zeroC P el = some z) (hzl : z.length = es)
    (hlen : (Builtin.lenOf val).run P w = .ok n w) (hnew : (Builtin.firstCells es n val).run P w = .ok vs.toArray w) (_hnl : vs.length = n * es)
    (hnew' : (Builtin.firstCells es n val).run P w.drew = .ok vs.toArray w.drew) (hold : (Builtin.firstCells es l (.slice base l cap)).run P w.drew = .ok vs0.toArray w.drew) (_h0l : vs0.length = l * es) (hroom : bytes * (l + n) ≤ 4398046511104) :
    (l + n ≤ cap → (∀ ad, base = some ad → (storeCells (ad.add (l * es)) vs).run P w = .ok () (w.setCells ad.block (ad.add (l * es)).off vs)) →
      (Builtin.append_ #[t, u] dT #[.slice base l cap, val]).run P w = .ok (.slice base (l + n) cap) (inPl w base (l * es) vs)) ∧
    (cap < l + n → ∃ (nc : Nat) (rest : List Value), l + n ≤ nc ∧ rest.length = (nc - (l + n)) * es ∧
      (Builtin.append_ #[t, u] dT #[.slice base l cap, val]).run P w = .ok (.slice (some ⟨w.heap.size, 0, none⟩) (l + n) nc) (w.drew.alloc (.cells (vs0 ++ vs ++ rest).toArray el))) := by
  have hs : sizeT P el = some es := by simp [sizeT, hi, hes]
  have hti : (typeInfo el).run P w = .ok i w := by simp [typeInfo, hi]
  obtain ⟨zv, hzr, hzz⟩ := zeroC_rel (φ := fun _ _ => none) hz
  have hzs : zv.cells.size = es := by have := hzz.length; simp at this; omega
  constructor
  · intro hle hst
    cases base with
    | none =>
      simp [Builtin.append_, run_underlying ht, run_underlying hu, run_sizeT hs, hlen, hnew, hle, inPl]
    | some ad =>
      have := hst ad rfl
      simp [Builtin.append_, run_underlying ht, run_underlying hu, run_sizeT hs, hlen, hnew, hle, this, inPl]
  · intro hlt
    have hnle : ¬ (l + n ≤ cap) := by omega
    have hmul : bytes * (l + n) = i.bytes * (l + n) + (l + n) := by rw [← hby, Nat.succ_mul]
    have hb2 : ¬ (Builtin.nextslicecap (l + n) cap * i.bytes > 2 ^ 48) := by
      have h1 := nextcap_le hlt
      have h2 : Builtin.nextslicecap (l + n) cap * i.bytes ≤ 4 * (l + n) * i.bytes := Nat.mul_le_mul_right _ h1
      have h3 : 4 * (l + n) * i.bytes = 4 * (i.bytes * (l + n)) := by rw [Nat.mul_assoc, Nat.mul_comm (l + n)]
      omega
    have hb1 : ¬ ((9223372036854775807 : Int) < (l : Int) + (n : Int) ∧ i.bytes = 0) := by
      rintro ⟨h1, _⟩
      omega
    have hb3 : ¬ (281474976710656 < Builtin.nextslicecap (l + n) cap * i.bytes) := hb2
    refine ⟨Question.cut (.appendCap (l + n) cap el) (w.tape w.drawn (.appendCap (l + n) cap el)), (Builtin.zeroCells zv.cells (Question.cut (.appendCap (l + n) cap el) (w.tape w.drawn (.appendCap (l + n) cap el)) - (l + n))).toList, cut_cap _, by simp [zeroCells_size, hzs], ?_⟩
    have hzr' := hzr w.drew
    have hti' : (typeInfo el).run P w.drew = .ok i w.drew := by simp [typeInfo, hi]
    simp [Builtin.append_, run_underlying ht, run_underlying hu, run_sizeT hs, hlen, hnle, hti, hti', hb1, hb3, Question.forced, hnew', hold, hzr', newRow]
    congr 1
    congr 1
    apply Array.ext'
    simp
end Go.Proofs.Ytohleiikedpmkaa.Vm

namespace Go.Proofs.Ytohleiikedpmkaa.Vm
open Go
variable {P : Program} {o : Oper} {a : Act} {w : World} {φ : Phi} {m : Mem} {nid : Nat} {e : Eff} {T : Nat → V}
theorem RM.drew (h : RM φ m w) : RM φ m w.drew := ⟨h.glob, fun b i k hk => by
  obtain ⟨l, hl, H⟩ := h.blk b i k hk
  exact ⟨l, hl, ⟨H.own, H.fits, H.exact, H.there, H.cell, H.free⟩⟩, h.inj⟩
theorem isSome_of_shape {r j sz : Nat} {T : TypeId} (h : w.shape? r = some (T, sz)) (hj : j < sz) : (w.cell? ⟨r, j, none⟩).isSome = true := by
  unfold World.shape? at h
  unfold World.cell?
  split at h
  · rename_i c el fr hc
    injection h with h
    injection h with h1 h2
    simp only [hc]
    simp [h2, hj]
  · simp at h
theorem step_phantom {k : Blk} (hf : φ nid 0 = none) (hk : k.own = true) (hl : k.len = 0) (hex : k.ex = false) (wr : List Nat) : Step φ (φ.put nid ⟨0, 0, 0, true⟩) m [(nid, .one k)] wr nid w w := by
  have hput : (φ.put nid ⟨0, 0, 0, true⟩) nid 0 = some ⟨0, 0, 0, true⟩ := by simp [Phi.put]
  refine ⟨Phi.put_le hf, ?_, Keeps.refl _ _, ?_, ?_, ?_⟩
  · intro b i l h
    unfold Phi.put at h
    split at h
    · rename_i h'; obtain ⟨rfl, rfl⟩ := h'; exact .inr ⟨Nat.le_refl _, by unfold WW; omega⟩
    · exact .inl h
  · intro b i k' h
    obtain ⟨rfl, rfl, rfl⟩ := look_one h
    exact ⟨_, hput, hk.symm, by simp [hl], fun he => (by rw [hex] at he; simp at he), fun h => absurd h (by simp), fun j hj => by omega, fun _ j hj => by simp at hj⟩
  · intro b i k' l h hl' hz
    obtain ⟨rfl, rfl, rfl⟩ := look_one h
    rw [hput] at hl'
    injection hl' with hl'
    subst hl'
    simp at hz
  · intro b i k l b' i' k' l' h h' _ _ _ _ _ _
    obtain ⟨rfl, rfl, rfl⟩ := look_one h
    obtain ⟨rfl, rfl, rfl⟩ := look_one h'
    exact ⟨rfl, rfl⟩
theorem step_inplace {b q ln : Nat} {k : Blk} {r s : Body} {lc : Loc} {vs : List Value} (hf : φ nid 0 = none) (hm : RM φ m w) (hk : look m b 0 = some k) (hlc : φ b 0 = some lc) (hown : k.own = true) (hcat : (k.body.seg q ln).cat s = some r) (hq : q + ln ≤ k.len)
    (hvs : RBd φ s vs) (hfit : lc.s + q + ln + s.len ≤ lc.sz) (hz : 0 < lc.sz) :
    Step φ (φ.put nid ⟨lc.r, lc.s + q, lc.sz, true⟩) m [(nid, .one ⟨true, false, r⟩)] [b] nid w (w.setCells lc.r (lc.s + q + ln) vs) := by
  have hle : φ.le (φ.put nid ⟨lc.r, lc.s + q, lc.sz, true⟩) := Phi.put_le hf
  have hput : (φ.put nid ⟨lc.r, lc.s + q, lc.sz, true⟩) nid 0 = some ⟨lc.r, lc.s + q, lc.sz, true⟩ := by simp [Phi.put]
  obtain ⟨lc', hlc', hB⟩ := hm.blk _ _ _ hk
  rw [hlc] at hlc'
  injection hlc' with hlc'
  subst hlc'
  have hlow : lc.own = true := by rw [hB.own]; exact hown
  have hsl : (k.body.seg q ln).len = ln := Body.seg_len hq
  have hrl : r.len = ln + s.len := by rw [Body.cat_len hcat, hsl]
  obtain ⟨TT, hsh⟩ := hB.there hz
  refine ⟨hle, ?_, ?_, ?_, ?_, ?_⟩
  · intro b' i l h
    unfold Phi.put at h
    split at h
    · rename_i h'; obtain ⟨rfl, rfl⟩ := h'; exact .inr ⟨Nat.le_refl _, by unfold WW; omega⟩
    · exact .inl h
  · exact keeps_setCells lc.r ⟨b, 0, k, lc, by simp, hk, hlc, hlow, hz, rfl⟩ vs _ w
  · intro b' i k' h
    obtain ⟨rfl, rfl, rfl⟩ := look_one h
    refine ⟨_, hput, rfl, ?_, fun he => by simp at he, fun _ => ⟨TT, by rw [shape_setCells]; exact hsh⟩, fun j hj => ?_, fun _ j hj => by rw [World.frozen?_setCells]; exact hB.free hlow j hj⟩
    · show lc.s + q + r.len ≤ lc.sz
      omega
    · have hj' : j < ln + s.len := by simpa [Blk.len, hrl] using hj
      by_cases hin : j < ln
      · obtain ⟨v, hv, hr⟩ := hB.cell (q + j) (by omega)
        refine ⟨v, ?_, ?_⟩
        · show (w.setCells lc.r (lc.s + q + ln) vs).cell? ⟨lc.r, lc.s + q + j, none⟩ = some v
          rw [World.cell?_setCells_out _ _ _ _ _ (fun _ _ => .inl (by show lc.s + q + j < lc.s + q + ln; omega)), Nat.add_assoc, hv]
        · show RC _ (r.get j) v
          rw [Body.cat_l hcat j (by omega), Body.seg_get j hin]
          exact hr.mono hle
      · have hjv : j - ln < vs.length := by rw [hvs.1]; omega
        refine ⟨vs[j - ln], ?_, ?_⟩
        · show (w.setCells lc.r (lc.s + q + ln) vs).cell? ⟨lc.r, lc.s + q + j, none⟩ = _
          have := World.cell?_setCells_in lc.r vs (lc.s + q + ln) w (fun i hi => isSome_of_shape hsh (by have := hvs.1; omega)) (j - ln) hjv
          rw [← this]
          congr 2; omega
        · show RC _ (r.get j) _
          rw [Body.cat_r hcat j (by omega) (by omega), hsl]
          exact (hvs.2 (j - ln) _ (by simp [hjv])).mono hle
  · intro b' i k' l h hl' _
    obtain ⟨rfl, rfl, rfl⟩ := look_one h
    rw [hput] at hl'
    injection hl' with hl'
    subst hl'
    exact .inr (.inl ⟨b, 0, k, lc, by simp, hk, hlc, hlow, hz, rfl⟩)
  · intro b i k l b' i' k' l' h h' _ _ _ _ _ _
    obtain ⟨rfl, rfl, rfl⟩ := look_one h
    obtain ⟨rfl, rfl, rfl⟩ := look_one h'
    exact ⟨rfl, rfl⟩
theorem Step.moreWr {φ' : Phi} {up : Mem} {wr wr' : List Nat} {w' : World} (h : Step φ φ' m up wr nid w w') (hw : ∀ b ∈ wr, b ∈ wr') : Step φ φ' m up wr' nid w w' :=
  ⟨h.le, h.new, h.keeps.imp fun _ _ ⟨b, i, k, l, hb, r⟩ => ⟨b, i, k, l, hw b hb, r⟩, h.blk, fun b i k l h1 h2 h3 => by
    rcases h.src b i k l h1 h2 h3 with h4 | ⟨b0, i0, k0, l0, hb, r⟩ | h4
    · exact .inl h4
    · exact .inr (.inl ⟨b0, i0, k0, l0, hw b0 hb, r⟩)
    · exact .inr (.inr h4), h.inj⟩
theorem s_app {c : Call} {t u el : Nat} {d : TypeDesc} {i : TypeInfo} {z : List C} {x zz : Operand} {y y2 : Opd} {h : H} (hop : o.op = .call c) (hcal : c.callee = .builtin .append) (hargs : c.args.toList = [x, zz]) (htys : c.argTypes.toList = [t, u]) (hx : cOpd x = some y) (hzz : cOpd zz = some y2)
    (ht : P.underlying t = some (.slice el)) (hu : P.underlying u = some d) (hd : ∀ k, d ≠ .int k) (hi : P.info? el = some i) (hz : zeroC P el = some z) (hzl : z.length = i.size) (h0 : 0 < i.size) (hf : φ nid 0 = none) (hE : EV φ T a) (hm : RM φ m w) (hv : vop (.app i.size (i.bytes + 1) y y2) T m nid h = some e) (hcs : ∀ q ∈ e.cs, q) : Res P o a w φ m nid e := by
  have h1 := hE x y hx
  have h2 := hE zz y2 hzz
  have ha : c.args = #[x, zz] := by simpa using congrArg List.toArray hargs
  have hat : c.argTypes = #[t, u] := by simpa using congrArg List.toArray htys
  have hrun : ∀ v w', (Builtin.append_ #[t, u] o.type #[a.eval x, a.eval zz]).run P w = .ok v w' → (execOp a.eval o).run P w = .ok (.value v) w' := by
    intro v w' hvv
    simp only [execOp, hop, resolve, hcal, Sem.run_bind, Sem.run_pure, Result.andThen_ok, invoke, builtin, ha, hat]
    simp [hvv]
  simp only [vop] at hv
  split at hv
  · rename_i n sb rd p1 p2 hsrc hdst
    rw [hdst] at h1
    have hval := h1.nils
    split at hv
    · rename_i cs hc
      injection hv with hv
      subst hv
      obtain ⟨q1, q2⟩ : p1 ≤ p2 ∧ (i.bytes + 1) * n ≤ 4398046511104 := chk_ok hc (fun z hz => hcs z hz)
      obtain ⟨hlen, hsl, hfirst⟩ := src_run (P := P) hsrc q1 h2 hm
      obtain ⟨vs, hvr, hvb0⟩ := hfirst n (Nat.le_refl _)
      have hvb : RBd φ sb vs := hvb0.congr (by rw [Body.seg_len (by omega), hsl]) (fun j hj => by rw [Body.seg_len (by omega)] at hj; rw [Body.seg_get j hj, Nat.zero_add])
      have hr := append_run (P := P) (w := w) (dT := o.type) (vs0 := []) (base := none) (cap := 0) (l := 0) ht hu hd hi rfl rfl hz hzl hlen (hvr w rfl) (by rw [hvb.1, hsl]) (hvr w.drew rfl) (by simp [Builtin.firstCells]) (by simp) (by simpa using q2)
      by_cases hn : n = 0
      · subst hn
        have h3 := hr.1 (by omega) (fun ad had => by simp at had)
        refine ⟨_, w, _, fun next Q => by rw [hrun _ _ (by rw [hval]; exact h3)]; rfl, ?_, step_phantom hf rfl (by simp [Blk.len, hsl]) rfl []⟩
        exact rv_c ⟨none, 0, rfl, by simp, .inl rfl⟩
      · obtain ⟨nc, rest, k1, k2, k3⟩ := hr.2 (by omega)
        have hsz : ([] ++ vs ++ rest).toArray.size = nc * i.size := by
          have := hvb.1
          simp [k2, this, hsl]
          rw [← Nat.add_mul]; congr 1; omega
        refine ⟨_, w.drew.alloc (.cells ([] ++ vs ++ rest).toArray el), _, fun next Q => by rw [hrun _ _ (by rw [hval]; exact k3)]; rfl, ?_, step_alloc (w := w) (w' := w.drew.alloc (.cells ([] ++ vs ++ rest).toArray el)) hf ([] ++ vs ++ rest).toArray el (0, 0) rfl rfl rfl rfl (fun _ _ => by simp) ⟨true, false, sb⟩ rfl (n * i.size) (by simp [Blk.len, hsl]) (by rw [hsz]; exact Nat.mul_le_mul_right _ (by omega)) (fun h => by simp at h) ?_⟩
        · refine rv_c ⟨_, nc, by rw [Nat.zero_add], by omega, .inr ⟨_, by simp [Phi.put]; rfl, by simp, fun _ => ?_⟩⟩
          have hq := hsz
          simp at hq ⊢
          omega
        · have e1 : ([] ++ vs ++ rest).toArray.toList.take (n * i.size) = vs := by
            have := hvb.1
            simp
            rw [List.take_append, List.take_of_length_le (by omega)]
            simp [this, hsl]
          rw [e1]
          exact hvb
    · simp at hv
  · rename_i n sb rd p1 p2 b ii q l es' hsrc hdst
    rw [hdst] at h1
    split at hv
    · rename_i k hk
      split at hv
      · rename_i r cs hcat hc
        obtain ⟨hb, hv⟩ := bifS hv
        injection hv with hv
        subst hv
        simp only [Bool.and_eq_true] at hb
        obtain ⟨⟨⟨hb1, hown⟩, hb2⟩, hb3⟩ := hb
        have hes := Nat.eq_of_beq_eq_true hb1
        have hii := Nat.eq_of_beq_eq_true hb2
        subst hes
        subst hii
        obtain ⟨q1, q2, q3⟩ : p1 ≤ p2 ∧ (i.bytes + 1) * (l + n) ≤ 4398046511104 ∧ q + l * i.size ≤ k.len := chk_ok hc (fun z hz => hcs z hz)
        obtain ⟨hlen, hsl, hfirst⟩ := src_run (P := P) hsrc q1 h2 hm
        obtain ⟨vs, hvr, hvb0⟩ := hfirst n (Nat.le_refl _)
        have hvb : RBd φ sb vs := hvb0.congr (by rw [Body.seg_len (by omega), hsl]) (fun j hj => by rw [Body.seg_len (by omega)] at hj; rw [Body.seg_get j hj, Nat.zero_add])
        rw [mulE_eq] at hcat
        have hsegl : (k.body.seg q (l * i.size)).len = l * i.size := Body.seg_len q3
        have hrl : r.len = l * i.size + n * i.size := by rw [Body.cat_len hcat, hsegl, hsl]
        simp only [RV, RV1, RC] at h1
        obtain ⟨ad, cap, hval, hnc, hcap⟩ := h1
        obtain ⟨lc, hlc, hB⟩ := hm.blk _ _ _ hk
        have hlow : lc.own = true := by rw [hB.own]; exact hown
        obtain ⟨vs0, hvs0, hvs0b⟩ : ∃ vs0 : List Value, (∀ w2 : World, w2.heap = w.heap → (Builtin.firstCells i.size l (.slice ad l cap)).run P w2 = .ok vs0.toArray w2) ∧ RBd φ (k.body.seg q (l * i.size)) vs0 := by
          by_cases hl0 : l = 0
          · subst hl0
            refine ⟨[], fun w2 _ => ?_, by rw [hsegl]; simp, fun j v hv => by simp at hv⟩
            cases ad with
            | none => simp [Builtin.firstCells]
            | some ad => simp [Builtin.firstCells, loadCells_zero]
          · rcases hcap with hcap | ⟨l2, hl2, rfl, _⟩
            · omega
            · rw [hlc] at hl2
              injection hl2 with hl2
              subst hl2
              obtain ⟨vs0, hr0, hrb0⟩ := hB.load P q3
              exact ⟨vs0, fun w2 hw2 => by simpa [Builtin.firstCells] using hr0 w2 hw2, hrb0⟩
        have hr := append_run (P := P) (w := w) (dT := o.type) (vs0 := vs0) (base := ad) (cap := cap) (l := l) ht hu hd hi rfl rfl hz hzl hlen (hvr w rfl) (by rw [hvb.1, hsl]) (hvr w.drew rfl) (hvs0 w.drew rfl) (by rw [hvs0b.1, hsegl]) q2
        by_cases hin : l + n ≤ cap
        · by_cases hc0 : cap = 0
          · have hl0 : l = 0 := by omega
            have hn0 : n = 0 := by omega
            subst hl0; subst hn0; subst hc0
            have hvs : vs = [] := by
              have := hvb.1
              rw [hsl] at this
              cases vs with
              | nil => rfl
              | cons _ _ => simp at this
            subst hvs
            have h3 := hr.1 hin (fun ad' _ => by simp [storeCells, World.setCells])
            have hww : inPl w ad (0 * i.size) [] = w := by cases ad <;> rfl
            rw [hww] at h3
            refine ⟨_, w, _, fun next Q => by rw [hrun _ _ (by rw [hval]; exact h3)]; rfl, ?_, step_phantom hf rfl (by simp [Blk.len, hrl]) rfl [b]⟩
            exact rv_c ⟨ad, 0, rfl, by simp [addO_eq], .inl rfl⟩
          · rcases hcap with hcap | ⟨l2, hl2, rfl, hroom⟩
            · omega
            · rw [hlc] at hl2
              injection hl2 with hl2
              subst hl2
              have hroom' := hroom hlow
              have hcapm : l * i.size + n * i.size ≤ cap * i.size := by rw [← Nat.add_mul]; exact Nat.mul_le_mul_right _ hin
              have hz1 : 0 < lc.sz := by
                have : 0 < cap * i.size := Nat.mul_pos (by omega) h0
                omega
              obtain ⟨TT, hsh⟩ := hB.there hz1
              have hst : ∀ ad', some (⟨lc.r, lc.s + q, none⟩ : Addr) = some ad' → (storeCells (ad'.add (l * i.size)) vs).run P w = .ok () (w.setCells ad'.block (ad'.add (l * i.size)).off vs) := by
                intro ad' had
                injection had with had
                subst had
                rw [add_at]
                have := run_storeCells_cells (P := P) lc.r (lc.s + q + l * i.size) vs 0 w (fun j hj => isSome_of_shape hsh (by have := hvb.1; omega)) (fun j hj => hB.free hlow _ (by have := hvb.1; omega)) hvb.one
                simpa using this
              have h3 := hr.1 hin hst
              simp only [inPl, add_at] at h3
              refine ⟨_, _, _, fun next Q => by rw [hrun _ _ (by rw [hval]; exact h3)]; rfl, ?_, step_inplace hf hm hk hlc hown hcat q3 hvb (by rw [hsl]; omega) hz1⟩
              exact rv_c ⟨_, cap, by rw [addO_eq], by rw [addO_eq]; exact hin, .inr ⟨_, by simp [Phi.put]; rfl, by simp, fun _ => by simpa using hroom'⟩⟩
        · obtain ⟨nc, rest, k1, k2, k3⟩ := hr.2 (by omega)
          have hsz : (vs0 ++ vs ++ rest).toArray.size = nc * i.size := by
            have e1 := hvb.1
            have e2 := hvs0b.1
            simp [k2, e1, e2, hsl, hsegl]
            rw [← Nat.add_mul, ← Nat.add_mul]; congr 1; omega
          have hbd : RBd φ r (vs0 ++ vs) := by
            refine ⟨by simp [hvs0b.1, hvb.1, hsegl, hrl, hsl], fun j v hv => ?_⟩
            rw [List.getElem?_append] at hv
            by_cases hj : j < vs0.length
            · rw [if_pos hj] at hv
              rw [Body.cat_l hcat j (by rw [hsegl]; have := hvs0b.1; omega)]
              exact hvs0b.2 j v hv
            · rw [if_neg hj] at hv
              have hjj := (List.getElem?_eq_some_iff.1 hv).1
              have e1 := hvb.1
              have e2 := hvs0b.1
              rw [Body.cat_r hcat j (by omega) (by omega), hsegl]
              have : j - l * i.size = j - vs0.length := by omega
              rw [this]
              exact hvb.2 _ v hv
          refine ⟨_, w.drew.alloc (.cells (vs0 ++ vs ++ rest).toArray el), _, fun next Q => by rw [hrun _ _ (by rw [hval]; exact k3)]; rfl, ?_, (step_alloc (w := w) (w' := w.drew.alloc (.cells (vs0 ++ vs ++ rest).toArray el)) hf (vs0 ++ vs ++ rest).toArray el (0, 0) rfl rfl rfl rfl (fun _ _ => by simp) ⟨true, false, r⟩ rfl (l * i.size + n * i.size) (by simp [Blk.len, hrl]) (by rw [hsz, ← Nat.add_mul]; exact Nat.mul_le_mul_right _ (by omega)) (fun h => by simp at h) ?_).moreWr (fun _ h => by simp at h)⟩
          · refine rv_c ⟨_, nc, by rw [addO_eq], by rw [addO_eq]; omega, .inr ⟨_, by simp [Phi.put]; rfl, by simp, fun _ => ?_⟩⟩
            have hq := hsz
            simp at hq ⊢
            omega
          · have e1 : (vs0 ++ vs ++ rest).toArray.toList.take (l * i.size + n * i.size) = vs0 ++ vs := by
              have e1 := hvb.1
              have e2 := hvs0b.1
              simp only [List.append_assoc]
              rw [← List.append_assoc, List.take_append, List.take_of_length_le (by simp; omega)]
              simp [e1, e2, hsl, hsegl]
            rw [e1]
            exact hbd
      · simp at hv
    · simp at hv
  · simp at hv
end Go.Proofs.Ytohleiikedpmkaa.Vm

namespace Go.Proofs.Ytohleiikedpmkaa.Vm
open Go
variable {P : Program} {o : Oper} {a : Act} {w : World} {φ : Phi} {m : Mem} {nid : Nat} {e : Eff} {T : Nat → V}
theorem push_modify {α : Type} (x : Array α) (y : α) (f : α → α) : (x.push y).modify x.size f = x.push (f y) := by
  apply Array.ext_getElem?
  intro i
  rw [Array.getElem?_modify, Array.getElem?_push, Array.getElem?_push]
  by_cases h : i = x.size
  · subst h; simp
  · simp [h]; intro h'; exact absurd h'.symm h
def s2arr (str : ByteArray) (cap : Nat) : Array Value := str.data.map (fun b => Value.int .u8 (b.toNat : Int)) ++ Array.replicate (cap - str.size) (.int .u8 0)
theorem s2arr_size (str : ByteArray) (cap : Nat) (h : str.size ≤ cap) : (s2arr str cap).size = cap := by
  have hs : str.data.size = str.size := rfl
  unfold s2arr
  rw [Array.size_append, Array.size_map, Array.size_replicate, hs]
  omega
theorem s_s2b {s d el : Nat} {x : Operand} {y : Opd} {h : H} (hop : o.op = .convert s d x) (hx : cOpd x = some y) (hs : P.underlying s = some .string) (hd : P.underlying d = some (.slice el)) (he : P.underlying el = some (.int .u8)) (hf : φ nid 0 = none) (hE : EV φ T a) (hv : vop (.s2b y) T m nid h = some e) : Res P o a w φ m nid e := by
  simp only [vop] at hv
  have h1 := hE x y hx
  split at hv
  · rename_i str hy
    rw [hy] at h1
    have hval := h1.str
    split at hv
    · rename_i cs hc
      have hcut := cut_cap (need := str.size) (old := 0) (el := el) (w.tape w.drawn (.appendCap str.size 0 el))
      generalize hcap : Question.cut (.appendCap str.size 0 el) (w.tape w.drawn (.appendCap str.size 0 el)) = cap at hcut
      have hsz := s2arr_size str cap hcut
      have hrun : (execOp a.eval o).run P w = .ok (.value (.slice (some ⟨w.heap.size, 0, none⟩) str.size cap)) ((w.drew.alloc (.cells (s2arr str cap) el)).freeze ⟨w.heap.size, cap, none⟩ 1) := by
        have hsh : (w.drew.alloc (.cells (s2arr str cap) el)).shape? w.heap.size = some (el, cap) := by
          have hq : (w.drew.alloc (.cells (s2arr str cap) el)).heap[w.heap.size]? = some (.cells (s2arr str cap) el) := by
            show (w.heap.push (.cells (s2arr str cap) el))[w.heap.size]? = _
            simp
          simp only [World.shape?, hq, hsz]
        have hsh' : (w.drew.alloc (.cells (str.data.map (fun b => Value.int .u8 (b.toNat : Int)) ++ Array.replicate (cap - str.size) (.int .u8 0)) el)).shape? w.heap.size = some (el, cap) := hsh
        simp [execOp, hop, hval, convert, run_underlying hs, run_underlying hd, run_underlying he, Conv.stringToBytes, Question.forced, hcap, newRow, markStringish, hsh', s2arr]
      refine res_alloc hf hv (s2arr str cap) el (cap, cap + 1) hrun ?_ rfl rfl rfl (fun j hj => ?_) rfl str.size (by simp [Blk.len, Body.len]) (by rw [hsz]; exact hcut) (fun h => by simp at h) ?_ ?_
      · simp only [World.freeze, World.alloc]
        rw [if_neg (by simp)]
        simp only [World.drew]
        rw [push_modify]
        simp
      · rw [hsz] at hj
        simp; omega
      · have e1 : (s2arr str cap).toList.take str.size = (str.data.toList.map fun c => (c.toNat : Int)).map (Value.int .u8) := by
          unfold s2arr
          rw [Array.toList_append, List.take_append, List.take_of_length_le (by simp), str_vals]
          simp
        rw [e1]
        exact RBd.of_ints
      · intro φ' h'
        refine rv_c ⟨_, cap, rfl, hcut, .inr ⟨_, h', by simp, fun _ => by rw [hsz]; simp⟩⟩
    · simp at hv
  · simp at hv
theorem shape_freeze (w : World) (a : Addr) (n r : Nat) : (w.freeze a n).shape? r = w.shape? r := by
  unfold World.freeze
  split
  · rfl
  · simp only [World.shape?, Array.getElem?_modify]
    by_cases h : a.block = r
    · rw [if_pos h]
      cases w.heap[r]? with
      | none => rfl
      | some o => cases o <;> rfl
    · rw [if_neg h]
theorem cell_freeze (w : World) (a : Addr) (n : Nat) (b : Addr) : (w.freeze a n).cell? b = w.cell? b := by
  unfold World.freeze
  split
  · rfl
  · simp only [World.cell?, Array.getElem?_modify]
    by_cases h : a.block = b.block
    · rw [if_pos h]
      cases w.heap[b.block]? with
      | none => rfl
      | some o => cases o <;> rfl
    · rw [if_neg h]
theorem step_mark {b : Nat} {k : Blk} {lc : Loc} {a : Addr} (hf : φ nid 0 = none) (hm : RM φ m w) (hk : look m b 0 = some k) (hlc : φ b 0 = some lc) (hown : k.own = true) (hz : 0 < lc.sz) (ha : a.block = lc.r) :
    Step φ (φ.put nid ⟨lc.r, lc.s, lc.sz, false⟩) m [(nid, .one ⟨false, k.ex, k.body⟩)] [b] nid w (w.freeze a 1) := by
  have hle : φ.le (φ.put nid ⟨lc.r, lc.s, lc.sz, false⟩) := Phi.put_le hf
  have hput : (φ.put nid ⟨lc.r, lc.s, lc.sz, false⟩) nid 0 = some ⟨lc.r, lc.s, lc.sz, false⟩ := by simp [Phi.put]
  obtain ⟨lc', hlc', hB⟩ := hm.blk _ _ _ hk
  rw [hlc] at hlc'
  injection hlc' with hlc'
  subst hlc'
  have hlow : lc.own = true := by rw [hB.own]; exact hown
  refine ⟨hle, ?_, ?_, ?_, ?_, ?_⟩
  · intro b' i l h
    unfold Phi.put at h
    split at h
    · rename_i h'; obtain ⟨rfl, rfl⟩ := h'; exact .inr ⟨Nat.le_refl _, by unfold WW; omega⟩
    · exact .inl h
  · refine ⟨?_, ?_, ?_, ?_, ?_⟩
    · unfold World.freeze; split <;> rfl
    · unfold World.freeze; split <;> rfl
    · unfold World.freeze; split <;> rfl
    · unfold World.freeze; split <;> simp
    · intro i hi hs
      have hne : a.block ≠ i := fun e => hs ⟨b, 0, k, lc, by simp, hk, hlc, hlow, hz, by rw [← ha, e]⟩
      unfold World.freeze
      split
      · rfl
      · simp only [Array.getElem?_modify, if_neg hne]
  · intro b' i k' h
    obtain ⟨rfl, rfl, rfl⟩ := look_one h
    refine ⟨_, hput, rfl, hB.fits, hB.exact, fun hz' => ?_, fun j hj => ?_, fun h => by simp at h⟩
    · rw [shape_freeze]; exact hB.there hz'
    · obtain ⟨v, hv, hr⟩ := hB.cell j hj
      exact ⟨v, by rw [cell_freeze]; exact hv, hr.mono hle⟩
  · intro b' i k' l h hl _
    obtain ⟨rfl, rfl, rfl⟩ := look_one h
    rw [hput] at hl
    injection hl with hl
    subst hl
    exact .inr (.inl ⟨b, 0, k, lc, by simp, hk, hlc, hlow, hz, rfl⟩)
  · intro b1 i l1 l2 b' i' k' l' h h' _ _ _ _ _ _
    obtain ⟨rfl, rfl, rfl⟩ := look_one h
    obtain ⟨rfl, rfl, rfl⟩ := look_one h'
    exact ⟨rfl, rfl⟩
theorem isSl_of {x : Option TypeDesc} {e : Nat} (h : isSl x = some e) : x = some (.slice e) := by
  unfold isSl at h
  split at h
  · injection h with h; subst h; rfl
  · simp at h
theorem s_cvs {s d s' el : Nat} {x : Operand} {y : Opd} {h : H} (hop : o.op = .convert s d x) (hx : cOpd x = some y) (hs : P.underlying s = some (.slice s')) (hd : P.underlying d = some (.slice el)) (he : P.underlying el = some (.int .u8)) (hsd : s = d) (hf : φ nid 0 = none) (hE : EV φ T a) (hm : RM φ m w) (hv : vop (.cvs y) T m nid h = some e) (hcs : ∀ q ∈ e.cs, q) : Res P o a w φ m nid e := by
  simp only [vop] at hv
  have h1 := hE x y hx
  split at hv
  · rename_i b q n es hy
    rw [hy] at h1
    split at hv
    · rename_i k hk
      obtain ⟨hown, hv⟩ := bifS hv
      rw [Bool.and_eq_true] at hown
      obtain ⟨hown, hes1⟩ := hown
      have hes1 := Nat.eq_of_beq_eq_true hes1
      subst hes1
      split at hv
      · rename_i p hp
        have hn : 1 ≤ n := by
          injection hv with hv
          subst hv
          exact chk_ok hp hcs
        injection hv with hv
        subst hv
        obtain ⟨ad, cap, hval, hcap, hc⟩ := h1
        rcases hc with hc | ⟨l, hl, ha, ho⟩
        · omega
        obtain ⟨l', hl', hB⟩ := hm.blk _ _ _ hk
        rw [hl] at hl'; injection hl' with hl'; subst hl'
        have hlow : l.own = true := by rw [hB.own]; exact hown
        have hes : 0 < l.sz := by
          have := ho hlow
          omega
        obtain ⟨TT, hsh⟩ := hB.there hes
        subst hsd
        obtain rfl : s' = el := by rw [hs] at hd; injection hd with hd; injection hd
        refine ⟨.slice ad n cap, w.freeze ⟨l.r, l.sz, none⟩ 1, φ.put nid ⟨l.r, l.s, l.sz, false⟩, fun next Q => ?_, ?_, step_mark hf hm hk hl hown hes rfl⟩
        · have hrun : (execOp a.eval o).run P w = .ok (.value (.slice ad n cap)) (w.freeze ⟨l.r, l.sz, none⟩ 1) := by
            subst ha
            simp [execOp, hop, hval, convert, run_underlying hs, run_underlying he, markStringish, hsh]
          rw [hrun]; rfl
        · refine rv_c ⟨_, cap, rfl, hcap, .inr ⟨⟨l.r, l.s, l.sz, false⟩, by simp [Phi.put], ha, fun h => by simp at h⟩⟩
      · simp at hv
    · simp at hv
  · simp at hv
theorem foldl_push (ns : List Int) : ∀ (s : ByteArray), ns.foldl (fun r n => r.push (UInt8.ofNat n.toNat)) s = ⟨s.data ++ (ns.map fun n => UInt8.ofNat n.toNat).toArray⟩ := by
  induction ns with
  | nil => intro s; simp
  | cons n ns ih =>
    intro s
    rw [List.foldl_cons, ih]
    congr 1
    apply Array.ext'
    simp [ByteArray.push]
theorem s_b2s {s d el : Nat} {x : Operand} {y : Opd} {h : H} (hop : o.op = .convert s d x) (hx : cOpd x = some y) (hs : P.underlying s = some (.slice el)) (hd : P.underlying d = some .string) (he : P.underlying el = some (.int .u8)) (hE : EV φ T a) (hm : RM φ m w) (hv : vop (.b2s y) T m nid h = some e) (hcs : ∀ q ∈ e.cs, q) : Res P o a w φ m nid e := by
  simp only [vop] at hv
  have h1 := hE x y hx
  have hrun : ∀ v, (Conv.bytesToString (a.eval x)).run P w = .ok v w → (∃ l n c, a.eval x = .slice l n c) → (execOp a.eval o).run P w = .ok (.value v) w := by
    rintro v hvv ⟨l, n, c, hl⟩
    rw [hl] at hvv
    simp [execOp, hop, hl, convert, run_underlying hs, run_underlying hd, run_underlying he, hvv]
  have key : ∀ {b i q n es : Nat} {k : Blk} {l : List Int} {cs : List Prop}, vv T y = .c (.sl b i q n es) → look m b i = some k → q + n ≤ k.len → (∀ vs, RBd φ (k.body.seg q n) vs → vs = l.map (Value.int .u8)) → readE (.c (.str ⟨(l.map fun n => UInt8.ofNat n.toNat).toArray⟩)) b cs = some e → Res P o a w φ m nid e := by
    intro b i q n es k l cs hy hk hq hvs hv
    rw [hy] at h1
    simp only [RV, RV1, RC] at h1
    obtain ⟨ad, cap, hval, hnc, hcap⟩ := h1
    obtain ⟨lc, hlc, hB⟩ := hm.blk _ _ _ hk
    obtain ⟨vs, hr, hrb⟩ := hB.load P hq
    have hvl := hvs vs hrb
    refine res_read hv (hrun (.string ⟨(l.map fun n => UInt8.ofNat n.toNat).toArray⟩) ?_ ⟨_, _, _, hval⟩) (rv_c (by simp [RC]))
    by_cases hn : n = 0
    · subst hn
      have hl0 : l = [] := by
        have := hrb.1
        rw [Body.seg_len hq, hvl] at this
        simpa using this
      subst hl0
      rw [hval]
      cases ad with
      | none => simp [Conv.bytesToString]; rfl
      | some ad =>
        have := run_bytesToString (P := P) w ad 0 cap [] (by simpa using loadCells_zero (P := P) (w := w) ad)
        rw [this]
        rfl
    · rcases hcap with hcap | ⟨l2, hl2, rfl, _⟩
      · omega
      · rw [hlc] at hl2
        injection hl2 with hl2
        subst hl2
        rw [hval, run_bytesToString (P := P) w _ n cap l (by rw [← hvl]; exact hr w rfl), foldl_push]
        congr 2
        simp
  split at hv
  · rename_i hy
    rw [hy] at h1
    have hval := h1.nils
    refine res_pure hv (hrun (.string .empty) ?_ ⟨_, _, _, hval⟩) (rv_c (by simp [RC]))
    rw [hval]
    simp [Conv.bytesToString]
  · rename_i b i q n es hy
    split at hv
    · rename_i l k hl hk
      split at hv
      · rename_i cs hc
        have hq : q + n ≤ k.len := chk_ok hc (fun z hz => hcs z (by rw [read_cs hv]; exact hz))
        refine key hy hk hq ?_ hv
        intro vs hvs
        simp only [seg?, hk] at hl
        injection hl with hl
        rw [hl] at hvs
        exact hvs.ints
      · simp at hv
    · rename_i qs k hl hk
      split at hv
      · rename_i l cs hai hc
        have hq : q + n ≤ k.len := chk_ok hc (fun z hz => hcs z (by rw [read_cs hv]; exact hz))
        refine key hy hk hq ?_ hv
        intro vs hvs
        simp only [seg?, hk] at hl
        injection hl with hl
        rw [hl, allInts_eq hai] at hvs
        have h2 := hvs.cells
        apply List.ext_getElem?
        intro j
        have hll := h2.length
        by_cases hj : j < l.length
        · obtain ⟨v, hv, hr⟩ := h2.get j (C.int .u8 l[j]) (by simp [hj])
          rw [hv]
          simp only [RC] at hr
          simp [hj, hr]
        · have : ¬ j < vs.length := by rw [← hll]; simpa using hj
          rw [List.getElem?_eq_none (by omega), List.getElem?_eq_none (by simp; omega)]
      · simp at hv
    · simp at hv
  · simp at hv
end Go.Proofs.Ytohleiikedpmkaa.Vm

namespace Go.Proofs.Ytohleiikedpmkaa.Vm
open Go
variable {P : Program} {o : Oper} {a : Act} {w : World} {φ : Phi} {m : Mem} {nid : Nat} {e : Eff} {T : Nat → V}
theorem sizeT_info {t : Nat} {i : TypeInfo} (h : P.info? t = some i) : sizeT P t = some i.size := by simp [sizeT, h]
theorem call_sound {c : Call} {i : I} {h : H} (hop : o.op = .call c) (hc : cCall P c o.type = some i) (hf : ∀ j, φ nid j = none) (hE : EV φ T a) (hm : RM φ m w) (hv : vop i T m nid h = some e) (hcs : ∀ q ∈ e.cs, q) : Res P o a w φ m nid e := by
  unfold cCall at hc
  split at hc
  · rename_i f hcal
    split at hc
    · rename_i fn l hfn hl
      cases hb : (fn.body.isSome && (fn.name != "runtime.NumGoroutine")) with
      | true => rw [hb] at hc; simp only [cond_true] at hc; injection hc with hc; subst hc; simp [vop] at hv
      | false =>
        rw [hb] at hc
        simp only [cond_false] at hc
        split at hc
        · rename_i x y z hbody
          obtain ⟨hn, hc⟩ := bifS hc
          injection hc with hc
          subst hc
          simp only [Bool.and_eq_true, beq_iff_eq] at hn
          exact s_add64 hop hcal hfn hbody hn.1 hn.2 hl hE hv hcs
        · simp at hc
    · simp at hc
  · split at hc
    · injection hc with hc; subst hc; simp [vop] at hv
    · simp at hc
  · rename_i hcal
    split at hc
    · rename_i x t ha hat
      split at hc
      · rename_i y hx ht
        injection hc with hc; subst hc
        exact s_len hop rfl hcal ha hat hx (.inl ⟨ht, rfl⟩) hE hv
      · rename_i y el hx ht
        injection hc with hc; subst hc
        exact s_len hop rfl hcal ha hat hx (.inr (.inl ⟨_, ht, rfl⟩)) hE hv
      · rename_i y n el hx ht
        injection hc with hc; subst hc
        exact s_len hop rfl hcal ha hat hx (.inr (.inr ⟨_, _, ht, rfl⟩)) hE hv
      · simp at hc
    · simp at hc
  · rename_i hcal
    split at hc
    · rename_i x y t u ha hat
      split at hc
      · rename_i x' y' el d hx hy ht hu
        split at hc
        · simp at hc
        · rename_i ii z hnd hi hz
          obtain ⟨hb, hc⟩ := bifS hc
          injection hc with hc; subst hc
          simp only [Bool.and_eq_true] at hb
          have h1 := Nat.eq_of_beq_eq_true hb.1
          have h2 : 0 < ii.size := Nat.lt_of_succ_le (Nat.le_of_ble_eq_true hb.2)
          exact s_app hop hcal ha hat hx hy ht hu (fun k hk => hnd k hk) hi hz h1 h2 (hf 0) hE hm hv hcs
        · simp at hc
      · simp at hc
    · simp at hc
  · rename_i hcal
    split at hc
    · rename_i x y t u ha hat
      split at hc
      · rename_i x' y' el hx hy ht
        split at hc
        · rename_i ii hi
          injection hc with hc; subst hc
          exact s_copy hop hcal ha hat hx hy ht (sizeT_info hi) hE hm hv hcs
        · simp at hc
      · simp at hc
    · simp at hc
  · rename_i hcal
    split at hc
    · rename_i x y ha
      injection hc with hc; subst hc
      exact s_mm (mx := false) hop hcal ha hE hv
    · rename_i x y z ha
      injection hc with hc; subst hc
      exact s_mm3 (mx := false) hop hcal ha hE hv
    · simp at hc
  · rename_i hcal
    split at hc
    · rename_i x y ha
      injection hc with hc; subst hc
      exact s_mm (mx := true) hop hcal ha hE hv
    · rename_i x y z ha
      injection hc with hc; subst hc
      exact s_mm3 (mx := true) hop hcal ha hE hv
    · simp at hc
  · simp at hc
theorem vop_sound {i : I} {h : H} (hc : cOp P o.op o.type = some i) (hf : ∀ j, φ nid j = none) (hE : EV φ T a) (hm : RM φ m w) (hv : vop i T m nid h = some e) (hcs : ∀ q ∈ e.cs, q) : Res P o a w φ m nid e := by
  cases hop : o.op <;> rw [hop] at hc <;> simp only [cOp] at hc
  case move x =>
    split at hc
    · rename_i y hx; injection hc with hc; subst hc; exact s_mv (.inl hop) hx hE hv
    · simp at hc
  case assign x =>
    split at hc
    · rename_i y hx; injection hc with hc; subst hc; exact s_mv (.inr hop) hx hE hv
    · simp at hc
  case pick c x y =>
    split at hc
    · rename_i c' x' y' h1 h2 h3; injection hc with hc; subst hc; exact s_pick hop h1 h2 h3 hE hv
    · simp at hc
  case alloc t =>
    split at hc
    · rename_i z hz; injection hc with hc; subst hc; exact s_zero hop hz (hf 0) hv
    · simp at hc
  case box t x =>
    split at hc
    · rename_i y hx; injection hc with hc; subst hc; exact s_box hop hx (hf 0) hE hv
    · simp at hc
  case build t ps =>
    split at hc
    · rename_i z fs hz ht
      split at hc
      · rename_i l hp hall; injection hc with hc; subst hc; exact s_build_struct hop hz ht hp hall hE hv
      · simp at hc
    · rename_i z n el hz ht
      split at hc
      · rename_i s hs
        split at hc
        · rename_i l hp; injection hc with hc; subst hc; exact s_build_array hop hz ht hs hp hE hv
        · simp at hc
      · simp at hc
    · simp at hc
  case buildSlice t n ps =>
    split at hc
    · rename_i el ht
      split at hc
      · rename_i s z hs hz
        split at hc
        · rename_i l hp
          obtain ⟨hb, hc⟩ := bifS hc
          injection hc with hc; subst hc
          simp only [Bool.and_eq_true, beq_iff_eq, decide_eq_true_eq] at hb
          exact s_buildSl hop hz ht hs hb.1.2 hb.2 hb.1.1 hp (hf 0) hE hv
        · simp at hc
      · simp at hc
    · simp at hc
  case load t x =>
    split at hc
    · rename_i y d s hx ht hs; injection hc with hc; subst hc; exact s_load hop hx ht hs hE hm hv hcs
    · simp at hc
  case store t x y =>
    split at hc
    · rename_i x' y' s hx hy hs; injection hc with hc; subst hc; exact s_store hop hx hy hs hE hm hv hcs
    · simp at hc
  case makeInterface => injection hc with hc; subst hc; simp [vop, vv] at hv
  case panic => injection hc with hc; subst hc; simp [vop, vv] at hv
  case nilCheck x =>
    split at hc
    · rename_i y hx; injection hc with hc; subst hc; exact s_nilc hop hx hE hv
    · simp at hc
  case binOp op t x y u =>
    split at hc
    · rename_i x' y' k hx hy ht; injection hc with hc; subst hc; exact s_bin hop hx hy hE hv hcs
    · rename_i x' y' hx hy ht; injection hc with hc; subst hc; exact s_bin hop hx hy hE hv hcs
    · rename_i x' y' d h1 h2 hx hy ht
      split at hc
      · cases hag : aggD d with
        | true =>
          rw [hag] at hc; simp only [cond_true] at hc
          split at hc
          · rename_i ks hk
            cases hg : P.eqGuardType P.depth t with
            | true => rw [hg] at hc; simp at hc
            | false => rw [hg] at hc; simp only [cond_false] at hc; injection hc with hc; subst hc; exact s_eqv hop (.inl ⟨rfl, rfl⟩) hx hy ht hag hk hg hE hv hcs
          · simp at hc
        | false =>
          rw [hag] at hc; simp only [cond_false] at hc
          split at hc
          · rename_i k hk; injection hc with hc; subst hc; exact s_eqs hop (.inl ⟨rfl, rfl⟩) hx hy ht hk hE hv hcs
          · simp at hc
      · cases hag : aggD d with
        | true =>
          rw [hag] at hc; simp only [cond_true] at hc
          split at hc
          · rename_i ks hk
            cases hg : P.eqGuardType P.depth t with
            | true => rw [hg] at hc; simp at hc
            | false => rw [hg] at hc; simp only [cond_false] at hc; injection hc with hc; subst hc; exact s_eqv hop (.inr ⟨rfl, rfl⟩) hx hy ht hag hk hg hE hv hcs
          · simp at hc
        | false =>
          rw [hag] at hc; simp only [cond_false] at hc
          split at hc
          · rename_i k hk; injection hc with hc; subst hc; exact s_eqs hop (.inr ⟨rfl, rfl⟩) hx hy ht hk hE hv hcs
          · simp at hc
      · simp at hc
    · simp at hc
  case unOp op t x =>
    split at hc
    · rename_i y hx; injection hc with hc; subst hc; exact s_un hop hx hE hv
    · simp at hc
  case convert s d x =>
    split at hc
    · rename_i y k1 k2 hx hs hd; injection hc with hc; subst hc; exact s_conv hop hx hs hd hE hv
    · rename_i y el hx hs hd
      split at hc
      · rename_i he; injection hc with hc; subst hc; exact s_s2b hop hx hs hd he (hf 0) hE hv
      · simp at hc
    · rename_i y el hx hs hd
      split at hc
      · rename_i he; injection hc with hc; subst hc; exact s_b2s hop hx hs hd he hE hm hv hcs
      · simp at hc
    · unfold cvsOp at hc
      split at hc
      · rename_i y s' el hx hs hd
        split at hc
        · rename_i he
          cases hsd : Nat.beq s d with
          | true => rw [hsd] at hc; injection hc with hc; subst hc; exact s_cvs hop hx (isSl_of hs) (isSl_of hd) he (Nat.eq_of_beq_eq_true hsd) (hf 0) hE hm hv hcs
          | false => rw [hsd] at hc; simp at hc
        · simp at hc
      · simp at hc
  case makeFunc f fi ca =>
    cases f <;> simp only at hc
    case func f =>
      split at hc
      · rename_i l h1 h2; injection hc with hc; subst hc; exact s_mkfn hop h1 h2 hE hv
      · simp at hc
    all_goals simp at hc
  case makeSlice t x y =>
    split at hc
    · rename_i x' y' el hx hy ht
      split at hc
      · rename_i ii z hi hz
        obtain ⟨hb, hc⟩ := bifS hc
        injection hc with hc; subst hc
        simp only [Bool.and_eq_true, beq_iff_eq, decide_eq_true_eq] at hb
        exact s_mksl hop hx hy ht hi hz hb.1 hb.2 (hf 0) hE hv hcs
      · simp at hc
    · simp at hc
  case slice t x lo hi mx =>
    cases mx <;> simp only at hc
    case none =>
      split at hc
      · rename_i x' lo' hi' n el hx hlo hhi ht
        split at hc
        · rename_i s hs; injection hc with hc; subst hc; exact s_slA hop hx hlo hhi ht hs hE hm hv hcs
        · simp at hc
      · rename_i x' lo' hi' el hx hlo hhi ht
        split at hc
        · rename_i s hs; injection hc with hc; subst hc; exact s_sl hop hx hlo hhi ht hs hE hv hcs
        · simp at hc
      · rename_i x' lo' hi' hx hlo hhi ht
        injection hc with hc; subst hc; exact s_slS hop hx hlo hhi ht hE hv hcs
      · simp at hc
    all_goals simp at hc
  case fieldAddr t x f =>
    split at hc
    · rename_i y fs hx ht
      split at hc
      · rename_i fd hfd
        split at hc
        · rename_i s hs
          cases h0 : (s == 0) with
          | true => rw [h0] at hc; simp at hc
          | false =>
            rw [h0] at hc; simp only [cond_false] at hc
            injection hc with hc; subst hc
            exact s_fa hop hx ht hfd hs (by simpa using h0) hE hv
        · simp at hc
      · simp at hc
    · simp at hc
  case indexAddr t x i =>
    split at hc
    · rename_i x' i' n el hx hi ht
      split at hc
      · rename_i s hs; injection hc with hc; subst hc; exact s_ia hop hx hi ht hs hE hv hcs
      · simp at hc
    · rename_i x' i' el hx hi ht
      split at hc
      · rename_i s hs; injection hc with hc; subst hc; exact s_is hop hx hi ht hs hE hv hcs
      · simp at hc
    · simp at hc
  case index t x i =>
    split at hc
    · rename_i x' i' n el hx hi ht
      split at hc
      · rename_i s d hs hd; injection hc with hc; subst hc; exact s_ix hop hx hi ht hs hd hE hv hcs
      · simp at hc
    · rename_i x' i' hx hi ht
      injection hc with hc; subst hc; exact s_ixS hop hx hi ht hE hv hcs
    · simp at hc
  case field t x f =>
    split at hc
    · rename_i y fs hx ht
      split at hc
      · rename_i fd hfd
        split at hc
        · rename_i s d hs hd; injection hc with hc; subst hc; exact s_fld hop hx ht hfd hs hd hE hv
        · simp at hc
      · simp at hc
    · simp at hc
  case extract x i =>
    split at hc
    · rename_i y hx; injection hc with hc; subst hc; exact s_ext hop hx hE hv
    · simp at hc
  case call c => exact call_sound hop hc hf hE hm hv hcs
  all_goals simp at hc
end Go.Proofs.Ytohleiikedpmkaa.Vm

namespace Go.Proofs.Ytohleiikedpmkaa.Vm
open Go
def Contract (P : Program) (f : Nat) (args : List V) (m : Mem) (nid : Nat) (res : V) (kill : List Nat) (up : Mem) : Prop :=
  ∀ (φ : Phi) (w : World) (vals : List Value), RM φ m w → (∀ b, nid ≤ b → b < nid + WW → ∀ i, φ b i = none) → All2 (RV φ) args vals →
    Calls P f vals.toArray w fun e w' => ∃ v φ', e = .returned v ∧ RV φ' res v ∧ Step φ φ' m up (kill ++ up.map Prod.fst) nid w w'
def restr (m : Mem) : List Nat → Mem
  | [] => []
  | b :: r => match ent m b with
    | some e => (b, e) :: restr m r
    | none => restr m r
def keysOf : Mem → List Nat
  | [] => []
  | (b, _) :: r => b :: keysOf r
def vcall (P : Program) (f : Nat) (args : List V) (m : Mem) (nid : Nat) : H → Option Eff
  | .call ids res kill up => some ⟨res, up, kill, ids, kill ++ up.map Prod.fst, [Contract P f args (restr m ids) nid res kill up]⟩
  | _ => none
def ptrs : List (Nat × Nat × Nat) → List V
  | [] => []
  | (b, i, o) :: r => .c (.ptr b i o) :: ptrs r
def vvs (T : Nat → V) : List Opd → List V
  | [] => []
  | x :: r => vv T x :: vvs T r
def callable (P : Program) (f : Nat) : Bool :=
  match P.funcs[f]? with
  | some fn => fn.body.isSome && (fn.name != "runtime.NumGoroutine")
  | none => false
def vins (P : Program) (i : I) (T : Nat → V) (m : Mem) (nid : Nat) (h : H) : Option Eff :=
  match i with
  | .call f args => vcall P f (vvs T args) m nid h
  | .callv x args => match vv T x with
    | .c (.fn f caps) => bif callable P f then vcall P f (vvs T args ++ ptrs caps) m nid h else none
    | _ => none
  | i => vop i T m nid h
def guardOk (T : Nat → V) : Option (Nat × Bool) → Option Bool
  | none => some true
  | some (t, want) => match T t with
    | .c (.bool b) => some (bif want then b else !b)
    | .tup [] => some false
    | _ => none
def putD (tm : Tm) (d : Option Nat) (v : V) : Tm :=
  match d with
  | none => tm
  | some d => putT tm d v
def putAll : Mem → Mem → Mem
  | [], m => m
  | (b, e) :: r, m => putAll r (putE m b e)
def delAll : List Nat → Mem → Mem
  | [], m => m
  | b :: r, m => delAll r (delE m b)
def Eff.app (e : Eff) (m : Mem) : Mem := putAll e.up (delAll e.kill m)
def memN (b : Nat) : List Nat → Bool
  | [] => false
  | c :: r => bif Nat.beq c b then true else memN b r
def nodupN : List Nat → Bool
  | [] => true
  | c :: r => !memN c r && nodupN r
def subN : List Nat → List Nat → List Nat → Bool
  | [], _, _ => true
  | b :: r, k, u => (memN b k || memN b u) && subN r k u
def effOk (e : Eff) : Bool := nodupN (keysOf e.up) && subN e.wr e.kill (keysOf e.up)
def dstOk (nt : Nat) : Option Nat → Bool
  | none => true
  | some d => Nat.blt d nt
def stepI (P : Program) (ins : Ins) (T : Nat → V) (m : Mem) (nid : Nat) (hint : Hint) : Option Eff :=
  match guardOk T ins.g with
  | some true => match vins P ins.op T m nid hint.h with
    | some e => match hint.to with
      | none => some e
      | some v => some { e with v := v, cs := (e.v = v) :: e.cs }
    | none => none
  | some false => some ⟨.tup [], [], [], [], [], []⟩
  | none => none
structure G where
  n : Nat
  hs : List (Nat × Hint)
  cs : List Prop
def G.hint (g : G) : Hint :=
  match g.hs with
  | (m, h) :: _ => bif Nat.beq m g.n then h else ⟨.auto, none⟩
  | [] => ⟨.auto, none⟩
def G.next (g : G) (cs : List Prop) : G :=
  match g.hs with
  | (m, h) :: r => bif Nat.beq m g.n then ⟨g.n + 1, r, cs ++ g.cs⟩ else ⟨g.n + 1, (m, h) :: r, cs ++ g.cs⟩
  | [] => ⟨g.n + 1, [], cs ++ g.cs⟩
def vregs (P : Program) (nt base : Nat) : List Ins → Nat → Tm → Mem → G → Option (Tm × Mem × G × List Eff)
  | [], _, tm, me, g => some (tm, me, g, [])
  | ins :: r, j, tm, me, g =>
    match stepI P ins (getT tm) me (base + WW * j) g.hint with
    | none => none
    | some e => bif effOk e && dstOk nt ins.dst then
        (match vregs P nt base r (j + 1) (putD tm ins.dst e.v) (e.app me) (g.next e.cs) with
         | some (tm', me', g', es) => some (tm', me', g', e :: es)
         | none => none)
      else none
def Opd.rd : Opd → List Nat
  | .t n => [n]
  | .k _ => []
def rds : List Opd → List Nat
  | [] => []
  | x :: r => x.rd ++ rds r
def rdO : Option Opd → List Nat
  | none => []
  | some x => x.rd
def rdP : List (Nat × Nat × Opd) → List Nat
  | [] => []
  | (_, _, x) :: r => x.rd ++ rdP r
def I.rd : I → List Nat
  | .mv x | .box x | .load _ _ x | .nilc x | .un _ x | .conv _ x | .s2b x | .b2s x | .cvs x | .fa x _ | .fld _ _ _ x | .ext x _ | .len _ x => x.rd
  | .pick c a b => c.rd ++ (a.rd ++ b.rd)
  | .zero _ => []
  | .build _ ps | .buildSl _ _ _ ps => rdP ps
  | .store _ x y | .bin _ x y | .eqs _ _ x y | .eqv _ _ x y | .ia _ _ x y | .is _ x y | .ix _ _ _ x y | .ixS x y | .app _ _ x y | .copy _ x y | .mm _ x y => x.rd ++ y.rd
  | .mkfn _ l => rds l
  | .mksl _ _ _ _ x y => x.rd ++ y.rd
  | .slA _ _ x lo hi | .sl _ x lo hi | .slS x lo hi => x.rd ++ (rdO lo ++ rdO hi)
  | .call _ l => rds l
  | .callv x l => x.rd ++ rds l
  | .add64 x y z | .mm3 _ x y z => x.rd ++ (y.rd ++ z.rd)
def Ins.rd (i : Ins) : List Nat := (match i.g with | none => [] | some (t, _) => [t]) ++ i.op.rd
def meetN : List Nat → List Nat → Bool
  | [], _ => false
  | b :: r, l => memN b l || meetN r l
def dstIn : Option Nat → List Nat → Bool
  | none, _ => false
  | some d, l => memN d l
def dstEq : Option Nat → Option Nat → Bool
  | some a, some b => Nat.beq a b
  | _, _ => false
def Eff.writes (e : Eff) : List Nat := e.kill ++ keysOf e.up
def clash (i j : Ins) (e f : Eff) : Bool :=
  dstIn i.dst j.rd || dstIn j.dst i.rd || dstEq i.dst j.dst || meetN e.writes f.rd || meetN e.writes f.writes || meetN e.rd f.writes
def uniN : List Nat → List Nat → List Nat
  | [], acc => acc
  | x :: r, acc => bif memN x acc then uniN r acc else uniN r (x :: acc)
def aheadA (cl : List (List Nat)) : List Nat → List Nat → List Nat
  | [], acc => acc
  | p :: r, [] => aheadA cl r (p :: cl.getD p [])
  | p :: r, a :: acc => bif memN p (a :: acc) then aheadA cl r (a :: acc) else aheadA cl r (uniN (cl.getD p []) (p :: a :: acc))
def ahead (cl : List (List Nat)) (pre : List Nat) : List Nat := aheadA cl pre []
def clos : List Ins → List (List Nat) → List (List Nat)
  | [], cl => cl
  | i :: r, cl => clos r (cl ++ [ahead cl i.pre])
def okPairs (cl : List (List Nat)) (j : Nat) (ij : Ins) (ej : Eff) : List Ins → List Eff → Nat → Bool
  | i :: r, e :: es, k => bif Nat.blt k j then ((!clash i ij e ej || memN k (cl.getD j [])) && okPairs cl j ij ej r es (k + 1)) else true
  | _, _, _ => true
def below (j : Nat) : List Nat → Bool
  | [] => true
  | p :: r => Nat.blt p j && below j r
def okDraws (cl : List (List Nat)) (ops : List Ins) (es : List Eff) : List Ins → List Eff → Nat → Bool
  | i :: r, e :: q, j => below j i.pre && okPairs cl j i e ops es 0 && okDraws cl ops es r q (j + 1)
  | _, _, _ => true
def okDraw (ops : List Ins) (es : List Eff) : Bool := okDraws (clos ops []) ops es ops es 0
def dropT : List Nat → Tm → Tm
  | [], t => t
  | n :: r, t => dropT r (delT t n)
def iter {α : Type} (f : α → Option (Ex × α)) : Nat → α → Option (Ex × α)
  | 0, _ => none
  | n + 1, s => match f s with
    | some (.normal, s') => iter f n s'
    | r => r
structure Ctx where
  P : Program
  w0 : World
  φ0 : Phi
  own0 : Nat → Prop
  nt : Nat
  n0 : Nat
structure RS (Γ : Ctx) (φ : Phi) (tm : Tm) (me : Mem) (a : Act) (w : World) : Prop where
  le : Γ.φ0.le φ
  mem : RM φ me w
  tmp : RT φ tm a
  keeps : Keeps Γ.own0 Γ.w0 w
  owned : ∀ b i k l, look me b i = some k → φ b i = some l → l.own = true → 0 < l.sz → Γ.own0 l.r ∨ Γ.w0.heap.size ≤ l.r
  size : a.tmps.size = Γ.nt
  defers : a.defers = []
  new : ∀ b i l, φ b i = some l → Γ.φ0 b i = some l ∨ Γ.n0 ≤ b
def Fresh (φ : Phi) (n : Nat) : Prop := ∀ b, n ≤ b → ∀ i, φ b i = none
def Ex.is : Ex → Exit → Prop
  | .normal, .normal => True
  | .exit i, .exit j => i = j
  | .ret, .ret => True
  | _, _ => False
def VPost (Γ : Ctx) (Q : Ex → S0 → Prop) (e : Exit) (a : Act) (w : World) : Prop := ∃ x s φ, x.is e ∧ Q x s ∧ RS Γ φ s.tm s.me a w ∧ Fresh φ s.nx ∧ Γ.n0 ≤ s.nx
def VT (Γ : Ctx) (c : Code) (s : S0) (Q : Ex → S0 → Prop) : Prop :=
  ∀ φ a w, RS Γ φ s.tm s.me a w → (Fresh φ s.nx ∧ Γ.n0 ≤ s.nx) → c.wp Γ.P (VPost Γ Q) a w
def cIns (P : Program) (ops : Array Oper) (o : Oper) : Option Ins :=
  match cOp P o.op o.type with
  | none => none
  | some i =>
    let pre := (o.after.toList.filter (Region.binds .any)).map (·.on)
    match o.guard with
    | none => some ⟨o.dst, i, none, pre⟩
    | some (j, want) => match (ops[j]?).bind (·.dst) with
      | some t => some ⟨o.dst, i, some (t, want), pre⟩
      | none => none
def cK (P : Program) : Code → Option K
  | .skip => some .skip
  | .region _ ops dr => match mapO (cIns P ops) ops.toList with
    | some l => some (.reg l dr)
    | none => none
  | .seq a b => match cK P a, cK P b with
    | some x, some y => some (.seq x y)
    | _, _ => none
  | .cond c a b => match cOpd c, cK P a, cK P b with
    | some z, some x, some y => some (.cond z x y)
    | _, _, _ => none
  | .block id c => match cK P c with | some x => some (.block id x) | none => none
  | .loop c => match cK P c with | some x => some (.loop x) | none => none
  | .exit id => some (.exit id)
  | .ret => some .ret
  | _ => none
def K.strip : K → K
  | .seq a b => .seq a.strip b.strip
  | .cond x a b => .cond x a.strip b.strip
  | .block id k => .block id k.strip
  | .loop k => .loop k.strip
  | .gh _ _ k => k.strip
  | k => k
def findN (b : Nat) : Th → Option Nat
  | [] => none
  | (c, d) :: r => bif Nat.beq d b then some c else findN b r
def fsts : Th → List Nat
  | [] => []
  | (s, _) :: r => s :: fsts r
def snds : Th → List Nat
  | [] => []
  | (_, d) :: r => d :: snds r
def findS (b : Nat) : Th → Option Nat
  | [] => none
  | (c, d) :: r => bif Nat.beq c b then some d else findS b r
def ren (t : Th) (n0 b : Nat) : Option Nat :=
  match findS b t with
  | some d => some d
  | none => bif Nat.blt b n0 then some b else none
def renPs (t : Th) (n0 : Nat) : List (Nat × Nat × Nat) → Option (List (Nat × Nat × Nat))
  | [] => some []
  | (b, i, o) :: r => match ren t n0 b, renPs t n0 r with
    | some b', some l => some ((b', i, o) :: l)
    | _, _ => none
def renC (t : Th) (n0 : Nat) : C → C
  | .ptr b i o => match ren t n0 b with | some b' => .ptr b' i o | none => .unk
  | .sl b i o n es => match ren t n0 b with | some b' => .sl b' i o n es | none => .unk
  | .fn f l => match renPs t n0 l with | some l' => .fn f l' | none => .unk
  | c => c
def renV1 (t : Th) (n0 : Nat) : V → V
  | .c x => .c (renC t n0 x)
  | .agg l => .agg (l.map (renC t n0))
  | v => v
def renV (t : Th) (n0 : Nat) : V → V
  | .tup l => .tup (l.map (renV1 t n0))
  | v => renV1 t n0 v
def renBody (t : Th) (n0 : Nat) : Body → Body
  | .cells l => .cells (l.map (renC t n0))
  | .ints k l => .ints k l
  | .gen n f => .gen n fun j => renC t n0 (f j)
  | .row n w f => .row n w fun i => (f i).map (renC t n0)
  | .ig n kf g => .ig n kf g
def rowOf : List C → Option (IntKind × List Int)
  | .int k n :: r => match allInts k r with | some q => some (k, n :: q) | none => none
  | _ => none
def normV1 : V → V
  | .agg l => match rowOf l with | some (k, q) => .aggi k q | none => .agg l
  | v => v
def normV : V → V
  | .tup l => .tup (l.map normV1)
  | v => normV1 v
def normBody : Body → Body
  | .cells l => match rowOf l with | some (k, q) => .ints k q | none => .cells l
  | b => b
def renBlk (t : Th) (n0 : Nat) (k : Blk) : Blk := ⟨k.own, k.ex, normBody (renBody t n0 k.body)⟩
abbrev renF (t : Th) (n0 : Nat) (f : Nat → Option Blk) : Nat → Option Blk := fun i => match f i with | some k => some (renBlk t n0 k) | none => none
def renE (t : Th) (n0 : Nat) : Ent → Ent
  | .one k => .one (renBlk t n0 k)
  | .many f => .many (renF t n0 f)
def viewT (t : Th) (n0 : Nat) (tm : Tm) : List Nat → Tm
  | [] => []
  | n :: r => (n, renV t n0 (getT tm n)) :: viewT t n0 tm r
def viewB (t : Th) (n0 : Nat) (me : Mem) : List Nat → Mem
  | [] => []
  | b :: r => match ren t n0 b, ent me b with
    | some b', some e => (b', renE t n0 e) :: viewB t n0 me r
    | _, _ => viewB t n0 me r
def renL (t : Th) (n0 : Nat) : List Nat → List Nat
  | [] => []
  | b :: r => match ren t n0 b with | some b' => b' :: renL t n0 r | none => renL t n0 r
def SView.app (v : SView) (n0 : Nat) (s : S0) : S0 := ⟨viewT v.t n0 s.tm v.keepT, viewB v.t n0 s.me v.keepB, v.nx⟩
def SView.ok (v : SView) (n0 : Nat) : Bool :=
  nodupN (fsts v.t) && nodupN (snds v.t) && (snds v.t).all (fun d => Nat.ble n0 d && Nat.blt d v.nx) && Nat.ble n0 v.nx && nodupN v.keepB && nodupN (renL v.t n0 v.keepB) && Nat.blt 0 n0
def Phi.ren (φ : Phi) (t : Th) (n0 : Nat) : Phi := fun b i => match findN b t with
  | some o => φ o i
  | none => if b < n0 then φ b i else none
def CodeOk (P : Program) (nt n0 : Nat) (k : K) (s : S0) (x : Ex) (s' : S0) : Prop :=
  ∀ (Γ : Ctx) (c : Code), Γ.P = P → Γ.nt = nt → Γ.n0 ≤ n0 → Fresh Γ.φ0 Γ.n0 → cK P c = some k.strip → VT Γ c s fun x' s'' => x' = x ∧ s'' = s'
def vcode (P : Program) (nt fuel : Nat) : K → S0 × G → Option (Ex × S0 × G)
  | .skip, s => some (.normal, s)
  | .reg ops dr, (s, g) => match vregs P nt s.nx ops 0 s.tm s.me g with
    | some (tm, me, g', es) => bif !dr || okDraw ops es then some (.normal, (⟨tm, me, s.nx + WW * ops.length⟩, g')) else none
    | none => none
  | .seq a b, s => match vcode P nt fuel a s with
    | some (.normal, s') => vcode P nt fuel b s'
    | r => r
  | .cond x a b, (s, g) => match g.hint.h with
    | .sum v x' s' => bif v.ok s.nx then some (x', s', g.next [CodeOk P nt s.nx (.cond x a b) (v.app s.nx s) x' s']) else none
    | _ => match vv (getT s.tm) x with
      | .c (.bool t) => (match g.hint.to with
        | some (.c (.bool u)) => (match u with
          | true => vcode P nt fuel a (s, g.next [t = true])
          | false => vcode P nt fuel b (s, g.next [t = false]))
        | _ => (match t with
          | true => vcode P nt fuel a (s, g.next [])
          | false => vcode P nt fuel b (s, g.next [])))
      | _ => none
  | .block id k, s => match vcode P nt fuel k s with
    | some (.exit j, s') => bif Nat.beq j id then some (.normal, s') else some (.exit j, s')
    | r => r
  | .loop k, (s, g) => match g.hint.h with
    | .sum v x' s' => bif v.ok s.nx then some (x', s', g.next [CodeOk P nt s.nx (.loop k) (v.app s.nx s) x' s']) else none
    | _ => iter (fun s => vcode P nt fuel k s) fuel (s, g)
  | .exit id, s => some (.exit id, s)
  | .ret, s => some (.ret, s)
  | .gh dt db k, (s, g) => vcode P nt fuel k (⟨dropT dt s.tm, delAll db s.me, s.nx⟩, g)
end Go.Proofs.Ytohleiikedpmkaa.Vm
