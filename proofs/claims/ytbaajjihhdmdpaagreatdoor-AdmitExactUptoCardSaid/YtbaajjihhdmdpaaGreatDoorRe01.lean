/- An abstract machine for Go code over immutable values: what its values stand for in memory. · The abstract machine: what an operation does to its values. · The abstract machine: how its memory and the world's go together. · The abstract machine: what is closed ahead of a call; each operation but append and call does in the world what it does in the machine. · The abstract machine: each operation but append and call does in the world what it does in the machine. · The abstract machine: slices cut, structs and slices made. · The abstract machine: append. · The abstract machine: calls; every operation. · The abstract machine: what operations hang on; two that hang not on each other. No condition. -/
import Derived.Tactics
import Derived.Orders
import Derived.Below
import Derived.Laws.AppendOwn
import Derived.Laws.StructEq
import Derived.Laws.Rows
import Derived.Laws.IdiomCopy
import Derived.Lib.ItoaNum
import Derived.Lib.LaidTab

namespace Go.Proofs.YtbaajjihhdmdpaaGreatDoor
set_option linter.unusedSectionVars false
open Go.RowKit
/-- Is it let that the tape is wound back? (Nothing does so; but not every contract of the library says it.) -/
class Lax where
  p : Prop
variable [Lax]
/-- Of what lies below B nothing turns; the tape is read on. -/
structure Below (B : Nat) (w w' : World) : Prop where
  os : w'.os = w.os
  tape : w'.tape = w.tape
  output : w'.output = w.output
  size : w.heap.size ≤ w'.heap.size
  block : ∀ k, k < B → w'.heap[k]? = w.heap[k]?
  drawn : Lax.p ∨ w.drawn ≤ w'.drawn
theorem Below.refl (B : Nat) (w : World) : Below B w w := ⟨rfl, rfl, rfl, Nat.le_refl _, fun _ _ => rfl, .inr (Nat.le_refl _)⟩
theorem Below.trans {B : Nat} {a b c : World} (h : Below B a b) (k : Below B b c) : Below B a c :=
  ⟨k.os.trans h.os, k.tape.trans h.tape, k.output.trans h.output, Nat.le_trans h.size k.size, fun i hi => (k.block i hi).trans (h.block i hi), h.drawn.elim .inl fun x => k.drawn.elim .inl fun y => .inr (Nat.le_trans x y)⟩
theorem Below.mono {B B' : Nat} {w w' : World} (h : Below B w w') (hB : B' ≤ B) : Below B' w w' := ⟨h.os, h.tape, h.output, h.size, fun k hk => h.block k (Nat.lt_of_lt_of_le hk hB), h.drawn⟩
theorem Below.drew {B : Nat} {a w : World} (h : Below B a w) : Below B a w.drew := ⟨h.os, h.tape, h.output, h.size, h.block, h.drawn.imp id Nat.le_succ_of_le⟩
theorem Below.heap_alloc (w : World) (o : Obj) (k : Nat) (h : k < w.heap.size) : (w.alloc o).heap[k]? = w.heap[k]? := Go.RowKit.Below.heap_alloc w o k h
theorem Below.alloc {B : Nat} {a w : World} (h : Below B a w) (hB : B ≤ w.heap.size) (o : Obj) : Below B a (w.alloc o) :=
  h.trans ⟨rfl, rfl, rfl, by simp, fun k hk => Below.heap_alloc _ _ _ (by omega), .inr (Nat.le_refl _)⟩
/-- The kit's word. -/
theorem Below.kit {B : Nat} {w w' : World} (h : Below B w w') : Go.RowKit.Below B w w' := ⟨h.os, h.tape, h.output, h.size, h.block⟩
set_option linter.unusedVariables false
set_option linter.unusedSimpArgs false
set_option linter.unnecessarySimpa false
/-! ### values -/
/-- May a slice be appended to: no; it has no room at all; it is the newest view of its block, number t; (a result) it belongs to whoever receives it. -/
inductive Fl where
  | no
  | zero
  | tag (t : Nat)
  | own (e : TypeId) (sz : Nat)
  | fown (e : TypeId) (sz : Nat)
  deriving DecidableEq, Inhabited
inductive AV where
  | bad
  | undef
  | nilP
  | nilF
  | int (k : IntKind) (n : Int)
  | bool (b : Bool)
  | str (s : ByteArray)
  | sl (o : Fl) (xs : List (List AV))
  | ag (cs : List AV)
  | tup (vs : List AV)
  | rp (cs : List AV)
  | op (id off : Nat)
  | fn (f : FuncId) (caps : List AV)
  | yl (l : Nat)
  | fs (t : Nat)
  | ms (id lo n c sz : Nat)
  | mp (id off : Nat)
  deriving Inhabited
def getx (xs : List (List AV)) (i j : Nat) : Option AV := xs[i]?.bind fun e => e[j]?
/-- What an immutable value stands for: S says which cells are never written again. -/
inductive Rep (S : Nat → Nat → Prop) (W : World) : AV → Value → Prop
  | any (u : Value) : Rep S W .bad u
  | undef : Rep S W .undef Go.undef
  | nilP : Rep S W .nilP (.pointer none)
  | nilF : Rep S W .nilF .nilFunc
  | int (k : IntKind) (n : Int) : Rep S W (.int k n) (.int k n)
  | bool (b : Bool) : Rep S W (.bool b) (.bool b)
  | str (s : ByteArray) : Rep S W (.str s) (.string s)
  | yl (l : Nat) : Rep S W (.yl l) (.func (.yield l) #[] #[])
  | slE (A : Option Addr) (c : Nat) : Rep S W (.sl .no []) (.slice A 0 c)
  | sl (xs : List (List AV)) (sz b off c : Nat) (uf : Nat → Nat → Value) (hc : xs.length ≤ c) (hsz : ∀ e ∈ xs, e.length = sz)
      (hcell : ∀ i j x, getx xs i j = some x → S b (off + i * sz + j) ∧ W.cell? ⟨b, off + i * sz + j, none⟩ = some (uf i j))
      (hrep : ∀ i j x, getx xs i j = some x → Rep S W x (uf i j)) : Rep S W (.sl .no xs) (.slice (some ⟨b, off, none⟩) xs.length c)
  | ag (cs : List AV) (us : List Value) (hl : us.length = cs.length) (hrep : ∀ j x, cs[j]? = some x → Rep S W x (us.getD j Go.undef)) : Rep S W (.ag cs) (.agg us.toArray)
  | tup (cs : List AV) (us : List Value) (hl : us.length = cs.length) (hrep : ∀ j x, cs[j]? = some x → Rep S W x (us.getD j Go.undef)) : Rep S W (.tup cs) (.tuple us.toArray)
  | rp (cs : List AV) (b off : Nat) (uf : Nat → Value)
      (hcell : ∀ j x, cs[j]? = some x → S b (off + j) ∧ W.cell? ⟨b, off + j, none⟩ = some (uf j))
      (hrep : ∀ j x, cs[j]? = some x → Rep S W x (uf j)) : Rep S W (.rp cs) (.pointer (some ⟨b, off, none⟩))
  | fn (f : FuncId) (caps : List AV) (us : List Value) (hl : us.length = caps.length) (hrep : ∀ j x, caps[j]? = some x → Rep S W x (us.getD j Go.undef)) :
      Rep S W (.fn f caps) (.func (.func f) #[] us.toArray)
theorem Rep.mono {S S' : Nat → Nat → Prop} {W W' : World} (hS : ∀ b o, S b o → S' b o) (hW : ∀ b o, S b o → W'.cell? ⟨b, o, none⟩ = W.cell? ⟨b, o, none⟩)
    {x : AV} {u : Value} (h : Rep S W x u) : Rep S' W' x u := by
  induction h with
  | any u => exact .any u
  | undef => exact .undef
  | nilP => exact .nilP
  | nilF => exact .nilF
  | int k n => exact .int k n
  | bool b => exact .bool b
  | str s => exact .str s
  | yl l => exact .yl l
  | slE A c => exact .slE A c
  | sl xs sz b off c uf hc hsz hcell _ ih => exact .sl xs sz b off c uf hc hsz (fun i j x hx => ⟨hS _ _ (hcell i j x hx).1, (hW _ _ (hcell i j x hx).1).trans (hcell i j x hx).2⟩) ih
  | ag cs us hl _ ih => exact .ag cs us hl ih
  | tup cs us hl _ ih => exact .tup cs us hl ih
  | rp cs b off uf hcell _ ih => exact .rp cs b off uf (fun j x hx => ⟨hS _ _ (hcell j x hx).1, (hW _ _ (hcell j x hx).1).trans (hcell j x hx).2⟩) ih
  | fn f caps us hl _ ih => exact .fn f caps us hl ih
/-- Is it one cell of memory? -/
def isAtom : AV → Bool
  | .bad | .undef | .ag _ | .tup _ => false
  | _ => true
theorem Rep.atom {S : Nat → Nat → Prop} {W : World} {x : AV} {u : Value} (h : Rep S W x u) (ha : isAtom x = true) : u.oneCell' = true := by
  cases h <;> first | rfl | simp [isAtom] at ha
/-- A cell's value that leads to nothing that is still written. -/
def pureC : AV → Bool
  | .op _ _ => false
  | _ => true
def pure0 : AV → Bool
  | .op _ _ | .fs _ | .ms _ _ _ _ _ | .mp _ _ => false
  | .fn _ caps => caps.all pureC
  | .bad | .undef | .ag _ | .tup _ => false
  | _ => true
def forget0 : AV → AV
  | .sl _ xs => .sl .no xs
  | x => x
/-! ### the machine's own memory -/
inductive HO where
  | none
  | box (cells : List AV)
  | sealed (cells : List AV)
  | live (e : TypeId) (sz n : Nat)
  | fresh (e : TypeId) (sz : Nat) (xs : List (List AV))
  | dead
  deriving Inhabited
abbrev AHeap := Nat → HO
def HO.peek : HO → Option (List AV)
  | .box cs => some cs
  | .sealed cs => some cs
  | _ => Option.none
structure Ctx where
  T : Nat → Prop := fun _ => False
  M : Nat → Prop := fun _ => False
  S0 : Nat → Nat → Prop
  S : Nat → Nat → Prop
  ι : Nat → Nat
  θ : Nat → Value
/-- What a captured value of a closure stands for. -/
def RepC (C : Ctx) (W : World) (h : AHeap) : AV → Value → Prop
  | .op id off, u => (h id).peek.isSome = true ∧ u = .pointer (some ⟨C.ι id, off, none⟩)
  | x, u => Rep C.S W x u
/-- What one cell's value stands for. -/
def RepT0 (C : Ctx) (W : World) (h : AHeap) : AV → Value → Prop
  | .op id off, u => (h id).peek.isSome = true ∧ u = .pointer (some ⟨C.ι id, off, none⟩)
  | .sl (.tag t) xs, u => Rep C.S W (.sl .no xs) u ∧ (match h t with | .live _ sz n => n = xs.length ∧ u = C.θ t ∧ ∀ x ∈ xs, x.length = sz | .dead => True | _ => False)
  | .sl .zero xs, u => xs = [] ∧ ∃ A, u = .slice A 0 0
  | .fs t, u => u.oneCell' = true ∧ u = C.θ t ∧ (match h t with | .fresh _ _ _ => True | .dead => True | _ => False)
  | .ms id lo n c sz, u => (h id).peek.isSome = true ∧ ∃ q, u = .slice (some ⟨C.ι id, q, none⟩) n c ∧ (0 < c → q = lo * sz) ∧ n ≤ c
  | .mp id off, u => (h id).peek.isSome = true ∧ u = .pointer (some ⟨C.ι id, off, none⟩)
  | .fn f caps, u => ∃ us : List Value, u = .func (.func f) #[] us.toArray ∧ us.length = caps.length ∧ ∀ j x, caps[j]? = some x → RepC C W h x (us.getD j Go.undef)
  | x, u => Rep C.S W x u
/-- What a value stands for. -/
def RepT (C : Ctx) (W : World) (h : AHeap) : AV → Value → Prop
  | .ag cs, u => ∃ us : List Value, u = .agg us.toArray ∧ us.length = cs.length ∧ ∀ j x, cs[j]? = some x → RepT0 C W h x (us.getD j Go.undef)
  | .tup cs, u => ∃ us : List Value, u = .tuple us.toArray ∧ us.length = cs.length ∧ ∀ j x, cs[j]? = some x →
      (match x with
       | AV.ag cs' => ∃ us' : List Value, us.getD j Go.undef = Value.agg us'.toArray ∧ us'.length = cs'.length ∧ ∀ j' x', cs'[j']? = some x' → RepT0 C W h x' (us'.getD j' Go.undef)
       | x => RepT0 C W h x (us.getD j Go.undef))
  | x, u => RepT0 C W h x u
/-- How the machine's memory may change. -/
def HOle : HO → HO → Prop
  | .none, _ => True
  | .box cs, .box cs' => cs'.length = cs.length
  | .box cs, .sealed cs' => cs'.length = cs.length
  | .sealed cs, .sealed cs' => cs' = cs
  | .live e s n, .live e' s' n' => e' = e ∧ s' = s ∧ n' = n
  | .live _ _ _, .dead => True
  | .fresh e s _, .fresh e' s' _ => e' = e ∧ s' = s
  | .fresh _ _ _, .dead => True
  | .dead, .dead => True
  | _, _ => False
theorem HOle.refl (x : HO) : HOle x x := by cases x <;> simp [HOle]
theorem HOle.trans {x y z : HO} (h : HOle x y) (k : HOle y z) : HOle x z := by
  cases x <;> cases y <;> cases z <;> simp_all [HOle]
/-- The one state and its memory lead to the other. -/
structure Le (C : Ctx) (h : AHeap) (W : World) (C' : Ctx) (h' : AHeap) (W' : World) : Prop where
  clS : ∀ b o, C.S b o → C'.S b o
  clW : ∀ b o, C.S b o → W'.cell? ⟨b, o, none⟩ = W.cell? ⟨b, o, none⟩
  mem : ∀ id, HOle (h id) (h' id)
  io : ∀ id, h id ≠ .none → C'.ι id = C.ι id
  th : ∀ id, h id ≠ .none → C'.θ id = C.θ id
  s0 : C'.S0 = C.S0
  te : C'.T = C.T
  me : C'.M = C.M
  tk : ∀ b, C.T b → W'.heap[b]? = W.heap[b]?
  sn : ∀ b o, C'.S b o → C.S b o ∨ ¬ C.T b
theorem Le.refl (C : Ctx) (h : AHeap) (W : World) : Le C h W C h W := ⟨fun _ _ h => h, fun _ _ _ => rfl, fun _ => HOle.refl _, fun _ _ => rfl, fun _ _ => rfl, rfl, rfl, rfl, fun _ _ => rfl, fun _ _ h => .inl h⟩
theorem HOle.ne_none {x y : HO} (h : HOle x y) (hx : x ≠ .none) : y ≠ .none := by cases x <;> cases y <;> simp_all [HOle]
theorem Le.trans {C C' C'' : Ctx} {h h' h'' : AHeap} {W W' W'' : World} (a : Le C h W C' h' W') (b : Le C' h' W' C'' h'' W'') : Le C h W C'' h'' W'' :=
  ⟨fun x o hx => b.clS _ _ (a.clS _ _ hx), fun x o hx => (b.clW _ _ (a.clS _ _ hx)).trans (a.clW _ _ hx), fun id => (a.mem id).trans (b.mem id),
    fun id hid => (b.io id ((a.mem id).ne_none hid)).trans (a.io id hid), fun id hid => (b.th id ((a.mem id).ne_none hid)).trans (a.th id hid), b.s0.trans a.s0, b.te.trans a.te, b.me.trans a.me, fun x hx => (b.tk x (by rw [a.te]; exact hx)).trans (a.tk x hx),
    fun x o hx => (b.sn x o hx).elim (a.sn x o) fun h => .inr (by rw [a.te] at h; exact h)⟩
/-- As much of it as values lean on. -/
structure Le0 (C : Ctx) (h : AHeap) (W : World) (C' : Ctx) (h' : AHeap) (W' : World) : Prop where
  clS : ∀ b o, C.S b o → C'.S b o
  clW : ∀ b o, C.S b o → W'.cell? ⟨b, o, none⟩ = W.cell? ⟨b, o, none⟩
  mem : ∀ id, HOle (h id) (h' id)
  io : ∀ id, h id ≠ .none → C'.ι id = C.ι id
  th : ∀ id, h id ≠ .none → C'.θ id = C.θ id
theorem Le.to0 {C C' : Ctx} {h h' : AHeap} {W W' : World} (l : Le C h W C' h' W') : Le0 C h W C' h' W' := ⟨l.clS, l.clW, l.mem, l.io, l.th⟩
theorem Le0.refl (C : Ctx) (h : AHeap) (W : World) : Le0 C h W C h W := ⟨fun _ _ h => h, fun _ _ _ => rfl, fun _ => HOle.refl _, fun _ _ => rfl, fun _ _ => rfl⟩
theorem Le0.trans {C C' C'' : Ctx} {h h' h'' : AHeap} {W W' W'' : World} (a : Le0 C h W C' h' W') (b : Le0 C' h' W' C'' h'' W'') : Le0 C h W C'' h'' W'' :=
  ⟨fun x o hx => b.clS _ _ (a.clS _ _ hx), fun x o hx => (b.clW _ _ (a.clS _ _ hx)).trans (a.clW _ _ hx), fun id => (a.mem id).trans (b.mem id),
    fun id hid => (b.io id ((a.mem id).ne_none hid)).trans (a.io id hid), fun id hid => (b.th id ((a.mem id).ne_none hid)).trans (a.th id hid)⟩
/-- What a run keeps of K, seen from outside. -/
structure Keeps (K : Nat → Prop) (B : Nat) (S : Nat → Nat → Prop) (W : World) (S' : Nat → Nat → Prop) (W' : World) : Prop where
  below : Below B W W'
  keep : ∀ b, K b → W'.heap[b]? = W.heap[b]?
  clS : ∀ b o, S b o → S' b o
  clW : ∀ b o, S b o → W'.cell? ⟨b, o, none⟩ = W.cell? ⟨b, o, none⟩
  nb : ∀ b o, S' b o → S b o ∨ (¬ K b ∧ B ≤ b)
  has : ∀ b o, S' b o → (W'.cell? ⟨b, o, none⟩).isSome = true
theorem Keeps.trans {K : Nat → Prop} {B : Nat} {S S' S'' : Nat → Nat → Prop} {W W' W'' : World} (a : Keeps K B S W S' W') (b : Keeps K B S' W' S'' W'') : Keeps K B S W S'' W'' :=
  ⟨a.below.trans b.below, fun x h => (b.keep x h).trans (a.keep x h), fun x o h => b.clS x o (a.clS x o h), fun x o h => (b.clW x o (a.clS x o h)).trans (a.clW x o h), fun x o h => (b.nb x o h).elim (a.nb x o) .inr, b.has⟩
theorem Keeps.sub {K K' : Nat → Prop} {B : Nat} {S S' : Nat → Nat → Prop} {W W' : World} (a : Keeps K B S W S' W') (h : ∀ b, K' b → K b) : Keeps K' B S W S' W' :=
  ⟨a.below, fun x hx => a.keep x (h x hx), a.clS, a.clW, fun x o hx => (a.nb x o hx).imp id fun hq => ⟨fun hk => hq.1 (h x hk), hq.2⟩, a.has⟩
theorem Keeps.refl {K : Nat → Prop} {B : Nat} {S : Nat → Nat → Prop} {W : World} (h : ∀ b o, S b o → (W.cell? ⟨b, o, none⟩).isSome = true) : Keeps K B S W S W :=
  ⟨.refl _ _, fun _ _ => rfl, fun _ _ h => h, fun _ _ _ => rfl, fun _ _ h => .inl h, h⟩
/-- The blocks that are another's. -/
def Ctx.D (C : Ctx) (b : Nat) : Prop := C.T b ∧ ¬ C.M b
theorem peek_le {x y : HO} (h : HOle x y) (hx : x.peek.isSome = true) : y.peek.isSome = true := by cases x <;> cases y <;> simp_all [HOle, HO.peek]
theorem peek_ne {x : HO} (hx : x.peek.isSome = true) : x ≠ .none := by cases x <;> simp_all [HO.peek]
section
variable {C C' : Ctx} {h h' : AHeap} {W W' : World}
theorem Rep.le0 {x : AV} {u : Value} (hr : Rep C.S W x u) (l : Le0 C h W C' h' W') : Rep C'.S W' x u := hr.mono l.clS l.clW
theorem RepC.le0 {x : AV} {u : Value} (hr : RepC C W h x u) (l : Le0 C h W C' h' W') : RepC C' W' h' x u := by
  cases x with
  | op id off => exact ⟨peek_le (l.mem id) hr.1, by rw [l.io id (peek_ne hr.1)]; exact hr.2⟩
  | _ => exact Rep.le0 (h := h) (h' := h') hr l
theorem RepT0.le0 {x : AV} {u : Value} (hr : RepT0 C W h x u) (l : Le0 C h W C' h' W') : RepT0 C' W' h' x u := by
  cases x with
  | op id off => exact ⟨peek_le (l.mem id) hr.1, by rw [l.io id (peek_ne hr.1)]; exact hr.2⟩
  | sl o xs =>
    cases o with
    | tag t =>
      refine ⟨Rep.le0 (h := h) (h' := h') hr.1 l, ?_⟩
      have h2 := hr.2
      have hl := l.mem t
      have hθ := l.th t
      cases e : h t <;> rw [e] at h2 hl hθ <;> cases e' : h' t <;> rw [e'] at hl <;> simp_all [HOle]
    | zero => exact hr
    | no => exact Rep.le0 (h := h) (h' := h') hr l
    | own e s => exact Rep.le0 (h := h) (h' := h') hr l
    | fown e s => exact Rep.le0 (h := h) (h' := h') hr l
  | fn f caps =>
    obtain ⟨us, e, hl, hc⟩ := hr
    exact ⟨us, e, hl, fun j x hx => (hc j x hx).le0 l⟩
  | fs t =>
    obtain ⟨h1, h2, h3⟩ := hr
    have hl := l.mem t
    have hθ := l.th t
    cases e : h t <;> rw [e] at h3 hl hθ <;> first | exact h3.elim | skip
    all_goals (refine ⟨h1, by rw [hθ (by simp)]; exact h2, ?_⟩; cases e' : h' t <;> rw [e'] at hl <;> first | exact hl.elim | trivial)
  | ms id lo n c sz => exact ⟨peek_le (l.mem id) hr.1, by rw [l.io id (peek_ne hr.1)]; exact hr.2⟩
  | mp id off => exact ⟨peek_le (l.mem id) hr.1, by rw [l.io id (peek_ne hr.1)]; exact hr.2⟩
  | _ => exact Rep.le0 (h := h) (h' := h') hr l
theorem RepT.le0 {x : AV} {u : Value} (hr : RepT C W h x u) (l : Le0 C h W C' h' W') : RepT C' W' h' x u := by
  cases x with
  | ag cs =>
    obtain ⟨us, e, hl, hc⟩ := hr
    exact ⟨us, e, hl, fun j x hx => (hc j x hx).le0 l⟩
  | tup cs =>
    obtain ⟨us, e, hl, hc⟩ := hr
    refine ⟨us, e, hl, fun j x hx => ?_⟩
    have := hc j x hx
    cases x with
    | ag cs' =>
      obtain ⟨us', e', hl', hc'⟩ := this
      exact ⟨us', e', hl', fun j' x' hx' => (hc' j' x' hx').le0 l⟩
    | _ => exact RepT0.le0 this l
  | _ => unfold RepT at hr ⊢; exact RepT0.le0 hr l
theorem Rep.le {x : AV} {u : Value} (hr : Rep C.S W x u) (l : Le C h W C' h' W') : Rep C'.S W' x u := hr.mono l.clS l.clW
theorem RepC.le {x : AV} {u : Value} (hr : RepC C W h x u) (l : Le C h W C' h' W') : RepC C' W' h' x u := hr.le0 l.to0
theorem RepT0.le {x : AV} {u : Value} (hr : RepT0 C W h x u) (l : Le C h W C' h' W') : RepT0 C' W' h' x u := hr.le0 l.to0
theorem RepT.le {x : AV} {u : Value} (hr : RepT C W h x u) (l : Le C h W C' h' W') : RepT C' W' h' x u := hr.le0 l.to0
/-- An immutable value stands where any value may stand. -/
theorem RepC.of_rep {x : AV} {u : Value} (hr : Rep C.S W x u) : RepC C W h x u := by
  cases x with
  | op id off => cases hr
  | _ => exact hr
theorem RepT0.of_rep {x : AV} {u : Value} (hr : Rep C.S W x u) : RepT0 C W h x u := by
  cases x with
  | op id off => cases hr
  | fs t => cases hr
  | ms id lo n c sz => cases hr
  | mp id off => cases hr
  | sl o xs => cases o <;> first | exact hr | cases hr
  | fn f caps =>
    cases hr with
    | fn _ _ us hl hrep => exact ⟨us, rfl, hl, fun j x hx => .of_rep (hrep j x hx)⟩
  | _ => exact hr
theorem RepT.of_rep {x : AV} {u : Value} (hr : Rep C.S W x u) : RepT C W h x u := by
  cases x with
  | ag cs =>
    cases hr with
    | ag _ us hl hrep => exact ⟨us, rfl, hl, fun j x hx => .of_rep (hrep j x hx)⟩
  | tup cs =>
    cases hr with
    | tup _ us hl hrep =>
      refine ⟨us, rfl, hl, fun j x hx => ?_⟩
      have := hrep j x hx
      cases x with
      | ag cs' =>
        generalize us.getD j Go.undef = q at this
        cases this with
        | ag _ us' hl' hrep' => exact ⟨us', rfl, hl', fun j' x' hx' => .of_rep (hrep' j' x' hx')⟩
      | _ => exact RepT0.of_rep this
  | op id off => cases hr
  | _ => exact RepT0.of_rep (h := h) hr
end
/-! ### the invariant -/
def ownBlk : Value → Option Nat
  | .slice (some a) _ (_ + 1) => some a.block
  | _ => Option.none
/-- A slice that may be appended to. -/
def AppV (P : Program) (S : Nat → Nat → Prop) (W : World) (B : Nat) (e : TypeId) (n : Nat) (v : Value) : Prop :=
  (n = 0 ∧ ∃ A, v = .slice A 0 0) ∨ ((∃ ty vs, W.ownsRow B ty (P.cellsOf e) v n vs) ∧ ∀ g, ownBlk v = some g → ∀ o, n * P.cellsOf e ≤ o → ¬ S g o)
/-- A slice in a block of the machine's own, nothing of which is closed. -/
structure FreshV (P : Program) (S : Nat → Nat → Prop) (W : World) (B : Nat) (e : TypeId) (sz : Nat) (xs : List (List AV)) (u : Value) : Prop where
  szE : sz = P.cellsOf e
  pos : 0 < sz
  rows : ∀ x ∈ xs, x.length = sz
  ex : (xs = [] ∧ ∃ A, u = .slice A 0 0) ∨ ∃ (b c : Nat) (us : Array Value) (ty : TypeId), u = .slice (some ⟨b, 0, none⟩) xs.length c ∧ B ≤ b ∧ W.heap[b]? = some (.cells us ty (0, 0)) ∧ us.size = c * sz ∧ xs.length ≤ c ∧ 0 < c ∧ c ≤ maxLen ∧ (∀ o, ¬ S b o) ∧
    ∀ i j x, getx xs i j = some x → Rep S W x (us.getD (i * sz + j) Go.undef)
def HO.ownBlock (C : Ctx) (id : Nat) : HO → Option Nat
  | .box _ => some (C.ι id)
  | .sealed _ => some (C.ι id)
  | .live _ _ _ => ownBlk (C.θ id)
  | .fresh _ _ _ => ownBlk (C.θ id)
  | _ => Option.none
/-- The library's table of powers of ten lies below B, as its text lays it. -/
structure TabB (P : Program) (B : Nat) (W : World) : Prop where
  tab : Lib.TabIs P W "internal/strconv.uint64pow10" .u64 Lib.pow10Tab
  low : ∀ g, P.globalNamed "internal/strconv.uint64pow10" = some g → g < B
theorem TabB.keep {P : Program} {B : Nat} {W W' : World} (h : TabB P B W) (hk : ∀ k, k < B → (∃ us ty fz, W.heap[k]? = some (.cells us ty fz)) → W'.heap[k]? = W.heap[k]?) : TabB P B W' := by
  refine ⟨?_, h.low⟩
  have ht := h.tab
  unfold Lib.TabIs World.var? at ht ⊢
  cases hg : P.globalNamed "internal/strconv.uint64pow10" with
  | none => rw [hg] at ht; cases ht
  | some g =>
    rw [hg] at ht
    simp only [Option.bind_some] at ht ⊢
    rw [hk g (h.low g hg) ?_]
    · exact ht
    · split at ht
      · rename_i cs e fz hh
        exact ⟨_, _, _, hh⟩
      · cases ht
theorem TabB.mono {P : Program} {B B' : Nat} {W : World} (h : TabB P B W) (hB : B ≤ B') : TabB P B' W := ⟨h.tab, fun g hg => Nat.lt_of_lt_of_le (h.low g hg) hB⟩
structure Inv (P : Program) (C : Ctx) (h : AHeap) (W : World) (B : Nat) : Prop where
  has : ∀ b o, C.S b o → (W.cell? ⟨b, o, none⟩).isSome = true
  base : B ≤ W.heap.size
  box : ∀ id cs, (h id).peek = some cs → ∃ (us : List Value) (ty : TypeId), W.heap[C.ι id]? = some (.cells us.toArray ty (0, 0)) ∧ us.length = cs.length ∧ B ≤ C.ι id ∧
    ∀ j x, cs[j]? = some x → RepT0 C W h x (us.getD j Go.undef)
  unsealed : ∀ id cs, h id = .box cs → ∀ o, ¬ C.S (C.ι id) o
  isSealed : ∀ id cs, h id = .sealed cs → ∀ o, o < cs.length → C.S (C.ι id) o
  live : ∀ t e sz n, h t = .live e sz n → sz = P.cellsOf e ∧ AppV P C.S W B e n (C.θ t)
  apart : ∀ i j b, (h i).ownBlock C i = some b → (h j).ownBlock C j = some b → i = j
  news : ∀ b o, C.S b o → C.S0 b o ∨ B ≤ b
  tn : ∀ b, C.T b → b < W.heap.size ∧ ∀ id, (h id).ownBlock C id ≠ some b
  mn : ∀ b, C.M b → C.T b ∧ B ≤ b
  ss : ∀ b o, C.S0 b o → C.S b o
  tb : TabB P B W
  fr : ∀ t e sz xs, h t = .fresh e sz xs → FreshV P C.S W B e sz xs (C.θ t)
/-- What a call gives back. -/
def RetRep (P : Program) (S : Nat → Nat → Prop) (W : World) (B : Nat) : AV → Value → Prop
  | .sl (.own e sz) xs, u => Rep S W (.sl .no xs) u ∧ AppV P S W B e xs.length u ∧ sz = P.cellsOf e ∧ ∀ x ∈ xs, x.length = sz
  | .sl (.fown e sz) xs, u => FreshV P S W B e sz xs u
  | x, u => Rep S W x u
/-- Called with these values, in whatever memory, the function returns this one, and turns nothing that was there. -/
def Sound (P : Program) (f : FuncId) (args : List AV) (r : AV) : Prop :=
  ∀ (S : Nat → Nat → Prop) (W : World) (us : List Value), TabB P W.heap.size W → (∀ b o, S b o → (W.cell? ⟨b, o, none⟩).isSome = true) → us.length = args.length →
    (∀ j x, args[j]? = some x → Rep S W x (us.getD j Go.undef)) →
    Calls P f us.toArray W fun e W' => ∃ (u : Value) (S' : Nat → Nat → Prop), e = .returned u ∧ Below W.heap.size W W' ∧ (∀ b o, S b o → S' b o) ∧
      (∀ b o, S' b o → S b o ∨ W.heap.size ≤ b) ∧ (∀ b o, S' b o → (W'.cell? ⟨b, o, none⟩).isSome = true) ∧ RetRep P S' W' W.heap.size r u
end Go.Proofs.YtbaajjihhdmdpaaGreatDoor

namespace Go.Proofs.YtbaajjihhdmdpaaGreatDoor
open Go.RowKit
set_option linter.unusedSectionVars false
set_option linter.unusedVariables false
set_option linter.unusedSimpArgs false
set_option linter.unnecessarySimpa false
variable [Lax]
def const0 : Value → AV
  | .bool b => .bool b
  | .int k n => .int k n
  | .string s => .str s
  | .pointer none => .nilP
  | .nilFunc => .nilF
  | .slice none 0 0 => .sl .zero []
  | _ => .bad
def constA : Value → AV
  | .tuple ⟨[]⟩ => .undef
  | v => const0 v
def evA (t : Nat → AV) : Operand → AV
  | .tmp n => t n
  | .const v => constA v
  | .global _ => .bad
  | .func f => .fn f []
/-- A value's cells. -/
def cellsA : AV → Option (List AV)
  | .ag cs => some cs
  | .bad | .undef | .tup _ => none
  | x => some [x]
def splice (cs : List AV) (off : Nat) (new : List AV) : List AV := cs.take off ++ new ++ cs.drop (off + new.length)
def fillA (place : Nat → Option (Nat × Nat)) (cells : List AV) : List (Nat × AV) → Option (List AV)
  | [] => some cells
  | (i, v) :: rest =>
    match place i, cellsA v with
    | some (off, size), some vc => if vc.length = size ∧ off + vc.length ≤ cells.length then fillA place (splice cells off vc) rest else none
    | _, _ => none
def zeroC (P : Program) (e : TypeId) : Option (List AV) :=
  match (P.info? e).bind (·.zero) with
  | some z => if (z.cells.toList.map const0).all isAtom then some (z.cells.toList.map const0) else none
  | none => none
/-- A type that the program knows. -/
def okTy (P : Program) (ty : TypeId) : Bool := (P.info? ty).isSome && (P.underlying ty).isSome
def isAggB (P : Program) (ty : TypeId) : Bool :=
  match P.underlying ty with
  | some (.struct _) | some (.array _ _) => true
  | _ => false
/-- The value of a type at the head of some cells. -/
def takeV (P : Program) (ty : TypeId) (cs : List AV) : Option AV :=
  if isAggB P ty then (if P.cellsOf ty ≤ cs.length then some (.ag (cs.take (P.cellsOf ty))) else none) else cs.head?
def fieldOff (P : Program) (s : TypeId) (i : Nat) : Option Nat :=
  match P.underlying s with
  | some (.struct fs) => match fs[i]? with
    | some f => if P.cellsOf f.type = 0 then none else some f.offset
    | none => none
  | _ => none
def addOff (x : AV) (n : Nat) : AV :=
  match x with
  | .mp id off => .mp id (off + n)
  | .op id off => .op id (off + n)
  | .rp cs => .rp (cs.drop n)
  | _ => .bad
def sliceElem (P : Program) (ty : TypeId) : Option TypeId :=
  match P.underlying ty with
  | some (.slice e) => if (P.info? e).isSome then some e else none
  | _ => none
def arrayElem (P : Program) (ty : TypeId) : Option (Nat × TypeId) :=
  match P.underlying ty with
  | some (.array n e) => if (P.info? e).isSome then some (n, e) else none
  | _ => none
def intKind (P : Program) (ty : TypeId) : Option IntKind :=
  match P.underlying ty with
  | some (.int k) => some k
  | _ => none
def intBin (op : BinOp) (k : IntKind) (x y : Int) : Option AV :=
  match op with
  | .add => some (.int k (k.wrap (x + y)))
  | .sub => some (.int k (k.wrap (x - y)))
  | .mul => some (.int k (k.wrap (x * y)))
  | .quo => if y = 0 then none else some (.int k (k.wrap (x.tdiv y)))
  | .rem => if y = 0 then none else some (.int k (x.tmod y))
  | .eql => some (.bool (x == y))
  | .neq => some (.bool (x != y))
  | .lss => some (.bool (decide (x < y)))
  | .leq => some (.bool (decide (x ≤ y)))
  | .gtr => some (.bool (decide (x > y)))
  | .geq => some (.bool (decide (x ≥ y)))
  | .shr => if 0 ≤ y then some (.int k (x.fdiv (2 ^ (min y.toNat k.bits)))) else none
  | .shl => if 0 ≤ y then some (.int k (k.wrap (x * 2 ^ (min y.toNat k.bits)))) else none
  | .and => some (.int k (k.wrap ((BitVec.ofInt k.bits x &&& BitVec.ofInt k.bits y).toNat : Int)))
  | _ => none
def ints : List AV → Option (List Int)
  | [] => some []
  | .int .i64 n :: r => (ints r).map (n :: ·)
  | _ => none
/-- A struct type all of whose parts are compared as whole numbers. -/
def EqStruct (P : Program) (ty : TypeId) (n : Nat) : Prop :=
  P.eqGuardType P.depth ty = false ∧ P.stoodInHeld ty = false ∧ ∃ fs : Array Field, P.underlying ty = some (.struct fs) ∧ fs.size = n ∧
    ∀ (i : Nat) (f : Field), fs[i]? = some f → f.name ≠ "_" ∧ f.offset = i ∧ P.underlying f.type = some (.int .i64)
/-- Cells in pieces. -/
def chunks (n size : Nat) (cs : List AV) : List (List AV) := (List.range n).map fun i => (cs.drop (i * size)).take size
/-- What is handed to a call: what is still written is closed first. -/
def passC (h : AHeap) : AV → Option (AV × List Nat)
  | .fs _ | .ms _ _ _ _ _ | .mp _ _ => none
  | .op id off => match (h id).peek with
    | some cs => if cs.all pure0 then some (.rp ((cs.map forget0).drop off), [id]) else none
    | none => none
  | .tup _ | .ag _ | .undef => none
  | .fn f caps => if caps.all pureC then some (.fn f caps, []) else none
  | .sl _ xs => some (.sl .no xs, [])
  | x => some (x, [])
def passCs (h : AHeap) : List AV → Option (List AV × List Nat)
  | [] => some ([], [])
  | .op id off :: r => match passC h (.op id off), passCs h r with
    | some (y, i), some (ys, is) => some (y :: ys, i ++ is)
    | _, _ => none
  | x :: r => match passCs h r with
    | some (ys, is) => some (x :: ys, is)
    | none => none
def pass (h : AHeap) : AV → Option (AV × List Nat)
  | .ag cs => if cs.all pure0 then some (.ag (cs.map forget0), []) else none
  | .fn f caps => match passCs h caps with
    | some (cs, is) => some (.fn f cs, is)
    | none => none
  | x => passC h x
def passAll (h : AHeap) : List AV → Option (List AV × List Nat)
  | [] => some ([], [])
  | x :: r => match pass h x, passAll h r with
    | some (y, i), some (ys, is) => some (y :: ys, i ++ is)
    | _, _ => none
/-- What an operation does to the machine's memory. -/
inductive Eff where
  | nop
  | new (o : HO)
  | app (kill : Option Nat) (o : HO)
  | set (id off : Nat) (cs : List AV)
  | call (ids : List Nat) (o : Option HO)
def sealO : HO → HO
  | .box cs => .sealed cs
  | o => o
def upd (h : AHeap) (i : Nat) (o : HO) : AHeap := fun j => if j = i then o else h j
def killO : HO → HO
  | .live _ _ _ => .dead
  | o => o
def setO (off : Nat) (new : List AV) : HO → HO
  | .box cs => .box (splice cs off new)
  | o => o
def Eff.app' (d : Eff) (i : Nat) (h : AHeap) : AHeap :=
  match d with
  | .nop => h
  | .new o => upd h i o
  | .app none o => upd h i o
  | .app (some t) o => upd (upd h t (killO (h t))) i o
  | .set id off cs => upd h id (setO off cs (h id))
  | .call ids none => fun j => if j ∈ ids then sealO (h j) else h j
  | .call ids (some o) => upd (fun j => if j ∈ ids then sealO (h j) else h j) i o
def adopt (i : Nat) : AV → AV
  | .sl (.fown _ _) _ => .fs i
  | .sl (.own _ _) xs => .sl (.tag i) xs
  | x => x
def adoptO : AV → Option HO
  | .sl (.fown e sz) xs => some (.fresh e sz xs)
  | .sl (.own e sz) xs => some (.live e sz xs.length)
  | _ => none
/-- An append's other side: may this slice be appended to, and what dies by it. -/
def appendable (h : AHeap) (e : TypeId) (n : Nat) : Fl → Option (Option Nat)
  | .zero => some none
  | .tag t => match h t with
    | .live e' _ n' => if e' = e ∧ n' = n then some (some t) else none
    | _ => none
  | _ => none
/-- One operation: v is its value, d what it does to the memory, fp which boxes it reads. -/
def stepR (P : Program) (i : Nat) (t : Nat → AV) (h : AHeap) (o : Op) (v : AV) (d : Eff) (fp : List Nat) : Prop :=
  match o with
  | .move x | .assign x => v = evA t x ∧ d = .nop ∧ fp = []
  | .pick c a b => (match evA t c with | .bool q => v = (if q then evA t a else evA t b) | _ => False) ∧ d = .nop ∧ fp = []
  | .alloc e => (match zeroC P e with | some cs => v = .op i 0 ∧ d = .new (.box cs) | none => False) ∧ fp = []
  | .box _ x => (match cellsA (evA t x) with | some cs => v = .op i 0 ∧ d = .new (.box cs) | none => False) ∧ fp = []
  | .build ty parts =>
    (match P.underlying ty, zeroC P ty with
     | some (.struct fs), some z =>
       (match fillA (fun j => (fs[j]?).bind fun f => if (P.info? f.type).isSome then some (f.offset, P.cellsOf f.type) else none) z (parts.toList.map fun (j, x) => (j, evA t x)) with
        | some cs => (∀ f ∈ fs, (P.info? f.type).isSome = true) ∧ v = .ag cs | none => False)
     | some (.array _ e), some z =>
       (match fillA (fun j => some (j * P.cellsOf e, P.cellsOf e)) z (parts.toList.map fun (j, x) => (j, evA t x)) with
        | some cs => (P.info? e).isSome = true ∧ v = .ag cs | none => False)
     | _, _ => False) ∧ d = .nop ∧ fp = []
  | .buildSlice ty len parts =>
    (match sliceElem P ty with
     | some e =>
       if len = 0 then parts = #[] ∧ v = .sl .zero [] ∧ d = .nop
       else (match fillA (fun j => some (j * P.cellsOf e, P.cellsOf e)) (List.replicate (len * P.cellsOf e) .bad) (parts.toList.map fun (j, x) => (j, evA t x)) with
        | some cs => 0 < P.cellsOf e ∧ len * P.cellsOf e ≤ 1000 ∧ (zeroC P e).isSome = true ∧ ((zeroC P e).map List.length) = some (P.cellsOf e) ∧ cs.all isAtom = true ∧ cs.all pure0 = true ∧
            v = .sl (.tag i) (chunks len (P.cellsOf e) (cs.map forget0)) ∧ d = .new (.live e (P.cellsOf e) len)
        | none => False)
     | none => False) ∧ fp = []
  | .load ty x =>
    okTy P ty = true ∧ d = .nop ∧
    (match evA t x with
     | .op id off => fp = [id] ∧ (match (h id).peek with | some cs => takeV P ty (cs.drop off) = some v | none => False)
     | .mp id off => fp = [id] ∧ (match (h id).peek with | some cs => takeV P ty (cs.drop off) = some v | none => False)
     | .rp cs => fp = [] ∧ takeV P ty cs = some v
     | _ => False)
  | .store ty x y =>
    (P.info? ty).isSome = true ∧ v = .undef ∧
    (match evA t x, cellsA (evA t y) with
     | .op id off, some cs => fp = [id] ∧ d = .set id off cs ∧ cs.length = P.cellsOf ty ∧ cs.all isAtom = true ∧ (match h id with | .box old => off + cs.length ≤ old.length | _ => False)
     | _, _ => False)
  | .nilCheck x => (match evA t x with | .op id off => v = .op id off | .rp cs => v = .rp cs | _ => False) ∧ d = .nop ∧ fp = []
  | .binOp op ty x y _ =>
    (match evA t x, evA t y with
     | .int k a, .int k' b => k = k' ∧ intBin op k a b = some v
     | .bool a, .bool b => P.underlying ty = some .bool ∧ (match op with | .eql => v = .bool (a == b) | .neq => v = .bool (a != b) | _ => False)
     | .ag a, .ag b => EqStruct P ty a.length ∧ a.length = b.length ∧
       (match ints a, ints b with
        | some l, some m => (match op with | .eql => v = .bool (l == m) | .neq => v = .bool (l != m) | _ => False)
        | _, _ => False)
     | _, _ => False) ∧ d = .nop ∧ fp = []
  | .unOp op _ x =>
    (match op, evA t x with
     | .not, .bool b => v = .bool (!b)
     | .neg, .int k n => v = .int k (k.wrap (0 - n))
     | _, _ => False) ∧ d = .nop ∧ fp = []
  | .convert s ty x =>
    (match (P.underlying s), intKind P ty, evA t x with
     | some _, some k, .int _ n => v = .int k (k.wrap n)
     | _, _, _ => False) ∧ d = .nop ∧ fp = []
  | .makeFunc (.func f) first caps =>
    first = #[] ∧ (caps.toList.map (evA t)).all (fun x => pure0 x || !pureC x) = true ∧ v = .fn f ((caps.toList.map (evA t)).map forget0) ∧ d = .nop ∧ fp = []
  | .slice ty x lo hi mx =>
    (match sliceElem P ty, evA t x with
     | some e, .sl _ xs =>
       (match lo, hi, mx with
        | none, none, none => v = .sl .no xs
        | some y, none, none => (match evA t y with | .int _ l => 0 ≤ l ∧ l ≤ xs.length ∧ (∀ y ∈ xs, y.length = P.cellsOf e) ∧ v = .sl .no (xs.drop l.toNat) | _ => False)
        | none, some z, none => (match evA t z with | .int _ n => 0 ≤ n ∧ n ≤ xs.length ∧ v = .sl .no (xs.take n.toNat) | _ => False)
        | some y, some z, none =>
          (match evA t y, evA t z with
           | .int _ l, .int _ n => 0 ≤ l ∧ l ≤ n ∧ n ≤ xs.length ∧ (∀ y ∈ xs, y.length = P.cellsOf e) ∧ v = .sl .no ((xs.take n.toNat).drop l.toNat)
           | _, _ => False)
        | none, some y, some z => (match evA t y, evA t z with | .int _ n, .int _ m => n = 0 ∧ m = 0 ∧ v = .sl .zero [] | _, _ => False)
        | _, _, _ => False) ∧ d = .nop ∧ fp = []
     | some e, .ms id l n c sz =>
       (match lo, hi, mx with
        | some y, none, none => (match evA t y with | .int _ a => 0 ≤ a ∧ a ≤ n ∧ sz = P.cellsOf e ∧ v = .ms id (l + a.toNat) (n - a.toNat) (c - a.toNat) sz | _ => False)
        | none, some z, none => (match evA t z with | .int _ b => 0 ≤ b ∧ b ≤ c ∧ sz = P.cellsOf e ∧ v = .ms id l b.toNat c sz | _ => False)
        | _, _, _ => False) ∧ d = .nop ∧ fp = []
     | _, _ =>
       (match arrayElem P ty, evA t x, lo, hi, mx with
        | some (n, e), .op id 0, none, none, none =>
          (match (h id).peek with
           | some cs => cs.length = n * P.cellsOf e ∧ cs.all pure0 = true ∧ v = .sl .no (chunks n (P.cellsOf e) (cs.map forget0)) ∧ d = .call [id] none ∧ fp = [id]
           | none => False)
        | _, _, _, _, _ => False))
  | .fieldAddr s x f =>
    (match fieldOff P s f with
     | some n => (match evA t x with | .op _ _ => True | .rp _ => True | _ => False) ∧ v = addOff (evA t x) n
     | none => False) ∧ d = .nop ∧ fp = []
  | .indexAddr ty x ix =>
    (match evA t x, evA t ix with
     | .sl _ xs, .int _ i =>
       (match sliceElem P ty with
        | some e => 0 ≤ i ∧ (match xs[i.toNat]? with | some el => el.length = P.cellsOf e ∧ v = .rp el | none => False)
        | none => False)
     | .ms id l n c sz, .int _ i =>
       (match sliceElem P ty with
        | some e => 0 ≤ i ∧ i < n ∧ sz = P.cellsOf e ∧ v = .mp id ((l + i.toNat) * sz)
        | none => False)
     | .op id off, .int _ i =>
       (match arrayElem P ty with
        | some (n, e) => 0 ≤ i ∧ i < n ∧ v = .op id (off + i.toNat * P.cellsOf e)
        | none => False)
     | _, _ => False) ∧ d = .nop ∧ fp = []
  | .index ty x ix =>
    (match arrayElem P ty, evA t x, evA t ix with
     | some (n, e), .ag cs, .int _ i => 0 ≤ i ∧ i < n ∧ okTy P e = true ∧ takeV P e (cs.drop (i.toNat * P.cellsOf e)) = some v
     | _, _, _ => False) ∧ d = .nop ∧ fp = []
  | .extract x j => (match evA t x with | .tup vs => vs[j]? = some v | _ => False) ∧ d = .nop ∧ fp = []
  | .call { callee := .builtin .len, args := ⟨[x]⟩, argTypes := ⟨[ty]⟩ } =>
    (match evA t x with
     | .sl _ xs => (sliceElem P ty).isSome = true ∧ v = .int .i64 xs.length
     | _ => (match arrayElem P ty with | some (n, _) => v = .int .i64 n | none => False)) ∧ d = .nop ∧ fp = []
  | .call { callee := .builtin .min, args := ⟨[x, y]⟩, .. } =>
    (match evA t x, evA t y with
     | .int k a, .int _ b => v = .int k (if b < a then b else a)
     | _, _ => False) ∧ d = .nop ∧ fp = []
  | .call { callee := .builtin .max, args := ⟨[x, y]⟩, .. } =>
    (match evA t x, evA t y with
     | .int k a, .int _ b => v = .int k (if b > a then b else a)
     | _, _ => False) ∧ d = .nop ∧ fp = []
  | .call { callee := .builtin .append, args := ⟨[x, y]⟩, argTypes := ⟨[ty, ty']⟩ } =>
    (match sliceElem P ty, evA t x, evA t y with
     | some e, .sl o xs, .sl _ ys =>
       ty' = ty ∧ 0 < P.cellsOf e ∧ ((zeroC P e).map List.length) = some (P.cellsOf e) ∧ (xs.length + ys.length) * P.bytesOf e ≤ 140737488355328 ∧ (xs.length + ys.length) ≤ 9223372036854775807 ∧
       (∀ y ∈ ys, y.length = P.cellsOf e ∧ y.all isAtom = true) ∧
       (match appendable h e xs.length o with
        | some kill => v = .sl (.tag i) (xs ++ ys) ∧ d = .app kill (.live e (P.cellsOf e) (xs.length + ys.length)) ∧ fp = kill.toList
        | none => False)
     | _, _, _ => False)
  | .call { callee := .value f, args, .. } =>
    (match evA t f with
     | .fn g caps =>
       (match passAll h (args.toList.map (evA t) ++ caps) with
        | some (az, ids) => fp = ids ∧ (∃ fn c, P.funcs[g]? = some fn ∧ fn.body = some c ∧ fn.name ≠ "runtime.NumGoroutine") ∧ ∃ r, Sound P g az r ∧ v = adopt i r ∧ d = .call ids (adoptO r)
        | none => False)
     | _ => False)
  | _ => False
section
variable {P : Program} {C C' : Ctx} {h h' : AHeap} {W W' : World} {B : Nat}
theorem addr_add (b off n : Nat) : (⟨b, off, none⟩ : Addr).add n = ⟨b, off + n, none⟩ := by
  unfold Addr.add; split <;> simp_all
/-! ### values -/
theorem RepT0.pure {x : AV} {u : Value} (hr : RepT0 C W h x u) (hp : pure0 x = true) : Rep C.S W (forget0 x) u := by
  cases x with
  | fs t => cases hp
  | ms id lo n c sz => cases hp
  | mp id off => cases hp
  | op id off => cases hp
  | sl o xs =>
    cases o with
    | no => exact hr
    | zero => obtain ⟨rfl, A, rfl⟩ := hr; exact .slE A 0
    | tag t => exact hr.1
    | own e s => cases hr
    | fown e s => cases hr
  | fn f caps =>
    obtain ⟨us, rfl, hl, hc⟩ := hr
    refine .fn f caps us hl fun j x hx => ?_
    have h1 := hc j x hx
    have h2 : pureC x = true := List.all_eq_true.1 hp x (List.mem_of_getElem? hx)
    cases x <;> first | exact h1 | cases h2
  | _ => exact hr
theorem RepT.of_T0 {x : AV} {u : Value} (hr : RepT0 C W h x u) : RepT C W h x u := by
  cases x with
  | ag cs => exact .of_rep hr
  | tup cs => exact .of_rep hr
  | _ => exact hr
theorem atom_one {x : AV} {u : Value} (ha : isAtom x = true) (hr : RepT0 C W h x u) : u.oneCell' = true := by
  cases x with
  | op id off => rw [hr.2]; rfl
  | fs t => exact hr.1
  | ms id lo n c sz => obtain ⟨_, q, rfl, _⟩ := hr; rfl
  | mp id off => rw [hr.2]; rfl
  | sl o xs =>
    cases o with
    | no => exact Rep.atom hr ha
    | zero => obtain ⟨_, A, rfl⟩ := hr; rfl
    | tag t => exact Rep.atom hr.1 rfl
    | own e s => cases hr
    | fown e s => cases hr
  | fn f caps => obtain ⟨us, rfl, _⟩ := hr; rfl
  | bad => cases ha
  | undef => cases ha
  | ag cs => cases ha
  | tup cs => cases ha
  | _ => exact Rep.atom hr ha
theorem cells_one {u : Value} (hu : u.oneCell' = true) : u.cells = #[u] := by cases u <;> first | rfl | cases hu
theorem cellsA_rep {x : AV} {u : Value} {cs : List AV} (hr : RepT C W h x u) (hc : cellsA x = some cs) :
    ∃ us : List Value, u.cells = us.toArray ∧ us.length = cs.length ∧ ∀ j y, cs[j]? = some y → RepT0 C W h y (us.getD j Go.undef) := by
  have one : isAtom x = true → RepT0 C W h x u → cs = [x] → ∃ us : List Value, u.cells = us.toArray ∧ us.length = cs.length ∧ ∀ j y, cs[j]? = some y → RepT0 C W h y (us.getD j Go.undef) := by
    rintro ha hr rfl
    refine ⟨[u], cells_one (atom_one ha hr), rfl, fun j y hy => ?_⟩
    cases j with
    | zero => simp at hy; subst hy; exact hr
    | succ j => simp at hy
  cases x with
  | ag cs' =>
    obtain ⟨us, rfl, hl, hc'⟩ := hr
    simp only [cellsA, Option.some.injEq] at hc
    subst hc
    exact ⟨us, rfl, hl, hc'⟩
  | bad => cases hc
  | undef => cases hc
  | tup cs => cases hc
  | _ => exact one rfl hr (by simpa [cellsA] using hc.symm)
theorem const0_rep (v : Value) : RepT0 C W h (const0 v) v := by
  unfold const0
  split
  · exact Rep.bool _
  · exact Rep.int _ _
  · exact Rep.str _
  · exact Rep.nilP
  · exact Rep.nilF
  · exact ⟨rfl, none, rfl⟩
  · exact Rep.any _
theorem constA_rep (v : Value) : RepT C W h (constA v) v := by
  unfold constA
  split
  · exact Rep.undef
  · exact .of_T0 (const0_rep v)
theorem evA_rep {t : Nat → AV} {a : Act} (hρ : ∀ n, RepT C W h (t n) (a.tmps.getD n Go.undef)) (x : Operand) : RepT C W h (evA t x) (a.eval x) := by
  cases x with
  | tmp n => exact hρ n
  | const v => exact constA_rep v
  | global g => exact Rep.any _
  | func f => exact ⟨[], rfl, rfl, fun j x hx => by simp at hx⟩
/-! ### reading -/
theorem run_isAgg {ty : TypeId} (hu : (P.underlying ty).isSome = true) (w : World) : (isAgg ty).run P w = .ok (isAggB P ty) w := by
  obtain ⟨d, hd⟩ := Option.isSome_iff_exists.1 hu
  unfold isAgg
  rw [Sem.run_bind, run_underlying hd]
  cases d <;> simp [isAggB, hd]
theorem run_sizeOf' {ty : TypeId} (hi : (P.info? ty).isSome = true) (w : World) : (sizeOf ty).run P w = .ok (P.cellsOf ty) w := by
  obtain ⟨i, hi⟩ := Option.isSome_iff_exists.1 hi
  simp [sizeOf, typeInfo, hi, Program.cellsOf]
theorem okTy_iff {ty : TypeId} (hk : okTy P ty = true) : (P.info? ty).isSome = true ∧ (P.underlying ty).isSome = true := by
  simpa [okTy] using hk
theorem takeV_load {ty : TypeId} {cs : List AV} {v : AV} {b off : Nat} (hk : okTy P ty = true) (hv : takeV P ty cs = some v) (uf : Nat → Value)
    (hc : ∀ j x, cs[j]? = some x → W.cell? ⟨b, off + j, none⟩ = some (uf j) ∧ RepT0 C W h x (uf j)) :
    ∃ u, (loadVar ty ⟨b, off, none⟩).run P W = .ok u W ∧ RepT C W h v u := by
  obtain ⟨hi, hu⟩ := okTy_iff hk
  unfold takeV at hv
  by_cases ha : isAggB P ty = true
  · rw [if_pos ha] at hv
    split at hv
    · rename_i hle
      simp only [Option.some.injEq] at hv
      subst hv
      have hl := run_loadCells (P := P) W ⟨b, off, none⟩ (P.cellsOf ty) uf (fun j hj => by
        rw [addr_add]
        exact (hc j _ (List.getElem?_eq_getElem (by omega))).1)
      refine ⟨.agg ((List.range (P.cellsOf ty)).map uf).toArray, ?_, ⟨_, rfl, by simp [hle], fun j x hx => ?_⟩⟩
      · simp [loadVar, run_isAgg hu, ha, run_sizeOf' hi, hl]
      · rw [List.getElem?_take] at hx
        split at hx
        · rename_i hj
          rw [show ((List.range (P.cellsOf ty)).map uf).getD j Go.undef = uf j by simp [List.getD, hj]]
          exact (hc j x hx).2
        · cases hx
    · cases hv
  · rw [if_neg ha] at hv
    have h0 : cs[0]? = some v := by rw [← List.head?_eq_getElem?]; exact hv
    have hh := hc 0 v h0
    refine ⟨uf 0, ?_, .of_T0 hh.2⟩
    have hb : isAggB P ty = false := by simpa using ha
    simp [loadVar, run_isAgg hu, hb, show W.cell? ⟨b, off, none⟩ = some (uf 0) from hh.1]
/-! ### the invariant's turns -/
theorem cell_lt {b o : Nat} {w : World} (hc : (w.cell? ⟨b, o, none⟩).isSome = true) : b < w.heap.size := by
  obtain ⟨u, hu⟩ := Option.isSome_iff_exists.1 hc
  exact World.block_lt_of_cell? w _ hu
theorem own_of_ownBlk {e : TypeId} {size n : Nat} {v : Value} {vs : List Value} (ho : W.ownsRow B e size v n vs) {g : Nat} (hg : ownBlk v = some g) : v.ownBlock = some g := by
  unfold ownBlk at hg
  split at hg
  · simpa [Value.ownBlock] using hg
  · cases hg
theorem AppV.lt {e : TypeId} {n : Nat} {v : Value} {S : Nat → Nat → Prop} (ha : AppV P S W B e n v) {g : Nat} (hg : ownBlk v = some g) : B ≤ g ∧ g < W.heap.size := by
  rcases ha with ⟨_, A, rfl⟩ | ⟨⟨ty, vs, ho⟩, _⟩
  · simp [ownBlk] at hg
  · exact ho.lt g (own_of_ownBlk ho hg)
theorem FreshV.lt {S : Nat → Nat → Prop} {e : TypeId} {sz : Nat} {xs : List (List AV)} {u : Value} (f : FreshV P S W B e sz xs u) {g : Nat} (hg : ownBlk u = some g) : B ≤ g ∧ g < W.heap.size := by
  rcases f.ex with ⟨_, A, rfl⟩ | ⟨b, c, us, ty, rfl, hB, hh, _, hc, hp, _⟩
  · simp [ownBlk] at hg
  · cases c with
    | zero => omega
    | succ c =>
      obtain rfl : b = g := by simpa [ownBlk] using hg
      exact ⟨hB, (Array.getElem?_eq_some_iff.1 hh).1⟩
theorem FreshV.keep {S S' : Nat → Nat → Prop} {e : TypeId} {sz : Nat} {xs : List (List AV)} {u : Value} (f : FreshV P S W B e sz xs u) (hb : ∀ g, g < W.heap.size → ownBlk u = some g → W'.heap[g]? = W.heap[g]?)
    (hS : ∀ b o, S b o → S' b o) (hW : ∀ b o, S b o → W'.cell? ⟨b, o, none⟩ = W.cell? ⟨b, o, none⟩) (hn : ∀ g, ownBlk u = some g → ∀ o, S' g o → S g o) : FreshV P S' W' B e sz xs u := by
  refine ⟨f.szE, f.pos, f.rows, ?_⟩
  rcases f.ex with h0 | ⟨b, c, us, ty, rfl, hB, hh, h1, h2, hp, h3, h4, h5⟩
  · exact .inl h0
  · have hg : ownBlk (.slice (some ⟨b, 0, none⟩) xs.length c) = some b := by
      cases c with
      | zero => omega
      | succ c => rfl
    exact .inr ⟨b, c, us, ty, rfl, hB, by rw [hb b (Array.getElem?_eq_some_iff.1 hh).1 hg]; exact hh, h1, h2, hp, h3, fun o hs => h4 o (hn b hg o hs), fun i j x hx => (h5 i j x hx).mono hS hW⟩
theorem FreshV.base {S : Nat → Nat → Prop} {e : TypeId} {sz : Nat} {xs : List (List AV)} {u : Value} {B' : Nat} (f : FreshV P S W B e sz xs u) (hB : B' ≤ B) : FreshV P S W B' e sz xs u := by
  refine ⟨f.szE, f.pos, f.rows, ?_⟩
  rcases f.ex with h0 | ⟨b, c, us, ty, e1, h0, hr⟩
  · exact .inl h0
  · exact .inr ⟨b, c, us, ty, e1, Nat.le_trans hB h0, hr⟩
theorem Inv.own_lt (I : Inv P C h W B) {id b : Nat} (hb : (h id).ownBlock C id = some b) : B ≤ b ∧ b < W.heap.size := by
  have box : ∀ cs, (h id).peek = some cs → C.ι id = b → B ≤ b ∧ b < W.heap.size := by
    rintro cs hp rfl
    obtain ⟨us, ty, hh, _, hB, _⟩ := I.box id cs hp
    exact ⟨hB, (Array.getElem?_eq_some_iff.1 hh).1⟩
  cases hid : h id with
  | none => rw [hid] at hb; cases hb
  | dead => rw [hid] at hb; cases hb
  | box cs => rw [hid] at hb; exact box cs (by rw [hid]; rfl) (by simpa [HO.ownBlock] using hb)
  | sealed cs => rw [hid] at hb; exact box cs (by rw [hid]; rfl) (by simpa [HO.ownBlock] using hb)
  | live e sz n => rw [hid] at hb; exact (I.live id e sz n hid).2.lt hb
  | fresh e sz xs => rw [hid] at hb; exact (I.fr id e sz xs hid).lt hb
/-- Where every block stays, all stays. -/
theorem ownsRow_blocks {w w' : World} {base n : Nat} {e : TypeId} {size : Nat} {v : Value} {xs : List Value} (ho : w.ownsRow base e size v n xs)
    (hb : ∀ g, v.ownBlock = some g → w'.heap[g]? = w.heap[g]?) : w'.ownsRow base e size v n xs := by
  refine ⟨ho.1, ?_⟩
  rcases ho.2 with h1 | ⟨g, cap, cur, rfl, h2, h3, h4⟩
  · exact .inl h1
  · exact .inr ⟨g, cap, cur, rfl, h2, by rw [hb g rfl]; exact h3, h4⟩
theorem AppV.keep {e : TypeId} {n : Nat} {v : Value} {S S' : Nat → Nat → Prop} (ha : AppV P S W B e n v) (hb : ∀ g, g < W.heap.size → ownBlk v = some g → W'.heap[g]? = W.heap[g]?)
    (hS : ∀ g, ownBlk v = some g → ∀ o, S' g o → S g o) : AppV P S' W' B e n v := by
  rcases ha with h1 | ⟨⟨ty, vs, ho⟩, h2⟩
  · exact .inl h1
  · have ho' := ho
    rcases ho.2 with h3 | ⟨g, cap, cur, rfl, h3, h4, h5, h6⟩
    · exact .inl ⟨h3.2, none, h3.1⟩
    · cases cap with
      | zero =>
        obtain rfl : n = 0 := by omega
        exact .inl ⟨rfl, _, rfl⟩
      | succ cap =>
        have hlt := (Array.getElem?_eq_some_iff.1 h4).1
        refine .inr ⟨⟨ty, vs, ownsRow_blocks ho' fun g' hg => ?_⟩, fun g hg o ho' hs => h2 g hg o ho' (hS g hg o hs)⟩
        obtain rfl : g = g' := by simpa [Value.ownBlock] using hg
        exact hb g hlt rfl
theorem AppV.base {e : TypeId} {n : Nat} {v : Value} {S : Nat → Nat → Prop} {B' : Nat} (ha : AppV P S W B e n v) (hB : B' ≤ B) : AppV P S W B' e n v := by
  rcases ha with h1 | ⟨⟨ty, vs, ho⟩, h2⟩
  · exact .inl h1
  · refine .inr ⟨⟨ty, vs, ho.1, ?_⟩, h2⟩
    rcases ho.2 with h1 | ⟨g, cap, cur, rfl, h2, h3⟩
    · exact .inl h1
    · exact .inr ⟨g, cap, cur, rfl, Nat.le_trans hB h2, h3⟩
theorem cell_of_heap {w w' : World} {b o : Nat} (hb : w'.heap[b]? = w.heap[b]?) : w'.cell? ⟨b, o, none⟩ = w.cell? ⟨b, o, none⟩ := World.cell?_of_block hb
/-- A world with the same memory serves as well. -/
theorem Inv.heap (I : Inv P C h W B) (e : W'.heap = W.heap) : Inv P C h W' B ∧ Le C h W C h W' := by
  have hc : ∀ b o, W'.cell? ⟨b, o, none⟩ = W.cell? ⟨b, o, none⟩ := fun b o => cell_of_heap (by rw [e])
  have l : Le C h W C h W' := ⟨fun _ _ h => h, fun b o _ => hc b o, fun _ => HOle.refl _, fun _ _ => rfl, fun _ _ => rfl, rfl, rfl, rfl, fun _ _ => by rw [e], fun _ _ h => .inl h⟩
  refine ⟨⟨fun b o hs => by rw [hc]; exact I.has b o hs, by rw [e]; exact I.base, fun id cs hp => ?_, I.unsealed, I.isSealed, fun t e' sz n ht => ?_, I.apart, I.news, by rw [e]; exact I.tn, I.mn, I.ss, I.tb.keep fun _ _ _ => by rw [e], fun t e' sz xs ht => (I.fr t e' sz xs ht).keep (fun _ _ _ => by rw [e]) (fun _ _ h => h) (fun b o _ => hc b o) (fun _ _ _ h => h)⟩, l⟩
  · obtain ⟨us, ty, h1, h2, h3, h4⟩ := I.box id cs hp
    exact ⟨us, ty, by rw [e]; exact h1, h2, h3, fun j x hx => (h4 j x hx).le l⟩
  · exact ⟨(I.live t e' sz n ht).1, (I.live t e' sz n ht).2.keep (fun g _ _ => by rw [e]) (fun _ _ _ hs => hs)⟩
theorem upd_self (i : Nat) (o : HO) : upd h i o i = o := by simp [upd]
theorem upd_ne {i j : Nat} (o : HO) (hj : j ≠ i) : upd h i o j = h j := by simp [upd, hj]
/-- A new block that stays the machine's own. -/
theorem Inv.newBox (I : Inv P C h W B) {i : Nat} (hi : h i = .none) (us : List Value) (ty : TypeId) (cs : List AV) (hl : us.length = cs.length)
    (hr : ∀ j x, cs[j]? = some x → RepT0 C W h x (us.getD j Go.undef)) :
    let C' : Ctx := { C with ι := fun j => if j = i then W.heap.size else C.ι j }
    Inv P C' (upd h i (.box cs)) (W.alloc (.cells us.toArray ty)) B ∧ Le C h W C' (upd h i (.box cs)) (W.alloc (.cells us.toArray ty)) := by
  intro C'
  have old : ∀ b, b < W.heap.size → (W.alloc (.cells us.toArray ty)).heap[b]? = W.heap[b]? := fun b hb => heap_alloc_old W _ b hb
  have l : Le C h W C' (upd h i (.box cs)) (W.alloc (.cells us.toArray ty)) := by
    refine ⟨fun _ _ h => h, fun b o hs => cell_of_heap (old b (cell_lt (I.has b o hs))), fun id => ?_, fun id hid => ?_, fun _ _ => rfl, rfl, rfl, rfl, fun b hb => old b (I.tn b hb).1, fun _ _ h => .inl h⟩
    · by_cases e : id = i
      · subst e; rw [hi]; trivial
      · rw [upd_ne _ e]; exact HOle.refl _
    · have e : id ≠ i := fun e => hid (e ▸ hi)
      simp [C', e]
  refine ⟨⟨fun b o hs => ?_, by simp; have := I.base; omega, fun id cs' hp => ?_, fun id cs' hp o hs => ?_, fun id cs' hp => ?_, fun t e sz n ht => ?_, fun a b x ha hb => ?_, I.news, fun b hb => ⟨by have := (I.tn b hb).1; simp; omega, fun id ho => ?_⟩, I.mn, I.ss, I.tb.keep fun b hb _ => old b (Nat.lt_of_lt_of_le hb I.base), fun t e sz xs ht => (by
    have e' : t ≠ i := fun e' => by subst e'; rw [upd_self] at ht; cases ht
    rw [upd_ne _ e'] at ht
    exact (I.fr t e sz xs ht).keep (fun g hg _ => old g hg) (fun _ _ h => h) l.clW (fun _ _ _ h => h))⟩, l⟩
  rotate_right
  · by_cases e : id = i
    · subst e
      rw [upd_self] at ho
      simp [HO.ownBlock, C'] at ho
      have := (I.tn b hb).1
      omega
    · rw [upd_ne _ e] at ho
      refine (I.tn b hb).2 id ?_
      cases hh : h id <;> rw [hh] at ho <;> simp_all [HO.ownBlock, C']
  · rw [cell_of_heap (old b (cell_lt (I.has b o hs)))]; exact I.has b o hs
  · by_cases e : id = i
    · subst e
      rw [upd_self] at hp
      simp only [HO.peek, Option.some.injEq] at hp
      subst hp
      exact ⟨us, ty, by simp only [C', if_true]; exact heap_alloc_new W _, hl, by simp only [C', if_true]; exact I.base, fun j x hx => (hr j x hx).le l⟩
    · rw [upd_ne _ e] at hp
      obtain ⟨us', ty', h1, h2, h3, h4⟩ := I.box id cs' hp
      exact ⟨us', ty', by simp only [C', if_neg e]; rw [old _ (Array.getElem?_eq_some_iff.1 h1).1]; exact h1, h2, by simp only [C', if_neg e]; exact h3, fun j x hx => (h4 j x hx).le l⟩
  · by_cases e : id = i
    · subst e
      simp only [C', if_true] at hs
      exact absurd (cell_lt (I.has _ _ hs)) (Nat.lt_irrefl _)
    · rw [upd_ne _ e] at hp
      simp only [C', if_neg e] at hs
      exact I.unsealed id cs' hp o hs
  · have e : id ≠ i := fun e => by subst e; rw [upd_self] at hp; cases hp
    rw [upd_ne _ e] at hp
    simp only [C', if_neg e]
    exact I.isSealed id cs' hp
  · have e' : t ≠ i := fun e' => by subst e'; rw [upd_self] at ht; cases ht
    rw [upd_ne _ e'] at ht
    exact ⟨(I.live t e sz n ht).1, (I.live t e sz n ht).2.keep (fun g hg _ => old g hg) (fun _ _ _ hs => hs)⟩
  · have key : ∀ a x, a ≠ i → (upd h i (.box cs) a).ownBlock C' a = some x → (h a).ownBlock C a = some x := fun a x e ha => by
      rw [upd_ne _ e] at ha
      cases hh : h a <;> rw [hh] at ha <;> simp_all [HO.ownBlock, C']
    have new : ∀ x, (upd h i (.box cs) i).ownBlock C' i = some x → x = W.heap.size := fun x hx => by
      rw [upd_self] at hx; simp [HO.ownBlock, C'] at hx; exact hx.symm
    by_cases ea : a = i <;> by_cases eb : b = i
    · rw [ea, eb]
    · subst ea
      have h1 := new x ha
      have h2 := I.own_lt (key b x eb hb)
      omega
    · subst eb
      have h1 := new x hb
      have h2 := I.own_lt (key a x ea ha)
      omega
    · exact I.apart a b x (key a x ea ha) (key b x eb hb)
/-- The world has grown, and new cells are closed. -/
theorem Inv.grow (I : Inv P C h W B) (S' : Nat → Nat → Prop) (hb : ∀ b, b < W.heap.size → W'.heap[b]? = W.heap[b]?) (hz : W.heap.size ≤ W'.heap.size)
    (hS : ∀ b o, C.S b o → S' b o) (hn : ∀ b o, S' b o → C.S b o ∨ W.heap.size ≤ b) (hh : ∀ b o, S' b o → (W'.cell? ⟨b, o, none⟩).isSome = true) :
    Inv P { C with S := S' } h W' B ∧ Le C h W { C with S := S' } h W' := by
  have l : Le C h W { C with S := S' } h W' :=
    ⟨hS, fun b o hs => cell_of_heap (hb b (cell_lt (I.has b o hs))), fun _ => HOle.refl _, fun _ _ => rfl, fun _ _ => rfl, rfl, rfl, rfl, fun b ht => hb b (I.tn b ht).1,
      fun b o h => (hn b o h).imp id fun h1 h2 => Nat.lt_irrefl _ (Nat.lt_of_lt_of_le (I.tn b h2).1 h1)⟩
  refine ⟨⟨hh, Nat.le_trans I.base hz, fun id cs hp => ?_, fun id cs hp o hs => ?_, fun id cs hp => ?_, fun t e sz n ht => ?_, I.apart, fun b o hs => ?_, fun b ht => ⟨Nat.lt_of_lt_of_le (I.tn b ht).1 hz, (I.tn b ht).2⟩, I.mn, fun b o h => hS _ _ (I.ss b o h), I.tb.keep fun b h' _ => hb b (Nat.lt_of_lt_of_le h' I.base), fun t e sz xs ht => (I.fr t e sz xs ht).keep (fun g hg _ => hb g hg) hS l.clW (fun g hg o hs => (hn g o hs).elim id fun hq => absurd hq (by have := (I.fr t e sz xs ht).lt hg; omega))⟩, l⟩
  · obtain ⟨us, ty, h1, h2, h3, h4⟩ := I.box id cs hp
    exact ⟨us, ty, by rw [hb _ (Array.getElem?_eq_some_iff.1 h1).1]; exact h1, h2, h3, fun j x hx => (h4 j x hx).le l⟩
  · rcases hn _ _ hs with h1 | h1
    · exact I.unsealed id cs hp o h1
    · have h2 := I.own_lt (id := id) (b := C.ι id) (by rw [hp]; rfl)
      have h3 := h2.2
      exact absurd h1 (by show ¬ W.heap.size ≤ C.ι id; omega)
  · exact fun o ho => hS _ _ (I.isSealed id cs hp o ho)
  · have h1 := (I.live t e sz n ht).2
    refine ⟨(I.live t e sz n ht).1, h1.keep (fun g hg _ => hb g hg) (fun g hg o hs => ?_)⟩
    rcases hn _ _ hs with h2 | h2
    · exact h2
    · have := (h1.lt hg).2; omega
  · rcases hn b o hs with h1 | h1
    · exact I.news b o h1
    · exact .inr (Nat.le_trans I.base h1)
/-- A slice that may be appended to is taken in, as number i. -/
theorem Inv.newLive (I : Inv P C h W B) {i : Nat} (hi : h i = .none) (e : TypeId) (n : Nat) (v : Value) (ha : AppV P C.S W B e n v)
    (hn : ∀ g, ownBlk v = some g → (∀ id, (h id).ownBlock C id ≠ some g) ∧ ¬ C.T g) :
    let C' : Ctx := { C with θ := fun j => if j = i then v else C.θ j }
    Inv P C' (upd h i (.live e (P.cellsOf e) n)) W B ∧ Le C h W C' (upd h i (.live e (P.cellsOf e) n)) W := by
  intro C'
  have l : Le C h W C' (upd h i (.live e (P.cellsOf e) n)) W := by
    refine ⟨fun _ _ h => h, fun _ _ _ => rfl, fun id => ?_, fun _ _ => rfl, fun id hid => ?_, rfl, rfl, rfl, fun _ _ => rfl, fun _ _ h => .inl h⟩
    · by_cases e' : id = i
      · subst e'; rw [hi]; trivial
      · rw [upd_ne _ e']; exact HOle.refl _
    · have e' : id ≠ i := fun e' => hid (e' ▸ hi)
      simp [C', e']
  refine ⟨⟨I.has, I.base, fun id cs' hp => ?_, fun id cs' hp => ?_, fun id cs' hp => ?_, fun t e' sz n' ht => ?_, fun a b x hxa hxb => ?_, I.news, fun b hb => ⟨(I.tn b hb).1, fun id ho => ?_⟩, I.mn, I.ss, I.tb, fun t e' sz xs ht => (by
    have e1 : t ≠ i := fun e1 => by subst e1; rw [upd_self] at ht; cases ht
    rw [upd_ne _ e1] at ht
    simp only [C', if_neg e1]
    exact I.fr t e' sz xs ht)⟩, l⟩
  rotate_right
  · by_cases e1 : id = i
    · subst e1
      rw [upd_self] at ho
      exact (hn b (by simpa [HO.ownBlock, C'] using ho)).2 hb
    · rw [upd_ne _ e1] at ho
      refine (I.tn b hb).2 id ?_
      cases hh : h id <;> rw [hh] at ho <;> simp_all [HO.ownBlock, C']
  · have e' : id ≠ i := fun e' => by subst e'; rw [upd_self] at hp; cases hp
    rw [upd_ne _ e'] at hp
    obtain ⟨us', ty', h1, h2, h3, h4⟩ := I.box id cs' hp
    exact ⟨us', ty', h1, h2, h3, fun j x hx => (h4 j x hx).le l⟩
  · have e' : id ≠ i := fun e' => by subst e'; rw [upd_self] at hp; cases hp
    rw [upd_ne _ e'] at hp
    exact I.unsealed id cs' hp
  · have e' : id ≠ i := fun e' => by subst e'; rw [upd_self] at hp; cases hp
    rw [upd_ne _ e'] at hp
    exact I.isSealed id cs' hp
  · by_cases e1 : t = i
    · subst e1
      rw [upd_self] at ht
      cases ht
      refine ⟨rfl, ?_⟩
      simp only [C', if_true]
      exact ha
    · rw [upd_ne _ e1] at ht
      simp only [C', if_neg e1]
      exact I.live t e' sz n' ht
  · have key : ∀ a x, a ≠ i → (upd h i (.live e (P.cellsOf e) n) a).ownBlock C' a = some x → (h a).ownBlock C a = some x := fun a x e ha => by
      rw [upd_ne _ e] at ha
      cases hh : h a <;> rw [hh] at ha <;> simp_all [HO.ownBlock, C']
    have new : ∀ x, (upd h i (.live e (P.cellsOf e) n) i).ownBlock C' i = some x → ownBlk v = some x := fun x hx => by
      rw [upd_self] at hx; simpa [HO.ownBlock, C'] using hx
    by_cases ea : a = i <;> by_cases eb : b = i
    · rw [ea, eb]
    · subst ea
      exact absurd (key b x eb hxb) ((hn x (new x hxa)).1 b)
    · subst eb
      exact absurd (key a x ea hxa) ((hn x (new x hxb)).1 a)
    · exact I.apart a b x (key a x ea hxa) (key b x eb hxb)
/-- A slice nothing of which is closed is taken in, as number i. -/
theorem Inv.newFresh (I : Inv P C h W B) {i : Nat} (hi : h i = .none) (e : TypeId) (sz : Nat) (xs : List (List AV)) (v : Value) (ha : FreshV P C.S W B e sz xs v)
    (hn : ∀ g, ownBlk v = some g → (∀ id, (h id).ownBlock C id ≠ some g) ∧ ¬ C.T g) :
    let C' : Ctx := { C with θ := fun j => if j = i then v else C.θ j }
    Inv P C' (upd h i (.fresh e sz xs)) W B ∧ Le C h W C' (upd h i (.fresh e sz xs)) W := by
  intro C'
  have l : Le C h W C' (upd h i (.fresh e sz xs)) W := by
    refine ⟨fun _ _ h => h, fun _ _ _ => rfl, fun id => ?_, fun _ _ => rfl, fun id hid => ?_, rfl, rfl, rfl, fun _ _ => rfl, fun _ _ h => .inl h⟩
    · by_cases e' : id = i
      · subst e'; rw [hi]; trivial
      · rw [upd_ne _ e']; exact HOle.refl _
    · have e' : id ≠ i := fun e' => hid (e' ▸ hi)
      simp [C', e']
  refine ⟨⟨I.has, I.base, fun id cs' hp => ?_, fun id cs' hp => ?_, fun id cs' hp => ?_, fun t e' sz n' ht => ?_, fun a b x hxa hxb => ?_, I.news, fun b hb => ⟨(I.tn b hb).1, fun id ho => ?_⟩, I.mn, I.ss, I.tb, fun t e' sz' xs' ht => (by
    by_cases e1 : t = i
    · subst e1
      rw [upd_self] at ht
      cases ht
      simp only [C', if_true]
      exact ha
    · rw [upd_ne _ e1] at ht
      simp only [C', if_neg e1]
      exact I.fr t e' sz' xs' ht)⟩, l⟩
  rotate_right
  · by_cases e1 : id = i
    · subst e1
      rw [upd_self] at ho
      exact (hn b (by simpa [HO.ownBlock, C'] using ho)).2 hb
    · rw [upd_ne _ e1] at ho
      refine (I.tn b hb).2 id ?_
      cases hh : h id <;> rw [hh] at ho <;> simp_all [HO.ownBlock, C']
  · have e' : id ≠ i := fun e' => by subst e'; rw [upd_self] at hp; cases hp
    rw [upd_ne _ e'] at hp
    obtain ⟨us', ty', h1, h2, h3, h4⟩ := I.box id cs' hp
    exact ⟨us', ty', h1, h2, h3, fun j x hx => (h4 j x hx).le l⟩
  · have e' : id ≠ i := fun e' => by subst e'; rw [upd_self] at hp; cases hp
    rw [upd_ne _ e'] at hp
    exact I.unsealed id cs' hp
  · have e' : id ≠ i := fun e' => by subst e'; rw [upd_self] at hp; cases hp
    rw [upd_ne _ e'] at hp
    exact I.isSealed id cs' hp
  · have e1 : t ≠ i := fun e1 => by subst e1; rw [upd_self] at ht; cases ht
    rw [upd_ne _ e1] at ht
    simp only [C', if_neg e1]
    exact I.live t e' sz n' ht
  · have key : ∀ a x, a ≠ i → (upd h i (.fresh e sz xs) a).ownBlock C' a = some x → (h a).ownBlock C a = some x := fun a x e ha => by
      rw [upd_ne _ e] at ha
      cases hh : h a <;> rw [hh] at ha <;> simp_all [HO.ownBlock, C']
    have new : ∀ x, (upd h i (.fresh e sz xs) i).ownBlock C' i = some x → ownBlk v = some x := fun x hx => by
      rw [upd_self] at hx; simpa [HO.ownBlock, C'] using hx
    by_cases ea : a = i <;> by_cases eb : b = i
    · rw [ea, eb]
    · subst ea
      exact absurd (key b x eb hxb) ((hn x (new x hxa)).1 b)
    · subst eb
      exact absurd (key a x ea hxa) ((hn x (new x hxb)).1 a)
    · exact I.apart a b x (key a x ea hxa) (key b x eb hxb)
/-- A slice may no longer be appended to. -/
theorem Inv.kill (I : Inv P C h W B) (t : Nat) : Inv P C (upd h t (killO (h t))) W B ∧ Le C h W C (upd h t (killO (h t))) W := by
  have hle : ∀ id, HOle (h id) (upd h t (killO (h t)) id) := fun id => by
    by_cases e : id = t
    · subst e; rw [upd_self]; cases h id <;> simp [killO, HOle]
    · rw [upd_ne _ e]; exact HOle.refl _
  have l : Le C h W C (upd h t (killO (h t))) W := ⟨fun _ _ h => h, fun _ _ _ => rfl, hle, fun _ _ => rfl, fun _ _ => rfl, rfl, rfl, rfl, fun _ _ => rfl, fun _ _ h => .inl h⟩
  have hbox : ∀ id o, (∀ e s n, o ≠ .live e s n) → o ≠ .dead → upd h t (killO (h t)) id = o → h id = o := fun id o h1 h2 h3 => by
    by_cases e : id = t
    · subst e; rw [upd_self] at h3
      cases hh : h id <;> rw [hh] at h3 <;> simp_all [killO]
    · rw [upd_ne _ e] at h3; exact h3
  refine ⟨⟨I.has, I.base, fun id cs hp => ?_, fun id cs hp => ?_, fun id cs hp => ?_, fun a e sz n ha => ?_, fun a b x ha hb => ?_, I.news, fun b hb => ⟨(I.tn b hb).1, fun id ho => ?_⟩, I.mn, I.ss, I.tb, fun a e sz xs ha => I.fr a e sz xs (hbox a _ (by simp) (by simp) ha)⟩, l⟩
  rotate_right
  · refine (I.tn b hb).2 id ?_
    by_cases e : id = t
    · subst e; rw [upd_self] at ho
      cases hh : h id <;> rw [hh] at ho <;> simp_all [killO, HO.ownBlock]
    · rw [upd_ne _ e] at ho; exact ho
  · have hp' : (h id).peek = some cs := by
      cases hh : upd h t (killO (h t)) id with
      | box cs' => rw [hbox id _ (by simp) (by simp) hh]; rw [hh] at hp; exact hp
      | sealed cs' => rw [hbox id _ (by simp) (by simp) hh]; rw [hh] at hp; exact hp
      | none => rw [hh] at hp; cases hp
      | live e s n => rw [hh] at hp; cases hp
      | fresh e s n => rw [hh] at hp; cases hp
      | dead => rw [hh] at hp; cases hp
    obtain ⟨us', ty', h1, h2, h3, h4⟩ := I.box id cs hp'
    exact ⟨us', ty', h1, h2, h3, fun j x hx => (h4 j x hx).le l⟩
  · exact I.unsealed id cs (hbox id _ (by simp) (by simp) hp)
  · exact I.isSealed id cs (hbox id _ (by simp) (by simp) hp)
  · have e' : a ≠ t := fun e' => by subst e'; rw [upd_self] at ha; cases hh : h a <;> rw [hh] at ha <;> simp [killO] at ha
    rw [upd_ne _ e'] at ha
    exact I.live a e sz n ha
  · have key : ∀ a x, (upd h t (killO (h t)) a).ownBlock C a = some x → (h a).ownBlock C a = some x := fun a x ha => by
      by_cases e : a = t
      · subst e; rw [upd_self] at ha
        cases hh : h a <;> rw [hh] at ha <;> simp_all [killO, HO.ownBlock]
      · rw [upd_ne _ e] at ha; exact ha
    exact I.apart a b x (key a x ha) (key b x hb)
theorem splice_length {cs new : List AV} {off : Nat} (hl : off + new.length ≤ cs.length) : (splice cs off new).length = cs.length := by
  simp [splice]; omega
theorem splice_get {α : Type} (cs new : List α) (off j : Nat) (hl : off + new.length ≤ cs.length) :
    (cs.take off ++ new ++ cs.drop (off + new.length))[j]? = if off ≤ j ∧ j < off + new.length then new[j - off]? else cs[j]? := by
  rw [List.append_assoc, List.getElem?_append]
  simp only [List.length_take]
  have hm : min off cs.length = off := by omega
  rw [hm]
  by_cases h1 : j < off
  · rw [if_pos h1, if_neg (by omega), List.getElem?_take, if_pos h1]
  · rw [if_neg h1, List.getElem?_append]
    by_cases h2 : j - off < new.length
    · rw [if_pos h2, if_pos (by omega)]
    · rw [if_neg h2, if_neg (by omega), List.getElem?_drop]
      congr 1
      omega
/-- A store into a block of the machine's own. -/
theorem Inv.setBox (I : Inv P C h W B) {id off : Nat} {old cs : List AV} (hid : h id = .box old) (us : List Value) (hl : us.length = cs.length)
    (hr : ∀ j x, cs[j]? = some x → RepT0 C W h x (us.getD j Go.undef)) (hf : off + cs.length ≤ old.length) (h1 : ∀ u ∈ us, u.oneCell' = true) :
    ∃ W', (storeCells ⟨C.ι id, off, none⟩ us).run P W = .ok () W' ∧ Inv P C (upd h id (setO off cs (h id))) W' B ∧ Le C h W C (upd h id (setO off cs (h id))) W' ∧ Below B W W' := by
  obtain ⟨us0, ty, g1, g2, g3, g4⟩ := I.box id old (by rw [hid]; rfl)
  have hst : (storeCells ⟨C.ι id, off, none⟩ us).run P W = .ok () (W.setRow (C.ι id) (us0.take off ++ us ++ us0.drop (off + us.length)).toArray) := by
    simpa using run_storeCells_at P (C.ι id) off ty us 0 us0.toArray W g1 (by simp; omega) h1
  refine ⟨_, hst, ?_⟩
  have hg := setRow_heap W (C.ι id) us0.toArray (us0.take off ++ us ++ us0.drop (off + us.length)).toArray ty (0, 0) g1
  have ho : ∀ b, b ≠ C.ι id → (W.setRow (C.ι id) (us0.take off ++ us ++ us0.drop (off + us.length)).toArray).heap[b]? = W.heap[b]? := fun b hb => setRow_other W (C.ι id) b _ hb
  have hSo : ∀ b o, C.S b o → b ≠ C.ι id := fun b o hs e => I.unsealed id old hid o (e ▸ hs)
  have l : Le C h W C (upd h id (setO off cs (h id))) (W.setRow (C.ι id) (us0.take off ++ us ++ us0.drop (off + us.length)).toArray) := by
    refine ⟨fun _ _ h => h, fun b o hs => cell_of_heap (ho b (hSo b o hs)), fun k => ?_, fun _ _ => rfl, fun _ _ => rfl, rfl, rfl, rfl, fun b hb => ho b fun e => (I.tn b hb).2 id (by rw [hid, e]; rfl), fun _ _ h => .inl h⟩
    by_cases e : k = id
    · subst e; rw [upd_self, hid]; simp only [setO, HOle]; exact splice_length hf
    · rw [upd_ne _ e]; exact HOle.refl _
  have key : ∀ a x, (upd h id (setO off cs (h id)) a).ownBlock C a = some x → (h a).ownBlock C a = some x := fun a x ha => by
    by_cases e : a = id
    · subst e; rw [upd_self] at ha; rw [hid] at ha ⊢; exact ha
    · rw [upd_ne _ e] at ha; exact ha
  have hsz : (W.setRow (C.ι id) (us0.take off ++ us ++ us0.drop (off + us.length)).toArray).heap.size = W.heap.size := setRow_size _ _ _
  refine ⟨⟨fun b o hs => ?_, by rw [hsz]; exact I.base, fun k cs' hp => ?_, fun k cs' hp => ?_, fun k cs' hp => ?_, fun t e sz n ht => ?_, fun a b x ha hb => I.apart a b x (key a x ha) (key b x hb), I.news, fun b hb => ⟨by rw [hsz]; exact (I.tn b hb).1, fun id ho => (I.tn b hb).2 id (key id b ho)⟩, I.mn, I.ss, I.tb.keep fun k hk _ => ho k (by omega), fun t e sz xs ht => (by
    have e' : t ≠ id := fun e' => by subst e'; rw [upd_self, hid] at ht; cases ht
    rw [upd_ne _ e'] at ht
    exact (I.fr t e sz xs ht).keep (fun g _ hv => ho g fun e2 => e' (I.apart t id (C.ι id) (by rw [ht]; exact e2 ▸ hv) (by rw [hid]; rfl))) (fun _ _ h => h) l.clW (fun _ _ _ h => h))⟩, l, ?_⟩
  · rw [cell_of_heap (ho b (hSo b o hs))]; exact I.has b o hs
  · by_cases e : k = id
    · subst e
      rw [upd_self, hid] at hp
      simp only [setO, HO.peek, Option.some.injEq] at hp
      subst hp
      refine ⟨us0.take off ++ us ++ us0.drop (off + us.length), ty, hg, by rw [splice_length hf]; simp; omega, g3, fun j x hx => ?_⟩
      refine RepT0.le ?_ l
      rw [splice, splice_get _ _ _ _ hf] at hx
      rw [List.getD_eq_getElem?_getD, splice_get _ _ _ _ (by omega)]
      rw [hl]
      split at hx
      · rename_i hj
        rw [if_pos hj]
        have := hr _ x hx
        rwa [List.getD_eq_getElem?_getD] at this
      · rename_i hj
        rw [if_neg hj]
        have := g4 _ x hx
        rwa [List.getD_eq_getElem?_getD] at this
    · rw [upd_ne _ e] at hp
      obtain ⟨us', ty', h1', h2, h3, h4⟩ := I.box k cs' hp
      have hne : C.ι k ≠ C.ι id := fun e' => e (I.apart k id (C.ι id) (by
        cases hh : h k <;> rw [hh] at hp <;> simp_all [HO.peek, HO.ownBlock]) (by rw [hid]; rfl))
      exact ⟨us', ty', by rw [ho _ hne]; exact h1', h2, h3, fun j x hx => (h4 j x hx).le l⟩
  · by_cases e : k = id
    · subst e; exact I.unsealed k old hid
    · rw [upd_ne _ e] at hp; exact I.unsealed k cs' hp
  · by_cases e : k = id
    · subst e; rw [upd_self, hid] at hp; cases hp
    · rw [upd_ne _ e] at hp; exact I.isSealed k cs' hp
  · have e' : t ≠ id := fun e' => by subst e'; rw [upd_self, hid] at ht; cases ht
    rw [upd_ne _ e'] at ht
    refine ⟨(I.live t e sz n ht).1, (I.live t e sz n ht).2.keep (fun g hg hv => ?_) (fun _ _ _ hs => hs)⟩
    refine ho g fun e2 => ?_
    exact e' (I.apart t id (C.ι id) (by rw [ht]; exact e2 ▸ hv) (by rw [hid]; rfl))
  · exact ⟨rfl, rfl, rfl, by rw [hsz]; exact Nat.le_refl _, fun k hk => ho k (by omega), .inr (Nat.le_refl _)⟩
/-- Others have run: what is the machine's own lies as it lay. -/
structure Oth (C : Ctx) (h : AHeap) (W : World) (C' : Ctx) (W' : World) (B : Nat) : Prop where
  blk : ∀ k, k < B → (∃ us ty fz, W.heap[k]? = some (.cells us ty fz)) → W'.heap[k]? = W.heap[k]?
  size : W.heap.size ≤ W'.heap.size
  own : ∀ id b, (h id).ownBlock C id = some b → W'.heap[b]? = W.heap[b]?
  clS : ∀ b o, C.S b o → C'.S b o
  clW : ∀ b o, C.S b o → W'.cell? ⟨b, o, none⟩ = W.cell? ⟨b, o, none⟩
  has : ∀ b o, C'.S b o → (W'.cell? ⟨b, o, none⟩).isSome = true
  new : ∀ b o, C'.S b o → C.S b o ∨ ∀ id, (h id).ownBlock C id ≠ some b
  io : C'.ι = C.ι
  th : C'.θ = C.θ
  nb : ∀ b o, C'.S b o → C.S b o ∨ B ≤ b
  s0 : C'.S0 = C.S0
  tn : ∀ b, C'.T b → b < W'.heap.size ∧ ∀ id, (h id).ownBlock C id ≠ some b
  mn : ∀ b, C'.M b → C'.T b ∧ B ≤ b
theorem Inv.other (I : Inv P C h W B) (o : Oth C h W C' W' B) : Inv P C' h W' B ∧ Le0 C h W C' h W' := by
  have l : Le0 C h W C' h W' := ⟨o.clS, o.clW, fun _ => HOle.refl _, fun _ _ => by rw [o.io], fun _ _ => by rw [o.th]⟩
  have ho : ∀ id, (h id).ownBlock C' id = (h id).ownBlock C id := fun id => by cases h id <;> simp [HO.ownBlock, o.io, o.th]
  refine ⟨⟨o.has, Nat.le_trans I.base o.size, fun id cs hp => ?_, fun id cs hp q hs => ?_, fun id cs hp q hq => ?_, fun t e sz n ht => ?_, fun i j b hi hj => ?_, fun b q hs => by rw [o.s0]; exact (o.nb b q hs).elim (I.news b q) .inr, fun b hb => ⟨(o.tn b hb).1, fun id => by rw [ho]; exact (o.tn b hb).2 id⟩, o.mn, fun b q hs => o.clS _ _ (I.ss b q (by rw [o.s0] at hs; exact hs)), I.tb.keep o.blk, fun t e sz xs ht => (by
    rw [o.th]
    exact (I.fr t e sz xs ht).keep (fun g _ hv => o.own t g (by rw [ht]; exact hv)) o.clS o.clW (fun g hv q hs => (o.new g q hs).elim id fun h1 => absurd (by rw [ht]; exact hv) (h1 t)))⟩, l⟩
  · obtain ⟨us, ty, h1, h2, h3, h4⟩ := I.box id cs hp
    have hob : (h id).ownBlock C id = some (C.ι id) := by cases hh : h id <;> rw [hh] at hp <;> simp_all [HO.peek, HO.ownBlock]
    rw [o.io]
    exact ⟨us, ty, by rw [o.own id _ hob]; exact h1, h2, h3, fun j x hx => (h4 j x hx).le0 l⟩
  · rw [o.io] at hs
    rcases o.new _ _ hs with h1 | h1
    · exact I.unsealed id cs hp q h1
    · exact h1 id (by rw [hp]; rfl)
  · rw [o.io]; exact o.clS _ _ (I.isSealed id cs hp q hq)
  · rw [o.th]
    refine ⟨(I.live t e sz n ht).1, (I.live t e sz n ht).2.keep (fun g _ hv => o.own t g (by rw [ht]; exact hv)) (fun g hv q hs => ?_)⟩
    rcases o.new _ _ hs with h1 | h1
    · exact h1
    · exact absurd (by rw [ht]; exact hv) (h1 t)
  · rw [ho] at hi hj; exact I.apart i j b hi hj
end
section
variable {P : Program} {C C' : Ctx} {h h' : AHeap} {W W' : World} {B : Nat}
/-! ### closing -/
def sealS (C : Ctx) (h : AHeap) (ids : List Nat) : Nat → Nat → Prop :=
  fun b o => C.S b o ∨ ∃ id cs, id ∈ ids ∧ h id = .box cs ∧ b = C.ι id ∧ o < cs.length
def sealH (h : AHeap) (ids : List Nat) : AHeap := fun j => if j ∈ ids then sealO (h j) else h j
theorem sealH_live {ids : List Nat} {t : Nat} {e : TypeId} {sz n : Nat} : sealH h ids t = .live e sz n ↔ h t = .live e sz n := by
  unfold sealH
  split
  · cases hh : h t <;> simp [sealO]
  · exact Iff.rfl
theorem sealH_box {ids : List Nat} {t : Nat} {cs : List AV} (hb : sealH h ids t = .box cs) : h t = .box cs ∧ t ∉ ids := by
  unfold sealH at hb
  split at hb
  · cases hh : h t <;> rw [hh] at hb <;> simp [sealO] at hb
  · exact ⟨hb, by assumption⟩
theorem sealH_sealed {ids : List Nat} {t : Nat} {cs : List AV} (hb : sealH h ids t = .sealed cs) : h t = .sealed cs ∨ (t ∈ ids ∧ h t = .box cs) := by
  unfold sealH at hb
  split at hb
  · cases hh : h t <;> rw [hh] at hb <;> simp [sealO] at hb
    · exact .inr ⟨by assumption, by rw [hb]⟩
    · exact .inl (by rw [hb])
  · exact .inl hb
theorem sealH_own {ids : List Nat} (t : Nat) : (sealH h ids t).ownBlock C t = (h t).ownBlock C t := by
  unfold sealH
  split
  · cases h t <;> rfl
  · rfl
theorem Inv.close (I : Inv P C h W B) (ids : List Nat) :
    Inv P { C with S := sealS C h ids } (sealH h ids) W B ∧ Le C h W { C with S := sealS C h ids } (sealH h ids) W := by
  have l : Le C h W { C with S := sealS C h ids } (sealH h ids) W := by
    refine ⟨fun _ _ hs => .inl hs, fun _ _ _ => rfl, fun id => ?_, fun _ _ => rfl, fun _ _ => rfl, rfl, rfl, rfl, fun _ _ => rfl, fun b o hs => hs.imp id fun ⟨id, cs, _, hb, e, _⟩ ht => (I.tn b ht).2 id (by rw [hb, e]; rfl)⟩
    unfold sealH
    split
    · cases h id <;> simp [sealO, HOle]
    · exact HOle.refl _
  refine ⟨⟨fun b o hs => ?_, I.base, fun id cs hk => ?_, fun id cs hb o hs => ?_, fun id cs hb => ?_, fun t e sz n ht => ?_, fun i j b hi hj => ?_, fun b o hs => ?_, fun b hb => ⟨(I.tn b hb).1, fun id ho => (I.tn b hb).2 id (by rw [← sealH_own (ids := ids)]; exact ho)⟩, I.mn, fun b o h => .inl (I.ss b o h), I.tb, fun t e sz xs ht => (by
    have ht' : h t = .fresh e sz xs := by
      unfold sealH at ht
      split at ht
      · cases hh : h t <;> rw [hh] at ht <;> simp [sealO] at ht
        rw [← ht.1, ← ht.2.1, ← ht.2.2]
      · exact ht
    refine (I.fr t e sz xs ht').keep (fun _ _ _ => rfl) (fun _ _ h => .inl h) (fun _ _ _ => rfl) (fun g hg o hs => ?_)
    rcases hs with hs | ⟨id', cs', _, hb', e', _⟩
    · exact hs
    · have := I.apart t id' g (by rw [ht']; exact hg) (by rw [hb', e']; rfl)
      subst this
      rw [ht'] at hb'; cases hb')⟩, l⟩
  · rcases hs with hs | ⟨id, cs, _, hb, rfl, ho⟩
    · exact I.has b o hs
    · obtain ⟨us, ty, h1, h2, _, _⟩ := I.box id cs (by rw [hb]; rfl)
      rw [cell_of_row W _ _ _ _ _ h1]
      simp; omega
  · have hk' : (h id).peek = some cs := by
      rw [← hk]
      unfold sealH
      split
      · cases h id <;> rfl
      · rfl
    obtain ⟨us, ty, h1, h2, h3, h4⟩ := I.box id cs hk'
    exact ⟨us, ty, h1, h2, h3, fun j x hj => (h4 j x hj).le l⟩
  · obtain ⟨h1, h2⟩ := sealH_box hb
    rcases hs with hs | ⟨id', cs', hi, hb', e, _⟩
    · exact I.unsealed id cs h1 o hs
    · exact h2 ((I.apart id id' (C.ι id) (by rw [h1]; rfl) (by rw [hb', e]; rfl)) ▸ hi)
  · rcases sealH_sealed hb with h1 | ⟨hi, h1⟩
    · exact fun o ho => .inl (I.isSealed id cs h1 o ho)
    · exact fun o ho => .inr ⟨id, cs, hi, h1, rfl, ho⟩
  · have ht' := sealH_live.1 ht
    refine ⟨(I.live t e sz n ht').1, (I.live t e sz n ht').2.keep (fun _ _ _ => rfl) (fun g hg o hs => ?_)⟩
    rcases hs with hs | ⟨id', cs', _, hb', e', _⟩
    · exact hs
    · have := I.apart t id' g (by rw [ht']; exact hg) (by rw [hb', e']; rfl)
      subst this
      rw [ht'] at hb'; cases hb'
  · rw [sealH_own] at hi hj
    exact I.apart i j b hi hj
  · rcases hs with hs | ⟨id, cs, _, hb, rfl, _⟩
    · exact I.news b o hs
    · obtain ⟨us, ty, h1, h2, h3, _⟩ := I.box id cs (by rw [hb]; rfl)
      exact .inr h3
/-! ### what is handed over -/
theorem passC_rep (I : Inv P C h W B) {x y : AV} {ids : List Nat} {u : Value} {S' : Nat → Nat → Prop} (hr : RepT0 C W h x u) (hp : passC h x = some (y, ids))
    (hS : ∀ b o, C.S b o → S' b o) (hi : ∀ id ∈ ids, ∀ cs, (h id).peek = some cs → ∀ o, o < cs.length → S' (C.ι id) o) : Rep S' W y u := by
  have m : ∀ {x u}, Rep C.S W x u → Rep S' W x u := fun hr => hr.mono hS (fun _ _ _ => rfl)
  cases x with
  | op id off =>
    simp only [passC] at hp
    cases hk : (h id).peek with
    | none => rw [hk] at hp; cases hp
    | some cs =>
      rw [hk] at hp
      simp only at hp
      split at hp
      · rename_i hall
        simp only [Option.some.injEq, Prod.mk.injEq] at hp
        obtain ⟨rfl, rfl⟩ := hp
        obtain ⟨us, ty, h1, h2, h3, h4⟩ := I.box id cs hk
        rw [hr.2]
        refine .rp _ _ _ (fun j => us.getD (off + j) Go.undef) (fun j x hx => ?_) (fun j x hx => ?_)
        · rw [List.getElem?_drop, List.getElem?_map] at hx
          obtain ⟨z, hz, _⟩ := Option.map_eq_some_iff.1 hx
          have hlt := (List.getElem?_eq_some_iff.1 hz).1
          refine ⟨hi id (by simp) cs hk _ hlt, ?_⟩
          rw [cell_of_row W _ _ _ _ _ h1]
          simp [List.getD, List.getElem?_eq_getElem (show off + j < us.length by omega)]
        · rw [List.getElem?_drop, List.getElem?_map] at hx
          obtain ⟨z, hz, rfl⟩ := Option.map_eq_some_iff.1 hx
          exact m ((h4 _ z hz).pure (List.all_eq_true.1 hall z (List.mem_of_getElem? hz)))
      · cases hp
  | tup cs => cases hp
  | ag cs => cases hp
  | undef => cases hp
  | fn f caps =>
    simp only [passC] at hp
    split at hp
    · rename_i hall
      simp only [Option.some.injEq, Prod.mk.injEq] at hp
      obtain ⟨rfl, rfl⟩ := hp
      exact m (RepT0.pure (x := .fn f caps) hr hall)
    · cases hp
  | sl o xs =>
    simp only [passC, Option.some.injEq, Prod.mk.injEq] at hp
    obtain ⟨rfl, rfl⟩ := hp
    exact m (RepT0.pure (x := .sl o xs) hr rfl)
  | bad => simp only [passC, Option.some.injEq, Prod.mk.injEq] at hp; obtain ⟨rfl, rfl⟩ := hp; exact .any _
  | nilP => simp only [passC, Option.some.injEq, Prod.mk.injEq] at hp; obtain ⟨rfl, rfl⟩ := hp; exact m hr
  | nilF => simp only [passC, Option.some.injEq, Prod.mk.injEq] at hp; obtain ⟨rfl, rfl⟩ := hp; exact m hr
  | int k n => simp only [passC, Option.some.injEq, Prod.mk.injEq] at hp; obtain ⟨rfl, rfl⟩ := hp; exact m hr
  | bool b => simp only [passC, Option.some.injEq, Prod.mk.injEq] at hp; obtain ⟨rfl, rfl⟩ := hp; exact m hr
  | str s => simp only [passC, Option.some.injEq, Prod.mk.injEq] at hp; obtain ⟨rfl, rfl⟩ := hp; exact m hr
  | rp cs => simp only [passC, Option.some.injEq, Prod.mk.injEq] at hp; obtain ⟨rfl, rfl⟩ := hp; exact m hr
  | yl l => simp only [passC, Option.some.injEq, Prod.mk.injEq] at hp; obtain ⟨rfl, rfl⟩ := hp; exact m hr
  | fs t => cases hp
  | ms id lo n c sz => cases hp
  | mp id off => cases hp
theorem passCs_rep (I : Inv P C h W B) {S' : Nat → Nat → Prop} (hS : ∀ b o, C.S b o → S' b o) : ∀ (xs ys : List AV) (ids : List Nat) (us : List Value),
    (∀ j x, xs[j]? = some x → RepC C W h x (us.getD j Go.undef)) → passCs h xs = some (ys, ids) →
    (∀ id ∈ ids, ∀ cs, (h id).peek = some cs → ∀ o, o < cs.length → S' (C.ι id) o) → ys.length = xs.length ∧ ∀ j y, ys[j]? = some y → Rep S' W y (us.getD j Go.undef)
  | [], ys, ids, us, _, hp, _ => by
    simp only [passCs, Option.some.injEq, Prod.mk.injEq] at hp
    obtain ⟨rfl, rfl⟩ := hp
    exact ⟨rfl, fun j y hy => by simp at hy⟩
  | x :: r, ys, ids, us, hr, hp, hi => by
    have hr0 := hr 0 x rfl
    have hrr : ∀ j x, r[j]? = some x → RepC C W h x ((us.drop 1).getD j Go.undef) := fun j x hx => by
      have := hr (j + 1) x (by simpa using hx)
      simpa [List.getD, List.getElem?_drop, Nat.add_comm] using this
    have fin : ∀ y ys' ids', passCs h r = some (ys', ids') → (∀ id ∈ ids', id ∈ ids) → ys = y :: ys' → Rep S' W y (us.getD 0 Go.undef) →
        ys.length = (x :: r).length ∧ ∀ j y, ys[j]? = some y → Rep S' W y (us.getD j Go.undef) := fun y ys' ids' hq hsub e hy => by
      obtain ⟨h1, h2⟩ := passCs_rep I hS r ys' ids' (us.drop 1) hrr hq (fun id hid => hi id (hsub id hid))
      subst e
      refine ⟨by simp [h1], fun j y' hy' => ?_⟩
      cases j with
      | zero => simp at hy'; subst hy'; exact hy
      | succ j =>
        have := h2 j y' (by simpa using hy')
        simpa [List.getD, List.getElem?_drop, Nat.add_comm] using this
    by_cases hop : ∃ id off, x = .op id off
    · obtain ⟨id, off, rfl⟩ := hop
      simp only [passCs] at hp
      cases h1 : passC h (.op id off) with
      | none => rw [h1] at hp; cases hp
      | some q =>
        obtain ⟨y, i1⟩ := q
        cases h2 : passCs h r with
        | none => rw [h1, h2] at hp; cases hp
        | some q2 =>
          obtain ⟨ys', i2⟩ := q2
          rw [h1, h2] at hp
          simp only [Option.some.injEq, Prod.mk.injEq] at hp
          obtain ⟨rfl, rfl⟩ := hp
          exact fin y ys' i2 h2 (fun id hid => by simp [hid]) rfl (passC_rep I (x := .op id off) hr0 h1 hS (fun id hid => hi id (by simp [hid])))
    · have hp' : passCs h (x :: r) = match passCs h r with
          | some (ys, is) => some (x :: ys, is)
          | none => none := by
        cases x <;> first | rfl | exact absurd ⟨_, _, rfl⟩ hop
      rw [hp'] at hp
      cases h2 : passCs h r with
      | none => rw [h2] at hp; cases hp
      | some q2 =>
        obtain ⟨ys', i2⟩ := q2
        rw [h2] at hp
        simp only [Option.some.injEq, Prod.mk.injEq] at hp
        obtain ⟨rfl, rfl⟩ := hp
        refine fin x ys' _ h2 (fun id hid => hid) rfl (Rep.mono hS (fun _ _ _ => rfl) ?_)
        cases x <;> first | exact hr0 | exact absurd ⟨_, _, rfl⟩ hop
theorem pass_rep (I : Inv P C h W B) {x y : AV} {ids : List Nat} {u : Value} {S' : Nat → Nat → Prop} (hr : RepT C W h x u) (hp : pass h x = some (y, ids))
    (hS : ∀ b o, C.S b o → S' b o) (hi : ∀ id ∈ ids, ∀ cs, (h id).peek = some cs → ∀ o, o < cs.length → S' (C.ι id) o) : Rep S' W y u := by
  cases x with
  | ag cs =>
    simp only [pass] at hp
    split at hp
    · rename_i hall
      simp only [Option.some.injEq, Prod.mk.injEq] at hp
      obtain ⟨rfl, rfl⟩ := hp
      obtain ⟨us, rfl, hl, hc⟩ := hr
      refine .ag _ us (by simpa using hl) fun j x hx => ?_
      rw [List.getElem?_map] at hx
      obtain ⟨z, hz, rfl⟩ := Option.map_eq_some_iff.1 hx
      exact ((hc j z hz).pure (List.all_eq_true.1 hall z (List.mem_of_getElem? hz))).mono hS (fun _ _ _ => rfl)
    · cases hp
  | fn f caps =>
    simp only [pass] at hp
    cases h1 : passCs h caps with
    | none => rw [h1] at hp; cases hp
    | some q =>
      obtain ⟨cs, is⟩ := q
      rw [h1] at hp
      simp only [Option.some.injEq, Prod.mk.injEq] at hp
      obtain ⟨rfl, rfl⟩ := hp
      obtain ⟨us, rfl, hl, hc⟩ := hr
      obtain ⟨h2, h3⟩ := passCs_rep I hS caps cs _ us hc h1 hi
      exact .fn f cs us (hl.trans h2.symm) h3
  | tup cs => cases hp
  | _ => unfold RepT at hr; exact passC_rep I hr hp hS hi
theorem passAll_rep (I : Inv P C h W B) {S' : Nat → Nat → Prop} (hS : ∀ b o, C.S b o → S' b o) : ∀ (xs ys : List AV) (ids : List Nat) (us : List Value),
    (∀ j x, xs[j]? = some x → RepT C W h x (us.getD j Go.undef)) → passAll h xs = some (ys, ids) →
    (∀ id ∈ ids, ∀ cs, (h id).peek = some cs → ∀ o, o < cs.length → S' (C.ι id) o) → ys.length = xs.length ∧ ∀ j y, ys[j]? = some y → Rep S' W y (us.getD j Go.undef)
  | [], ys, ids, us, _, hp, _ => by
    simp only [passAll, Option.some.injEq, Prod.mk.injEq] at hp
    obtain ⟨rfl, rfl⟩ := hp
    exact ⟨rfl, fun j y hy => by simp at hy⟩
  | x :: r, ys, ids, us, hr, hp, hi => by
    simp only [passAll] at hp
    cases h1 : pass h x with
    | none => rw [h1] at hp; cases hp
    | some q =>
      obtain ⟨y, i1⟩ := q
      cases h2 : passAll h r with
      | none => rw [h1, h2] at hp; cases hp
      | some q2 =>
        obtain ⟨ys', i2⟩ := q2
        rw [h1, h2] at hp
        simp only [Option.some.injEq, Prod.mk.injEq] at hp
        obtain ⟨rfl, rfl⟩ := hp
        obtain ⟨h3, h4⟩ := passAll_rep I hS r ys' i2 (us.drop 1) (fun j x hx => by
          have := hr (j + 1) x (by simpa using hx)
          simpa [List.getD, List.getElem?_drop, Nat.add_comm] using this) h2 (fun id hid => hi id (by simp [hid]))
        refine ⟨by simp [h3], fun j y' hy' => ?_⟩
        cases j with
        | zero => simp at hy'; subst hy'; exact pass_rep I (hr 0 x rfl) h1 hS (fun id hid => hi id (by simp [hid]))
        | succ j =>
          have := h4 j y' (by simpa using hy')
          simpa [List.getD, List.getElem?_drop, Nat.add_comm] using this
theorem passC_ids {x y : AV} {ids : List Nat} (hp : passC h x = some (y, ids)) : ∀ id ∈ ids, ∃ cs, (h id).peek = some cs ∧ ∀ x ∈ cs, pure0 x = true := by
  cases x with
  | op id off =>
    simp only [passC] at hp
    cases hk : (h id).peek with
    | none => rw [hk] at hp; cases hp
    | some cs =>
      rw [hk] at hp
      simp only at hp
      split at hp
      · rename_i hall
        simp only [Option.some.injEq, Prod.mk.injEq] at hp
        obtain ⟨_, rfl⟩ := hp
        intro id' hid
        simp only [List.mem_singleton] at hid
        subst hid
        exact ⟨cs, hk, fun x hx => List.all_eq_true.1 hall x hx⟩
      · cases hp
  | fn f caps =>
    simp only [passC] at hp
    split at hp
    · simp only [Option.some.injEq, Prod.mk.injEq] at hp; obtain ⟨_, rfl⟩ := hp; simp
    · cases hp
  | tup cs => cases hp
  | ag cs => cases hp
  | undef => cases hp
  | fs t => cases hp
  | ms id lo n c sz => cases hp
  | mp id off => cases hp
  | _ => simp only [passC, Option.some.injEq, Prod.mk.injEq] at hp; obtain ⟨_, rfl⟩ := hp; simp
theorem passCs_ids : ∀ {xs ys : List AV} {ids : List Nat}, passCs h xs = some (ys, ids) → ∀ id ∈ ids, ∃ cs, (h id).peek = some cs ∧ ∀ x ∈ cs, pure0 x = true
  | [], ys, ids, hp => by
    simp only [passCs, Option.some.injEq, Prod.mk.injEq] at hp
    obtain ⟨_, rfl⟩ := hp
    simp
  | x :: r, ys, ids, hp => by
    by_cases hop : ∃ id off, x = .op id off
    · obtain ⟨id, off, rfl⟩ := hop
      simp only [passCs] at hp
      cases h1 : passC h (.op id off) with
      | none => rw [h1] at hp; cases hp
      | some q =>
        obtain ⟨y, i1⟩ := q
        cases h2 : passCs h r with
        | none => rw [h1, h2] at hp; cases hp
        | some q2 =>
          obtain ⟨ys', i2⟩ := q2
          rw [h1, h2] at hp
          simp only [Option.some.injEq, Prod.mk.injEq] at hp
          obtain ⟨_, rfl⟩ := hp
          intro k hk
          rcases List.mem_append.1 hk with hk | hk
          · exact passC_ids h1 k hk
          · exact passCs_ids h2 k hk
    · have hp' : passCs h (x :: r) = match passCs h r with
          | some (ys, is) => some (x :: ys, is)
          | none => none := by
        cases x <;> first | rfl | exact absurd ⟨_, _, rfl⟩ hop
      rw [hp'] at hp
      cases h2 : passCs h r with
      | none => rw [h2] at hp; cases hp
      | some q2 =>
        obtain ⟨ys', i2⟩ := q2
        rw [h2] at hp
        simp only [Option.some.injEq, Prod.mk.injEq] at hp
        obtain ⟨_, rfl⟩ := hp
        exact passCs_ids h2
theorem pass_ids {x y : AV} {ids : List Nat} (hp : pass h x = some (y, ids)) : ∀ id ∈ ids, ∃ cs, (h id).peek = some cs ∧ ∀ x ∈ cs, pure0 x = true := by
  cases x with
  | ag cs =>
    simp only [pass] at hp
    split at hp
    · simp only [Option.some.injEq, Prod.mk.injEq] at hp; obtain ⟨_, rfl⟩ := hp; simp
    · cases hp
  | fn f caps =>
    simp only [pass] at hp
    cases h1 : passCs h caps with
    | none => rw [h1] at hp; cases hp
    | some q =>
      obtain ⟨cs, is⟩ := q
      rw [h1] at hp
      simp only [Option.some.injEq, Prod.mk.injEq] at hp
      obtain ⟨_, rfl⟩ := hp
      exact passCs_ids h1
  | _ => unfold pass at hp; exact passC_ids hp
theorem passAll_ids : ∀ {xs ys : List AV} {ids : List Nat}, passAll h xs = some (ys, ids) → ∀ id ∈ ids, ∃ cs, (h id).peek = some cs ∧ ∀ x ∈ cs, pure0 x = true
  | [], ys, ids, hp => by
    simp only [passAll, Option.some.injEq, Prod.mk.injEq] at hp
    obtain ⟨_, rfl⟩ := hp
    simp
  | x :: r, ys, ids, hp => by
    simp only [passAll] at hp
    cases h1 : pass h x with
    | none => rw [h1] at hp; cases hp
    | some q =>
      obtain ⟨y, i1⟩ := q
      cases h2 : passAll h r with
      | none => rw [h1, h2] at hp; cases hp
      | some q2 =>
        obtain ⟨ys', i2⟩ := q2
        rw [h1, h2] at hp
        simp only [Option.some.injEq, Prod.mk.injEq] at hp
        obtain ⟨_, rfl⟩ := hp
        intro k hk
        rcases List.mem_append.1 hk with hk | hk
        · exact pass_ids h1 k hk
        · exact passAll_ids h2 k hk
end
end Go.Proofs.YtbaajjihhdmdpaaGreatDoor

namespace Go.Proofs.YtbaajjihhdmdpaaGreatDoor
open Go.RowKit
set_option linter.unusedVariables false
set_option linter.unusedSimpArgs false
set_option linter.unnecessarySimpa false
set_option linter.unusedSectionVars false
variable [Lax]
section
variable {P : Program} {C : Ctx} {h : AHeap} {W : World} {B : Nat}
/-- What is asked behind an operation. -/
def Next1 (P : Program) (C : Ctx) (h : AHeap) (W : World) (B i : Nat) (v : AV) (d : Eff) (o : Oper) (a : Act) (K : Act → World → Prop) : Prop :=
  ∀ u W' C', RepT C' W' (d.app' i h) v u → Inv P C' (d.app' i h) W' B → Le C h W C' (d.app' i h) W' → Below B W W' → K (a.put o.dst u) W'
variable {i : Nat} {v : AV} {d : Eff} {o : Oper} {a : Act} {t : Nat → AV} {K : Act → World → Prop} {Q : Exit → Act → World → Prop}
theorem rep_bool {b : Bool} {u : Value} (hr : RepT C W h (.bool b) u) : u = .bool b := by cases hr; rfl
theorem rep_int {k : IntKind} {n : Int} {u : Value} (hr : RepT C W h (.int k n) u) : u = .int k n := by cases hr; rfl
theorem rep_rp {cs : List AV} {u : Value} (hr : RepT C W h (.rp cs) u) : ∃ (b off : Nat) (uf : Nat → Value), u = .pointer (some ⟨b, off, none⟩) ∧
    (∀ j x, cs[j]? = some x → C.S b (off + j) ∧ W.cell? ⟨b, off + j, none⟩ = some (uf j)) ∧ ∀ j x, cs[j]? = some x → Rep C.S W x (uf j) := by
  cases hr with
  | rp _ b off uf h1 h2 => exact ⟨b, off, uf, rfl, h1, h2⟩
theorem rep_sl {xs : List (List AV)} {u : Value} {S : Nat → Nat → Prop} (hr : Rep S W (.sl .no xs) u) : ∃ (A : Option Addr) (c : Nat), u = .slice A xs.length c ∧
    (xs ≠ [] → ∃ (b off sz : Nat) (uf : Nat → Nat → Value), A = some ⟨b, off, none⟩ ∧ xs.length ≤ c ∧ (∀ e ∈ xs, e.length = sz) ∧
      (∀ i j x, getx xs i j = some x → S b (off + i * sz + j) ∧ W.cell? ⟨b, off + i * sz + j, none⟩ = some (uf i j)) ∧ ∀ i j x, getx xs i j = some x → Rep S W x (uf i j)) := by
  cases hr with
  | slE A c => exact ⟨A, c, rfl, fun h => absurd rfl h⟩
  | sl _ sz b off c uf h1 h2 h3 h4 => exact ⟨_, c, rfl, fun _ => ⟨b, off, sz, uf, rfl, h1, h2, h3, h4⟩⟩
theorem wp_value {u : Value} {W' : World} (hr : (execOp a.eval o).run P W = .ok (.value u) W') (hk : K (a.put o.dst u) W') : o.wp P a W K Q := by
  unfold Oper.wp; rw [hr]; exact hk
theorem wp_nop {u : Value} (I : Inv P C h W B) (hK : Next1 P C h W B i v .nop o a K) (hr : (execOp a.eval o).run P W = .ok (.value u) W) (hv : RepT C W h v u) : o.wp P a W K Q :=
  wp_value hr (hK u W C hv I (.refl _ _ _) (.refl _ _))
section ops
variable (I : Inv P C h W B) (hρ : ∀ n, RepT C W h (t n) (a.tmps.getD n Go.undef)) (hi : h i = .none)
include I hρ
theorem st_move {x : Operand} (ho : o.op = .move x ∨ o.op = .assign x) (hK : Next1 P C h W B i (evA t x) .nop o a K) : o.wp P a W K Q := by
  refine wp_nop I hK (u := a.eval x) ?_ (evA_rep hρ x)
  rcases ho with ho | ho <;> simp [execOp, ho]
theorem st_pick {c x y : Operand} {q : Bool} (ho : o.op = .pick c x y) (hc : evA t c = .bool q) (hK : Next1 P C h W B i (if q then evA t x else evA t y) .nop o a K) : o.wp P a W K Q := by
  have h1 := evA_rep hρ c
  rw [hc] at h1
  have h2 : a.eval c = .bool q := rep_bool h1
  refine wp_nop I hK (u := if q then a.eval x else a.eval y) ?_ ?_
  · simp [execOp, ho, h2, asBool]
  · cases q
    · exact evA_rep hρ y
    · exact evA_rep hρ x
omit I hρ in
theorem run_zeroValue' {e : TypeId} {cs : List AV} (hz : zeroC P e = some cs) (w : World) : ∃ z, (zeroValue e).run P w = .ok z w ∧ z.cells.toList.map const0 = cs ∧ cs.all isAtom = true := by
  unfold zeroC at hz
  cases hq : (P.info? e).bind (·.zero) with
  | none => rw [hq] at hz; cases hz
  | some z =>
    rw [hq] at hz
    simp only at hz
    split at hz
    · rename_i hall
      simp only [Option.some.injEq] at hz
      obtain ⟨inf, h1, h2⟩ := Option.bind_eq_some_iff.1 hq
      exact ⟨z, by simp [zeroValue, typeInfo, h1, h2], hz, by rw [← hz]; exact hall⟩
    · cases hz
include hi
theorem st_alloc {e : TypeId} {cs : List AV} (ho : o.op = .alloc e) (hz : zeroC P e = some cs) (hK : Next1 P C h W B i (.op i 0) (.new (.box cs)) o a K) : o.wp P a W K Q := by
  obtain ⟨z, h1, h2, _⟩ := run_zeroValue' hz W
  obtain ⟨I', l⟩ := I.newBox hi z.cells.toList e cs (by rw [← h2]; simp) (fun j x hx => by
    rw [← h2, List.getElem?_map] at hx
    obtain ⟨u, hu, rfl⟩ := Option.map_eq_some_iff.1 hx
    rw [List.getD_eq_getElem?_getD, hu]
    exact const0_rep u)
  refine wp_value (u := .pointer (some ⟨W.heap.size, 0, none⟩)) (W' := W.alloc (.cells z.cells.toList.toArray e)) ?_ (hK _ _ _ ?_ I' l ((Below.refl _ _).alloc I.base _))
  · simp [execOp, ho, Instr.alloc, h1, newVar, newRow]
  · exact ⟨by simp [Eff.app', upd, HO.peek], by simp⟩
theorem st_box {e : TypeId} {x : Operand} {cs : List AV} (ho : o.op = .box e x) (hc : cellsA (evA t x) = some cs) (hK : Next1 P C h W B i (.op i 0) (.new (.box cs)) o a K) : o.wp P a W K Q := by
  obtain ⟨us, h1, h2, h3⟩ := cellsA_rep (evA_rep hρ x) hc
  obtain ⟨I', l⟩ := I.newBox hi us e cs h2 h3
  refine wp_value (u := .pointer (some ⟨W.heap.size, 0, none⟩)) (W' := W.alloc (.cells us.toArray e)) ?_ (hK _ _ _ ?_ I' l ((Below.refl _ _).alloc I.base _))
  · simp [execOp, ho, Instr.box, newVar, newRow, h1]
  · exact ⟨by simp [Eff.app', upd, HO.peek], by simp⟩
omit hi
theorem st_load {ty : TypeId} {x : Operand} (ho : o.op = .load ty x) (hk : okTy P ty = true)
    (hx : (∃ id off cs, (evA t x = .op id off ∨ evA t x = .mp id off) ∧ (h id).peek = some cs ∧ takeV P ty (cs.drop off) = some v) ∨ (∃ cs, evA t x = .rp cs ∧ takeV P ty cs = some v))
    (hK : Next1 P C h W B i v .nop o a K) : o.wp P a W K Q := by
  have hr := evA_rep hρ x
  rcases hx with ⟨id, off, cs, he, hp, hv⟩ | ⟨cs, he, hv⟩
  · have hp' : a.eval x = .pointer (some ⟨C.ι id, off, none⟩) := by
      rcases he with he | he <;> rw [he] at hr <;> exact hr.2
    obtain ⟨us, ty', h1, h2, h3, h4⟩ := I.box id cs hp
    obtain ⟨u, hu, hru⟩ := takeV_load (W := W) (h := h) (C := C) (b := C.ι id) (off := off) hk hv (fun j => us.getD (off + j) Go.undef) (fun j y hy => by
      rw [List.getElem?_drop] at hy
      refine ⟨?_, h4 _ y hy⟩
      have hlt := (List.getElem?_eq_some_iff.1 hy).1
      rw [cell_of_row W _ _ _ _ _ h1]
      simp [List.getD, List.getElem?_eq_getElem (show off + j < us.length by omega)])
    refine wp_nop I hK (u := u) ?_ hru
    simp [execOp, ho, Instr.loadAt, Instr.sureAddr, hp', hu]
  · rw [he] at hr
    obtain ⟨b, off, uf, hr', hcell, hrep⟩ := rep_rp hr
    obtain ⟨u, hu, hru⟩ := takeV_load (W := W) (h := h) (C := C) (b := b) (off := off) hk hv uf (fun j y hy => ⟨(hcell j y hy).2, .of_rep (hrep j y hy)⟩)
    refine wp_nop I hK (u := u) ?_ hru
    simp [execOp, ho, Instr.loadAt, Instr.sureAddr, hr', hu]
theorem st_store {ty : TypeId} {x y : Operand} {id off : Nat} {cs old : List AV} (ho : o.op = .store ty x y) (hk : (P.info? ty).isSome = true)
    (hx : evA t x = .op id off) (hy : cellsA (evA t y) = some cs) (hl : cs.length = P.cellsOf ty) (ha : cs.all isAtom = true) (hb : h id = .box old) (hf : off + cs.length ≤ old.length)
    (hK : Next1 P C h W B i .undef (.set id off cs) o a K) : o.wp P a W K Q := by
  have hr := evA_rep hρ x
  rw [hx] at hr
  obtain ⟨us, h1, h2, h3⟩ := cellsA_rep (evA_rep hρ y) hy
  obtain ⟨W', hst, I', l, hB⟩ := I.setBox (P := P) hb us h2 h3 hf (fun u hu => by
    obtain ⟨j, hj, e⟩ := List.mem_iff_getElem.1 hu
    have hj' : j < cs.length := by omega
    have := h3 j _ (List.getElem?_eq_getElem hj')
    rw [List.getD_eq_getElem?_getD, List.getElem?_eq_getElem hj] at this
    rw [← e]
    exact atom_one (List.all_eq_true.1 ha _ (List.getElem_mem hj')) this)
  have hrun : (execOp a.eval o).run P W = .ok .skip W' := by
    have hp' : a.eval x = .pointer (some ⟨C.ι id, off, none⟩) := hr.2
    simp [execOp, ho, Instr.storeAt, Instr.sureAddr, hp', storeVar, h1, run_sizeOf' hk, ← hl, h2, hst]
  unfold Oper.wp
  rw [hrun]
  exact hK Go.undef W' C Rep.undef I' l hB
theorem st_nilCheck {x : Operand} (ho : o.op = .nilCheck x) (hx : (∃ id off, evA t x = .op id off) ∨ ∃ cs, evA t x = .rp cs) (hK : Next1 P C h W B i (evA t x) .nop o a K) : o.wp P a W K Q := by
  have hr := evA_rep hρ x
  refine wp_nop I hK (u := a.eval x) ?_ hr
  have hp : ∃ q, a.eval x = .pointer (some q) := by
    rcases hx with ⟨id, off, e⟩ | ⟨cs, e⟩
    · rw [e] at hr; exact ⟨_, hr.2⟩
    · rw [e] at hr
      obtain ⟨b, off, uf, hr', _⟩ := rep_rp hr
      exact ⟨_, hr'⟩
  obtain ⟨q, hq⟩ := hp
  simp [execOp, ho, hq]
theorem ev_int {x : Operand} {k : IntKind} {n : Int} (hx : evA t x = .int k n) : a.eval x = .int k n := by
  have hr := evA_rep hρ x
  rw [hx] at hr
  exact rep_int hr
theorem ev_bool {x : Operand} {b : Bool} (hx : evA t x = .bool b) : a.eval x = .bool b := by
  have hr := evA_rep hρ x
  rw [hx] at hr
  exact rep_bool hr
theorem st_binInt {op : BinOp} {ty yt : TypeId} {x y : Operand} {k : IntKind} {m n : Int} (ho : o.op = .binOp op ty x y yt) (hx : evA t x = .int k m) (hy : evA t y = .int k n)
    (hv : intBin op k m n = some v) (hK : Next1 P C h W B i v .nop o a K) : o.wp P a W K Q := by
  have ex := ev_int I hρ hx
  have ey := ev_int I hρ hy
  have fin : ∀ u, (binOp op ty (.int k m) (.int k n)).run P W = .ok u W → RepT C W h v u → o.wp P a W K Q := fun u hu hru => by
    refine wp_nop I hK (u := u) ?_ hru
    have hg : (eqGuard op ty x y (.int k m) (.int k n)).run P W = .ok () W := by
      unfold eqGuard; split <;> simp
    simp [execOp, ho, ex, ey, hg, hu]
  cases op <;> simp only [intBin, Option.some.injEq] at hv
  case add => subst hv; exact fin _ (by simp [binOp, Op.intArith]) (Rep.int _ _)
  case sub => subst hv; exact fin _ (by simp [binOp, Op.intArith]) (Rep.int _ _)
  case mul => subst hv; exact fin _ (by simp [binOp, Op.intArith]) (Rep.int _ _)
  case quo =>
    split at hv
    · cases hv
    · rename_i h0
      simp only [Option.some.injEq] at hv
      subst hv; exact fin _ (by simp [binOp, Op.intDiv, h0]) (Rep.int _ _)
  case rem =>
    split at hv
    · cases hv
    · rename_i h0
      simp only [Option.some.injEq] at hv
      subst hv; exact fin _ (by simp [binOp, Op.intDiv, h0]) (Rep.int _ _)
  case eql => subst hv; exact fin _ (by simp [binOp, Op.intCmp]) (Rep.bool _)
  case neq => subst hv; exact fin _ (by simp [binOp, Op.intCmp]) (Rep.bool _)
  case lss => subst hv; exact fin _ (by simp [binOp, Op.intCmp]) (Rep.bool _)
  case leq => subst hv; exact fin _ (by simp [binOp, Op.intCmp]) (Rep.bool _)
  case gtr => subst hv; exact fin _ (by simp [binOp, Op.intCmp]) (Rep.bool _)
  case geq => subst hv; exact fin _ (by simp [binOp, Op.intCmp]) (Rep.bool _)
  case shr =>
    split at hv
    · rename_i h0
      simp only [Option.some.injEq] at hv
      subst hv; exact fin _ (by simp [binOp, Op.shift, show ¬ n < 0 by omega]) (Rep.int _ _)
    · cases hv
  case shl =>
    split at hv
    · rename_i h0
      simp only [Option.some.injEq] at hv
      subst hv; exact fin _ (by simp [binOp, Op.shift, show ¬ n < 0 by omega]) (Rep.int _ _)
    · cases hv
  case and => subst hv; exact fin _ (by simp [binOp, Op.intBits]) (Rep.int _ _)
  all_goals cases hv
theorem st_binBool {op : BinOp} {ty yt : TypeId} {x y : Operand} {m n : Bool} (ho : o.op = .binOp op ty x y yt) (hx : evA t x = .bool m) (hy : evA t y = .bool n) (hu : P.underlying ty = some .bool)
    (hv : (op = .eql ∧ v = .bool (m == n)) ∨ (op = .neq ∧ v = .bool (m != n))) (hK : Next1 P C h W B i v .nop o a K) : o.wp P a W K Q := by
  have ex := ev_bool I hρ hx
  have ey := ev_bool I hρ hy
  have hq := run_equalIn_bool' (P := P) W 9999 ty m n hu
  have hg : ∀ op, (eqGuard op ty x y (.bool m) (.bool n)).run P W = .ok () W := fun op => by
    unfold eqGuard; split <;> simp
  have h1 : (binOp .eql ty (.bool m) (.bool n)).run P W = .ok (.bool (m == n)) W := by
    simp only [binOp]
    simp only [Op.equal, Op.maxDepth, Sem.run_bind, hq, Result.andThen_ok, Sem.run_pure]
  have h2 : (binOp .neq ty (.bool m) (.bool n)).run P W = .ok (.bool (m != n)) W := by
    simp only [binOp]
    simp only [Op.equal, Op.maxDepth, Sem.run_bind, hq, Result.andThen_ok, Sem.run_pure, bne]
  rcases hv with ⟨rfl, rfl⟩ | ⟨rfl, rfl⟩
  · refine wp_nop I hK (u := .bool (m == n)) ?_ (Rep.bool _)
    simp only [execOp, ho, ex, ey, Sem.run_bind, hg, Result.andThen_ok, h1, Sem.run_pure]
  · refine wp_nop I hK (u := .bool (m != n)) ?_ (Rep.bool _)
    simp only [execOp, ho, ex, ey, Sem.run_bind, hg, Result.andThen_ok, h2, Sem.run_pure]
end ops
theorem ints_rep {S : Nat → Nat → Prop} : ∀ {cs : List AV} {l : List Int} (us : List Value), ints cs = some l → us.length = cs.length → (∀ j x, cs[j]? = some x → RepT0 C W h x (us.getD j Go.undef)) →
    us = l.map fun n => Value.int .i64 n
  | [], l, us, hl, hu, _ => by
    simp only [ints, Option.some.injEq] at hl
    subst hl
    exact List.eq_nil_of_length_eq_zero hu
  | x :: r, l, us, hl, hu, hr => by
    cases x with
    | int k n =>
      cases k <;> simp only [ints] at hl <;> try (cases hl)
      cases h1 : ints r with
      | none => rw [h1] at hl; cases hl
      | some l' =>
        rw [h1] at hl
        simp only [Option.map_some, Option.some.injEq] at hl
        subst hl
        cases us with
        | nil => simp at hu
        | cons u us =>
          have h0 := hr 0 _ rfl
          have h0' : u = .int .i64 n := by
            simp at h0
            cases h0; rfl
          rw [ints_rep (S := S) us h1 (by simpa using hu) (fun j x hx => by
            have := hr (j + 1) x (by simpa using hx)
            simpa [List.getD] using this), h0']
          rfl
    | _ => simp only [ints] at hl; cases hl
theorem run_part_int {ty : TypeId} {us : Array Value} {off : Nat} {n : Int} (hu : P.underlying ty = some (.int .i64)) (hc : us[off]? = some (.int .i64 n)) (w : World) :
    (part ty us off).run P w = .ok (.int .i64 n) w := by
  simp [part, isAgg, run_underlying hu, hc]
theorem run_eqFields_ints (d : Nat) (w : World) : ∀ (fs : List Field) (i : Nat) (l m : List Int), l.length = i + fs.length → m.length = i + fs.length →
    (∀ j f, fs[j]? = some f → f.name ≠ "_" ∧ f.offset = i + j ∧ P.underlying f.type = some (.int .i64)) →
    (Op.eqFields (d + 1) (l.map fun n => Value.int .i64 n).toArray (m.map fun n => Value.int .i64 n).toArray fs).run P w = .ok (l.drop i == m.drop i) w
  | [], i, l, m, hl, hm, _ => by
    have h1 : l.drop i = [] := List.drop_eq_nil_of_le (by simp at hl; omega)
    have h2 : m.drop i = [] := List.drop_eq_nil_of_le (by simp at hm; omega)
    simp [Op.eqFields, h1, h2]
  | f :: fs, i, l, m, hl, hm, hf => by
    obtain ⟨h1, h2, h3⟩ := hf 0 f rfl
    simp only [Nat.add_zero] at h2
    have hli : i < l.length := by simp at hl; omega
    have hmi : i < m.length := by simp at hm; omega
    have p1 := run_part_int (P := P) (us := (l.map fun n => Value.int .i64 n).toArray) (off := i) (n := l[i]) h3 (by simp [hli]) w
    have p2 := run_part_int (P := P) (us := (m.map fun n => Value.int .i64 n).toArray) (off := i) (n := m[i]) h3 (by simp [hmi]) w
    have ih := run_eqFields_ints d w fs (i + 1) l m (by simp at hl; omega) (by simp at hm; omega) (fun j f hj => by
      have := hf (j + 1) f (by simpa using hj)
      rwa [show i + (j + 1) = i + 1 + j by omega] at this)
    simp only [Op.eqFields]
    rw [if_pos h1]
    simp only [Sem.run_bind, h2, p1, p2, Result.andThen_ok, run_equalIn_int w d f.type .i64 .i64 _ _ h3]
    have dl : l.drop i = l[i] :: l.drop (i + 1) := (List.getElem_cons_drop hli).symm
    have dm : m.drop i = m[i] :: m.drop (i + 1) := (List.getElem_cons_drop hmi).symm
    rw [dl, dm]
    clear p1 p2 dl dm
    generalize l[i] = p
    generalize m[i] = q
    by_cases e : p = q
    · subst e; simp [ih]
    · simp [e]
section ops
variable (I : Inv P C h W B) (hρ : ∀ n, RepT C W h (t n) (a.tmps.getD n Go.undef)) (hi : h i = .none)
include I hρ
theorem st_binAgg {op : BinOp} {ty yt : TypeId} {x y : Operand} {xs ys : List AV} {l m : List Int} (ho : o.op = .binOp op ty x y yt) (hx : evA t x = .ag xs) (hy : evA t y = .ag ys)
    (hE : EqStruct P ty xs.length) (hl : xs.length = ys.length) (h1 : ints xs = some l) (h2 : ints ys = some m)
    (hv : (op = .eql ∧ v = .bool (l == m)) ∨ (op = .neq ∧ v = .bool (l != m))) (hK : Next1 P C h W B i v .nop o a K) : o.wp P a W K Q := by
  obtain ⟨g1, g2, fs, g3, g4, g5⟩ := hE
  have ex := evA_rep hρ x
  have ey := evA_rep hρ y
  rw [hx] at ex
  rw [hy] at ey
  obtain ⟨us, e1, e2, e3⟩ := ex
  obtain ⟨ws, f1, f2, f3⟩ := ey
  have k1 := ints_rep (S := C.S) us h1 e2 e3
  have k2 := ints_rep (S := C.S) ws h2 f2 f3
  have hfs : P.fieldsOf ty = fs := by simp [Program.fieldsOf, g3]
  have hq : (Op.equalIn 10000 ty (.agg us.toArray) (.agg ws.toArray)).run P W = .ok (l == m) W := by
    rw [run_equalIn_struct W 9999 ty _ _ (by rw [hfs]; exact g3) g2, hfs, k1, k2]
    have := run_eqFields_ints (P := P) 9998 W fs.toList 0 l m (by rw [k1] at e2; simp at e2; simp; omega) (by rw [k2] at f2; simp at f2; simp; omega)
      (fun j f hj => by simpa using g5 j f (by simpa using hj))
    simpa using this
  rcases hv with ⟨rfl, rfl⟩ | ⟨rfl, rfl⟩
  · refine wp_nop I hK (u := .bool (l == m)) ?_ (Rep.bool _)
    simp [execOp, ho, e1, f1, run_eqGuard_agg W _ ty x y _ _ g1, run_eql_struct, hq]
  · refine wp_nop I hK (u := .bool (l != m)) ?_ (Rep.bool _)
    simp [execOp, ho, e1, f1, run_eqGuard_agg W _ ty x y _ _ g1, run_neq_struct, hq, bne]
theorem st_not {ty : TypeId} {x : Operand} {b : Bool} (ho : o.op = .unOp .not ty x) (hx : evA t x = .bool b) (hK : Next1 P C h W B i (.bool (!b)) .nop o a K) : o.wp P a W K Q := by
  have ex := ev_bool I hρ hx
  refine wp_nop I hK (u := .bool (!b)) ?_ (Rep.bool _)
  simp [execOp, ho, ex, Op.unary]
theorem st_neg {ty : TypeId} {x : Operand} {k : IntKind} {n : Int} (ho : o.op = .unOp .neg ty x) (hx : evA t x = .int k n) (hK : Next1 P C h W B i (.int k (k.wrap (0 - n))) .nop o a K) : o.wp P a W K Q := by
  have ex := ev_int I hρ hx
  refine wp_nop I hK (u := .int k (k.wrap (0 - n))) ?_ (Rep.int _ _)
  simp [execOp, ho, ex, Op.unary, Op.intArith]
theorem st_convert {s ty : TypeId} {x : Operand} {k k' : IntKind} {n : Int} (ho : o.op = .convert s ty x) (hs : (P.underlying s).isSome = true) (hk : intKind P ty = some k) (hx : evA t x = .int k' n)
    (hK : Next1 P C h W B i (.int k (k.wrap n)) .nop o a K) : o.wp P a W K Q := by
  have ex := ev_int I hρ hx
  obtain ⟨ds, hs⟩ := Option.isSome_iff_exists.1 hs
  have hd : P.underlying ty = some (.int k) := by
    unfold intKind at hk
    split at hk
    · rename_i hh; simp only [Option.some.injEq] at hk; rw [hh, hk]
    · cases hk
  refine wp_nop I hK (u := .int k (k.wrap n)) ?_ (Rep.int _ _)
  simp [execOp, ho, ex, convert, run_underlying hs, run_underlying hd, Conv.intToInt]
theorem st_makeFunc {f : FuncId} {caps : Array Operand} (ho : o.op = .makeFunc (.func f) #[] caps) (hc : (caps.toList.map (evA t)).all (fun x => pure0 x || !pureC x) = true)
    (hK : Next1 P C h W B i (.fn f ((caps.toList.map (evA t)).map forget0)) .nop o a K) : o.wp P a W K Q := by
  refine wp_nop I hK (u := .func (.func f) #[] (caps.map a.eval)) ?_ ?_
  · simp [execOp, ho, Instr.makeFunc]
  · refine ⟨caps.toList.map a.eval, by rw [← List.map_toArray, Array.toArray_toList], by simp, fun j x hx => ?_⟩
    simp only [List.map_map, List.getElem?_map] at hx
    obtain ⟨y, hy, rfl⟩ := Option.map_eq_some_iff.1 hx
    rw [List.getD_eq_getElem?_getD, List.getElem?_map, hy]
    simp only [Option.map_some, Option.getD_some, Function.comp]
    have h1 := List.all_eq_true.1 hc (evA t y) (List.mem_map.2 ⟨y, List.mem_of_getElem? hy, rfl⟩)
    have h2 := evA_rep hρ y
    cases e : evA t y with
    | op id off => rw [e] at h2; exact h2
    | ag cs => rw [e] at h1; cases h1
    | tup cs => rw [e] at h1; cases h1
    | _ =>
      rw [e] at h1 h2
      unfold RepT at h2
      refine RepC.of_rep (h := h) (RepT0.pure (h := h) h2 ?_)
      simpa [pureC] using h1
theorem st_fieldAddr {s : TypeId} {x : Operand} {f n : Nat} (ho : o.op = .fieldAddr s x f) (hf : fieldOff P s f = some n) (hx : (∃ id off, evA t x = .op id off) ∨ ∃ cs, evA t x = .rp cs)
    (hK : Next1 P C h W B i (addOff (evA t x) n) .nop o a K) : o.wp P a W K Q := by
  have hr := evA_rep hρ x
  have run : ∀ b off, a.eval x = .pointer (some ⟨b, off, none⟩) → (execOp a.eval o).run P W = .ok (.value (.pointer (some ⟨b, off + n, none⟩))) W := fun b off e => by
    unfold fieldOff at hf
    split at hf
    · rename_i fs hu
      split at hf
      · rename_i fd hfd
        split at hf
        · cases hf
        · rename_i hsz
          simp only [Option.some.injEq] at hf
          subst hf
          have hinf : (P.info? fd.type).isSome = true := by
            cases hq : P.info? fd.type with
            | none => simp [Program.cellsOf, hq] at hsz
            | some _ => rfl
          simp [execOp, ho, Instr.fieldAt, run_underlying hu, hfd, Instr.sureAddr, e, fieldPlace, run_sizeOf' hinf, hsz, addr_add]
      · cases hf
    · cases hf
  rcases hx with ⟨id, off, e⟩ | ⟨cs, e⟩
  · rw [e] at hr
    refine wp_nop I hK (u := .pointer (some ⟨C.ι id, off + n, none⟩)) (run _ _ hr.2) ?_
    rw [e]
    exact ⟨hr.1, rfl⟩
  · rw [e] at hr
    obtain ⟨b, off, uf, hr', hcell, hrep⟩ := rep_rp hr
    refine wp_nop I hK (u := .pointer (some ⟨b, off + n, none⟩)) (run _ _ hr') ?_
    rw [e]
    refine Rep.rp _ b (off + n) (fun j => uf (n + j)) (fun j x hx => ?_) (fun j x hx => ?_)
    · rw [List.getElem?_drop] at hx
      have := hcell _ x hx
      rwa [show off + (n + j) = off + n + j by omega] at this
    · rw [List.getElem?_drop] at hx
      exact hrep _ x hx
omit I hρ in
theorem sliceElem_spec {ty e : TypeId} (he : sliceElem P ty = some e) : P.underlying ty = some (.slice e) ∧ (P.info? e).isSome = true := by
  unfold sliceElem at he
  split at he
  · rename_i hu
    split at he
    · rename_i hs
      simp only [Option.some.injEq] at he
      subst he
      exact ⟨hu, hs⟩
    · cases he
  · cases he
omit I hρ in
theorem arrayElem_spec {ty e : TypeId} {n : Nat} (he : arrayElem P ty = some (n, e)) : P.underlying ty = some (.array n e) ∧ (P.info? e).isSome = true := by
  unfold arrayElem at he
  split at he
  · rename_i hu
    split at he
    · rename_i hs
      simp only [Option.some.injEq, Prod.mk.injEq] at he
      obtain ⟨rfl, rfl⟩ := he
      exact ⟨hu, hs⟩
    · cases he
  · cases he
/-- A slice, whatever may be done to it. -/
theorem ev_slice {x : Operand} {f : Fl} {xs : List (List AV)} (hx : evA t x = .sl f xs) : Rep C.S W (.sl .no xs) (a.eval x) := by
  have hr := evA_rep hρ x
  rw [hx] at hr
  cases f with
  | no => exact hr
  | zero => obtain ⟨rfl, A, e⟩ := hr; rw [e]; exact .slE A 0
  | tag t => exact hr.1
  | own e s => cases hr
  | fown e s => cases hr
theorem st_indexSlice {ty e : TypeId} {x ix : Operand} {f : Fl} {xs : List (List AV)} {k : IntKind} {j : Int} {el : List AV} (ho : o.op = .indexAddr ty x ix) (hx : evA t x = .sl f xs) (hix : evA t ix = .int k j)
    (he : sliceElem P ty = some e) (h0 : 0 ≤ j) (hel : xs[j.toNat]? = some el) (hl : el.length = P.cellsOf e) (hK : Next1 P C h W B i (.rp el) .nop o a K) : o.wp P a W K Q := by
  obtain ⟨hu, hs⟩ := sliceElem_spec he
  have hr := ev_slice I hρ hx
  have hj := ev_int I hρ hix
  have hlt := (List.getElem?_eq_some_iff.1 hel).1
  obtain ⟨A, c, hr', hne⟩ := rep_sl hr
  obtain ⟨b, off, sz, uf, rfl, hc, hsz, hcell, hrep⟩ := hne (fun e => by subst e; simp at hel)
  have hszE : sz = P.cellsOf e := by rw [← hl]; exact (hsz el (List.mem_of_getElem? hel)).symm
  refine wp_nop I hK (u := .pointer (some ⟨b, off + j.toNat * P.cellsOf e, none⟩)) ?_ ?_
  · have hjn : j < (xs.length : Int) := by omega
    simp [execOp, ho, Instr.indexAt, hj, asIntOf, run_underlying hu, hr', h0, hjn, run_sizeOf' hs, addr_add]
  · have hg : ∀ q y, el[q]? = some y → getx xs j.toNat q = some y := fun q y hy => by simp [getx, hel, hy]
    refine Rep.rp _ _ _ (fun q => uf j.toNat q) (fun q y hy => ?_) (fun q y hy => hrep _ _ y (hg q y hy))
    have := hcell _ _ y (hg q y hy)
    rwa [hszE] at this
theorem st_indexArr {ty e : TypeId} {x ix : Operand} {id off n : Nat} {k : IntKind} {j : Int} (ho : o.op = .indexAddr ty x ix) (hx : evA t x = .op id off) (hix : evA t ix = .int k j)
    (he : arrayElem P ty = some (n, e)) (h0 : 0 ≤ j) (hjn : j < n) (hK : Next1 P C h W B i (.op id (off + j.toNat * P.cellsOf e)) .nop o a K) : o.wp P a W K Q := by
  obtain ⟨hu, hs⟩ := arrayElem_spec he
  have hr := evA_rep hρ x
  rw [hx] at hr
  have hj := ev_int I hρ hix
  refine wp_nop I hK (u := .pointer (some ⟨C.ι id, off + j.toNat * P.cellsOf e, none⟩)) ?_ ⟨hr.1, rfl⟩
  have hp' : a.eval x = .pointer (some ⟨C.ι id, off, none⟩) := hr.2
  simp [execOp, ho, Instr.indexAt, hj, asIntOf, run_underlying hu, hp', h0, hjn, run_sizeOf' hs, addr_add, Instr.sureAddr]
theorem st_indexMs {ty e : TypeId} {x ix : Operand} {id l n c sz : Nat} {k : IntKind} {j : Int} (ho : o.op = .indexAddr ty x ix) (hx : evA t x = .ms id l n c sz) (hix : evA t ix = .int k j)
    (he : sliceElem P ty = some e) (h0 : 0 ≤ j) (hjn : j < n) (hsz : sz = P.cellsOf e) (hK : Next1 P C h W B i (.mp id ((l + j.toNat) * sz)) .nop o a K) : o.wp P a W K Q := by
  obtain ⟨hu, hs⟩ := sliceElem_spec he
  have hr := evA_rep hρ x
  rw [hx] at hr
  have hj := ev_int I hρ hix
  subst hsz
  refine wp_nop I hK (u := .pointer (some ⟨C.ι id, (l + j.toNat) * P.cellsOf e, none⟩)) ?_ ⟨hr.1, rfl⟩
  obtain ⟨_, q, hp', hq, hnc⟩ := hr
  have hq : q = l * P.cellsOf e := hq (by omega)
  subst hq
  simp [execOp, ho, Instr.indexAt, hj, asIntOf, run_underlying hu, hp', h0, hjn, run_sizeOf' hs, addr_add, Nat.add_mul]
omit I hρ in
theorem takeV_part {ty : TypeId} {cs : List AV} {us : List Value} {off : Nat} (hk : okTy P ty = true) (hv : takeV P ty (cs.drop off) = some v) (hl : us.length = cs.length)
    (hc : ∀ j x, cs[j]? = some x → RepT0 C W h x (us.getD j Go.undef)) : ∃ u, (part ty us.toArray off).run P W = .ok u W ∧ RepT C W h v u := by
  obtain ⟨hi, hu⟩ := okTy_iff hk
  unfold takeV at hv
  by_cases ha : isAggB P ty = true
  · rw [if_pos ha] at hv
    split at hv
    · rename_i hle
      simp only [Option.some.injEq] at hv
      subst hv
      refine ⟨.agg (us.toArray.extract off (off + P.cellsOf ty)), by simp [part, run_isAgg hu, ha, run_sizeOf' hi], (us.drop off).take (P.cellsOf ty), ?_, ?_, fun j x hx => ?_⟩
      · congr 1
        apply Array.ext'
        simp [List.take_drop, List.extract_eq_take_drop]
      · simp only [List.length_take, List.length_drop] at hle ⊢; omega
      · rw [List.getElem?_take] at hx
        split at hx
        · rename_i hj
          rw [List.getElem?_drop] at hx
          have := hc _ x hx
          rw [List.getD_eq_getElem?_getD] at this ⊢
          rw [List.getElem?_take, if_pos hj, List.getElem?_drop]
          exact this
        · cases hx
    · cases hv
  · rw [if_neg ha] at hv
    have hb : isAggB P ty = false := by simpa using ha
    rw [List.head?_drop] at hv
    have hlt := (List.getElem?_eq_some_iff.1 hv).1
    have h1 := hc _ v hv
    rw [List.getD_eq_getElem?_getD, List.getElem?_eq_getElem (show off < us.length by omega)] at h1
    refine ⟨us[off], ?_, .of_T0 h1⟩
    simp [part, run_isAgg hu, hb, show off < us.length by omega]
theorem st_index {ty e : TypeId} {x ix : Operand} {n : Nat} {cs : List AV} {k : IntKind} {j : Int} (ho : o.op = .index ty x ix) (hx : evA t x = .ag cs) (hix : evA t ix = .int k j)
    (he : arrayElem P ty = some (n, e)) (h0 : 0 ≤ j) (hjn : j < n) (hk : okTy P e = true) (hv : takeV P e (cs.drop (j.toNat * P.cellsOf e)) = some v) (hK : Next1 P C h W B i v .nop o a K) : o.wp P a W K Q := by
  obtain ⟨hu, hs⟩ := arrayElem_spec he
  have hr := evA_rep hρ x
  rw [hx] at hr
  obtain ⟨us, e1, e2, e3⟩ := hr
  have hj := ev_int I hρ hix
  obtain ⟨u, hu', hru⟩ := takeV_part (off := j.toNat * P.cellsOf e) hk hv e2 e3
  refine wp_nop I hK (u := u) ?_ hru
  simp [execOp, ho, Instr.index, hj, asIntOf, run_underlying hu, e1, h0, hjn, run_sizeOf' hs, hu']
theorem st_extract {x : Operand} {j : Nat} {vs : List AV} (ho : o.op = .extract x j) (hx : evA t x = .tup vs) (hv : vs[j]? = some v) (hK : Next1 P C h W B i v .nop o a K) : o.wp P a W K Q := by
  have hr := evA_rep hρ x
  rw [hx] at hr
  obtain ⟨us, e1, e2, e3⟩ := hr
  have hlt := (List.getElem?_eq_some_iff.1 hv).1
  have h1 := e3 j v hv
  refine wp_nop I hK (u := us.getD j Go.undef) ?_ ?_
  · simp [execOp, ho, Instr.extract, e1, List.getD, List.getElem?_eq_getElem (show j < us.length by omega)]
  · cases v <;> first | exact RepT.of_T0 h1 | exact h1
theorem st_lenSlice {x : Operand} {ty e : TypeId} {f : Fl} {xs : List (List AV)} (ho : o.op = .call { callee := .builtin .len, args := #[x], argTypes := #[ty] }) (hx : evA t x = .sl f xs) (he : sliceElem P ty = some e)
    (hK : Next1 P C h W B i (.int .i64 xs.length) .nop o a K) : o.wp P a W K Q := by
  obtain ⟨hu, hs⟩ := sliceElem_spec he
  have hr := ev_slice I hρ hx
  obtain ⟨A, c, e', _⟩ := rep_sl hr
  refine wp_nop I hK (u := .int .i64 xs.length) ?_ (Rep.int _ _)
  simp [execOp, ho, resolve, invoke, builtin, Builtin.len_, e', run_underlying hu, goInt]
theorem st_lenArr {x : Operand} {ty e : TypeId} {n : Nat} (ho : o.op = .call { callee := .builtin .len, args := #[x], argTypes := #[ty] }) (he : arrayElem P ty = some (n, e))
    (hx : ∀ f xs, evA t x ≠ .sl f xs) (hK : Next1 P C h W B i (.int .i64 n) .nop o a K) : o.wp P a W K Q := by
  obtain ⟨hu, hs⟩ := arrayElem_spec he
  refine wp_nop I hK (u := .int .i64 n) ?_ (Rep.int _ _)
  simp only [execOp, ho, resolve, invoke, builtin, Builtin.len_, Sem.run_bind, Sem.run_pure, Result.andThen_ok, List.map_toArray, List.map_cons, List.map_nil]
  simp [run_underlying hu, goInt]
theorem st_min {x y : Operand} {ts : Array TypeId} {k k' : IntKind} {m n : Int} (ho : o.op = .call { callee := .builtin .min, args := #[x, y], argTypes := ts }) (hx : evA t x = .int k m) (hy : evA t y = .int k' n)
    (hK : Next1 P C h W B i (.int k (if n < m then n else m)) .nop o a K) : o.wp P a W K Q := by
  have ex := ev_int I hρ hx
  have ey := ev_int I hρ hy
  refine wp_nop I hK (u := .int k (if n < m then n else m)) ?_ (Rep.int _ _)
  simp [execOp, ho, resolve, invoke, builtin, Builtin.min_, Builtin.min2, ex, ey]
theorem st_max {x y : Operand} {ts : Array TypeId} {k k' : IntKind} {m n : Int} (ho : o.op = .call { callee := .builtin .max, args := #[x, y], argTypes := ts }) (hx : evA t x = .int k m) (hy : evA t y = .int k' n)
    (hK : Next1 P C h W B i (.int k (if n > m then n else m)) .nop o a K) : o.wp P a W K Q := by
  have ex := ev_int I hρ hx
  have ey := ev_int I hρ hy
  refine wp_nop I hK (u := .int k (if n > m then n else m)) ?_ (Rep.int _ _)
  simp [execOp, ho, resolve, invoke, builtin, Builtin.max_, Builtin.max2, ex, ey]
end ops
end
section
variable {P : Program} {C : Ctx} {h : AHeap} {W : World} {B : Nat}
variable {i : Nat} {v : AV} {d : Eff} {o : Oper} {a : Act} {t : Nat → AV} {K : Act → World → Prop} {Q : Exit → Act → World → Prop}
theorem getx_drop (xs : List (List AV)) (l i j : Nat) : getx (xs.drop l) i j = getx xs (l + i) j := by simp [getx, List.getElem?_drop]
theorem getx_take {xs : List (List AV)} {n i j : Nat} {x : AV} (hx : getx (xs.take n) i j = some x) : i < n ∧ getx xs i j = some x := by
  unfold getx at hx ⊢
  rw [List.getElem?_take] at hx
  split at hx
  · exact ⟨by assumption, hx⟩
  · cases hx
/-- A part of a slice. -/
theorem rep_cut {xs : List (List AV)} {A : Option Addr} {c l n size : Nat} (hr : Rep C.S W (.sl .no xs) (.slice A xs.length c)) (hln : l ≤ n) (hn : n ≤ xs.length)
    (hs : l = 0 ∨ ∀ y ∈ xs, y.length = size) : Rep C.S W (.sl .no ((xs.take n).drop l)) (.slice (if c = l then A else A.map (·.add (l * size))) (n - l) (c - l)) := by
  have hlen : ((xs.take n).drop l).length = n - l := by simp; omega
  by_cases he : n = l
  · subst he
    have : (xs.take n).drop n = [] := List.drop_eq_nil_of_le (by simp; omega)
    rw [this, Nat.sub_self]
    exact .slE _ _
  · obtain ⟨A', c', e, hne⟩ := rep_sl hr
    cases e
    obtain ⟨b, off, sz, uf, rfl, hc, hsz, hcell, hrep⟩ := hne (fun e => by subst e; simp at hn; omega)
    rw [if_neg (by omega), ← hlen, Option.map_some, addr_add]
    have hz : l * size = l * sz := by
      rcases hs with rfl | hs
      · simp
      · have h0 : 0 < xs.length := by omega
        rw [← hs _ (List.getElem_mem h0), hsz _ (List.getElem_mem h0)]
    rw [hz]
    refine .sl _ sz b _ _ (fun i j => uf (l + i) j) (by rw [hlen]; omega) (fun e he => hsz e (List.mem_of_mem_take (List.mem_of_mem_drop he))) (fun i j x hx => ?_) (fun i j x hx => ?_)
    · rw [getx_drop] at hx
      have := hcell _ _ x (getx_take hx).2
      rwa [show off + (l + i) * sz + j = off + l * sz + i * sz + j by rw [Nat.add_mul]; omega] at this
    · rw [getx_drop] at hx
      exact hrep _ _ x (getx_take hx).2
section ops
variable (I : Inv P C h W B) (hρ : ∀ n, RepT C W h (t n) (a.tmps.getD n Go.undef)) (hi : h i = .none)
include I hρ
theorem cut_fin {ty e : TypeId} {x : Operand} {lo hi mx : Option Operand} {f : Fl} {xs : List (List AV)} (ho : o.op = .slice ty x lo hi mx) (he : sliceElem P ty = some e) (hx : evA t x = .sl f xs)
    {l n : Nat} (h1 : l ≤ n) (h2 : n ≤ xs.length) (h3 : l = 0 ∨ ∀ y ∈ xs, y.length = P.cellsOf e)
    (hrun : ∀ A c, xs.length ≤ c → a.eval x = .slice A xs.length c → (Instr.sliceAt ty (a.eval x) (lo.map a.eval) (hi.map a.eval) (mx.map a.eval)).run P W = .ok (.slice (if c = l then A else A.map (·.add (l * P.cellsOf e))) (n - l) (c - l)) W)
    (hK : Next1 P C h W B i (.sl .no ((xs.take n).drop l)) .nop o a K) : o.wp P a W K Q := by
  obtain ⟨hu, hs⟩ := sliceElem_spec he
  have hr := ev_slice I hρ hx
  obtain ⟨A, c, hr', hne⟩ := rep_sl hr
  have hle : xs.length ≤ c := by
    cases xs with
    | nil => simp
    | cons y ys => obtain ⟨_, _, _, _, _, hc, _⟩ := hne (by simp); exact hc
  have := hrun A c hle hr'
  rw [hr'] at hr
  refine wp_nop I hK ?_ (.of_rep (rep_cut hr h1 h2 h3))
  simp [execOp, ho, this]
theorem st_cut0 {ty e : TypeId} {x : Operand} {f : Fl} {xs : List (List AV)} (ho : o.op = .slice ty x none none none) (he : sliceElem P ty = some e) (hx : evA t x = .sl f xs)
    (hK : Next1 P C h W B i (.sl .no xs) .nop o a K) : o.wp P a W K Q := by
  obtain ⟨hu, hs⟩ := sliceElem_spec he
  refine cut_fin I hρ ho he hx (l := 0) (n := xs.length) (Nat.zero_le _) (Nat.le_refl _) (.inl rfl) (fun A c hle hr' => ?_) (by simpa using hK)
  simp [Instr.sliceAt, Instr.slice, Instr.sliceBounds, run_underlying hu, hr', run_sizeOf' hs]
theorem st_cutLo {ty e : TypeId} {x y : Operand} {f : Fl} {xs : List (List AV)} {k : IntKind} {l : Int} (ho : o.op = .slice ty x (some y) none none) (he : sliceElem P ty = some e) (hx : evA t x = .sl f xs)
    (hy : evA t y = .int k l) (h0 : 0 ≤ l) (hl : l ≤ xs.length) (hz : ∀ y ∈ xs, y.length = P.cellsOf e)
    (hK : Next1 P C h W B i (.sl .no (xs.drop l.toNat)) .nop o a K) : o.wp P a W K Q := by
  obtain ⟨hu, hs⟩ := sliceElem_spec he
  have ey := ev_int I hρ hy
  refine cut_fin I hρ ho he hx (l := l.toNat) (n := xs.length) (by omega) (Nat.le_refl _) (.inr hz) (fun A c hle hr' => ?_) (by simpa using hK)
  simp [Instr.sliceAt, Instr.slice, Instr.sliceBounds, Instr.sliceBound, asIntOf, run_underlying hu, hr', run_sizeOf' hs, ey, h0, hl]
theorem st_cutHi {ty e : TypeId} {x y : Operand} {f : Fl} {xs : List (List AV)} {k : IntKind} {n : Int} (ho : o.op = .slice ty x none (some y) none) (he : sliceElem P ty = some e) (hx : evA t x = .sl f xs)
    (hy : evA t y = .int k n) (h0 : 0 ≤ n) (hl : n ≤ xs.length)
    (hK : Next1 P C h W B i (.sl .no (xs.take n.toNat)) .nop o a K) : o.wp P a W K Q := by
  obtain ⟨hu, hs⟩ := sliceElem_spec he
  have ey := ev_int I hρ hy
  refine cut_fin I hρ ho he hx (l := 0) (n := n.toNat) (Nat.zero_le _) (by omega) (.inl rfl) (fun A c hle hr' => ?_) (by simpa using hK)
  have c3 : n ≤ (c : Int) := by omega
  simp [Instr.sliceAt, Instr.slice, Instr.sliceBounds, Instr.sliceBound, asIntOf, run_underlying hu, hr', run_sizeOf' hs, ey, h0, c3]
theorem st_msLo {ty e : TypeId} {x y : Operand} {id l n c sz : Nat} {k : IntKind} {b : Int} (ho : o.op = .slice ty x (some y) none none) (he : sliceElem P ty = some e) (hx : evA t x = .ms id l n c sz)
    (hy : evA t y = .int k b) (h0 : 0 ≤ b) (hl : b ≤ n) (hz : sz = P.cellsOf e) (hK : Next1 P C h W B i (.ms id (l + b.toNat) (n - b.toNat) (c - b.toNat) sz) .nop o a K) : o.wp P a W K Q := by
  obtain ⟨hu, hs⟩ := sliceElem_spec he
  have ey := ev_int I hρ hy
  have hr := evA_rep hρ x
  rw [hx] at hr
  obtain ⟨hp, q, hr', hq, hnc⟩ := hr
  subst hz
  refine wp_nop I hK (u := .slice (if c = b.toNat then some ⟨C.ι id, q, none⟩ else some ⟨C.ι id, q + b.toNat * P.cellsOf e, none⟩) (n - b.toNat) (c - b.toNat)) ?_ ?_
  · have h1 : (b ≤ (n : Int)) := hl
    by_cases hcb : c = b.toNat
    · simp [execOp, ho, Instr.sliceAt, Instr.slice, Instr.sliceBounds, Instr.sliceBound, asIntOf, run_underlying hu, hr', run_sizeOf' hs, ey, h0, hl, hcb]
    · simp [execOp, ho, Instr.sliceAt, Instr.slice, Instr.sliceBounds, Instr.sliceBound, asIntOf, run_underlying hu, hr', run_sizeOf' hs, ey, h0, hl, hcb, addr_add]
  · refine ⟨hp, if c = b.toNat then q else q + b.toNat * P.cellsOf e, ?_, fun hc => ?_, by omega⟩
    · split <;> rfl
    · rw [if_neg (by omega), hq (by omega), Nat.add_mul]
theorem st_msHi {ty e : TypeId} {x y : Operand} {id l n c sz : Nat} {k : IntKind} {b : Int} (ho : o.op = .slice ty x none (some y) none) (he : sliceElem P ty = some e) (hx : evA t x = .ms id l n c sz)
    (hy : evA t y = .int k b) (h0 : 0 ≤ b) (hl : b ≤ c) (hz : sz = P.cellsOf e) (hK : Next1 P C h W B i (.ms id l b.toNat c sz) .nop o a K) : o.wp P a W K Q := by
  obtain ⟨hu, hs⟩ := sliceElem_spec he
  have ey := ev_int I hρ hy
  have hr := evA_rep hρ x
  rw [hx] at hr
  obtain ⟨hp, q, hr', hq, hnc⟩ := hr
  refine wp_nop I hK (u := .slice (some ⟨C.ι id, q, none⟩) b.toNat c) ?_ ⟨hp, q, rfl, hq, by omega⟩
  simp [execOp, ho, Instr.sliceAt, Instr.slice, Instr.sliceBounds, Instr.sliceBound, asIntOf, run_underlying hu, hr', run_sizeOf' hs, ey, h0, hl, addr_add]
theorem st_cutLoHi {ty e : TypeId} {x y z : Operand} {f : Fl} {xs : List (List AV)} {k k' : IntKind} {l n : Int} (ho : o.op = .slice ty x (some y) (some z) none) (he : sliceElem P ty = some e) (hx : evA t x = .sl f xs)
    (hy : evA t y = .int k l) (hz : evA t z = .int k' n) (h0 : 0 ≤ l) (h1 : l ≤ n) (hl : n ≤ xs.length) (hq : ∀ y ∈ xs, y.length = P.cellsOf e)
    (hK : Next1 P C h W B i (.sl .no ((xs.take n.toNat).drop l.toNat)) .nop o a K) : o.wp P a W K Q := by
  obtain ⟨hu, hs⟩ := sliceElem_spec he
  have ey := ev_int I hρ hy
  have ez := ev_int I hρ hz
  refine cut_fin I hρ ho he hx (l := l.toNat) (n := n.toNat) (by omega) (by omega) (.inr hq) (fun A c hle hr' => ?_) hK
  have d1 : 0 ≤ n := by omega
  have d2 : n ≤ (c : Int) := by omega
  have d3 : l ≤ max n 0 := by omega
  simp [Instr.sliceAt, Instr.slice, Instr.sliceBounds, Instr.sliceBound, asIntOf, run_underlying hu, hr', run_sizeOf' hs, ey, ez, h0, d1, d2, d3]
theorem st_cutZero {ty e : TypeId} {x y z : Operand} {f : Fl} {xs : List (List AV)} {k k' : IntKind} (ho : o.op = .slice ty x none (some y) (some z)) (he : sliceElem P ty = some e) (hx : evA t x = .sl f xs)
    (hy : evA t y = .int k 0) (hz : evA t z = .int k' 0) (hK : Next1 P C h W B i (.sl .zero []) .nop o a K) : o.wp P a W K Q := by
  obtain ⟨hu, hs⟩ := sliceElem_spec he
  have ey := ev_int I hρ hy
  have ez := ev_int I hρ hz
  have hr := ev_slice I hρ hx
  obtain ⟨A, c, hr', hne⟩ := rep_sl hr
  refine wp_nop I hK (u := .slice A 0 0) ?_ ⟨rfl, A, rfl⟩
  simp [execOp, ho, Instr.sliceAt, Instr.slice, Instr.sliceBounds, Instr.sliceBound, asIntOf, run_underlying hu, hr', run_sizeOf' hs, ey, ez]
theorem chunks_get {n size j q : Nat} {cs : List AV} {x : AV} (hx : getx (chunks n size cs) j q = some x) : j < n ∧ q < size ∧ cs[j * size + q]? = some x := by
  unfold getx chunks at hx
  rw [List.getElem?_map] at hx
  by_cases hj : j < n
  · rw [List.getElem?_range hj] at hx
    simp only [Option.map_some, Option.bind_some] at hx
    rw [List.getElem?_take] at hx
    split at hx
    · rw [List.getElem?_drop] at hx
      exact ⟨hj, by assumption, hx⟩
    · cases hx
  · rw [List.getElem?_eq_none (by simp; omega)] at hx
    cases hx
theorem chunks_len {n size : Nat} {cs : List AV} (hl : cs.length = n * size) : ∀ e ∈ chunks n size cs, e.length = size := by
  intro e he
  unfold chunks at he
  obtain ⟨j, hj, rfl⟩ := List.mem_map.1 he
  have := List.mem_range.1 hj
  have h2 : (j + 1) * size ≤ n * size := Nat.mul_le_mul_right _ (by omega)
  rw [Nat.add_mul] at h2
  simp
  omega
/-- A boxed array as a slice: the box is closed. -/
theorem st_cutArr {ty e : TypeId} {x : Operand} {n id : Nat} {cs : List AV} (ho : o.op = .slice ty x none none none) (he : arrayElem P ty = some (n, e)) (hx : evA t x = .op id 0)
    (hp : (h id).peek = some cs) (hl : cs.length = n * P.cellsOf e) (hc : cs.all pure0 = true)
    (hK : Next1 P C h W B i (.sl .no (chunks n (P.cellsOf e) (cs.map forget0))) (.call [id] none) o a K) : o.wp P a W K Q := by
  obtain ⟨hu, hs⟩ := arrayElem_spec he
  have hr := evA_rep hρ x
  rw [hx] at hr
  obtain ⟨I', l⟩ := I.close [id]
  refine wp_value (u := .slice (some ⟨C.ι id, 0, none⟩) n n) (W' := W) ?_ (hK _ W _ ?_ I' l (.refl _ _))
  · have hp' : a.eval x = .pointer (some ⟨C.ι id, 0, none⟩) := hr.2
    simp [execOp, ho, Instr.sliceAt, run_underlying hu, hp', Instr.sureAddr, Instr.sliceBounds, run_sizeOf' hs]
    intro _
    rfl
  · obtain ⟨us, ty', h1, h2, h3, h4⟩ := I.box id cs hp
    have hlen : (chunks n (P.cellsOf e) (cs.map forget0)).length = n := by simp [chunks]
    refine RepT.of_rep ?_
    have hS : ∀ q, q < cs.length → sealS C h [id] (C.ι id) q := fun q hq => by
      cases hh : h id with
      | box cs' => rw [hh] at hp; simp only [HO.peek, Option.some.injEq] at hp; subst hp; exact .inr ⟨id, cs', by simp, hh, rfl, hq⟩
      | sealed cs' => rw [hh] at hp; simp only [HO.peek, Option.some.injEq] at hp; subst hp; exact .inl (I.isSealed id cs' hh q hq)
      | none => rw [hh] at hp; cases hp
      | live _ _ _ => rw [hh] at hp; cases hp
      | fresh _ _ _ => rw [hh] at hp; cases hp
      | dead => rw [hh] at hp; cases hp
    have key : Rep (sealS C h [id]) W (.sl .no (chunks n (P.cellsOf e) (cs.map forget0))) (.slice (some ⟨C.ι id, 0, none⟩) (chunks n (P.cellsOf e) (cs.map forget0)).length n) := by
      refine .sl _ (P.cellsOf e) _ 0 n (fun j q => us.getD (j * P.cellsOf e + q) Go.undef) (by rw [hlen]; exact Nat.le_refl _) (chunks_len I hρ (by simpa using hl)) (fun j q y hy => ?_) (fun j q y hy => ?_)
      · obtain ⟨g1, g2, g3⟩ := chunks_get I hρ hy
        rw [List.getElem?_map] at g3
        obtain ⟨z, hz, rfl⟩ := Option.map_eq_some_iff.1 g3
        have hlt := (List.getElem?_eq_some_iff.1 hz).1
        rw [Nat.zero_add]
        refine ⟨hS _ hlt, ?_⟩
        rw [cell_of_row W _ _ _ _ _ h1]
        simp [List.getD, List.getElem?_eq_getElem (show j * P.cellsOf e + q < us.length by omega)]
      · obtain ⟨g1, g2, g3⟩ := chunks_get I hρ hy
        rw [List.getElem?_map] at g3
        obtain ⟨z, hz, rfl⟩ := Option.map_eq_some_iff.1 g3
        exact ((h4 _ z hz).pure (List.all_eq_true.1 hc z (List.mem_of_getElem? hz))).mono (fun _ _ hs => .inl hs) (fun _ _ _ => rfl)
    rw [hlen] at key
    exact key
end ops
/-! ### structs and slices made -/
theorem fold_get (off : Nat) : ∀ (vs : List Value) (k : Nat) (cells : Array Value) (p : Nat), off + k + vs.length ≤ cells.size →
    ((vs.zipIdx k).foldl (fun cs (cj : Value × Nat) => cs.setIfInBounds (off + cj.2) cj.1) cells)[p]? = if off + k ≤ p ∧ p < off + k + vs.length then vs[p - (off + k)]? else cells[p]?
  | [], k, cells, p, _ => by
    simp; omega
  | v :: vs, k, cells, p, hl => by
    simp only [List.length_cons] at hl
    rw [List.zipIdx_cons, List.foldl_cons, fold_get off vs (k + 1) _ p (by simp; omega)]
    simp only [Array.getElem?_setIfInBounds, List.length_cons]
    by_cases h1 : off + (k + 1) ≤ p ∧ p < off + (k + 1) + vs.length
    · rw [if_pos h1, if_pos (by omega), show p - (off + k) = (p - (off + (k + 1))) + 1 by omega, List.getElem?_cons_succ]
    · rw [if_neg h1]
      by_cases h2 : off + k = p
      · rw [if_pos h2, if_pos (by omega), if_pos (by omega), show p - (off + k) = 0 by omega]; rfl
      · rw [if_neg h2, if_neg (by omega)]
theorem fold_size (off : Nat) : ∀ (vs : List Value) (k : Nat) (cells : Array Value), ((vs.zipIdx k).foldl (fun cs (cj : Value × Nat) => cs.setIfInBounds (off + cj.2) cj.1) cells).size = cells.size
  | [], _, _ => rfl
  | v :: vs, k, cells => by rw [List.zipIdx_cons, List.foldl_cons, fold_size off vs (k + 1)]; simp
def Cells (C : Ctx) (W : World) (h : AHeap) (cs : List AV) (us : Array Value) : Prop := us.size = cs.length ∧ ∀ j x, cs[j]? = some x → RepT0 C W h x (us.getD j Go.undef)
theorem fill_rep (place : Nat → Option (Nat × Nat)) (ρ : Operand → Value) (e : Operand → AV) (he : ∀ x, RepT C W h (e x) (ρ x)) :
    ∀ (parts : List (Nat × Operand)) (cs cs' : List AV) (us : Array Value), Cells C W h cs us → fillA place cs (parts.map fun (j, x) => (j, e x)) = some cs' →
      ∃ us', Instr.fill place us (parts.map fun (j, x) => (j, ρ x)) = some us' ∧ Cells C W h cs' us'
  | [], cs, cs', us, hc, hf => by
    simp only [List.map_nil, fillA, Option.some.injEq] at hf
    subst hf
    exact ⟨us, rfl, hc⟩
  | (j, x) :: rest, cs, cs', us, hc, hf => by
    simp only [List.map_cons, fillA] at hf
    cases hp : place j with
    | none => rw [hp] at hf; cases hf
    | some q =>
      obtain ⟨off, size⟩ := q
      cases hv : cellsA (e x) with
      | none => rw [hp, hv] at hf; cases hf
      | some vc =>
        rw [hp, hv] at hf
        simp only at hf
        split at hf
        · rename_i hcond
          obtain ⟨ws, w1, w2, w3⟩ := cellsA_rep (he x) hv
          have hfl : ((ρ x).cells.zipIdx.foldl (fun cs (cj : Value × Nat) => cs.setIfInBounds (off + cj.2) cj.1) us) = ((ws.zipIdx 0).foldl (fun cs (cj : Value × Nat) => cs.setIfInBounds (off + cj.2) cj.1) us) := by
            rw [w1, ← Array.foldl_toList]; simp
          have hin : off + ws.length ≤ us.size := by rw [hc.1]; omega
          have hnew : Cells C W h (splice cs off vc) ((ws.zipIdx 0).foldl (fun cs (cj : Value × Nat) => cs.setIfInBounds (off + cj.2) cj.1) us) := by
            refine ⟨by rw [fold_size, splice_length hcond.2, hc.1], fun p y hy => ?_⟩
            rw [splice, splice_get _ _ _ _ hcond.2] at hy
            rw [Array.getD_eq_getD_getElem?, fold_get off ws 0 us p (by omega), Nat.add_zero, w2]
            split at hy
            · rename_i hq
              rw [if_pos hq]
              have := w3 _ y hy
              rwa [List.getD_eq_getElem?_getD] at this
            · rename_i hq
              rw [if_neg hq]
              have := hc.2 _ y hy
              rwa [Array.getD_eq_getD_getElem?] at this
          obtain ⟨us', g1, g2⟩ := fill_rep place ρ e he rest _ _ _ hnew hf
          refine ⟨us', ?_, g2⟩
          simp only [List.map_cons, Instr.fill, hp]
          rw [if_neg (by rw [w1]; simp; omega)]
          rw [hfl]
          exact g1
        · cases hf
theorem zero_cells {e : TypeId} {cs : List AV} {z : Value} (h1 : z.cells.toList.map const0 = cs) : Cells C W h cs z.cells := by
  refine ⟨by rw [← h1]; simp, fun j x hx => ?_⟩
  rw [← h1, List.getElem?_map] at hx
  obtain ⟨u, hu, rfl⟩ := Option.map_eq_some_iff.1 hx
  rw [Array.getD_eq_getD_getElem?, ← Array.getElem?_toList, hu]
  exact const0_rep u
theorem run_places (fs : Array Field) (hf : ∀ f ∈ fs, (P.info? f.type).isSome = true) (w : World) :
    (fs.mapM fun f => do pure (f.offset, ← sizeOf f.type) : Sem (Array (Nat × Nat))).run P w = .ok (fs.map fun f => (f.offset, P.cellsOf f.type)) w := by
  rw [Array.mapM_eq_mapM_toList]
  have key : ∀ l : List Field, (∀ f ∈ l, (P.info? f.type).isSome = true) → (l.mapM fun f => do pure (f.offset, ← sizeOf f.type) : Sem (List (Nat × Nat))).run P w = .ok (l.map fun f => (f.offset, P.cellsOf f.type)) w := by
    intro l
    induction l with
    | nil => intro _; simp
    | cons f l ih =>
      intro hl
      rw [List.mapM_cons]
      have ih' := ih (fun g hg => hl g (by simp [hg]))
      simp only [bind_pure_comp] at ih' ⊢
      simp [run_sizeOf' (hl f (by simp)), ih']
  simp only [Sem.run_map, key fs.toList (fun f hf' => hf f (by simpa using hf')), Result.andThen_ok]
  congr 1
  apply Array.ext'
  simp
section ops
variable (I : Inv P C h W B) (hρ : ∀ n, RepT C W h (t n) (a.tmps.getD n Go.undef)) (hi : h i = .none)
include I hρ
theorem st_buildStruct {ty : TypeId} {parts : Array (Nat × Operand)} {fs : Array Field} {z cs : List AV} (ho : o.op = .build ty parts) (hu : P.underlying ty = some (.struct fs)) (hz : zeroC P ty = some z)
    (hfs : ∀ f ∈ fs, (P.info? f.type).isSome = true)
    (hf : fillA (fun j => (fs[j]?).bind fun f => if (P.info? f.type).isSome then some (f.offset, P.cellsOf f.type) else none) z (parts.toList.map fun (j, x) => (j, evA t x)) = some cs)
    (hK : Next1 P C h W B i (.ag cs) .nop o a K) : o.wp P a W K Q := by
  obtain ⟨zv, z1, z2, _⟩ := run_zeroValue' hz W
  have hpl : (fun (j : Nat) => (fs[j]?).bind fun (f : Field) => if (P.info? f.type).isSome then some (f.offset, P.cellsOf f.type) else none) = (fun (j : Nat) => (fs.map fun (f : Field) => (f.offset, P.cellsOf f.type))[j]?) := by
    funext j
    rw [Array.getElem?_map]
    cases hj : fs[j]? with
    | none => rfl
    | some f => simp [hfs f (Array.mem_of_getElem? hj)]
  rw [hpl] at hf
  obtain ⟨us', g1, g2⟩ := fill_rep (C := C) (W := W) (h := h) (fun (j : Nat) => (fs.map fun (f : Field) => (f.offset, P.cellsOf f.type))[j]?) a.eval (evA t) (evA_rep hρ) parts.toList z cs zv.cells (zero_cells (e := ty) z2) hf
  refine wp_nop I hK (u := .agg us') ?_ ⟨us'.toList, by simp, by simpa using g2.1, fun j x hx => ?_⟩
  · have hpr := run_places (P := P) fs hfs W
    simp only [bind_pure_comp] at hpr
    simp [execOp, ho, Instr.build, z1, run_underlying hu, hpr]
    simp only [Array.getElem?_map] at g1
    simp [g1]
  · have := g2.2 j x hx
    rwa [Array.getD_eq_getD_getElem?, ← Array.getElem?_toList] at this
theorem st_buildArr {ty e : TypeId} {n : Nat} {parts : Array (Nat × Operand)} {z cs : List AV} (ho : o.op = .build ty parts) (hu : P.underlying ty = some (.array n e)) (hz : zeroC P ty = some z)
    (hs : (P.info? e).isSome = true) (hf : fillA (fun j => some (j * P.cellsOf e, P.cellsOf e)) z (parts.toList.map fun (j, x) => (j, evA t x)) = some cs)
    (hK : Next1 P C h W B i (.ag cs) .nop o a K) : o.wp P a W K Q := by
  obtain ⟨zv, z1, z2, _⟩ := run_zeroValue' hz W
  obtain ⟨us', g1, g2⟩ := fill_rep (C := C) (W := W) (h := h) (fun j => some (j * P.cellsOf e, P.cellsOf e)) a.eval (evA t) (evA_rep hρ) parts.toList z cs zv.cells (zero_cells (e := ty) z2) hf
  refine wp_nop I hK (u := .agg us') ?_ ⟨us'.toList, by simp, by simpa using g2.1, fun j x hx => ?_⟩
  · simp [execOp, ho, Instr.build, z1, run_underlying hu, run_sizeOf' hs, g1]
  · have := g2.2 j x hx
    rwa [Array.getD_eq_getD_getElem?, ← Array.getElem?_toList] at this
include hi
/-- A new block of closed cells. -/
theorem Inv.newRow (us : List Value) (ty : TypeId) :
    Inv P { C with S := fun b q => C.S b q ∨ (b = W.heap.size ∧ q < us.length) } h (W.alloc (.cells us.toArray ty)) B ∧
    Le C h W { C with S := fun b q => C.S b q ∨ (b = W.heap.size ∧ q < us.length) } h (W.alloc (.cells us.toArray ty)) := by
  refine I.grow _ (fun b hb => heap_alloc_old W _ b hb) (by simp) (fun _ _ hs => .inl hs) (fun b q hs => ?_) (fun b q hs => ?_)
  · rcases hs with hs | ⟨rfl, _⟩
    · exact .inl hs
    · exact .inr (Nat.le_refl _)
  · rcases hs with hs | ⟨rfl, hq⟩
    · rw [cell_of_heap (heap_alloc_old W _ b (cell_lt (I.has b q hs)))]; exact I.has b q hs
    · rw [cell_of_row _ _ _ _ _ _ (heap_alloc_new W _)]; simp [hq]
theorem st_emptySlice {ty e : TypeId} (ho : o.op = .buildSlice ty 0 #[]) (he : sliceElem P ty = some e) (hK : Next1 P C h W B i (.sl .zero []) .nop o a K) : o.wp P a W K Q := by
  obtain ⟨hu, hs⟩ := sliceElem_spec he
  obtain ⟨I', l⟩ := I.grow (W' := W.alloc (.cells #[] e)) C.S (fun b hb => heap_alloc_old W _ b hb) (by simp) (fun _ _ hs => hs) (fun _ _ hs => .inl hs)
    (fun b q hs => by rw [cell_of_heap (heap_alloc_old W _ b (cell_lt (I.has b q hs)))]; exact I.has b q hs)
  refine wp_value (u := .slice (some ⟨W.heap.size, 0, none⟩) 0 0) (W' := W.alloc (.cells #[] e)) ?_ (hK _ _ C ⟨rfl, _, rfl⟩ I' l ((Below.refl _ _).alloc I.base _))
  have h0 : (Array.map (fun (x : Nat) => (default : Value)) (Array.range 0)) = #[] := by apply Array.ext'; simp
  simp [execOp, ho, Instr.buildSlice, run_underlying hu, run_sizeOf' hs, Instr.fill, newRow, h0]
theorem st_buildSlice {ty e : TypeId} {len : Nat} {parts : Array (Nat × Operand)} {cs : List AV} (ho : o.op = .buildSlice ty len parts) (he : sliceElem P ty = some e) (hlen : len ≠ 0)
    (hf : fillA (fun j => some (j * P.cellsOf e, P.cellsOf e)) (List.replicate (len * P.cellsOf e) .bad) (parts.toList.map fun (j, x) => (j, evA t x)) = some cs)
    (h0 : 0 < P.cellsOf e) (hm : len * P.cellsOf e ≤ 1000) (hz : (zeroC P e).isSome = true) (hzl : ((zeroC P e).map List.length) = some (P.cellsOf e)) (hp : cs.all pure0 = true)
    (hK : Next1 P C h W B i (.sl (.tag i) (chunks len (P.cellsOf e) (cs.map forget0))) (.new (.live e (P.cellsOf e) len)) o a K) : o.wp P a W K Q := by
  obtain ⟨hu, hs⟩ := sliceElem_spec he
  obtain ⟨zc, hzc⟩ := Option.isSome_iff_exists.1 hz
  obtain ⟨zv, z1, z2, _⟩ := run_zeroValue' hzc W
  have zs : zv.cells.size = P.cellsOf e := by
    rw [hzc] at hzl
    simp only [Option.map_some, Option.some.injEq] at hzl
    rw [← hzl, ← z2]; simp
  have hn0 : len * P.cellsOf e ≠ 0 := Nat.mul_ne_zero hlen (by omega)
  let z0 : Array Value := (Array.range (len * P.cellsOf e)).map (zv.cells[· % zv.cells.size]!)
  obtain ⟨us', g1, g2⟩ := fill_rep (C := C) (W := W) (h := h) (fun j => some (j * P.cellsOf e, P.cellsOf e)) a.eval (evA t) (evA_rep hρ) parts.toList
    (List.replicate (len * P.cellsOf e) .bad) cs z0 ⟨by simp [z0], fun j x hx => by
      rw [List.getElem?_replicate] at hx
      split at hx
      · simp only [Option.some.injEq] at hx; subst hx; exact Rep.any _
      · cases hx⟩ hf
  have hcl : cs.length = len * P.cellsOf e := by
    have key : ∀ (parts : List (Nat × AV)) (c c' : List AV), fillA (fun j => some (j * P.cellsOf e, P.cellsOf e)) c parts = some c' → c'.length = c.length := by
      intro parts
      induction parts with
      | nil => intro c c' hq; simp only [fillA, Option.some.injEq] at hq; rw [hq]
      | cons q parts ih =>
        intro c c' hq
        simp only [fillA] at hq
        cases hv : cellsA q.2 with
        | none => rw [hv] at hq; cases hq
        | some vc =>
          rw [hv] at hq
          simp only at hq
          split at hq
          · rename_i hcc; rw [ih _ _ hq, splice_length hcc.2]
          · cases hq
    rw [key _ _ _ hf]; simp
  have husz : us'.size = len * P.cellsOf e := by rw [g2.1, hcl]
  obtain ⟨I1, l1⟩ := I.newRow hρ hi us'.toList e
  have hown : (W.alloc (.cells us'.toList.toArray e)).ownsRow B e (P.cellsOf e) (.slice (some ⟨W.heap.size, 0, none⟩) len len) len us'.toList := by
    refine ⟨by simp [husz], .inr ⟨W.heap.size, len, us', rfl, I.base, by simpa using heap_alloc_new W _, Nat.le_refl _, ?_, by rw [husz], ?_⟩⟩
    · have h1 : len ≤ len * P.cellsOf e := Nat.le_mul_of_pos_right _ h0
      have h2 : len ≤ 9223372036854775807 := by omega
      exact h2
    · rw [← husz, ← Array.length_toList, List.take_length]
  have happ : AppV P (fun b q => C.S b q ∨ (b = W.heap.size ∧ q < us'.toList.length)) (W.alloc (.cells us'.toList.toArray e)) B e len (.slice (some ⟨W.heap.size, 0, none⟩) len len) := by
    refine .inr ⟨⟨_, _, hown⟩, fun g hg q hq hs => ?_⟩
    have hgb : g = W.heap.size := by
      cases len with
      | zero => exact absurd rfl hlen
      | succ m => simpa [ownBlk] using hg.symm
    subst hgb
    rcases hs with hs | ⟨_, hs⟩
    · exact absurd (cell_lt (I.has _ _ hs)) (Nat.lt_irrefl _)
    · simp at hs; omega
  obtain ⟨I2, l2⟩ := I1.newLive hi e len _ happ (fun g hg => by
    have hgb : g = W.heap.size := by
      cases len with
      | zero => exact absurd rfl hlen
      | succ m => simpa [ownBlk] using hg.symm
    refine ⟨fun id hid => ?_, fun ht => ?_⟩
    · have := (I.own_lt (id := id) (b := g) (by cases hh : h id <;> rw [hh] at hid <;> simpa [HO.ownBlock] using hid)).2
      omega
    · have := (I.tn g ht).1
      omega)
  refine wp_value (u := .slice (some ⟨W.heap.size, 0, none⟩) len len) (W' := W.alloc (.cells us'.toList.toArray e)) ?_ (hK _ _ _ ?_ I2 (l1.trans l2) ((Below.refl _ _).alloc I.base _))
  · have hmm : ¬ (16777216 < len * P.cellsOf e) := by omega
    simp [execOp, ho, Instr.buildSlice, run_underlying hu, run_sizeOf' hs, hmm, hn0, z1, newRow]
    have g1' : Instr.fill (fun j => some (j * P.cellsOf e, P.cellsOf e)) z0 (parts.toList.map fun x => (x.1, a.eval x.2)) = some us' := g1
    simp only [z0] at g1'
    rw [g1']
    simp
  · have hlc : (chunks len (P.cellsOf e) (cs.map forget0)).length = len := by simp [chunks]
    have hg := heap_alloc_new W (.cells us'.toList.toArray e)
    have key : Rep (fun b q => C.S b q ∨ (b = W.heap.size ∧ q < us'.toList.length)) (W.alloc (.cells us'.toList.toArray e)) (.sl .no (chunks len (P.cellsOf e) (cs.map forget0)))
        (.slice (some ⟨W.heap.size, 0, none⟩) (chunks len (P.cellsOf e) (cs.map forget0)).length len) := by
      refine .sl _ (P.cellsOf e) _ 0 len (fun j q => us'.getD (j * P.cellsOf e + q) Go.undef) (by rw [hlc]; exact Nat.le_refl _) (chunks_len I hρ (by simpa using hcl)) (fun j q y hy => ?_) (fun j q y hy => ?_)
      · obtain ⟨c1, c2, c3⟩ := chunks_get I hρ hy
        rw [List.getElem?_map] at c3
        obtain ⟨x, hx, rfl⟩ := Option.map_eq_some_iff.1 c3
        have hlt := (List.getElem?_eq_some_iff.1 hx).1
        rw [Nat.zero_add]
        refine ⟨.inr ⟨rfl, by simp; omega⟩, ?_⟩
        rw [cell_of_row _ _ _ _ _ _ hg]
        simp [Array.getD_eq_getD_getElem?, Array.getElem?_eq_getElem (show j * P.cellsOf e + q < us'.size by omega)]
      · obtain ⟨c1, c2, c3⟩ := chunks_get I hρ hy
        rw [List.getElem?_map] at c3
        obtain ⟨x, hx, rfl⟩ := Option.map_eq_some_iff.1 c3
        exact ((g2.2 _ x hx).pure (List.all_eq_true.1 hp x (List.mem_of_getElem? hx))).mono l1.clS l1.clW
    rw [hlc] at key
    refine ⟨key, ?_⟩
    have hup : (Eff.new (.live e (P.cellsOf e) len)).app' i h i = .live e (P.cellsOf e) len := upd_self i _
    rw [hup]
    exact ⟨hlc.symm, by simp, chunks_len I hρ (by simpa using hcl)⟩
end ops
end
theorem run_append_room' {P : Program} (w : World) (t ty e te : TypeId) (i : TypeInfo) (ht : P.underlying t = some (.slice e)) (hi : P.info? e = some i)
    (g sLen sCap : Nat) (cur : Array Value) (hg : w.heap[g]? = some (.cells cur te (0, 0)))
    (a : Addr) (m c : Nat) (news : List Value) (hl : news.length = m * i.size) (hnews : ∀ j u, news[j]? = some u → w.cell? (a.add j) = some u) (h1 : ∀ u ∈ news, u.oneCell' = true)
    (hroom : sLen + m ≤ sCap) (hfit : sLen * i.size + news.length ≤ cur.size) :
    (Builtin.append_ #[t, t] ty #[.slice (some ⟨g, 0, none⟩) sLen sCap, .slice (some a) m c]).run P w =
      .ok (.slice (some ⟨g, 0, none⟩) (sLen + m) sCap) (w.setRow g (cur.toList.take (sLen * i.size) ++ news ++ cur.toList.drop (sLen * i.size + news.length)).toArray) := by
  have hf := run_firstCells_some (P := P) w i.size m a m c news hl hnews
  have hst := run_storeCells_at P g (sLen * i.size) te news 0 cur w hg (by simpa using hfit) h1
  simp only [Nat.add_zero] at hst
  simp [Builtin.append_, run_underlying ht, sizeOf, typeInfo, hi, Builtin.lenOf, hroom, hf, Addr.add_lit, hst]
section
variable {P : Program} {C : Ctx} {h : AHeap} {W : World} {B : Nat}
variable {i : Nat} {v : AV} {d : Eff} {o : Oper} {a : Act} {t : Nat → AV} {K : Act → World → Prop} {Q : Exit → Act → World → Prop}
/-- A block of nobody's is written where nothing is closed. -/
theorem Inv.rewrite (I : Inv P C h W B) {g : Nat} {cur cur' : Array Value} {ty : TypeId} (hn : ∀ id, (h id).ownBlock C id ≠ some g) (htg : ¬ C.T g) (hB : B ≤ g) (hg : W.heap[g]? = some (.cells cur ty (0, 0)))
    (hsz : cur'.size = cur.size) (hk : ∀ q, C.S g q → cur'[q]? = cur[q]?) (hi : Nat) (hhi : hi ≤ cur.size) :
    Inv P { C with S := fun b q => C.S b q ∨ (b = g ∧ q < hi) } h (W.setRow g cur') B ∧ Le C h W { C with S := fun b q => C.S b q ∨ (b = g ∧ q < hi) } h (W.setRow g cur') ∧ Below B W (W.setRow g cur') := by
  have ho : ∀ b, b ≠ g → (W.setRow g cur').heap[b]? = W.heap[b]? := fun b hb => setRow_other W g b _ hb
  have hg' := setRow_heap W g cur cur' ty (0, 0) hg
  have hz : (W.setRow g cur').heap.size = W.heap.size := setRow_size _ _ _
  have hcell : ∀ b q, C.S b q → (W.setRow g cur').cell? ⟨b, q, none⟩ = W.cell? ⟨b, q, none⟩ := fun b q hs => by
    by_cases e : b = g
    · subst e
      rw [cell_of_row _ _ _ _ _ _ hg', cell_of_row _ _ _ _ _ _ hg, hk q hs]
    · exact cell_of_heap (ho b e)
  have l : Le C h W { C with S := fun b q => C.S b q ∨ (b = g ∧ q < hi) } h (W.setRow g cur') := ⟨fun _ _ hs => .inl hs, hcell, fun _ => HOle.refl _, fun _ _ => rfl, fun _ _ => rfl, rfl, rfl, rfl, fun b hb => ho b fun e => htg (e ▸ hb), fun b q hs => hs.imp id fun (e : b = g ∧ q < hi) (ht : C.T b) => htg (e.1 ▸ ht)⟩
  refine ⟨⟨fun b q hs => ?_, by rw [hz]; exact I.base, fun id cs hp => ?_, fun id cs hp q hs => ?_, fun id cs hp => ?_, fun t e sz n ht => ?_, I.apart, fun b q hs => ?_, fun b hb => ⟨by rw [hz]; exact (I.tn b hb).1, (I.tn b hb).2⟩, I.mn, fun b o h => .inl (I.ss b o h), I.tb.keep fun k hk' _ => ho k (by omega), fun t e sz xs ht => (by
    refine (I.fr t e sz xs ht).keep (fun g' _ hv => ho g' fun e' => ?_) (fun _ _ h => .inl h) hcell (fun g' hv q hs => ?_)
    · subst e'; exact hn t (by rw [ht]; exact hv)
    · rcases hs with hs | ⟨e', _⟩
      · exact hs
      · subst e'; exact absurd (by rw [ht]; exact hv) (hn t))⟩, l, ⟨rfl, rfl, rfl, by rw [hz]; exact Nat.le_refl _, fun k hk' => ho k (by omega), .inr (Nat.le_refl _)⟩⟩
  · rcases hs with hs | ⟨rfl, hq⟩
    · rw [hcell b q hs]; exact I.has b q hs
    · rw [cell_of_row _ _ _ _ _ _ hg']; simp; omega
  · obtain ⟨us, ty', h1, h2, h3, h4⟩ := I.box id cs hp
    have hne : C.ι id ≠ g := fun e => hn id (by cases hh : h id <;> rw [hh] at hp <;> simp_all [HO.peek, HO.ownBlock])
    exact ⟨us, ty', by rw [ho _ hne]; exact h1, h2, h3, fun j x hx => (h4 j x hx).le l⟩
  · rcases hs with hs | ⟨e, _⟩
    · exact I.unsealed id cs hp q hs
    · exact hn id (by rw [hp, ← e]; rfl)
  · exact fun q hq => .inl (I.isSealed id cs hp q hq)
  · refine ⟨(I.live t e sz n ht).1, (I.live t e sz n ht).2.keep (fun g' _ hv => ho g' fun e' => ?_) (fun g' hv q hs => ?_)⟩
    · subst e'; exact hn t (by rw [ht]; exact hv)
    · rcases hs with hs | ⟨e', _⟩
      · exact hs
      · subst e'; exact absurd (by rw [ht]; exact hv) (hn t)
  · rcases hs with hs | ⟨rfl, _⟩
    · exact I.news b q hs
    · exact .inr hB
/-- A list of elements, cell by cell. -/
def flatV (sz m : Nat) (uf : Nat → Nat → Value) : List Value := (List.range (m * sz)).map fun p => uf (p / sz) (p % sz)
theorem getx_some {xs : List (List AV)} {sz : Nat} (hsz : ∀ e ∈ xs, e.length = sz) {i j : Nat} (hi : i < xs.length) (hj : j < sz) : ∃ x, getx xs i j = some x := by
  have h1 : (xs[i]).length = sz := hsz _ (List.getElem_mem hi)
  exact ⟨(xs[i])[j]'(by omega), by simp [getx, List.getElem?_eq_getElem hi, List.getElem?_eq_getElem (show j < (xs[i]).length by omega)]⟩
theorem getx_lt {xs : List (List AV)} {sz : Nat} (hsz : ∀ e ∈ xs, e.length = sz) {i j : Nat} {x : AV} (hx : getx xs i j = some x) : i < xs.length ∧ j < sz := by
  unfold getx at hx
  obtain ⟨e, he, hj⟩ := Option.bind_eq_some_iff.1 hx
  have h1 := hsz e (List.mem_of_getElem? he)
  have h2 := (List.getElem?_eq_some_iff.1 hj).1
  exact ⟨(List.getElem?_eq_some_iff.1 he).1, by omega⟩
theorem getx_append {xs ys : List (List AV)} {i j : Nat} {x : AV} (hx : getx (xs ++ ys) i j = some x) : getx xs i j = some x ∨ (xs.length ≤ i ∧ getx ys (i - xs.length) j = some x) := by
  unfold getx at hx ⊢
  rw [List.getElem?_append] at hx
  split at hx
  · exact .inl hx
  · exact .inr ⟨by omega, hx⟩
theorem flat_idx {sz i j : Nat} (hj : j < sz) : (i * sz + j) / sz = i ∧ (i * sz + j) % sz = j := by
  have h0 : 0 < sz := by omega
  constructor
  · rw [Nat.mul_comm, Nat.mul_add_div h0, Nat.div_eq_of_lt hj]; rfl
  · rw [Nat.mul_comm, Nat.mul_add_mod, Nat.mod_eq_of_lt hj]
theorem flat_lt {sz m i j : Nat} (hi : i < m) (hj : j < sz) : i * sz + j < m * sz := by
  have : (i + 1) * sz ≤ m * sz := Nat.mul_le_mul_right _ (by omega)
  rw [Nat.add_mul] at this
  omega
/-- The cells of a slice that is read. -/
theorem flat_news {S : Nat → Nat → Prop} {ys : List (List AV)} {b off sz : Nat} {uf : Nat → Nat → Value} (hsz : ∀ e ∈ ys, e.length = sz)
    (hcell : ∀ i j x, getx ys i j = some x → S b (off + i * sz + j) ∧ W.cell? ⟨b, off + i * sz + j, none⟩ = some (uf i j)) :
    ∀ p u, (flatV sz ys.length uf)[p]? = some u → W.cell? ((⟨b, off, none⟩ : Addr).add p) = some u := by
  intro p u hp
  unfold flatV at hp
  rw [List.getElem?_map] at hp
  obtain ⟨q, hq, rfl⟩ := Option.map_eq_some_iff.1 hp
  obtain ⟨hlt, rfl⟩ := List.getElem?_eq_some_iff.1 hq
  simp only [List.length_range] at hlt
  simp only [List.getElem_range]
  have h0 : 0 < sz := Nat.pos_of_ne_zero fun e => by subst e; simp at hlt
  have h1 : p / sz < ys.length := (Nat.div_lt_iff_lt_mul h0).2 hlt
  have h2 : p % sz < sz := Nat.mod_lt _ h0
  obtain ⟨x, hx⟩ := getx_some hsz h1 h2
  have := (hcell _ _ x hx).2
  rw [addr_add]
  rwa [show off + p / sz * sz + p % sz = off + p by have := Nat.div_add_mod p sz; rw [Nat.mul_comm] at this; omega] at this
theorem flat_one {S : Nat → Nat → Prop} {ys : List (List AV)} {sz : Nat} {uf : Nat → Nat → Value} (hsz : ∀ e ∈ ys, e.length = sz) (ha : ∀ y ∈ ys, y.all isAtom = true)
    (hrep : ∀ i j x, getx ys i j = some x → Rep S W x (uf i j)) : ∀ u ∈ flatV sz ys.length uf, u.oneCell' = true := by
  intro u hu
  obtain ⟨p, hp, rfl⟩ := List.mem_map.1 hu
  have hlt := List.mem_range.1 hp
  have h0 : 0 < sz := Nat.pos_of_ne_zero fun e => by subst e; simp at hlt
  have h1 : p / sz < ys.length := (Nat.div_lt_iff_lt_mul h0).2 hlt
  have h2 : p % sz < sz := Nat.mod_lt _ h0
  obtain ⟨x, hx⟩ := getx_some hsz h1 h2
  refine (hrep _ _ x hx).atom ?_
  unfold getx at hx
  obtain ⟨e, he, hj⟩ := Option.bind_eq_some_iff.1 hx
  exact List.all_eq_true.1 (ha e (List.mem_of_getElem? he)) x (List.mem_of_getElem? hj)
theorem flat_len (sz m : Nat) (uf : Nat → Nat → Value) : (flatV sz m uf).length = m * sz := by simp [flatV]
theorem flat_get {sz m i j : Nat} (uf : Nat → Nat → Value) (hi : i < m) (hj : j < sz) : (flatV sz m uf)[i * sz + j]? = some (uf i j) := by
  unfold flatV
  rw [List.getElem?_map, List.getElem?_range (flat_lt hi hj)]
  simp [(flat_idx (i := i) hj).1, (flat_idx (i := i) hj).2]
/-- A row whose cells are those of two lists of elements stands for both, one behind the other. -/
theorem rep_two {S : Nat → Nat → Prop} {W' : World} {xs ys : List (List AV)} {g cap sz : Nat} {cur : Array Value} {ty : TypeId} {f f' : Nat → Nat → Value} (hg : W'.heap[g]? = some (.cells cur ty (0, 0)))
    (hx : ∀ e ∈ xs, e.length = sz) (hy : ∀ e ∈ ys, e.length = sz) (hcur : cur.toList.take ((xs.length + ys.length) * sz) = flatV sz xs.length f ++ flatV sz ys.length f')
    (hS : ∀ q, q < (xs.length + ys.length) * sz → S g q) (hcap : xs.length + ys.length ≤ cap)
    (rx : ∀ i j x, getx xs i j = some x → Rep S W' x (f i j)) (ry : ∀ i j x, getx ys i j = some x → Rep S W' x (f' i j)) :
    Rep S W' (.sl .no (xs ++ ys)) (.slice (some ⟨g, 0, none⟩) (xs.length + ys.length) cap) := by
  rw [← List.length_append]
  have hxy : ∀ e ∈ xs ++ ys, e.length = sz := fun e he => (List.mem_append.1 he).elim (hx e) (hy e)
  have hcell : ∀ q u, (flatV sz xs.length f ++ flatV sz ys.length f')[q]? = some u → W'.cell? ⟨g, q, none⟩ = some u := fun q u hq => by
    rw [cell_of_row _ _ _ _ _ _ hg, ← Array.getElem?_toList]
    rw [← hcur, List.getElem?_take] at hq
    split at hq
    · exact hq
    · cases hq
  refine .sl _ sz g 0 cap (fun i j => if i < xs.length then f i j else f' (i - xs.length) j) (by rw [List.length_append]; exact hcap) hxy (fun i j x hij => ?_) (fun i j x hij => ?_)
  · obtain ⟨h1, h2⟩ := getx_lt hxy hij
    rw [List.length_append] at h1
    rw [Nat.zero_add]
    refine ⟨hS _ (flat_lt h1 h2), hcell _ _ ?_⟩
    rw [List.getElem?_append, flat_len]
    by_cases hlt : i < xs.length
    · rw [if_pos (flat_lt hlt h2), if_pos hlt]
      exact flat_get f hlt h2
    · have hge : xs.length * sz ≤ i * sz := Nat.mul_le_mul_right _ (by omega)
      rw [if_neg (by omega), if_neg hlt, show i * sz + j - xs.length * sz = (i - xs.length) * sz + j by rw [Nat.sub_mul]; omega]
      exact flat_get f' (by omega) h2
  · by_cases hlt : i < xs.length
    · simp only [if_pos hlt]
      rcases getx_append hij with h1 | ⟨h1, _⟩
      · exact rx i j x h1
      · omega
    · simp only [if_neg hlt]
      rcases getx_append hij with h1 | ⟨_, h1⟩
      · exact absurd (getx_lt hx h1).1 hlt
      · exact ry _ j x h1
def killH (h : AHeap) : Option Nat → AHeap
  | none => h
  | some t => upd h t (killO (h t))
theorem Inv.killOpt (I : Inv P C h W B) (k : Option Nat) : Inv P C (killH h k) W B ∧ Le C h W C (killH h k) W := by
  cases k with
  | none => exact ⟨I, .refl _ _ _⟩
  | some t => exact I.kill t
section ops
variable (I : Inv P C h W B) (hρ : ∀ n, RepT C W h (t n) (a.tmps.getD n Go.undef)) (hi : h i = .none)
include I hρ hi
theorem append_fin {kill : Option Nat} {e : TypeId} {n : Nat} {zs : List (List AV)} {C2 : Ctx} {W2 : World} {u : Value} (hik : kill ≠ some i) (hr : (execOp a.eval o).run P W = .ok (.value u) W2)
    (I2 : Inv P C2 (killH h kill) W2 B) (l2 : Le C (killH h kill) W C2 (killH h kill) W2) (hB : Below B W W2) (ha : AppV P C2.S W2 B e n u)
    (hn : ∀ g, ownBlk u = some g → (∀ id, (killH h kill id).ownBlock C2 id ≠ some g) ∧ ¬ C2.T g) (hrep : Rep C2.S W2 (.sl .no zs) u) (hzn : n = zs.length) (hz : ∀ x ∈ zs, x.length = P.cellsOf e)
    (hK : Next1 P C h W B i (.sl (.tag i) zs) (.app kill (.live e (P.cellsOf e) n)) o a K) : o.wp P a W K Q := by
  have hik' : killH h kill i = .none := by
    cases kill with
    | none => exact hi
    | some t => exact (upd_ne _ (fun e => hik (by rw [e]))).trans hi
  obtain ⟨I3, l3⟩ := I2.newLive hik' e n u ha hn
  have happ : (Eff.app kill (.live e (P.cellsOf e) n)).app' i h = upd (killH h kill) i (.live e (P.cellsOf e) n) := by cases kill <;> rfl
  refine wp_value hr (hK u W2 _ ?_ (by rw [happ]; exact I3) (by rw [happ]; exact ((I.killOpt kill).2.trans l2).trans l3) hB)
  refine ⟨hrep.le l3, ?_⟩
  rw [happ, upd_self]
  exact ⟨hzn, by simp, hz⟩
/-- A new row holds both. -/
theorem append_new {kill : Option Nat} {e : TypeId} {xs ys : List (List AV)} {cap : Nat} {news olds : List Value} {f f' : Nat → Nat → Value} {zeros : Array Value} (hik : kill ≠ some i)
    (hr : (execOp a.eval o).run P W = .ok (.value (.slice (some ⟨W.heap.size, 0, none⟩) (xs.length + ys.length) cap)) (W.drew.alloc (.cells (olds.toArray ++ news.toArray ++ zeros) e)))
    (h0 : 0 < P.cellsOf e) (hx : ∀ e' ∈ xs, e'.length = P.cellsOf e) (hy : ∀ e' ∈ ys, e'.length = P.cellsOf e) (ho : olds = flatV (P.cellsOf e) xs.length f) (hnw : news = flatV (P.cellsOf e) ys.length f')
    (hcap : xs.length + ys.length ≤ cap) (hm : cap ≤ maxLen) (hzs : zeros.size = (cap - (xs.length + ys.length)) * P.cellsOf e)
    (rx : ∀ i j x, getx xs i j = some x → Rep C.S W x (f i j)) (ry : ∀ i j x, getx ys i j = some x → Rep C.S W x (f' i j))
    (hK : Next1 P C h W B i (.sl (.tag i) (xs ++ ys)) (.app kill (.live e (P.cellsOf e) (xs.length + ys.length))) o a K) : o.wp P a W K Q := by
  obtain ⟨I1, l1⟩ := I.killOpt kill
  obtain ⟨I2, l2⟩ := I1.heap (W' := W.drew) rfl
  have hlen : (olds ++ news).length = (xs.length + ys.length) * P.cellsOf e := by rw [List.length_append, ho, hnw, flat_len, flat_len, Nat.add_mul]
  have hcs : (olds.toArray ++ news.toArray ++ zeros).size = cap * P.cellsOf e := by
    rw [Array.size_append, Array.size_append, List.size_toArray, List.size_toArray, ← List.length_append, hlen, hzs, ← Nat.add_mul]
    congr 1; omega
  have htake : (olds.toArray ++ news.toArray ++ zeros).toList.take ((xs.length + ys.length) * P.cellsOf e) = olds ++ news := by
    simp only [Array.toList_append]
    rw [← hlen]; exact List.take_left
  obtain ⟨I3, l3⟩ := I2.grow (W' := W.drew.alloc (.cells (olds.toArray ++ news.toArray ++ zeros) e)) (fun b q => C.S b q ∨ (b = W.heap.size ∧ q < (xs.length + ys.length) * P.cellsOf e))
    (fun b hb => heap_alloc_old W.drew _ b hb) (by simp) (fun _ _ hs => .inl hs) (fun b q hs => by
      rcases hs with hs | ⟨rfl, _⟩
      · exact .inl hs
      · exact .inr (Nat.le_refl _)) (fun b q hs => by
      rcases hs with hs | ⟨rfl, hq⟩
      · rw [cell_of_heap (heap_alloc_old W.drew _ b (cell_lt (I.has b q hs)))]; exact I.has b q hs
      · have := heap_alloc_new W.drew (.cells (olds.toArray ++ news.toArray ++ zeros) e)
        rw [show W.heap.size = W.drew.heap.size from rfl, cell_of_row _ _ _ _ _ _ this]
        have h2 : (xs.length + ys.length) * P.cellsOf e ≤ cap * P.cellsOf e := Nat.mul_le_mul_right _ hcap
        rw [Array.getElem?_eq_getElem (by omega)]; rfl)
  have hg := heap_alloc_new W.drew (.cells (olds.toArray ++ news.toArray ++ zeros) e)
  have hown : ∀ g, ownBlk (.slice (some ⟨W.heap.size, 0, none⟩) (xs.length + ys.length) cap) = some g → g = W.heap.size := fun g hg => by
    cases cap with
    | zero => simp [ownBlk] at hg
    | succ c => simpa [ownBlk] using hg.symm
  refine append_fin I hρ hi (n := xs.length + ys.length) hik hr I3 (l2.trans l3) (((Below.refl B W).drew).alloc I.base _) ?_ ?_ ?_ (by simp) ?_ hK
  · refine .inr ⟨⟨_, olds ++ news, hlen, .inr ⟨W.heap.size, cap, _, rfl, I.base, hg, hcap, hm, hcs, htake⟩⟩, fun g hg' q hq hs => ?_⟩
    have := hown g hg'; subst this
    rcases hs with hs | ⟨_, hs⟩
    · exact absurd (cell_lt (I.has _ _ hs)) (Nat.lt_irrefl _)
    · omega
  · intro g hg'
    have := hown g hg'; subst this
    refine ⟨fun id hid => ?_, fun ht => ?_⟩
    · have h3 := (I1.own_lt (id := id) (b := W.heap.size) (by cases hh : killH h kill id <;> rw [hh] at hid <;> simpa [HO.ownBlock] using hid)).2
      omega
    · have h3 := (I1.tn W.heap.size ht).1
      omega
  · refine rep_two hg hx hy (by rw [htake, ho, hnw]) (fun q hq => .inr ⟨rfl, hq⟩) hcap (fun i j x hx' => ((rx i j x hx').le l2).le l3) (fun i j x hx' => ((ry i j x hx').le l2).le l3)
  · intro x hx'
    exact (List.mem_append.1 hx').elim (hx x) (hy x)
theorem st_append {ty e : TypeId} {x y : Operand} {f f' : Fl} {xs ys : List (List AV)} {kill : Option Nat} (ho : o.op = .call { callee := .builtin .append, args := #[x, y], argTypes := #[ty, ty] })
    (he : sliceElem P ty = some e) (hx : evA t x = .sl f xs) (hy : evA t y = .sl f' ys) (h0 : 0 < P.cellsOf e) (hz : ((zeroC P e).map List.length) = some (P.cellsOf e))
    (hb : (xs.length + ys.length) * P.bytesOf e ≤ 140737488355328) (hm : xs.length + ys.length ≤ 9223372036854775807) (hys : ∀ y ∈ ys, y.length = P.cellsOf e ∧ y.all isAtom = true)
    (ha : appendable h e xs.length f = some kill) (hne : ys ≠ [])
    (hK : Next1 P C h W B i (.sl (.tag i) (xs ++ ys)) (.app kill (.live e (P.cellsOf e) (xs.length + ys.length))) o a K) : o.wp P a W K Q := by
  obtain ⟨hu, hs⟩ := sliceElem_spec he
  obtain ⟨inf, hinf⟩ := Option.isSome_iff_exists.1 hs
  have hsize : inf.size = P.cellsOf e := by simp [Program.cellsOf, hinf]
  have hbytes : inf.bytes = P.bytesOf e := by simp [Program.bytesOf, hinf]
  obtain ⟨zc, hzc⟩ : ∃ zc, zeroC P e = some zc := by
    cases hq : zeroC P e with
    | none => rw [hq] at hz; cases hz
    | some zc => exact ⟨zc, rfl⟩
  have hzero : ∃ z, inf.zero = some z ∧ z.cells.size = P.cellsOf e := by
    have hzc' := hzc
    unfold zeroC at hzc'
    rw [hinf] at hzc'
    simp only [Option.bind_some] at hzc'
    cases hq : inf.zero with
    | none => rw [hq] at hzc'; cases hzc'
    | some z =>
      rw [hq] at hzc'
      simp only at hzc'
      split at hzc'
      · simp only [Option.some.injEq] at hzc'
        rw [hzc] at hz
        simp only [Option.map_some, Option.some.injEq] at hz
        exact ⟨z, rfl, by rw [← hz, ← hzc']; simp⟩
      · cases hzc'
  obtain ⟨z, hiz, hzs⟩ := hzero
  have ry := ev_slice I hρ hy
  obtain ⟨A2, c2, ey, hney⟩ := rep_sl ry
  obtain ⟨b2, off2, sz2, uf2, rfl, hc2, hsz2, hcell2, hrep2⟩ := hney hne
  have hlp : 0 < ys.length := List.length_pos_iff.2 hne
  have hsz2' : sz2 = P.cellsOf e := by rw [← hsz2 _ (List.getElem_mem hlp), (hys _ (List.getElem_mem hlp)).1]
  subst hsz2'
  have news := flat_news (W := W) (S := C.S) hsz2 hcell2
  have one := flat_one (W := W) (S := C.S) hsz2 (fun y hy => (hys y hy).2) hrep2
  have nlen := flat_len (P.cellsOf e) ys.length uf2
  have zsz : ∀ k, (Builtin.zeroCells z.cells k).size = k * P.cellsOf e := fun k => by rw [size_zeroCells, hzs]
  -- a slice without room
  have noroom : xs = [] → (∃ A, a.eval x = .slice A 0 0) → kill ≠ some i → o.wp P a W K Q := by
    rintro rfl ⟨A, ex⟩ hik
    simp only [List.length_nil, Nat.zero_add, List.nil_append] at hb hm hK
    have hge := grownCap_ge W ys.length 0 e
    cases A with
    | none =>
      have hr := run_append_nil (P := P) W ty o.type e inf z hu hinf hiz ⟨b2, off2, none⟩ ys.length c2 _ (by rw [nlen, hsize]) news hlp (by omega) (by rw [hbytes]; omega)
      refine append_new I hρ hi (xs := []) (ys := ys) (cap := grownCap W ys.length 0 e) (olds := []) (news := flatV (P.cellsOf e) ys.length uf2) (f := uf2) (f' := uf2) hik
        (zeros := Builtin.zeroCells z.cells (grownCap W ys.length 0 e - ys.length)) ?_ h0 (by simp) hsz2 (by simp [flatV]) rfl (by simpa using hge) (grownCap_le_maxLen W _ _ e (by simpa [maxLen] using (show ys.length ≤ 9223372036854775807 by omega))) (by rw [zsz]; simp) (fun i j x hx => by simp [getx] at hx) hrep2 (by simpa using hK)
      simp only [execOp, ho, resolve, invoke, builtin, Sem.run_bind, Sem.run_pure, Result.andThen_ok, List.map_toArray, List.map_cons, List.map_nil, ex, ey, hr]
      simp
    | some A =>
      have hr := run_append_grow (P := P) W ty o.type e inf z hu hinf hiz A 0 0 [] (by simp) (by simp) ⟨b2, off2, none⟩ ys.length c2 _ (by rw [nlen, hsize]) news (by omega) (by omega)
        (by rw [Nat.zero_add, nextslicecap_zero hlp, hbytes]; omega)
      simp only [Nat.zero_add] at hr
      refine append_new I hρ hi (xs := []) (ys := ys) (cap := grownCap W ys.length 0 e) (olds := []) (news := flatV (P.cellsOf e) ys.length uf2) (f := uf2) (f' := uf2) hik
        (zeros := Builtin.zeroCells z.cells (grownCap W ys.length 0 e - ys.length)) ?_ h0 (by simp) hsz2 (by simp [flatV]) rfl (by simpa using hge) (grownCap_le_maxLen W _ _ e (by simpa [maxLen] using (show ys.length ≤ 9223372036854775807 by omega))) (by rw [zsz]; simp) (fun i j x hx => by simp [getx] at hx) hrep2 (by simpa using hK)
      simp only [execOp, ho, resolve, invoke, builtin, Sem.run_bind, Sem.run_pure, Result.andThen_ok, List.map_toArray, List.map_cons, List.map_nil, ex, ey, hr]
      simp
  cases f with
  | no => simp [appendable] at ha
  | own e s => simp [appendable] at ha
  | fown e s => simp [appendable] at ha
  | zero =>
    simp only [appendable, Option.some.injEq] at ha
    subst ha
    have hr := evA_rep hρ x
    rw [hx] at hr
    exact noroom hr.1 hr.2 (by simp)
  | tag tg =>
    have hr := evA_rep hρ x
    rw [hx] at hr
    obtain ⟨hr1, hr2⟩ := hr
    simp only [appendable] at ha
    cases hlv : h tg with
    | live e' sz' n' =>
      rw [hlv] at ha hr2
      simp only at ha hr2
      split at ha
      · rename_i hc
        obtain ⟨rfl, hn'⟩ := hc
        simp only [Option.some.injEq] at ha
        subst ha
        have hik : some tg ≠ some i := fun e => by
          simp only [Option.some.injEq] at e
          subst e; rw [hi] at hlv; cases hlv
        obtain ⟨_, hθ, hxs⟩ := hr2
        obtain ⟨hszE, hap⟩ := I.live tg _ _ _ hlv
        subst hszE
        rw [hn'] at hap
        rw [← hθ] at hap
        rcases hap with ⟨hn0, A, eA⟩ | ⟨⟨ty', vs, hown⟩, hspare⟩
        · exact noroom (List.eq_nil_of_length_eq_zero hn0) ⟨A, eA⟩ hik
        · rcases hown.2 with ⟨eA, hn0⟩ | ⟨g, cap, cur, eA, hBg, hg, hncap, hcm, hcs, htake⟩
          · exact noroom (List.eq_nil_of_length_eq_zero hn0) ⟨none, eA⟩ hik
          · -- the old elements' cells
            have hvs : ∃ f : Nat → Nat → Value, vs = flatV (P.cellsOf e') xs.length f ∧ ∀ i j x, getx xs i j = some x → Rep C.S W x (f i j) := by
              obtain ⟨A1, c1, ex1, hne1⟩ := rep_sl hr1
              refine ⟨fun i j => vs.getD (i * P.cellsOf e' + j) Go.undef, ?_, fun i j x hij => ?_⟩
              · apply List.ext_getElem?
                intro p
                by_cases hp : p < xs.length * P.cellsOf e'
                · unfold flatV
                  rw [List.getElem?_map, List.getElem?_range hp]
                  simp only [Option.map_some]
                  have h4 : p / P.cellsOf e' * P.cellsOf e' + p % P.cellsOf e' = p := by have := Nat.div_add_mod p (P.cellsOf e'); rw [Nat.mul_comm] at this; omega
                  have h5 : p < vs.length := by rw [hown.1]; exact hp
                  rw [h4, List.getD_eq_getElem?_getD, List.getElem?_eq_getElem h5]; rfl
                · rw [List.getElem?_eq_none (by rw [hown.1]; omega), List.getElem?_eq_none (by rw [flat_len]; omega)]
              · obtain ⟨b, off, sz, uf, e3, hc3, hsz3, hcell3, hrep3⟩ := hne1 (fun e => by subst e; simp [getx] at hij)
                rw [eA] at ex1
                simp only [Value.slice.injEq] at ex1
                obtain ⟨ex1, _, _⟩ := ex1
                rw [e3] at ex1
                simp only [Option.some.injEq, Addr.mk.injEq] at ex1
                obtain ⟨rfl, rfl, _⟩ := ex1
                obtain ⟨h6, h7⟩ := getx_lt hsz3 hij
                have h8 : sz = P.cellsOf e' := by rw [← hsz3 _ (List.getElem_mem h6), hxs _ (List.getElem_mem h6)]
                subst h8
                have h9 := (hcell3 i j x hij).2
                rw [cell_of_row _ _ _ _ _ _ hg, Nat.zero_add] at h9
                have h10 : vs[i * P.cellsOf e' + j]? = some (uf i j) := by
                  rw [← htake, List.getElem?_take, if_pos (flat_lt h6 h7)]
                  simpa using h9
                show Rep C.S W x (vs.getD (i * P.cellsOf e' + j) Go.undef)
                rw [List.getD_eq_getElem?_getD, h10]
                exact hrep3 i j x hij
            obtain ⟨f, hvf, rx⟩ := hvs
            by_cases hroom : xs.length + ys.length ≤ cap
            · -- in place
              have hr := run_append_room' (P := P) W ty o.type e' ty' inf hu hinf g xs.length cap cur hg ⟨b2, off2, none⟩ ys.length c2 _ (by rw [nlen, hsize]) news one hroom
                (by rw [nlen, hsize, hcs, ← Nat.add_mul]; exact Nat.mul_le_mul_right _ hroom)
              rw [hsize] at hr
              obtain ⟨I1, l1⟩ := I.kill tg
              have hle2 : (xs.length + ys.length) * P.cellsOf e' ≤ cur.size := by rw [hcs]; exact Nat.mul_le_mul_right _ hroom
              have hl1 : xs.length * P.cellsOf e' + (flatV (P.cellsOf e') ys.length uf2).length ≤ cur.toList.length := by rw [nlen, ← Nat.add_mul, Array.length_toList]; exact hle2
              have hcapp : 0 < cap := by omega
              have hob : ownBlk (a.eval x) = some g := by
                rw [eA]
                cases cap with
                | zero => omega
                | succ c => rfl
              have hnob : ∀ id, (upd h tg (killO (h tg)) id).ownBlock C id ≠ some g := fun id hid => by
                by_cases e1 : id = tg
                · subst e1; rw [upd_self, hlv] at hid; cases hid
                · rw [upd_ne _ e1] at hid
                  exact e1 (I.apart id tg g hid (by rw [hlv]; show ownBlk (C.θ tg) = some g; rw [← hθ]; exact hob))
              have htg : ¬ C.T g := fun ht => (I.tn g ht).2 tg (by rw [hlv]; show ownBlk (C.θ tg) = some g; rw [← hθ]; exact hob)
              obtain ⟨I2, l2, hB2⟩ := I1.rewrite (cur' := (cur.toList.take (xs.length * P.cellsOf e') ++ flatV (P.cellsOf e') ys.length uf2 ++ cur.toList.drop (xs.length * P.cellsOf e' + (flatV (P.cellsOf e') ys.length uf2).length)).toArray)
                hnob htg hBg hg (by simp; simp at hl1; omega) (fun q hq => by
                  have hlt : q < xs.length * P.cellsOf e' := Nat.lt_of_not_le fun hge => hspare g hob q hge hq
                  rw [List.getElem?_toArray, splice_get _ _ _ _ hl1, if_neg (by omega)]; simp) ((xs.length + ys.length) * P.cellsOf e') hle2
              have hg2 := setRow_heap W g cur (cur.toList.take (xs.length * P.cellsOf e') ++ flatV (P.cellsOf e') ys.length uf2 ++ cur.toList.drop (xs.length * P.cellsOf e' + (flatV (P.cellsOf e') ys.length uf2).length)).toArray ty' (0, 0) hg
              have htake2 : (cur.toList.take (xs.length * P.cellsOf e') ++ flatV (P.cellsOf e') ys.length uf2 ++ cur.toList.drop (xs.length * P.cellsOf e' + (flatV (P.cellsOf e') ys.length uf2).length)).take ((xs.length + ys.length) * P.cellsOf e') =
                  flatV (P.cellsOf e') xs.length f ++ flatV (P.cellsOf e') ys.length uf2 := by
                rw [htake, hvf, Nat.add_mul]
                have h11 : (flatV (P.cellsOf e') xs.length f ++ flatV (P.cellsOf e') ys.length uf2).length = xs.length * P.cellsOf e' + ys.length * P.cellsOf e' := by rw [List.length_append, flat_len, flat_len]
                rw [← h11]; exact List.take_left
              refine append_fin I hρ hi (kill := some tg) (n := xs.length + ys.length) (u := .slice (some ⟨g, 0, none⟩) (xs.length + ys.length) cap) hik ?_ I2 l2 hB2 ?_ ?_ ?_ (by simp) ?_ hK
              · simp only [execOp, ho, resolve, invoke, builtin, Sem.run_bind, Sem.run_pure, Result.andThen_ok, List.map_toArray, List.map_cons, List.map_nil, eA, ey, hr]
              · refine .inr ⟨⟨_, flatV (P.cellsOf e') xs.length f ++ flatV (P.cellsOf e') ys.length uf2, by rw [List.length_append, flat_len, flat_len, Nat.add_mul], .inr ⟨g, cap, _, rfl, hBg, hg2, hroom, hcm, ?_, by simpa using htake2⟩⟩, fun g' hg' q hq hs => ?_⟩
                · simp only [List.size_toArray, List.length_append, List.length_take, List.length_drop, Array.length_toList, nlen]
                  rw [← hcs]
                  rw [Nat.add_mul] at hle2
                  omega
                · have hgg : g' = g := by
                    cases cap with
                    | zero => omega
                    | succ c => simpa [ownBlk] using hg'.symm
                  subst hgg
                  rcases hs with hs | ⟨_, hs⟩
                  · exact hspare g' hob q (by rw [Nat.add_mul] at hq; omega) hs
                  · omega
              · intro g' hg'
                have hgg : g' = g := by
                  cases cap with
                  | zero => omega
                  | succ c => simpa [ownBlk] using hg'.symm
                subst hgg
                exact ⟨hnob, htg⟩
              · exact rep_two hg2 hxs hsz2 (by simpa using htake2) (fun q hq => .inr ⟨rfl, hq⟩) hroom (fun i j x hx' => ((rx i j x hx').le l1).le l2) (fun i j x hx' => ((hrep2 i j x hx').le l1).le l2)
              · intro x hx'
                exact (List.mem_append.1 hx').elim (hxs x) (hsz2 x)
            · -- a new row
              have hoc := hown.cells (g := g) (by rw [eA]; rfl)
              have hr := run_append_grow (P := P) W ty o.type e' inf z hu hinf hiz ⟨g, 0, none⟩ xs.length cap vs (by rw [hown.1, hsize]) hoc ⟨b2, off2, none⟩ ys.length c2 _ (by rw [nlen, hsize]) news (by omega) (by omega)
                (growslice_fits (by omega) (by rw [hbytes]; exact hb))
              refine append_new I hρ hi (xs := xs) (ys := ys) (kill := some tg) (cap := grownCap W (xs.length + ys.length) cap e') hik (zeros := Builtin.zeroCells z.cells (grownCap W (xs.length + ys.length) cap e' - (xs.length + ys.length)))
                ?_ h0 hxs hsz2 hvf rfl (grownCap_ge _ _ _ _) (grownCap_le_maxLen W _ _ e' (by simpa [maxLen] using hm)) (zsz _) rx hrep2 hK
              simp only [execOp, ho, resolve, invoke, builtin, Sem.run_bind, Sem.run_pure, Result.andThen_ok, List.map_toArray, List.map_cons, List.map_nil, eA, ey, hr]
      · cases ha
    | none => rw [hlv] at ha; cases ha
    | box _ => rw [hlv] at ha; cases ha
    | sealed _ => rw [hlv] at ha; cases ha
    | fresh _ _ _ => rw [hlv] at ha; cases ha
    | dead => rw [hlv] at ha; cases ha
/-- Nothing appended. -/
theorem st_append0 {ty e : TypeId} {x y : Operand} {f f' : Fl} {xs : List (List AV)} {kill : Option Nat} (ho : o.op = .call { callee := .builtin .append, args := #[x, y], argTypes := #[ty, ty] })
    (he : sliceElem P ty = some e) (hx : evA t x = .sl f xs) (hy : evA t y = .sl f' []) (ha : appendable h e xs.length f = some kill)
    (hK : Next1 P C h W B i (.sl (.tag i) xs) (.app kill (.live e (P.cellsOf e) xs.length)) o a K) : o.wp P a W K Q := by
  obtain ⟨hu, hs⟩ := sliceElem_spec he
  have ry := ev_slice I hρ hy
  obtain ⟨A2, c2, ey, _⟩ := rep_sl ry
  have rx := ev_slice I hρ hx
  obtain ⟨A, c, ex, hne⟩ := rep_sl rx
  have hle : xs.length ≤ c := by
    cases xs with
    | nil => simp
    | cons y ys => obtain ⟨_, _, _, _, _, hc, _⟩ := hne (by simp); exact hc
  have hv := evA_rep hρ x
  rw [hx] at hv
  have hf : (Builtin.firstCells (P.cellsOf e) 0 (.slice A2 0 c2)).run P W = .ok #[] W := by
    cases A2 <;> simp [Builtin.firstCells, loadCells, loadCellsFrom]
  simp only [List.length_nil] at ey
  have hr : (Builtin.append_ #[ty, ty] o.type #[.slice A xs.length c, .slice A2 0 c2]).run P W = .ok (.slice A xs.length c) W := by
    simp only [Builtin.append_]
    simp [run_underlying hu, run_sizeOf' hs, Builtin.lenOf, hle, hf]
    cases A <;> simp [storeCells]
  have hrun : (execOp a.eval o).run P W = .ok (.value (a.eval x)) W := by
    simp only [execOp, ho, resolve, invoke, builtin, Sem.run_bind, Sem.run_pure, Result.andThen_ok, List.map_toArray, List.map_cons, List.map_nil, ex, ey, hr]
  obtain ⟨I1, l1⟩ := I.killOpt kill
  cases f with
  | no => simp [appendable] at ha
  | own e s => simp [appendable] at ha
  | fown e s => simp [appendable] at ha
  | zero =>
    simp only [appendable, Option.some.injEq] at ha
    subst ha
    obtain ⟨rfl, A', eA⟩ := hv
    exact append_fin I hρ hi (kill := none) (n := 0) (by simp) hrun I1 (.refl _ _ _) (.refl _ _) (.inl ⟨rfl, A', eA⟩) (fun g hg => by rw [eA] at hg; simp [ownBlk] at hg) (rx.le l1) rfl (by simp) hK
  | tag tg =>
    obtain ⟨hr1, hr2⟩ := hv
    simp only [appendable] at ha
    cases hlv : h tg with
    | live e' sz' n' =>
      rw [hlv] at ha hr2
      simp only at ha hr2
      split at ha
      · rename_i hc
        obtain ⟨rfl, hn'⟩ := hc
        simp only [Option.some.injEq] at ha
        subst ha
        have hik : some tg ≠ some i := fun e => by
          simp only [Option.some.injEq] at e
          subst e; rw [hi] at hlv; cases hlv
        obtain ⟨_, hθ, hxs⟩ := hr2
        obtain ⟨hszE, hap⟩ := I.live tg _ _ _ hlv
        subst hszE
        rw [hn', ← hθ] at hap
        refine append_fin I hρ hi (kill := some tg) (n := xs.length) hik hrun I1 (.refl _ _ _) (.refl _ _) hap (fun g hg => ⟨fun id hid => ?_, fun ht => (I.tn g ht).2 tg (by rw [hlv]; show ownBlk (C.θ tg) = some g; rw [← hθ]; exact hg)⟩) (rx.le l1) rfl hxs hK
        have hid' : (upd h tg (killO (h tg)) id).ownBlock C id = some g := hid
        by_cases e1 : id = tg
        · subst e1; rw [upd_self, hlv] at hid'; cases hid'
        · rw [upd_ne _ e1] at hid'
          exact e1 (I.apart id tg g hid' (by rw [hlv]; show ownBlk (C.θ tg) = some g; rw [← hθ]; exact hg))
      · cases ha
    | none => rw [hlv] at ha; cases ha
    | box _ => rw [hlv] at ha; cases ha
    | sealed _ => rw [hlv] at ha; cases ha
    | fresh _ _ _ => rw [hlv] at ha; cases ha
    | dead => rw [hlv] at ha; cases ha
end ops
end
section
variable {P : Program} {C : Ctx} {h : AHeap} {W : World} {B : Nat}
variable {i : Nat} {v : AV} {d : Eff} {o : Oper} {a : Act} {t : Nat → AV} {K : Act → World → Prop} {Q : Exit → Act → World → Prop}
theorem RepC.toT {x : AV} {u : Value} (hr : RepC C W h x u) : RepT C W h x u := by
  cases x with
  | op id off => exact hr
  | _ => unfold RepC at hr; exact RepT.of_rep (h := h) hr
theorem sealS_peek (I : Inv P C h W B) {ids : List Nat} {id : Nat} (hid : id ∈ ids) {cs : List AV} (hp : (h id).peek = some cs) : ∀ q, q < cs.length → sealS C h ids (C.ι id) q := by
  intro q hq
  cases hh : h id with
  | box cs' => rw [hh] at hp; simp only [HO.peek, Option.some.injEq] at hp; subst hp; exact .inr ⟨id, cs', hid, hh, rfl, hq⟩
  | sealed cs' => rw [hh] at hp; simp only [HO.peek, Option.some.injEq] at hp; subst hp; exact .inl (I.isSealed id cs' hh q hq)
  | none => rw [hh] at hp; cases hp
  | live _ _ _ => rw [hh] at hp; cases hp
  | fresh _ _ _ => rw [hh] at hp; cases hp
  | dead => rw [hh] at hp; cases hp
/-- What a call gives back, taken in. -/
def adoptH (i : Nat) (r : AV) (h : AHeap) : AHeap := match adoptO r with
  | none => h
  | some o => upd h i o
theorem RetRep.base {S : Nat → Nat → Prop} {B B' : Nat} {r : AV} {u : Value} (hr : RetRep P S W B' r u) (hB : B ≤ B') : RetRep P S W B r u := by
  cases r with
  | sl o xs =>
    cases o with
    | own e s => exact ⟨hr.1, hr.2.1.base hB, hr.2.2⟩
    | fown e s => exact FreshV.base hr hB
    | _ => exact hr
  | _ => exact hr
theorem RetRep.own_ge {S : Nat → Nat → Prop} {B : Nat} {r : AV} {u : Value} (hr : RetRep P S W B r u) {g : Nat} (hg : ownBlk u = some g) : adoptO r = none ∨ B ≤ g := by
  cases r with
  | sl o xs =>
    cases o with
    | own e s => exact .inr (hr.2.1.lt hg).1
    | fown e s => exact .inr (FreshV.lt hr hg).1
    | _ => exact .inl rfl
  | _ => exact .inl rfl
theorem Inv.adoptIn (I : Inv P C h W B) (hi : h i = .none) {r : AV} {u : Value} (hr : RetRep P C.S W B r u) (hn : ∀ g, ownBlk u = some g → ((∀ id, (h id).ownBlock C id ≠ some g) ∧ ¬ C.T g) ∨ adoptO r = none) :
    ∃ C', Inv P C' (adoptH i r h) W B ∧ Le C h W C' (adoptH i r h) W ∧ RepT C' W (adoptH i r h) (adopt i r) u := by
  have plain : adoptO r = none → adopt i r = r → Rep C.S W r u → ∃ C', Inv P C' (adoptH i r h) W B ∧ Le C h W C' (adoptH i r h) W ∧ RepT C' W (adoptH i r h) (adopt i r) u := fun h1 h2 h3 => by
    unfold adoptH
    rw [h1, h2]
    exact ⟨C, I, .refl _ _ _, RepT.of_rep h3⟩
  cases r with
  | sl o xs =>
    cases o with
    | own e s =>
      obtain ⟨g1, g2, rfl, g4⟩ := hr
      obtain ⟨I3, l3⟩ := I.newLive hi e xs.length u g2 (fun g hg => (hn g hg).resolve_right (by simp [adoptO]))
      refine ⟨_, I3, l3, ?_⟩
      show RepT0 { C with θ := fun j => if j = i then u else C.θ j } W (adoptH i (.sl (.own e (P.cellsOf e)) xs) h) (.sl (.tag i) xs) u
      refine ⟨g1, ?_⟩
      show (match adoptH i (.sl (.own e (P.cellsOf e)) xs) h i with | .live _ sz n => _ | .dead => True | _ => False)
      have : adoptH i (.sl (.own e (P.cellsOf e)) xs) h i = .live e (P.cellsOf e) xs.length := upd_self i _
      rw [this]
      exact ⟨rfl, by simp, g4⟩
    | fown e s =>
      obtain ⟨I3, l3⟩ := I.newFresh hi e s xs u hr (fun g hg => (hn g hg).resolve_right (by simp [adoptO]))
      refine ⟨_, I3, l3, ?_⟩
      show RepT0 { C with θ := fun j => if j = i then u else C.θ j } W (adoptH i (.sl (.fown e s) xs) h) (.fs i) u
      refine ⟨?_, by simp, ?_⟩
      · rcases FreshV.ex hr with ⟨_, A, e1⟩ | ⟨b, c, us, ty, e1, _⟩ <;> rw [e1] <;> rfl
      · show (match adoptH i (.sl (.fown e s) xs) h i with | .fresh _ _ _ => True | .dead => True | _ => False)
        have : adoptH i (.sl (.fown e s) xs) h i = .fresh e s xs := upd_self i _
        rw [this]; trivial
    | _ => exact plain rfl rfl hr
  | _ => exact plain rfl rfl hr
section ops
variable (I : Inv P C h W B) (hρ : ∀ n, RepT C W h (t n) (a.tmps.getD n Go.undef)) (hi : h i = .none)
include I hρ hi
theorem st_call {f : Operand} {args : Array Operand} {ts : Array TypeId} {g : FuncId} {caps az : List AV} {ids : List Nat} {r : AV} (ho : o.op = .call { callee := .value f, args := args, argTypes := ts })
    (hf : evA t f = .fn g caps) (hp : passAll h (args.toList.map (evA t) ++ caps) = some (az, ids)) (hfun : ∃ fn c, P.funcs[g]? = some fn ∧ fn.body = some c ∧ fn.name ≠ "runtime.NumGoroutine")
    (hs : Sound P g az r) (hK : Next1 P C h W B i (adopt i r) (.call ids (adoptO r)) o a K) : o.wp P a W K Q := by
  obtain ⟨us, ef, hul, hc⟩ : ∃ us : List Value, a.eval f = .func (.func g) #[] us.toArray ∧ us.length = caps.length ∧ ∀ j x, caps[j]? = some x → RepC C W h x (us.getD j Go.undef) := by
    have := evA_rep hρ f
    rw [hf] at this
    exact this
  obtain ⟨fn, c, hfn, hbody, hname⟩ := hfun
  have hvals : ∀ j x, (args.toList.map (evA t) ++ caps)[j]? = some x → RepT C W h x ((args.toList.map a.eval ++ us).getD j Go.undef) := by
    intro j x hx
    rw [List.getElem?_append] at hx
    rw [List.getD_eq_getElem?_getD, List.getElem?_append]
    simp only [List.length_map] at hx ⊢
    split at hx
    · rename_i hj
      rw [if_pos hj]
      rw [List.getElem?_map] at hx ⊢
      obtain ⟨y, hy, rfl⟩ := Option.map_eq_some_iff.1 hx
      rw [hy]
      exact evA_rep hρ y
    · rename_i hj
      rw [if_neg hj]
      have := hc _ x hx
      rw [List.getD_eq_getElem?_getD] at this
      exact this.toT
  have hids := passAll_ids hp
  obtain ⟨I1, l1⟩ := I.close ids
  obtain ⟨hlen, hrep⟩ := passAll_rep I (S' := sealS C h ids) (fun _ _ hs => .inl hs) _ az ids _ hvals hp (fun id hid cs hk => sealS_peek I hid hk)
  have hrun : (execOp a.eval o).run P W = .ok (.enter g (args.toList.map a.eval ++ us).toArray) W := by
    have hne : (fn.name == "runtime.NumGoroutine") = false := by simpa using hname
    have harr : args.map a.eval ++ us.toArray = (args.toList.map a.eval ++ us).toArray := by
      rw [← List.append_toArray, ← List.map_toArray, Array.toArray_toList]
    simp only [execOp, ho, resolve, ef, Deferred.ofValue, Sem.run_bind, Sem.run_pure, Result.andThen_ok, invoke, callFunc, run_program, hfn, hne]
    simp [hbody, harr]
  unfold Oper.wp
  rw [hrun]
  refine (hs (sealS C h ids) W (args.toList.map a.eval ++ us) (I.tb.mono I.base) I1.has (by simp at hlen ⊢; omega) hrep).mono ?_
  rintro e W' ⟨u, S', rfl, hB, hS, hn, hh, hr⟩
  obtain ⟨I2, l2⟩ := I1.grow S' (fun b hb => hB.block b hb) hB.size hS hn hh
  have hBB : Below B W W' := hB.mono I.base
  have hi1 : sealH h ids i = .none := by
    unfold sealH; split <;> simp [hi, sealO]
  obtain ⟨C3, I3, l3, hr3⟩ := I2.adoptIn hi1 (r := r) (u := u) (RetRep.base hr I.base) (fun g hg => by
    have h1 := RetRep.own_ge hr hg
    rcases h1 with h1 | h1
    · exact .inr h1
    · refine .inl ⟨fun id hid => ?_, fun ht => ?_⟩
      · have h2 := (I.own_lt (id := id) (b := g) (by rw [← sealH_own (ids := ids)]; exact hid)).2
        omega
      · have h2 := (I.tn g ht).1
        omega)
  have e : (Eff.call ids (adoptO r)).app' i h = adoptH i r (sealH h ids) := by unfold adoptH; cases adoptO r <;> rfl
  refine hK u W' C3 (by rw [e]; exact hr3) (by rw [e]; exact I3) (by rw [e]; exact (l1.trans l2).trans l3) hBB
/-- Every operation does in the world what it does in the machine. -/
theorem step_wp {fp : List Nat} (hs : stepR P i t h o.op v d fp) (hK : Next1 P C h W B i v d o a K) : o.wp P a W K Q := by
  cases hop : o.op with
  | move x =>
    rw [hop] at hs; obtain ⟨rfl, rfl, rfl⟩ := hs
    exact st_move I hρ (.inl hop) hK
  | assign x =>
    rw [hop] at hs; obtain ⟨rfl, rfl, rfl⟩ := hs
    exact st_move I hρ (.inr hop) hK
  | pick c x y =>
    rw [hop] at hs; obtain ⟨h1, rfl, rfl⟩ := hs
    cases hc : evA t c <;> rw [hc] at h1 <;> try exact h1.elim
    subst h1
    exact st_pick I hρ hop hc hK
  | alloc e =>
    rw [hop] at hs; obtain ⟨h1, rfl⟩ := hs
    cases hz : zeroC P e <;> rw [hz] at h1 <;> try exact h1.elim
    obtain ⟨rfl, rfl⟩ := h1
    exact st_alloc I hρ hi hop hz hK
  | box e x =>
    rw [hop] at hs; obtain ⟨h1, rfl⟩ := hs
    cases hz : cellsA (evA t x) <;> rw [hz] at h1 <;> try exact h1.elim
    obtain ⟨rfl, rfl⟩ := h1
    exact st_box I hρ hi hop hz hK
  | build ty parts =>
    rw [hop] at hs; obtain ⟨h1, rfl, rfl⟩ := hs
    split at h1
    · rename_i fs z hu hz
      split at h1
      · rename_i cs hf
        obtain ⟨h2, rfl⟩ := h1
        exact st_buildStruct I hρ hop hu hz h2 hf hK
      · exact h1.elim
    · rename_i n e z hu hz
      split at h1
      · rename_i cs hf
        obtain ⟨h2, rfl⟩ := h1
        exact st_buildArr I hρ hop hu hz h2 hf hK
      · exact h1.elim
    · exact h1.elim
  | buildSlice ty len parts =>
    rw [hop] at hs; obtain ⟨h1, rfl⟩ := hs
    split at h1
    · rename_i e he
      split at h1
      · rename_i hl
        obtain ⟨rfl, rfl, rfl⟩ := h1
        subst hl
        exact st_emptySlice I hρ hi hop he hK
      · rename_i hl
        split at h1
        · rename_i cs hf
          obtain ⟨h0, hm, hz, hzl, _, hp, rfl, rfl⟩ := h1
          exact st_buildSlice I hρ hi hop he hl hf h0 hm hz hzl hp hK
        · exact h1.elim
    · exact h1.elim
  | load ty x =>
    rw [hop] at hs; obtain ⟨hk, rfl, h1⟩ := hs
    split at h1
    · rename_i id off he
      obtain ⟨rfl, h1⟩ := h1
      split at h1
      · rename_i cs hp
        exact st_load I hρ hop hk (.inl ⟨id, off, cs, .inl he, hp, h1⟩) hK
      · exact h1.elim
    · rename_i id off he
      obtain ⟨rfl, h1⟩ := h1
      split at h1
      · rename_i cs hp
        exact st_load I hρ hop hk (.inl ⟨id, off, cs, .inr he, hp, h1⟩) hK
      · exact h1.elim
    · rename_i cs he
      exact st_load I hρ hop hk (.inr ⟨cs, he, h1.2⟩) hK
    · exact h1.elim
  | store ty x y =>
    rw [hop] at hs; obtain ⟨hk, rfl, h1⟩ := hs
    split at h1
    · rename_i id off cs hx hy
      obtain ⟨rfl, rfl, hl, ha, hb⟩ := h1
      split at hb
      · rename_i old hid
        exact st_store I hρ hop hk hx hy hl ha hid hb hK
      · exact hb.elim
    · exact h1.elim
  | nilCheck x =>
    rw [hop] at hs; obtain ⟨h1, rfl, rfl⟩ := hs
    split at h1
    · rename_i id off he
      subst h1
      exact st_nilCheck I hρ hop (.inl ⟨_, _, he⟩) (by rw [he]; exact hK)
    · rename_i cs he
      subst h1
      exact st_nilCheck I hρ hop (.inr ⟨_, he⟩) (by rw [he]; exact hK)
    · exact h1.elim
  | binOp op ty x y yt =>
    rw [hop] at hs; obtain ⟨h1, rfl, rfl⟩ := hs
    split at h1
    · rename_i k m k' n hx hy
      obtain ⟨rfl, hv⟩ := h1
      exact st_binInt I hρ hop hx hy hv hK
    · rename_i m n hx hy
      obtain ⟨hu, hv⟩ := h1
      refine st_binBool I hρ hop hx hy hu ?_ hK
      cases op <;> first | exact .inl ⟨rfl, hv⟩ | exact .inr ⟨rfl, hv⟩ | exact hv.elim
    · rename_i m n hx hy
      obtain ⟨hE, hl, hv⟩ := h1
      split at hv
      · rename_i l l' h1 h2
        refine st_binAgg I hρ hop hx hy hE hl h1 h2 ?_ hK
        cases op <;> first | exact .inl ⟨rfl, hv⟩ | exact .inr ⟨rfl, hv⟩ | exact hv.elim
      · exact hv.elim
    · exact h1.elim
  | unOp op ty x =>
    rw [hop] at hs; obtain ⟨h1, rfl, rfl⟩ := hs
    split at h1
    · rename_i b hx
      subst h1
      exact st_not I hρ hop hx hK
    · rename_i k n hx
      subst h1
      exact st_neg I hρ hop hx hK
    · exact h1.elim
  | convert s ty x =>
    rw [hop] at hs; obtain ⟨h1, rfl, rfl⟩ := hs
    split at h1
    · rename_i ds k k' n hs hk hx
      subst h1
      exact st_convert I hρ hop (by rw [hs]; rfl) hk hx hK
    · exact h1.elim
  | makeFunc fn first caps =>
    rw [hop] at hs
    cases fn with
    | func f =>
      obtain ⟨rfl, hc, rfl, rfl, rfl⟩ := hs
      exact st_makeFunc I hρ hop hc hK
    | _ => exact hs.elim
  | slice ty x lo hi' mx =>
    rw [hop] at hs
    simp only [stepR] at hs
    split at hs
    · rename_i e f xs he hx
      obtain ⟨h1, rfl, rfl⟩ := hs
      split at h1
      · subst h1
        exact st_cut0 I hρ hop he hx hK
      · split at h1
        · rename_i k l hy
          obtain ⟨h0, hl, hz, rfl⟩ := h1
          exact st_cutLo I hρ hop he hx hy h0 hl hz hK
        · exact h1.elim
      · split at h1
        · rename_i k n hy
          obtain ⟨h0, hl, rfl⟩ := h1
          exact st_cutHi I hρ hop he hx hy h0 hl hK
        · exact h1.elim
      · split at h1
        · rename_i k l k' n hy hz
          obtain ⟨h0, h2, hl, hq, rfl⟩ := h1
          exact st_cutLoHi I hρ hop he hx hy hz h0 h2 hl hq hK
        · exact h1.elim
      · split at h1
        · rename_i k l k' n hy hz
          obtain ⟨rfl, rfl, rfl⟩ := h1
          exact st_cutZero I hρ hop he hx hy hz hK
        · exact h1.elim
      · exact h1.elim
    · rename_i e id l n c sz he hx
      obtain ⟨h1, rfl, rfl⟩ := hs
      split at h1
      · split at h1
        · rename_i k b hy
          obtain ⟨h0, hl, hz, rfl⟩ := h1
          exact st_msLo I hρ hop he hx hy h0 hl hz hK
        · exact h1.elim
      · split at h1
        · rename_i k b hy
          obtain ⟨h0, hl, hz, rfl⟩ := h1
          exact st_msHi I hρ hop he hx hy h0 hl hz hK
        · exact h1.elim
      · exact h1.elim
    · split at hs
      · rename_i n e id he hx
        split at hs
        · rename_i cs hp
          obtain ⟨hl, hc, rfl, rfl, rfl⟩ := hs
          exact st_cutArr I hρ hop he hx hp hl hc hK
        · exact hs.elim
      · exact hs.elim
  | fieldAddr s x f =>
    rw [hop] at hs; obtain ⟨h1, rfl, rfl⟩ := hs
    split at h1
    · rename_i n hf
      obtain ⟨h2, rfl⟩ := h1
      refine st_fieldAddr I hρ hop hf ?_ hK
      split at h2
      · rename_i id off he; exact .inl ⟨_, _, he⟩
      · rename_i cs he; exact .inr ⟨_, he⟩
      · exact h2.elim
    · exact h1.elim
  | indexAddr ty x ix =>
    rw [hop] at hs; obtain ⟨h1, rfl, rfl⟩ := hs
    split at h1
    · rename_i f xs k j hx hix
      split at h1
      · rename_i e he
        obtain ⟨h0, h2⟩ := h1
        split at h2
        · rename_i el hel
          obtain ⟨hl, rfl⟩ := h2
          exact st_indexSlice I hρ hop hx hix he h0 hel hl hK
        · exact h2.elim
      · exact h1.elim
    · rename_i id l n c sz k j hx hix
      split at h1
      · rename_i e he
        obtain ⟨h0, hn, hz, rfl⟩ := h1
        exact st_indexMs I hρ hop hx hix he h0 hn hz hK
      · exact h1.elim
    · rename_i id off k j hx hix
      split at h1
      · rename_i n e he
        obtain ⟨h0, hn, rfl⟩ := h1
        exact st_indexArr I hρ hop hx hix he h0 hn hK
      · exact h1.elim
    · exact h1.elim
  | index ty x ix =>
    rw [hop] at hs; obtain ⟨h1, rfl, rfl⟩ := hs
    split at h1
    · rename_i n e cs k j he hx hix
      obtain ⟨h0, hn, hk, hv⟩ := h1
      exact st_index I hρ hop hx hix he h0 hn hk hv hK
    · exact h1.elim
  | extract x j =>
    rw [hop] at hs; obtain ⟨h1, rfl, rfl⟩ := hs
    split at h1
    · rename_i vs hx
      exact st_extract I hρ hop hx h1 hK
    · exact h1.elim
  | call c =>
    rw [hop] at hs
    unfold stepR at hs
    split at hs <;> rename_i heq <;> try (cases heq; done)
    · cases heq
      obtain ⟨h1, rfl, rfl⟩ := hs
      split at h1
      · rename_i f xs hx
        obtain ⟨h2, rfl⟩ := h1
        obtain ⟨e, he⟩ := Option.isSome_iff_exists.1 h2
        exact st_lenSlice I hρ hop hx he hK
      · rename_i hx
        split at h1
        · rename_i n e he
          subst h1
          exact st_lenArr I hρ hop he (fun f xs e => hx _ _ e) hK
        · exact h1.elim
    · cases heq
      obtain ⟨h1, rfl, rfl⟩ := hs
      split at h1
      · rename_i k m k' n hx hy
        subst h1
        exact st_min I hρ hop hx hy hK
      · exact h1.elim
    · cases heq
      obtain ⟨h1, rfl, rfl⟩ := hs
      split at h1
      · rename_i k m k' n hx hy
        subst h1
        exact st_max I hρ hop hx hy hK
      · exact h1.elim
    · cases heq
      split at hs
      · rename_i e f xs f' ys he hx hy
        obtain ⟨rfl, h0, hz, hb, hm, hys, h2⟩ := hs
        split at h2
        · rename_i kill ha
          obtain ⟨rfl, rfl, rfl⟩ := h2
          by_cases hne : ys = []
          · subst hne
            simp only [List.append_nil, List.length_nil, Nat.add_zero] at hK
            exact st_append0 I hρ hi hop he hx hy ha hK
          · exact st_append I hρ hi hop he hx hy h0 hz hb hm hys ha hne hK
        · exact h2.elim
      · exact hs.elim
    · cases heq
      split at hs
      · rename_i g caps hf
        split at hs
        · rename_i az ids hp
          obtain ⟨rfl, hfun, r, hr, rfl, rfl⟩ := hs
          exact st_call I hρ hi hop hf hp hfun hr hK
        · exact hs.elim
      · exact hs.elim
    · exact hs.elim
  | _ => rw [hop] at hs; exact hs.elim
end ops
end
def putA (dst : Option Tmp) (v : AV) (t : Nat → AV) : Nat → AV :=
  match dst with
  | none => t
  | some d => fun n => if n = d then v else t n
/-! ### an effect, place by place -/
def effG (d : Eff) (id : Nat) (x : HO) : HO :=
  match d with
  | .nop | .new _ | .app none _ => x
  | .app (some t) _ => if id = t then killO x else x
  | .set id' off cs => if id = id' then setO off cs x else x
  | .call ids _ => if id ∈ ids then sealO x else x
def effOwn : Eff → Option HO
  | .nop | .set _ _ _ => none
  | .new o => some o
  | .app _ o => some o
  | .call _ o => o
theorem app'_eq (d : Eff) (i : Nat) (h : AHeap) (id : Nat) : d.app' i h id = if id = i then (effOwn d).getD (effG d i (h i)) else effG d id (h id) := by
  cases d with
  | nop => by_cases e : id = i <;> simp [Eff.app', effOwn, effG, e]
  | new o => by_cases e : id = i <;> simp [Eff.app', effOwn, effG, e, upd]
  | app k o =>
    cases k with
    | none => by_cases e : id = i <;> simp [Eff.app', effOwn, effG, e, upd]
    | some t =>
      by_cases e : id = i
      · simp [Eff.app', effOwn, e, upd]
      · by_cases e2 : id = t
        · subst e2; simp [Eff.app', effG, e, upd]
        · simp [Eff.app', effG, e, e2, upd]
  | set id' off cs =>
    by_cases e : id = i <;> by_cases e2 : id = id' <;> simp_all [Eff.app', effOwn, effG, upd]
  | call ids o =>
    cases o with
    | none => by_cases e : id = i <;> simp [Eff.app', effOwn, effG, e]
    | some o => by_cases e : id = i <;> simp [Eff.app', effOwn, effG, e, upd]
def cls : HO → Nat
  | .none => 0
  | .box _ | .sealed _ => 1
  | .live _ _ _ | .dead => 2
  | .fresh _ _ _ => 3
theorem cls_effG (d : Eff) (id : Nat) (x : HO) : cls (effG d id x) = cls x := by
  cases d with
  | app k o => cases k <;> simp only [effG] <;> (try split) <;> cases x <;> rfl
  | set a b c => simp only [effG]; split <;> cases x <;> rfl
  | call a b => simp only [effG]; split <;> cases x <;> rfl
  | _ => rfl
theorem cls_none {x : HO} : cls x = 0 ↔ x = .none := by cases x <;> simp [cls]
theorem effG_sealed (d : Eff) (id : Nat) (cs : List AV) : effG d id (.sealed cs) = .sealed cs := by
  cases d with
  | app k o => cases k <;> simp only [effG] <;> (try split) <;> rfl
  | set a b c => simp only [effG]; split <;> rfl
  | call a b => simp only [effG]; split <;> rfl
  | _ => rfl
theorem effG_dead (d : Eff) (id : Nat) : effG d id .dead = .dead := by
  cases d with
  | app k o => cases k <;> simp only [effG] <;> (try split) <;> rfl
  | set a b c => simp only [effG]; split <;> rfl
  | call a b => simp only [effG]; split <;> rfl
  | _ => rfl
/-! ### kinds of operations -/
def isStore : Op → Bool
  | .store _ _ _ => true
  | _ => false
def isAppend : Op → Bool
  | .call { callee := .builtin .append, .. } => true
  | _ => false
def readsBox : Op → Bool
  | .load _ _ | .store _ _ _ | .slice _ _ _ _ _ => true
  | .call { callee := .value _, .. } => true
  | _ => false
section
variable {P : Program} {i : Nat} {t t' : Nat → AV} {h h' : AHeap} {o : Op} {v : AV} {d : Eff} {fp : List Nat}
theorem peek_cls {x : HO} {cs : List AV} (hp : x.peek = some cs) : cls x = 1 := by cases x <;> simp_all [HO.peek, cls]
theorem appendable_live {e : TypeId} {n tg : Nat} {f : Fl} (ha : appendable h e n f = some (some tg)) : ∃ e sz n, h tg = .live e sz n := by
  cases f <;> simp only [appendable, Option.some.injEq, reduceCtorEq] at ha
  rename_i tg'
  split at ha
  · rename_i hlv
    split at ha
    · simp only [Option.some.injEq] at ha; subst ha; exact ⟨_, _, _, hlv⟩
    · cases ha
  · cases ha
/-- What an operation does to places that were there, it does to those of its list; and how. -/
theorem stepR_touch (hs : stepR P i t h o v d fp) : (∀ id, id ∉ fp → ∀ x, effG d id x = x) ∧ (∀ id ∈ fp, (isAppend o = true ∧ (∃ e sz n, h id = .live e sz n) ∧ (∀ x, effG d id x = killO x)) ∨
    (isStore o = true ∧ (∃ old off cs, h id = .box old ∧ ∀ x, effG d id x = setO off cs x)) ∨
    (readsBox o = true ∧ isStore o = false ∧ (h id).peek.isSome = true ∧ ((∀ x, effG d id x = x) ∨ ∀ x, effG d id x = sealO x))) := by
  have nopc : d = .nop → fp = [] → (∀ id, id ∉ fp → ∀ x, effG d id x = x) ∧ (∀ id ∈ fp, (isAppend o = true ∧ (∃ e sz n, h id = .live e sz n) ∧ (∀ x, effG d id x = killO x)) ∨
    (isStore o = true ∧ (∃ old off cs, h id = .box old ∧ ∀ x, effG d id x = setO off cs x)) ∨
    (readsBox o = true ∧ isStore o = false ∧ (h id).peek.isSome = true ∧ ((∀ x, effG d id x = x) ∨ ∀ x, effG d id x = sealO x))) := by
    rintro rfl rfl; exact ⟨fun _ _ _ => rfl, fun id hid => by cases hid⟩
  cases o with
  | move x => exact nopc hs.2.1 hs.2.2
  | assign x => exact nopc hs.2.1 hs.2.2
  | pick c x y => exact nopc hs.2.1 hs.2.2
  | alloc e =>
    obtain ⟨h1, rfl⟩ := hs
    split at h1
    · obtain ⟨rfl, rfl⟩ := h1; exact ⟨fun _ _ _ => rfl, fun id hid => by cases hid⟩
    · exact h1.elim
  | box e x =>
    obtain ⟨h1, rfl⟩ := hs
    split at h1
    · obtain ⟨rfl, rfl⟩ := h1; exact ⟨fun _ _ _ => rfl, fun id hid => by cases hid⟩
    · exact h1.elim
  | build ty ps => exact nopc hs.2.1 hs.2.2
  | buildSlice ty len ps =>
    obtain ⟨h1, rfl⟩ := hs
    split at h1
    · split at h1
      · obtain ⟨_, _, rfl⟩ := h1; exact ⟨fun _ _ _ => rfl, fun id hid => by cases hid⟩
      · split at h1
        · obtain ⟨_, _, _, _, _, _, _, rfl⟩ := h1; exact ⟨fun _ _ _ => rfl, fun id hid => by cases hid⟩
        · exact h1.elim
    · exact h1.elim
  | load ty x =>
    obtain ⟨hk, rfl, h1⟩ := hs
    split at h1
    · rename_i id off he
      obtain ⟨rfl, h1⟩ := h1
      split at h1
      · rename_i cs hp
        refine ⟨fun _ _ _ => rfl, fun id' hid => .inr (.inr ⟨rfl, rfl, ?_, .inl fun _ => rfl⟩)⟩
        simp only [List.mem_singleton] at hid; subst hid
        rw [hp]; rfl
      · exact h1.elim
    · rename_i id off he
      obtain ⟨rfl, h1⟩ := h1
      split at h1
      · rename_i cs hp
        refine ⟨fun _ _ _ => rfl, fun id' hid => .inr (.inr ⟨rfl, rfl, ?_, .inl fun _ => rfl⟩)⟩
        simp only [List.mem_singleton] at hid; subst hid
        rw [hp]; rfl
      · exact h1.elim
    · obtain ⟨rfl, _⟩ := h1; exact ⟨fun _ _ _ => rfl, fun id hid => by cases hid⟩
    · exact h1.elim
  | store ty x y =>
    obtain ⟨hk, rfl, h1⟩ := hs
    split at h1
    · rename_i id off cs hx hy
      obtain ⟨rfl, rfl, hl, ha, hb⟩ := h1
      split at hb
      · rename_i old hid
        refine ⟨fun id' hn x => ?_, fun id' hid' => .inr (.inl ⟨rfl, old, off, cs, ?_, fun x => ?_⟩)⟩
        · simp only [List.mem_singleton] at hn
          simp [effG, hn]
        · simp only [List.mem_singleton] at hid'; subst hid'; exact hid
        · simp only [List.mem_singleton] at hid'; subst hid'; simp [effG]
      · exact hb.elim
    · exact h1.elim
  | nilCheck x => exact nopc hs.2.1 hs.2.2
  | binOp op ty x y yt => exact nopc hs.2.1 hs.2.2
  | unOp op ty x => exact nopc hs.2.1 hs.2.2
  | convert s ty x => exact nopc hs.2.1 hs.2.2
  | makeFunc fn first caps =>
    cases fn with
    | func f => exact nopc hs.2.2.2.1 hs.2.2.2.2
    | _ => exact hs.elim
  | slice ty x lo hi mx =>
    simp only [stepR] at hs
    split at hs
    · exact nopc hs.2.1 hs.2.2
    · exact nopc hs.2.1 hs.2.2
    · split at hs
      · split at hs
        · rename_i cs hp
          obtain ⟨hl, hc, rfl, rfl, rfl⟩ := hs
          refine ⟨fun id' hn x => by simp only [effG]; rw [if_neg hn], fun id' hid => .inr (.inr ⟨rfl, rfl, ?_, .inr fun x => by simp only [effG]; rw [if_pos hid]⟩)⟩
          simp only [List.mem_singleton] at hid; subst hid
          rw [hp]; rfl
        · exact hs.elim
      · exact hs.elim
  | fieldAddr s x f => exact nopc hs.2.1 hs.2.2
  | indexAddr ty x ix => exact nopc hs.2.1 hs.2.2
  | index ty x ix => exact nopc hs.2.1 hs.2.2
  | extract x j => exact nopc hs.2.1 hs.2.2
  | call c =>
    unfold stepR at hs
    split at hs <;> rename_i heq <;> try (cases heq; done)
    · exact nopc hs.2.1 hs.2.2
    · exact nopc hs.2.1 hs.2.2
    · exact nopc hs.2.1 hs.2.2
    · cases heq
      split at hs
      · obtain ⟨_, _, _, _, _, _, h2⟩ := hs
        split at h2
        · rename_i kill ha
          obtain ⟨rfl, rfl, rfl⟩ := h2
          cases kill with
          | none => exact ⟨fun _ _ _ => rfl, fun id hid => by simp at hid⟩
          | some tg =>
            refine ⟨fun id hn x => ?_, fun id hid => .inl ⟨rfl, ?_, fun x => ?_⟩⟩
            · simp only [Option.toList_some, List.mem_singleton] at hn
              simp [effG, hn]
            · simp only [Option.toList_some, List.mem_singleton] at hid; subst hid
              exact appendable_live ha
            · simp only [Option.toList_some, List.mem_singleton] at hid; subst hid
              simp [effG]
        · exact h2.elim
      · exact hs.elim
    · cases heq
      split at hs
      · split at hs
        · rename_i az ids hp
          obtain ⟨rfl, hfun, r, hr, rfl, rfl⟩ := hs
          refine ⟨fun id' hn x => by simp only [effG]; rw [if_neg hn], fun id' hid => .inr (.inr ⟨rfl, rfl, ?_, .inr fun x => by simp only [effG]; rw [if_pos hid]⟩)⟩
          obtain ⟨cs, hk, _⟩ := passAll_ids hp id' hid
          rw [hk]; rfl
        · exact hs.elim
      · exact hs.elim
    · exact hs.elim
  | _ => exact hs.elim
theorem stepR_fp_ne (hs : stepR P i t h o v d fp) : ∀ id ∈ fp, h id ≠ .none := by
  intro id hid
  rcases (stepR_touch hs).2 id hid with ⟨_, ⟨e, sz, n, h1⟩, _⟩ | ⟨_, ⟨old, off, cs, h1, _⟩⟩ | ⟨_, _, h1, _⟩
  · rw [h1]; simp
  · rw [h1]; simp
  · exact peek_ne h1
/-- A step hangs on what its operands are. -/
theorem stepR_congr_t (hs : stepR P i t h o v d fp) (he : ∀ x ∈ o.operands, evA t x = evA t' x) : stepR P i t' h o v d fp := by
  cases o with
  | move x => have := he x (by simp [Op.operands]); simp only [stepR] at hs ⊢; rwa [← this]
  | assign x => have := he x (by simp [Op.operands]); simp only [stepR] at hs ⊢; rwa [← this]
  | pick c x y =>
    have h1 := he c (by simp [Op.operands]); have h2 := he x (by simp [Op.operands]); have h3 := he y (by simp [Op.operands])
    simp only [stepR] at hs ⊢; rwa [← h1, ← h2, ← h3]
  | alloc e => exact hs
  | box e x => have := he x (by simp [Op.operands]); simp only [stepR] at hs ⊢; rwa [← this]
  | build ty ps =>
    have : (ps.toList.map fun (q : Nat × Operand) => (q.1, evA t q.2)) = ps.toList.map fun (q : Nat × Operand) => (q.1, evA t' q.2) := by
      refine List.map_congr_left fun q hq => ?_
      rw [he q.2 (by simp only [Op.operands]; rw [List.mem_toArray]; exact List.mem_map.2 ⟨q, hq, rfl⟩)]
    simp only [stepR] at hs ⊢; rwa [← this]
  | buildSlice ty len ps =>
    have : (ps.toList.map fun (q : Nat × Operand) => (q.1, evA t q.2)) = ps.toList.map fun (q : Nat × Operand) => (q.1, evA t' q.2) := by
      refine List.map_congr_left fun q hq => ?_
      rw [he q.2 (by simp only [Op.operands]; rw [List.mem_toArray]; exact List.mem_map.2 ⟨q, hq, rfl⟩)]
    simp only [stepR] at hs ⊢; rwa [← this]
  | load ty x => have := he x (by simp [Op.operands]); simp only [stepR] at hs ⊢; rwa [← this]
  | store ty x y =>
    have h1 := he x (by simp [Op.operands]); have h2 := he y (by simp [Op.operands])
    simp only [stepR] at hs ⊢; rwa [← h1, ← h2]
  | nilCheck x => have := he x (by simp [Op.operands]); simp only [stepR] at hs ⊢; rwa [← this]
  | binOp op ty x y yt =>
    have h1 := he x (by simp [Op.operands]); have h2 := he y (by simp [Op.operands])
    simp only [stepR] at hs ⊢; rwa [← h1, ← h2]
  | unOp op ty x => have := he x (by simp [Op.operands]); simp only [stepR] at hs ⊢; rwa [← this]
  | convert s ty x => have := he x (by simp [Op.operands]); simp only [stepR] at hs ⊢; rwa [← this]
  | makeFunc fn first caps =>
    cases fn with
    | func f =>
      have : caps.toList.map (evA t) = caps.toList.map (evA t') := by
        refine List.map_congr_left fun q hq => he q ?_
        simp only [Op.operands]
        exact Array.mem_append.2 (.inr (by simpa using hq))
      simp only [stepR] at hs ⊢; rwa [← this]
    | _ => exact hs.elim
  | slice ty x lo hi mx =>
    have h1 := he x (by simp [Op.operands])
    have h2 : ∀ y, lo = some y → evA t y = evA t' y := fun y hy => he y (by simp [Op.operands, hy])
    have h3 : ∀ y, hi = some y → evA t y = evA t' y := fun y hy => he y (by simp [Op.operands, hy])
    have h4 : ∀ y, mx = some y → evA t y = evA t' y := fun y hy => he y (by simp [Op.operands, hy])
    simp only [stepR] at hs ⊢
    rw [← h1]
    rcases lo with _ | l <;> rcases hi with _ | n <;> rcases mx with _ | m <;> dsimp only at hs ⊢ <;> (try rw [← h2 _ rfl]) <;> (try rw [← h3 _ rfl]) <;> (try rw [← h4 _ rfl]) <;> exact hs
  | fieldAddr s x f => have := he x (by simp [Op.operands]); simp only [stepR] at hs ⊢; rwa [← this]
  | indexAddr ty x y =>
    have h1 := he x (by simp [Op.operands]); have h2 := he y (by simp [Op.operands])
    simp only [stepR] at hs ⊢; rwa [← h1, ← h2]
  | index ty x y =>
    have h1 := he x (by simp [Op.operands]); have h2 := he y (by simp [Op.operands])
    simp only [stepR] at hs ⊢; rwa [← h1, ← h2]
  | extract x j => have := he x (by simp [Op.operands]); simp only [stepR] at hs ⊢; rwa [← this]
  | call c =>
    obtain ⟨callee, args, ts⟩ := c
    have ha : ∀ x ∈ args, evA t x = evA t' x := fun x hx => he x (by simp only [Op.operands, Call.operands]; exact Array.mem_append.2 (.inr hx))
    unfold stepR at hs
    split at hs <;> rename_i heq <;> try (cases heq; done)
    · cases heq
      rename_i x ty
      have h1 := ha x (by simp)
      simp only [stepR]; rwa [← h1]
    · cases heq
      rename_i x y
      have h1 := ha x (by simp); have h2 := ha y (by simp)
      simp only [stepR]; rwa [← h1, ← h2]
    · cases heq
      rename_i x y
      have h1 := ha x (by simp); have h2 := ha y (by simp)
      simp only [stepR]; rwa [← h1, ← h2]
    · cases heq
      rename_i x y ty ty'
      have h1 := ha x (by simp); have h2 := ha y (by simp)
      simp only [stepR]; rwa [← h1, ← h2]
    · cases heq
      rename_i f
      have h1 : args.toList.map (evA t) = args.toList.map (evA t') := List.map_congr_left fun q hq => ha q (by simpa using hq)
      have h2 := he f (by simp only [Op.operands, Call.operands]; exact Array.mem_append.2 (.inl (by simp)))
      simp only [stepR]; rwa [← h1, ← h2]
    · exact hs.elim
  | _ => exact hs.elim
theorem passC_congr {x : AV} {y : AV × List Nat} (hp : passC h x = some y) (he : ∀ id ∈ y.2, (h' id).peek = (h id).peek) : passC h' x = some y := by
  cases x with
  | op id off =>
    simp only [passC] at hp ⊢
    have : id ∈ y.2 := by
      split at hp
      · split at hp
        · simp only [Option.some.injEq] at hp; subst hp; simp
        · cases hp
      · cases hp
    rw [he id this]; exact hp
  | _ => exact hp
theorem passCs_congr : ∀ {xs : List AV} {y : List AV × List Nat}, passCs h xs = some y → (∀ id ∈ y.2, (h' id).peek = (h id).peek) → passCs h' xs = some y
  | [], y, hp, _ => hp
  | x :: r, y, hp, he => by
    by_cases hop : ∃ id off, x = .op id off
    · obtain ⟨id, off, rfl⟩ := hop
      simp only [passCs] at hp ⊢
      cases h1 : passC h (.op id off) with
      | none => rw [h1] at hp; cases hp
      | some q =>
        cases h2 : passCs h r with
        | none => rw [h1, h2] at hp; cases hp
        | some q2 =>
          rw [h1, h2] at hp
          simp only [Option.some.injEq] at hp
          subst hp
          rw [passC_congr h1 (fun id hid => he id (by simp [hid])), passCs_congr h2 (fun id hid => he id (by simp [hid]))]
    · have e1 : ∀ h, passCs h (x :: r) = match passCs h r with
          | some (ys, is) => some (x :: ys, is)
          | none => none := by
        intro h; cases x <;> first | rfl | exact absurd ⟨_, _, rfl⟩ hop
      rw [e1] at hp ⊢
      cases h2 : passCs h r with
      | none => rw [h2] at hp; cases hp
      | some q2 =>
        rw [h2] at hp
        simp only [Option.some.injEq] at hp
        subst hp
        rw [passCs_congr h2 (fun id hid => he id hid)]
theorem pass_congr {x : AV} {y : AV × List Nat} (hp : pass h x = some y) (he : ∀ id ∈ y.2, (h' id).peek = (h id).peek) : pass h' x = some y := by
  cases x with
  | ag cs => exact hp
  | fn f caps =>
    simp only [pass] at hp ⊢
    cases h1 : passCs h caps with
    | none => rw [h1] at hp; cases hp
    | some q =>
      rw [h1] at hp
      simp only [Option.some.injEq] at hp
      subst hp
      rw [passCs_congr h1 he]
  | _ => unfold pass at hp ⊢; exact passC_congr hp he
theorem passAll_congr : ∀ {xs : List AV} {y : List AV × List Nat}, passAll h xs = some y → (∀ id ∈ y.2, (h' id).peek = (h id).peek) → passAll h' xs = some y
  | [], y, hp, _ => hp
  | x :: r, y, hp, he => by
    simp only [passAll] at hp ⊢
    cases h1 : pass h x with
    | none => rw [h1] at hp; cases hp
    | some q =>
      cases h2 : passAll h r with
      | none => rw [h1, h2] at hp; cases hp
      | some q2 =>
        rw [h1, h2] at hp
        simp only [Option.some.injEq] at hp
        subst hp
        rw [pass_congr h1 (fun id hid => he id (by simp [hid])), passAll_congr h2 (fun id hid => he id (by simp [hid]))]
/-- A step hangs on the places of its list alone. -/
theorem stepR_congr_h (hs : stepR P i t h o v d fp) (he : ∀ id ∈ fp, (h' id).peek = (h id).peek) (hx : isStore o = true ∨ isAppend o = true → ∀ id ∈ fp, h' id = h id) : stepR P i t h' o v d fp := by
  cases o with
  | load ty x =>
    obtain ⟨hk, rfl, h1⟩ := hs
    refine ⟨hk, rfl, ?_⟩
    split at h1
    · rename_i id off hx
      obtain ⟨rfl, h1⟩ := h1
      refine ⟨rfl, ?_⟩
      rw [he id (by simp)]; exact h1
    · rename_i id off hx
      obtain ⟨rfl, h1⟩ := h1
      refine ⟨rfl, ?_⟩
      rw [he id (by simp)]; exact h1
    · exact h1
    · exact h1
  | store ty x y =>
    obtain ⟨hk, rfl, h1⟩ := hs
    refine ⟨hk, rfl, ?_⟩
    split at h1
    · obtain ⟨rfl, rfl, hl, ha, hb⟩ := h1
      refine ⟨rfl, rfl, hl, ha, ?_⟩
      rw [hx (.inl rfl) _ (by simp)]; exact hb
    · exact h1
  | slice ty x lo hi mx =>
    simp only [stepR] at hs ⊢
    split at hs
    · exact hs
    · exact hs
    · split at hs
      · split at hs
        · rename_i cs hp
          obtain ⟨hl, hc, rfl, rfl, rfl⟩ := hs
          rw [he _ (by simp), hp]
          exact ⟨hl, hc, rfl, rfl, rfl⟩
        · exact hs.elim
      · exact hs.elim
  | call c =>
    unfold stepR at hs
    split at hs <;> rename_i heq <;> try (cases heq; done)
    · cases heq; exact hs
    · cases heq; exact hs
    · cases heq; exact hs
    · cases heq
      simp only [stepR]
      split at hs
      · obtain ⟨e1, e2, e3, e4, e5, e6, h2⟩ := hs
        refine ⟨e1, e2, e3, e4, e5, e6, ?_⟩
        split at h2
        · rename_i kill ha
          obtain ⟨rfl, rfl, rfl⟩ := h2
          have hx' := hx (.inr rfl)
          have : ∀ e n f kill, appendable h e n f = some kill → (∀ id ∈ kill.toList, h' id = h id) → appendable h' e n f = some kill := by
            intro e n f kill ha hk
            cases f <;> simp only [appendable] at ha ⊢ <;> try exact ha
            rename_i tg
            have : kill = some tg := by
              split at ha
              · split at ha
                · simpa using ha.symm
                · cases ha
              · cases ha
            subst this
            rw [hk tg (by simp)]; exact ha
          rw [this _ _ _ _ ha hx']
          exact ⟨rfl, rfl, rfl⟩
        · exact h2.elim
      · exact hs.elim
    · cases heq
      simp only [stepR]
      split at hs
      · split at hs
        · rename_i az ids hp
          obtain ⟨rfl, hr⟩ := hs
          rw [passAll_congr hp he]
          exact ⟨rfl, hr⟩
        · exact hs.elim
      · exact hs.elim
    · exact hs.elim
  | makeFunc fn first caps => cases fn <;> exact hs
  | _ => exact hs
/-- The places of a step's list are there wherever its operands stand. -/
theorem stepR_fp_rep {C : Ctx} {W : World} (hs : stepR P i t h o v d fp) {ρ : Operand → Value} (hρ : ∀ x ∈ o.operands, RepT C W h' (evA t x) (ρ x)) : ∀ id ∈ fp, h' id ≠ .none := by
  have opn : ∀ {id off u}, RepT C W h' (.op id off) u → h' id ≠ .none := fun hr => peek_ne hr.1
  have caps : ∀ {xs : List AV} {ys ids}, passCs h xs = some (ys, ids) → (∀ x ∈ xs, ∃ u, RepC C W h' x u) → ∀ id ∈ ids, h' id ≠ .none := by
    intro xs
    induction xs with
    | nil => intro ys ids hp _; simp only [passCs, Option.some.injEq, Prod.mk.injEq] at hp; obtain ⟨_, rfl⟩ := hp; simp
    | cons x r ih =>
      intro ys ids hp hr
      by_cases hop : ∃ id off, x = .op id off
      · obtain ⟨id, off, rfl⟩ := hop
        simp only [passCs] at hp
        cases h1 : passC h (.op id off) with
        | none => rw [h1] at hp; cases hp
        | some q =>
          cases h2 : passCs h r with
          | none => rw [h1, h2] at hp; cases hp
          | some q2 =>
            rw [h1, h2] at hp
            simp only [Option.some.injEq, Prod.mk.injEq] at hp
            obtain ⟨_, rfl⟩ := hp
            intro k hk
            rcases List.mem_append.1 hk with hk | hk
            · simp only [passC] at h1
              split at h1
              · split at h1
                · simp only [Option.some.injEq] at h1; subst h1
                  simp only [List.mem_singleton] at hk; subst hk
                  obtain ⟨u, hu⟩ := hr _ (List.mem_cons_self ..)
                  exact peek_ne hu.1
                · cases h1
              · cases h1
            · exact ih h2 (fun x hx => hr x (List.mem_cons_of_mem _ hx)) k hk
      · have e1 : passCs h (x :: r) = match passCs h r with
            | some (ys, is) => some (x :: ys, is)
            | none => none := by
          cases x <;> first | rfl | exact absurd ⟨_, _, rfl⟩ hop
        rw [e1] at hp
        cases h2 : passCs h r with
        | none => rw [h2] at hp; cases hp
        | some q2 =>
          rw [h2] at hp
          simp only [Option.some.injEq, Prod.mk.injEq] at hp
          obtain ⟨_, rfl⟩ := hp
          exact ih h2 (fun x hx => hr x (List.mem_cons_of_mem _ hx))
  have one : ∀ {x y ids u}, pass h x = some (y, ids) → RepT C W h' x u → ∀ id ∈ ids, h' id ≠ .none := by
    intro x y ids u hp hr
    cases x with
    | op id off =>
      unfold pass at hp
      simp only [passC] at hp
      split at hp
      · split at hp
        · simp only [Option.some.injEq, Prod.mk.injEq] at hp; obtain ⟨_, rfl⟩ := hp
          intro k hk; simp only [List.mem_singleton] at hk; subst hk; exact opn hr
        · cases hp
      · cases hp
    | ag cs => simp only [pass] at hp; split at hp <;> simp only [Option.some.injEq, Prod.mk.injEq, reduceCtorEq] at hp; obtain ⟨_, rfl⟩ := hp; simp
    | fn f cs =>
      simp only [pass] at hp
      cases h1 : passCs h cs with
      | none => rw [h1] at hp; cases hp
      | some q =>
        rw [h1] at hp
        simp only [Option.some.injEq, Prod.mk.injEq] at hp
        obtain ⟨_, rfl⟩ := hp
        obtain ⟨us, _, hl, hc⟩ := hr
        refine caps h1 fun x hx => ?_
        obtain ⟨j, hj, rfl⟩ := List.mem_iff_getElem.1 hx
        exact ⟨_, hc j _ (List.getElem?_eq_getElem hj)⟩
    | tup cs => cases hp
    | undef => cases hp
    | fs t => cases hp
    | ms id lo n c sz => cases hp
    | mp id off => cases hp
    | _ => simp only [pass, passC, Option.some.injEq, Prod.mk.injEq] at hp; obtain ⟨_, rfl⟩ := hp; simp
  have all : ∀ {xs : List AV} {ys ids}, passAll h xs = some (ys, ids) → (∀ x ∈ xs, ∃ u, RepT C W h' x u) → ∀ id ∈ ids, h' id ≠ .none := by
    intro xs
    induction xs with
    | nil => intro ys ids hp _; simp only [passAll, Option.some.injEq, Prod.mk.injEq] at hp; obtain ⟨_, rfl⟩ := hp; simp
    | cons x r ih =>
      intro ys ids hp hr
      simp only [passAll] at hp
      cases h1 : pass h x with
      | none => rw [h1] at hp; cases hp
      | some q =>
        cases h2 : passAll h r with
        | none => rw [h1, h2] at hp; cases hp
        | some q2 =>
          rw [h1, h2] at hp
          simp only [Option.some.injEq, Prod.mk.injEq] at hp
          obtain ⟨_, rfl⟩ := hp
          intro k hk
          rcases List.mem_append.1 hk with hk | hk
          · obtain ⟨u, hu⟩ := hr x (List.mem_cons_self ..)
            exact one h1 hu k hk
          · exact ih h2 (fun x hx => hr x (List.mem_cons_of_mem _ hx)) k hk
  cases o with
  | load ty x =>
    obtain ⟨hk, rfl, h1⟩ := hs
    have := hρ x (by simp [Op.operands])
    split at h1
    · rename_i id off he
      obtain ⟨rfl, _⟩ := h1
      rw [he] at this
      intro k hk'; simp only [List.mem_singleton] at hk'; subst hk'; exact opn this
    · rename_i id off he
      obtain ⟨rfl, _⟩ := h1
      rw [he] at this
      intro k hk'; simp only [List.mem_singleton] at hk'; subst hk'; exact peek_ne this.1
    · obtain ⟨rfl, _⟩ := h1; simp
    · exact h1.elim
  | store ty x y =>
    obtain ⟨hk, rfl, h1⟩ := hs
    have := hρ x (by simp [Op.operands])
    split at h1
    · rename_i id off cs he hy
      obtain ⟨rfl, _⟩ := h1
      rw [he] at this
      intro k hk'; simp only [List.mem_singleton] at hk'; subst hk'; exact opn this
    · exact h1.elim
  | slice ty x lo hi mx =>
    have := hρ x (by simp [Op.operands])
    simp only [stepR] at hs
    split at hs
    · obtain ⟨_, _, rfl⟩ := hs; simp
    · obtain ⟨_, _, rfl⟩ := hs; simp
    · split at hs
      · rename_i n e id he hx
        split at hs
        · obtain ⟨_, _, _, _, rfl⟩ := hs
          rw [hx] at this
          intro k hk'; simp only [List.mem_singleton] at hk'; subst hk'; exact opn this
        · exact hs.elim
      · exact hs.elim
  | call c =>
    obtain ⟨callee, args, ts⟩ := c
    have ha : ∀ x ∈ args, RepT C W h' (evA t x) (ρ x) := fun x hx => hρ x (by simp only [Op.operands, Call.operands]; exact Array.mem_append.2 (.inr hx))
    unfold stepR at hs
    split at hs <;> rename_i heq <;> try (cases heq; done)
    · obtain ⟨_, _, rfl⟩ := hs; simp
    · obtain ⟨_, _, rfl⟩ := hs; simp
    · obtain ⟨_, _, rfl⟩ := hs; simp
    · cases heq
      rename_i x y ty ty'
      have hx := ha x (by simp)
      split at hs
      · rename_i e f xs f' ys he ex ey
        obtain ⟨_, _, _, _, _, _, h2⟩ := hs
        split at h2
        · rename_i kill hap
          obtain ⟨_, _, rfl⟩ := h2
          rw [ex] at hx
          intro k hk'
          cases f <;> simp only [appendable, Option.some.injEq, reduceCtorEq] at hap
          · subst hap; simp at hk'
          · rename_i tg
            have : kill = some tg := by
              split at hap
              · split at hap
                · simpa using hap.symm
                · cases hap
              · cases hap
            subst this
            simp only [Option.toList_some, List.mem_singleton] at hk'; subst hk'
            intro e0
            have h3 := hx.2
            rw [e0] at h3
            exact h3
        · exact h2.elim
      · exact hs.elim
    · cases heq
      rename_i f
      have hf := hρ f (by simp only [Op.operands, Call.operands]; exact Array.mem_append.2 (.inl (by simp)))
      split at hs
      · rename_i g cs hg
        split at hs
        · rename_i az ids hp
          obtain ⟨rfl, _⟩ := hs
          refine all hp fun x hx => ?_
          rcases List.mem_append.1 hx with hx | hx
          · obtain ⟨y, hy, rfl⟩ := List.mem_map.1 hx
            exact ⟨_, ha y (by simpa using hy)⟩
          · rw [hg] at hf
            obtain ⟨us, _, hl, hc⟩ := hf
            obtain ⟨j, hj, rfl⟩ := List.mem_iff_getElem.1 hx
            exact ⟨_, (hc j _ (List.getElem?_eq_getElem hj)).toT⟩
        · exact hs.elim
      · exact hs.elim
    · exact hs.elim
  | _ =>
    have := stepR_touch hs
    intro k hk
    rcases this.2 k hk with ⟨h1, _⟩ | ⟨h1, _⟩ | ⟨h1, _⟩ <;> cases h1
end
end Go.Proofs.YtbaajjihhdmdpaaGreatDoor
