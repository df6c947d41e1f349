/- Package conflict: what it computes. · The reference's package conflict; both say the same. · Schedules and their form. · The machine's own slices: what is told of them; functions that take a slice over. · Texts: numbers, lines. · Statements walked by hand beside the machine: pieces. · schedule.Print. · The reference's form of schedules; both say the same. · The reference's Room and Drop. · The reference's Drop and With. · Flows: the reference's checks. · Package flow: checks; both say the same. · Flows: both checks say the same. · Routes: the reference's first checks. · Iterators: the cells of a slot. · Functions that take one of the machine's own slices over, and give one back. · Slices of the machine's own of which nothing is closed: appended to, given away, turned in place. · Slices into the machine's own boxes: copied, appended to, asked for overlaps. · Calls that take a slice of the machine's own over, or turn it in place. · MADE BY PROGRAM (wip/gen/lib2.py): library functions on slices of the machine's own: Clone. No condition. -/
import Derived.Test.YtbaajjihhdmdpaaGreatDoorRe03
import Derived.Lib.SliceRun
import Derived.Shelf.Strconv.Itoa3
import Derived.Shelf.Strings.Builder1
import Derived.Shelf.Lay
import Derived.Ground.NamesProg
import Derived.Laws.Concat
import Derived.Lib.ItoaLen
import Derived.Lib.AppendZerosOnto
import Derived.Lib.Overlaps
import Derived.Laws.Externs

namespace Go.Proofs.YtbaajjihhdmdpaaGreatDoor
open Go.RowKit
set_option linter.unusedSectionVars false
set_option linter.unusedVariables false
set_option linter.unusedSimpArgs false
set_option linter.unnecessarySimpa false
set_option maxRecDepth 100000
variable [Lax]
theorem S274 (n : GNet) (a : Int) : Sound Tryz.prog 274 [n.v, i64 a] (.bool (isNode n a)) := by
  refine ex_intro mixedT T [] Tryz.func274 rfl (by rw [Tryz.ntmps274]; simp) (by kernel_rfl) ?_
  conv => whnf
  repeat' first | (refine LenG.map ?_; conv => whnf) | (refine LenG.go ?_; conv => whnf)
  repeat' first
    | (refine Br.T ?_; conv => whnf)
    | (refine Br.F ?_; conv => whnf)
    | (refine Br.mk (fun hq => ?_) (fun hq => ?_) <;> conv => whnf)
    | (refine FnG.go rfl ?_; conv => whnf)
    | (refine LenG.map ?_; conv => whnf)
    | (refine LenG.go ?_; conv => whnf)
  all_goals first
    | (refine RetG.one ?_; (try simp only [Bool.not_eq_true', Bool.not_eq_false'] at *); (try delta isNode); simp only [ret1, *, Bool.true_or, Bool.false_or, Bool.or_true, Bool.or_false, Bool.true_and, Bool.false_and, Bool.and_true, Bool.and_false, Bool.not_true, Bool.not_false, if_true, if_false, Bool.false_eq_true, reduceIte]; done)
    | (refine RetG.one ?_; simp_all [isNode, ret1] <;> omega)
/-- A node's power at another one, added: what is no node adds nothing. -/
def dist1 (n : GNet) (node s a : Int) : Int := if isNode n a then W (s + n.pw a node) else s
def distGo (n : GNet) (i node : Int) : List GCell → Nat → Int → Int
  | [], _, s => s
  | c :: r, k, s => distGo n i node r (k + 1) (if (k : Int) == i then s else dist1 n node (dist1 n node s c.from_) c.to_)
def dist (n : GNet) (l : List GCell) (i node : Int) : Int := distGo n i node l 0 0
theorem distGo_step (n : GNet) (i node : Int) {l : List GCell} {k q : Nat} {s : Int} (h : k < l.length) : distGo n i node (l.drop k) q s = distGo n i node (l.drop (k + 1)) (q + 1) (if (q : Int) == i then s else dist1 n node (dist1 n node s (gd l k).from_) (gd l k).to_) := by
  have e : gd l k = l[k] := by simp [gd, List.getD, h]
  rw [List.drop_eq_getElem_cons h, distGo, e]
theorem distGo_end (n : GNet) (i node : Int) {l : List GCell} {k q : Nat} {s : Int} (h : l.length ≤ k) : distGo n i node (l.drop k) q s = s := by rw [List.drop_eq_nil_of_le h]; rfl
theorem S275 (n : GNet) (hn : n.ok) (h : NetOk n) (l : List GCell) (hl : Cn l) (i node : Int) (hnode : (!isNode n node) = false) : Sound Tryz.prog 275 [n.v, cellsV l, i64 i, i64 node] (i64 (dist n l i node)) := by
  have hp := h.pow
  refine ex_intro mixedT T [] Tryz.func275 rfl (by rw [Tryz.ntmps275]; simp) (by kernel_rfl) ?_
  conv => whnf
  repeat' first | (refine LenG.map ?_; conv => whnf) | (refine LenG.go ?_; conv => whnf)
  refine Lp.go T [.t 4] (fun (a : Nat × Int) => match a with | (k, s) => [(2, i64 i), (3, i64 node), (4, .op 0 0), (9, i64 s), (14, cellsV l), (15, i64 l.length), (16, i64 k)]) (fun _ => [.box n.c]) (fun m a => m + a.1 = l.length ∧ dist n l i node = distGo n i node (l.drop a.1) a.1 a.2) l.length (0, 0) ⟨by simp, by simp [dist]⟩ [.t 4] ?_ ?_
  · (conv => whnf); refine ⟨rfl, ?_, ?_⟩ <;> (conv => whnf) <;> (repeat' apply And.intro) <;> first | exact True.intro | rfl | (conv => rhs; whnf)
  rintro m ⟨k, s⟩ ⟨hm, hk⟩
  simp only at hm hk
  conv => whnf
  refine Br.mk (fun hq => ?_) (fun hq => ?_) <;> conv => whnf
  · have hlt : k < l.length := by simpa using hq
    rw [distGo_step n i node hlt] at hk
    refine Ix.at (l := l) hlt rfl ?_; conv => whnf
    refine Br.mk (fun hq => ?_) (fun hq => ?_) <;> conv => whnf
    · rw [if_pos hq] at hk
      refine ⟨m - 1, (k + 1, s), by omega, ⟨by simp only; omega, hk⟩, ?_⟩
      (conv => whnf); refine ⟨rfl, ?_, ?_⟩ <;> (conv => whnf) <;> (repeat' apply And.intro) <;> first | exact True.intro | rfl | (conv => rhs; whnf)
      exact incr (by omega)
    · rw [if_neg (by rw [hq]; simp)] at hk
      refine LenG.go ?_; conv => whnf
      refine Lp.unroll T 3 ?_; conv => whnf
      repeat' first
        | (refine Br.tt (by rfl) ?_; conv => whnf)
        | (refine Br.ff (by rfl) ?_; conv => whnf)
        | (refine FnG.go rfl ?_; conv => whnf)
        | (refine CallG.go (S274 n _) ?_; conv => whnf)
        | (refine Ix.go (by decide) rfl rfl ?_; conv => whnf)
        | (refine Ix.int (l := n.power) (pw_row hp (by simp_all)) rfl ?_; conv => whnf)
        | (refine Ix.int (l := gi n.power _) (pw_col hp (by simp_all) hnode) rfl ?_; conv => whnf)
        | (refine Br.mk (fun hq => ?_) (fun hq => ?_) <;> conv => whnf)
      all_goals (refine ⟨m - 1, (k + 1, _), by omega, ⟨by simp only; omega, hk⟩, ?_⟩)
      all_goals ((conv => whnf); refine ⟨rfl, ?_, ?_⟩ <;> (conv => whnf) <;> (repeat' apply And.intro) <;> first | exact True.intro | rfl | (conv => rhs; whnf))
      all_goals first
        | exact incr (by omega)
        | (refine congrArg i64 (?_ : dist1 n node (dist1 n node s (gd l k).from_) (gd l k).to_ = _); simp only [dist1, *, Bool.true_or, Bool.false_or, Bool.or_true, Bool.or_false, Bool.true_and, Bool.false_and, Bool.and_true, Bool.and_false, Bool.not_true, Bool.not_false, if_true, if_false, Bool.false_eq_true, reduceIte]; rfl)
        | (refine congrArg i64 (?_ : dist1 n node (dist1 n node s (gd l k).from_) (gd l k).to_ = _); simp only [dist1, *, Bool.true_or, Bool.false_or, Bool.or_true, Bool.or_false, Bool.true_and, Bool.false_and, Bool.and_true, Bool.and_false, Bool.not_true, Bool.not_false, if_true, if_false, Bool.false_eq_true, reduceIte])
  · rw [distGo_end n i node (by simpa using hq)] at hk
    refine RetG.one ?_
    rw [hk]; rfl
/-- Does a cell share a node with another one. -/
def hearsB (n : GNet) (s d : Int) : Bool := netErr n == 0 && inI s 0 8796093022208 && inI d 0 8796093022208 && heard n s d
theorem S310 (n : GNet) (hn : n.ok) (h : NetOk n) (l : List GCell) (hl : Cn l) (i link node : Int) (hi : 0 ≤ link ∧ link.toNat < n.links.length) (hnode : (!isNode n node) = false) :
    Sound Tryz.prog 310 [i64 link, i64 node, .rp n.c, .rp [cellsV l], .rp [i64 i]] (.bool (hearsB n (gi n.margin link) (dist n l i node))) := by
  have hml := h.margin
  refine ex_intro mixedT T [] Tryz.func310 rfl (by rw [Tryz.ntmps310]; simp) (by kernel_rfl) ?_
  conv => whnf
  repeat' first | (refine LenG.map ?_; conv => whnf) | (refine LenG.go ?_; conv => whnf)
  repeat' first
    | (refine Br.T ?_; conv => whnf)
    | (refine Br.F ?_; conv => whnf)
    | (refine Br.mk (fun hq => ?_) (fun hq => ?_) <;> conv => whnf)
    | (refine FnG.go rfl ?_; conv => whnf)
    | (refine LenG.map ?_; conv => whnf)
    | (refine LenG.go ?_; conv => whnf)
    | (refine CallG.go (S200 n hn _ _) ?_; conv => whnf)
    | (refine CallG.go (S275 n hn h l hl i node hnode) ?_; conv => whnf)
    | (refine Ix.int (l := n.margin) (by simp_all) rfl ?_; conv => whnf)
  all_goals (refine RetG.one ?_; (try simp only [Bool.not_eq_true', Bool.not_eq_false'] at *); (try delta hearsB); simp only [ret1, *, Bool.true_or, Bool.false_or, Bool.or_true, Bool.or_false, Bool.true_and, Bool.false_and, Bool.and_true, Bool.and_false, Bool.not_true, Bool.not_false, if_true, if_false, Bool.false_eq_true, reduceIte])
def touchGo (c : GCell) (i : Int) : List GCell → Nat → Bool
  | [], _ => false
  | d :: r, k => ((k : Int) != i && touches c d) || touchGo c i r (k + 1)
theorem touchGo_step (c : GCell) (i : Int) {l : List GCell} {k q : Nat} (h : k < l.length) : touchGo c i (l.drop k) q = (((q : Int) != i && touches c (gd l k)) || touchGo c i (l.drop (k + 1)) (q + 1)) := by
  have e : gd l k = l[k] := by simp [gd, List.getD, h]
  rw [List.drop_eq_getElem_cons h, touchGo, e]
theorem touchGo_end (c : GCell) (i : Int) {l : List GCell} {k q : Nat} (h : l.length ≤ k) : touchGo c i (l.drop k) q = false := by rw [List.drop_eq_nil_of_le h]; rfl
/-- Has a cell a fault among others. -/
def faultyP (n : GNet) (l : List GCell) (i : Nat) : Bool :=
  !goodLk n (gd l i).from_ (gd l i).to_ || touchGo (gd l i) i l 0 ||
    !hearsB n (gi n.margin (findLk n (gd l i).from_ (gd l i).to_)) (dist n l i (gd l i).to_) || !hearsB n (gi n.margin (findLk n (gd l i).to_ (gd l i).from_)) (dist n l i (gd l i).from_)
theorem findLk_is {n : GNet} {a b : Int} (h : 0 ≤ findLk n a b) : (gi n.links (findLk n a b)).from_ = a ∧ (gi n.links (findLk n a b)).to_ = b := by
  have key : ∀ (m k : Nat), m + k = n.links.length → 0 ≤ idxOf (isLk a b) (n.links.drop k) k → isLk a b (gi n.links (idxOf (isLk a b) (n.links.drop k) k)) = true := by
    intro m
    induction m with
    | zero => intro k hk h0; rw [idxOf_end _ (by omega)] at h0; omega
    | succ m ih =>
      intro k hk h0
      rw [idxOf_step _ (by omega)] at h0 ⊢
      by_cases hp : isLk a b (gd n.links k) = true
      · rw [if_pos hp]; simpa using hp
      · rw [if_neg hp] at h0 ⊢; exact ih (k + 1) (by omega) h0
  have := key n.links.length 0 (by omega) (by simpa [findLk] using h)
  rw [List.drop_zero] at this
  simpa [isLk, findLk] using this
theorem NetOk.node {n : GNet} (h : NetOk n) {a b : Int} (hf : 0 ≤ findLk n a b) : (!isNode n a) = false ∧ (!isNode n b) = false := by
  have h1 := findLk_is hf
  have h2 := h.at (findLk_lt n a b hf)
  have h3 := h2.from_
  have h4 := h2.to_
  change (gi n.links (findLk n a b)).from_ = a ∧ _ at h1
  rw [h1.1] at h3
  rw [h1.2] at h4
  simp [isNode]; omega
/-- Usable by its index is good by its nodes. -/
theorem usable_good {n : GNet} (h : NetOk n) {a b : Int} : (netErr n == 0 && decide (findLk n a b ≥ 0) && decide (findLk n a b < n.links.length) && usableLk n (findLk n a b)) = (netErr n == 0 && goodLk n a b) := by
  by_cases hf : 0 ≤ findLk n a b
  · have h1 := findLk_is hf
    have h2 := findLk_lt n a b hf
    have h3 : findLk n a b < n.links.length := by omega
    unfold usableLk goodLk
    rw [h1.1, h1.2]
    simp only [hf, h3, ge_iff_le, decide_true, Bool.true_or, Bool.false_or, Bool.or_true, Bool.or_false, Bool.true_and, Bool.false_and, Bool.and_true, Bool.and_false, Bool.not_true, Bool.not_false, if_true, if_false, Bool.false_eq_true, reduceIte, Bool.and_assoc]
  · unfold goodLk
    have : decide (findLk n a b ≥ 0) = false := by simpa using hf
    rw [this]; simp
theorem S74v (n : GNet) (hn : n.ok) (hv : netErr n = 0) (a b : Int) : Sound Tryz.prog 74 [n.v, i64 a, i64 b] (i64 (findLk n a b)) := by
  simpa [hv] using S74 n hn a b
theorem S73v (n : GNet) (hn : n.ok) (hv : netErr n = 0) (a b : Int) : Sound Tryz.prog 73 [n.v, i64 (findLk n a b)] (.bool (goodLk n a b)) := by
  have := S73 n hn (findLk n a b)
  rw [usable_good (netOk_of hv), hv] at this
  simpa using this
theorem goodLk_find {n : GNet} {a b : Int} (h : (!goodLk n a b) = false) : 0 ≤ findLk n a b ∧ 0 ≤ findLk n b a := by
  simp [goodLk] at h; omega
theorem S287 (n : GNet) (hn : n.ok) (hv : netErr n = 0) (l : List GCell) (hl : Cn l) (i : Nat) (hi : i < l.length) : Sound Tryz.prog 287 [n.v, cellsV l, i64 i] (.bool (faultyP n l i)) := by
  have h := netOk_of hv
  have hml := h.margin
  refine ex_intro mixedT T [] Tryz.func287 rfl (by rw [Tryz.ntmps287]; simp) (by kernel_rfl) ?_
  conv => whnf
  repeat' first | (refine LenG.map ?_; conv => whnf) | (refine LenG.go ?_; conv => whnf)
  repeat' first
    | (refine Br.T ?_; conv => whnf)
    | (refine Br.F ?_; conv => whnf)
    | (refine Br.mk (fun hq => ?_) (fun hq => ?_) <;> conv => whnf)
    | (refine FnG.go rfl ?_; conv => whnf)
    | (refine LenG.map ?_; conv => whnf)
    | (refine LenG.go ?_; conv => whnf)
    | (refine CallG.go (S74v n hn hv _ _) ?_; conv => whnf)
    | (refine CallG.go (S73v n hn hv (gd l i).from_ (gd l i).to_) ?_; conv => whnf)
    | (refine Ix.at (l := l) hi rfl ?_; conv => whnf)
  · refine RetG.one ?_; delta faultyP; simp only [ret1, *, Bool.true_or, Bool.false_or, Bool.or_true, Bool.or_false, Bool.true_and, Bool.false_and, Bool.and_true, Bool.and_false, Bool.not_true, Bool.not_false, if_true, if_false, Bool.false_eq_true, reduceIte]
  obtain ⟨hg1, hg2⟩ := goodLk_find hq
  have hn1 := h.node hg1
  have hl1 := findLk_lt n _ _ hg1
  have hl2 := findLk_lt n _ _ hg2
  refine Lp.go T [.t 3, .t 4, .t 5, .t 7] (fun k : Nat => [(3, .op 0 0), (4, .op 1 0), (5, .op 2 0), (7, .op 3 0), (8, i64 (findLk n (gd l i).from_ (gd l i).to_)), (9, i64 (findLk n (gd l i).to_ (gd l i).from_)), (33, cellsV l), (34, i64 l.length), (35, i64 k)])
    (fun _ => [.box n.c, .box [cellsV l], .box [i64 i], .box (gd l i).c]) (fun m k => m + k = l.length ∧ touchGo (gd l i) i l 0 = touchGo (gd l i) i (l.drop k) k) l.length 0 ⟨by simp, by simp⟩ [.t 3, .t 4, .t 5, .t 7] ?_ ?_
  · (conv => whnf); refine ⟨rfl, ?_, ?_⟩ <;> (conv => whnf) <;> (repeat' apply And.intro) <;> first | exact True.intro | rfl | (conv => rhs; whnf)
  rintro m k ⟨hm, hk⟩
  conv => whnf
  refine Br.mk (fun hq => ?_) (fun hq => ?_) <;> conv => whnf
  · have hlt : k < l.length := by simpa using hq
    rw [touchGo_step _ _ hlt] at hk
    repeat' first
      | (refine Br.T ?_; conv => whnf)
      | (refine Br.F ?_; conv => whnf)
      | (refine Br.mk (fun hq => ?_) (fun hq => ?_) <;> conv => whnf)
      | (refine FnG.go rfl ?_; conv => whnf)
      | (refine LenG.map ?_; conv => whnf)
      | (refine LenG.go ?_; conv => whnf)
      | (refine CallG.go (S309 (gd l i) (gd l k)) ?_; conv => whnf)
      | (refine Ix.at (l := l) hlt rfl ?_; conv => whnf)
    · refine RetG.one ?_
      delta faultyP
      simp only [ret1, *, Bool.true_or, Bool.false_or, Bool.or_true, Bool.or_false, Bool.true_and, Bool.false_and, Bool.and_true, Bool.and_false, Bool.not_true, Bool.not_false, if_true, if_false, Bool.false_eq_true, reduceIte]
    · refine ⟨m - 1, k + 1, by omega, ⟨by omega, by simp only [*, Bool.true_or, Bool.false_or, Bool.or_true, Bool.or_false, Bool.true_and, Bool.false_and, Bool.and_true, Bool.and_false, Bool.not_true, Bool.not_false, if_true, if_false, Bool.false_eq_true, reduceIte]⟩, ?_⟩
      (conv => whnf); refine ⟨rfl, ?_, ?_⟩ <;> (conv => whnf) <;> (repeat' apply And.intro) <;> first | exact True.intro | rfl | (conv => rhs; whnf)
      exact incr (by omega)
    · refine ⟨m - 1, k + 1, by omega, ⟨by omega, by simp only [*, Bool.true_or, Bool.false_or, Bool.or_true, Bool.or_false, Bool.true_and, Bool.false_and, Bool.and_true, Bool.and_false, Bool.not_true, Bool.not_false, if_true, if_false, Bool.false_eq_true, reduceIte]⟩, ?_⟩
      (conv => whnf); refine ⟨rfl, ?_, ?_⟩ <;> (conv => whnf) <;> (repeat' apply And.intro) <;> first | exact True.intro | rfl | (conv => rhs; whnf)
      exact incr (by omega)
  · rw [touchGo_end _ _ (by simpa using hq)] at hk
    repeat' first
      | (refine Br.T ?_; conv => whnf)
      | (refine Br.F ?_; conv => whnf)
      | (refine Br.mk (fun hq => ?_) (fun hq => ?_) <;> conv => whnf)
      | (refine FnG.go rfl ?_; conv => whnf)
      | (refine LenG.map ?_; conv => whnf)
      | (refine LenG.go ?_; conv => whnf)
      | (refine CallG.go (S310 n hn h l hl i _ (gd l i).to_ ⟨hg1, hl1⟩ hn1.2) ?_; conv => whnf)
      | (refine CallG.go (S310 n hn h l hl i _ (gd l i).from_ ⟨hg2, hl2⟩ hn1.1) ?_; conv => whnf)
    all_goals (refine RetG.one ?_; delta faultyP; simp only [ret1, *, Bool.true_or, Bool.false_or, Bool.or_true, Bool.or_false, Bool.true_and, Bool.false_and, Bool.and_true, Bool.and_false, Bool.not_true, Bool.not_false, if_true, if_false, Bool.false_eq_true, reduceIte])
/-- The first cell with a fault. -/
def firstF (f : Nat → Bool) : Nat → Nat → Int
  | 0, _ => -1
  | m + 1, i => if f i then i else firstF f m (i + 1)
theorem S238 (n : GNet) (hn : n.ok) (l : List GCell) (hl : Cn l) : Sound Tryz.prog 238 [n.v, cellsV l] (.tup [i64 (if netErr n != 0 then -1 else firstF (faultyP n l) l.length 0), .bool (netErr n == 0 && decide (firstF (faultyP n l) l.length 0 ≥ 0))]) := by
  refine ex_intro mixedT T [] Tryz.func238 rfl (by rw [Tryz.ntmps238]; simp) (by kernel_rfl) ?_
  conv => whnf
  repeat' first | (refine LenG.map ?_; conv => whnf) | (refine LenG.go ?_; conv => whnf)
  repeat' first
    | (refine Br.T ?_; conv => whnf)
    | (refine Br.F ?_; conv => whnf)
    | (refine Br.mk (fun hq => ?_) (fun hq => ?_) <;> conv => whnf)
    | (refine FnG.go rfl ?_; conv => whnf)
    | (refine LenG.map ?_; conv => whnf)
    | (refine LenG.go ?_; conv => whnf)
    | (refine CallG.go (S71 n hn) ?_; conv => whnf)
  · refine RetG.two ?_ ?_ <;> simp_all [ret1]
  have hv : netErr n = 0 := by simpa using hq
  rw [hv]
  refine Lp.go T [.t 2] (fun k : Nat => [(1, cellsV l), (2, .op 0 0), (11, i64 l.length), (12, i64 k)])
    (fun _ => [.box n.c]) (fun m k => m + k = l.length ∧ firstF (faultyP n l) l.length 0 = firstF (faultyP n l) m k) l.length 0 ⟨by simp, rfl⟩ [.t 2] ?_ ?_
  · (conv => whnf); refine ⟨rfl, ?_, ?_⟩ <;> (conv => whnf) <;> (repeat' apply And.intro) <;> first | exact True.intro | rfl | (conv => rhs; whnf)
  rintro m k ⟨hm, hk⟩
  conv => whnf
  refine Br.mk (fun hq => ?_) (fun hq => ?_) <;> conv => whnf
  · have hlt : k < l.length := by simpa using hq
    obtain ⟨m, rfl⟩ : ∃ q, m = q + 1 := ⟨m - 1, by omega⟩
    rw [firstF] at hk
    repeat' first
      | (refine Br.T ?_; conv => whnf)
      | (refine Br.F ?_; conv => whnf)
      | (refine Br.mk (fun hq => ?_) (fun hq => ?_) <;> conv => whnf)
      | (refine FnG.go rfl ?_; conv => whnf)
      | (refine LenG.map ?_; conv => whnf)
      | (refine LenG.go ?_; conv => whnf)
      | (refine CallG.go (S287 n hn hv l hl k hlt) ?_; conv => whnf)
    · refine RetG.two ?_ ?_ <;> simp_all [ret1]
    · refine ⟨m, k + 1, by omega, ⟨by omega, by simp_all⟩, ?_⟩
      (conv => whnf); refine ⟨rfl, ?_, ?_⟩ <;> (conv => whnf) <;> (repeat' apply And.intro) <;> first | exact True.intro | rfl | (conv => rhs; whnf)
      exact incr (by omega)
  · have hge : l.length ≤ k := by simpa using hq
    obtain rfl : m = 0 := by omega
    rw [firstF] at hk
    refine RetG.two ?_ ?_ <;> simp_all [ret1]
theorem firstF_any (f : Nat → Bool) : ∀ (m i : Nat), decide (firstF f m i ≥ 0) = (List.range' i m).any f
  | 0, i => by simp [firstF]
  | m + 1, i => by
    rw [firstF, List.range'_succ, List.any_cons]
    by_cases h : f i = true
    · rw [if_pos h, h]; simp <;> omega
    · rw [if_neg h, firstF_any f m (i + 1)]; simp [h]
/-- Are cells good: no one has a fault. -/
def goodCells (n : GNet) (l : List GCell) : Bool := netErr n == 0 && !(List.range' 0 l.length).any (faultyP n l)
theorem S166 (n : GNet) (hn : n.ok) (l : List GCell) (hl : Cn l) : Sound Tryz.prog 166 [n.v, cellsV l] (.bool (goodCells n l)) := by
  refine ex_intro mixedT T [] Tryz.func166 rfl (by rw [Tryz.ntmps166]; simp) (by kernel_rfl) ?_
  conv => whnf
  repeat' first | (refine LenG.map ?_; conv => whnf) | (refine LenG.go ?_; conv => whnf)
  repeat' first
    | (refine Br.T ?_; conv => whnf)
    | (refine Br.F ?_; conv => whnf)
    | (refine Br.mk (fun hq => ?_) (fun hq => ?_) <;> conv => whnf)
    | (refine FnG.go rfl ?_; conv => whnf)
    | (refine LenG.map ?_; conv => whnf)
    | (refine LenG.go ?_; conv => whnf)
    | (refine CallG.go (S238 n hn l hl) ?_; conv => whnf)
    | (refine CallG.go (S71 n hn) ?_; conv => whnf)
  all_goals (refine RetG.one ?_; delta goodCells; rw [← firstF_any]; simp only [ret1, *, Bool.true_or, Bool.false_or, Bool.or_true, Bool.or_false, Bool.true_and, Bool.false_and, Bool.and_true, Bool.and_false, Bool.not_true, Bool.not_false, if_true, if_false, Bool.false_eq_true, reduceIte])
theorem Wi {n : Int} (h : -9223372036854775808 ≤ n ∧ n ≤ 9223372036854775807) : W n = n := w64 h
theorem W_in (n : Int) : -9223372036854775808 ≤ W n ∧ W n ≤ 9223372036854775807 := by
  unfold W; rw [IntKind.wrap_i64]; omega
theorem W_W (n : Int) : W (W n) = W n := w64 (W_in n)
theorem S331 (n : GNet) (a : Int) : Sound Tryz.prog 331 [n.v, i64 a] (.bool (isNode n a)) := by
  refine ex_intro mixedT T [] Tryz.func331 rfl (by rw [Tryz.ntmps331]; simp) (by kernel_rfl) ?_
  conv => whnf
  repeat' first | (refine LenG.map ?_; conv => whnf) | (refine LenG.go ?_; conv => whnf)
  repeat' first
    | (refine Br.T ?_; conv => whnf)
    | (refine Br.F ?_; conv => whnf)
    | (refine Br.mk (fun hq => ?_) (fun hq => ?_) <;> conv => whnf)
    | (refine FnG.go rfl ?_; conv => whnf)
    | (refine LenG.map ?_; conv => whnf)
    | (refine LenG.go ?_; conv => whnf)
  all_goals first
    | (refine RetG.one ?_; (try simp only [Bool.not_eq_true', Bool.not_eq_false'] at *); (try delta isNode); simp only [ret1, *, Bool.true_or, Bool.false_or, Bool.or_true, Bool.or_false, Bool.true_and, Bool.false_and, Bool.and_true, Bool.and_false, Bool.not_true, Bool.not_false, if_true, if_false, Bool.false_eq_true, reduceIte]; done)
    | (refine RetG.one ?_; simp_all [isNode, ret1] <;> omega)
def rpw (n : GNet) (a b : Int) : Int := if !isNode n a || !isNode n b then 0 else n.pw a b
theorem S311 (n : GNet) (hp : PowOk n) (a b : Int) : Sound Tryz.prog 311 [n.v, i64 a, i64 b] (i64 (rpw n a b)) := by
  refine ex_intro mixedT T [] Tryz.func311 rfl (by rw [Tryz.ntmps311]; simp) (by kernel_rfl) ?_
  conv => whnf
  repeat' first | (refine LenG.map ?_; conv => whnf) | (refine LenG.go ?_; conv => whnf)
  repeat' first
    | (refine Br.T ?_; conv => whnf)
    | (refine Br.F ?_; conv => whnf)
    | (refine Br.mk (fun hq => ?_) (fun hq => ?_) <;> conv => whnf)
    | (refine FnG.go rfl ?_; conv => whnf)
    | (refine LenG.map ?_; conv => whnf)
    | (refine LenG.go ?_; conv => whnf)
    | (refine CallG.go (S331 n _) ?_; conv => whnf)
    | (refine Ix.int (l := n.power) (pw_row hp (by assumption)) rfl ?_; conv => whnf)
    | (refine Ix.int (l := gi n.power _) (pw_col hp (by assumption) (by assumption)) rfl ?_; conv => whnf)
  all_goals (refine RetG.one ?_; (try simp only [Bool.not_eq_true', Bool.not_eq_false'] at *); (try delta rpw GNet.pw); simp only [ret1, *, Bool.true_or, Bool.false_or, Bool.or_true, Bool.or_false, Bool.true_and, Bool.false_and, Bool.and_true, Bool.and_false, Bool.not_true, Bool.not_false, if_true, if_false, Bool.false_eq_true, reduceIte])
theorem dist1_eq {n : GNet} {node s a : Int} (hs : W s = s) (hnode : (!isNode n node) = false) : W (s + rpw n a node) = dist1 n node s a := by
  unfold rpw dist1
  rw [hnode]
  cases isNode n a <;> simp [hs]
theorem dist1_W {n : GNet} {node s a : Int} (hs : W s = s) : W (dist1 n node s a) = dist1 n node s a := by
  unfold dist1; split
  · exact W_W _
  · exact hs
/-- Has a cell a fault among others: the reference's way. -/
def faultyR (n : GNet) (l : List GCell) (i : Nat) : Bool :=
  !goodLk n (gd l i).from_ (gd l i).to_ || touchGo (gd l i) i l 0 ||
    !heard n (gi n.margin (findLk n (gd l i).from_ (gd l i).to_)) (dist n l i (gd l i).to_) || !heard n (gi n.margin (findLk n (gd l i).to_ (gd l i).from_)) (dist n l i (gd l i).from_)
theorem touches_eq (a b : GCell) : touches a b = (b.from_ == a.from_ || b.from_ == a.to_ || b.to_ == a.from_ || b.to_ == a.to_) := by
  rw [Bool.eq_iff_iff]
  simp only [touches, Bool.or_eq_true, beq_iff_eq]
  omega
theorem S288 (n : GNet) (hn : n.ok) (h : NetOk n) (l : List GCell) (hl : Cn l) (i : Nat) (hi : i < l.length) : Sound Tryz.prog 288 [n.v, cellsV l, i64 i] (.bool (faultyR n l i)) := by
  have hml := h.margin
  have hp := h.pow
  refine ex_intro mixedT T [] Tryz.func288 rfl (by rw [Tryz.ntmps288]; simp) (by kernel_rfl) ?_
  conv => whnf
  repeat' first | (refine LenG.map ?_; conv => whnf) | (refine LenG.go ?_; conv => whnf)
  repeat' first
    | (refine Br.T ?_; conv => whnf)
    | (refine Br.F ?_; conv => whnf)
    | (refine Br.mk (fun hq => ?_) (fun hq => ?_) <;> conv => whnf)
    | (refine FnG.go rfl ?_; conv => whnf)
    | (refine LenG.map ?_; conv => whnf)
    | (refine LenG.go ?_; conv => whnf)
    | (refine CallG.go (S77 n hn hml _ _) ?_; conv => whnf)
    | (refine Ix.at (l := l) hi rfl ?_; conv => whnf)
  · refine RetG.one ?_; delta faultyR; simp only [ret1, *, Bool.true_or, Bool.false_or, Bool.or_true, Bool.or_false, Bool.true_and, Bool.false_and, Bool.and_true, Bool.and_false, Bool.not_true, Bool.not_false, if_true, if_false, Bool.false_eq_true, reduceIte]
  obtain ⟨hg1, hg2⟩ := goodLk_find hq
  have hn1 := h.node hg1
  have hl1 := findLk_lt n _ _ hg1
  have hl2 := findLk_lt n _ _ hg2
  refine Lp.go T [.t 3, .t 7] (fun (a : Nat × Int × Int) => match a with | (k, s, q) => [(1, cellsV l), (2, i64 i), (3, .op 0 0), (7, .op 1 0), (8, i64 s), (9, i64 q), (10, i64 k)])
    (fun _ => [.box n.c, .box (gd l i).c]) (fun m a => m + a.1 = l.length ∧ touchGo (gd l i) i l 0 = touchGo (gd l i) i (l.drop a.1) a.1 ∧ dist n l i (gd l i).to_ = distGo n i (gd l i).to_ (l.drop a.1) a.1 a.2.1 ∧
      dist n l i (gd l i).from_ = distGo n i (gd l i).from_ (l.drop a.1) a.1 a.2.2 ∧ W a.2.1 = a.2.1 ∧ W a.2.2 = a.2.2) l.length (0, 0, 0) ⟨by simp, by simp, by simp [dist], by simp [dist], by decide, by decide⟩ [.t 3, .t 7] ?_ ?_
  · (conv => whnf); refine ⟨rfl, ?_, ?_⟩ <;> (conv => whnf) <;> (repeat' apply And.intro) <;> first | exact True.intro | rfl | (conv => rhs; whnf)
  rintro m ⟨k, s, q⟩ ⟨hm, hk, hd1, hd2, hs, hq'⟩
  simp only at hm hk hd1 hd2 hs hq'
  conv => whnf
  refine LenG.map ?_; conv => whnf
  refine Br.mk (fun hq => ?_) (fun hq => ?_) <;> conv => whnf
  · have hlt : k < l.length := by simpa using hq
    rw [touchGo_step _ _ hlt, touches_eq] at hk
    rw [distGo_step n _ _ hlt] at hd1 hd2
    repeat' first
      | (refine Br.T ?_; conv => whnf)
      | (refine Br.F ?_; conv => whnf)
      | (refine Br.mk (fun hq => ?_) (fun hq => ?_) <;> conv => whnf)
      | (refine FnG.go rfl ?_; conv => whnf)
      | (refine LenG.map ?_; conv => whnf)
      | (refine LenG.go ?_; conv => whnf)
      | (refine CallG.go (S311 n hp _ _) ?_; conv => whnf)
      | (refine Ix.at (l := l) hlt rfl ?_; conv => whnf)
    all_goals first
      | (refine RetG.one ?_; delta faultyR; simp only [ret1, *, Bool.true_or, Bool.false_or, Bool.or_true, Bool.or_false, Bool.true_and, Bool.false_and, Bool.and_true, Bool.and_false, Bool.not_true, Bool.not_false, if_true, if_false, Bool.false_eq_true, reduceIte]; done)
      | skip
    · have hne : ((k : Int) == (i : Int)) = false := by simp_all
      rw [if_neg (by rw [hne]; simp), ← dist1_eq (dist1_W hs) hn1.2, ← dist1_eq hs hn1.2] at hd1
      rw [if_neg (by rw [hne]; simp), ← dist1_eq (dist1_W hq') hn1.1, ← dist1_eq hq' hn1.1] at hd2
      refine ⟨m - 1, (k + 1, W (W (s + rpw n (gd l k).from_ (gd l i).to_) + rpw n (gd l k).to_ (gd l i).to_), W (W (q + rpw n (gd l k).from_ (gd l i).from_) + rpw n (gd l k).to_ (gd l i).from_)), by omega,
        ⟨by simp only; omega, by simp only [*, Bool.true_or, Bool.false_or, Bool.or_true, Bool.or_false, Bool.true_and, Bool.false_and, Bool.and_true, Bool.and_false, Bool.not_true, Bool.not_false, if_true, if_false, Bool.false_eq_true, reduceIte], hd1, hd2, W_W _, W_W _⟩, ?_⟩
      (conv => whnf); refine ⟨rfl, ?_, ?_⟩ <;> (conv => whnf) <;> (repeat' apply And.intro) <;> first | exact True.intro | rfl | (conv => rhs; whnf)
      exact incr (by omega)
    · have hne : ((k : Int) == (i : Int)) = true := by simp_all
      rw [if_pos hne] at hd1 hd2
      refine ⟨m - 1, (k + 1, s, q), by omega, ⟨by simp only; omega, by simp only [*, Bool.true_or, Bool.false_or, Bool.or_true, Bool.or_false, Bool.true_and, Bool.false_and, Bool.and_true, Bool.and_false, Bool.not_true, Bool.not_false, if_true, if_false, Bool.false_eq_true, reduceIte], hd1, hd2, hs, hq'⟩, ?_⟩
      (conv => whnf); refine ⟨rfl, ?_, ?_⟩ <;> (conv => whnf) <;> (repeat' apply And.intro) <;> first | exact True.intro | rfl | (conv => rhs; whnf)
      exact incr (by omega)
  · rw [touchGo_end _ _ (by simpa using hq)] at hk
    rw [distGo_end n _ _ (by simpa using hq)] at hd1 hd2
    repeat' first
      | (refine Br.T ?_; conv => whnf)
      | (refine Br.F ?_; conv => whnf)
      | (refine Br.mk (fun hq => ?_) (fun hq => ?_) <;> conv => whnf)
      | (refine FnG.go rfl ?_; conv => whnf)
      | (refine LenG.map ?_; conv => whnf)
      | (refine LenG.go ?_; conv => whnf)
      | (refine CallG.go (S151 n hn _ _) ?_; conv => whnf)
      | (refine CallG.go (S170 n _ _) ?_; conv => whnf)
      | (refine Ix.int (l := n.margin) ⟨hg1, by omega⟩ rfl ?_; conv => whnf)
      | (refine Ix.int (l := n.margin) ⟨hg2, by omega⟩ rfl ?_; conv => whnf)
    all_goals (refine RetG.one ?_; delta faultyR; simp only [ret1, *, Bool.true_or, Bool.false_or, Bool.or_true, Bool.or_false, Bool.true_and, Bool.false_and, Bool.and_true, Bool.and_false, Bool.not_true, Bool.not_false, if_true, if_false, Bool.false_eq_true, reduceIte])
/-! ### both say the same -/
theorem pw_R {n : GNet} (h : NetOk n) (a b : Int) : 0 ≤ n.pw a b ∧ n.pw a b ≤ 68719476736 := by
  unfold GNet.pw
  have key : ∀ r : List Int, (∀ p ∈ r, 0 ≤ p ∧ p ≤ 68719476736) → 0 ≤ gi r b ∧ gi r b ≤ 68719476736 := by
    intro r hr
    by_cases hb : b.toNat < r.length
    · exact hr _ (gd_mem hb)
    · have : gi r b = 0 := by simp [gi, List.getD, List.getElem?_eq_none (Nat.not_lt.1 hb)]
      omega
  by_cases ha : a.toNat < n.power.length
  · exact key _ (h.powR _ (gd_mem ha))
  · have : gi n.power a = [] := by simp [gi, List.getD, List.getElem?_eq_none (Nat.not_lt.1 ha)]; rfl
    rw [this]
    exact key [] (by simp)
theorem dist1_R {n : GNet} (h : NetOk n) {node s a : Int} {c : Int} (hc : c ≤ 4611686018427387904) (h0 : 0 ≤ s) (h1 : s ≤ c) : 0 ≤ dist1 n node s a ∧ dist1 n node s a ≤ c + 68719476736 := by
  unfold dist1
  have := pw_R h a node
  split
  · rw [Wi (by omega)]; omega
  · omega
theorem distGo_R {n : GNet} (h : NetOk n) (i node : Int) : ∀ (l : List GCell) (k : Nat) (s c : Int), 0 ≤ s → s ≤ c → c + l.length * 137438953472 ≤ 4611686018427387904 → 0 ≤ distGo n i node l k s ∧ distGo n i node l k s ≤ c + l.length * 137438953472
  | [], k, s, c, h0, h1, h2 => by simp [distGo]; omega
  | x :: r, k, s, c, h0, h1, h2 => by
    simp only [List.length_cons] at h2 ⊢
    rw [distGo]
    have a1 := dist1_R h (node := node) (a := x.from_) (c := c) (by omega) h0 h1
    have a2 := dist1_R h (node := node) (a := x.to_) (c := c + 68719476736) (by omega) a1.1 a1.2
    have := distGo_R h i node r (k + 1) (if (k : Int) == i then s else dist1 n node (dist1 n node s x.from_) x.to_) (c + 137438953472) (by split <;> omega) (by split <;> omega) (by omega)
    constructor
    · exact this.1
    · refine Int.le_trans this.2 ?_; omega
theorem dist_R {n : GNet} (h : NetOk n) (l : List GCell) (hl : l.length ≤ 600) (i node : Int) : 0 ≤ dist n l i node ∧ dist n l i node ≤ 82463372083200 := by
  have := distGo_R h i node l 0 0 0 (Int.le_refl _) (Int.le_refl _) (by omega)
  unfold dist
  omega
theorem hearsB_eq {n : GNet} (h : NetOk n) (hv : netErr n = 0) {s d : Int} (hs : 0 ≤ s ∧ s ≤ 68719476736) (hd : 0 ≤ d ∧ d ≤ 82463372083200) : hearsB n s d = heard n s d := by
  unfold hearsB
  rw [hv]
  have h1 : inI s 0 8796093022208 = true := by simp; omega
  rw [h1]
  by_cases h2 : d ≤ 8796093022208
  · have : inI d 0 8796093022208 = true := by simp; omega
    rw [this]; simp
  · have : inI d 0 8796093022208 = false := by simp; omega
    rw [this]
    have hn := h.noise
    have ht := h.thr
    have hh : heard n s d = false := by
      unfold heard
      have b1 : 0 ≤ n.noise + d ∧ n.noise + d ≤ 82532091559936 := by omega
      have b2 : n.thr * (n.noise + d) ≤ 100000 * 82532091559936 := Int.mul_le_mul ht.2 b1.2 b1.1 (by omega)
      have b3 : 1000 * 8796093022208 ≤ n.thr * (n.noise + d) := Int.mul_le_mul ht.1 (by omega) (by omega) (by omega)
      rw [Wi (n := n.noise + d) (by omega), Wi (n := n.thr * (n.noise + d)) (by omega), Wi (n := s * 1000) (by omega)]
      simp only [decide_eq_false_iff_not]
      omega
    rw [hh]; simp
theorem margin_R {n : GNet} (h : NetOk n) {i : Int} (h0 : 0 ≤ i) (h1 : i.toNat < n.links.length) : 0 ≤ gi n.margin i ∧ gi n.margin i ≤ 68719476736 := by
  have h2 := (h.at h1).margin
  have h3 := pw_R h (gd n.links i.toNat).from_ (gd n.links i.toNat).to_
  change 0 ≤ gd n.margin i.toNat ∧ gd n.margin i.toNat ≤ _
  omega
theorem faulty_eq {n : GNet} (hv : netErr n = 0) (l : List GCell) (hl : l.length ≤ 600) (i : Nat) : faultyP n l i = faultyR n l i := by
  have h := netOk_of hv
  unfold faultyP faultyR
  cases hg : !goodLk n (gd l i).from_ (gd l i).to_ with
  | true => rfl
  | false =>
    obtain ⟨h1, h2⟩ := goodLk_find hg
    rw [hearsB_eq h hv (margin_R h h1 (findLk_lt n _ _ h1)) (dist_R h l hl _ _), hearsB_eq h hv (margin_R h h2 (findLk_lt n _ _ h2)) (dist_R h l hl _ _)]
theorem S240 (n : GNet) (hn : n.ok) (l : List GCell) (hl : Cn l) : Sound Tryz.prog 240 [n.v, cellsV l] (.tup [i64 (if netErr n != 0 then -1 else firstF (faultyR n l) l.length 0), .bool (netErr n == 0 && decide (firstF (faultyR n l) l.length 0 ≥ 0))]) := by
  refine ex_intro mixedT T [] Tryz.func240 rfl (by rw [Tryz.ntmps240]; simp) (by kernel_rfl) ?_
  conv => whnf
  repeat' first | (refine LenG.map ?_; conv => whnf) | (refine LenG.go ?_; conv => whnf)
  repeat' first
    | (refine Br.T ?_; conv => whnf)
    | (refine Br.F ?_; conv => whnf)
    | (refine Br.mk (fun hq => ?_) (fun hq => ?_) <;> conv => whnf)
    | (refine FnG.go rfl ?_; conv => whnf)
    | (refine LenG.map ?_; conv => whnf)
    | (refine LenG.go ?_; conv => whnf)
    | (refine CallG.go (S44 n hn) ?_; conv => whnf)
  · refine RetG.two ?_ ?_ <;> simp_all [ret1]
  have hv : netErr n = 0 := by simpa using hq
  have h := netOk_of hv
  rw [hv]
  refine Lp.go T [.t 2] (fun k : Nat => [(1, cellsV l), (2, .op 0 0), (6, i64 k)])
    (fun _ => [.box n.c]) (fun m k => m + k = l.length ∧ firstF (faultyR n l) l.length 0 = firstF (faultyR n l) m k) l.length 0 ⟨by simp, rfl⟩ [.t 2] ?_ ?_
  · (conv => whnf); refine ⟨rfl, ?_, ?_⟩ <;> (conv => whnf) <;> (repeat' apply And.intro) <;> first | exact True.intro | rfl | (conv => rhs; whnf)
  rintro m k ⟨hm, hk⟩
  conv => whnf
  refine LenG.map ?_; conv => whnf
  refine Br.mk (fun hq => ?_) (fun hq => ?_) <;> conv => whnf
  · have hlt : k < l.length := by simpa using hq
    obtain ⟨m, rfl⟩ : ∃ q, m = q + 1 := ⟨m - 1, by omega⟩
    rw [firstF] at hk
    repeat' first
      | (refine Br.T ?_; conv => whnf)
      | (refine Br.F ?_; conv => whnf)
      | (refine Br.mk (fun hq => ?_) (fun hq => ?_) <;> conv => whnf)
      | (refine FnG.go rfl ?_; conv => whnf)
      | (refine LenG.map ?_; conv => whnf)
      | (refine LenG.go ?_; conv => whnf)
      | (refine CallG.go (S288 n hn h l hl k hlt) ?_; conv => whnf)
    · refine RetG.two ?_ ?_ <;> simp_all [ret1]
    · refine ⟨m, k + 1, by omega, ⟨by omega, by simp_all⟩, ?_⟩
      (conv => whnf); refine ⟨rfl, ?_, ?_⟩ <;> (conv => whnf) <;> (repeat' apply And.intro) <;> first | exact True.intro | rfl | (conv => rhs; whnf)
      exact incr (by omega)
  · have hge : l.length ≤ k := by simpa using hq
    obtain rfl : m = 0 := by omega
    rw [firstF] at hk
    refine RetG.two ?_ ?_ <;> simp_all [ret1]
def goodCellsR (n : GNet) (l : List GCell) : Bool := netErr n == 0 && !(List.range' 0 l.length).any (faultyR n l)
theorem S171 (n : GNet) (hn : n.ok) (l : List GCell) (hl : Cn l) : Sound Tryz.prog 171 [n.v, cellsV l] (.bool (goodCellsR n l)) := by
  refine ex_intro mixedT T [] Tryz.func171 rfl (by rw [Tryz.ntmps171]; simp) (by kernel_rfl) ?_
  conv => whnf
  repeat' first | (refine LenG.map ?_; conv => whnf) | (refine LenG.go ?_; conv => whnf)
  repeat' first
    | (refine Br.T ?_; conv => whnf)
    | (refine Br.F ?_; conv => whnf)
    | (refine Br.mk (fun hq => ?_) (fun hq => ?_) <;> conv => whnf)
    | (refine FnG.go rfl ?_; conv => whnf)
    | (refine LenG.map ?_; conv => whnf)
    | (refine LenG.go ?_; conv => whnf)
    | (refine CallG.go (S240 n hn l hl) ?_; conv => whnf)
    | (refine CallG.go (S44 n hn) ?_; conv => whnf)
  all_goals (refine RetG.one ?_; delta goodCellsR; rw [← firstF_any]; simp only [ret1, *, Bool.true_or, Bool.false_or, Bool.or_true, Bool.or_false, Bool.true_and, Bool.false_and, Bool.and_true, Bool.and_false, Bool.not_true, Bool.not_false, if_true, if_false, Bool.false_eq_true, reduceIte])
theorem good_eq {n : GNet} (l : List GCell) (hl : l.length ≤ 600) : goodCells n l = goodCellsR n l := by
  unfold goodCells goodCellsR
  by_cases hv : netErr n = 0
  · rw [show faultyP n l = faultyR n l from funext fun i => faulty_eq hv l hl i]
  · have : (netErr n == 0) = false := by simpa using hv
    rw [this]; rfl
def GCell.nums (c : GCell) : List Int := [c.slot, c.offset, c.from_, c.to_, c.flow]
def cmpInts : List Int → List Int → Int
  | [], [] => 0
  | [], _ :: _ => -1
  | _ :: _, [] => 1
  | x :: r, y :: s => if cmpI x y != 0 then cmpI x y else cmpInts r s
def cmpCell (a b : GCell) : Int := cmpInts a.nums b.nums
theorem S159 (c : GCell) : Sound Tryz.prog 159 [c.v] (.ag (c.nums.map fun x => i64 x)) := by
  refine ex_intro mixedT T [] Tryz.func159 rfl (by rw [Tryz.ntmps159]; simp) (by kernel_rfl) ?_
  conv => whnf
  repeat' first | (refine LenG.map ?_; conv => whnf) | (refine LenG.go ?_; conv => whnf)
  exact RetG.one rfl
theorem drop_gd {α : Type} [Inhabited α] {l : List α} {i : Nat} (h : i < l.length) : l.drop i = gd l i :: l.drop (i + 1) := by
  have e : gd l i = l[i] := by simp [gd, List.getD, h]
  rw [List.drop_eq_getElem_cons h, e]
theorem S265 (a b : List Int) (ha : Cn a) (hb : Cn b) : Sound Tryz.prog 265 [intsV a, intsV b] (i64 (cmpInts a b)) := by
  refine ex_intro mixedT T [] Tryz.func265 rfl (by rw [Tryz.ntmps265]; simp) (by kernel_rfl) ?_
  conv => whnf
  repeat' first | (refine LenG.map ?_; conv => whnf) | (refine LenG.go ?_; conv => whnf)
  refine Lp.go T [] (fun i : Nat => [(0, intsV a), (1, intsV b), (9, intsV a), (10, i64 a.length), (11, i64 i)]) (fun _ => []) (fun m i => m + i = a.length ∧ i ≤ b.length ∧ cmpInts a b = cmpInts (a.drop i) (b.drop i)) a.length 0 ⟨by simp, by simp, by simp⟩ [] ?_ ?_
  · (conv => whnf); refine ⟨rfl, ?_, ?_⟩ <;> (conv => whnf) <;> (repeat' apply And.intro) <;> first | exact True.intro | rfl | (conv => rhs; whnf)
  rintro m i ⟨hm, hib, hi⟩
  conv => whnf
  refine Br.mk (fun hq => ?_) (fun hq => ?_) <;> conv => whnf
  · have hlt : i < a.length := by simpa using hq
    rw [drop_gd hlt] at hi
    refine Ix.at (l := a) hlt rfl ?_; conv => whnf
    refine LenG.map ?_; conv => whnf
    refine Br.mk (fun hq => ?_) (fun hq => ?_) <;> conv => whnf
    · rw [(List.drop_eq_nil_of_le (by simp at hq; omega) : b.drop i = [])] at hi
      exact RetG.one (by rw [hi]; rfl)
    · have hltb : i < b.length := by simp at hq; omega
      rw [drop_gd hltb, cmpInts] at hi
      repeat' first
        | (refine Br.T ?_; conv => whnf)
        | (refine Br.F ?_; conv => whnf)
        | (refine Br.mk (fun hq => ?_) (fun hq => ?_) <;> conv => whnf)
        | (refine FnG.go rfl ?_; conv => whnf)
        | (refine LenG.map ?_; conv => whnf)
        | (refine LenG.go ?_; conv => whnf)
        | (refine CallG.go (S174 _ _) ?_; conv => whnf)
        | (refine Ix.at (l := b) hltb rfl ?_; conv => whnf)
      · refine RetG.one ?_; rw [hi]; simp only [ret1, *, Bool.true_or, Bool.false_or, Bool.or_true, Bool.or_false, Bool.true_and, Bool.false_and, Bool.and_true, Bool.and_false, Bool.not_true, Bool.not_false, if_true, if_false, Bool.false_eq_true, reduceIte]
      · refine ⟨m - 1, i + 1, by omega, ⟨by omega, by omega, by rw [hi]; simp only [*, Bool.true_or, Bool.false_or, Bool.or_true, Bool.or_false, Bool.true_and, Bool.false_and, Bool.and_true, Bool.and_false, Bool.not_true, Bool.not_false, if_true, if_false, Bool.false_eq_true, reduceIte]⟩, ?_⟩
        (conv => whnf); refine ⟨rfl, ?_, ?_⟩ <;> (conv => whnf) <;> (repeat' apply And.intro) <;> first | exact True.intro | rfl | (conv => rhs; whnf)
        exact incr (by omega)
  · have hge : a.length ≤ i := by simpa using hq
    rw [List.drop_eq_nil_of_le hge] at hi
    repeat' first
      | (refine Br.T ?_; conv => whnf)
      | (refine Br.F ?_; conv => whnf)
      | (refine Br.mk (fun hq => ?_) (fun hq => ?_) <;> conv => whnf)
      | (refine FnG.go rfl ?_; conv => whnf)
      | (refine LenG.map ?_; conv => whnf)
      | (refine LenG.go ?_; conv => whnf)
    · have h1 : i < b.length := by simp at hq; omega
      rw [drop_gd h1] at hi
      exact RetG.one (by rw [hi]; rfl)
    · have h1 : b.length ≤ i := by simp at hq; omega
      rw [List.drop_eq_nil_of_le h1] at hi
      exact RetG.one (by rw [hi]; rfl)
theorem S191 (a b : GCell) : Sound Tryz.prog 191 [a.v, b.v, .fn 159 []] (i64 (cmpCell a b)) := by
  refine ex_intro mixedT T [1] Tryz.func191 rfl (by rw [Tryz.ntmps191]; simp) (by kernel_rfl) ?_
  conv => whnf
  repeat' first | (refine LenG.map ?_; conv => whnf) | (refine LenG.go ?_; conv => whnf)
  repeat' first
    | (refine Br.T ?_; conv => whnf)
    | (refine Br.F ?_; conv => whnf)
    | (refine Br.mk (fun hq => ?_) (fun hq => ?_) <;> conv => whnf)
    | (refine FnG.go rfl ?_; conv => whnf)
    | (refine LenG.map ?_; conv => whnf)
    | (refine LenG.go ?_; conv => whnf)
    | (refine CallG.go (S159 a) ?_; conv => whnf)
    | (refine CallG.go (S159 b) ?_; conv => whnf)
    | (refine CallG.go (S265 a.nums b.nums (by simp [GCell.nums]) (by simp [GCell.nums])) ?_; conv => whnf)
    | (refine Nd.go (by unfold noClash; kernel_rfl) ?_; conv => whnf)
  exact RetG.one rfl
theorem S110 (a b : GCell) : Sound Tryz.prog 110 [a.v, b.v] (i64 (cmpCell a b)) := by
  refine ex_intro mixedT T [] Tryz.func110 rfl (by rw [Tryz.ntmps110]; simp) (by kernel_rfl) ?_
  conv => whnf
  repeat' first | (refine LenG.map ?_; conv => whnf) | (refine LenG.go ?_; conv => whnf)
  repeat' first
    | (refine Br.T ?_; conv => whnf)
    | (refine Br.F ?_; conv => whnf)
    | (refine Br.mk (fun hq => ?_) (fun hq => ?_) <;> conv => whnf)
    | (refine FnG.go rfl ?_; conv => whnf)
    | (refine LenG.map ?_; conv => whnf)
    | (refine LenG.go ?_; conv => whnf)
    | (refine CallG.go (S191 a b) ?_; conv => whnf)
  exact RetG.one rfl
abbrev insI (x n : Int) : Bool := decide (x ≥ 0) && decide (x < n)
theorem S190 (a b : Int) : Sound Tryz.prog 190 [i64 a, i64 b] (.bool (insI a b)) := by
  refine ex_intro mixedT T [] Tryz.func190 rfl (by rw [Tryz.ntmps190]; simp) (by kernel_rfl) ?_
  conv => whnf
  repeat' first | (refine LenG.map ?_; conv => whnf) | (refine LenG.go ?_; conv => whnf)
  repeat' first
    | (refine Br.T ?_; conv => whnf)
    | (refine Br.F ?_; conv => whnf)
    | (refine Br.mk (fun hq => ?_) (fun hq => ?_) <;> conv => whnf)
    | (refine FnG.go rfl ?_; conv => whnf)
    | (refine LenG.map ?_; conv => whnf)
    | (refine LenG.go ?_; conv => whnf)
  all_goals (refine RetG.one ?_; (try simp only [Bool.not_eq_true', Bool.not_eq_false'] at *); (try delta insI); simp only [ret1, *, Bool.true_or, Bool.false_or, Bool.or_true, Bool.or_false, Bool.true_and, Bool.false_and, Bool.and_true, Bool.and_false, Bool.not_true, Bool.not_false, if_true, if_false, Bool.false_eq_true, reduceIte])
def placed (s : GSched) (c : GCell) : Bool := insI c.slot s.length && insI c.offset s.offsets
theorem S189 (s : GSched) (c : GCell) : Sound Tryz.prog 189 [s.v, c.v] (.bool (placed s c)) := by
  refine ex_intro mixedT T [] Tryz.func189 rfl (by rw [Tryz.ntmps189]; simp) (by kernel_rfl) ?_
  conv => whnf
  repeat' first | (refine LenG.map ?_; conv => whnf) | (refine LenG.go ?_; conv => whnf)
  repeat' first
    | (refine Br.T ?_; conv => whnf)
    | (refine Br.F ?_; conv => whnf)
    | (refine Br.mk (fun hq => ?_) (fun hq => ?_) <;> conv => whnf)
    | (refine FnG.go rfl ?_; conv => whnf)
    | (refine LenG.map ?_; conv => whnf)
    | (refine LenG.go ?_; conv => whnf)
    | (refine CallG.go (S190 _ _) ?_; conv => whnf)
  all_goals (refine RetG.one ?_; (try simp only [Bool.not_eq_true', Bool.not_eq_false'] at *); (try delta placed); simp only [ret1, *, Bool.true_or, Bool.false_or, Bool.or_true, Bool.or_false, Bool.true_and, Bool.false_and, Bool.and_true, Bool.and_false, Bool.not_true, Bool.not_false, if_true, if_false, Bool.false_eq_true, reduceIte])
def formedC (s : GSched) (c : GCell) : Bool := placed s c && insI c.from_ 32 && insI c.to_ 32 && insI c.flow 256
theorem S108 (s : GSched) (c : GCell) : Sound Tryz.prog 108 [s.v, c.v] (.bool (formedC s c)) := by
  refine ex_intro mixedT T [] Tryz.func108 rfl (by rw [Tryz.ntmps108]; simp) (by kernel_rfl) ?_
  conv => whnf
  repeat' first | (refine LenG.map ?_; conv => whnf) | (refine LenG.go ?_; conv => whnf)
  repeat' first
    | (refine Br.T ?_; conv => whnf)
    | (refine Br.F ?_; conv => whnf)
    | (refine Br.mk (fun hq => ?_) (fun hq => ?_) <;> conv => whnf)
    | (refine FnG.go rfl ?_; conv => whnf)
    | (refine LenG.map ?_; conv => whnf)
    | (refine LenG.go ?_; conv => whnf)
    | (refine CallG.go (S189 s c) ?_; conv => whnf)
    | (refine CallG.go (S190 _ _) ?_; conv => whnf)
  all_goals (refine RetG.one ?_; (try simp only [Bool.not_eq_true', Bool.not_eq_false'] at *); (try delta formedC); simp only [ret1, *, Bool.true_or, Bool.false_or, Bool.or_true, Bool.or_false, Bool.true_and, Bool.false_and, Bool.and_true, Bool.and_false, Bool.not_true, Bool.not_false, if_true, if_false, Bool.false_eq_true, reduceIte])
def sized (s : GSched) : Bool := decide (s.length ≥ 1) && decide (s.length ≤ 512) && decide (s.offsets ≥ 1) && decide (s.offsets ≤ 16)
theorem S119 (s : GSched) : Sound Tryz.prog 119 [s.v] (.bool (sized s)) := by
  refine ex_intro mixedT T [] Tryz.func119 rfl (by rw [Tryz.ntmps119]; simp) (by kernel_rfl) ?_
  conv => whnf
  repeat' first | (refine LenG.map ?_; conv => whnf) | (refine LenG.go ?_; conv => whnf)
  repeat' first
    | (refine Br.T ?_; conv => whnf)
    | (refine Br.F ?_; conv => whnf)
    | (refine Br.mk (fun hq => ?_) (fun hq => ?_) <;> conv => whnf)
    | (refine FnG.go rfl ?_; conv => whnf)
    | (refine LenG.map ?_; conv => whnf)
    | (refine LenG.go ?_; conv => whnf)
  all_goals (refine RetG.one ?_; (try simp only [Bool.not_eq_true', Bool.not_eq_false'] at *); (try delta sized); simp only [ret1, *, Bool.true_or, Bool.false_or, Bool.or_true, Bool.or_false, Bool.true_and, Bool.false_and, Bool.and_true, Bool.and_false, Bool.not_true, Bool.not_false, if_true, if_false, Bool.false_eq_true, reduceIte])
def formAt (s : GSched) (i : Nat) : Bool := formedC s (gd s.cells i) && !(decide ((i : Int) > 0) && decide (cmpCell (gd s.cells (i - 1)) (gd s.cells i) ≥ 0))
def allFrom (f : Nat → Bool) : Nat → Nat → Bool
  | 0, _ => true
  | m + 1, i => f i && allFrom f m (i + 1)
def form (s : GSched) : Bool := sized s && !decide ((s.cells.length : Int) > 512) && allFrom (formAt s) s.cells.length 0
theorem S91 (s : GSched) (hs : Cn s.cells) : Sound Tryz.prog 91 [s.v] (.bool (form s)) := by
  refine ex_intro mixedT T [] Tryz.func91 rfl (by rw [Tryz.ntmps91]; simp) (by kernel_rfl) ?_
  conv => whnf
  repeat' first | (refine LenG.map ?_; conv => whnf) | (refine LenG.go ?_; conv => whnf)
  repeat' first
    | (refine Br.T ?_; conv => whnf)
    | (refine Br.F ?_; conv => whnf)
    | (refine Br.mk (fun hq => ?_) (fun hq => ?_) <;> conv => whnf)
    | (refine FnG.go rfl ?_; conv => whnf)
    | (refine LenG.map ?_; conv => whnf)
    | (refine LenG.go ?_; conv => whnf)
    | (refine CallG.go (S119 s) ?_; conv => whnf)
  · all_goals (refine RetG.one ?_; (try simp only [Bool.not_eq_true', Bool.not_eq_false'] at *); (try delta form); simp only [ret1, *, Bool.true_or, Bool.false_or, Bool.or_true, Bool.or_false, Bool.true_and, Bool.false_and, Bool.and_true, Bool.and_false, Bool.not_true, Bool.not_false, if_true, if_false, Bool.false_eq_true, reduceIte])
  · all_goals (refine RetG.one ?_; (try simp only [Bool.not_eq_true', Bool.not_eq_false'] at *); (try delta form); simp only [ret1, *, Bool.true_or, Bool.false_or, Bool.or_true, Bool.or_false, Bool.true_and, Bool.false_and, Bool.and_true, Bool.and_false, Bool.not_true, Bool.not_false, if_true, if_false, Bool.false_eq_true, reduceIte])
  refine Lp.go T [.t 1] (fun i : Nat => [(1, .op 0 0), (15, cellsV s.cells), (16, i64 s.cells.length), (17, i64 i)]) (fun _ => [.box s.c]) (fun m i => m + i = s.cells.length ∧ allFrom (formAt s) s.cells.length 0 = allFrom (formAt s) m i) s.cells.length 0 ⟨by simp, rfl⟩ [.t 1] ?_ ?_
  · (conv => whnf); refine ⟨rfl, ?_, ?_⟩ <;> (conv => whnf) <;> (repeat' apply And.intro) <;> first | exact True.intro | rfl | (conv => rhs; whnf)
  rintro m i ⟨hm, hi⟩
  conv => whnf
  refine Br.mk (fun hq => ?_) (fun hq => ?_) <;> conv => whnf
  · have hlt : i < s.cells.length := by simpa using hq
    obtain ⟨m, rfl⟩ : ∃ q, m = q + 1 := ⟨m - 1, by omega⟩
    rw [allFrom] at hi
    repeat' first
      | (refine Br.T ?_; conv => whnf)
      | (refine Br.F ?_; conv => whnf)
      | (refine Br.mk (fun hq => ?_) (fun hq => ?_) <;> conv => whnf)
      | (refine FnG.go rfl ?_; conv => whnf)
      | (refine LenG.map ?_; conv => whnf)
      | (refine LenG.go ?_; conv => whnf)
      | (refine CallG.go (S108 s (gd s.cells i)) ?_; conv => whnf)
      | (refine CallG.go (S110 (gd s.cells (i - 1)) (gd s.cells i)) ?_; conv => whnf)
      | (refine Ix.at (l := s.cells) hlt rfl ?_; conv => whnf)
      | (refine Ix.pred (l := s.cells) (by simp_all) hlt hs rfl ?_; conv => whnf)
    all_goals first
      | (refine RetG.one ?_; (try simp only [Bool.not_eq_true', Bool.not_eq_false'] at *); delta form; rw [hi]; delta formAt; simp only [ret1, *, Bool.true_or, Bool.false_or, Bool.or_true, Bool.or_false, Bool.true_and, Bool.false_and, Bool.and_true, Bool.and_false, Bool.not_true, Bool.not_false, if_true, if_false, Bool.false_eq_true, reduceIte]; done)
      | (refine ⟨m, i + 1, by omega, ⟨by omega, by (try simp only [Bool.not_eq_true', Bool.not_eq_false'] at *); rw [hi]; delta formAt; simp only [*, Bool.true_or, Bool.false_or, Bool.or_true, Bool.or_false, Bool.true_and, Bool.false_and, Bool.and_true, Bool.and_false, Bool.not_true, Bool.not_false, if_true, if_false, Bool.false_eq_true, reduceIte]⟩, ?_⟩; (conv => whnf); refine ⟨rfl, ?_, ?_⟩ <;> (conv => whnf) <;> (repeat' apply And.intro) <;> first | exact True.intro | rfl | exact incr (by omega))
  · obtain rfl : m = 0 := by
      have : s.cells.length ≤ i := by simpa using hq
      omega
    rw [allFrom] at hi
    all_goals (refine RetG.one ?_; (try simp only [Bool.not_eq_true', Bool.not_eq_false'] at *); (try delta form); simp only [ret1, *, Bool.true_or, Bool.false_or, Bool.or_true, Bool.or_false, Bool.true_and, Bool.false_and, Bool.and_true, Bool.and_false, Bool.not_true, Bool.not_false, if_true, if_false, Bool.false_eq_true, reduceIte])
end Go.Proofs.YtbaajjihhdmdpaaGreatDoor

namespace Go.Proofs.YtbaajjihhdmdpaaGreatDoor
open Go.RowKit
set_option linter.unusedVariables false
set_option linter.unusedSimpArgs false
set_option linter.unnecessarySimpa false
set_option linter.unusedSectionVars false
variable [Lax]
/-! ### rows, flat -/
theorem rows_len {sz : Nat} : ∀ {R : List (List AV)}, (∀ x ∈ R, x.length = sz) → R.flatten.length = R.length * sz
  | [], _ => by simp
  | x :: R, h => by
    rw [List.flatten_cons, List.length_append, rows_len (fun y hy => h y (List.mem_cons_of_mem _ hy)), h x List.mem_cons_self, List.length_cons, Nat.add_mul]
    omega
theorem rows_drop {sz : Nat} : ∀ {R : List (List AV)} (r : Nat), (∀ x ∈ R, x.length = sz) → R.flatten.drop (r * sz) = (R.drop r).flatten
  | R, 0, _ => by simp
  | [], r + 1, _ => by simp
  | x :: R, r + 1, h => by
    have hx := h x List.mem_cons_self
    rw [List.flatten_cons, List.drop_succ_cons, ← rows_drop r (fun y hy => h y (List.mem_cons_of_mem _ hy)), List.drop_append, hx]
    rw [List.drop_eq_nil_of_le (by rw [hx, Nat.add_mul]; omega), List.nil_append, Nat.add_mul]
    congr 1; omega
theorem rows_take {sz : Nat} : ∀ {R : List (List AV)} (r : Nat), (∀ x ∈ R, x.length = sz) → R.flatten.take (r * sz) = (R.take r).flatten
  | R, 0, _ => by simp
  | [], r + 1, _ => by simp
  | x :: R, r + 1, h => by
    have hx := h x List.mem_cons_self
    rw [List.flatten_cons, List.take_succ_cons, List.flatten_cons, ← rows_take r (fun y hy => h y (List.mem_cons_of_mem _ hy)), List.take_append, hx]
    rw [List.take_of_length_le (by rw [hx, Nat.add_mul]; omega)]
    congr 2
    rw [Nat.add_mul]; omega
theorem rows_splice {sz : Nat} {R N : List (List AV)} (r : Nat) (h : ∀ x ∈ R, x.length = sz) (hn : ∀ x ∈ N, x.length = sz) : splice R.flatten (r * sz) N.flatten = (R.take r ++ N ++ R.drop (r + N.length)).flatten := by
  unfold splice
  rw [rows_take r h, rows_len hn, ← Nat.add_mul, rows_drop _ h]
  simp
theorem rows_row {sz : Nat} {R : List (List AV)} {r : Nat} {row : List AV} (h : ∀ x ∈ R, x.length = sz) (hr : R[r]? = some row) : (R.flatten.drop (r * sz)).take row.length = row := by
  have hlt := (List.getElem?_eq_some_iff.1 hr).1
  rw [rows_drop r h, List.drop_eq_getElem_cons hlt, List.flatten_cons]
  have : R[r] = row := by rw [List.getElem?_eq_getElem hlt] at hr; simpa using hr
  rw [this]; simp
theorem rows_get {sz : Nat} {R : List (List AV)} (h : ∀ x ∈ R, x.length = sz) {p : Nat} {x : AV} (hx : R.flatten[p]? = some x) : 0 < sz ∧ getx R (p / sz) (p % sz) = some x := by
  have hp := (List.getElem?_eq_some_iff.1 hx).1
  rw [rows_len h] at hp
  have h0 : 0 < sz := by
    rcases Nat.eq_zero_or_pos sz with e | e
    · subst e; simp at hp
    · exact e
  have hr : p / sz < R.length := Nat.div_lt_of_lt_mul (by rw [Nat.mul_comm]; exact hp)
  refine ⟨h0, ?_⟩
  unfold getx
  rw [List.getElem?_eq_getElem hr]
  simp only [Option.bind_some]
  have hrow := rows_row h (List.getElem?_eq_getElem hr)
  have hl := h _ (List.getElem_mem hr)
  rw [← hrow, List.getElem?_take, if_pos (by rw [hl]; exact Nat.mod_lt _ h0), List.getElem?_drop]
  rw [Nat.mul_comm, Nat.div_add_mod]; exact hx
theorem set_splice {R : List (List AV)} {r : Nat} {x : List AV} (hr : r < R.length) : R.take r ++ [x] ++ R.drop (r + [x].length) = R.set r x := by
  rw [List.set_eq_take_append_cons_drop, if_pos hr]; simp
theorem LdR.row {tb : Tb} {ty : TypeId} {R : List (List AV)} {sz r off : Nat} {row : List AV} {v : AV} {K : AV → Prop} (h : ∀ x ∈ R, x.length = sz) (ho : off = r * sz) (hr : R[r]? = some row) (ht : takeG (tb.ti ty) row (fun w => w = v)) (k : K v) : LdR tb ty R.flatten off K :=
  ⟨row, v, by rw [ho]; exact rows_row h hr, ht, k⟩
theorem SemG.go {P : Program} {i : Nat} {t : Nat → AV} {h : AHeap} {o : Op} {K : AV → AHeap → Prop} (s : SemOp P i t h o K) : SemG P i t h o K := ⟨s⟩
section
variable {P : Program} {i : Nat} {t : Nat → AV} {h : AHeap} {K : AV → AHeap → Prop}
/-- Is a slice nil: of an empty one it is not known. -/
theorem Sem.nil {ty e ty2 : TypeId} {x : Operand} {f : Fl} {xs : List (List AV)} (he : sliceElem P ty = some e) (hx : evA t x = .sl f xs) (h1 : xs ≠ [] → K (.bool false) h) (h2 : xs = [] → ∀ b, K (.bool b) h) :
    SemOp P i t h (.binOp .eql ty x (.const (.slice none 0 0)) ty2) K := by
  refine ⟨fun c e => (by cases e), fun o a C W B next Q ho I hr hi hn => ?_⟩
  obtain ⟨hu, hs⟩ := sliceElem_spec he
  have hrx := ev_slice I hr hx
  obtain ⟨A, c, e1, hne⟩ := rep_sl hrx
  have hK : K (.bool A.isNone) h := by
    by_cases hxs : xs = []
    · exact h2 hxs _
    · obtain ⟨b, off, sz, uf, rfl, _⟩ := hne hxs
      exact h1 hxs
  refine wp_value (u := .bool A.isNone) (W' := W) ?_ (hn _ h _ W C hK (Rep.bool _) I (.refl _ _ _) (.refl _ _) (fun _ _ hq => hq))
  have hg : (eqGuard .eql ty x (.const (.slice none 0 0)) (.slice A xs.length c) (.slice none 0 0)).run P W = .ok () W := by unfold eqGuard; simp
  have ec : a.eval (.const (.slice none 0 0)) = .slice none 0 0 := rfl
  simp only [execOp, ho, e1, ec, Sem.run_bind, hg, Result.andThen_ok, Lib.run_eql_slice_nil W _ _ _ _ _ _ _ hu]
  rfl
theorem Sem.lenMs {ty e : TypeId} {x : Operand} {id lo n c sz : Nat} (he : sliceElem P ty = some e) (hx : evA t x = .ms id lo n c sz) (hK : K (.int .i64 n) h) : SemOp P i t h (.call { callee := .builtin .len, args := #[x], argTypes := #[ty] }) K := by
  refine ⟨fun c e => (by cases e), fun o a C W B next Q ho I hr hi hn => ?_⟩
  have hrx := evA_rep hr x
  rw [hx] at hrx
  obtain ⟨_, q, e1, _⟩ := hrx
  refine wp_value (u := .int .i64 n) (W' := W) ?_ (hn _ h _ W C hK (Rep.int _ _) I (.refl _ _ _) (.refl _ _) (fun _ _ hq => hq))
  simp [execOp, ho, resolve, invoke, builtin, Builtin.len_, e1, run_underlying (sliceElem_spec he).1, goInt]
theorem Sem.capMs {ty e : TypeId} {x : Operand} {id lo n c sz : Nat} (he : sliceElem P ty = some e) (hx : evA t x = .ms id lo n c sz) (hK : K (.int .i64 c) h) : SemOp P i t h (.call { callee := .builtin .cap, args := #[x], argTypes := #[ty] }) K := by
  refine ⟨fun c e => (by cases e), fun o a C W B next Q ho I hr hi hn => ?_⟩
  have hrx := evA_rep hr x
  rw [hx] at hrx
  obtain ⟨_, q, e1, _⟩ := hrx
  refine wp_value (u := .int .i64 c) (W' := W) ?_ (hn _ h _ W C hK (Rep.int _ _) I (.refl _ _ _) (.refl _ _) (fun _ _ hq => hq))
  simp [execOp, ho, resolve, invoke, builtin, Builtin.cap_, e1, run_underlying (sliceElem_spec he).1, goInt]
theorem upd_set (h : AHeap) (id off : Nat) (old cs : List AV) (hid : h id = .box old) : upd h id (setO off cs (h id)) = upd h id (.box (splice old off cs)) := by rw [hid]; rfl
/-- A row is written. -/
theorem Sem.storeMp {ty : TypeId} {x y : Operand} {id off r sz : Nat} {R : List (List AV)} {cs : List AV} (hk : (P.info? ty).isSome = true) (hx : evA t x = .mp id off) (hy : cellsA (evA t y) = some cs) (hl : cs.length = P.cellsOf ty) (ha : cs.all isAtom = true)
    (hb : h id = .box R.flatten) (hR : ∀ x ∈ R, x.length = sz) (hcs : cs.length = sz) (ho : off = r * sz) (hr : r < R.length) (hK : K .undef (upd h id (.box (R.set r cs).flatten))) : SemOp P i t h (.store ty x y) K := by
  refine ⟨fun c e => (by cases e), fun o a C W B next Q hop I hrep hi hn => ?_⟩
  have hrx := evA_rep hrep x
  rw [hx] at hrx
  obtain ⟨us, h1, h2, h3⟩ := cellsA_rep (evA_rep hrep y) hy
  have hfit : off + cs.length ≤ R.flatten.length := by
    rw [rows_len hR, ho, hcs]
    have := Nat.mul_le_mul_right sz (show r + 1 ≤ R.length from hr)
    rw [Nat.add_mul] at this; omega
  obtain ⟨W', hst, I', l, hB⟩ := I.setBox (P := P) hb us h2 h3 hfit (fun u hu => by
    obtain ⟨j, hj, e⟩ := List.mem_iff_getElem.1 hu
    have hj' : j < cs.length := by omega
    have := h3 j _ (List.getElem?_eq_getElem hj')
    rw [List.getD_eq_getElem?_getD, List.getElem?_eq_getElem hj] at this
    rw [← e]
    exact atom_one (List.all_eq_true.1 ha _ (List.getElem_mem hj')) this)
  have hrun : (execOp a.eval o).run P W = .ok .skip W' := by
    have hp' : a.eval x = .pointer (some ⟨C.ι id, off, none⟩) := hrx.2
    simp [execOp, hop, Instr.storeAt, Instr.sureAddr, hp', storeVar, h1, run_sizeOf' hk, ← hl, h2, hst]
  unfold Oper.wp
  rw [hrun]
  have e : upd h id (setO off cs (h id)) = upd h id (.box (R.set r cs).flatten) := by
    rw [upd_set h id off _ cs hb, ho]
    have := rows_splice (N := [cs]) r hR (by simpa using hcs)
    simp only [List.flatten_cons, List.flatten_nil, List.append_nil] at this
    rw [this, ← set_splice hr]
  rw [e] at I' l
  exact hn _ _ Go.undef W' C hK Rep.undef I' l hB (fun q hq h0 => by
    by_cases e : q = id
    · subst e; rw [hb] at h0; cases h0
    · rw [upd_ne _ e]; exact h0)
/-- Cells from somewhere are laid into a block of the machine's own. -/
theorem Sem.lay {o : Oper} {a : Act} {C : Ctx} {W : World} {B : Nat} {next : Act → World → Prop} {Q : Exit → Act → World → Prop} (I : Inv P C h W B) {id off : Nat} {old cs : List AV} (hb : h id = .box old) (us : List Value) (h2 : us.length = cs.length)
    (h3 : ∀ j x, cs[j]? = some x → RepT0 C W h x (us.getD j Go.undef)) (hf : off + cs.length ≤ old.length) (h1 : ∀ u ∈ us, u.oneCell' = true) {u : Value} {v : AV}
    (hrun : ∀ W', (storeCells ⟨C.ι id, off, none⟩ us).run P W = .ok () W' → (execOp a.eval o).run P W = .ok (.value u) W') (hv : ∀ C' h' W', RepT C' W' h' v u)
    (hn : ∀ v h' u W' C', K v h' → RepT C' W' h' v u → Inv P C' h' W' B → Le C h W C' h' W' → Below B W W' → (∀ id, id ≠ i → h id = .none → h' id = .none) → next (a.put o.dst u) W')
    (hK : K v (upd h id (.box (splice old off cs)))) : o.wp P a W next Q := by
  obtain ⟨W', hst, I', l, hB⟩ := I.setBox (P := P) hb us h2 h3 hf h1
  unfold Oper.wp
  rw [hrun W' hst]
  rw [upd_set h id off _ cs hb] at I' l
  exact hn _ _ u W' C hK (hv _ _ _) I' l hB (fun q hq h0 => by
    by_cases e : q = id
    · subst e; rw [hb] at h0; cases h0
    · rw [upd_ne _ e]; exact h0)
theorem mem_getD_one {us : List Value} {C : Ctx} {W : World} {cs : List AV} (hl : us.length = cs.length) (h3 : ∀ j x, cs[j]? = some x → RepT0 C W h x (us.getD j Go.undef)) (ha : cs.all isAtom = true) : ∀ u ∈ us, u.oneCell' = true := fun u hu => by
  obtain ⟨j, hj, e⟩ := List.mem_iff_getElem.1 hu
  have hj' : j < cs.length := by omega
  have := h3 j _ (List.getElem?_eq_getElem hj')
  rw [List.getD_eq_getElem?_getD, List.getElem?_eq_getElem hj] at this
  rw [← e]
  exact atom_one (List.all_eq_true.1 ha _ (List.getElem_mem hj')) this
/-- The rows of a part become zero. -/
theorem Sem.clear {ty e : TypeId} {x : Operand} {id lo n c sz : Nat} {R : List (List AV)} {z : List AV} (he : sliceElem P ty = some e) (hz : zeroC P e = some z) (hzl : z.length = sz) (hx : evA t x = .ms id lo n c sz) (hb : h id = .box R.flatten) (hR : ∀ x ∈ R, x.length = sz)
    (hf : lo + n ≤ R.length) (hK : K .undef (upd h id (.box (R.take lo ++ List.replicate n z ++ R.drop (lo + n)).flatten))) : SemOp P i t h (.call { callee := .builtin .clear, args := #[x], argTypes := #[ty] }) K := by
  refine ⟨fun c e => (by cases e), fun o a C W B next Q hop I hrep hi hn => ?_⟩
  obtain ⟨hu, hs⟩ := sliceElem_spec he
  have hrx := evA_rep hrep x
  rw [hx] at hrx
  obtain ⟨_, q, e1, hq, hnc⟩ := hrx
  obtain ⟨zv, z1, z2, z3⟩ := run_zeroValue' hz W
  by_cases hn0 : n = 0
  · subst hn0
    refine wp_value (u := .tuple #[]) (W' := W) ?_ ?_
    · simp [execOp, hop, resolve, invoke, builtin, Builtin.clear_, e1, run_underlying hu]
    · have e2 : upd h id (.box (R.take lo ++ List.replicate 0 z ++ R.drop (lo + 0)).flatten) = h := by
        funext j
        unfold upd
        split
        · rename_i e; subst e; rw [hb]; simp
        · rfl
      rw [e2] at hK
      exact hn _ _ _ W C hK Rep.undef I (.refl _ _ _) (.refl _ _) (fun _ _ h => h)
  · have hq : q = lo * sz := hq (by omega)
    subst hq
    have hcells : zv.cells.size = sz := by rw [← hzl, ← z2]; simp
    have hrows : ∀ x ∈ List.replicate n z, x.length = sz := fun x hx => by rw [List.eq_of_mem_replicate hx]; exact hzl
    have hlen : (Builtin.zeroCells zv.cells n).toList.length = (List.replicate n z).flatten.length := by rw [rows_len hrows]; simp [Builtin.zeroCells, hcells]
    have h3 : ∀ j x, (List.replicate n z).flatten[j]? = some x → RepT0 C W h x ((Builtin.zeroCells zv.cells n).toList.getD j Go.undef) := fun j x hj => by
      obtain ⟨h0, hg⟩ := rows_get hrows hj
      have hjl := (List.getElem?_eq_some_iff.1 hj).1
      rw [rows_len hrows, List.length_replicate] at hjl
      have hzx : z[j % sz]? = some x := by
        unfold getx at hg
        obtain ⟨row, hr1, hr2⟩ := Option.bind_eq_some_iff.1 hg
        rw [List.eq_of_mem_replicate (List.mem_of_getElem? hr1)] at hr2
        exact hr2
      have : (Builtin.zeroCells zv.cells n).toList.getD j Go.undef = zv.cells[j % sz]! := by
        rw [List.getD_eq_getElem?_getD, Array.getElem?_toList]
        simp [Builtin.zeroCells, hcells, hjl]
      rw [this]
      have hm : j % sz < zv.cells.size := by rw [hcells]; exact Nat.mod_lt _ h0
      rw [← z2, List.getElem?_map] at hzx
      obtain ⟨u, hu1, rfl⟩ := Option.map_eq_some_iff.1 hzx
      rw [Array.getElem?_toList, Array.getElem?_eq_getElem hm] at hu1
      rw [getElem!_pos zv.cells _ hm]
      simp only [Option.some.injEq] at hu1
      rw [hu1]
      exact const0_rep u
    have hat : (List.replicate n z).flatten.all isAtom = true := by
      rw [List.all_eq_true]
      intro x hx
      obtain ⟨row, hr, hx⟩ := List.mem_flatten.1 hx
      rw [List.eq_of_mem_replicate hr] at hx
      unfold zeroC at hz
      split at hz
      · split at hz
        · rename_i hall
          simp only [Option.some.injEq] at hz
          subst hz
          exact List.all_eq_true.1 hall x hx
        · cases hz
      · cases hz
    refine Sem.lay (i := i) (K := K) (h := h) (v := .undef) (u := .tuple #[]) I hb (Builtin.zeroCells zv.cells n).toList hlen h3 (off := lo * sz) ?_ (mem_getD_one hlen h3 hat) (fun W' hst => ?_) (fun _ _ _ => Rep.undef) hn ?_
    · rw [rows_len hrows, rows_len hR, ← Nat.add_mul, List.length_replicate]
      exact Nat.mul_le_mul_right _ hf
    · have hn1 : ∃ m, n = m + 1 := ⟨n - 1, by omega⟩
      obtain ⟨m, rfl⟩ := hn1
      simp [execOp, hop, resolve, invoke, builtin, Builtin.clear_, e1, run_underlying hu, z1, hst]
    · have := rows_splice (N := List.replicate n z) lo hR hrows
      rw [List.length_replicate] at this
      rw [this]; exact hK
end
end Go.Proofs.YtbaajjihhdmdpaaGreatDoor

namespace Go.Proofs.YtbaajjihhdmdpaaGreatDoor
open Go.RowKit
set_option linter.unusedVariables false
set_option linter.unusedSimpArgs false
set_option linter.unnecessarySimpa false
set_option linter.unusedSectionVars false
set_option maxRecDepth 100000
section
open Go.Shelf
def Tryz.laysItoa_ren : Go.Shelf.Ren := ⟨fun | 171 => 235 | 243 => 286 | 246 => 308 | 283 => 327 | 284 => 328 | 285 => 329 | 286 => 330 | 129 => 261 | 317 => 335 | 318 => 336 | 319 => 337 | 320 => 338 | 337 => 340 | 338 => 341 | n => n, fun | 3 => 3 | 9 => 9 | 2 => 2 | 4 => 4 | 171 => 311 | 0 => 0 | 53 => 265 | 37 => 179 | 5 => 5 | 173 => 313 | 212 => 319 | 51 => 263 | 20 => 20 | 213 => 320 | 46 => 208 | 232 => 322 | 233 => 323 | n => n, fun | 17 => 0 | 18 => 1 | 19 => 2 | n => n⟩
theorem Tryz.laysItoa : Go.Proofs.LaysM.n171 Tryz.prog Tryz.laysItoa_ren := {
  mixed := by kernel_rfl,
  f129 := Tryz.func261.trans (congrArg some (by kernel_rfl)),
  f171 := Tryz.func235.trans (congrArg some (by kernel_rfl)),
  f243 := Tryz.func286.trans (congrArg some (by kernel_rfl)),
  f246 := Tryz.func308.trans (congrArg some (by kernel_rfl)),
  f283 := Tryz.func327.trans (congrArg some (by kernel_rfl)),
  f284 := Tryz.func328.trans (congrArg some (by kernel_rfl)),
  f285 := Tryz.func329.trans (congrArg some (by kernel_rfl)),
  f286 := Tryz.func330.trans (congrArg some (by kernel_rfl)),
  f317 := Tryz.func335.trans (congrArg some (by kernel_rfl)),
  f318 := Tryz.func336.trans (congrArg some (by kernel_rfl)),
  f319 := Tryz.func337.trans (congrArg some (by kernel_rfl)),
  f320 := Tryz.func338.trans (congrArg some (by kernel_rfl)),
  f337 := Tryz.func340.trans (congrArg some (by kernel_rfl)),
  f338 := Tryz.func341.trans (congrArg some (by kernel_rfl)),
  t0 := Tryz.underlying0,
  a0 := Tryz.isAgg0,
  z0 := Tryz.sizeOf0,
  v0 := Tryz.zeroValue0,
  t2 := Tryz.underlying2,
  a2 := Tryz.isAgg2,
  z2 := Tryz.sizeOf2,
  v2 := Tryz.zeroValue2,
  t3 := Tryz.underlying3,
  a3 := Tryz.isAgg3,
  z3 := Tryz.sizeOf3,
  v3 := Tryz.zeroValue3,
  t4 := Tryz.underlying4,
  a4 := Tryz.isAgg4,
  z4 := Tryz.sizeOf4,
  v4 := Tryz.zeroValue4,
  t5 := Tryz.underlying5,
  a5 := Tryz.isAgg5,
  z5 := Tryz.sizeOf5,
  v5 := Tryz.zeroValue5,
  t9 := Tryz.underlying9,
  a9 := Tryz.isAgg9,
  z9 := Tryz.sizeOf9,
  v9 := Tryz.zeroValue9,
  t20 := Tryz.underlying20,
  a20 := Tryz.isAgg20,
  z20 := Tryz.sizeOf20,
  v20 := Tryz.zeroValue20,
  t37 := Tryz.underlying179,
  a37 := Tryz.isAgg179,
  z37 := Tryz.sizeOf179,
  v37 := Tryz.zeroValue179,
  t46 := Tryz.underlying208,
  a46 := Tryz.isAgg208,
  z46 := Tryz.sizeOf208,
  v46 := Tryz.zeroValue208,
  t51 := Tryz.underlying263,
  a51 := Tryz.isAgg263,
  z51 := Tryz.sizeOf263,
  v51 := Tryz.zeroValue263,
  t53 := Tryz.underlying265,
  a53 := Tryz.isAgg265,
  z53 := Tryz.sizeOf265,
  v53 := Tryz.zeroValue265,
  t171 := Tryz.underlying311,
  a171 := Tryz.isAgg311,
  z171 := Tryz.sizeOf311,
  v171 := Tryz.zeroValue311,
  t173 := Tryz.underlying313,
  a173 := Tryz.isAgg313,
  z173 := Tryz.sizeOf313,
  v173 := Tryz.zeroValue313,
  t212 := Tryz.underlying319,
  a212 := Tryz.isAgg319,
  z212 := Tryz.sizeOf319,
  v212 := Tryz.zeroValue319,
  t213 := Tryz.underlying320,
  a213 := Tryz.isAgg320,
  z213 := Tryz.sizeOf320,
  t232 := Tryz.underlying322,
  a232 := Tryz.isAgg322,
  z232 := Tryz.sizeOf322,
  v232 := Tryz.zeroValue322,
  t233 := Tryz.underlying323,
  a233 := Tryz.isAgg323,
  z233 := Tryz.sizeOf323,
  v233 := Tryz.zeroValue323,
  g17 := by kernel_rfl,
  g18 := by kernel_rfl,
  g19 := by kernel_rfl,
  i0 := by kernel_rfl,
  i2 := by kernel_rfl,
  i3 := by kernel_rfl,
  i4 := by kernel_rfl,
  i5 := by kernel_rfl,
  i9 := by kernel_rfl,
  i20 := by kernel_rfl,
  i37 := by kernel_rfl,
  i46 := by kernel_rfl,
  i51 := by kernel_rfl,
  i53 := by kernel_rfl,
  i171 := by kernel_rfl,
  i173 := by kernel_rfl,
  i212 := by kernel_rfl,
  i232 := by kernel_rfl,
  i233 := by kernel_rfl,
  m17 := by kernel_rfl,
  m18 := by kernel_rfl,
  m19 := by kernel_rfl }
end
/-- The library's numbers, as they stand here. -/
def wrRen : Go.Shelf.Ren where
  f n := match n with
    | 166 => 157
    | 240 => 234
    | 276 => 285
    | 169 => 160
    | n => n
  t n := match n with
    | 37 => 179
    | 70 => 178
    | 72 => 181
    | 75 => 183
    | 80 => 189
    | 127 => 239
    | 164 => 278
    | n => n
  g n := n
theorem lays166 : Lays.n166 Tryz.prog wrRen where
  mixed := Checked.mixed Tryz.checked
  f166 := by kernel_rfl
  f240 := by kernel_rfl
  f276 := by kernel_rfl
  t0 := Tryz.underlying0
  a0 := Tryz.isAgg0
  z0 := Tryz.sizeOf0
  v0 := Tryz.zeroValue0
  t3 := Tryz.underlying3
  a3 := Tryz.isAgg3
  z3 := Tryz.sizeOf3
  v3 := Tryz.zeroValue3
  t4 := Tryz.underlying4
  a4 := Tryz.isAgg4
  z4 := Tryz.sizeOf4
  v4 := Tryz.zeroValue4
  t9 := Tryz.underlying9
  a9 := Tryz.isAgg9
  z9 := Tryz.sizeOf9
  v9 := Tryz.zeroValue9
  t20 := Tryz.underlying20
  a20 := Tryz.isAgg20
  z20 := Tryz.sizeOf20
  v20 := Tryz.zeroValue20
  t37 := Tryz.underlying179
  a37 := Tryz.isAgg179
  z37 := Tryz.sizeOf179
  v37 := Tryz.zeroValue179
  t70 := Tryz.underlying178
  a70 := Tryz.isAgg178
  z70 := Tryz.sizeOf178
  v70 := Tryz.zeroValue178
  t72 := Tryz.underlying181
  a72 := Tryz.isAgg181
  z72 := Tryz.sizeOf181
  v72 := Tryz.zeroValue181
  t75 := Tryz.underlying183
  a75 := Tryz.isAgg183
  z75 := Tryz.sizeOf183
  v75 := Tryz.zeroValue183
  t164 := Tryz.underlying278
  a164 := Tryz.isAgg278
  z164 := Tryz.sizeOf278
  v164 := Tryz.zeroValue278
theorem lays169 : Lays.n169 Tryz.prog wrRen where
  mixed := Checked.mixed Tryz.checked
  f169 := by kernel_rfl
  t0 := Tryz.underlying0
  a0 := Tryz.isAgg0
  z0 := Tryz.sizeOf0
  v0 := Tryz.zeroValue0
  t3 := Tryz.underlying3
  a3 := Tryz.isAgg3
  z3 := Tryz.sizeOf3
  v3 := Tryz.zeroValue3
  t9 := Tryz.underlying9
  a9 := Tryz.isAgg9
  z9 := Tryz.sizeOf9
  v9 := Tryz.zeroValue9
  t37 := Tryz.underlying179
  a37 := Tryz.isAgg179
  z37 := Tryz.sizeOf179
  v37 := Tryz.zeroValue179
  t70 := Tryz.underlying178
  a70 := Tryz.isAgg178
  z70 := Tryz.sizeOf178
  v70 := Tryz.zeroValue178
  t72 := Tryz.underlying181
  a72 := Tryz.isAgg181
  z72 := Tryz.sizeOf181
  v72 := Tryz.zeroValue181
  t127 := Tryz.underlying239
  a127 := Tryz.isAgg239
  z127 := Tryz.sizeOf239
  v127 := Tryz.zeroValue239
theorem wrExtra : Builder.Extra Tryz.prog wrRen where
  sizeBuilder := by kernel_rfl
  liesBuilder := by kernel_rfl
  t5 := Tryz.underlying5
  a5 := Tryz.isAgg5
  z5 := Tryz.sizeOf5
  v5 := Tryz.zeroValue5
  infoByte := by kernel_rfl
  cellsByte := by kernel_rfl
  sizeByte := by kernel_rfl
  neB5 := by decide
variable [Lax]
/-- Any text. -/
abbrev strV (l : List UInt8) : AV := .str ⟨l.toArray⟩
theorem Sem.strAdd {P : Program} {i : Nat} {t : Nat → AV} {h : AHeap} {K : AV → AHeap → Prop} {ty ty2 : TypeId} {x y : Operand} {a b : ByteArray} (hx : evA t x = .str a) (hy : evA t y = .str b) (hl : a.size + b.size ≤ 9223372036854775807) (hK : K (.str (a ++ b)) h) : SemOp P i t h (.binOp .add ty x y ty2) K := by
  refine ⟨fun c e => (by cases e), fun o a' C W B next Q ho I hr hi hn => ?_⟩
  have ex : a'.eval x = .string a := by
    have := evA_rep hr x
    rw [hx] at this
    generalize a'.eval x = q at this
    cases this; rfl
  have ey : a'.eval y = .string b := by
    have := evA_rep hr y
    rw [hy] at this
    generalize a'.eval y = q at this
    cases this; rfl
  refine wp_value (u := .string (a ++ b)) (W' := W) ?_ (hn _ h _ W C hK (Rep.str _) I (.refl _ _ _) (.refl _ _) (fun _ _ hq => hq))
  have h1 := run_string_add_sum (P := P) (w := W) a b hl
  simp [execOp, ho, ex, ey, binOp_string_add, h1, eqGuard]
theorem S235 (n : Int) (hn : -9223372036854775808 ≤ n ∧ n ≤ 9223372036854775807) : Sound Tryz.prog 235 [i64 n] (strV (Lib.itoa n)) := by
  intro S W us hT hS hul hrep
  obtain ⟨v, rfl⟩ : ∃ v, us = [v] := by
    cases us with
    | nil => simp at hul
    | cons v us => cases us with
      | nil => exact ⟨v, rfl⟩
      | cons _ _ => simp at hul
  have hv : v = .int .i64 n := by
    have := hrep 0 _ rfl
    simp only [List.getD_cons_zero] at this
    cases this; rfl
  subst hv
  have := Any.strconv_Itoa Tryz.laysItoa n hn.1 hn.2 W hT.tab
  refine Calls.mono this ?_
  rintro e W' ⟨rfl, k, os, rfl⟩
  have hb : ∀ q, q < W.heap.size → (Sort.grow (W.drewN k) os).heap[q]? = W.heap[q]? := fun q hq => by
    show (W.heap ++ os)[q]? = _
    rw [Array.getElem?_append, if_pos hq]
  refine ⟨_, S, rfl, ⟨rfl, rfl, rfl, ?_, hb, .inr (Nat.le_add_right _ _)⟩, fun _ _ h => h, fun _ _ h => .inl h, fun b o hs => ?_, Rep.str _⟩
  · show _ ≤ (W.heap ++ os).size
    simp
  · rw [cell_of_heap (hb b (cell_lt (hS b o hs)))]; exact hS b o hs
/-- A line's numbers. -/
def lineB (w : ByteArray) : List Int → ByteArray
  | [] => w
  | n :: r => lineB (w ++ (⟨#[32]⟩ ++ ⟨(Lib.itoa n).toArray⟩)) r
def lineS (w : ByteArray) (l : List Int) : ByteArray := lineB w l ++ ⟨#[10]⟩
def I64 (n : Int) : Prop := -9223372036854775808 ≤ n ∧ n ≤ 9223372036854775807
theorem lineB_size : ∀ (l : List Int) (w : ByteArray), (∀ n ∈ l, I64 n) → (lineB w l).size ≤ w.size + l.length * 22
  | [], w, _ => by simp [lineB]
  | n :: r, w, h => by
    have h1 := Lib.itoa_length_le n (h n List.mem_cons_self).1 (h n List.mem_cons_self).2
    have h2 := lineB_size r (w ++ (⟨#[32]⟩ ++ ⟨(Lib.itoa n).toArray⟩)) (fun x hx => h x (List.mem_cons_of_mem _ hx))
    have h3 : (w ++ ((⟨#[32]⟩ : ByteArray) ++ ⟨(Lib.itoa n).toArray⟩)).size = w.size + (1 + (Lib.itoa n).length) := by
      rw [ByteArray.size_append, ByteArray.size_append]; rfl
    rw [lineB, List.length_cons]
    omega
theorem lineB_add : ∀ (l : List Int) (i : Nat) (w : ByteArray) (h : i < l.length), lineB w (l.take (i + 1)) = lineB w (l.take i) ++ (⟨#[32]⟩ ++ ⟨(Lib.itoa (gd l i)).toArray⟩)
  | [], i, w, h => by simp at h
  | n :: r, 0, w, h => by simp [lineB, gd]
  | n :: r, i + 1, w, h => by
    rw [List.take_succ_cons, List.take_succ_cons, lineB, lineB, lineB_add r i _ (by simpa using h)]
    simp [gd]
theorem S158 (w : ByteArray) (l : List Int) (hl : Cn l) (hw : w.size ≤ 1000000) (hll : l.length ≤ 1000000) (hi : ∀ n ∈ l, I64 n) : Sound Tryz.prog 158 [.str w, intsV l] (.str (lineS w l)) := by
  refine ex_intro mixedT T [] Tryz.func158 rfl (by rw [Tryz.ntmps158]; simp) (by kernel_rfl) ?_
  conv => whnf
  repeat' first | (refine LenG.map ?_; conv => whnf) | (refine LenG.go ?_; conv => whnf)
  refine Lp.go T [] (fun i : Nat => [(0, .str (lineB w (l.take i))), (7, intsV l), (8, i64 l.length), (9, i64 i)]) (fun _ => []) (fun m i => m + i = l.length) l.length 0 (by simp) [] ?_ ?_
  · (conv => whnf); refine ⟨rfl, ?_, ?_⟩ <;> (conv => whnf) <;> (repeat' apply And.intro) <;> first | exact True.intro | rfl | (conv => rhs; whnf)
  rintro m i hm
  have hsz := lineB_size (l.take i) w (fun n hn => hi n (List.mem_of_mem_take hn))
  rw [List.length_take] at hsz
  conv => whnf
  refine Br.mk (fun hq => ?_) (fun hq => ?_) <;> conv => whnf
  · have hlt : i < l.length := by simpa using hq
    have hin := hi _ (gd_mem hlt)
    have hlen := Lib.itoa_length_le _ hin.1 hin.2
    have e1 : ((⟨#[32]⟩ : ByteArray) ++ (⟨(Lib.itoa (gd l i)).toArray⟩ : ByteArray)).size = 1 + (Lib.itoa (gd l i)).length := by rw [ByteArray.size_append]; rfl
    refine Ix.at (l := l) hlt rfl ?_; conv => whnf
    refine FnG.go rfl ?_; conv => whnf
    refine CallG.go (S235 _ hin) ?_; conv => whnf
    refine SemG.go (Sem.strAdd (a := ⟨#[32]⟩) rfl rfl (by show 1 + (Lib.itoa (gd l i)).length ≤ _; omega) ?_); conv => whnf
    refine SemG.go (Sem.strAdd rfl rfl (by rw [e1]; omega) ?_); conv => whnf
    refine ⟨m - 1, i + 1, by omega, by omega, ?_⟩
    (conv => whnf); refine ⟨rfl, ?_, ?_⟩ <;> (conv => whnf) <;> (repeat' apply And.intro) <;> first | exact True.intro | rfl | exact incr (by omega) | exact congrArg AV.str (lineB_add l i w hlt)
  · have hge : l.length ≤ i := by simpa using hq
    rw [List.take_of_length_le hge] at hsz ⊢
    refine SemG.go (Sem.strAdd (b := ⟨#[10]⟩) rfl rfl (by show _ + 1 ≤ _; omega) ?_); conv => whnf
    exact RetG.one rfl
end Go.Proofs.YtbaajjihhdmdpaaGreatDoor

namespace Go.Proofs.YtbaajjihhdmdpaaGreatDoor
open Go.RowKit
set_option linter.unusedVariables false
set_option linter.unusedSimpArgs false
set_option linter.unnecessarySimpa false
set_option linter.unusedSectionVars false
set_option maxRecDepth 100000
variable [Lax]
section
variable {F : Fence} {n : Nat} {P : Program} {ops : Array Oper}
theorem opIn_next {o : Oper} {a : Act} {w : World} {K K' : Act → World → Prop} {Q Q' : Exit → Act → World → Prop} (h : ∀ v ds w', K ({ a with defers := ds }.put o.dst v) w' → K' ({ a with defers := ds }.put o.dst v) w') (hQ : ∀ c a w, Q (.panic c) a w → Q' (.panic c) a w) (hO : LetsOut Q → LetsOut Q')
    (hh : o.wpIn F n P a w K Q) : o.wpIn F n P a w K' Q' := by
  unfold Oper.wpIn at *
  refine ⟨hh.1, ?_⟩
  have hh := hh.2
  generalize (o.semAt F.round a.eval).run P w = r at *
  cases r with
  | ok x w' =>
    cases x <;> simp only [Oper.uponIn] at hh ⊢ <;>
      first
        | exact h _ a.defers _ hh
        | exact h _ _ _ hh
        | exact ⟨hh.1, CallsIn.mono hh.2 (fun e w'' he => by cases e <;> first | exact h _ a.defers _ he | exact hQ _ _ _ he | exact hO he)⟩
        | exact ⟨hh.1, RowsIn.mono hh.2 (fun _ _ he => h _ a.defers _ he)⟩
        | exact ⟨hh.1, RoundIn.mono hh.2 (fun e w'' he => by cases e <;> first | exact h _ a.defers _ he | exact hQ _ _ _ he | exact hO he)⟩
  | halt x w' => cases x <;> simp only [Oper.uponIn] at hh ⊢ <;> first | exact hQ _ _ _ hh | exact hh
def dstsL (l : List Oper) : List Nat := l.filterMap (·.dst)
/-- One list of operations behind another one; what no operation writes stays. -/
theorem wpListIn_split {Q : Exit → Act → World → Prop} (l2 : List Oper) : ∀ (l1 : List Oper) (a : Act) (w : World),
    wpListIn F n P ops (fun e a' w' => match e with | .normal => (∀ q, q ∉ dstsL l1 → a'.tmps.getD q Go.undef = a.tmps.getD q Go.undef) → wpListIn F n P ops Q l2 a' w' | e => Q e a' w') l1 a w → wpListIn F n P ops Q (l1 ++ l2) a w
  | [], a, w, h => h fun _ _ => rfl
  | o :: l1, a, w, h => by
    have put_other : ∀ (ds : List Deferred) (v : Value) q, q ∉ dstsL (o :: l1) → ({ a with defers := ds }.put o.dst v).tmps.getD q Go.undef = a.tmps.getD q Go.undef := fun ds v q hq => by
      cases hd : o.dst with
      | none => rfl
      | some d =>
        have hne : d ≠ q := fun e => hq (by subst e; simp [dstsL, hd])
        simp only [Act.put]
        rw [Array.getD_eq_getD_getElem?, Array.getElem?_setIfInBounds, if_neg hne, ← Array.getD_eq_getD_getElem?]
    have sub : ∀ q, q ∉ dstsL (o :: l1) → q ∉ dstsL l1 := fun q hq h => hq (by
      unfold dstsL at h ⊢
      rw [List.filterMap_cons]
      split
      · exact h
      · exact List.mem_cons_of_mem _ h)
    simp only [List.cons_append]
    unfold wpListIn at h ⊢
    split at h
    · rename_i hw
      rw [if_pos hw]
      refine opIn_next (fun v ds w' hk => ?_) (fun c a w h => h) (fun h => h) h
      refine wpListIn_split l2 l1 _ w' ?_
      refine wpListIn_mono' (fun e a' w' hq => ?_) _ _ _ hk
      cases e with
      | normal => exact fun hq2 => hq fun q hq3 => (hq2 q (sub q hq3)).trans (put_other ds v q hq3)
      | _ => exact hq
    · rename_i hw
      rw [if_neg hw]
      refine ⟨h.1, wpListIn_split l2 l1 _ w ?_⟩
      refine wpListIn_mono' (fun e a' w' hq => ?_) _ _ _ h.2
      cases e with
      | normal => exact fun hq2 => hq fun q hq3 => (hq2 q (sub q hq3)).trans (put_other a.defers Go.undef q hq3)
      | _ => exact hq
where
  wpListIn_mono' {Q Q' : Exit → Act → World → Prop} (hQ : ∀ e a w, Q e a w → Q' e a w) : ∀ (l : List Oper) (a : Act) (w : World), wpListIn F n P ops Q l a w → wpListIn F n P ops Q' l a w
    | [], a, w, h => hQ _ _ _ h
    | o :: l, a, w, h => by
      unfold wpListIn at h ⊢
      split at h
      · rename_i hw
        rw [if_pos hw]
        exact opIn_next (fun v ds w' hk => wpListIn_mono' hQ l _ w' hk) (fun c a w h => hQ _ _ _ h) (fun ⟨a, w, h⟩ => ⟨a, w, hQ _ _ _ h⟩) h
      · rename_i hw
        rw [if_neg hw]
        exact ⟨h.1, wpListIn_mono' hQ l _ w h.2⟩
/-- Some operations of a statement, by the machine; others' blocks stay. -/
theorem seg_wp {tb : Tb} (T : TbOk P tb) {N k : Nat} {B : Nat} (hd : dstsOk N ops = true) (l1 l2 : List Oper) (j : Nat) (hl : ∀ q o, l1[q]? = some o → ops[j + q]? = some o) {C : Ctx} {t : Nat → AV} {h : AHeap} {a : Act} {W : World} (S : OK P B N C t h a W) (hf : ∀ q, j ≤ q → h (k + q) = .none) {K : (Nat → AV) → AHeap → Yt → Prop} {Q : Exit → Act → World → Prop}
    (hx : EXL P tb .un ops k l1 j [] t h .off (fun _ => K))
    (hQ : ∀ C' t' h' a' W', K t' h' .off → OK P B N C' t' h' a' W' → Le0 C h W C' h' W' → C'.M = C.M → Keeps C.D B C.S W C'.S W' → (∀ b, C'.D b ↔ C.D b) → (∀ q, j + l1.length ≤ q → h' (k + q) = .none) → (∀ q, q ∉ dstsL l1 → a'.tmps.getD q Go.undef = a.tmps.getD q Go.undef) → wpListIn F n P ops Q l2 a' W') (hF : WideF F) : wpListIn F n P ops Q (l1 ++ l2) a W := by
  refine wpListIn_split l2 l1 a W ?_
  refine opsR_wp hF (G := fun y C' Wx => y = .off ∧ (∀ b, C'.D b ↔ C.D b) ∧ Keeps C.D B C.S W C'.S Wx) ⟨?_, ?_⟩ hd l1 j C t h .off a W hl S ⟨rfl, fun _ => Iff.rfl, .refl S.inv.has⟩ hf (EXL_soundR T l1 j [] t h .off K hx) ?_
  · rintro y C1 W1 C2 W2 ⟨h1, h2, h3⟩ hD hk
    exact ⟨h1, fun b => (hD b).trans (h2 b), h3.trans (hk.sub fun b hb => (h2 b).2 hb)⟩
  · rintro l x rest C W vs ⟨h1, _⟩; cases h1
  · rintro C' t' h' y' a' W' hk S' ⟨rfl, hD, hkp⟩ hle hM hB hf'
    exact fun hq => hQ C' t' h' a' W' hk S' hle hM hkp hD hf' hq
theorem seg_go {tb : Tb} (T : TbOk P tb) {N k : Nat} {B : Nat} (hd : dstsOk N ops = true) (l1 l2 : List Oper) (j : Nat) (hl : ∀ q o, l1[q]? = some o → ops[j + q]? = some o) {C : Ctx} {t : Nat → AV} {h : AHeap} {a : Act} {W : World} (S : OK P B N C t h a W) (hf : ∀ q, j ≤ q → h (k + q) = .none) {t1 : Nat → AV} {h1 : AHeap} {Q : Exit → Act → World → Prop}
    (hx : EXL P tb .un ops k l1 j [] t h .off (fun _ t h y => t = t1 ∧ h = h1))
    (hQ : ∀ C' a' W', OK P B N C' t1 h1 a' W' → Le0 C h W C' h1 W' → C'.M = C.M → Keeps C.D B C.S W C'.S W' → (∀ b, C'.D b ↔ C.D b) → (∀ q, j + l1.length ≤ q → h1 (k + q) = .none) → (∀ q, q ∉ dstsL l1 → a'.tmps.getD q Go.undef = a.tmps.getD q Go.undef) → wpListIn F n P ops Q l2 a' W') (hF : WideF F) : wpListIn F n P ops Q (l1 ++ l2) a W :=
  seg_wp T hd l1 l2 j hl S hf (K := fun t h y => t = t1 ∧ h = h1) hx (fun C' t' h' a' W' ⟨e1, e2⟩ => by subst e1; subst e2; exact hQ C' a' W') hF
theorem rounds_go {c : Code} {Q : Exit → Act → World → Prop} {N : Nat} (J : Nat → Act → World → Prop) (step : ∀ (i : Nat) (a : Act) (W : World) (next : Act → World → Prop), i ≤ N → J i a W → (i < N → ∀ a' W', J (i + 1) a' W' → next a' W') → c.wpIn F n P (Exit.then next Q) a W) :
    ∀ (m i : Nat) (a : Act) (W : World), m + i = N → J i a W → Code.roundsIn F n P c Q (m + 1) a W
  | 0, i, a, W, h, hJ => step i a W _ (by omega) hJ fun hlt => by omega
  | m + 1, i, a, W, h, hJ => step i a W _ (by omega) hJ fun hlt a' W' hJ' => rounds_go J step m (i + 1) a' W' (by omega) hJ'
end
end Go.Proofs.YtbaajjihhdmdpaaGreatDoor

namespace Go.Proofs.YtbaajjihhdmdpaaGreatDoor
open Go.RowKit
set_option linter.unusedVariables false
set_option linter.unusedSimpArgs false
set_option linter.unnecessarySimpa false
set_option linter.unusedSectionVars false
set_option maxRecDepth 100000
set_option maxHeartbeats 4000000
variable [Lax]
/-- Where no block is the machine's own. -/
def baseC (S : Nat → Nat → Prop) (W : World) : Ctx := { T := fun q => q < W.heap.size, S0 := S, S := S, ι := fun _ => 0, θ := fun _ => Go.undef }
theorem base_ok {P : Program} {S : Nat → Nat → Prop} {W : World} {B N : Nat} {t : Nat → AV} {a : Act} (hS : ∀ b o, S b o → (W.cell? ⟨b, o, none⟩).isSome = true) (hB : B ≤ W.heap.size) (hT : TabB P B W) (hsz : a.tmps.size = N) (hd : a.defers = []) (hr : ∀ n, RepT (baseC S W) W (fun _ => .none) (t n) (a.tmps.getD n Go.undef)) :
    OK P B N (baseC S W) t (fun _ => .none) a W := by
  refine ⟨hr, ⟨hS, hB, fun id cs hp => (by cases hp), fun id cs hp => (by cases hp), fun id cs hp => (by cases hp), fun t e sz n ht => (by cases ht), fun i j b hi => (by cases hi), fun b o hs => .inl hs, fun b hb => ⟨hb, fun id ho => by cases ho⟩, fun b hb => hb.elim, fun _ _ h => h, hT, fun t e sz xs ht => (by cases ht)⟩, hsz, ?_⟩
  rw [hd]; exact .none _ _
theorem ofL_rep {C : Ctx} {W : World} {h : AHeap} {a : Act} : ∀ (L : List (Nat × AV)), (∀ p ∈ L, RepT C W h p.2 (a.tmps.getD p.1 Go.undef)) → ∀ n, RepT C W h (ofL L n) (a.tmps.getD n Go.undef)
  | [], _, n => Rep.any _
  | (d, v) :: r, hl, n => by
    simp only [ofL]
    split
    · rename_i hb
      rw [Nat.eq_of_beq_eq_true hb]
      exact hl (d, v) List.mem_cons_self
    · exact ofL_rep r (fun p hp => hl p (List.mem_cons_of_mem _ hp)) n
theorem noMarks {C : Ctx} {W : World} {ds : List Deferred} (hm : Marks C W ds) (h : ∀ b, ¬ C.M b) : ds = [] := by
  obtain ⟨Ds, _, rfl, h3⟩ := hm
  cases Ds with
  | nil => rfl
  | cons D Ds => exact absurd (h3 D List.mem_cons_self).1 (h D)
theorem isB_keep {T e : TypeId} {b : Nat} {bs : List Value} {W W' : World} (h : Lib.IsBuilder T e b b bs W) (hk : ∀ q, q < W.heap.size → W'.heap[q]? = W.heap[q]?) : Lib.IsBuilder T e b b bs W' := by
  have key : ∀ p, Lib.BuilderAt T e b b p bs W → Lib.BuilderAt T e b b p bs W' := fun p ⟨h1, v, h2, h3, h4⟩ => by
    refine ⟨h1, v, ?_, ⟨h3.1, ?_⟩, h4⟩
    · rw [hk _ (Array.getElem?_eq_some_iff.1 h2).1]; exact h2
    · rcases h3.2 with h5 | ⟨g, cap, cur, h5, h6, h7, h8⟩
      · exact .inl h5
      · exact .inr ⟨g, cap, cur, h5, h6, by rw [hk _ (Array.getElem?_eq_some_iff.1 h7).1]; exact h7, h8⟩
  exact h.imp (key _) (key _)
theorem put_get {a : Act} {d q : Nat} {v : Value} {N : Nat} (hs : a.tmps.size = N) (hd : d < N) : (a.put (some d) v).tmps.getD q Go.undef = if q = d then v else a.tmps.getD q Go.undef := by
  simp only [Act.put]
  rw [Array.getD_eq_getD_getElem?, Array.getElem?_setIfInBounds]
  by_cases e : d = q
  · subst e; simp [hs, hd]
  · rw [if_neg e, if_neg (fun h => e h.symm), ← Array.getD_eq_getD_getElem?]
theorem str_rep {C : Ctx} {W : World} {h : AHeap} {x : ByteArray} {u : Value} (hr : RepT C W h (.str x) u) : u = .string x := by cases hr; rfl
theorem bool_rep {C : Ctx} {W : World} {h : AHeap} {x : Bool} {u : Value} (hr : RepT C W h (.bool x) u) : u = .bool x := by cases hr; rfl
theorem put_sz {a : Act} {d : Option Nat} {v : Value} : (a.put d v).tmps.size = a.tmps.size := by cases d <;> simp [Act.put]
theorem run_fieldA {P : Program} {o : Oper} {a : Act} {W : World} {s : TypeId} {x : Operand} {f n b off : Nat} (ho : o.op = .fieldAddr s x f) (hf : fieldOff P s f = some n) (e : a.eval x = .pointer (some ⟨b, off, none⟩)) :
    (execOp a.eval o).run P W = .ok (.value (.pointer (some ⟨b, off + n, none⟩))) W := by
  unfold fieldOff at hf
  split at hf
  · rename_i fs hu
    split at hf
    · rename_i fd hfd
      split at hf
      · cases hf
      · rename_i hsz
        simp only [Option.some.injEq] at hf
        subst hf
        have hinf : (P.info? fd.type).isSome = true := by
          cases hq : P.info? fd.type with
          | none => simp [Program.cellsOf, hq] at hsz
          | some _ => rfl
        simp [execOp, ho, Instr.fieldAt, run_underlying hu, hfd, Instr.sureAddr, e, fieldPlace, run_sizeOf' hinf, hsz, addr_add]
    · cases hf
  · cases hf
theorem allFrom_get {f : Nat → Bool} : ∀ (m i : Nat), allFrom f m i = true → ∀ j, i ≤ j → j < i + m → f j = true
  | 0, i, _, j, h1, h2 => by omega
  | m + 1, i, h, j, h1, h2 => by
    rw [allFrom, Bool.and_eq_true] at h
    by_cases e : j = i
    · subst e; exact h.1
    · exact allFrom_get m (i + 1) h.2 j (by omega) (by omega)
structure FormOk (s : GSched) : Prop where
  len : 1 ≤ s.length ∧ s.length ≤ 512
  offs : 1 ≤ s.offsets ∧ s.offsets ≤ 16
  cells : s.cells.length ≤ 512
  cell : ∀ i, i < s.cells.length → (0 ≤ (gd s.cells i).slot ∧ (gd s.cells i).slot < s.length) ∧ (0 ≤ (gd s.cells i).offset ∧ (gd s.cells i).offset < s.offsets) ∧ (0 ≤ (gd s.cells i).from_ ∧ (gd s.cells i).from_ < 32) ∧ (0 ≤ (gd s.cells i).to_ ∧ (gd s.cells i).to_ < 32) ∧ (0 ≤ (gd s.cells i).flow ∧ (gd s.cells i).flow < 256)
  ord : ∀ i, 0 < i → i < s.cells.length → cmpCell (gd s.cells (i - 1)) (gd s.cells i) < 0
theorem form_ok {s : GSched} (h : form s = true) : FormOk s := by
  simp only [form, sized, Bool.and_eq_true, decide_eq_true_eq, Bool.not_eq_true', decide_eq_false_iff_not] at h
  obtain ⟨⟨⟨⟨⟨h1, h2⟩, h3⟩, h4⟩, h5⟩, h6⟩ := h
  have hat : ∀ i, i < s.cells.length → formAt s i = true := fun i hi => allFrom_get _ 0 h6 i (Nat.zero_le _) (by omega)
  refine ⟨⟨h1, h2⟩, ⟨h3, h4⟩, by omega, fun i hi => ?_, fun i h0 hi => ?_⟩
  · have := hat i hi
    simp only [formAt, formedC, placed, insI, Bool.and_eq_true, decide_eq_true_eq] at this
    omega
  · have := hat i hi
    simp only [formAt, Bool.and_eq_true, Bool.not_eq_true', Bool.and_eq_false_iff, decide_eq_false_iff_not] at this
    omega
structure PJ (b : Nat) (ptr u19 : Value) (N : Nat) (W2 : World) (i : Nat) (a : Act) (W : World) (l : List UInt8) : Prop where
  sz : a.tmps.size = 32
  df : a.defers = []
  p4 : a.tmps.getD 4 Go.undef = ptr
  p19 : a.tmps.getD 19 Go.undef = u19
  p20 : a.tmps.getD 20 Go.undef = .int .i64 N
  p21 : a.tmps.getD 21 Go.undef = .int .i64 i
  bl : Below b W2 W
  ib : Lib.IsBuilder 181 5 b b (Lib.byteCells l) W
  ln : l.length ≤ 100 + 200 * i
theorem print_ok (hx : Lax.p) (s : GSched) (hs : Cn s.cells) (hform : form s = true) : Sound Tryz.prog 72 [s.v] (.tup [.bad, i64 0]) := by
  intro S W us hT hS hul hrep
  obtain ⟨v, rfl⟩ : ∃ v, us = [v] := by
    cases us with
    | nil => simp at hul
    | cons v us => cases us with
      | nil => exact ⟨v, rfl⟩
      | cons _ _ => simp at hul
  have hv : Rep S W s.v v := hrep 0 _ rfl
  have FO := form_ok hform
  have hI2 : ∀ n ∈ [s.length, s.offsets], I64 n := fun n hn => by
    have h1 := FO.len
    have h2 := FO.offs
    simp only [List.mem_cons, List.not_mem_nil, or_false] at hn
    rcases hn with rfl | rfl <;> constructor <;> omega
  refine callsIn_wide (n := 0) |>.1 (callsIn_of_wp_marks Tryz.func72 rfl trivial ?_ rfl)
  have S0 : OK Tryz.prog W.heap.size 32 (baseC S W) (ofL [(0, s.v)]) (fun _ => .none) { tmps := #[v] ++ Array.replicate (32 - 1) Go.undef, defers := [] } W := by
    have e0 : (#[v] ++ Array.replicate (32 - 1) Go.undef).getD 0 Go.undef = v := by simp
    refine base_ok hS (Nat.le_refl _) hT (by simp) rfl fun n => ?_
    cases n with
    | zero =>
      show RepT _ W _ s.v ((#[v] ++ Array.replicate (32 - 1) Go.undef).getD 0 Go.undef)
      rw [e0]
      exact RepT.of_rep hv
    | succ n => exact Rep.any _
  refine wpIn_seq (wpIn_region_list ?_)
  rw [← List.append_nil (Array.toList _)]
  refine' seg_go T (N := 32) (k := 0) (by kernel_rfl) _ [] 0 (fun q => by simp) S0 (fun _ _ => rfl) ?a0 ?b0 (.inl rfl)
  case a0 =>
    conv => whnf
    exact ⟨rfl, rfl⟩
  rintro C1 a1 W1 S1 _ hM1 k1 _ hf1 _
  refine wpListIn_nil ?_
  show Code.wpIn _ _ _ _ _ _ _
  refine wpIn_seq (wpIn_seq (wpIn_region_list ?_))
  rw [← List.append_nil (Array.toList _)]
  refine' seg_go T (N := 32) (k := 3) (by kernel_rfl) _ [] 0 (fun q => by simp) S1 (fun q _ => upd_ne _ (by omega)) ?a1 ?b1 (.inl rfl)
  case a1 =>
    conv => whnf
    refine FnG.go rfl ?_; conv => whnf
    refine CallG.go (S91 s hs) ?_; conv => whnf
    exact ⟨rfl, rfl⟩
  rintro C2 a2 W2 S2 _ hM2 k2 _ hf2 _
  refine wpListIn_nil ?_
  show Code.wpIn _ _ _ _ _ _ _
  have e10 : a2.eval (.tmp 10) = .bool false := by
    have := S2.rep 10
    generalize hq : a2.tmps.getD 10 Go.undef = q at this
    have h1 : RepT C2 W2 (fun _ => .none) (.bool (!form s)) q := by
      cases this; exact Rep.bool _
    rw [hform] at h1
    show a2.tmps.getD 10 Go.undef = _
    rw [hq]
    cases h1; rfl
  refine wpIn_cond_false e10 (wpIn_skip ?_)
  show Code.wpIn _ _ _ _ _ _ _
  -- the schedule's box is closed
  obtain ⟨I3, l3⟩ := S2.inv.close [0]
  generalize hS3 : sealS C2 _ [0] = S3 at I3 l3
  have hu1 : Rep S3 W2 (.rp s.c) (a2.tmps.getD 1 Go.undef) := by
    rw [← hS3]
    exact pass_rep S2.inv (x := .op (0 + 0) 0) (S2.rep 1) (y := .rp s.c) (ids := [0]) rfl (fun _ _ hs => .inl hs) (fun id hid cs hk => sealS_peek S2.inv hid hk)
  have hB2 : Below W.heap.size W W2 := k1.below.trans k2.below
  generalize hu : a2.tmps.getD 1 Go.undef = u1 at hu1
  -- a Builder
  refine wpIn_seq (wpIn_region_list ?_)
  unfold wpListIn
  rw [if_pos (by simp [Region.wanted])]
  refine opIn_of_wp (.inl rfl) (fun c e => by cases e) ?_
  have hal : ∀ (o : Oper), o.op = .alloc 181 → (execOp a2.eval o).run Tryz.prog W2 = .ok (.value (.pointer (some ⟨W2.heap.size, 0, none⟩))) (W2.alloc (.cells #[.pointer none, .slice none 0 0] 181)) := fun o ho => by
    simp [execOp, ho, Tryz.zeroValue181, Instr.alloc, newVar, newRow]
    rfl
  refine wp_value (hal _ rfl) ?_
  refine wpListIn_nil ?_
  show Code.wpIn _ _ _ _ _ _ _
  -- what is near the memory in which the Builder was made
  have near : ∀ W', Below W2.heap.size W2 W' → (∀ bb o, S3 bb o → (W'.cell? ⟨bb, o, none⟩).isSome = true) ∧ TabB Tryz.prog W.heap.size W' ∧ W.heap.size ≤ W'.heap.size ∧ ∀ x u, Rep S3 W2 x u → Rep S3 W' x u := fun W' hb => by
    have hc : ∀ bb o, S3 bb o → W'.cell? ⟨bb, o, none⟩ = W2.cell? ⟨bb, o, none⟩ := fun bb o hs => cell_of_heap (hb.block bb (cell_lt (I3.has bb o hs)))
    exact ⟨fun bb o hs => by rw [hc bb o hs]; exact I3.has bb o hs, S2.inv.tb.keep fun k hk _ => hb.block k (Nat.lt_of_lt_of_le hk S2.inv.base), Nat.le_trans S2.inv.base hb.size, fun x u hr => hr.mono (fun _ _ h => h) hc⟩
  have up : ∀ {Wa Wb : World}, Below W2.heap.size W2 Wa → Keeps (baseC S3 Wa).D W.heap.size S3 Wa (baseC S3 Wa).S Wb ∨ (∃ C' : Ctx, Keeps (baseC S3 Wa).D W.heap.size S3 Wa C'.S Wb) → Below W2.heap.size W2 Wb ∧ ∀ q, q < Wa.heap.size → Wb.heap[q]? = Wa.heap[q]? := fun {Wa Wb} hb hk => by
    have h1 : Below W.heap.size Wa Wb ∧ ∀ q, q < Wa.heap.size → Wb.heap[q]? = Wa.heap[q]? := by
      rcases hk with hk | ⟨C', hk⟩
      · exact ⟨hk.below, fun q hq => hk.keep q ⟨hq, fun h => h⟩⟩
      · exact ⟨hk.below, fun q hq => hk.keep q ⟨hq, fun h => h⟩⟩
    exact ⟨hb.trans ⟨h1.1.os, h1.1.tape, h1.1.output, h1.1.size, fun q hq => h1.2 q (Nat.lt_of_lt_of_le hq hb.size), h1.1.drawn⟩, h1.2⟩
  obtain ⟨ptr, hptr⟩ : ∃ ptr, ptr = Value.pointer (some ⟨W2.heap.size, 0, none⟩) := ⟨_, rfl⟩
  have e157 : ∀ args w, (callFunc 157 args).run Tryz.prog w = .ok (.enter 157 args) w := enters_of Tryz.func157 (by kernel_rfl) rfl
  -- a text is written
  have wr : ∀ (o : Oper) (r : Nat) (ts : Array TypeId) (a : Act) (Wa : World) (str : ByteArray) (l : List UInt8) (K : Act → World → Prop) (Q : Exit → Act → World → Prop), o.op = .call { callee := .value (.func 157), args := #[.tmp 4, .tmp r], argTypes := ts } → a.tmps.getD 4 Go.undef = ptr → a.tmps.getD r Go.undef = .string str →
      Lib.IsBuilder 181 5 W2.heap.size W2.heap.size (Lib.byteCells l) Wa → l.length + str.size ≤ 140737488355328 → Below W2.heap.size W2 Wa → (∀ v Wb, Lib.IsBuilder 181 5 W2.heap.size W2.heap.size (Lib.byteCells (l ++ str.data.toList)) Wb → Below W2.heap.size W2 Wb → K (a.put o.dst v) Wb) → o.wpIn Fence.wide 0 Tryz.prog a Wa K Q := by
    intro o r ts a Wa str l K Q ho h4 hr hb hl hbl hK
    refine opIn_of_wp (.inl rfl) (fun c e => by rw [ho] at e; cases e) ?_
    have hrun : (execOp a.eval o).run Tryz.prog Wa = .ok (.enter 157 #[ptr, .string str]) Wa := by
      have e4 : a.eval (.tmp 4) = ptr := h4
      have er : a.eval (.tmp r) = .string str := hr
      have ef : a.eval (.func 157) = .func (.func 157) #[] #[] := rfl
      simp [execOp, ho, resolve, ef, Deferred.ofValue, invoke, e4, er, e157]
    unfold Oper.wp
    rw [hrun]
    have hcon := Any.Builder_WriteString lays166 wrExtra W2.heap.size W2.heap.size (Lib.byteCells l) str Wa hb (by rw [Lib.byteCells_length]; exact hl) hbl.size
    rw [hptr]
    refine Calls.mono hcon ?_
    rintro e Wb ⟨rfl, hb', hbel⟩
    refine hK _ Wb (.inr ?_) (hbl.trans ⟨hbel.os, hbel.tape, hbel.output, hbel.size, hbel.block, .inl hx⟩)
    rw [Lib.byteCells_append, ← Lib.strCells_eq]
    exact hb'
  -- the head line
  obtain ⟨a3, ha3⟩ : ∃ a3, a3 = a2.put (some 4) (.pointer (some ⟨W2.heap.size, 0, none⟩)) := ⟨_, rfl⟩
  obtain ⟨W3, hW3⟩ : ∃ W3, W3 = W2.alloc (.cells #[.pointer none, .slice none 0 0] 181) := ⟨_, rfl⟩
  have hb3 : Below W2.heap.size W2 W3 := by rw [hW3]; exact (Below.refl _ _).alloc (Nat.le_refl _) _
  have hI3 : Lib.IsBuilder 181 5 W2.heap.size W2.heap.size (Lib.byteCells []) W3 := by rw [hW3]; exact Lib.fresh_isBuilder 181 5 W2
  have hsz2 : a2.tmps.size = 32 := S2.size
  have hd2 : a2.defers = [] := noMarks S2.defers (by rw [hM2, hM1]; exact fun b h => h)
  have h34 : a3.tmps.getD 4 Go.undef = ptr := by rw [ha3, put_get hsz2 (by decide), if_pos rfl, hptr]
  have h31 : a3.tmps.getD 1 Go.undef = u1 := by rw [ha3, put_get hsz2 (by decide), if_neg (by decide), hu]
  have hsz3 : a3.tmps.size = 32 := by rw [ha3, put_sz]; exact hsz2
  have hd3 : a3.defers = [] := by rw [ha3]; simpa [Act.put] using hd2
  rw [← ha3, ← hW3]
  clear ha3 hW3
  obtain ⟨n1, n2, n3, n4⟩ := near W3 hb3
  refine wpIn_seq (wpIn_region_list ?_)
  rw [← List.take_append_drop 6 (Array.toList _)]
  refine' seg_go T (N := 32) (k := 0) (by kernel_rfl) _ _ 0 (fun q o hq => by
      rw [List.getElem?_take] at hq
      split at hq
      · simpa using hq
      · cases hq) (base_ok (a := a3) (t := ofL [(1, .rp s.c)]) n1 n3 n2 hsz3 hd3 (ofL_rep _ (by
      intro p hp
      simp only [List.mem_singleton] at hp
      subst hp
      show RepT _ W3 _ (.rp s.c) (a3.tmps.getD 1 Go.undef)
      rw [h31]
      exact RepT.of_rep (C := baseC S3 W3) (n4 _ _ hu1)))) (fun _ _ => rfl) ?a4 ?b4 (.inl rfl)
  case a4 =>
    conv => whnf
    refine FnG.go rfl ?_; conv => whnf
    refine CallG.go (S158 _ [s.length, s.offsets] (by simp) (by decide) (by simp) hI2) ?_
    conv => whnf
    exact ⟨rfl, rfl⟩
  rintro C4 a4 W4 S4 _ hM4 k4 _ hf4 hk4
  obtain ⟨hb4, hq4⟩ := up hb3 (.inr ⟨_, k4⟩)
  have hd4 : a4.defers = [] := noMarks S4.defers (by rw [hM4]; exact fun b h => h)
  have h44 : a4.tmps.getD 4 Go.undef = ptr := (hk4 4 (by decide)).trans h34
  have h41 : a4.tmps.getD 1 Go.undef = u1 := (hk4 1 (by decide)).trans h31
  have hsz4 : a4.tmps.size = 32 := S4.size
  have h416 := str_rep (S4.rep 16)
  change wpListIn _ _ _ _ _ (_ :: []) _ _
  unfold wpListIn
  rw [if_pos (by simp [Region.wanted])]
  have hlen0 : (lineS ⟨#[115, 99, 104, 101, 100, 117, 108, 101]⟩ [s.length, s.offsets]).size ≤ 60 := by
    unfold lineS
    rw [ByteArray.size_append]
    have := lineB_size [s.length, s.offsets] ⟨#[115, 99, 104, 101, 100, 117, 108, 101]⟩ hI2
    have e1 : (⟨#[115, 99, 104, 101, 100, 117, 108, 101]⟩ : ByteArray).size = 8 := rfl
    have e2 : (⟨#[10]⟩ : ByteArray).size = 1 := rfl
    simp only [List.length_cons, List.length_nil] at this
    omega
  refine wr _ 16 _ a4 W4 _ [] _ _ rfl h44 h416 (isB_keep hI3 hq4) (by simp only [List.length_nil]; omega) hb4 (fun v W5 hI5 hb5 => ?_)
  refine wpListIn_nil ?_
  show Code.wpIn _ _ _ _ _ _ _
  obtain ⟨a5, ha5⟩ : ∃ a5, a5 = a4.put (some 17) v := ⟨_, rfl⟩
  have h54 : a5.tmps.getD 4 Go.undef = ptr := by rw [ha5, put_get hsz4 (by decide), if_neg (by decide), h44]
  have h51 : a5.tmps.getD 1 Go.undef = u1 := by rw [ha5, put_get hsz4 (by decide), if_neg (by decide), h41]
  have hsz5 : a5.tmps.size = 32 := by rw [ha5, put_sz]; exact hsz4
  have hd5 : a5.defers = [] := by rw [ha5]; simpa [Act.put] using hd4
  change Code.wpIn _ _ _ _ _ (a4.put (some 17) v) W5
  rw [← ha5]
  clear ha5
  -- the cells
  have near2 : ∀ {Wa Wb : World}, Below W2.heap.size W2 Wa → Below W2.heap.size W2 Wb → ∀ {x u}, Rep S3 Wa x u → Rep S3 Wb x u := fun {Wa Wb} ha hb {x u} hr => hr.mono (fun _ _ h => h) fun bb o hs => by
    have hlt := cell_lt (I3.has bb o hs)
    rw [cell_of_heap (hb.block bb hlt), cell_of_heap (ha.block bb hlt)]
  obtain ⟨m1, m2, m3, m4⟩ := near W5 hb5
  obtain ⟨b1, off1, uf, rfl, hcell1, hrep1⟩ := rep_rp (RepT.of_rep (C := baseC S3 W5) (W := W5) (h := fun _ => .none) (m4 _ _ hu1))
  obtain ⟨hok27, v27, hv27, hv27e⟩ := takeG_sound (P := Tryz.prog) (T.ti 27) (cs := [cellsV s.cells]) (K := fun v => v = cellsV s.cells) (by conv => whnf)
  subst hv27e
  obtain ⟨u19, hld, hru⟩ := takeV_load (P := Tryz.prog) (W := W5) (C := baseC S3 W5) (h := fun _ => .none) (b := b1) (off := off1 + 2) hok27 hv27 (fun j => uf (2 + j)) (fun j x hx => by
    have h1 := hcell1 (2 + j) x (by
      show s.c[2 + j]? = some x
      cases j with
      | zero => exact hx
      | succ j => simp at hx)
    have h2 := hrep1 (2 + j) x (by
      show s.c[2 + j]? = some x
      cases j with
      | zero => exact hx
      | succ j => simp at hx)
    exact ⟨by rw [Nat.add_assoc]; exact h1.2, RepT0.of_rep h2⟩)
  have hr19 : Rep S3 W5 (cellsV s.cells) u19 := hru
  obtain ⟨A19, c19, e19, _⟩ := rep_sl hr19
  refine wpIn_seq (wpIn_seq (wpIn_region_list ?_))
  change wpListIn _ _ _ _ _ (_ :: _ :: _ :: _ :: []) _ _
  unfold wpListIn
  rw [if_pos (by simp [Region.wanted])]
  refine opIn_of_wp (.inl rfl) (fun c e => by cases e) (wp_value (W' := W5) (run_fieldA (n := 2) (b := b1) (off := off1) rfl (by kernel_rfl) h51) ?_)
  unfold wpListIn
  rw [if_pos (by simp [Region.wanted])]
  refine opIn_of_wp (.inl rfl) (fun c e => by cases e) (wp_value (W' := W5) (u := u19) ?_ ?_)
  · have e18 : (a5.put (some 18) (.pointer (some ⟨b1, off1 + 2, none⟩))).eval (.tmp 18) = .pointer (some ⟨b1, off1 + 2, none⟩) := by
      show (a5.put (some 18) _).tmps.getD 18 Go.undef = _
      rw [put_get hsz5 (by decide), if_pos rfl]
    simp [execOp, Instr.loadAt, Instr.sureAddr, e18, hld]
  unfold wpListIn
  rw [if_pos (by simp [Region.wanted])]
  refine opIn_of_wp (.inl rfl) (fun c e => by cases e) (wp_value (W' := W5) (u := .int .i64 s.cells.length) ?_ ?_)
  · have e19' : ((a5.put (some 18) (.pointer (some ⟨b1, off1 + 2, none⟩))).put (some 19) u19).eval (.tmp 19) = .slice A19 s.cells.length c19 := by
      show ((a5.put (some 18) _).put (some 19) u19).tmps.getD 19 Go.undef = _
      rw [put_get (N := 32) (by rw [put_sz]; exact hsz5) (by decide), if_pos rfl, e19, List.length_map]
    simp [execOp, resolve, invoke, builtin, Builtin.len_, e19', run_underlying Tryz.underlying27, goInt]
  unfold wpListIn
  rw [if_pos (by simp [Region.wanted])]
  refine opIn_of_wp (.inl rfl) (fun c e => by cases e) (wp_value (W' := W5) (u := .int .i64 (0 : Nat)) (by simp [execOp]; rfl) ?_)
  refine wpListIn_nil ?_
  obtain ⟨a6, ha6⟩ : ∃ a6, a6 = (((a5.put (some 18) (.pointer (some ⟨b1, off1 + 2, none⟩))).put (some 19) u19).put (some 20) (.int .i64 s.cells.length)).put (some 21) (.int .i64 (0 : Nat)) := ⟨_, rfl⟩
  have hg6 : ∀ q, a6.tmps.getD q Go.undef = if q = 21 then .int .i64 (0 : Nat) else if q = 20 then .int .i64 s.cells.length else if q = 19 then u19 else if q = 18 then .pointer (some ⟨b1, off1 + 2, none⟩) else a5.tmps.getD q Go.undef := fun q => by
    rw [ha6, put_get (by simp only [put_sz]; exact hsz5) (by decide), put_get (by simp only [put_sz]; exact hsz5) (by decide), put_get (by simp only [put_sz]; exact hsz5) (by decide), put_get hsz5 (by decide)]
  have hsz6 : a6.tmps.size = 32 := by rw [ha6]; simp only [put_sz]; exact hsz5
  have hd6 : a6.defers = [] := by rw [ha6]; simpa [Act.put] using hd5
  show Code.wpIn _ _ _ _ _ _ _
  change Code.wpIn _ _ _ _ _ ((((a5.put (some 18) (.pointer (some ⟨b1, off1 + 2, none⟩))).put (some 19) u19).put (some 20) (.int .i64 s.cells.length)).put (some 21) (.int .i64 (0 : Nat))) W5
  rw [← ha6]
  clear ha6
  refine wpIn_block ?_
  generalize hQ2 : Exit.inBlock 0 _ = Q2
  have hend : ∀ (a' : Act) (W' : World) (l' : List UInt8), a'.tmps.size = 32 → a'.defers = [] → a'.tmps.getD 4 Go.undef = ptr → Below W2.heap.size W2 W' → Lib.IsBuilder 181 5 W2.heap.size W2.heap.size (Lib.byteCells l') W' → Q2 (.exit 0) a' W' := by
    intro a' W' l' hsz hd h4 hbl hI
    rw [← hQ2]
    show Code.wpIn _ _ _ _ _ _ _
    refine wpIn_seq (wpIn_region_list ?_)
    change wpListIn _ _ _ _ _ (_ :: _ :: _ :: []) _ _
    unfold wpListIn
    rw [if_pos (by simp [Region.wanted])]
    refine opIn_of_wp (.inl rfl) (fun c e => by cases e) ?_
    have e160 : ∀ args w, (callFunc 160 args).run Tryz.prog w = .ok (.enter 160 args) w := enters_of Tryz.func160 (by kernel_rfl) rfl
    have hrun : ∀ (o : Oper) (ts : Array TypeId), o.op = .call { callee := .value (.func 160), args := #[.tmp 4], argTypes := ts } → (execOp a'.eval o).run Tryz.prog W' = .ok (.enter 160 #[ptr]) W' := fun o ts ho => by
      have e4 : a'.eval (.tmp 4) = ptr := h4
      have ef : a'.eval (.func 160) = .func (.func 160) #[] #[] := rfl
      simp [execOp, ho, resolve, ef, Deferred.ofValue, invoke, e4, e160]
    unfold Oper.wp
    rw [hrun _ _ rfl, hptr]
    refine Calls.mono (Any.Builder_String_any lays169 wrExtra W2.heap.size W2.heap.size l' W' hI hbl.size) ?_
    rintro e W'' ⟨rfl, hbel⟩
    show wpListIn _ _ _ _ _ _ _ _
    unfold wpListIn
    rw [if_pos (by simp [Region.wanted])]
    refine opIn_of_wp (.inl rfl) (fun c e => by cases e) (wp_value (W' := W'') (u := .string ⟨l'.toArray⟩) ?_ ?_)
    · have e31 : (a'.put (some 31) (.string ⟨l'.toArray⟩)).eval (.tmp 31) = .string ⟨l'.toArray⟩ := by
        show (a'.put (some 31) _).tmps.getD 31 Go.undef = _
        rw [put_get hsz (by decide), if_pos rfl]
      simp [execOp, e31]
    unfold wpListIn
    rw [if_pos (by simp [Region.wanted])]
    refine opIn_of_wp (.inl rfl) (fun c e => by cases e) (wp_value (W' := W'') (u := .int .i64 0) (by simp [execOp]; rfl) ?_)
    refine wpListIn_nil ?_
    show Code.wpIn _ _ _ _ _ _ _
    refine wpIn_ret ?_
    obtain ⟨a9, ha9⟩ : ∃ a9, a9 = ((a'.put (some 31) (.string ⟨l'.toArray⟩)).put (some 2) (.string ⟨l'.toArray⟩)).put (some 3) (.int .i64 0) := ⟨_, rfl⟩
    change bodyPostM _ _ _ _ _ .ret (((a'.put (some 31) (.string ⟨l'.toArray⟩)).put (some 2) (.string ⟨l'.toArray⟩)).put (some 3) (.int .i64 0)) W''
    rw [← ha9]
    show LeavesInM _ _ _ _ _ _ a9.defers .returning W''
    have hd9 : a9.defers = [] := by rw [ha9]; simpa [Act.put] using hd
    rw [hd9]
    have hg9 : ∀ q, a9.tmps.getD q Go.undef = if q = 3 then .int .i64 0 else if q = 2 then .string ⟨l'.toArray⟩ else if q = 31 then .string ⟨l'.toArray⟩ else a'.tmps.getD q Go.undef := fun q => by
      rw [ha9, put_get (N := 32) (by simp only [put_sz]; exact hsz) (by decide), put_get (N := 32) (by simp only [put_sz]; exact hsz) (by decide), put_get hsz (by decide)]
    have hfin : Below W.heap.size W W'' := hB2.trans ((hbl.trans ⟨hbel.os, hbel.tape, hbel.output, hbel.size, hbel.block, .inl hx⟩).mono S2.inv.base)
    refine leaves_marks [] W'' List.nodup_nil (fun D hD => by cases hD) ⟨.tuple #[.string ⟨l'.toArray⟩, .int .i64 0], ?_, _, S, rfl, hfin, fun _ _ h => h, fun _ _ h => .inl h, fun b o hs => ?_, ?_⟩
    · rw [results_eq]
      have e2 := hg9 2
      have e3 := hg9 3
      simp at e2 e3
      show Sem.run Tryz.prog (do let vs ← (#[ResultVar.tmp 2, ResultVar.tmp 3]).mapM (resV a9.tmps); pure (if h : vs.size = 1 then vs[0] else .tuple vs)) (putMarks [] W'') = _
      simp [resV, e2, e3, putMarks]
    · have hlt := cell_lt (hS b o hs)
      show ((putMarks [] W'').cell? _).isSome = true
      show (W''.cell? _).isSome = true
      rw [cell_of_heap (hfin.block b hlt)]; exact hS b o hs
    · refine Rep.tup [.bad, i64 0] [.string ⟨l'.toArray⟩, .int .i64 0] rfl fun j x hx => ?_
      match j, hx with
      | 0, hx => simp at hx; subst hx; exact Rep.any _
      | 1, hx => simp at hx; subst hx; exact Rep.int _ _
  clear hQ2
  refine wpIn_loop_rounds (s.cells.length + 1) ?_
  have hJ0 : PJ W2.heap.size ptr u19 s.cells.length W2 0 a6 W5 ([] ++ (lineS ⟨#[115, 99, 104, 101, 100, 117, 108, 101]⟩ [s.length, s.offsets]).data.toList) := by
    refine ⟨hsz6, hd6, by rw [hg6]; simp [h54], by rw [hg6]; simp, by rw [hg6]; simp, by rw [hg6]; simp, hb5, hI5, ?_⟩
    have e1 : (lineS ⟨#[115, 99, 104, 101, 100, 117, 108, 101]⟩ [s.length, s.offsets]).data.toList.length = (lineS ⟨#[115, 99, 104, 101, 100, 117, 108, 101]⟩ [s.length, s.offsets]).size := rfl
    rw [List.nil_append, e1]; omega
  refine rounds_go (N := s.cells.length) (fun i a Wx => ∃ l, PJ W2.heap.size ptr u19 s.cells.length W2 i a Wx l) ?_ _ 0 a6 W5 rfl ⟨_, hJ0⟩
  · rintro i a Wx next hiN ⟨l, J⟩ hnext
    obtain ⟨n1, n2, n3, _⟩ := near Wx J.bl
    refine wpIn_seq (wpIn_region_list ?_)
    rw [← List.append_nil (Array.toList _)]
    refine' seg_go T (N := 32) (k := 0) (by kernel_rfl) _ [] 0 (fun q o hq => by simpa using hq) (base_ok (a := a) (t := ofL [(20, i64 s.cells.length), (21, i64 i)]) n1 n3 n2 J.sz J.df (ofL_rep _ (by
      intro p hp
      simp only [List.mem_cons, List.not_mem_nil, or_false] at hp
      rcases hp with rfl | rfl
      · show RepT _ Wx _ _ (a.tmps.getD 20 Go.undef)
        rw [J.p20]; exact Rep.int _ _
      · show RepT _ Wx _ _ (a.tmps.getD 21 Go.undef)
        rw [J.p21]; exact Rep.int _ _))) (fun _ _ => rfl) ?a7 ?b7 (.inl rfl)
    case a7 =>
      conv => whnf
      exact ⟨rfl, rfl⟩
    rintro C7 a7 W7 S7 _ hM7 k7 _ hf7 hk7
    obtain ⟨hb7, hq7⟩ := up J.bl (.inr ⟨_, k7⟩)
    have e22 := bool_rep (S7.rep 22)
    have J7 : PJ W2.heap.size ptr u19 s.cells.length W2 i a7 W7 l := ⟨S7.size, noMarks S7.defers (by rw [hM7]; exact fun b h => h), (hk7 4 (by decide)).trans J.p4, (hk7 19 (by decide)).trans J.p19, (hk7 20 (by decide)).trans J.p20, (hk7 21 (by decide)).trans J.p21, hb7, isB_keep J.ib hq7, J.ln⟩
    refine wpListIn_nil ?_
    show Code.wpIn _ _ _ _ _ _ _
    refine wpIn_seq (wpIn_cond_split e22 (fun hlt => ?_) (fun hge => ?_))
    rotate_left
    · refine wpIn_exit ?_
      exact hend a7 W7 l J7.sz J7.df J7.p4 J7.bl J7.ib
    refine wpIn_skip ?_
    have hlt : i < s.cells.length := by have := of_decide_eq_true hlt; omega
    show Code.wpIn _ _ _ _ _ _ _
    refine wpIn_seq (wpIn_block ?_)
    -- the cell's line
    have hIc : ∀ n ∈ (gd s.cells i).nums, I64 n := fun n hn => by
      have h0 := FO.cell i hlt
      have h1 := FO.len
      have h2 := FO.offs
      simp only [GCell.nums, List.mem_cons, List.not_mem_nil, or_false] at hn
      rcases hn with rfl | rfl | rfl | rfl | rfl <;> constructor <;> omega
    obtain ⟨o1, o2, o3, _⟩ := near W7 J7.bl
    refine wpIn_seq (wpIn_region_list ?_)
    rw [← List.append_nil (Array.toList _)]
    refine' seg_go T (N := 32) (k := 0) (by kernel_rfl) _ [] 0 (fun q o hq => by simpa using hq) (base_ok (a := a7) (t := ofL [(19, cellsV s.cells), (21, i64 i)]) o1 o3 o2 J7.sz J7.df (ofL_rep _ (by
      intro p hp
      simp only [List.mem_cons, List.not_mem_nil, or_false] at hp
      rcases hp with rfl | rfl
      · show RepT _ W7 _ (cellsV s.cells) (a7.tmps.getD 19 Go.undef)
        rw [J7.p19]; exact RepT.of_rep (C := baseC S3 W7) (near2 hb5 J7.bl hr19)
      · show RepT _ W7 _ _ (a7.tmps.getD 21 Go.undef)
        rw [J7.p21]; exact Rep.int _ _))) (fun _ _ => rfl) ?a8 ?b8 (.inl rfl)
    case a8 =>
      conv => whnf
      refine Ix.at (l := s.cells) hlt rfl ?_; conv => whnf
      exact ⟨rfl, rfl⟩
    rintro C8 a8 W8 S8 _ hM8 k8 hD8 hf8 hk8
    refine wpListIn_nil ?_
    show Code.wpIn _ _ _ _ _ _ _
    refine wpIn_seq (wpIn_region_list ?_)
    rw [← List.append_nil (Array.toList _)]
    refine' seg_go T (N := 32) (k := 4) (by kernel_rfl) _ [] 0 (fun q o hq => by simpa using hq) S8 (fun q hq => by have := hf8 (4 + q) (by simp); simpa using this) ?a9 ?b9 (.inl rfl)
    case a9 =>
      conv => whnf
      refine FnG.go rfl ?_; conv => whnf
      refine CallG.go (S159 _) ?_; conv => whnf
      exact ⟨rfl, rfl⟩
    rintro C9 a9 W9 S9 _ hM9 k9 hD9 hf9 hk9
    refine wpListIn_nil ?_
    show Code.wpIn _ _ _ _ _ _ _
    refine wpIn_region_list ?_
    rw [← List.take_append_drop 2 (Array.toList _)]
    refine' seg_go T (N := 32) (k := 8) (by kernel_rfl) _ _ 0 (fun q o hq => by
      rw [List.getElem?_take] at hq
      split at hq
      · simpa using hq
      · cases hq) S9 (fun q hq => by have := hf9 (4 + q) (by simp); rw [show 4 + (4 + q) = 8 + q by omega] at this; exact this) ?a10 ?b10 (.inl rfl)
    case a10 =>
      conv => whnf
      refine FnG.go rfl ?_; conv => whnf
      refine CallG.go (S158 _ (gd s.cells i).nums (by simp [GCell.nums]) (by decide) (by simp [GCell.nums]) hIc) ?_; conv => whnf
      exact ⟨rfl, rfl⟩
    rintro C10 a10 W10 S10 _ hM10 k10 hD10 hf10 hk10
    have kk : Keeps (baseC S3 W7).D W.heap.size S3 W7 C10.S W10 := (k8.trans (k9.sub fun b hb => (hD8 b).2 hb)).trans (k10.sub fun b hb => (hD9 b).2 ((hD8 b).2 hb))
    obtain ⟨hb10, hq10⟩ := up J7.bl (.inr ⟨_, kk⟩)
    have hd10 : a10.defers = [] := noMarks S10.defers (by rw [hM10, hM9, hM8]; exact fun b h => h)
    have kt : ∀ q, q = 4 ∨ q = 19 ∨ q = 20 ∨ q = 21 → a10.tmps.getD q Go.undef = a7.tmps.getD q Go.undef := fun q hq => by
      have d1 : q ∉ dstsL _ → _ := hk10 q
      have d2 : q ∉ dstsL _ → _ := hk9 q
      have d3 : q ∉ dstsL _ → _ := hk8 q
      rcases hq with rfl | rfl | rfl | rfl <;> exact ((d1 (by decide)).trans (d2 (by decide))).trans (d3 (by decide))
    have h1028 := str_rep (S10.rep 28)
    change wpListIn _ _ _ _ _ (_ :: []) _ _
    unfold wpListIn
    rw [if_pos (by simp [Region.wanted])]
    have hlc : (lineS ⟨#[99, 101, 108, 108]⟩ (gd s.cells i).nums).size ≤ 200 := by
      unfold lineS
      rw [ByteArray.size_append]
      have := lineB_size (gd s.cells i).nums ⟨#[99, 101, 108, 108]⟩ hIc
      have e1 : (⟨#[99, 101, 108, 108]⟩ : ByteArray).size = 4 := rfl
      have e2 : (⟨#[10]⟩ : ByteArray).size = 1 := rfl
      simp only [GCell.nums, List.length_cons, List.length_nil] at this ⊢
      omega
    have hls : (lineS ⟨#[99, 101, 108, 108]⟩ (gd s.cells i).nums).data.toList.length = (lineS ⟨#[99, 101, 108, 108]⟩ (gd s.cells i).nums).size := rfl
    have hFc := FO.cells
    refine wr _ 28 _ a10 W10 _ l _ _ rfl ((kt 4 (.inl rfl)).trans J7.p4) h1028 (isB_keep J7.ib hq10) (by have := J7.ln; omega) hb10 (fun v W11 hI11 hb11 => ?_)
    refine wpListIn_nil ?_
    show Code.wpIn _ _ _ _ _ _ _
    obtain ⟨a11, ha11⟩ : ∃ a11, a11 = a10.put (some 29) v := ⟨_, rfl⟩
    have hg11 : ∀ q, a11.tmps.getD q Go.undef = if q = 29 then v else a10.tmps.getD q Go.undef := fun q => by rw [ha11, put_get S10.size (by decide)]
    have hsz11 : a11.tmps.size = 32 := by rw [ha11, put_sz]; exact S10.size
    have hd11 : a11.defers = [] := by rw [ha11]; simpa [Act.put] using hd10
    change Code.wpIn _ _ _ _ _ (a10.put (some 29) v) W11
    rw [← ha11]
    clear ha11
    have q4 : a11.tmps.getD 4 Go.undef = ptr := by rw [hg11, if_neg (by decide), kt 4 (.inl rfl), J7.p4]
    have q19 : a11.tmps.getD 19 Go.undef = u19 := by rw [hg11, if_neg (by decide), kt 19 (by simp), J7.p19]
    have q20 : a11.tmps.getD 20 Go.undef = .int .i64 s.cells.length := by rw [hg11, if_neg (by decide), kt 20 (by simp), J7.p20]
    have q21 : a11.tmps.getD 21 Go.undef = .int .i64 i := by rw [hg11, if_neg (by decide), kt 21 (by simp), J7.p21]
    obtain ⟨p1, p2, p3, _⟩ := near W11 hb11
    refine wpIn_region_list ?_
    rw [← List.append_nil (Array.toList _)]
    refine' seg_go T (N := 32) (k := 0) (by kernel_rfl) _ [] 0 (fun q o hq => by simpa using hq) (base_ok (a := a11) (t := ofL [(21, i64 i)]) p1 p3 p2 hsz11 hd11 (ofL_rep _ (by
      intro p hp
      simp only [List.mem_cons, List.not_mem_nil, or_false] at hp
      subst hp
      show RepT _ W11 _ _ (a11.tmps.getD 21 Go.undef)
      rw [q21]; exact Rep.int _ _))) (fun _ _ => rfl) ?a12 ?b12 (.inl rfl)
    case a12 =>
      conv => whnf
      exact ⟨rfl, rfl⟩
    rintro C12 a12 W12 S12 _ hM12 k12 _ hf12 hk12
    obtain ⟨hb12, hq12⟩ := up hb11 (.inr ⟨_, k12⟩)
    refine wpListIn_nil ?_
    refine hnext hlt a12 W12 ⟨_, S12.size, noMarks S12.defers (by rw [hM12]; exact fun b h => h), (hk12 4 (by decide)).trans q4, (hk12 19 (by decide)).trans q19, (hk12 20 (by decide)).trans q20, ?_, hb12, isB_keep hI11 hq12, ?_⟩
    · have := rep_int (S12.rep 21)
      rw [this]
      exact congrArg _ (by rw [w64 (by omega)]; rfl)
    · rw [List.length_append, hls]
      have := J7.ln
      omega
end Go.Proofs.YtbaajjihhdmdpaaGreatDoor

namespace Go.Proofs.YtbaajjihhdmdpaaGreatDoor
open Go.RowKit
set_option linter.unusedSectionVars false
set_option linter.unusedVariables false
set_option linter.unusedSimpArgs false
set_option linter.unnecessarySimpa false
set_option maxRecDepth 100000
variable [Lax]
theorem S167 (a b c : Int) : Sound Tryz.prog 167 [i64 a, i64 b, i64 c] (.bool (inI a b c)) := by
  refine ex_intro mixedT T [] Tryz.func167 rfl (by rw [Tryz.ntmps167]; simp) (by kernel_rfl) ?_
  conv => whnf
  repeat' first | (refine LenG.map ?_; conv => whnf) | (refine LenG.go ?_; conv => whnf)
  repeat' first
    | (refine Br.T ?_; conv => whnf)
    | (refine Br.F ?_; conv => whnf)
    | (refine Br.mk (fun hq => ?_) (fun hq => ?_) <;> conv => whnf)
    | (refine FnG.go rfl ?_; conv => whnf)
    | (refine LenG.map ?_; conv => whnf)
    | (refine LenG.go ?_; conv => whnf)
  all_goals (refine RetG.one ?_; (try simp only [Bool.not_eq_true', Bool.not_eq_false'] at *); (try delta inI); simp only [ret1, *, Bool.true_or, Bool.false_or, Bool.or_true, Bool.or_false, Bool.true_and, Bool.false_and, Bool.and_true, Bool.and_false, Bool.not_true, Bool.not_false, if_true, if_false, Bool.false_eq_true, reduceIte])
theorem S239 (c : GCell) : Sound Tryz.prog 239 [c.v] (intsV c.nums) := by
  refine ex_intro mixedT T [] Tryz.func239 rfl (by rw [Tryz.ntmps239]; simp) (by kernel_rfl) ?_
  conv => whnf
  repeat' first | (refine LenG.map ?_; conv => whnf) | (refine LenG.go ?_; conv => whnf)
  exact RetG.one rfl
def lessInts : List Int → List Int → Bool
  | x :: r, y :: s => if x != y then decide (x < y) else lessInts r s
  | _, _ => false
def lessC (a b : GCell) : Bool := lessInts a.nums b.nums
theorem S169 (a b : GCell) : Sound Tryz.prog 169 [a.v, b.v] (.bool (lessC a b)) := by
  have hx : a.nums.length = 5 := rfl
  have hy : b.nums.length = 5 := rfl
  refine ex_intro mixedT T [] Tryz.func169 rfl (by rw [Tryz.ntmps169]; simp) (by kernel_rfl) ?_
  conv => whnf
  repeat' first | (refine LenG.map ?_; conv => whnf) | (refine LenG.go ?_; conv => whnf)
  repeat' first
    | (refine Br.T ?_; conv => whnf)
    | (refine Br.F ?_; conv => whnf)
    | (refine Br.mk (fun hq => ?_) (fun hq => ?_) <;> conv => whnf)
    | (refine FnG.go rfl ?_; conv => whnf)
    | (refine LenG.map ?_; conv => whnf)
    | (refine LenG.go ?_; conv => whnf)
    | (refine CallG.go (S239 a) ?_; conv => whnf)
    | (refine CallG.go (S239 b) ?_; conv => whnf)
  refine Lp.go T [] (fun i : Nat => [(5, intsV a.nums), (6, intsV b.nums), (7, i64 i)]) (fun _ => []) (fun m i => m + i = 5 ∧ lessC a b = lessInts (a.nums.drop i) (b.nums.drop i)) 5 0 ⟨by simp, by simp [lessC]⟩ [] ?_ ?_
  · (conv => whnf); refine ⟨rfl, ?_, ?_⟩ <;> (conv => whnf) <;> (repeat' apply And.intro) <;> first | exact True.intro | rfl | (conv => rhs; whnf)
  rintro m i ⟨hm, hi⟩
  conv => whnf
  refine LenG.map ?_; conv => whnf
  refine Br.mk (fun hq => ?_) (fun hq => ?_) <;> conv => whnf
  · have hla : i < a.nums.length := by simpa using hq
    have hlb : i < b.nums.length := by rw [hy, ← hx]; exact hla
    rw [drop_gd hla, drop_gd hlb, lessInts] at hi
    repeat' first
      | (refine Br.T ?_; conv => whnf)
      | (refine Br.F ?_; conv => whnf)
      | (refine Br.mk (fun hq => ?_) (fun hq => ?_) <;> conv => whnf)
      | (refine FnG.go rfl ?_; conv => whnf)
      | (refine LenG.map ?_; conv => whnf)
      | (refine LenG.go ?_; conv => whnf)
      | (refine Ix.at (l := a.nums) hla rfl ?_; conv => whnf)
      | (refine Ix.at (l := b.nums) hlb rfl ?_; conv => whnf)
    · refine RetG.one ?_; rw [hi]; simp only [ret1, *, Bool.true_or, Bool.false_or, Bool.or_true, Bool.or_false, Bool.true_and, Bool.false_and, Bool.and_true, Bool.and_false, Bool.not_true, Bool.not_false, if_true, if_false, Bool.false_eq_true, reduceIte]
    · refine ⟨m - 1, i + 1, by omega, ⟨by omega, by rw [hi]; simp only [*, Bool.true_or, Bool.false_or, Bool.or_true, Bool.or_false, Bool.true_and, Bool.false_and, Bool.and_true, Bool.and_false, Bool.not_true, Bool.not_false, if_true, if_false, Bool.false_eq_true, reduceIte]⟩, ?_⟩
      (conv => whnf); refine ⟨rfl, ?_, ?_⟩ <;> (conv => whnf) <;> (repeat' apply And.intro) <;> first | exact True.intro | rfl | (conv => rhs; whnf)
      exact incr (by omega)
  · have hge : a.nums.length ≤ i := by simpa using hq
    rw [List.drop_eq_nil_of_le hge] at hi
    exact RetG.one (by rw [hi]; rfl)
def rightC (s : GSched) (c : GCell) : Bool := inI c.slot 0 (W (s.length - 1)) && inI c.offset 0 (W (s.offsets - 1)) && inI c.from_ 0 31 && inI c.to_ 0 31 && inI c.flow 0 255
theorem S168 (s : GSched) (c : GCell) : Sound Tryz.prog 168 [s.v, c.v] (.bool (rightC s c)) := by
  refine ex_intro mixedT T [] Tryz.func168 rfl (by rw [Tryz.ntmps168]; simp) (by kernel_rfl) ?_
  conv => whnf
  repeat' first | (refine LenG.map ?_; conv => whnf) | (refine LenG.go ?_; conv => whnf)
  repeat' first
    | (refine Br.T ?_; conv => whnf)
    | (refine Br.F ?_; conv => whnf)
    | (refine Br.mk (fun hq => ?_) (fun hq => ?_) <;> conv => whnf)
    | (refine FnG.go rfl ?_; conv => whnf)
    | (refine LenG.map ?_; conv => whnf)
    | (refine LenG.go ?_; conv => whnf)
    | (refine CallG.go (S167 _ _ _) ?_; conv => whnf)
  all_goals (refine RetG.one ?_; (try simp only [Bool.not_eq_true', Bool.not_eq_false'] at *); (try delta rightC); simp only [ret1, *, Bool.true_or, Bool.false_or, Bool.or_true, Bool.or_false, Bool.true_and, Bool.false_and, Bool.and_true, Bool.and_false, Bool.not_true, Bool.not_false, if_true, if_false, Bool.false_eq_true, reduceIte])
def formAtR (s : GSched) (i : Nat) : Bool := rightC s (gd s.cells i) && !(decide ((i : Int) > 0) && !lessC (gd s.cells (i - 1)) (gd s.cells i))
def formR (s : GSched) : Bool := inI s.length 1 512 && inI s.offsets 1 16 && !decide ((s.cells.length : Int) > 512) && allFrom (formAtR s) s.cells.length 0
theorem S76 (s : GSched) (hs : Cn s.cells) : Sound Tryz.prog 76 [s.v] (.bool (formR s)) := by
  refine ex_intro mixedT T [] Tryz.func76 rfl (by rw [Tryz.ntmps76]; simp) (by kernel_rfl) ?_
  conv => whnf
  repeat' first | (refine LenG.map ?_; conv => whnf) | (refine LenG.go ?_; conv => whnf)
  repeat' first
    | (refine Br.T ?_; conv => whnf)
    | (refine Br.F ?_; conv => whnf)
    | (refine Br.mk (fun hq => ?_) (fun hq => ?_) <;> conv => whnf)
    | (refine FnG.go rfl ?_; conv => whnf)
    | (refine LenG.map ?_; conv => whnf)
    | (refine LenG.go ?_; conv => whnf)
    | (refine CallG.go (S167 _ _ _) ?_; conv => whnf)
  · all_goals (refine RetG.one ?_; (try simp only [Bool.not_eq_true', Bool.not_eq_false'] at *); (try delta formR); simp only [ret1, *, Bool.true_or, Bool.false_or, Bool.or_true, Bool.or_false, Bool.true_and, Bool.false_and, Bool.and_true, Bool.and_false, Bool.not_true, Bool.not_false, if_true, if_false, Bool.false_eq_true, reduceIte])
  · all_goals (refine RetG.one ?_; (try simp only [Bool.not_eq_true', Bool.not_eq_false'] at *); (try delta formR); simp only [ret1, *, Bool.true_or, Bool.false_or, Bool.or_true, Bool.or_false, Bool.true_and, Bool.false_and, Bool.and_true, Bool.and_false, Bool.not_true, Bool.not_false, if_true, if_false, Bool.false_eq_true, reduceIte])
  · all_goals (refine RetG.one ?_; (try simp only [Bool.not_eq_true', Bool.not_eq_false'] at *); (try delta formR); simp only [ret1, *, Bool.true_or, Bool.false_or, Bool.or_true, Bool.or_false, Bool.true_and, Bool.false_and, Bool.and_true, Bool.and_false, Bool.not_true, Bool.not_false, if_true, if_false, Bool.false_eq_true, reduceIte])
  refine Lp.go T [.t 1] (fun i : Nat => [(1, .op 0 0), (3, i64 i)]) (fun _ => [.box s.c]) (fun m i => m + i = s.cells.length ∧ allFrom (formAtR s) s.cells.length 0 = allFrom (formAtR s) m i) s.cells.length 0 ⟨by simp, rfl⟩ [.t 1] ?_ ?_
  · (conv => whnf); refine ⟨rfl, ?_, ?_⟩ <;> (conv => whnf) <;> (repeat' apply And.intro) <;> first | exact True.intro | rfl | (conv => rhs; whnf)
  rintro m i ⟨hm, hi⟩
  conv => whnf
  refine LenG.map ?_; conv => whnf
  refine Br.mk (fun hq => ?_) (fun hq => ?_) <;> conv => whnf
  · have hlt : i < s.cells.length := by simpa using hq
    obtain ⟨m, rfl⟩ : ∃ q, m = q + 1 := ⟨m - 1, by omega⟩
    rw [allFrom] at hi
    repeat' first
      | (refine Br.T ?_; conv => whnf)
      | (refine Br.F ?_; conv => whnf)
      | (refine Br.mk (fun hq => ?_) (fun hq => ?_) <;> conv => whnf)
      | (refine FnG.go rfl ?_; conv => whnf)
      | (refine LenG.map ?_; conv => whnf)
      | (refine LenG.go ?_; conv => whnf)
      | (refine CallG.go (S168 s (gd s.cells i)) ?_; conv => whnf)
      | (refine CallG.go (S169 (gd s.cells (i - 1)) (gd s.cells i)) ?_; conv => whnf)
      | (refine Ix.at (l := s.cells) hlt rfl ?_; conv => whnf)
      | (refine Ix.pred (l := s.cells) (by simp_all) hlt hs rfl ?_; conv => whnf)
    all_goals first
      | (refine RetG.one ?_; (try simp only [Bool.not_eq_true', Bool.not_eq_false'] at *); delta formR; rw [hi]; delta formAtR; simp only [ret1, *, Bool.true_or, Bool.false_or, Bool.or_true, Bool.or_false, Bool.true_and, Bool.false_and, Bool.and_true, Bool.and_false, Bool.not_true, Bool.not_false, if_true, if_false, Bool.false_eq_true, reduceIte]; done)
      | (refine ⟨m, i + 1, by omega, ⟨by omega, by (try simp only [Bool.not_eq_true', Bool.not_eq_false'] at *); rw [hi]; delta formAtR; simp only [*, Bool.true_or, Bool.false_or, Bool.or_true, Bool.or_false, Bool.true_and, Bool.false_and, Bool.and_true, Bool.and_false, Bool.not_true, Bool.not_false, if_true, if_false, Bool.false_eq_true, reduceIte]⟩, ?_⟩; (conv => whnf); refine ⟨rfl, ?_, ?_⟩ <;> (conv => whnf) <;> (repeat' apply And.intro) <;> first | exact True.intro | rfl | exact incr (by omega))
  · obtain rfl : m = 0 := by
      have : s.cells.length ≤ i := by simpa using hq
      omega
    rw [allFrom] at hi
    all_goals (refine RetG.one ?_; (try simp only [Bool.not_eq_true', Bool.not_eq_false'] at *); (try delta formR); simp only [ret1, *, Bool.true_or, Bool.false_or, Bool.or_true, Bool.or_false, Bool.true_and, Bool.false_and, Bool.and_true, Bool.and_false, Bool.not_true, Bool.not_false, if_true, if_false, Bool.false_eq_true, reduceIte])
/-! ### both say the same -/
theorem cmpInts_less : ∀ (a b : List Int), a.length = b.length → (decide (cmpInts a b ≥ 0) = !lessInts a b)
  | [], [], _ => by simp [cmpInts, lessInts]
  | x :: r, y :: s, h => by
    have ih := cmpInts_less r s (by simpa using h)
    have hc := cmpI_sign x y
    rw [cmpInts, lessInts]
    by_cases e : x = y
    · have h0 : cmpI x y = 0 := hc.2.2.2 e
      rw [h0, e]
      simpa using ih
    · have h0 : cmpI x y ≠ 0 := fun h => e (hc.2.2.1 h)
      rw [if_pos (by simpa using h0), if_pos (by simpa using e), Bool.eq_iff_iff]
      simp
      omega
theorem cmpCell_less (a b : GCell) : decide (cmpCell a b ≥ 0) = !lessC a b := cmpInts_less _ _ rfl
theorem inI_ins (x n : Int) (h1 : 1 ≤ n) (h2 : n ≤ 512) : inI x 0 (W (n - 1)) = insI x n := by
  rw [Wi (by omega), Bool.eq_iff_iff]
  simp; omega
theorem inI_ins' (x n : Int) : inI x 0 n = insI x (n + 1) := by
  rw [Bool.eq_iff_iff]
  simp; omega
theorem right_formed {s : GSched} (h : sized s = true) (c : GCell) : rightC s c = formedC s c := by
  simp [sized] at h
  unfold rightC formedC placed
  rw [inI_ins _ _ (by omega) (by omega), inI_ins _ _ (by omega) (by omega), inI_ins' _ 31, inI_ins' _ 31, inI_ins' _ 255]
  rfl
theorem form_eq (s : GSched) : formR s = form s := by
  unfold formR form
  have h0 : (inI s.length 1 512 && inI s.offsets 1 16) = sized s := by
    unfold sized
    rw [Bool.eq_iff_iff]; simp; omega
  rw [h0]
  by_cases hs : sized s = true
  · rw [show formAtR s = formAt s from funext fun i => by
      unfold formAtR formAt
      rw [right_formed hs, cmpCell_less]]
  · simp only [Bool.not_eq_true] at hs; rw [hs]; rfl
theorem appOk {α : Type} {f : α → List AV} {l : List α} {y : List AV} {sz b : Nat} (hb : b ≤ 1000) (hl : l.length ≤ 100000000) (hy : y.length = sz ∧ y.all isAtom = true) :
    ((l.map f).length + [y].length) * b ≤ 140737488355328 ∧ (l.map f).length + [y].length ≤ 9223372036854775807 ∧ ∀ z ∈ [y], z.length = sz ∧ z.all isAtom = true := by
  simp only [List.length_map, List.length_cons, List.length_nil]
  refine ⟨?_, by omega, fun z hz => by simp at hz; subst hz; exact hy⟩
  exact Nat.le_trans (Nat.mul_le_mul (show l.length + (0 + 1) ≤ 100000001 by omega) hb) (by decide)
theorem snocV {α : Type} {f : α → List AV} {l : List α} {x : α} {t : Nat} : AV.sl (.tag t) ((l ++ [x]).map f) = .sl (.tag t) (l.map f ++ [f x]) := by simp
theorem snocH {α : Type} {f : α → List AV} {l : List α} {x : α} {y : List AV} {e sz : Nat} : HO.live e sz (l ++ [x]).length = .live e sz ((l.map f).length + [y].length) := by simp
def near (c d : GCell) : Bool := d.slot == c.slot && (d.from_ == c.from_ || d.from_ == c.to_ || d.to_ == c.from_ || d.to_ == c.to_)
def atSame (c d : GCell) : Bool := d.slot == c.slot && d.offset == c.offset
/-- The cells that share a place, none of which may touch. -/
def fitsGo (c : GCell) : List GCell → List GCell → Option (List GCell)
  | [], acc => some acc
  | d :: r, acc => if near c d then none else fitsGo c r (if atSame c d then acc ++ [d] else acc)
def fitsR (n : GNet) (s : GSched) (c : GCell) : Bool := match fitsGo c s.cells [c] with
  | none => false
  | some l => goodCellsR n l
theorem S78 (n : GNet) (hn : n.ok) (s : GSched) (hs : s.cells.length ≤ 600) (c : GCell) : Sound Tryz.prog 78 [n.v, s.v, c.v] (.bool (fitsR n s c)) := by
  refine ex_intro mixedT T [] Tryz.func78 rfl (by rw [Tryz.ntmps78]; simp) (by kernel_rfl) ?_
  conv => whnf
  repeat' first | (refine LenG.map ?_; conv => whnf) | (refine LenG.go ?_; conv => whnf)
  refine Lp.go T [.t 3, .t 4, .t 5, .t 7] (fun (a : Nat × List GCell) => match a with | (i, acc) => [(3, .op 0 0), (4, .op 1 0), (5, .op 2 0), (7, .sl (.tag 3) (acc.map fun x => x.c)), (8, i64 i)]) (fun a => match a with | (i, acc) => [.box n.c, .box s.c, .box c.c, .live 61 5 acc.length])
    (fun m a => m + a.1 = s.cells.length ∧ a.2.length ≤ a.1 + 1 ∧ fitsGo c s.cells [c] = fitsGo c (s.cells.drop a.1) a.2) s.cells.length (0, [c]) ⟨by simp, by simp, by simp⟩ [.t 3, .t 4, .t 5, .t 7] ?_ ?_
  · (conv => whnf); refine ⟨rfl, ?_, ?_⟩ <;> (conv => whnf) <;> (repeat' apply And.intro) <;> first | exact True.intro | rfl | (conv => rhs; whnf)
  rintro m ⟨i, acc⟩ ⟨hm, hacc, hi⟩
  simp only at hm hacc hi
  conv => whnf
  refine LenG.map ?_; conv => whnf
  refine Br.mk (fun hq => ?_) (fun hq => ?_) <;> conv => whnf
  · have hlt : i < s.cells.length := by simpa using hq
    rw [drop_gd hlt, fitsGo] at hi
    repeat' first
      | (refine Br.T ?_; conv => whnf)
      | (refine Br.F ?_; conv => whnf)
      | (refine Br.mk (fun hq => ?_) (fun hq => ?_) <;> conv => whnf)
      | (refine FnG.go rfl ?_; conv => whnf)
      | (refine LenG.map ?_; conv => whnf)
      | (refine LenG.go ?_; conv => whnf)
      | (refine Ix.at (l := s.cells) hlt rfl ?_; conv => whnf)
      | (refine Nd.go (appOk (by decide) (by omega) ⟨rfl, rfl⟩) ?_; conv => whnf)
      | (refine Nd.go (by simp) ?_; conv => whnf)
    all_goals first
      | (exfalso; clear hi; simp_all; done)
      | (refine RetG.one ?_; delta fitsR; rw [hi]; simp only [near, ret1, *, Bool.true_or, Bool.false_or, Bool.or_true, Bool.or_false, Bool.true_and, Bool.false_and, Bool.and_true, Bool.and_false, Bool.not_true, Bool.not_false, if_true, if_false, Bool.false_eq_true, reduceIte]; done)
      | (refine ⟨m - 1, (i + 1, acc ++ [gd s.cells i]), by omega, ⟨by simp only; omega, by simp; omega, by rw [hi]; simp only [near, atSame, *, Bool.true_or, Bool.false_or, Bool.or_true, Bool.or_false, Bool.true_and, Bool.false_and, Bool.and_true, Bool.and_false, Bool.not_true, Bool.not_false, if_true, if_false, Bool.false_eq_true, reduceIte]⟩, ?_⟩; (conv => whnf); refine ⟨rfl, ?_, ?_⟩ <;> (conv => whnf) <;> (repeat' apply And.intro) <;> first | exact True.intro | rfl | exact incr (by omega) | exact snocV | exact snocH)
      | (refine ⟨m - 1, (i + 1, acc), by omega, ⟨by simp only; omega, by simp only; omega, by rw [hi]; simp only [near, atSame, *, Bool.true_or, Bool.false_or, Bool.or_true, Bool.or_false, Bool.true_and, Bool.false_and, Bool.and_true, Bool.and_false, Bool.not_true, Bool.not_false, if_true, if_false, Bool.false_eq_true, reduceIte]⟩, ?_⟩; (conv => whnf); refine ⟨rfl, ?_, ?_⟩ <;> (conv => whnf) <;> (repeat' apply And.intro) <;> first | exact True.intro | rfl | exact incr (by omega))
  · rw [List.drop_eq_nil_of_le (by simpa using hq)] at hi
    repeat' first
      | (refine Br.T ?_; conv => whnf)
      | (refine Br.F ?_; conv => whnf)
      | (refine Br.mk (fun hq => ?_) (fun hq => ?_) <;> conv => whnf)
      | (refine FnG.go rfl ?_; conv => whnf)
      | (refine LenG.map ?_; conv => whnf)
      | (refine LenG.go ?_; conv => whnf)
      | (refine CallG.go (S171 n hn acc (by omega)) ?_; conv => whnf)
    refine RetG.one ?_
    delta fitsR
    rw [hi]
    rfl
/-! ### equality -/
theorem cellInts (a b : GCell) : ([a.slot, a.offset, a.from_, a.to_, a.flow] != [b.slot, b.offset, b.from_, b.to_, b.flow]) = decide (a ≠ b) := by
  rw [Bool.eq_iff_iff]
  simp only [bne_iff_ne, ne_eq, decide_eq_true_eq, List.cons.injEq, and_true]
  cases a; cases b; simp
theorem S23 (a b : List GCell) (ha : Cn a) : Sound Tryz.prog 23 [cellsV a, cellsV b] (.bool (decide (a = b))) := by
  refine ex_intro mixedT T [] Tryz.func23 rfl (by rw [Tryz.ntmps23]; simp) (by kernel_rfl) ?_
  conv => whnf
  repeat' first | (refine LenG.map ?_; conv => whnf) | (refine LenG.go ?_; conv => whnf)
  repeat' first
    | (refine Br.T ?_; conv => whnf)
    | (refine Br.F ?_; conv => whnf)
    | (refine Br.mk (fun hq => ?_) (fun hq => ?_) <;> conv => whnf)
    | (refine FnG.go rfl ?_; conv => whnf)
    | (refine LenG.map ?_; conv => whnf)
    | (refine LenG.go ?_; conv => whnf)
  · have : a.length ≠ b.length := by simp at hq; omega
    exact RetG.one (by rw [show decide (a = b) = false from decide_eq_false (fun e => this (by rw [e]))]; rfl)
  have hlen : a.length = b.length := by simp at hq; omega
  refine Lp.go T [] (fun i : Nat => [(0, cellsV a), (1, cellsV b), (5, i64 i)]) (fun _ => []) (fun m i => m + i = a.length ∧ a.take i = b.take i) a.length 0 ⟨by simp, by simp⟩ [] ?_ ?_
  · (conv => whnf); refine ⟨rfl, ?_, ?_⟩ <;> (conv => whnf) <;> (repeat' apply And.intro) <;> first | exact True.intro | rfl | (conv => rhs; whnf)
  rintro m i ⟨hm, hi⟩
  conv => whnf
  refine LenG.map ?_; conv => whnf
  refine Br.mk (fun hq => ?_) (fun hq => ?_) <;> conv => whnf
  · have hlt : i < a.length := by simpa using hq
    have hltb : i < b.length := by omega
    refine Ix.at (l := a) hlt rfl ?_; conv => whnf
    refine Ix.at (l := b) hltb rfl ?_; conv => whnf
    rw [cellInts]
    refine Br.mk (fun hq => ?_) (fun hq => ?_) <;> conv => whnf
    · have hne : gd a i ≠ gd b i := by simpa using hq
      exact RetG.one (by rw [show decide (a = b) = false from decide_eq_false (fun e => hne (by rw [e]))]; rfl)
    · have he : gd a i = gd b i := by simpa using hq
      refine ⟨m - 1, i + 1, by omega, ⟨by omega, ?_⟩, ?_⟩
      · rw [List.take_add_one, List.take_add_one, hi, gd_get hlt, gd_get hltb, he]
      · (conv => whnf); refine ⟨rfl, ?_, ?_⟩ <;> (conv => whnf) <;> (repeat' apply And.intro) <;> first | exact True.intro | rfl | (conv => rhs; whnf)
        exact incr (by omega)
  · have hge : a.length ≤ i := by simpa using hq
    rw [List.take_of_length_le hge, List.take_of_length_le (by omega)] at hi
    exact RetG.one (by rw [hi]; simp [ret1])
theorem S24 (a b : GSched) (ha : Cn a.cells) : Sound Tryz.prog 24 [a.v, b.v] (.bool (a.length == b.length && a.offsets == b.offsets && decide (a.cells = b.cells))) := by
  refine ex_intro mixedT T [] Tryz.func24 rfl (by rw [Tryz.ntmps24]; simp) (by kernel_rfl) ?_
  conv => whnf
  repeat' first | (refine LenG.map ?_; conv => whnf) | (refine LenG.go ?_; conv => whnf)
  repeat' first
    | (refine Br.T ?_; conv => whnf)
    | (refine Br.F ?_; conv => whnf)
    | (refine Br.mk (fun hq => ?_) (fun hq => ?_) <;> conv => whnf)
    | (refine FnG.go rfl ?_; conv => whnf)
    | (refine LenG.map ?_; conv => whnf)
    | (refine LenG.go ?_; conv => whnf)
    | (refine CallG.go (S23 a.cells b.cells ha) ?_; conv => whnf)
  all_goals (refine RetG.one ?_; (try simp only [Bool.not_eq_true', Bool.not_eq_false'] at *); simp only [ret1, *, Bool.true_or, Bool.false_or, Bool.or_true, Bool.or_false, Bool.true_and, Bool.false_and, Bool.and_true, Bool.and_false, Bool.not_true, Bool.not_false, if_true, if_false, Bool.false_eq_true, reduceIte])
/-! ### Room -/
def cellAt (l : GLink) (t o : Nat) : GCell := ⟨t, o, l.from_, l.to_, 0⟩
def roomIn (f : GCell → Bool) (l : GLink) (t O : Nat) : List GCell := ((List.range O).map (cellAt l t)).filter f
def roomUp (f : GCell → Bool) (l : GLink) (O : Nat) : Nat → List GCell
  | 0 => []
  | t + 1 => roomUp f l O t ++ roomIn f l t O
theorem roomIn_len (f : GCell → Bool) (l : GLink) (t O : Nat) : (roomIn f l t O).length ≤ O := by
  unfold roomIn
  exact Nat.le_trans (List.length_filter_le _ _) (by simp)
theorem roomUp_len (f : GCell → Bool) (l : GLink) (O : Nat) : ∀ t, (roomUp f l O t).length ≤ t * O
  | 0 => by simp [roomUp]
  | t + 1 => by
    have := roomUp_len f l O t
    have := roomIn_len f l t O
    simp only [roomUp, List.length_append, Nat.succ_mul]
    omega
theorem roomIn_succ (f : GCell → Bool) (l : GLink) (t o : Nat) : roomIn f l t (o + 1) = roomIn f l t o ++ (if f (cellAt l t o) then [cellAt l t o] else []) := by
  unfold roomIn
  rw [List.range_succ, List.map_append, List.filter_append]
  congr 1
  simp only [List.map_cons, List.map_nil, List.filter_cons, List.filter_nil]
def roomOut (f : GCell → Bool) (s : GSched) (l : GLink) : List GCell := roomUp f l s.offsets.toNat s.length.toNat
def roomRes (e1 e2 : Bool) (out : List GCell) : List GCell × Int := if e1 then ([], 1) else if e2 then ([], 7) else if decide ((out.length : Int) > 1024) then ([], 8) else (out, 0)
def roomR (n : GNet) (s : GSched) (l : GLink) : List GCell × Int := roomRes (netErr n != 0 || !formR s) (!goodLk n l.from_ l.to_) (roomOut (fitsR n s) s l)
theorem formR_bd {s : GSched} (h : formR s = true) : 1 ≤ s.length ∧ s.length ≤ 512 ∧ 1 ≤ s.offsets ∧ s.offsets ≤ 16 ∧ s.cells.length ≤ 512 := by
  unfold formR at h
  simp only [Bool.and_eq_true, decide_eq_true_eq, Bool.not_eq_true', decide_eq_false_iff_not] at h
  omega
theorem S20 (n : GNet) (hn : n.ok) (s : GSched) (hs : Cn s.cells) (l : GLink) : Sound Tryz.prog 20 [n.v, s.v, l.v] (.tup [cellsV (roomR n s l).1, i64 (roomR n s l).2]) := by
  refine ex_intro mixedT T [] Tryz.func20 rfl (by rw [Tryz.ntmps20]; simp) (by kernel_rfl) ?_
  conv => whnf
  repeat' first | (refine LenG.map ?_; conv => whnf) | (refine LenG.go ?_; conv => whnf)
  repeat' first
    | (refine Br.T ?_; conv => whnf)
    | (refine Br.F ?_; conv => whnf)
    | (refine Br.mk (fun hq => ?_) (fun hq => ?_) <;> conv => whnf)
    | (refine FnG.go rfl ?_; conv => whnf)
    | (refine LenG.map ?_; conv => whnf)
    | (refine LenG.go ?_; conv => whnf)
    | (refine CallG.go (S44 n hn) ?_; conv => whnf)
    | (refine CallG.go (S76 s hs) ?_; conv => whnf)
    | (refine CallG.go (S77 n hn (netOk_of (by simp_all)).margin _ _) ?_; conv => whnf)
  · refine RetG.two ?_ ?_ <;> (try simp only [Bool.not_eq_true', Bool.not_eq_false'] at *) <;> (delta roomR roomRes; simp only [*, Bool.true_or, Bool.false_or, Bool.or_true, Bool.or_false, Bool.true_and, Bool.false_and, Bool.and_true, Bool.and_false, Bool.not_true, Bool.not_false, if_true, if_false, Bool.false_eq_true, reduceIte]; rfl)
  · refine RetG.two ?_ ?_ <;> (try simp only [Bool.not_eq_true', Bool.not_eq_false'] at *) <;> (delta roomR roomRes; simp only [*, Bool.true_or, Bool.false_or, Bool.or_true, Bool.or_false, Bool.true_and, Bool.false_and, Bool.and_true, Bool.and_false, Bool.not_true, Bool.not_false, if_true, if_false, Bool.false_eq_true, reduceIte]; rfl)
  · refine RetG.two ?_ ?_ <;> (try simp only [Bool.not_eq_true', Bool.not_eq_false'] at *) <;> (delta roomR roomRes; simp only [*, Bool.true_or, Bool.false_or, Bool.or_true, Bool.or_false, Bool.true_and, Bool.false_and, Bool.and_true, Bool.and_false, Bool.not_true, Bool.not_false, if_true, if_false, Bool.false_eq_true, reduceIte]; rfl)
  have hv : netErr n = 0 := by simp_all
  have hf : formR s = true := by simp_all
  have hb := formR_bd hf
  have hgood : goodLk n l.from_ l.to_ = true := by simp_all
  obtain ⟨L, hL⟩ : ∃ L : Nat, s.length = L := ⟨s.length.toNat, by omega⟩
  obtain ⟨O, hO⟩ : ∃ O : Nat, s.offsets = O := ⟨s.offsets.toNat, by omega⟩
  refine Lp.goZ T [.t 3, .t 4, .t 5, .t 8] [.t 8 61] (fun (a : Nat × List GCell) => match a with | (i, acc) => [(3, .op 0 0), (4, .op 1 0), (5, .op 2 0), (8, .sl (.tag 3) (acc.map fun x => x.c)), (9, i64 i)]) (fun a => match a with | (i, acc) => [.box n.c, .box s.c, .box l.c, .live 61 5 acc.length])
    (fun m a => m + a.1 = L ∧ a.2 = roomUp (fitsR n s) l O a.1) L (0, []) ⟨by simp, rfl⟩ [.t 3, .t 4, .t 5, .t 8] ?_ ?_
  · (conv => whnf); refine ⟨rfl, ?_, ?_⟩ <;> (conv => whnf) <;> (repeat' apply And.intro) <;> first | exact True.intro | rfl | (conv => rhs; whnf)
  rintro m ⟨i, acc⟩ ⟨hm, hi⟩
  simp only at hm hi
  have hacc : acc.length ≤ i * O := by rw [hi]; exact roomUp_len _ _ _ _
  have hio : i * O ≤ 512 * 16 := Nat.mul_le_mul (by omega) (by omega)
  conv => whnf
  refine Br.mk (fun hq => ?_) (fun hq => ?_) <;> conv => whnf
  · have hlt : i < L := by simp at hq; omega
    refine Lp.go T [.t 3, .t 4, .t 5, .t 8] (fun (a : Nat × List GCell) => match a with | (o, acc) => [(3, .op 0 0), (4, .op 1 0), (5, .op 2 0), (8, .sl (.tag 3) (acc.map fun x => x.c)), (9, i64 i), (10, i64 o)]) (fun a => match a with | (o, acc) => [.box n.c, .box s.c, .box l.c, .live 61 5 acc.length])
      (fun m a => m + a.1 = O ∧ a.2 = acc ++ roomIn (fitsR n s) l i a.1) O (0, acc) ⟨by simp, by simp [roomIn]⟩ [.t 3, .t 4, .t 5, .t 8] ?_ ?_
    · (conv => whnf); refine ⟨rfl, ?_, ?_⟩ <;> (conv => whnf) <;> (repeat' apply And.intro) <;> first | exact True.intro | rfl | (conv => rhs; whnf)
    rintro m' ⟨o, acc'⟩ ⟨hm', hi'⟩
    simp only at hm' hi'
    have hacc' : acc'.length ≤ i * O + o := by
      rw [hi', List.length_append]
      have := roomIn_len (fitsR n s) l i o
      omega
    conv => whnf
    refine Br.mk (fun hq => ?_) (fun hq => ?_) <;> conv => whnf
    · have ho : o < O := by simp at hq; omega
      repeat' first
        | (refine Br.T ?_; conv => whnf)
        | (refine Br.F ?_; conv => whnf)
        | (refine Br.mk (fun hq => ?_) (fun hq => ?_) <;> conv => whnf)
        | (refine FnG.go rfl ?_; conv => whnf)
        | (refine LenG.map ?_; conv => whnf)
        | (refine LenG.go ?_; conv => whnf)
        | (refine CallG.go (S78 n hn s (by omega) (cellAt l i o)) ?_; conv => whnf)
        | (refine Nd.go (appOk (by decide) (by omega) ⟨rfl, rfl⟩) ?_; conv => whnf)
        | (refine Nd.go (by simp) ?_; conv => whnf)
      · refine ⟨m' - 1, (o + 1, acc' ++ [cellAt l i o]), by omega, ⟨by simp only; omega, by simp only [roomIn_succ, hi', List.append_assoc]; simp only [*, Bool.true_or, Bool.false_or, Bool.or_true, Bool.or_false, Bool.true_and, Bool.false_and, Bool.and_true, Bool.and_false, Bool.not_true, Bool.not_false, if_true, if_false, Bool.false_eq_true, reduceIte]⟩, ?_⟩
        (conv => whnf); refine ⟨rfl, ?_, ?_⟩ <;> (conv => whnf) <;> (repeat' apply And.intro) <;> first | exact True.intro | rfl | exact incr (by omega) | exact snocV | exact snocH
      · refine ⟨m' - 1, (o + 1, acc'), by omega, ⟨by simp only; omega, by simp only [roomIn_succ, hi', List.append_assoc]; simp only [*, Bool.true_or, Bool.false_or, Bool.or_true, Bool.or_false, Bool.true_and, Bool.false_and, Bool.and_true, Bool.and_false, Bool.not_true, Bool.not_false, if_true, if_false, Bool.false_eq_true, reduceIte, List.append_nil]⟩, ?_⟩
        (conv => whnf); refine ⟨rfl, ?_, ?_⟩ <;> (conv => whnf) <;> (repeat' apply And.intro) <;> first | exact True.intro | rfl | (conv => rhs; whnf)
        exact incr (by omega)
    · have hoO : o = O := by simp at hq; omega
      refine ⟨m - 1, (i + 1, acc'), by omega, ⟨by simp only; omega, by simp only; rw [hi', hoO, hi]; rfl⟩, ?_⟩
      (conv => whnf); refine ⟨rfl, ?_, ?_⟩ <;> (conv => whnf) <;> (repeat' apply And.intro) <;> first | exact True.intro | rfl | (conv => rhs; whnf)
      exact incr (by omega)
  · have hiL : i = L := by simp at hq; omega
    have hout : acc = roomOut (fitsR n s) s l := by rw [hi, hiL]; unfold roomOut; rw [hL, hO]; rfl
    have hR : roomR n s l = if decide ((acc.length : Int) > 1024) then ([], 8) else (acc, 0) := by
      delta roomR roomRes; rw [← hout]; simp [hv, hf, hgood]
    rw [hR]
    repeat' first
      | (refine Br.T ?_; conv => whnf)
      | (refine Br.F ?_; conv => whnf)
      | (refine Br.mk (fun hq => ?_) (fun hq => ?_) <;> conv => whnf)
      | (refine FnG.go rfl ?_; conv => whnf)
      | (refine LenG.map ?_; conv => whnf)
      | (refine LenG.go ?_; conv => whnf)
    · rw [hq]; exact RetG.two rfl rfl
    · rw [hq]; exact RetG.two rfl rfl
theorem take_snoc {α : Type} [Inhabited α] {l : List α} {i : Nat} (h : i < l.length) : l.take (i + 1) = l.take i ++ [gd l i] := by
  rw [List.take_add_one, gd_get h]; rfl
def zeroS : GSched := ⟨0, 0, []⟩
def dropR (s : GSched) (flow : Int) : GSched × Int := if !formR s then (zeroS, 1) else (⟨s.length, s.offsets, s.cells.filter fun c => c.flow != flow⟩, 0)
theorem S22 (s : GSched) (hs : Cn s.cells) (flow : Int) : Sound Tryz.prog 22 [s.v, i64 flow] (.tup [(dropR s flow).1.v, i64 (dropR s flow).2]) := by
  refine ex_intro mixedT T [] Tryz.func22 rfl (by rw [Tryz.ntmps22]; simp) (by kernel_rfl) ?_
  conv => whnf
  repeat' first | (refine LenG.map ?_; conv => whnf) | (refine LenG.go ?_; conv => whnf)
  repeat' first
    | (refine Br.T ?_; conv => whnf)
    | (refine Br.F ?_; conv => whnf)
    | (refine Br.mk (fun hq => ?_) (fun hq => ?_) <;> conv => whnf)
    | (refine FnG.go rfl ?_; conv => whnf)
    | (refine LenG.map ?_; conv => whnf)
    | (refine LenG.go ?_; conv => whnf)
    | (refine CallG.go (S76 s hs) ?_; conv => whnf)
  · delta dropR
    rw [hq]
    exact RetG.two rfl rfl
  have hf : formR s = true := by simp_all
  have hb := formR_bd hf
  have hR : dropR s flow = (⟨s.length, s.offsets, s.cells.filter fun c => c.flow != flow⟩, 0) := by
    delta dropR; rw [hf]; rfl
  rw [hR]
  refine Lp.goZ T [.t 2, .t 4, .t 6, .c (.t 6) 2] [.c (.t 6) 2 61] (fun (a : Nat × List GCell) => match a with | (i, acc) => [(1, i64 flow), (2, .op 0 0), (4, .op 1 0), (6, .op 2 0), (7, i64 i)])
    (fun a => match a with | (i, acc) => [.box s.c, .box [i64 0, i64 0, .sl .zero []], .box [i64 s.length, i64 s.offsets, .sl (.tag 3) (acc.map fun x => x.c)], .live 61 5 acc.length])
    (fun m a => m + a.1 = s.cells.length ∧ a.2 = (s.cells.take a.1).filter fun c => c.flow != flow) s.cells.length (0, []) ⟨by simp, by simp⟩ [.t 2, .t 4, .t 6, .c (.t 6) 2] ?_ ?_
  · (conv => whnf); refine ⟨rfl, ?_, ?_⟩ <;> (conv => whnf) <;> (repeat' apply And.intro) <;> first | exact True.intro | rfl | (conv => rhs; whnf)
  rintro m ⟨i, acc⟩ ⟨hm, hi⟩
  simp only at hm hi
  have hacc : acc.length ≤ 512 := by
    rw [hi]; exact Nat.le_trans (List.length_filter_le _ _) (by simp; omega)
  conv => whnf
  refine LenG.map ?_; conv => whnf
  refine Br.mk (fun hq => ?_) (fun hq => ?_) <;> conv => whnf
  · have hlt : i < s.cells.length := by simpa using hq
    repeat' first
      | (refine Br.T ?_; conv => whnf)
      | (refine Br.F ?_; conv => whnf)
      | (refine Br.mk (fun hq => ?_) (fun hq => ?_) <;> conv => whnf)
      | (refine FnG.go rfl ?_; conv => whnf)
      | (refine LenG.map ?_; conv => whnf)
      | (refine LenG.go ?_; conv => whnf)
      | (refine Ix.at (l := s.cells) hlt rfl ?_; conv => whnf)
      | (refine Nd.go (appOk (by decide) (by omega) ⟨rfl, rfl⟩) ?_; conv => whnf)
      | (refine Nd.go (by simp) ?_; conv => whnf)
    · refine ⟨m - 1, (i + 1, acc ++ [gd s.cells i]), by omega, ⟨by simp only; omega, by simp only; rw [take_snoc hlt, List.filter_append, ← hi]; simp only [List.filter_cons, List.filter_nil, *, Bool.true_or, Bool.false_or, Bool.or_true, Bool.or_false, Bool.true_and, Bool.false_and, Bool.and_true, Bool.and_false, Bool.not_true, Bool.not_false, if_true, if_false, Bool.false_eq_true, reduceIte]⟩, ?_⟩
      (conv => whnf); refine ⟨rfl, ?_, ?_⟩ <;> (conv => whnf) <;> (repeat' apply And.intro) <;> first | exact True.intro | rfl | exact incr (by omega) | exact snocH | skip
      exact congrArg (fun z => HO.box [i64 s.length, i64 s.offsets, z]) snocV
    · refine ⟨m - 1, (i + 1, acc), by omega, ⟨by simp only; omega, by simp only; rw [take_snoc hlt, List.filter_append, ← hi]; simp only [List.filter_cons, List.filter_nil, *, Bool.true_or, Bool.false_or, Bool.or_true, Bool.or_false, Bool.true_and, Bool.false_and, Bool.and_true, Bool.and_false, Bool.not_true, Bool.not_false, if_true, if_false, Bool.false_eq_true, reduceIte, List.append_nil]⟩, ?_⟩
      (conv => whnf); refine ⟨rfl, ?_, ?_⟩ <;> (conv => whnf) <;> (repeat' apply And.intro) <;> first | exact True.intro | rfl | (conv => rhs; whnf)
      exact incr (by omega)
  · have hge : s.cells.length ≤ i := by simpa using hq
    rw [List.take_of_length_le hge] at hi
    subst hi
    exact RetG.two rfl rfl
/-- The first index with an error, and the error. -/
def firstE (f : Nat → Int) : Nat → Nat → Int × Int
  | 0, _ => (-1, 0)
  | m + 1, i => if f i != 0 then ((i : Int), f i) else firstE f m (i + 1)
def findFl (l : List GFlow) (id : Int) : Int := idxOf (fun f => f.id == id) l 0
theorem S270 (a n : Int) : Sound Tryz.prog 270 [i64 a, .rp [i64 n]] (.bool (insI a n)) := by
  refine ex_intro mixedT T [] Tryz.func270 rfl (by rw [Tryz.ntmps270]; simp) (by kernel_rfl) ?_
  conv => whnf
  repeat' first | (refine LenG.map ?_; conv => whnf) | (refine LenG.go ?_; conv => whnf)
  repeat' first
    | (refine Br.T ?_; conv => whnf)
    | (refine Br.F ?_; conv => whnf)
    | (refine Br.mk (fun hq => ?_) (fun hq => ?_) <;> conv => whnf)
    | (refine FnG.go rfl ?_; conv => whnf)
    | (refine LenG.map ?_; conv => whnf)
    | (refine LenG.go ?_; conv => whnf)
  all_goals (refine RetG.one ?_; (try simp only [Bool.not_eq_true', Bool.not_eq_false'] at *); (try delta insI); simp only [ret1, *, Bool.true_or, Bool.false_or, Bool.or_true, Bool.or_false, Bool.true_and, Bool.false_and, Bool.and_true, Bool.and_false, Bool.not_true, Bool.not_false, if_true, if_false, Bool.false_eq_true, reduceIte])
theorem S271 (f : GFlow) (id : Int) : Sound Tryz.prog 271 [f.v, .rp [i64 id]] (.bool (f.id == id)) := by
  refine ex_intro mixedT T [] Tryz.func271 rfl (by rw [Tryz.ntmps271]; simp) (by kernel_rfl) ?_
  conv => whnf
  repeat' first | (refine LenG.map ?_; conv => whnf) | (refine LenG.go ?_; conv => whnf)
  exact RetG.one rfl
theorem S198 (l : List GFlow) (hl : Cn l) (id : Int) : Sound Tryz.prog 198 [flowsV l, i64 id] (i64 (findFl l id)) := by
  refine ex_intro mixedT T [] Tryz.func198 rfl (by rw [Tryz.ntmps198]; simp) (by kernel_rfl) ?_
  conv => whnf
  repeat' first | (refine LenG.map ?_; conv => whnf) | (refine LenG.go ?_; conv => whnf)
  repeat' first
    | (refine Br.T ?_; conv => whnf)
    | (refine Br.F ?_; conv => whnf)
    | (refine Br.mk (fun hq => ?_) (fun hq => ?_) <;> conv => whnf)
    | (refine FnG.go rfl ?_; conv => whnf)
    | (refine LenG.map ?_; conv => whnf)
    | (refine LenG.go ?_; conv => whnf)
    | (refine CallG.go (S197_1 (g := 271) rfl [i64 id] l (fun f => f.id == id) (fun f _ => S271 f id) hl) ?_; conv => whnf)
  exact RetG.one rfl
def flowErr (nodes : Int) (f : GFlow) : Int :=
  if decide (f.id < 0) || decide (f.id > 255) || !insI f.from_ nodes || !insI f.to_ nodes then 2
  else if decide (f.period < 1) || decide (f.period > 512) || decide (f.phase < 0) || decide (f.phase ≥ f.period) || decide (f.deadline < 1) || decide (f.deadline > f.period) then 2
  else if f.from_ == f.to_ then 1 else 0
theorem S196 (nodes : Int) (f : GFlow) : Sound Tryz.prog 196 [i64 nodes, f.v] (i64 (flowErr nodes f)) := by
  refine ex_intro mixedT T [] Tryz.func196 rfl (by rw [Tryz.ntmps196]; simp) (by kernel_rfl) ?_
  conv => whnf
  repeat' first | (refine LenG.map ?_; conv => whnf) | (refine LenG.go ?_; conv => whnf)
  repeat' first
    | (refine Br.T ?_; conv => whnf)
    | (refine Br.F ?_; conv => whnf)
    | (refine Br.mk (fun hq => ?_) (fun hq => ?_) <;> conv => whnf)
    | (refine FnG.go rfl ?_; conv => whnf)
    | (refine LenG.map ?_; conv => whnf)
    | (refine LenG.go ?_; conv => whnf)
    | (refine CallG.go (S270 _ nodes) ?_; conv => whnf)
  all_goals (refine RetG.one ?_; delta flowErr; simp only [ret1, *, Bool.true_or, Bool.false_or, Bool.or_true, Bool.or_false, Bool.true_and, Bool.false_and, Bool.and_true, Bool.and_false, Bool.not_true, Bool.not_false, if_true, if_false, Bool.false_eq_true, reduceIte])
def flowAt (nodes : Int) (l : List GFlow) (i : Nat) : Int :=
  if flowErr nodes (gd l i) != 0 then flowErr nodes (gd l i) else if decide ((i : Int) > 0) && decide ((gd l i).id ≤ (gd l (i - 1)).id) then 5 else 0
def flowsP (nodes : Int) (l : List GFlow) : Int × Int :=
  if decide (nodes < 2) || decide (nodes > 32) then (-1, 2) else if decide ((l.length : Int) > 16) then (-1, 8) else firstE (flowAt nodes l) l.length 0
theorem S118 (nodes : Int) (l : List GFlow) (hl : Cn l) : Sound Tryz.prog 118 [i64 nodes, flowsV l] (.tup [i64 (flowsP nodes l).1, i64 (flowsP nodes l).2]) := by
  refine ex_intro mixedT T [] Tryz.func118 rfl (by rw [Tryz.ntmps118]; simp) (by kernel_rfl) ?_
  conv => whnf
  repeat' first | (refine LenG.map ?_; conv => whnf) | (refine LenG.go ?_; conv => whnf)
  repeat' first
    | (refine Br.T ?_; conv => whnf)
    | (refine Br.F ?_; conv => whnf)
    | (refine Br.mk (fun hq => ?_) (fun hq => ?_) <;> conv => whnf)
    | (refine FnG.go rfl ?_; conv => whnf)
    | (refine LenG.map ?_; conv => whnf)
    | (refine LenG.go ?_; conv => whnf)
  · refine RetG.two ?_ ?_ <;> (delta flowsP; simp only [ret1, *, Bool.true_or, Bool.false_or, Bool.or_true, Bool.or_false, Bool.true_and, Bool.false_and, Bool.and_true, Bool.and_false, Bool.not_true, Bool.not_false, if_true, if_false, Bool.false_eq_true, reduceIte])
  · refine RetG.two ?_ ?_ <;> (delta flowsP; simp only [ret1, *, Bool.true_or, Bool.false_or, Bool.or_true, Bool.or_false, Bool.true_and, Bool.false_and, Bool.and_true, Bool.and_false, Bool.not_true, Bool.not_false, if_true, if_false, Bool.false_eq_true, reduceIte])
  · refine RetG.two ?_ ?_ <;> (delta flowsP; simp only [ret1, *, Bool.true_or, Bool.false_or, Bool.or_true, Bool.or_false, Bool.true_and, Bool.false_and, Bool.and_true, Bool.and_false, Bool.not_true, Bool.not_false, if_true, if_false, Bool.false_eq_true, reduceIte])
  have hR : flowsP nodes l = firstE (flowAt nodes l) l.length 0 := by delta flowsP; simp only [*, Bool.true_or, Bool.false_or, Bool.or_true, Bool.or_false, Bool.true_and, Bool.false_and, Bool.and_true, Bool.and_false, Bool.not_true, Bool.not_false, if_true, if_false, Bool.false_eq_true, reduceIte]
  rw [hR]
  refine Lp.go T [] (fun i : Nat => [(0, i64 nodes), (1, flowsV l), (18, flowsV l), (19, i64 l.length), (20, i64 i)]) (fun _ => []) (fun m i => m + i = l.length ∧ firstE (flowAt nodes l) l.length 0 = firstE (flowAt nodes l) m i) l.length 0 ⟨by simp, rfl⟩ [] ?_ ?_
  · (conv => whnf); refine ⟨rfl, ?_, ?_⟩ <;> (conv => whnf) <;> (repeat' apply And.intro) <;> first | exact True.intro | rfl | (conv => rhs; whnf)
  rintro m i ⟨hm, hi⟩
  conv => whnf
  refine Br.mk (fun hq => ?_) (fun hq => ?_) <;> conv => whnf
  · have hlt : i < l.length := by simpa using hq
    obtain ⟨m, rfl⟩ : ∃ q, m = q + 1 := ⟨m - 1, by omega⟩
    rw [firstE] at hi
    have hA : flowAt nodes l i = if flowErr nodes (gd l i) != 0 then flowErr nodes (gd l i) else if decide ((i : Int) > 0) && decide ((gd l i).id ≤ (gd l (i - 1)).id) then 5 else 0 := rfl
    rw [hA] at hi
    clear hA
    repeat' first
      | (refine Br.T ?_; conv => whnf)
      | (refine Br.F ?_; conv => whnf)
      | (refine Br.mk (fun hq => ?_) (fun hq => ?_) <;> conv => whnf)
      | (refine FnG.go rfl ?_; conv => whnf)
      | (refine LenG.map ?_; conv => whnf)
      | (refine LenG.go ?_; conv => whnf)
      | (refine CallG.go (S196 nodes (gd l i)) ?_; conv => whnf)
      | (refine Ix.at (l := l) hlt rfl ?_; conv => whnf)
      | (refine Ix.pred (l := l) (by simp_all) hlt hl rfl ?_; conv => whnf)
    all_goals first
      | (refine RetG.two ?_ ?_ <;> (rw [hi]; (try simp only [ret1, *, Bool.true_or, Bool.false_or, Bool.or_true, Bool.or_false, Bool.true_and, Bool.false_and, Bool.and_true, Bool.and_false, Bool.not_true, Bool.not_false, if_true, if_false, Bool.false_eq_true, reduceIte]) <;> (first | rfl | simp_all)); done)
      | (refine ⟨m, i + 1, by omega, ⟨by omega, by rw [hi]; simp_all⟩, ?_⟩; (conv => whnf); refine ⟨rfl, ?_, ?_⟩ <;> (conv => whnf) <;> (repeat' apply And.intro) <;> first | exact True.intro | rfl | exact incr (by omega))
  · obtain rfl : m = 0 := by
      have : l.length ≤ i := by simpa using hq
      omega
    rw [hi]
    exact RetG.two rfl rfl
/-! ### both say the same -/
/-- The greatest loss on a link that is there. -/
def lossLk (n : GNet) (a b : Int) : Int := (gi n.links (findLk n a b)).loss
/-! ### schedule.in -/
theorem S199 (s : GSched) (slot : Int) : Sound Tryz.prog 199 [s.v, i64 slot] (.fn 272 [.rp s.c, .rp [i64 slot]]) := by
  refine ex_intro mixedT T [] Tryz.func199 rfl (by rw [Tryz.ntmps199]; simp) (by kernel_rfl) ?_
  conv => whnf
  repeat' first | (refine LenG.map ?_; conv => whnf) | (refine LenG.go ?_; conv => whnf)
  repeat' first
    | (refine Br.T ?_; conv => whnf)
    | (refine Br.F ?_; conv => whnf)
    | (refine Br.mk (fun hq => ?_) (fun hq => ?_) <;> conv => whnf)
    | (refine FnG.go rfl ?_; conv => whnf)
    | (refine LenG.map ?_; conv => whnf)
    | (refine LenG.go ?_; conv => whnf)
  exact RetG.shut (ids := [0, 1]) rfl
/-- The indices of the cells of a slot, from i on. -/
def inGo (slot : Int) : List GCell → Nat → List Nat
  | [], _ => []
  | c :: r, i => if c.slot == slot then i :: inGo slot r (i + 1) else inGo slot r (i + 1)
abbrev natsV (l : List Nat) : List (List AV) := l.map fun (i : Nat) => [i64 i]
def inL (s : GSched) (slot : Int) : List Nat := inGo slot s.cells 0
theorem I272 (s : GSched) (slot : Int) (hs : Cn s.cells) : IterS Tryz.prog 272 [.rp s.c, .rp [i64 slot]] (natsV (inL s slot)) := by
  refine it_intro mixedT T [] Tryz.func272 rfl (by rw [Tryz.ntmps272]; simp) (by kernel_rfl) rfl fun l => ?_
  conv => whnf
  repeat' first | (refine LenG.map ?_; conv => whnf) | (refine LenG.go ?_; conv => whnf)
  refine Lp.goT T [] (fun i : Nat => [(0, .yl l), (1, .rp s.c), (2, .rp [i64 slot]), (7, cellsV s.cells), (8, i64 s.cells.length), (9, i64 i)]) (fun _ => []) (fun _ => []) (fun i => .more l (natsV (inGo slot (s.cells.drop i) i))) (fun m i => m + i = s.cells.length) s.cells.length 0 (by simp) [] ?_ ?_
  · (conv => whnf); refine ⟨rfl, ?_, ?_, ?_, ?_⟩ <;> (conv => whnf) <;> (repeat' apply And.intro) <;> first | exact True.intro | rfl | (conv => rhs; whnf)
  rintro m i hm
  conv => whnf
  refine Br.mk (fun hq => ?_) (fun hq => ?_) <;> conv => whnf
  · have hlt : i < s.cells.length := by simpa using hq
    have hd : inGo slot (s.cells.drop i) i = if (gd s.cells i).slot == slot then i :: inGo slot (s.cells.drop (i + 1)) (i + 1) else inGo slot (s.cells.drop (i + 1)) (i + 1) := by
      rw [List.drop_eq_getElem_cons hlt, inGo]; simp [gd, List.getD, hlt]
    rw [hd]
    repeat' first
      | (refine Br.T ?_; conv => whnf)
      | (refine Br.F ?_; conv => whnf)
      | (refine Br.mk (fun hq => ?_) (fun hq => ?_) <;> conv => whnf)
      | (refine FnG.go rfl ?_; conv => whnf)
      | (refine LenG.map ?_; conv => whnf)
      | (refine LenG.go ?_; conv => whnf)
      | (refine Ix.at (l := s.cells) hlt rfl ?_; conv => whnf)
      | (refine YG.go _ (by rw [if_pos (by assumption)]; rfl) ?_ ?_ <;> conv => whnf)
    · refine ⟨m - 1, i + 1, by omega, by omega, ?_⟩
      (conv => whnf); refine ⟨rfl, ?_, ?_, ?_, ?_⟩ <;> (conv => whnf) <;> (repeat' apply And.intro) <;> first | exact True.intro | rfl | (conv => rhs; whnf)
      exact incr (by omega)
    · exact ⟨trivial, by simp⟩
    · rw [if_neg (by simp_all)]
      refine ⟨m - 1, i + 1, by omega, by omega, ?_⟩
      (conv => whnf); refine ⟨rfl, ?_, ?_, ?_, ?_⟩ <;> (conv => whnf) <;> (repeat' apply And.intro) <;> first | exact True.intro | rfl | (conv => rhs; whnf)
      exact incr (by omega)
  · have : s.cells.length ≤ i := by simpa using hq
    rw [List.drop_eq_nil_of_le this]
    exact ⟨rfl, fun l' ys e => by injection e with e1; exact e1.symm⟩
end Go.Proofs.YtbaajjihhdmdpaaGreatDoor

namespace Go.Proofs.YtbaajjihhdmdpaaGreatDoor
open Go.RowKit
set_option linter.unusedVariables false
set_option linter.unusedSimpArgs false
set_option linter.unnecessarySimpa false
set_option linter.unusedSectionVars false
variable [Lax]
/-- Called with a slice nothing of which is closed, and these values, the function gives back this slice, which belongs to whoever receives it; but for the slice's block it turns nothing that was there. -/
def SoundC (P : Program) (f : FuncId) (e : TypeId) (sz : Nat) (xs : List (List AV)) (az : List AV) (r : List (List AV)) : Prop :=
  ∀ (S : Nat → Nat → Prop) (W : World) (B : Nat) (u : Value) (us : List Value), TabB P B W → (∀ b o, S b o → (W.cell? ⟨b, o, none⟩).isSome = true) → B ≤ W.heap.size → FreshV P S W B e sz xs u → us.length = az.length →
    (∀ j x, az[j]? = some x → Rep S W x (us.getD j Go.undef)) →
    Calls P f (u :: us).toArray W fun en W' => ∃ (u' : Value) (S' : Nat → Nat → Prop), en = .returned u' ∧ Keeps (fun k => k < W.heap.size ∧ ownBlk u ≠ some k) B S W S' W' ∧ RetRep P S' W' B (.sl (.own e sz) r) u' ∧
      ∀ g, ownBlk u' = some g → ownBlk u = some g ∨ W.heap.size ≤ g
def RetC1 (P : Program) (h : AHeap) (e : TypeId) (sz : Nat) (r : List (List AV)) (v : AV) : Prop := match v with
  | .ms id 0 n c s => ∃ R : List (List AV), h id = .box R.flatten ∧ R.length = c ∧ (∀ x ∈ R, x.length = sz) ∧ s = sz ∧ n ≤ c ∧ c ≤ maxLen ∧ (∀ x ∈ R.take n, ∀ y ∈ x, pure0 y = true) ∧ r = (R.take n).map (fun x => x.map forget0)
  | .sl (.tag t) xs => h t = .live e sz xs.length ∧ xs = r
  | .sl .zero xs => xs = [] ∧ r = []
  | _ => False
structure RetCG (P : Program) (h : AHeap) (e : TypeId) (sz : Nat) (r : List (List AV)) (vs : List AV) : Prop where
  ret : ∃ v, vs = [v] ∧ RetC1 P h e sz r v
def FinC (P : Program) (tb : Tb) (rvs : List ResultVar) (e : TypeId) (sz : Nat) (r : List (List AV)) : AE → St → Prop
  | .exit _, _ => False
  | _, σ => resG tb σ rvs fun vs => RetCG P σ.h e sz r vs
theorem FinC_sound {P : Program} {tb : Tb} (T : TbOk P tb) {rvs : List ResultVar} {e : TypeId} {sz : Nat} {r : List (List AV)} {en : AE} {σ : St} (h : FinC P tb rvs e sz r en σ) :
    (en = .normal ∨ en = .ret) ∧ ∃ v, resList P σ rvs = some [v] ∧ RetC1 P σ.h e sz r v := by
  have key : resG tb σ rvs (fun vs => RetCG P σ.h e sz r vs) → ∃ v, resList P σ rvs = some [v] ∧ RetC1 P σ.h e sz r v := by
    intro h
    obtain ⟨vs, h1, h2⟩ := resG_sound T _ _ h
    obtain ⟨v, rfl, h3⟩ := h2.ret
    exact ⟨v, h1, h3⟩
  cases en with
  | exit id => exact h.elim
  | normal => exact ⟨.inl rfl, key h⟩
  | ret => exact ⟨.inr rfl, key h⟩
def padR (n c sz : Nat) : List (List AV) := List.replicate (c - n) (List.replicate sz .bad)
theorem padR_len {n c sz : Nat} : ∀ x ∈ padR n c sz, x.length = sz := fun x hx => by rw [List.eq_of_mem_replicate hx]; simp
section
variable {P : Program}
theorem retC_fin {C : Ctx} {a : Act} {W W' : World} {N B : Nat} {σ : St} {K : Nat → Prop} {S : Nat → Nat → Prop} {e : TypeId} {sz : Nat} {r : List (List AV)} {v : AV} {w : Value} (S' : OK P B N C σ.t σ.h a W') (hrv : RepT C W' σ.h v w) (hv : RetC1 P σ.h e sz r v)
    (hk : Keeps K B S W C.S W') (hKD : ∀ k, K k → C.D k) (hsz : sz = P.cellsOf e) (hpos : 0 < sz) :
    ∃ S2, Keeps K B S W S2 W' ∧ RetRep P S2 W' B (.sl (.own e sz) r) w ∧ ∀ g, ownBlk w = some g → ¬ K g := by
  have hnK : ∀ id g, (σ.h id).ownBlock C id = some g → ¬ K g := fun id g ho hg => (S'.inv.tn g (hKD g hg).1).2 id ho
  unfold RetC1 at hv
  split at hv
  · rename_i id n c s
    obtain ⟨R, hb, hRc, hR, rfl, hnc, hcm, hp, rfl⟩ := hv
    obtain ⟨_, q, rfl, hq, _⟩ := hrv
    obtain ⟨us, ty, h1, h2, h3, h4⟩ := S'.inv.box id _ (by rw [hb]; rfl)
    rw [rows_len hR, hRc] at h2
    have hrl : ((R.take n).map fun x => x.map forget0).length = n := by simp; omega
    have hrow : ∀ x ∈ (R.take n).map (fun x => x.map forget0), x.length = s := fun x hx => by
      obtain ⟨y, hy, rfl⟩ := List.mem_map.1 hx
      rw [List.length_map]; exact hR y (List.mem_of_mem_take hy)
    by_cases hc0 : c = 0
    · subst hc0
      have hn0 : n = 0 := by omega
      subst hn0
      exact ⟨C.S, hk, ⟨.slE _ _, .inl ⟨by simp, _, rfl⟩, hsz, hrow⟩, fun g hg => by simp [ownBlk] at hg⟩
    · have hq0 : q = 0 := by have := hq (by omega); simpa using this
      subst hq0
      have hns : n * s ≤ us.length := by rw [h2]; exact Nat.mul_le_mul_right _ hnc
      have hob : ownBlk (.slice (some ⟨C.ι id, 0, none⟩) n c) = some (C.ι id) := by
        cases c with
        | zero => omega
        | succ c => rfl
      have hgK := hnK id (C.ι id) (by rw [hb]; rfl)
      refine ⟨fun b o => C.S b o ∨ (b = C.ι id ∧ o < n * s), ⟨hk.below, hk.keep, fun b o hs => .inl (hk.clS b o hs), hk.clW, fun b o hs => ?_, fun b o hs => ?_⟩, ⟨?_, ?_, hsz, hrow⟩, fun g hg => ?_⟩
      · rcases hs with hs | ⟨rfl, _⟩
        · exact hk.nb b o hs
        · exact .inr ⟨hgK, h3⟩
      · rcases hs with hs | ⟨rfl, ho⟩
        · exact hk.has b o hs
        · rw [cell_of_row W' _ _ _ _ _ h1]; simp; omega
      · have hgx : ∀ i j x, getx ((R.take n).map fun x => x.map forget0) i j = some x → ∃ y, getx R i j = some y ∧ x = forget0 y ∧ pure0 y = true ∧ i < n ∧ j < s := fun i j x hx => by
          have hlt := getx_lt hrow hx
          rw [hrl] at hlt
          unfold getx at hx ⊢
          obtain ⟨row, hr1, hr2⟩ := Option.bind_eq_some_iff.1 hx
          rw [List.getElem?_map] at hr1
          obtain ⟨row0, hr0, rfl⟩ := Option.map_eq_some_iff.1 hr1
          rw [List.getElem?_map] at hr2
          obtain ⟨y, hy, rfl⟩ := Option.map_eq_some_iff.1 hr2
          have hmem := List.mem_of_getElem? hr0
          rw [List.getElem?_take, if_pos hlt.1] at hr0
          exact ⟨y, by rw [hr0]; exact hy, rfl, hp row0 hmem y (List.mem_of_getElem? hy), hlt⟩
        rcases Nat.eq_zero_or_pos n with e0 | e0
        · subst e0
          have : ((R.take 0).map fun x => x.map forget0) = [] := by simp
          rw [this]
          exact .slE _ _
        · have key : Rep (fun b o => C.S b o ∨ (b = C.ι id ∧ o < n * s)) W' (.sl .no ((R.take n).map fun x => x.map forget0)) (.slice (some ⟨C.ι id, 0, none⟩) ((R.take n).map fun x => x.map forget0).length c) := by
            refine .sl _ s (C.ι id) 0 c (fun i j => us.getD (i * s + j) Go.undef) (by rw [hrl]; exact hnc) hrow (fun i j x hx => ?_) (fun i j x hx => ?_)
            · obtain ⟨y, hy, _, _, hi, hj⟩ := hgx i j x hx
              have hlt : i * s + j < n * s := by
                have := Nat.mul_le_mul_right s (show i + 1 ≤ n from hi)
                rw [Nat.add_mul] at this; omega
              rw [Nat.zero_add]
              refine ⟨.inr ⟨rfl, hlt⟩, ?_⟩
              rw [cell_of_row W' _ _ _ _ _ h1]
              simp [List.getD, List.getElem?_eq_getElem (show i * s + j < us.length by omega)]
            · obtain ⟨y, hy, rfl, hpy, hi, hj⟩ := hgx i j x hx
              have hcell : R.flatten[i * s + j]? = some y := by
                unfold getx at hy
                obtain ⟨row, hr1, hr2⟩ := Option.bind_eq_some_iff.1 hy
                have hl := hR row (List.mem_of_getElem? hr1)
                have := rows_row hR hr1
                have h5 : ((R.flatten.drop (i * s)).take row.length)[j]? = some y := by rw [this]; exact hr2
                rw [List.getElem?_take, hl, if_pos hj, List.getElem?_drop] at h5
                exact h5
              exact ((h4 _ y hcell).pure hpy).mono (fun _ _ hs => .inl hs) (fun _ _ _ => rfl)
          rwa [hrl] at key
      · rw [hrl]
        refine .inr ⟨⟨ty, us.take (n * s), ?_, .inr ⟨C.ι id, c, us.toArray, rfl, h3, h1, hnc, hcm, by simp [h2, ← hsz], by simp [← hsz]⟩⟩, fun g hg o ho hs => ?_⟩
        · simp [← hsz]; omega
        · rw [hob] at hg
          simp only [Option.some.injEq] at hg
          subst hg
          rcases hs with hs | ⟨_, hs⟩
          · exact S'.inv.unsealed id _ hb o hs
          · rw [hsz] at hs; omega
      · rw [hob] at hg
        simp only [Option.some.injEq] at hg
        subst hg; exact hgK
  · rename_i t xs
    obtain ⟨hlv, rfl⟩ := hv
    obtain ⟨q1, q2⟩ := hrv
    rw [hlv] at q2
    obtain ⟨_, q3, q4⟩ := q2
    obtain ⟨q5, q6⟩ := S'.inv.live t e sz _ hlv
    exact ⟨C.S, hk, ⟨q1, by rw [q3]; exact q6, q5, q4⟩, fun g hg => hnK t g (by rw [hlv]; show ownBlk (C.θ t) = some g; rw [← q3]; exact hg)⟩
  · obtain ⟨rfl, rfl⟩ := hv
    obtain ⟨_, A, rfl⟩ := hrv
    exact ⟨C.S, hk, ⟨.slE A 0, .inl ⟨rfl, A, rfl⟩, hsz, by simp⟩, fun g hg => by simp [ownBlk] at hg⟩
  · exact hv.elim
/-- A CONTRACT OF A FUNCTION THAT TAKES A SLICE OVER, by the evaluator. -/
theorem exC_intro (hm : P.follows .mixedOrders = true) {tb : Tb} (T : TbOk P tb) {f : FuncId} {fn : Func} {c : Code} {e : TypeId} {sz : Nat} {xs : List (List AV)} {az : List AV} {r : List (List AV)} (X : List Nat) (hf : P.funcs[f]? = some fn) (hb : fn.body = some c)
    (hN : az.length + 1 ≤ fn.ntmps) (hk : codeOk fn.ntmps X c = true)
    (h0 : xs = [] → EX P tb X c (FinC P tb fn.results.toList e sz r) ⟨argsT (.sl .zero [] :: az), fun _ => .none, 0, fun _ => .bad, .off⟩)
    (h1 : ∀ cap, 0 < cap → xs.length ≤ cap → cap ≤ maxLen → (∀ x ∈ xs, x.length = sz) → EX P tb X c (FinC P tb fn.results.toList e sz r) ⟨argsT (.ms 0 0 xs.length cap sz :: az), ofH [.box (xs ++ padR xs.length cap sz).flatten], 1, fun _ => .bad, .off⟩) : SoundC P f e sz xs az r := by
  intro S W B u us hT hS hB hu hul hrep
  -- the end
  have fin : ∀ (K : Nat → Prop), (∀ k, K k ↔ (k < W.heap.size ∧ ownBlk u ≠ some k)) → ∀ (en : AE) (σ : St) (C' : Ctx) (a : Act) (W' : World), FinC P tb fn.results.toList e sz r en σ → OK P B fn.ntmps C' σ.t σ.h a W' →
      (Keeps K B S W C'.S W' ∧ ∀ k, K k → C'.D k) → (en = .normal ∨ en = .ret) ∧ ∃ v, (results fn a.tmps).run P W' = .ok v W' ∧ ∃ (u' : Value) (S' : Nat → Nat → Prop), Ending.returned v = .returned u' ∧
        Keeps (fun k => k < W.heap.size ∧ ownBlk u ≠ some k) B S W S' W' ∧ RetRep P S' W' B (.sl (.own e sz) r) u' ∧ ∀ g, ownBlk u' = some g → ownBlk u = some g ∨ W.heap.size ≤ g := by
    intro K hK en σ C' a W' hq OK' ⟨k, hKD⟩
    obtain ⟨he, v, hv, hr⟩ := FinC_sound T hq
    refine ⟨he, ?_⟩
    obtain ⟨ws, hrun, hl, hc⟩ := resList_run OK' _ _ hv
    have hrun' : (results fn a.tmps).run P W' = .ok (if h : ws.toArray.size = 1 then ws.toArray[0] else .tuple ws.toArray) W' := by
      rw [results_eq, Sem.run_bind, Array.mapM_eq_mapM_toList, Sem.run_map, hrun]
      rfl
    obtain ⟨w, rfl⟩ : ∃ w, ws = [w] := by
      cases ws with
      | nil => simp at hl
      | cons w ws => cases ws with
        | nil => exact ⟨w, rfl⟩
        | cons _ _ => simp at hl
    have hrv : RepT C' W' σ.h v w := by simpa using hc 0 v rfl
    obtain ⟨S2, g1, g2, g3⟩ := retC_fin OK' hrv hr k hKD hu.szE hu.pos
    refine ⟨w, by simpa using hrun', w, S2, rfl, g1.sub fun b hb => (hK b).2 hb, g2, fun g hg => ?_⟩
    have := g3 g hg
    rw [hK] at this
    by_cases h1 : ownBlk u = some g
    · exact .inl h1
    · exact .inr (Nat.le_of_not_lt fun h2 => this ⟨h2, h1⟩)
  have gho : ∀ (K : Nat → Prop), Ghost P B (fun y C Wx => y = .off ∧ Keeps K B S W C.S Wx ∧ ∀ k, K k → C.D k) := fun K => by
    refine ⟨?_, ?_⟩
    · rintro y C W1 C' W2 ⟨h1, h2, h3⟩ hD k
      exact ⟨h1, h2.trans (k.sub h3), fun b hb => (hD b).2 (h3 b hb)⟩
    · rintro l x rest C W vs ⟨h1, _⟩; cases h1
  rcases hu.ex with ⟨rfl, A, rfl⟩ | ⟨b, cap, uv, ty, rfl, hBb, hh, husz, hncap, hcap, hmax, hnS, hcells⟩
  · have I0 : Inv P { T := fun k => k < W.heap.size, S0 := S, S := S, ι := fun _ => 0, θ := fun _ => Go.undef } (fun _ => .none) W B :=
      ⟨hS, hB, fun id cs hp => (by cases hp), fun id cs hp => (by cases hp), fun id cs hp => (by cases hp), fun t e sz n ht => (by cases ht), fun i j b hi => (by cases hi), fun b o hs => .inl hs, fun b hb => ⟨hb, fun id ho => by cases ho⟩, fun b hb => hb.elim, fun _ _ h => h, hT, fun t e sz xs ht => (by cases ht)⟩
    refine calls_of_WP hm X (h0 := fun _ => .none) (k0 := 0) (args := .sl .zero [] :: az) (fun _ => rfl) hf hb (by simpa using hN) hk (WP_mono c (fun _ _ hq => hq) (EX_sound T c (h0 rfl))) (by simp [hul]) (fun j x hx => ?_) I0 (gho fun k => k < W.heap.size) ⟨rfl, .refl hS, fun k hk => ⟨hk, fun h => h⟩⟩ ?_
    · cases j with
      | zero => simp at hx; subst hx; exact ⟨rfl, A, rfl⟩
      | succ j => exact RepT.of_rep (by simpa [List.getD] using hrep j x (by simpa using hx))
    · intro en σ C' a W' hq OK' hg hB'
      exact fin _ (fun k => ⟨fun h => ⟨h, by simp [ownBlk]⟩, fun h => h.1⟩) en σ C' a W' hq OK' hg.2
  · have hob : ownBlk (.slice (some ⟨b, 0, none⟩) xs.length cap) = some b := by
      cases cap with
      | zero => omega
      | succ c => rfl
    have hRl : ∀ x ∈ xs ++ padR xs.length cap sz, x.length = sz := fun x hx => (List.mem_append.1 hx).elim (hu.rows x) (padR_len x)
    have hRlen : (xs ++ padR xs.length cap sz).length = cap := by simp [padR]; omega
    have hflat : (xs ++ padR xs.length cap sz).flatten.length = uv.size := by rw [rows_len hRl, hRlen, husz]
    have hp0 : ∀ id cs, (ofH [.box (xs ++ padR xs.length cap sz).flatten] id).peek = some cs → id = 0 ∧ cs = (xs ++ padR xs.length cap sz).flatten := fun id cs hp => by
      cases id with
      | zero => exact ⟨rfl, by simpa [ofH, HO.peek] using hp.symm⟩
      | succ n => simp [ofH, HO.peek] at hp
    have ho0 : ∀ id g, (ofH [.box (xs ++ padR xs.length cap sz).flatten] id).ownBlock { T := fun k => k < W.heap.size ∧ k ≠ b, S0 := S, S := S, ι := fun _ => b, θ := fun _ => Go.undef } id = some g → id = 0 ∧ g = b := fun id g ho => by
      cases id with
      | zero => exact ⟨rfl, by simpa [ofH, HO.ownBlock] using ho.symm⟩
      | succ n => simp [ofH, HO.ownBlock] at ho
    have I0 : Inv P { T := fun k => k < W.heap.size ∧ k ≠ b, S0 := S, S := S, ι := fun _ => b, θ := fun _ => Go.undef } (ofH [.box (xs ++ padR xs.length cap sz).flatten]) W B := by
      refine ⟨hS, hB, fun id cs hp => ?_, fun id cs hp o => ?_, fun id cs hp => ?_, fun t e sz n ht => ?_, fun i j g hi hj => ?_, fun b o hs => .inl hs, fun k hk => ⟨hk.1, fun id ho => hk.2 (ho0 id k ho).2⟩, fun b hb => hb.elim, fun _ _ h => h, hT, fun t e sz xs ht => ?_⟩
      · obtain ⟨rfl, rfl⟩ := hp0 id cs hp
        refine ⟨uv.toList, ty, by simpa using hh, by simpa using hflat.symm, hBb, fun j x hx => ?_⟩
        obtain ⟨h0', hg⟩ := rows_get hRl hx
        have ejs : j / sz * sz + j % sz = j := by rw [Nat.mul_comm]; exact Nat.div_add_mod j sz
        by_cases hlt : j / sz < xs.length
        · have hg' : getx xs (j / sz) (j % sz) = some x := by
            unfold getx at hg ⊢
            rwa [List.getElem?_append_left hlt] at hg
          have := hcells _ _ x hg'
          rw [ejs] at this
          refine RepT0.of_rep ?_
          rw [List.getD_eq_getElem?_getD, Array.getElem?_toList]
          rwa [Array.getD_eq_getD_getElem?] at this
        · have : x = .bad := by
            unfold getx at hg
            rw [List.getElem?_append_right (by omega)] at hg
            obtain ⟨row, hr1, hr2⟩ := Option.bind_eq_some_iff.1 hg
            rw [List.eq_of_mem_replicate (List.mem_of_getElem? hr1)] at hr2
            exact List.eq_of_mem_replicate (List.mem_of_getElem? hr2)
          subst this
          exact Rep.any _
      · have := hp0 id cs (by rw [hp]; rfl)
        exact hnS o
      · cases id with
        | zero => simp [ofH] at hp
        | succ n => simp [ofH] at hp
      · cases t with
        | zero => simp [ofH] at ht
        | succ n => simp [ofH] at ht
      · rw [(ho0 i g hi).1, (ho0 j g hj).1]
      · cases t with
        | zero => simp [ofH] at ht
        | succ n => simp [ofH] at ht
    refine calls_of_WP hm X (h0 := ofH [.box (xs ++ padR xs.length cap sz).flatten]) (k0 := 1) (args := .ms 0 0 xs.length cap sz :: az) (fun q => by rw [Nat.add_comm]; rfl) hf hb (by simpa using hN) hk (WP_mono c (fun _ _ hq => hq) (EX_sound T c (h1 cap hcap hncap hmax hu.rows))) (by simp [hul]) (fun j x hx => ?_) I0 (gho fun k => k < W.heap.size ∧ k ≠ b) ⟨rfl, .refl hS, fun k hk => ⟨hk, fun h => h⟩⟩ ?_
    · cases j with
      | zero => simp at hx; subst hx; exact ⟨rfl, 0, rfl, fun _ => by simp, hncap⟩
      | succ j => exact RepT.of_rep (by simpa [List.getD] using hrep j x (by simpa using hx))
    · intro en σ C' a W' hq OK' hg hB'
      exact fin _ (fun k => by rw [hob]; constructor <;> rintro ⟨h1, h2⟩ <;> exact ⟨h1, fun e => h2 (by simpa using e.symm)⟩) en σ C' a W' hq OK' hg.2
end
section
variable {P : Program} {C : Ctx} {h : AHeap} {W : World} {B : Nat}
/-- A slice of the machine's own is given away. -/
theorem Inv.giveF (I : Inv P C h W B) {t : Nat} {e : TypeId} {sz : Nat} {xs : List (List AV)} (ht : h t = .fresh e sz xs) : Inv P C (upd h t .dead) W B ∧ Le C h W C (upd h t .dead) W := by
  have l : Le C h W C (upd h t .dead) W := by
    refine ⟨fun _ _ h => h, fun _ _ _ => rfl, fun k => ?_, fun _ _ => rfl, fun _ _ => rfl, rfl, rfl, rfl, fun _ _ => rfl, fun _ _ h => .inl h⟩
    by_cases e : k = t
    · subst e; rw [upd_self, ht]; trivial
    · rw [upd_ne _ e]; exact HOle.refl _
  have key : ∀ a x, (upd h t .dead a).ownBlock C a = some x → (h a).ownBlock C a = some x := fun a x ha => by
    by_cases e : a = t
    · subst e; rw [upd_self] at ha; cases ha
    · rw [upd_ne _ e] at ha; exact ha
  have ne : ∀ {k o}, o ≠ .dead → upd h t .dead k = o → h k = o := fun {k o} ho hk => by
    by_cases e : k = t
    · subst e; rw [upd_self] at hk; exact absurd hk.symm ho
    · rw [upd_ne _ e] at hk; exact hk
  refine ⟨⟨I.has, I.base, fun k cs2 hp => ?_, fun k cs2 hp => I.unsealed k cs2 (ne (by simp) hp), fun k cs2 hp => I.isSealed k cs2 (ne (by simp) hp), fun t e sz n ht => I.live t e sz n (ne (by simp) ht), fun a b x ha hb => I.apart a b x (key a x ha) (key b x hb), I.news, fun b hb => ⟨(I.tn b hb).1, fun id ho => (I.tn b hb).2 id (key id b ho)⟩, I.mn, I.ss, I.tb, fun t e sz xs ht => I.fr t e sz xs (ne (by simp) ht)⟩, l⟩
  have hp' : (h k).peek = some cs2 := by
    by_cases e : k = t
    · subst e; rw [upd_self] at hp; cases hp
    · rw [upd_ne _ e] at hp; exact hp
  obtain ⟨us, ty, h1, h2, h3, h4⟩ := I.box k cs2 hp'
  exact ⟨us, ty, h1, h2, h3, fun j x hx => (h4 j x hx).le l⟩
def killF (h : AHeap) : Option Nat → AHeap
  | none => h
  | some t => upd h t .dead
/-- A slice of the machine's own, or one without any room. -/
def ownF (t : Nat → AV) (h : AHeap) (x : Operand) (e : TypeId) (sz : Nat) (kill : Option Nat) (xs : List (List AV)) : Prop := match kill with
  | none => xs = [] ∧ evA t x = .sl .zero []
  | some tg => evA t x = .fs tg ∧ h tg = .fresh e sz xs
theorem Inv.giveO (I : Inv P C h W B) {t : Nat → AV} {x : Operand} {e : TypeId} {sz : Nat} {kill : Option Nat} {xs : List (List AV)} (ho : ownF t h x e sz kill xs) : Inv P C (killF h kill) W B ∧ Le C h W C (killF h kill) W := by
  cases kill with
  | none => exact ⟨I, .refl _ _ _⟩
  | some tg => exact I.giveF ho.2
variable {i : Nat} {o : Oper} {a : Act} {t : Nat → AV} {next : Act → World → Prop} {Q : Exit → Act → World → Prop} {K : AV → AHeap → Prop}
/-- What an own slice is. -/
theorem ownF_val (I : Inv P C h W B) (hρ : ∀ n, RepT C W h (t n) (a.tmps.getD n Go.undef)) {x : Operand} {e : TypeId} {sz : Nat} {kill : Option Nat} {xs : List (List AV)} (hs : sz = P.cellsOf e) (h0 : 0 < sz) (ho : ownF t h x e sz kill xs) :
    FreshV P C.S W B e sz xs (a.eval x) ∧ ∀ g, ownBlk (a.eval x) = some g → (∀ id, (killF h kill id).ownBlock C id ≠ some g) ∧ ¬ C.T g := by
  have hr := evA_rep hρ x
  cases kill with
  | none =>
    obtain ⟨rfl, h1⟩ := ho
    rw [h1] at hr
    obtain ⟨_, A, e1⟩ := hr
    rw [e1]
    exact ⟨⟨hs, h0, by simp, .inl ⟨rfl, A, rfl⟩⟩, fun g hg => by cases A <;> cases hg⟩
  | some tg =>
    obtain ⟨h1, h2⟩ := ho
    rw [h1] at hr
    obtain ⟨_, e1, _⟩ := hr
    have hf := I.fr tg e sz xs h2
    rw [← e1] at hf
    refine ⟨hf, fun g hg => ?_⟩
    have hob : (h tg).ownBlock C tg = some g := by rw [h2]; show ownBlk (C.θ tg) = some g; rw [← e1]; exact hg
    refine ⟨fun id hid => ?_, fun ht => (I.tn g ht).2 tg hob⟩
    have hid' : (upd h tg .dead id).ownBlock C id = some g := hid
    by_cases e2 : id = tg
    · subst e2; rw [upd_self] at hid'; cases hid'
    · rw [upd_ne _ e2] at hid'
      exact e2 (I.apart id tg g hid' hob)
theorem appF_fin (I : Inv P C h W B) (hi : h i = .none) {kill : Option Nat} {e : TypeId} {sz : Nat} {zs : List (List AV)} {C2 : Ctx} {W2 : World} {u : Value} (hik : killF h kill i = .none) (hl : Le C h W C (killF h kill) W) (hnn : ∀ id, id ≠ i → h id = .none → killF h kill id = .none) (hr : (execOp a.eval o).run P W = .ok (.value u) W2)
    (I2 : Inv P C2 (killF h kill) W2 B) (l2 : Le C (killF h kill) W C2 (killF h kill) W2) (hB : Below B W W2) (ha : FreshV P C2.S W2 B e sz zs u)
    (hn : ∀ g, ownBlk u = some g → (∀ id, (killF h kill id).ownBlock C2 id ≠ some g) ∧ ¬ C2.T g) (hu1 : u.oneCell' = true)
    (hnx : ∀ v h' u W' C', K v h' → RepT C' W' h' v u → Inv P C' h' W' B → Le C h W C' h' W' → Below B W W' → (∀ id, id ≠ i → h id = .none → h' id = .none) → next (a.put o.dst u) W')
    (hK : K (.fs i) (upd (killF h kill) i (.fresh e sz zs))) : o.wp P a W next Q := by
  obtain ⟨I3, l3⟩ := I2.newFresh hik e sz zs u ha hn
  refine wp_value hr (hnx _ _ u W2 _ hK ⟨hu1, by simp, ?_⟩ I3 ((hl.trans l2).trans l3) hB fun id hid h0 => ?_)
  · show (match upd (killF h kill) i (.fresh e sz zs) i with | .fresh _ _ _ => True | .dead => True | _ => False)
    rw [upd_self]; trivial
  · rw [upd_ne _ hid]; exact hnn id hid h0
/-- Cells of a row that hold a list of elements and another one. -/
theorem rows_two {S : Nat → Nat → Prop} {W2 : World} {xs ys : List (List AV)} {sz : Nat} {olds news : List Value} {rest : List Value} (hx : ∀ e ∈ xs, e.length = sz) (hy : ∀ e ∈ ys, e.length = sz) (ho : olds.length = xs.length * sz) (hn : news.length = ys.length * sz)
    (rx : ∀ i j x, getx xs i j = some x → Rep S W2 x (olds.getD (i * sz + j) Go.undef)) (ry : ∀ i j x, getx ys i j = some x → Rep S W2 x (news.getD (i * sz + j) Go.undef)) :
    ∀ i j x, getx (xs ++ ys) i j = some x → Rep S W2 x ((olds ++ news ++ rest).toArray.getD (i * sz + j) Go.undef) := by
  intro i j x hij
  have hg : (olds ++ news ++ rest).toArray.getD (i * sz + j) Go.undef = (olds ++ (news ++ rest)).getD (i * sz + j) Go.undef := by
    rw [Array.getD_eq_getD_getElem?, List.getElem?_toArray, List.getD_eq_getElem?_getD, List.append_assoc]
  rw [hg, List.getD_eq_getElem?_getD]
  rcases getx_append hij with h1 | ⟨hge, h1⟩
  · obtain ⟨h2, h3⟩ := getx_lt hx h1
    have hlt := flat_lt h2 h3
    rw [List.getElem?_append_left (by omega), ← List.getD_eq_getElem?_getD]
    exact rx i j x h1
  · obtain ⟨h2, h3⟩ := getx_lt hy h1
    have hlt := flat_lt h2 h3
    have e : i * sz + j = xs.length * sz + ((i - xs.length) * sz + j) := by
      have := Nat.mul_le_mul_right sz hge
      rw [Nat.sub_mul]; omega
    rw [List.getElem?_append_right (by omega), ho, e, Nat.add_sub_cancel_left, List.getElem?_append_left (by omega), ← List.getD_eq_getElem?_getD]
    exact ry _ j x h1
theorem flatV_getD {sz m : Nat} {f : Nat → Nat → Value} {i j : Nat} (hi : i < m) (hj : j < sz) : (flatV sz m f).getD (i * sz + j) Go.undef = f i j := by
  rw [List.getD_eq_getElem?_getD, flat_get f hi hj]; rfl
theorem Sem.appF {ty e : TypeId} {x y : Operand} {f' : Fl} {xs ys : List (List AV)} {kill : Option Nat} {sz : Nat} (he : sliceElem P ty = some e) (hx : ownF t h x e sz kill xs) (hy : evA t y = .sl f' ys) (hsz : sz = P.cellsOf e) (h0 : 0 < sz) (hz : ((zeroC P e).map List.length) = some sz)
    (hb : (xs.length + ys.length) * P.bytesOf e ≤ 140737488355328) (hm : xs.length + ys.length ≤ 9223372036854775807) (hys : ∀ y ∈ ys, y.length = sz ∧ y.all isAtom = true)
    (hK : K (.fs i) (upd (killF h kill) i (.fresh e sz (xs ++ ys)))) : SemOp P i t h (.call { callee := .builtin .append, args := #[x, y], argTypes := #[ty, ty] }) K := by
  refine ⟨fun c e => (by cases e), fun o a C W B next Q hop I hρ hi hnx => ?_⟩
  obtain ⟨hu, hs⟩ := sliceElem_spec he
  obtain ⟨inf, hinf⟩ := Option.isSome_iff_exists.1 hs
  have hsize : inf.size = sz := by rw [hsz]; simp [Program.cellsOf, hinf]
  have hbytes : inf.bytes = P.bytesOf e := by simp [Program.bytesOf, hinf]
  obtain ⟨zc, hzc⟩ : ∃ zc, zeroC P e = some zc := by
    cases hq : zeroC P e with
    | none => rw [hq] at hz; cases hz
    | some zc => exact ⟨zc, rfl⟩
  have hzero : ∃ z, inf.zero = some z ∧ z.cells.size = sz := by
    have hzc' := hzc
    unfold zeroC at hzc'
    rw [hinf] at hzc'
    simp only [Option.bind_some] at hzc'
    cases hq : inf.zero with
    | none => rw [hq] at hzc'; cases hzc'
    | some z =>
      rw [hq] at hzc'
      simp only at hzc'
      split at hzc'
      · simp only [Option.some.injEq] at hzc'
        rw [hzc] at hz
        simp only [Option.map_some, Option.some.injEq] at hz
        exact ⟨z, rfl, by rw [← hz, ← hzc']; simp⟩
      · cases hzc'
  obtain ⟨z, hiz, hzs⟩ := hzero
  obtain ⟨hf, hfree⟩ := ownF_val I hρ hsz h0 hx
  obtain ⟨I1, l1⟩ := I.giveO hx
  have hik : killF h kill i = .none := by
    cases kill with
    | none => exact hi
    | some tg =>
      show upd h tg .dead i = .none
      rw [upd_ne _ (fun e => by subst e; rw [hx.2] at hi; cases hi)]; exact hi
  have hnn : ∀ id, id ≠ i → h id = .none → killF h kill id = .none := fun id hid h1 => by
    cases kill with
    | none => exact h1
    | some tg =>
      show upd h tg .dead id = .none
      rw [upd_ne _ (fun e => by subst e; rw [hx.2] at h1; cases h1)]; exact h1
  have ry := ev_slice I hρ hy
  obtain ⟨A2, c2, ey, hney⟩ := rep_sl ry
  have hxr := hf.rows
  -- nothing appended
  by_cases hne : ys = []
  · subst hne
    rw [List.append_nil] at hK
    have hfc : (Builtin.firstCells sz 0 (.slice A2 0 c2)).run P W = .ok #[] W := by
      cases A2 <;> simp [Builtin.firstCells, loadCells, loadCellsFrom]
    simp only [List.length_nil] at ey
    obtain ⟨A, c, ex, hle⟩ : ∃ A c, a.eval x = .slice A xs.length c ∧ xs.length ≤ c := by
      rcases hf.ex with ⟨rfl, A, e1⟩ | ⟨b, c, us, ty', e1, _, _, _, hc, _⟩
      · exact ⟨A, 0, e1, by simp⟩
      · exact ⟨_, c, e1, hc⟩
    have hr : (Builtin.append_ #[ty, ty] o.type #[.slice A xs.length c, .slice A2 0 c2]).run P W = .ok (.slice A xs.length c) W := by
      simp only [Builtin.append_]
      have hso := run_sizeOf' (P := P) (w := W) hs
      simp [run_underlying hu, run_sizeOf' hs, Builtin.lenOf, hle, ← hsz, hfc]
      cases A <;> simp [storeCells]
    have hrun : (execOp a.eval o).run P W = .ok (.value (a.eval x)) W := by
      simp only [execOp, hop, resolve, invoke, builtin, Sem.run_bind, Sem.run_pure, Result.andThen_ok, List.map_toArray, List.map_cons, List.map_nil, ex, ey, hr]
    exact appF_fin I hi hik l1 hnn hrun I1 (.refl _ _ _) (.refl _ _) hf hfree (by rw [ex]; rfl) hnx hK
  obtain ⟨b2, off2, sz2, uf2, rfl, hc2, hsz2, hcell2, hrep2⟩ := hney hne
  have hlp : 0 < ys.length := List.length_pos_iff.2 hne
  have hsz2' : sz2 = sz := by rw [← hsz2 _ (List.getElem_mem hlp), (hys _ (List.getElem_mem hlp)).1]
  subst hsz2'
  have news := flat_news (W := W) (S := C.S) hsz2 hcell2
  have one := flat_one (W := W) (S := C.S) hsz2 (fun y hy => (hys y hy).2) hrep2
  have nlen := flat_len sz2 ys.length uf2
  have zsz : ∀ k, (Builtin.zeroCells z.cells k).size = k * sz2 := fun k => by rw [size_zeroCells, hzs]
  -- a new row
  have newRow : ∀ (olds : List Value) (cap : Nat) , olds.length = xs.length * sz2 → (∀ i j x, getx xs i j = some x → Rep C.S W x (olds.getD (i * sz2 + j) Go.undef)) → xs.length + ys.length ≤ cap → cap ≤ maxLen →
      (execOp a.eval o).run P W = .ok (.value (.slice (some ⟨W.heap.size, 0, none⟩) (xs.length + ys.length) cap)) (W.drew.alloc (.cells (olds.toArray ++ (flatV sz2 ys.length uf2).toArray ++ Builtin.zeroCells z.cells (cap - (xs.length + ys.length))) e)) → o.wp P a W next Q := by
    intro olds cap ho rx hcap hm hr
    obtain ⟨I2, l2⟩ := I1.heap (W' := W.drew) rfl
    obtain ⟨I3, l3⟩ := I2.grow (W' := W.drew.alloc (.cells (olds.toArray ++ (flatV sz2 ys.length uf2).toArray ++ Builtin.zeroCells z.cells (cap - (xs.length + ys.length))) e)) C.S
      (fun b hb => heap_alloc_old W.drew _ hb) (by simp) (fun _ _ hs => hs) (fun b q hs => .inl hs) (fun b q hs => by
        rw [cell_of_heap (heap_alloc_old W.drew _ (cell_lt (I.has b q hs)))]; exact I.has b q hs)
    have hg := heap_alloc_new W.drew (.cells (olds.toArray ++ (flatV sz2 ys.length uf2).toArray ++ Builtin.zeroCells z.cells (cap - (xs.length + ys.length))) e)
    have hle := l2.trans l3
    refine appF_fin I hi hik l1 hnn (C2 := { C with S := C.S }) hr I3 hle (((Below.refl B W).drew).alloc I.base _) ⟨hsz, h0, fun x hx => (List.mem_append.1 hx).elim (hxr x) (hsz2 x), .inr ⟨W.heap.size, cap, _, e, ?_, I.base, hg, ?_, ?_, by omega, hm, fun q hq => ?_, ?_⟩⟩ (fun g hg' => ?_) rfl hnx hK
    · rw [List.length_append]
    · rw [Array.size_append, Array.size_append, List.size_toArray, List.size_toArray, ho, nlen, zsz, ← Nat.add_mul, ← Nat.add_mul]
      congr 1; omega
    · rw [List.length_append]; exact hcap
    · exact Nat.lt_irrefl _ (cell_lt (I.has _ _ hq))
    · have := rows_two (S := C.S) (W2 := W.drew.alloc (.cells (olds.toArray ++ (flatV sz2 ys.length uf2).toArray ++ Builtin.zeroCells z.cells (cap - (xs.length + ys.length))) e)) (rest := (Builtin.zeroCells z.cells (cap - (xs.length + ys.length))).toList) hxr hsz2 ho nlen
        (fun i j x hx => (rx i j x hx).le hle) (fun i j x hx => by
          obtain ⟨h3, h4⟩ := getx_lt hsz2 hx
          rw [flatV_getD h3 h4]; exact (hrep2 i j x hx).le hle)
      have e2 : (olds ++ flatV sz2 ys.length uf2 ++ (Builtin.zeroCells z.cells (cap - (xs.length + ys.length))).toList).toArray = olds.toArray ++ (flatV sz2 ys.length uf2).toArray ++ Builtin.zeroCells z.cells (cap - (xs.length + ys.length)) := by
        apply Array.ext'; simp
      rw [e2] at this
      exact this
    · have hgg : g = W.heap.size := by
        cases cap with
        | zero => omega
        | succ c => simpa [ownBlk] using hg'.symm
      subst hgg
      refine ⟨fun id hid => ?_, fun ht => ?_⟩
      · have h3 := (I1.own_lt (id := id) (b := W.heap.size) hid).2
        omega
      · have h3 := (I1.tn W.heap.size ht).1
        omega
  rcases hf.ex with ⟨rfl, A, ex⟩ | ⟨b, cap, us, ty', ex, hBb, hh, husz, hncap, hcp, hcm, hnS, hrx⟩
  · simp only [List.length_nil, Nat.zero_add] at hb hm
    have hge := grownCap_ge W ys.length 0 e
    refine newRow [] (grownCap W ys.length 0 e) (by simp) (fun i j x hx => by simp [getx] at hx) (by simpa using hge) (grownCap_le_maxLen W _ _ e (by simpa [maxLen] using (show ys.length ≤ 9223372036854775807 by omega))) ?_
    cases A with
    | none =>
      have hr := run_append_nil (P := P) W ty o.type e inf z hu hinf hiz ⟨b2, off2, none⟩ ys.length c2 _ (by rw [nlen, hsize]) news hlp (by omega) (by rw [hbytes]; omega)
      simp only [execOp, hop, resolve, invoke, builtin, Sem.run_bind, Sem.run_pure, Result.andThen_ok, List.map_toArray, List.map_cons, List.map_nil, ex, ey, hr]
      simp
    | some A =>
      have hr := run_append_grow (P := P) W ty o.type e inf z hu hinf hiz A 0 0 [] (by simp) (by simp) ⟨b2, off2, none⟩ ys.length c2 _ (by rw [nlen, hsize]) news (by omega) (by omega)
        (by rw [Nat.zero_add, nextslicecap_zero hlp, hbytes]; omega)
      simp only [Nat.zero_add] at hr
      simp only [execOp, hop, resolve, invoke, builtin, Sem.run_bind, Sem.run_pure, Result.andThen_ok, List.map_toArray, List.map_cons, List.map_nil, ex, ey, hr]
      simp
  · have hxle : xs.length * sz2 ≤ us.size := by rw [husz]; exact Nat.mul_le_mul_right _ hncap
    by_cases hroom : xs.length + ys.length ≤ cap
    · have hfit : xs.length * sz2 + (flatV sz2 ys.length uf2).length ≤ us.size := by rw [nlen, husz, ← Nat.add_mul]; exact Nat.mul_le_mul_right _ hroom
      have hr := run_append_room' (P := P) W ty o.type e ty' inf hu hinf b xs.length cap us hh ⟨b2, off2, none⟩ ys.length c2 _ (by rw [nlen, hsize]) news one hroom (by rw [hsize]; exact hfit)
      rw [hsize] at hr
      have hob : ownBlk (a.eval x) = some b := by
        rw [ex]
        cases cap with
        | zero => omega
        | succ c => rfl
      obtain ⟨hnob, htg⟩ := hfree b hob
      have hfit' : xs.length * sz2 + (flatV sz2 ys.length uf2).length ≤ us.toList.length := by simpa using hfit
      obtain ⟨I2, l2, hB2⟩ := I1.rewrite (cur' := (us.toList.take (xs.length * sz2) ++ flatV sz2 ys.length uf2 ++ us.toList.drop (xs.length * sz2 + (flatV sz2 ys.length uf2).length)).toArray)
        hnob htg hBb hh (by simp; omega) (fun q hq => absurd hq (hnS q)) 0 (Nat.zero_le _)
      have hg2 := setRow_heap W b us (us.toList.take (xs.length * sz2) ++ flatV sz2 ys.length uf2 ++ us.toList.drop (xs.length * sz2 + (flatV sz2 ys.length uf2).length)).toArray ty' (0, 0) hh
      have hrun : (execOp a.eval o).run P W = .ok (.value (.slice (some ⟨b, 0, none⟩) (xs.length + ys.length) cap)) (W.setRow b (us.toList.take (xs.length * sz2) ++ flatV sz2 ys.length uf2 ++ us.toList.drop (xs.length * sz2 + (flatV sz2 ys.length uf2).length)).toArray) := by
        simp only [execOp, hop, resolve, invoke, builtin, Sem.run_bind, Sem.run_pure, Result.andThen_ok, List.map_toArray, List.map_cons, List.map_nil, ex, ey, hr]
      refine appF_fin I hi hik l1 hnn hrun I2 l2 hB2 ⟨hsz, h0, fun x hx => (List.mem_append.1 hx).elim (hxr x) (hsz2 x), .inr ⟨b, cap, _, ty', ?_, hBb, hg2, ?_, ?_, hcp, hcm, fun q hq => ?_, ?_⟩⟩ (fun g hg' => ?_) rfl hnx hK
      · rw [List.length_append]
      · simp only [List.size_toArray, List.length_append, List.length_take, List.length_drop, Array.length_toList]
        rw [← husz]; omega
      · rw [List.length_append]; exact hroom
      · rcases hq with hq | ⟨_, hq⟩
        · exact hnS q hq
        · omega
      · refine rows_two hxr hsz2 (by simp; omega) nlen (fun i j x hx => ?_) (fun i j x hx => by
          obtain ⟨h3, h4⟩ := getx_lt hsz2 hx
          rw [flatV_getD h3 h4]; exact ((hrep2 i j x hx).le l1).le l2)
        obtain ⟨h3, h4⟩ := getx_lt hxr hx
        have hlt := flat_lt h3 h4
        have := hrx i j x hx
        rw [Array.getD_eq_getD_getElem?] at this
        rw [List.getD_eq_getElem?_getD, List.getElem?_take, if_pos hlt, Array.getElem?_toList]
        exact (this.le l1).le l2
      · have hgg : g = b := by
          cases cap with
          | zero => omega
          | succ c => simpa [ownBlk] using hg'.symm
        subst hgg
        exact ⟨hnob, htg⟩
    · have hoc : ∀ j u, (us.toList.take (xs.length * sz2))[j]? = some u → W.cell? ((⟨b, 0, none⟩ : Addr).add j) = some u := fun j u hj => by
        rw [List.getElem?_take] at hj
        split at hj
        · rw [addr_add, Nat.zero_add, cell_of_row W _ _ _ _ _ hh]
          simpa using hj
        · cases hj
      have hr := run_append_grow (P := P) W ty o.type e inf z hu hinf hiz ⟨b, 0, none⟩ xs.length cap (us.toList.take (xs.length * sz2)) (by rw [hsize]; simp; omega) hoc ⟨b2, off2, none⟩ ys.length c2 _ (by rw [nlen, hsize]) news (by omega) (by omega)
        (growslice_fits (by omega) (by rw [hbytes]; exact hb))
      refine newRow (us.toList.take (xs.length * sz2)) (grownCap W (xs.length + ys.length) cap e) (by simp; omega) (fun i j x hx => ?_) (grownCap_ge _ _ _ _) (grownCap_le_maxLen W _ _ e (by simpa [maxLen] using hm)) ?_
      · obtain ⟨h3, h4⟩ := getx_lt hxr hx
        have hlt := flat_lt h3 h4
        have := hrx i j x hx
        rw [Array.getD_eq_getD_getElem?] at this
        rw [List.getD_eq_getElem?_getD, List.getElem?_take, if_pos hlt, Array.getElem?_toList]
        exact this
      · simp only [execOp, hop, resolve, invoke, builtin, Sem.run_bind, Sem.run_pure, Result.andThen_ok, List.map_toArray, List.map_cons, List.map_nil, ex, ey, hr]
end
section
variable {P : Program} {C : Ctx} {h : AHeap} {W : World} {B : Nat}
variable {i : Nat} {o : Oper} {a : Act} {t : Nat → AV} {next : Act → World → Prop} {Q : Exit → Act → World → Prop} {K : AV → AHeap → Prop}
/-- What a slice into an own box is. -/
theorem ms_read (I : Inv P C h W B) (hρ : ∀ n, RepT C W h (t n) (a.tmps.getD n Go.undef)) {x : Operand} {id lo n c sz : Nat} {R : List (List AV)} (hx : evA t x = .ms id lo n c sz) (hb : h id = .box R.flatten) (hR : ∀ r ∈ R, r.length = sz) :
    ∃ (q : Nat) (us : List Value) (ty : TypeId), a.eval x = .slice (some ⟨C.ι id, q, none⟩) n c ∧ (0 < c → q = lo * sz) ∧ n ≤ c ∧ W.heap[C.ι id]? = some (.cells us.toArray ty (0, 0)) ∧ us.length = R.length * sz ∧ B ≤ C.ι id ∧
      ∀ j y, R.flatten[j]? = some y → RepT0 C W h y (us.getD j Go.undef) := by
  have hr := evA_rep hρ x
  rw [hx] at hr
  obtain ⟨_, q, h1, h2, h3⟩ := hr
  obtain ⟨us, ty, g1, g2, g3, g4⟩ := I.box id _ (by rw [hb]; rfl)
  exact ⟨q, us, ty, h1, h2, h3, g1, by rw [g2, rows_len hR], g3, g4⟩
/-- What is copied or appended: a closed slice, or one into an own box. -/
def srcF (t : Nat → AV) (h : AHeap) (y : Operand) (sz : Nat) (src : List (List AV)) : Prop :=
  (∃ f, evA t y = .sl f src ∧ ∀ r ∈ src, r.length = sz) ∨
  ∃ (id lo n c : Nat) (R : List (List AV)), evA t y = .ms id lo n c sz ∧ h id = .box R.flatten ∧ (∀ r ∈ R, r.length = sz) ∧ lo + n ≤ R.length ∧ src = (R.drop lo).take n
theorem src_read (I : Inv P C h W B) (hρ : ∀ n, RepT C W h (t n) (a.tmps.getD n Go.undef)) {y : Operand} {sz : Nat} {src : List (List AV)} (hy : srcF t h y sz src) :
    ∃ (A : Option Addr) (c : Nat), a.eval y = .slice A src.length c ∧ (∀ r ∈ src, r.length = sz) ∧ (src ≠ [] → ∃ (b : Addr) (us : List Value), A = some b ∧ us.length = src.length * sz ∧ (∀ j u, us[j]? = some u → W.cell? (b.add j) = some u) ∧
      ∀ j x, src.flatten[j]? = some x → RepT0 C W h x (us.getD j Go.undef)) := by
  rcases hy with ⟨f, hy, hs⟩ | ⟨id, lo, n, c, R, hy, hb, hR, hf, rfl⟩
  · obtain ⟨A, c, e1, h1⟩ := rep_sl (ev_slice I hρ hy)
    refine ⟨A, c, e1, hs, fun hne => ?_⟩
    obtain ⟨b, off, sz', uf, rfl, h2, h3, h4, h5⟩ := h1 hne
    have e2 : sz' = sz := by
      have hm := List.getElem_mem (List.length_pos_iff.2 hne)
      rw [← h3 _ hm, hs _ hm]
    subst e2
    refine ⟨_, flatV sz' src.length uf, rfl, flat_len _ _ _, flat_news (W := W) (S := C.S) h3 h4, fun j x hx => ?_⟩
    obtain ⟨h0, hg⟩ := rows_get h3 hx
    obtain ⟨g1, g2⟩ := getx_lt h3 hg
    have ejs : j / sz' * sz' + j % sz' = j := by rw [Nat.mul_comm]; exact Nat.div_add_mod j sz'
    have := flatV_getD (f := uf) g1 g2
    rw [ejs] at this
    rw [this]
    exact RepT0.of_rep (h5 _ _ x hg)
  · obtain ⟨q, us, ty, e1, hq, hnc, g1, g2, _, g4⟩ := ms_read I hρ hy hb hR
    have hl : ((R.drop lo).take n).length = n := by simp; omega
    have hRs : ∀ r ∈ (R.drop lo).take n, r.length = sz := fun r hr => hR r (List.mem_of_mem_drop (List.mem_of_mem_take hr))
    refine ⟨_, c, by rw [hl]; exact e1, hRs, fun hne => ?_⟩
    have hn0 : 0 < n := by rw [← hl]; exact List.length_pos_iff.2 hne
    have hq' := hq (by omega)
    subst hq'
    have hle : (lo + n) * sz ≤ us.length := by rw [g2]; exact Nat.mul_le_mul_right _ hf
    rw [Nat.add_mul] at hle
    refine ⟨_, (us.drop (lo * sz)).take (n * sz), rfl, by rw [hl]; simp; omega, fun j u hj => ?_, fun j x hx => ?_⟩
    · rw [List.getElem?_take] at hj
      split at hj
      · rw [List.getElem?_drop] at hj
        rw [addr_add, cell_of_row W _ _ _ _ _ g1]
        simpa using hj
      · cases hj
    · have hjl := (List.getElem?_eq_some_iff.1 hx).1
      rw [rows_len hRs, hl] at hjl
      have e2 : ((R.drop lo).take n).flatten = (R.flatten.drop (lo * sz)).take (n * sz) := by
        rw [rows_drop lo hR, rows_take n (fun r hr => hR r (List.mem_of_mem_drop hr))]
      rw [e2, List.getElem?_take, if_pos hjl, List.getElem?_drop] at hx
      rw [List.getD_eq_getElem?_getD, List.getElem?_take, if_pos hjl, List.getElem?_drop, ← List.getD_eq_getElem?_getD]
      exact g4 _ x hx
theorem Sem.copy {ty ty2 e : TypeId} {x y : Operand} {id lo n c sz : Nat} {R src : List (List AV)} (he : sliceElem P ty = some e) (hsz : sz = P.cellsOf e) (hx : evA t x = .ms id lo n c sz) (hb : h id = .box R.flatten) (hR : ∀ r ∈ R, r.length = sz) (hf : lo + n ≤ R.length)
    (hsrc : srcF t h y sz src) (hat : ∀ r ∈ src.take (min src.length n), r.all isAtom = true) (hK : K (.int .i64 (min src.length n : Nat)) (upd h id (.box (R.take lo ++ src.take (min src.length n) ++ R.drop (lo + min src.length n)).flatten))) :
    SemOp P i t h (.call { callee := .builtin .copy, args := #[x, y], argTypes := #[ty, ty2] }) K := by
  refine ⟨fun c e => (by cases e), fun o a C W B next Q hop I hρ hi hn => ?_⟩
  obtain ⟨hu, hs⟩ := sliceElem_spec he
  obtain ⟨q, usd, tyd, e1, hq, hnc, _, _, _, _⟩ := ms_read I hρ hx hb hR
  obtain ⟨A, cs, e2, hsl, hne⟩ := src_read I hρ hsrc
  have hso := run_sizeOf' (P := P) (w := W) hs
  by_cases hm0 : min src.length n = 0
  · rw [hm0] at hK
    have e3 : upd h id (.box (R.take lo ++ src.take 0 ++ R.drop (lo + 0)).flatten) = h := by
      funext j
      unfold upd
      split
      · rename_i e; subst e; rw [hb]; simp
      · rfl
    rw [e3] at hK
    have hfc : (Builtin.firstCells (P.cellsOf e) 0 (.slice A src.length cs)).run P W = .ok #[] W := by
      cases A <;> simp [Builtin.firstCells, loadCells, loadCellsFrom]
    have hm0' : Nat.min src.length n = 0 := hm0
    refine wp_value (u := .int .i64 (0 : Nat)) (W' := W) ?_ (hn _ h _ W C hK (Rep.int _ _) I (.refl _ _ _) (.refl _ _) (fun _ _ hq => hq))
    simp [execOp, hop, resolve, invoke, builtin, Builtin.copy_, e1, e2, run_underlying hu, Builtin.lenOf, hso, hfc, storeCells, goInt, hm0']
  · have hn0 : 0 < n := by have := Nat.min_le_right src.length n; omega
    have hs0 : 0 < src.length := by have := Nat.min_le_left src.length n; omega
    have hq' := hq (by omega)
    subst hq'
    obtain ⟨b, us, rfl, h1, h2, h3⟩ := hne (List.length_pos_iff.1 hs0)
    have hm1 : min src.length n ≤ src.length := Nat.min_le_left _ _
    have hm2 : min src.length n ≤ n := Nat.min_le_right _ _
    have hrows : ∀ r ∈ src.take (min src.length n), r.length = sz := fun r hr => hsl r (List.mem_of_mem_take hr)
    have htl : (src.take (min src.length n)).length = min src.length n := by simp
    have hmul : min src.length n * sz ≤ us.length := by rw [h1]; exact Nat.mul_le_mul_right _ hm1
    have htake : (us.take (min src.length n * sz)).length = min src.length n * sz := by simp; omega
    have hfc : (Builtin.firstCells (P.cellsOf e) (min src.length n) (.slice (some b) src.length cs)).run P W = .ok (us.take (min src.length n * sz)).toArray W :=
      run_firstCells_some W _ _ b _ _ _ (by rw [htake, ← hsz]) (fun j v hj => h2 j v (by
        rw [List.getElem?_take] at hj
        split at hj
        · exact hj
        · cases hj))
    have h3' : ∀ j x, (src.take (min src.length n)).flatten[j]? = some x → RepT0 C W h x ((us.take (min src.length n * sz)).getD j Go.undef) := fun j x hj => by
      have hjl := (List.getElem?_eq_some_iff.1 hj).1
      rw [rows_len hrows, htl] at hjl
      rw [← rows_take _ hsl, List.getElem?_take, if_pos hjl] at hj
      rw [List.getD_eq_getElem?_getD, List.getElem?_take, if_pos hjl, ← List.getD_eq_getElem?_getD]
      exact h3 j x hj
    have hat' : (src.take (min src.length n)).flatten.all isAtom = true := by
      rw [List.all_eq_true]
      intro x hx
      obtain ⟨r, hr, hx⟩ := List.mem_flatten.1 hx
      exact List.all_eq_true.1 (hat r hr) x hx
    have hlen : (us.take (min src.length n * sz)).length = (src.take (min src.length n)).flatten.length := by rw [htake, rows_len hrows, htl]
    refine Sem.lay (i := i) (K := K) (h := h) (v := .int .i64 (min src.length n : Nat)) (u := .int .i64 (min src.length n : Nat)) I hb (us.take (min src.length n * sz)) hlen h3' (off := lo * sz) ?_ (mem_getD_one hlen h3' hat') (fun W' hst => ?_) (fun _ _ _ => Rep.int _ _) hn ?_
    · rw [rows_len hrows, rows_len hR, htl, ← Nat.add_mul]
      exact Nat.mul_le_mul_right _ (by omega)
    · have hmn : Nat.min src.length n = min src.length n := rfl
      simp only [execOp, hop, resolve, invoke, builtin, Sem.run_bind, Sem.run_pure, Result.andThen_ok, List.map_toArray, List.map_cons, List.map_nil, e1, e2]
      simp [Builtin.copy_, run_underlying hu, Builtin.lenOf, hso, hmn, hfc, hst, goInt]
    · have := rows_splice (N := src.take (min src.length n)) lo hR hrows
      rw [htl] at this
      rw [this]; exact hK
/-- A new row of the machine's own. -/
theorem newRow_own (I : Inv P C h W B) (hi : h i = .none) {us : List Value} {R : List (List AV)} {sz e n cap : Nat} (hl : us.length = R.flatten.length) (hr : ∀ j x, R.flatten[j]? = some x → RepT0 C W h x (us.getD j Go.undef)) (hn : n ≤ cap)
    (hrun : (execOp a.eval o).run P W = .ok (.value (.slice (some ⟨W.heap.size, 0, none⟩) n cap)) (W.drew.alloc (.cells us.toArray e)))
    (hnx : ∀ v h' u W' C', K v h' → RepT C' W' h' v u → Inv P C' h' W' B → Le C h W C' h' W' → Below B W W' → (∀ id, id ≠ i → h id = .none → h' id = .none) → next (a.put o.dst u) W')
    (hK : K (.ms i 0 n cap sz) (upd h i (.box R.flatten))) : o.wp P a W next Q := by
  obtain ⟨I2, l2⟩ := I.heap (W' := W.drew) rfl
  obtain ⟨I3, l3⟩ := I2.newBox hi us e R.flatten hl (fun j x hx => (hr j x hx).le l2)
  refine wp_value hrun (hnx _ _ _ _ _ hK ⟨by rw [upd_self]; rfl, 0, ?_, fun _ => by simp, hn⟩ I3 (l2.trans l3) (((Below.refl B W).drew).alloc I.base _) fun id hid h0 => ?_)
  · show _ = Value.slice (some ⟨if i = i then W.drew.heap.size else C.ι i, 0, none⟩) n cap
    rw [if_pos rfl]; rfl
  · rw [upd_ne _ hid]; exact h0
theorem zero_cells1 {e : TypeId} {sz : Nat} {inf : TypeInfo} (hinf : P.info? e = some inf) (hz : ((zeroC P e).map List.length) = some sz) : ∃ z, inf.zero = some z ∧ z.cells.size = sz := by
  cases hzc : zeroC P e with
  | none => rw [hzc] at hz; cases hz
  | some zc =>
    have hzc' := hzc
    unfold zeroC at hzc'
    rw [hinf] at hzc'
    simp only [Option.bind_some] at hzc'
    cases hq : inf.zero with
    | none => rw [hq] at hzc'; cases hzc'
    | some z =>
      rw [hq] at hzc'
      simp only at hzc'
      split at hzc'
      · simp only [Option.some.injEq] at hzc'
        rw [hzc] at hz
        simp only [Option.map_some, Option.some.injEq] at hz
        exact ⟨z, rfl, by rw [← hz, ← hzc']; simp⟩
      · cases hzc'
theorem bad_rows {k sz : Nat} : ∀ {x}, x ∈ (List.replicate k (List.replicate sz AV.bad)).flatten → x = .bad := fun {x} hx => by
  obtain ⟨r, hr, hx⟩ := List.mem_flatten.1 hx
  rw [List.eq_of_mem_replicate hr] at hx
  exact List.eq_of_mem_replicate hx
/-- Rows, and behind them cells of which nothing is told. -/
theorem rows_bad {S : AV → Value → Prop} (hbad : ∀ u, S .bad u) {R : List (List AV)} {k sz : Nat} {us ws : List Value} (hR : ∀ r ∈ R, r.length = sz) (hl : us.length = R.length * sz) (hw : ws.length = k * sz)
    (hr : ∀ j x, R.flatten[j]? = some x → S x (us.getD j Go.undef)) : (us ++ ws).length = (R ++ List.replicate k (List.replicate sz AV.bad)).flatten.length ∧
      ∀ j x, (R ++ List.replicate k (List.replicate sz AV.bad)).flatten[j]? = some x → S x ((us ++ ws).getD j Go.undef) := by
  have hp : ∀ r ∈ List.replicate k (List.replicate sz AV.bad), r.length = sz := fun r hr => by rw [List.eq_of_mem_replicate hr]; simp
  refine ⟨by rw [List.flatten_append, List.length_append, List.length_append, rows_len hR, rows_len hp]; simp [hl, hw], fun j x hx => ?_⟩
  rw [List.flatten_append, List.getElem?_append] at hx
  split at hx
  · rename_i hlt
    rw [rows_len hR] at hlt
    rw [List.getD_eq_getElem?_getD, List.getElem?_append_left (by omega), ← List.getD_eq_getElem?_getD]
    exact hr j x hx
  · rw [bad_rows (List.mem_of_getElem? hx)]
    exact hbad _
theorem Sem.appMs {ty e : TypeId} {x y : Operand} {id n c sz : Nat} {R src : List (List AV)} (he : sliceElem P ty = some e) (hsz : sz = P.cellsOf e) (h0 : 0 < sz) (hz : ((zeroC P e).map List.length) = some sz) (hx : evA t x = .ms id 0 n c sz) (hb : h id = .box R.flatten) (hR : ∀ r ∈ R, r.length = sz) (hRc : R.length = c)
    (hsrc : srcF t h y sz src) (hat : ∀ r ∈ src, r.all isAtom = true) (hne : src ≠ []) (hbt : (n + src.length) * P.bytesOf e ≤ 140737488355328) (hm : n + src.length ≤ 9223372036854775807)
    (hK1 : n + src.length ≤ c → K (.ms id 0 (n + src.length) c sz) (upd h id (.box (R.take n ++ src ++ R.drop (n + src.length)).flatten)))
    (hK2 : c < n + src.length → ∀ cap, n + src.length ≤ cap → cap ≤ maxLen → K (.ms i 0 (n + src.length) cap sz) (upd h i (.box (R.take n ++ src ++ List.replicate (cap - (n + src.length)) (List.replicate sz AV.bad)).flatten))) :
    SemOp P i t h (.call { callee := .builtin .append, args := #[x, y], argTypes := #[ty, ty] }) K := by
  refine ⟨fun c e => (by cases e), fun o a C W B next Q hop I hρ hi hn => ?_⟩
  obtain ⟨hu, hs⟩ := sliceElem_spec he
  obtain ⟨inf, hinf⟩ := Option.isSome_iff_exists.1 hs
  have hsize : inf.size = sz := by rw [hsz]; simp [Program.cellsOf, hinf]
  have hbytes : inf.bytes = P.bytesOf e := by simp [Program.bytesOf, hinf]
  obtain ⟨z, hiz, hzs⟩ := zero_cells1 hinf hz
  obtain ⟨q, usd, tyd, e1, hq, hnc, g1, g2, g3, g4⟩ := ms_read I hρ hx hb hR
  obtain ⟨A, cs, e2, hsl, hne'⟩ := src_read I hρ hsrc
  obtain ⟨b, us, rfl, h1, h2, h3⟩ := hne' hne
  have hs0 : 0 < src.length := List.length_pos_iff.2 hne
  have hone : ∀ u ∈ us, u.oneCell' = true := mem_getD_one (by rw [h1, rows_len hsl]) h3 (by
    rw [List.all_eq_true]
    intro x hx
    obtain ⟨r, hr, hx⟩ := List.mem_flatten.1 hx
    exact List.all_eq_true.1 (hat r hr) x hx)
  by_cases hroom : n + src.length ≤ c
  · have hq' := hq (by omega)
    simp only [Nat.zero_mul] at hq'
    subst hq'
    have hfit : n * sz + us.length ≤ usd.length := by rw [h1, g2, ← Nat.add_mul]; exact Nat.mul_le_mul_right _ (by omega)
    have hlen : us.length = src.flatten.length := by rw [h1, rows_len hsl]
    obtain ⟨W', hst, I', l, hB⟩ := I.setBox (P := P) (off := n * sz) hb us hlen h3 (by rw [rows_len hR, ← hlen]; rw [g2] at hfit; exact hfit) hone
    have hr := run_append_room' (P := P) W ty o.type e tyd inf hu hinf (C.ι id) n c usd.toArray g1 b src.length cs us (by rw [h1, hsize]) h2 hone hroom (by rw [hsize]; simpa using hfit)
    have hst2 := run_storeCells_at P (C.ι id) (n * sz) tyd us 0 usd.toArray W g1 (by simpa using hfit) hone
    simp only [Nat.add_zero] at hst2
    rw [hst2] at hst
    simp only [Result.ok.injEq, true_and] at hst
    rw [hsize] at hr
    rw [upd_set h id (n * sz) _ _ hb, rows_splice (N := src) n hR hsl] at I' l
    refine wp_value (u := .slice (some ⟨C.ι id, 0, none⟩) (n + src.length) c) (W' := W') ?_ (hn _ _ _ W' C (hK1 hroom) ⟨by rw [upd_self]; rfl, 0, rfl, fun _ => by simp, hroom⟩ I' l hB (fun q hq h0 => by
      by_cases e : q = id
      · subst e; rw [hb] at h0; cases h0
      · rw [upd_ne _ e]; exact h0))
    simp only [execOp, hop, resolve, invoke, builtin, Sem.run_bind, Sem.run_pure, Result.andThen_ok, List.map_toArray, List.map_cons, List.map_nil, e1, e2, hr]
    rw [← hst]
  · have hc := hK2 (by omega)
    have hold : ∀ j u, (usd.take (n * sz))[j]? = some u → W.cell? ((⟨C.ι id, q, none⟩ : Addr).add j) = some u := fun j u hj => by
      rw [List.getElem?_take] at hj
      split at hj
      · rename_i hlt
        have hn0 : 0 < c := by
          have := Nat.pos_of_ne_zero (n := n) (fun e => by subst e; simp at hlt)
          omega
        rw [hq hn0, addr_add, cell_of_row W _ _ _ _ _ g1]
        simpa using hj
      · cases hj
    have hnl : n * sz ≤ usd.length := by rw [g2]; exact Nat.mul_le_mul_right _ (by omega)
    have hr := run_append_grow (P := P) W ty o.type e inf z hu hinf hiz ⟨C.ι id, q, none⟩ n c (usd.take (n * sz)) (by rw [hsize]; simp; omega) hold b src.length cs us (by rw [h1, hsize]) h2 (by omega) (by omega)
      (growslice_fits (by omega) (by rw [hbytes]; exact hbt))
    have hcapge := grownCap_ge W (n + src.length) c e
    have hrow : ∀ r ∈ R.take n ++ src, r.length = sz := fun r hr => (List.mem_append.1 hr).elim (fun h => hR r (List.mem_of_mem_take h)) (hsl r)
    have hRn : (R.take n).length = n := by simp; omega
    obtain ⟨k1, k2⟩ := rows_bad (S := RepT0 C W h) (fun u => Rep.any u) (R := R.take n ++ src) (k := grownCap W (n + src.length) c e - (n + src.length)) (us := usd.take (n * sz) ++ us) (ws := (Builtin.zeroCells z.cells (grownCap W (n + src.length) c e - (n + src.length))).toList) hrow
      (by rw [List.length_append, List.length_append, hRn, h1, Nat.add_mul]; simp; omega) (by rw [Array.length_toList, size_zeroCells, hzs]) (fun j x hx => by
        rw [List.flatten_append, List.getElem?_append] at hx
        have hfl : (R.take n).flatten.length = n * sz := by rw [rows_len (fun r h => hR r (List.mem_of_mem_take h)), hRn]
        have hul : (usd.take (n * sz)).length = n * sz := by simp; omega
        rw [hfl] at hx
        split at hx
        · rename_i hlt
          rw [List.getD_eq_getElem?_getD, List.getElem?_append_left (by omega), List.getElem?_take, if_pos hlt, ← List.getD_eq_getElem?_getD]
          rw [← rows_take n hR, List.getElem?_take, if_pos hlt] at hx
          exact g4 j x hx
        · rw [List.getD_eq_getElem?_getD, List.getElem?_append_right (by omega), hul, ← List.getD_eq_getElem?_getD]
          exact h3 _ x hx)
    refine newRow_own I hi (sz := sz) (e := e) k1 k2 hcapge ?_ hn (hc _ hcapge (grownCap_le_maxLen W _ _ e (by simpa [maxLen] using hm)))
    simp only [execOp, hop, resolve, invoke, builtin, Sem.run_bind, Sem.run_pure, Result.andThen_ok, List.map_toArray, List.map_cons, List.map_nil, e1, e2, hr]
    congr 3
    apply Array.ext'
    simp
/-- Zeros are appended behind a part: there is no room. -/
theorem Sem.appZ {ty tn e : TypeId} {x y : Operand} {id n c sz : Nat} {k kn : IntKind} {m : Nat} {R : List (List AV)} (he : sliceElem P ty = some e) (hkn : P.underlying tn = some (.int kn)) (hsz : sz = P.cellsOf e) (h0 : 0 < sz) (hz : ((zeroC P e).map List.length) = some sz) (hx : evA t x = .ms id 0 n c sz) (hb : h id = .box R.flatten) (hR : ∀ r ∈ R, r.length = sz) (hRc : R.length = c)
    (hy : evA t y = .int k m) (hm0 : 0 < m) (hg : c < n + m) (hbt : (n + m) * P.bytesOf e ≤ 140737488355328) (hm : n + m ≤ 9223372036854775807)
    (hK : ∀ cap, n + m ≤ cap → cap ≤ maxLen → K (.ms i 0 (n + m) cap sz) (upd h i (.box (R.take n ++ List.replicate (cap - n) (List.replicate sz AV.bad)).flatten))) :
    SemOp P i t h (.call { callee := .builtin .append, args := #[x, y], argTypes := #[ty, tn] }) K := by
  refine ⟨fun c e => (by cases e), fun o a C W B next Q hop I hρ hi hn => ?_⟩
  obtain ⟨hu, hs⟩ := sliceElem_spec he
  obtain ⟨inf, hinf⟩ := Option.isSome_iff_exists.1 hs
  have hsize : inf.size = sz := by rw [hsz]; simp [Program.cellsOf, hinf]
  have hbytes : inf.bytes = P.bytesOf e := by simp [Program.bytesOf, hinf]
  obtain ⟨z, hiz, hzs⟩ := zero_cells1 hinf hz
  obtain ⟨q, usd, tyd, e1, hq, hnc, g1, g2, g3, g4⟩ := ms_read I hρ hx hb hR
  have e2 : a.eval y = .int k m := by
    have := evA_rep hρ y
    rw [hy] at this
    generalize a.eval y = q at this
    cases this; rfl
  have hold : ∀ j u, (usd.take (n * sz))[j]? = some u → W.drew.cell? ((⟨C.ι id, q, none⟩ : Addr).add j) = some u := fun j u hj => by
    rw [List.getElem?_take] at hj
    split at hj
    · rename_i hlt
      have hn0 : 0 < c := by
        have := Nat.pos_of_ne_zero (n := n) (fun e => by subst e; simp at hlt)
        omega
      rw [hq hn0, addr_add]
      show W.cell? _ = _
      rw [cell_of_row W _ _ _ _ _ g1]
      simpa using hj
    · cases hj
  have hnl : n * sz ≤ usd.length := by rw [g2]; exact Nat.mul_le_mul_right _ (by omega)
  have hfo := run_firstCells_some (P := P) W.drew inf.size n ⟨C.ι id, q, none⟩ n c (usd.take (n * sz)) (by rw [hsize]; simp; omega) hold
  have hmb : m * inf.bytes ≤ 281474976710656 := by
    have h1 : m * inf.bytes ≤ (n + m) * inf.bytes := Nat.mul_le_mul_right _ (by omega)
    rw [hbytes] at h1 ⊢
    omega
  have hr := Lib.run_append_grow_zeros (P := P) W ty tn o.type e inf z k kn hu hkn hinf hiz (some ⟨C.ι id, q, none⟩) n c (usd.take (n * sz)) hfo m hm0 (by omega) hg (by omega) hmb
    (growslice_fits (by omega) (by rw [hbytes]; exact hbt))
  have hcapge := grownCap_ge W (n + m) c e
  have hRn : (R.take n).length = n := by simp; omega
  have hrow : ∀ r ∈ R.take n, r.length = sz := fun r hr => hR r (List.mem_of_mem_take hr)
  obtain ⟨k1, k2⟩ := rows_bad (S := RepT0 C W h) (fun u => Rep.any u) (R := R.take n) (k := grownCap W (n + m) c e - n) (us := usd.take (n * sz)) (ws := (Builtin.zeroCells z.cells m).toList ++ (Builtin.zeroCells z.cells (grownCap W (n + m) c e - (n + m))).toList) hrow
    (by rw [hRn]; simp; omega) (by rw [List.length_append, Array.length_toList, Array.length_toList, size_zeroCells, size_zeroCells, hzs, ← Nat.add_mul]; congr 1; omega) (fun j x hx => by
      rw [← rows_take n hR] at hx
      rw [List.getElem?_take] at hx
      split at hx
      · rename_i hlt
        rw [List.getD_eq_getElem?_getD, List.getElem?_take, if_pos hlt, ← List.getD_eq_getElem?_getD]
        exact g4 j x hx
      · cases hx)
  refine newRow_own I hi (sz := sz) (e := e) k1 k2 hcapge ?_ hn (hK _ hcapge (grownCap_le_maxLen W _ _ e (by simpa [maxLen] using hm)))
  simp only [execOp, hop, resolve, invoke, builtin, Sem.run_bind, Sem.run_pure, Result.andThen_ok, List.map_toArray, List.map_cons, List.map_nil, e1, e2, hr]
  congr 3
  apply Array.ext'
  simp
/-- The same, what comes of it named. -/
theorem Sem.copy' {ty ty2 e : TypeId} {x y : Operand} {id lo n c sz m : Nat} {R src R2 : List (List AV)} (he : sliceElem P ty = some e) (hsz : sz = P.cellsOf e) (hx : evA t x = .ms id lo n c sz) (hb : h id = .box R.flatten) (hR : ∀ r ∈ R, r.length = sz) (hf : lo + n ≤ R.length)
    (hsrc : srcF t h y sz src) (hat : ∀ r ∈ src.take m, r.all isAtom = true) (hm : min src.length n = m) (hR2 : R.take lo ++ src.take m ++ R.drop (lo + m) = R2) (hK : K (.int .i64 m) (upd h id (.box R2.flatten))) :
    SemOp P i t h (.call { callee := .builtin .copy, args := #[x, y], argTypes := #[ty, ty2] }) K :=
  Sem.copy he hsz hx hb hR hf hsrc (by rw [hm]; exact hat) (by rw [hm, hR2]; exact hK)
end
section
variable {P : Program} {C : Ctx} {h : AHeap} {W : World} {B : Nat}
variable {i : Nat} {o : Oper} {a : Act} {t : Nat → AV} {next : Act → World → Prop} {Q : Exit → Act → World → Prop} {K : AV → AHeap → Prop}
theorem sealH_fresh {ids : List Nat} {tg : Nat} {e : TypeId} {sz : Nat} {xs : List (List AV)} (hb : h tg = .fresh e sz xs) : sealH h ids tg = .fresh e sz xs := by
  unfold sealH
  split
  · rw [hb]; rfl
  · exact hb
theorem sealH_none {ids : List Nat} {k : Nat} (hb : h k = .none) : sealH h ids k = .none := by
  unfold sealH
  split
  · rw [hb]; rfl
  · exact hb
theorem killF_none {kill : Option Nat} {k : Nat} (hb : h k = .none) (hk : ∀ tg, kill = some tg → h tg ≠ .none) : killF h kill k = .none := by
  cases kill with
  | none => exact hb
  | some tg =>
    show upd h tg .dead k = .none
    rw [upd_ne _ (fun e => by subst e; exact hk _ rfl hb)]; exact hb
/-- What a call with an own slice comes to: the other arguments are closed. -/
theorem call_pre (I : Inv P C h W B) (hρ : ∀ n, RepT C W h (t n) (a.tmps.getD n Go.undef)) {f x : Operand} {rest : List Operand} {args : Array Operand} {ts : Array TypeId} {g : FuncId} {e : TypeId} {sz : Nat} {kill : Option Nat} {xs : List (List AV)} {az : List AV} {ids : List Nat}
    (hop : o.op = .call { callee := .value f, args := args, argTypes := ts }) (hf : evA t f = .fn g []) (ha : args.toList = x :: rest) (hsz : sz = P.cellsOf e) (h0 : 0 < sz) (hx : ownF t h x e sz kill xs)
    (hp : passAll h (rest.map (evA t)) = some (az, ids)) (hfun : ∃ fn c, P.funcs[g]? = some fn ∧ fn.body = some c ∧ fn.name ≠ "runtime.NumGoroutine") :
    ∃ (u : Value) (us : List Value), (execOp a.eval o).run P W = .ok (.enter g (u :: us).toArray) W ∧ Inv P { C with S := sealS C h ids } (sealH h ids) W B ∧ Le C h W { C with S := sealS C h ids } (sealH h ids) W ∧ u = a.eval x ∧
      us.length = az.length ∧ (∀ j x, az[j]? = some x → Rep (sealS C h ids) W x (us.getD j Go.undef)) ∧ ownF t (sealH h ids) x e sz kill xs ∧ FreshV P (sealS C h ids) W B e sz xs u ∧ ∀ g, ownBlk u = some g → (∀ id, (killF (sealH h ids) kill id).ownBlock C id ≠ some g) ∧ ¬ C.T g := by
  obtain ⟨I1, l1⟩ := I.close ids
  have ef : a.eval f = .func (.func g) #[] #[] := by
    have := evA_rep hρ f
    rw [hf] at this
    obtain ⟨us, h1, h2, _⟩ := this
    have : us = [] := List.eq_nil_of_length_eq_zero h2
    subst this; exact h1
  obtain ⟨fn, c, hfn, hbody, hname⟩ := hfun
  have hvals : ∀ j x, (rest.map (evA t))[j]? = some x → RepT C W h x ((rest.map a.eval).getD j Go.undef) := by
    intro j x hx
    rw [List.getElem?_map] at hx
    obtain ⟨y, hy, rfl⟩ := Option.map_eq_some_iff.1 hx
    rw [List.getD_eq_getElem?_getD, List.getElem?_map, hy]
    exact evA_rep hρ y
  obtain ⟨hlen, hrep⟩ := passAll_rep I (S' := sealS C h ids) (fun _ _ hs => .inl hs) _ az ids _ hvals hp (fun id hid cs hk => sealS_peek I hid hk)
  have hx1 : ownF t (sealH h ids) x e sz kill xs := by
    cases kill with
    | none => exact hx
    | some tg => exact ⟨hx.1, sealH_fresh hx.2⟩
  obtain ⟨hf1, hfree⟩ := ownF_val (a := a) I1 (fun n => (hρ n).le l1) hsz h0 hx1
  refine ⟨a.eval x, rest.map a.eval, ?_, I1, l1, rfl, by simp at hlen ⊢; omega, hrep, hx1, hf1, hfree⟩
  have hne : (fn.name == "runtime.NumGoroutine") = false := by simpa using hname
  have harr : args.map a.eval ++ #[] = (a.eval x :: rest.map a.eval).toArray := by
    apply Array.ext'
    rw [← List.map_cons, ← ha]; simp
  have harr2 : #[] ++ args.map a.eval ++ #[] = (a.eval x :: rest.map a.eval).toArray := by rw [Array.empty_append, harr]
  simp only [execOp, hop, resolve, ef, Deferred.ofValue, Sem.run_bind, Sem.run_pure, Result.andThen_ok, invoke, callFunc, run_program, hfn, hne]
  try simp only [harr2, harr]
  simp [hbody]
theorem Sem.cons {f x : Operand} {rest : List Operand} {args : Array Operand} {ts : Array TypeId} {g : FuncId} {e : TypeId} {sz : Nat} {kill : Option Nat} {xs r : List (List AV)} {az : List AV} {ids : List Nat}
    (hf : evA t f = .fn g []) (ha : args.toList = x :: rest) (hx : ownF t h x e sz kill xs) (hsz : sz = P.cellsOf e) (h0 : 0 < sz)
    (hp : passAll h (rest.map (evA t)) = some (az, ids)) (hfun : ∃ fn c, P.funcs[g]? = some fn ∧ fn.body = some c ∧ fn.name ≠ "runtime.NumGoroutine") (hs : SoundC P g e sz xs az r)
    (hK : sealAll ids h fun h' => K (.sl (.tag i) r) (upd (killF h' kill) i (.live e sz r.length))) : SemOp P i t h (.call { callee := .value f, args := args, argTypes := ts }) K := by
  refine ⟨fun c e => (by cases e), fun o a C W B next Q hop I hρ hi hn => ?_⟩
  have hK := sealAll_sound ids h _ hK
  change K (.sl (.tag i) r) (upd (killF (sealH h ids) kill) i (.live e sz r.length)) at hK
  obtain ⟨u, us, hrun, I1, l1, rfl, hlen, hrep, hx1, hf1, hfree⟩ := call_pre I hρ hop hf ha hsz h0 hx hp hfun
  obtain ⟨I2, l2⟩ := I1.giveO hx1
  have hkn : ∀ tg, kill = some tg → h tg ≠ .none := fun tg e1 => by subst e1; rw [hx.2]; simp
  have hkn1 : ∀ tg, kill = some tg → sealH h ids tg ≠ .none := fun tg e1 => by subst e1; rw [hx1.2]; simp
  unfold Oper.wp
  rw [hrun]
  refine (hs _ W B _ us I.tb I1.has I1.base hf1 hlen hrep).mono ?_
  rintro en W' ⟨u', S', rfl, hk, hret, hown⟩
  have hKo : ∀ id b, (killF (sealH h ids) kill id).ownBlock C id = some b → b < W.heap.size ∧ ownBlk (a.eval x) ≠ some b := fun id b hb => ⟨(I2.own_lt (id := id) hb).2, fun e1 => (hfree b e1).1 id hb⟩
  have hKT : ∀ b, C.T b → b < W.heap.size ∧ ownBlk (a.eval x) ≠ some b := fun b hb => ⟨(I.tn b hb).1, fun e1 => (hfree b e1).2 hb⟩
  obtain ⟨I3, l3⟩ := I2.other (C' := { C with S := S' }) (W' := W') ⟨fun b hb _ => hk.below.block b hb, hk.below.size, fun id b hb => hk.keep b (hKo id b hb), hk.clS, hk.clW, hk.has, fun b o hs => (hk.nb b o hs).imp id fun hq id hb => hq.1 (hKo id b hb), rfl, rfl, fun b o hs => (hk.nb b o hs).imp id And.right, rfl,
    fun b hb => ⟨Nat.lt_of_lt_of_le (I2.tn b hb).1 hk.below.size, (I2.tn b hb).2⟩, I2.mn⟩
  have L3 : Le { C with S := sealS C h ids } (killF (sealH h ids) kill) W { C with S := S' } (killF (sealH h ids) kill) W' :=
    ⟨l3.clS, l3.clW, l3.mem, fun _ _ => rfl, fun _ _ => rfl, rfl, rfl, rfl, fun b hb => hk.keep b (hKT b hb), fun b o hs => (hk.nb b o hs).imp id fun hq hb => hq.1 (hKT b hb)⟩
  have hi3 : killF (sealH h ids) kill i = .none := killF_none (sealH_none hi) hkn1
  obtain ⟨C4, I4, l4, hr4⟩ := I3.adoptIn hi3 (r := .sl (.own e sz) r) (u := u') hret (fun g' hg' => .inl (by
    rcases hown g' hg' with h1 | h1
    · exact hfree g' h1
    · refine ⟨fun id hid => ?_, fun ht => ?_⟩
      · have := (I2.own_lt (id := id) (b := g') hid).2
        omega
      · have := (I.tn g' ht).1
        omega))
  exact hn _ _ u' W' C4 hK hr4 I4 ((((l1.trans l2).trans L3)).trans l4) (hk.below) (fun id hid h0' => by
    show upd (killF (sealH h ids) kill) i _ id = .none
    rw [upd_ne _ hid]
    exact killF_none (sealH_none h0') hkn1)
theorem run_overlaps_own {P : Program} (w : World) (tS tR e : TypeId) (ht : P.underlying tS = some (.slice e)) (hs : (P.info? e).isSome = true)
    (a b : Addr) (la ca lb cb : Nat) (hne : a.block ≠ b.block) (us ub : Array Value) (tA tB : TypeId) (fz : Nat × Nat) (ha : w.heap[a.block]? = some (.cells us tA fz)) (hus : 0 < us.size) (hb : w.heap[b.block]? = some (.cells ub tB (0, 0))) :
    (Extern.SlicesOverlaps.overlaps #[tS, tS] #[tR] #[.slice (some a) la ca, .slice (some b) lb cb]).run P w = .ok (.bool false) w := by
  have hnb : (a.block != b.block) = true := by simpa using hne
  have hnb' : (a.block == b.block) = false := by simpa using hne
  have hsa : w.shape? a.block = some (tA, us.size) := by simp [World.shape?, ha]
  have hsb : w.shape? b.block = some (tB, ub.size) := by simp [World.shape?, hb]
  have hfb : w.frozen? b = false := by simp [World.frozen?, hb]
  have hfe : w.frozen? { block := b.block, off := ub.size } = false := by simp [World.frozen?, hb]
  obtain ⟨k, hk⟩ : ∃ k, us.size = k + 1 := ⟨us.size - 1, by omega⟩
  rw [hk] at hsa
  change Sem.run P (α := Value) (do
    let some t := (#[tS, tS] : Array TypeId)[0]? | stuck "slices.overlaps: no parameter types"
    let .slice elem ← underlying t | stuck "slices.overlaps: slice type expected"
    let size ← sizeOf elem
    match (some a : Option Addr), (some b : Option Addr) with
    | some a, some b =>
      if la = 0 ∨ lb = 0 ∨ size = 0 then pure (Value.bool false)
      else if a.block != b.block && (← frozen a) && (← frozen b) then unsupported .addressObserved
      else do
        if a.block != b.block then do
          noView a; noView b
          if ← mayBeOne a b then return Value.bool ((← choose (.extern "sameAddr.stringBytes" 2)) == 1)
        pure (Value.bool (a.block == b.block && a.off < b.off + lb * size && b.off < a.off + la * size))
    | _, _ => pure (Value.bool false)) w = _
  have hz := run_sizeOf' (P := P) (w := w) hs
  by_cases h0 : la = 0 ∨ lb = 0 ∨ P.cellsOf e = 0
  · simp [run_underlying ht, hz, h0]
  · cases h1 : w.frozen? a <;> cases h2 : w.frozen? { block := a.block, off := k + 1 } <;>
      simp [run_underlying ht, hz, h0, hnb, hnb', frozen, noView, viewAt, mayBeOne, stringish, shape, Sem.run, hsa, hsb, hfb, hfe, h1, h2]
theorem Sem.overlaps {f x y : Operand} {g ty tR e : TypeId} {ts : Array TypeId} {id lo n c sz : Nat} {R ys : List (List AV)} {fl : Fl} {fn : Func} (hf : evA t f = .fn g []) (hfn : P.funcs[g]? = some fn) (hname : (fn.name == "runtime.NumGoroutine") = false) (hb : fn.body.isNone = true) (hnx : Extern.findNext fn = none)
    (hfi : Extern.find fn = some (Extern.SlicesOverlaps.overlaps #[ty, ty] #[tR])) (he : sliceElem P ty = some e) (hx : evA t x = .sl fl ys) (hne : ys ≠ []) (hw : ∀ r ∈ ys, r ≠ []) (hy : evA t y = .ms id lo n c sz) (hbx : h id = .box R.flatten) (hR : ∀ r ∈ R, r.length = sz) (hK : K (.bool false) h) :
    SemOp P i t h (.call { callee := .value f, args := #[x, y], argTypes := ts }) K := by
  refine ⟨fun c e => (by cases e), fun o a C W B next Q hop I hρ hi hn => ?_⟩
  obtain ⟨hu, hs⟩ := sliceElem_spec he
  have ef : a.eval f = .func (.func g) #[] #[] := by
    have := evA_rep hρ f
    rw [hf] at this
    obtain ⟨us, h1, h2, _⟩ := this
    have : us = [] := List.eq_nil_of_length_eq_zero h2
    subst this; exact h1
  obtain ⟨q, us, tyb, e2, _, _, g1, _, _, _⟩ := ms_read I hρ hy hbx hR
  obtain ⟨A, cc, e1, h1⟩ := rep_sl (ev_slice I hρ hx)
  obtain ⟨b, off, sz', uf, rfl, _, h3, h4, _⟩ := h1 hne
  have hl0 : 0 < ys.length := List.length_pos_iff.2 hne
  obtain ⟨x0, hx0⟩ : ∃ x0, getx ys 0 0 = some x0 := by
    refine getx_some h3 hl0 ?_
    have hm := List.getElem_mem hl0
    rw [← h3 _ hm]
    exact List.length_pos_iff.2 (hw _ hm)
  obtain ⟨hS, hcell⟩ := h4 0 0 x0 hx0
  have hbne : b ≠ C.ι id := fun e3 => I.unsealed id _ hbx _ (e3 ▸ hS)
  obtain ⟨va, ta, fz, ha, hva⟩ : ∃ (va : Array Value) (ta : TypeId) (fz : Nat × Nat), W.heap[b]? = some (.cells va ta fz) ∧ 0 < va.size := by
    have hc := hcell
    unfold World.cell? at hc
    simp only at hc
    split at hc
    · rename_i va ta fz hh
      refine ⟨va, ta, fz, hh, ?_⟩
      have := (Array.getElem?_eq_some_iff.1 hc).1
      omega
    all_goals cases hc
  refine wp_value (u := .bool false) (W' := W) ?_ (hn _ h _ W C hK (Rep.bool _) I (.refl _ _ _) (.refl _ _) (fun _ _ hq => hq))
  have hov := run_overlaps_own (P := P) W ty tR e hu hs ⟨b, off, none⟩ ⟨C.ι id, q, none⟩ ys.length cc n c hbne va us.toArray ta tyb fz ha hva g1
  simp only [execOp, hop, resolve, ef, Deferred.ofValue, Sem.run_bind, Sem.run_pure, Result.andThen_ok, invoke]
  have harr : #[] ++ #[x, y].map a.eval ++ #[] = #[.slice (some ⟨b, off, none⟩) ys.length cc, .slice (some ⟨C.ι id, q, none⟩) n c] := by simp [e1, e2]
  rw [harr]
  show Sem.run P (callFunc g _) W = _
  rw [run_callFunc_extern hfn hname hb hnx hfi, hov]
  rfl
end
end Go.Proofs.YtbaajjihhdmdpaaGreatDoor

namespace Go.Proofs.YtbaajjihhdmdpaaGreatDoor
open Go.RowKit
set_option linter.unusedSectionVars false
set_option linter.unusedVariables false
set_option linter.unusedSimpArgs false
set_option linter.unnecessarySimpa false
set_option maxRecDepth 100000
variable [Lax]
theorem S80o (l : List GCell) (hl : l.length * 40 ≤ 140737488355328) : Sound Tryz.prog 80 [.sl .no (l.map (GCell.c))] (.sl (.own 61 5) (l.map (GCell.c))) := by
  refine ex_intro mixedT T [] Tryz.func80 rfl (by rw [Tryz.ntmps80]; simp) (by kernel_rfl) ?_
  conv => whnf
  repeat' first | (refine LenG.map ?_; conv => whnf) | (refine LenG.go ?_; conv => whnf)
  refine SemG.go (Sem.nil ((T.ti 27).el 61 rfl) rfl (fun hne => ?_) (fun he b => ?_)) <;> conv => whnf
  · refine Br.F ?_; conv => whnf
    refine ⟨⟨by rw [show (tb.ti 61).bytes = 40 from rfl]; simp; omega, by simp; omega, fun y hy => by obtain ⟨x, _, rfl⟩ := List.mem_map.1 hy; exact ⟨rfl, rfl⟩⟩, ?_⟩; conv => whnf
    refine RetG.own ?_ (List.nil_append _); (conv => lhs; whnf); simp; rfl
  · obtain rfl : l = [] := by simpa using he
    refine Br.mk (fun hq => ?_) (fun hq => ?_) <;> conv => whnf
    · exact RetG.own0 (by kernel_rfl)
    · refine ⟨⟨by rw [show (tb.ti 61).bytes = 40 from rfl]; simp, by simp, fun y hy => by obtain ⟨x, _, rfl⟩ := List.mem_map.1 hy; exact ⟨rfl, rfl⟩⟩, ?_⟩; conv => whnf
      refine RetG.own ?_ (List.nil_append _); (conv => lhs; whnf); simp; rfl
theorem S80f (l : List GCell) (hl : l.length * 40 ≤ 140737488355328) : Sound Tryz.prog 80 [.sl .no (l.map (GCell.c))] (.sl (.fown 61 5) (l.map (GCell.c))) := by
  refine ex_intro mixedT T [appX 3] Tryz.func80 rfl (by rw [Tryz.ntmps80]; simp) (by kernel_rfl) ?_
  conv => whnf
  repeat' first | (refine LenG.map ?_; conv => whnf) | (refine LenG.go ?_; conv => whnf)
  refine SemG.go (Sem.nil ((T.ti 27).el 61 rfl) rfl (fun hne => ?_) (fun he b => ?_)) <;> conv => whnf
  · refine Br.F ?_; conv => whnf
    refine SemG.go (Sem.appF (kill := none) ((T.ti 27).el 61 rfl) ⟨rfl, rfl⟩ rfl (by kernel_rfl : 5 = Tryz.prog.cellsOf 61) (by decide) (by kernel_rfl) (by rw [show Tryz.prog.bytesOf 61 = 40 by kernel_rfl]; simp; omega) (by simp; omega) (fun y hy => by obtain ⟨x, _, rfl⟩ := List.mem_map.1 hy; exact ⟨rfl, rfl⟩) ?_); conv => whnf
    exact RetG.fs rfl
  · obtain rfl : l = [] := by simpa using he
    refine Br.mk (fun hq => ?_) (fun hq => ?_) <;> conv => whnf
    · exact RetG.fs0 (by kernel_rfl) (by decide)
    · refine SemG.go (Sem.appF (kill := none) ((T.ti 27).el 61 rfl) ⟨rfl, rfl⟩ rfl (by kernel_rfl : 5 = Tryz.prog.cellsOf 61) (by decide) (by kernel_rfl) (by rw [show Tryz.prog.bytesOf 61 = 40 by kernel_rfl]; simp) (by simp) (fun y hy => by obtain ⟨x, _, rfl⟩ := List.mem_map.1 hy; exact ⟨rfl, rfl⟩) ?_); conv => whnf
      exact RetG.fs rfl
theorem S26o (l : List GReq) (hl : l.length * 72 ≤ 140737488355328) : Sound Tryz.prog 26 [.sl .no (l.map (GReq.c))] (.sl (.own 47 7) (l.map (GReq.c))) := by
  refine ex_intro mixedT T [] Tryz.func26 rfl (by rw [Tryz.ntmps26]; simp) (by kernel_rfl) ?_
  conv => whnf
  repeat' first | (refine LenG.map ?_; conv => whnf) | (refine LenG.go ?_; conv => whnf)
  refine SemG.go (Sem.nil ((T.ti 42).el 47 rfl) rfl (fun hne => ?_) (fun he b => ?_)) <;> conv => whnf
  · refine Br.F ?_; conv => whnf
    refine ⟨⟨by rw [show (tb.ti 47).bytes = 72 from rfl]; simp; omega, by simp; omega, fun y hy => by obtain ⟨x, _, rfl⟩ := List.mem_map.1 hy; exact ⟨rfl, rfl⟩⟩, ?_⟩; conv => whnf
    refine RetG.own ?_ (List.nil_append _); (conv => lhs; whnf); simp; rfl
  · obtain rfl : l = [] := by simpa using he
    refine Br.mk (fun hq => ?_) (fun hq => ?_) <;> conv => whnf
    · exact RetG.own0 (by kernel_rfl)
    · refine ⟨⟨by rw [show (tb.ti 47).bytes = 72 from rfl]; simp, by simp, fun y hy => by obtain ⟨x, _, rfl⟩ := List.mem_map.1 hy; exact ⟨rfl, rfl⟩⟩, ?_⟩; conv => whnf
      refine RetG.own ?_ (List.nil_append _); (conv => lhs; whnf); simp; rfl
theorem S26f (l : List GReq) (hl : l.length * 72 ≤ 140737488355328) : Sound Tryz.prog 26 [.sl .no (l.map (GReq.c))] (.sl (.fown 47 7) (l.map (GReq.c))) := by
  refine ex_intro mixedT T [appX 3] Tryz.func26 rfl (by rw [Tryz.ntmps26]; simp) (by kernel_rfl) ?_
  conv => whnf
  repeat' first | (refine LenG.map ?_; conv => whnf) | (refine LenG.go ?_; conv => whnf)
  refine SemG.go (Sem.nil ((T.ti 42).el 47 rfl) rfl (fun hne => ?_) (fun he b => ?_)) <;> conv => whnf
  · refine Br.F ?_; conv => whnf
    refine SemG.go (Sem.appF (kill := none) ((T.ti 42).el 47 rfl) ⟨rfl, rfl⟩ rfl (by kernel_rfl : 7 = Tryz.prog.cellsOf 47) (by decide) (by kernel_rfl) (by rw [show Tryz.prog.bytesOf 47 = 72 by kernel_rfl]; simp; omega) (by simp; omega) (fun y hy => by obtain ⟨x, _, rfl⟩ := List.mem_map.1 hy; exact ⟨rfl, rfl⟩) ?_); conv => whnf
    exact RetG.fs rfl
  · obtain rfl : l = [] := by simpa using he
    refine Br.mk (fun hq => ?_) (fun hq => ?_) <;> conv => whnf
    · exact RetG.fs0 (by kernel_rfl) (by decide)
    · refine SemG.go (Sem.appF (kill := none) ((T.ti 42).el 47 rfl) ⟨rfl, rfl⟩ rfl (by kernel_rfl : 7 = Tryz.prog.cellsOf 47) (by decide) (by kernel_rfl) (by rw [show Tryz.prog.bytesOf 47 = 72 by kernel_rfl]; simp) (by simp) (fun y hy => by obtain ⟨x, _, rfl⟩ := List.mem_map.1 hy; exact ⟨rfl, rfl⟩) ?_); conv => whnf
      exact RetG.fs rfl
end Go.Proofs.YtbaajjihhdmdpaaGreatDoor
