/- The abstract machine: a statement's operations in whatever order. · The abstract machine: statements, code, functions: what runs in the machine runs in the world. · The abstract machine: its boxes under other numbers; what is not looked at again is forgotten. · The abstract machine: code and functions: what runs in the machine runs in the world. · The abstract machine: its evaluator: a text's value by reckoning, all but what the proof must say. No condition. -/
import Derived.Test.YtbaajjihhdmdpaaGreatDoorRe01
import Derived.LoopNIn
import Derived.OrdersIn
import Derived.TacticsIn
import Derived.RangeFuncCalls
import Derived.RangeFuncRecord
import Derived.RangeFuncLeaves
import Derived.LoopN

namespace Go.Proofs.YtbaajjihhdmdpaaGreatDoor
open Go.RowKit
set_option linter.unusedVariables false
set_option linter.unusedSimpArgs false
set_option linter.unnecessarySimpa false
set_option linter.unusedSectionVars false
variable [Lax]
structure Did where
  v : AV
  d : Eff
  fp : List Nat
/-- Does an operation run: a guard that is not told is no answer. -/
def guardA (ops : Array Oper) (o : Oper) (t : Nat → AV) : Option Bool :=
  match o.guard with
  | none => some true
  | some (j, want) => match (ops[j]?).bind (·.dst) with
    | some d => match t d with
      | .bool b => some (b == want)
      | .undef => some false
      | _ => none
    | none => some false
def dstOf (ops : Array Oper) (m : Nat) : Option Tmp := (ops[m]?).bind (·.dst)
/-- The temporaries and the memory when just the operations L have run, in the order of the text. -/
def TL (ops : Array Oper) (rs : Nat → Did) (L : Nat → Bool) (t : Nat → AV) : Nat → (Nat → AV)
  | 0 => t
  | m + 1 => if L m then putA (dstOf ops m) (rs m).v (TL ops rs L t m) else TL ops rs L t m
def HL (k : Nat) (rs : Nat → Did) (L : Nat → Bool) (h : AHeap) : Nat → AHeap
  | 0 => h
  | m + 1 => if L m then (rs m).d.app' (k + m) (HL k rs L h m) else HL k rs L h m
def hasEdge (ops : Array Oper) (j i : Nat) : Bool :=
  match ops[i]? with
  | some o => o.after.any fun e => Region.binds .any e && e.on == j
  | none => false
/-- Two operations that are not put in order: may one hang on the other by memory? -/
def mayClash (a b : Op) : Bool := (isStore a && readsBox b) || (isStore b && readsBox a)
structure Lex (P : Program) (ops : Array Oper) (p k : Nat) (rs : Nat → Did) (t : Nat → AV) (h : AHeap) : Prop where
  fresh : ∀ j, h (k + j) = .none
  step : ∀ m o, ops[m]? = some o → (∃ v, rs m = ⟨v, .nop, []⟩) ∨
    (guardA ops o (TL ops rs (fun _ => true) t m) = some true ∧ stepR P (k + m) (TL ops rs (fun _ => true) t m) (HL k rs (fun _ => true) h m) o.op (rs m).v (rs m).d (rs m).fp)
  full : ∀ m o, m < p → ops[m]? = some o → (guardA ops o (TL ops rs (fun _ => true) t m) = some false ∧ rs m = ⟨.undef, .nop, []⟩) ∨
    (guardA ops o (TL ops rs (fun _ => true) t m) = some true ∧ stepR P (k + m) (TL ops rs (fun _ => true) t m) (HL k rs (fun _ => true) h m) o.op (rs m).v (rs m).d (rs m).fp)
  back : ∀ j i, i < ops.size → hasEdge ops j i = true → j < i
  apart : ∀ j i oj oi, j < i → ops[j]? = some oj → ops[i]? = some oi → hasEdge ops j i = true ∨ oj.apart ops oi = true
  clash : ∀ j i oj oi, j < i → ops[j]? = some oj → ops[i]? = some oi → hasEdge ops j i = true ∨ mayClash oj.op oi.op = false ∨ ∀ id ∈ (rs j).fp, id ∉ (rs i).fp
/-- A set of operations that holds what each of them waits for. -/
def Closed (ops : Array Oper) (L : Nat → Bool) : Prop := ∀ i j, i < ops.size → L i = true → hasEdge ops j i = true → L j = true
section
variable {P : Program} {ops : Array Oper} {p k : Nat} {rs : Nat → Did} {t : Nat → AV} {h : AHeap} {L : Nat → Bool}
theorem putA_eq (dst : Option Tmp) (v : AV) (t : Nat → AV) (x : Nat) : putA dst v t x = if dst = some x then v else t x := by
  cases dst with
  | none => simp [putA]
  | some d => simp only [putA, Option.some.injEq]; by_cases e : x = d <;> simp [e]; intro e'; exact absurd e'.symm e
/-! ### temporaries -/
theorem TL_below (X : Lex P ops p k rs t h) {i x : Nat} {oi : Oper} (hL : Closed ops L) (hi : ops[i]? = some oi) (hn : L i = false) (hr : ∀ j, hasEdge ops j i = true → L j = true)
    (hx : x ∈ oi.looksAt ops) : ∀ m, m ≤ ops.size → TL ops rs L t m x = TL ops rs (fun _ => true) t (min m i) x := by
  have hisz : i < ops.size := (Array.getElem?_eq_some_iff.1 hi).1
  intro m
  induction m with
  | zero => intro _; simp [TL]
  | succ m ih =>
    intro hm
    have ih := ih (by omega)
    have hmo : ops[m]? = some ops[m] := Array.getElem?_eq_getElem (by omega)
    by_cases hmi : m < i
    · rw [show min m i = m by omega] at ih
      rw [show min (m + 1) i = m + 1 by omega]
      simp only [TL, if_true]
      by_cases hd : dstOf ops m = some x
      · have hLm : L m = true := by
          rcases X.apart m i _ oi hmi hmo hi with h1 | h1
          · exact hr m h1
          · refine absurd hx ((Oper.apart_spec h1).1 x ?_)
            simpa [dstOf, hmo] using hd
        rw [if_pos hLm, putA_eq, putA_eq, if_pos hd, if_pos hd]
      · rw [putA_eq, if_neg hd]
        split
        · rw [putA_eq, if_neg hd]; exact ih
        · exact ih
    · rw [show min m i = i by omega] at ih
      rw [show min (m + 1) i = i by omega]
      simp only [TL]
      split
      · rename_i hLm
        rw [putA_eq]
        by_cases hd : dstOf ops m = some x
        · exfalso
          have hne : i ≠ m := fun e => by subst e; rw [hn] at hLm; cases hLm
          rcases X.apart i m oi _ (by omega) hi hmo with h1 | h1
          · rw [hL m i (by omega) hLm h1] at hn; cases hn
          · refine absurd hx ((Oper.apart_spec h1).2.2 x ?_)
            simpa [dstOf, hmo] using hd
        · rw [if_neg hd]; exact ih
      · exact ih
def addL (L : Nat → Bool) (i : Nat) : Nat → Bool := fun j => if j = i then true else L j
theorem TL_add (X : Lex P ops p k rs t h) {i : Nat} {oi : Oper} (hL : Closed ops L) (hi : ops[i]? = some oi) (hn : L i = false) :
    TL ops rs (addL L i) t ops.size = putA oi.dst (rs i).v (TL ops rs L t ops.size) := by
  have hisz : i < ops.size := (Array.getElem?_eq_some_iff.1 hi).1
  have hdi : dstOf ops i = oi.dst := by simp [dstOf, hi]
  funext x
  rw [putA_eq]
  have key : ∀ m, m ≤ ops.size → TL ops rs (addL L i) t m x = if i < m then (if oi.dst = some x then (rs i).v else TL ops rs L t m x) else TL ops rs L t m x := by
    intro m
    induction m with
    | zero => intro _; simp [TL]
    | succ m ih =>
      intro hm
      have ih := ih (by omega)
      have hmo : ops[m]? = some ops[m] := Array.getElem?_eq_getElem (by omega)
      by_cases e : m = i
      · subst e
        rw [if_neg (Nat.lt_irrefl _)] at ih
        simp only [TL, addL, if_true, hn, Bool.false_eq_true, if_false]
        rw [if_pos (Nat.lt_succ_self _), putA_eq, hdi]
        split
        · rfl
        · exact ih
      · simp only [TL, addL, if_neg e]
        cases hLm : L m with
        | false =>
          simp only [Bool.false_eq_true, if_false]
          rw [ih]
          by_cases h1 : i < m
          · rw [if_pos h1, if_pos (show i < m + 1 by omega)]
          · rw [if_neg h1, if_neg (show ¬ i < m + 1 by omega)]
        | true =>
          simp only [if_true]
          rw [putA_eq, putA_eq, ih]
          by_cases h1 : i < m
          · rw [if_pos h1, if_pos (show i < m + 1 by omega)]
            by_cases hd : dstOf ops m = some x
            · rw [if_pos hd, if_pos hd]
              by_cases hd2 : oi.dst = some x
              · exfalso
                rcases X.apart i m oi _ h1 hi hmo with h2 | h2
                · rw [hL m i (by omega) hLm h2] at hn; cases hn
                · exact (Oper.apart_spec h2).2.1 x hd2 (by simpa [dstOf, hmo] using hd)
              · rw [if_neg hd2]
            · rw [if_neg hd, if_neg hd]
          · rw [if_neg h1, if_neg (show ¬ i < m + 1 by omega)]
  rw [key ops.size (Nat.le_refl _), if_pos hisz]
/-! ### memory -/
theorem effG_none (d : Eff) (id : Nat) : effG d id .none = .none := cls_none.1 (by rw [cls_effG]; rfl)
theorem HL_fresh (X : Lex P ops p k rs t h) : ∀ m j, (m ≤ j ∨ L j = false) → HL k rs L h m (k + j) = .none := by
  intro m
  induction m with
  | zero => intro j _; exact X.fresh j
  | succ m ih =>
    intro j hj
    have ih' := ih j (by
      rcases hj with hj | hj
      · exact .inl (by omega)
      · exact .inr hj)
    simp only [HL]
    split
    · rename_i hLm
      have hne : k + j ≠ k + m := by
        rcases hj with hj | hj
        · omega
        · intro e
          have : j = m := by omega
          subst this; rw [hj] at hLm; cases hLm
      rw [app'_eq, if_neg hne, ih']
      exact effG_none _ _
    · exact ih'
theorem HL_ne {m : Nat} (X : Lex P ops p k rs t h) {id : Nat} (hne : HL k rs L h m id ≠ .none) : id ≠ k + m := fun e => hne (by rw [e]; exact HL_fresh X m m (.inl (Nat.le_refl _)))
/-- What is there keeps its kind; what is closed or dead stays so. -/
theorem HL_keep (X : Lex P ops p k rs t h) {id m : Nat} (hne : HL k rs L h m id ≠ .none) : ∀ m', m ≤ m' → cls (HL k rs L h m' id) = cls (HL k rs L h m id) ∧
    (∀ cs, HL k rs L h m id = .sealed cs → HL k rs L h m' id = .sealed cs) ∧ (HL k rs L h m id = .dead → HL k rs L h m' id = .dead) := by
  intro m'
  induction m' with
  | zero => intro hm; obtain rfl : m = 0 := by omega
            exact ⟨rfl, fun _ e => e, fun e => e⟩
  | succ m' ih =>
    intro hm
    by_cases e : m = m' + 1
    · subst e; exact ⟨rfl, fun _ e => e, fun e => e⟩
    · obtain ⟨h1, h2, h3⟩ := ih (by omega)
      have hne' : HL k rs L h m' id ≠ .none := fun e => by
        have h0 : cls (HL k rs L h m id) = 0 := by rw [← h1, e]; rfl
        exact hne (cls_none.1 h0)
      have hid := HL_ne X hne'
      simp only [HL]
      split
      · rw [app'_eq, if_neg hid]
        refine ⟨by rw [cls_effG, h1], fun cs e => by rw [h2 cs e]; exact effG_sealed _ _ _, fun e => by rw [h3 e]; exact effG_dead _ _⟩
      · exact ⟨h1, h2, h3⟩
/-- The operation's list, in the text's order. -/
theorem fp_here (X : Lex P ops p k rs t h) {i : Nat} {oi : Oper} (hi : ops[i]? = some oi) {id : Nat} (hid : id ∈ (rs i).fp) :
    stepR P (k + i) (TL ops rs (fun _ => true) t i) (HL k rs (fun _ => true) h i) oi.op (rs i).v (rs i).d (rs i).fp ∧ HL k rs (fun _ => true) h i id ≠ .none := by
  rcases X.step i oi hi with ⟨_, h2⟩ | ⟨_, h2⟩
  · rw [h2] at hid; cases hid
  · exact ⟨h2, stepR_fp_ne h2 id hid⟩
/-- Two operations without order do not meet at a place that one of them writes. -/
theorem no_set (X : Lex P ops p k rs t h) {a b : Nat} {oa ob : Oper} (hab : a < b) (ha : ops[a]? = some oa) (hb : ops[b]? = some ob) (hne : hasEdge ops a b = false) {id : Nat} (h1 : id ∈ (rs a).fp) (h2 : id ∈ (rs b).fp)
    (hs : isStore oa.op = true ∨ isStore ob.op = true) : False := by
  obtain ⟨sa, na⟩ := fp_here X ha h1
  obtain ⟨sb, nb⟩ := fp_here X hb h2
  have hk := (HL_keep X na b (by omega)).1
  have kind : ∀ {i : Nat} {tt : Nat → AV} {hh : AHeap} {o : Op} {v d fp}, stepR P i tt hh o v d fp → id ∈ fp → (isAppend o = true ∧ cls (hh id) = 2) ∨ (readsBox o = true ∧ cls (hh id) = 1) := by
    intro i tt hh o v d fp hst hid
    rcases (stepR_touch hst).2 id hid with ⟨g1, ⟨e, sz, n, g2⟩, _⟩ | ⟨g1, ⟨old, off, cs, g2, _⟩⟩ | ⟨g1, _, g2, _⟩
    · exact .inl ⟨g1, by rw [g2]; rfl⟩
    · refine .inr ⟨?_, by rw [g2]; rfl⟩
      cases o <;> first | rfl | cases g1
    · obtain ⟨cs, hcs⟩ := Option.isSome_iff_exists.1 g2
      exact .inr ⟨g1, peek_cls hcs⟩
  have noApp : ∀ {o : Op}, isStore o = true → isAppend o = false := fun {o} h => by cases o <;> first | rfl | cases h
  have ka := kind sa h1
  have kb := kind sb h2
  have hra : readsBox oa.op = true ∧ readsBox ob.op = true := by
    rcases ka with ⟨g1, g2⟩ | ⟨g1, g2⟩ <;> rcases kb with ⟨g3, g4⟩ | ⟨g3, g4⟩
    · rcases hs with hs | hs
      · rw [noApp hs] at g1; cases g1
      · rw [noApp hs] at g3; cases g3
    · omega
    · omega
    · exact ⟨g1, g3⟩
  rcases X.clash a b oa ob hab ha hb with h3 | h3 | h3
  · rw [hne] at h3; cases h3
  · unfold mayClash at h3
    rw [hra.1, hra.2, Bool.and_true, Bool.and_true] at h3
    rcases hs with hs | hs <;> rw [hs] at h3 <;> simp at h3
  · exact h3 id h1 h2
theorem isStore_append {o : Op} (h1 : isStore o = true) : isAppend o = false := by cases o <;> first | rfl | cases h1
section one
variable (X : Lex P ops p k rs t h) {i : Nat} {oi : Oper} (hL : Closed ops L) (hi : ops[i]? = some oi) (hn : L i = false) (hr : ∀ j, hasEdge ops j i = true → L j = true)
include X hL hi hn hr
/-- A place of the operation's list, that has come to be: what it holds now, and what it held in the text's order. -/
theorem HL_rel {id : Nat} (hid : id ∈ (rs i).fp) (hnow : HL k rs L h ops.size id ≠ .none) :
    (HL k rs L h ops.size id).peek = (HL k rs (fun _ => true) h i id).peek ∧ (isStore oi.op = true ∨ isAppend oi.op = true → HL k rs L h ops.size id = HL k rs (fun _ => true) h i id) := by
  have hisz : i < ops.size := (Array.getElem?_eq_some_iff.1 hi).1
  obtain ⟨si, ni⟩ := fp_here X hi hid
  have ti := (stepR_touch si).2 id hid
  have hmade : ∀ j, id = k + j → j < i ∧ L j = true := fun j e => by
    refine ⟨Nat.lt_of_not_le fun hge => ni (by rw [e]; exact HL_fresh X i j (.inl hge)), ?_⟩
    cases hLj : L j with
    | true => rfl
    | false => exact absurd (by rw [e]; exact HL_fresh X ops.size j (.inr hLj)) hnow
  -- an operation's own effect at this place
  have tm : ∀ m om, ops[m]? = some om → (∀ x, effG (rs m).d id x = x) ∨ (id ∈ (rs m).fp) := fun m om hm => by
    rcases X.step m om hm with ⟨_, h2⟩ | ⟨_, h2⟩
    · rw [h2]; exact .inl fun _ => rfl
    · by_cases hf : id ∈ (rs m).fp
      · exact .inr hf
      · exact .inl ((stepR_touch h2).1 id hf)
  -- up to i
  have ph1 : ∀ m, m ≤ i → HL k rs L h m id = HL k rs (fun _ => true) h m id ∨ ∃ cs, HL k rs L h m id = .box cs ∧ HL k rs (fun _ => true) h m id = .sealed cs := by
    intro m
    induction m with
    | zero => intro _; exact .inl rfl
    | succ m ih =>
      intro hm
      have ih := ih (by omega)
      have hmo : ops[m]? = some ops[m] := Array.getElem?_eq_getElem (by omega)
      simp only [HL, if_true]
      by_cases hkm : id = k + m
      · rw [if_pos (hmade m hkm).2, app'_eq, app'_eq, if_pos hkm, if_pos hkm]
        have h0 : ∀ L, HL k rs L h m (k + m) = .none := fun L => HL_fresh X m m (.inl (Nat.le_refl _))
        rw [h0, h0]
        exact .inl rfl
      · rw [app'_eq _ _ (HL k rs (fun _ => true) h m) id, if_neg hkm]
        rcases tm m _ hmo with hg | hf
        · rw [hg]
          split
          · rw [app'_eq, if_neg hkm, hg]; exact ih
          · exact ih
        · obtain ⟨sm, nm⟩ := fp_here X hmo hf
          cases hLm : L m with
          | true =>
            simp only [if_true]
            rw [app'_eq, if_neg hkm]
            rcases ih with ih | ⟨cs, e1, e2⟩
            · rw [ih]; exact .inl rfl
            · rw [e1, e2]
              rcases (stepR_touch sm).2 id hf with ⟨_, ⟨e, sz, n, g2⟩, _⟩ | ⟨_, ⟨old, off, cs', g2, _⟩⟩ | ⟨_, _, _, g3 | g3⟩
              · rw [e2] at g2; cases g2
              · rw [e2] at g2; cases g2
              · rw [g3, g3]; exact .inr ⟨cs, rfl, rfl⟩
              · rw [g3, g3]; exact .inl rfl
          | false =>
            simp only [Bool.false_eq_true, if_false]
            have hnoe : hasEdge ops m i = false := by
              cases he : hasEdge ops m i with
              | true => rw [hr m he] at hLm; cases hLm
              | false => rfl
            rcases (stepR_touch sm).2 id hf with ⟨g1, ⟨e, sz, n, g2⟩, g3⟩ | ⟨g1, _⟩ | ⟨_, _, g2, g3 | g3⟩
            · exfalso
              have hd : HL k rs (fun _ => true) h (m + 1) id = .dead := by
                simp only [HL, if_true]; rw [app'_eq, if_neg hkm, g3, g2]; rfl
              have hd2 := (HL_keep (L := fun _ => true) X (by rw [hd]; simp) i (by omega)).2.2 hd
              rcases ti with ⟨_, ⟨e', sz', n', t2⟩, _⟩ | ⟨_, ⟨old, off, cs', t2, _⟩⟩ | ⟨_, _, t2, _⟩
              · rw [hd2] at t2; cases t2
              · rw [hd2] at t2; cases t2
              · rw [hd2] at t2; cases t2
            · exact (no_set X (by omega) hmo hi hnoe hf hid (.inl g1)).elim
            · rw [g3]; exact ih
            · rw [g3]
              rcases ih with ih | ⟨cs, e1, e2⟩
              · rw [ih]
                cases hh : HL k rs (fun _ => true) h m id with
                | box cs => exact .inr ⟨cs, rfl, rfl⟩
                | _ => exact .inl rfl
              · rw [e2]; exact .inr ⟨cs, e1, rfl⟩
  -- from i on
  have ph2 : ∀ m, i ≤ m → m ≤ ops.size → (HL k rs L h m id).peek = (HL k rs (fun _ => true) h i id).peek ∧ (isStore oi.op = true ∨ isAppend oi.op = true → HL k rs L h m id = HL k rs (fun _ => true) h i id) ∧
      cls (HL k rs L h m id) = cls (HL k rs (fun _ => true) h i id) := by
    intro m
    induction m with
    | zero =>
      intro him _
      obtain rfl : i = 0 := by omega
      exact ⟨rfl, fun _ => rfl, rfl⟩
    | succ m ih =>
      intro him hm
      by_cases e : i = m + 1
      · subst e
        rcases ph1 (m + 1) (Nat.le_refl _) with h1 | ⟨cs, h1, h2⟩
        · rw [h1]; exact ⟨rfl, fun _ => rfl, rfl⟩
        · rw [h1, h2]
          refine ⟨rfl, fun hx => ?_, rfl⟩
          rcases ti with ⟨_, ⟨e', sz', n', t2⟩, _⟩ | ⟨_, ⟨old, off, cs', t2, _⟩⟩ | ⟨t1, t2, _⟩
          · rw [h2] at t2; cases t2
          · rw [h2] at t2; cases t2
          · rcases hx with hx | hx
            · rw [t2] at hx; cases hx
            · exfalso; cases hop : oi.op <;> rw [hop] at t1 hx <;> try (cases hx; done)
              rename_i c
              obtain ⟨callee, args, ts⟩ := c
              cases callee <;> simp [readsBox, isAppend] at t1 hx
      · obtain ⟨ih1, ih2, ih3⟩ := ih (by omega) (by omega)
        have hmo : ops[m]? = some ops[m] := Array.getElem?_eq_getElem (by omega)
        simp only [HL]
        cases hLm : L m with
        | false => simp only [Bool.false_eq_true, if_false]; exact ⟨ih1, ih2, ih3⟩
        | true =>
          simp only [if_true]
          have hmi : i < m := by
            rcases Nat.lt_or_ge i m with h1 | h1
            · exact h1
            · have : i = m := by omega
              subst this; rw [hn] at hLm; cases hLm
          have hkm : id ≠ k + m := fun e => by have := (hmade m e).1; omega
          rw [app'_eq, if_neg hkm]
          rcases tm m _ hmo with hg | hf
          · rw [hg]; exact ⟨ih1, ih2, ih3⟩
          · obtain ⟨sm, nm⟩ := fp_here X hmo hf
            have hnoe : hasEdge ops i m = false := by
              cases he : hasEdge ops i m with
              | true => rw [hL m i (by omega) hLm he] at hn; cases hn
              | false => rfl
            rcases (stepR_touch sm).2 id hf with ⟨g1, ⟨e, sz, n, g2⟩, g3⟩ | ⟨g1, _⟩ | ⟨gr, _, g2, g3 | g3⟩
            · exfalso
              have hc := (HL_keep (L := fun _ => true) X ni m (by omega)).1
              rcases ti with ⟨_, ⟨e', sz', n', t2⟩, t3⟩ | ⟨_, ⟨old, off, cs', t2, _⟩⟩ | ⟨_, _, t2, _⟩
              · have hki : id ≠ k + i := HL_ne X ni
                have hd : HL k rs (fun _ => true) h (i + 1) id = .dead := by
                  simp only [HL, if_true]; rw [app'_eq, if_neg hki, t3, t2]; rfl
                have hd2 := (HL_keep (L := fun _ => true) X (by rw [hd]; simp) m (by omega)).2.2 hd
                rw [hd2] at g2; cases g2
              · rw [g2, t2] at hc; simp [cls] at hc
              · obtain ⟨cs, hcs⟩ := Option.isSome_iff_exists.1 t2
                rw [g2, peek_cls hcs] at hc; simp [cls] at hc
            · exact (no_set X hmi hi hmo hnoe hid hf (.inr g1)).elim
            · rw [g3]; exact ⟨ih1, ih2, ih3⟩
            · rw [g3]
              refine ⟨?_, fun hx => ?_, ?_⟩
              · rw [← ih1]; cases HL k rs L h m id <;> rfl
              · rcases hx with hx | hx
                · exact (no_set X hmi hi hmo hnoe hid hf (.inl hx)).elim
                · rw [ih2 (.inr hx)]
                  have hc := (HL_keep (L := fun _ => true) X ni m (by omega)).1
                  obtain ⟨cs, hcs⟩ := Option.isSome_iff_exists.1 g2
                  rw [peek_cls hcs] at hc
                  rcases ti with ⟨_, ⟨e', sz', n', t2⟩, _⟩ | ⟨t1, _⟩ | ⟨t1, _⟩
                  · rw [t2] at hc; simp [cls] at hc
                  · rw [isStore_append t1] at hx; cases hx
                  · exfalso; cases hop : oi.op <;> rw [hop] at t1 hx <;> try (cases hx; done)
                    rename_i c
                    obtain ⟨callee, args, ts⟩ := c
                    cases callee <;> simp [readsBox, isAppend] at t1 hx
              · rw [← ih3]; cases HL k rs L h m id <;> rfl
  exact ⟨(ph2 ops.size (by omega) (Nat.le_refl _)).1, (ph2 ops.size (by omega) (Nat.le_refl _)).2.1⟩
/-- One more: its effect comes last as well. -/
theorem HL_add (hist : ∀ j, j < ops.size → L j = true → ∀ id ∈ (rs j).fp, HL k rs L h ops.size id ≠ .none) :
    HL k rs (addL L i) h ops.size = (rs i).d.app' (k + i) (HL k rs L h ops.size) := by
  have hisz : i < ops.size := (Array.getElem?_eq_some_iff.1 hi).1
  funext id
  have key : ∀ m, m ≤ ops.size → HL k rs (addL L i) h m id = if i < m then (rs i).d.app' (k + i) (HL k rs L h m) id else HL k rs L h m id := by
    intro m
    induction m with
    | zero => intro _; simp [HL]
    | succ m ih =>
      intro hm
      have ih := ih (by omega)
      have hmo : ops[m]? = some ops[m] := Array.getElem?_eq_getElem (by omega)
      by_cases e : m = i
      · subst e
        rw [if_neg (Nat.lt_irrefl _)] at ih
        simp only [HL, addL, if_true, hn, Bool.false_eq_true, if_false]
        rw [if_pos (Nat.lt_succ_self _)]
        have hh : HL k rs (addL L m) h m (k + m) = HL k rs L h m (k + m) := by
          rw [HL_fresh X m m (.inl (Nat.le_refl _)), HL_fresh X m m (.inl (Nat.le_refl _))]
        rw [app'_eq, app'_eq]
        change (if id = k + m then (effOwn (rs m).d).getD (effG (rs m).d (k + m) (HL k rs (addL L m) h m (k + m))) else effG (rs m).d id (HL k rs (addL L m) h m id)) = _
        rw [hh, ih]
      · simp only [HL]
        have hadd : addL L i m = L m := by simp [addL, e]
        rw [hadd]
        cases hLm : L m with
        | false =>
          simp only [Bool.false_eq_true, if_false]
          rw [ih]
          by_cases h1 : i < m
          · rw [if_pos h1, if_pos (show i < m + 1 by omega)]
          · rw [if_neg h1, if_neg (show ¬ i < m + 1 by omega)]
        | true =>
          simp only [if_true]
          by_cases h1 : i < m
          · rw [if_pos h1] at ih
            rw [if_pos (show i < m + 1 by omega)]
            have hnoe : hasEdge ops i m = false := by
              cases he : hasEdge ops i m with
              | true => rw [hL m i (by omega) hLm he] at hn; cases hn
              | false => rfl
            have hf0 : ∀ L, HL k rs L h m (k + m) = .none := fun L => HL_fresh X m m (.inl (Nat.le_refl _))
            rw [app'_eq _ (k + m) (HL k rs (addL L i) h m), app'_eq _ (k + i)]
            by_cases hkm : id = k + m
            · subst hkm
              rw [if_pos rfl, if_neg (by omega), app'_eq, if_pos rfl, hf0, hf0]
              have hnf : k + m ∉ (rs i).fp := fun hf => (fp_here X hi hf).2 (HL_fresh X i m (.inl (by omega)))
              have hg : ∀ x, effG (rs i).d (k + m) x = x := by
                rcases X.step i oi hi with ⟨_, h2⟩ | ⟨_, h2⟩
                · rw [h2]; exact fun _ => rfl
                · exact (stepR_touch h2).1 _ hnf
              rw [hg]
            · rw [if_neg hkm, ih, app'_eq]
              by_cases hki : id = k + i
              · subst hki
                rw [if_pos rfl, if_pos rfl]
                have hnf : k + i ∉ (rs m).fp := fun hf => hist m (by omega) hLm _ hf (HL_fresh X ops.size i (.inr hn))
                have hg : ∀ x, effG (rs m).d (k + i) x = x := by
                  rcases X.step m _ hmo with ⟨_, h2⟩ | ⟨_, h2⟩
                  · rw [h2]; exact fun _ => rfl
                  · exact (stepR_touch h2).1 _ hnf
                rw [hg, app'_eq, if_neg (by omega), hg]
              · rw [if_neg hki, if_neg hki, app'_eq, if_neg hkm]
                -- two effects at one place
                by_cases hfi : id ∈ (rs i).fp
                · by_cases hfm : id ∈ (rs m).fp
                  · obtain ⟨si, ni⟩ := fp_here X hi hfi
                    obtain ⟨sm, nm⟩ := fp_here X hmo hfm
                    have hc := (HL_keep (L := fun _ => true) X ni m (by omega)).1
                    rcases (stepR_touch si).2 id hfi with ⟨_, ⟨e', sz', n', t2⟩, t3⟩ | ⟨t1, _⟩ | ⟨_, _, t2, t3 | t3⟩
                    · exfalso
                      rcases (stepR_touch sm).2 id hfm with ⟨_, ⟨e2, sz2, n2, g2⟩, g3⟩ | ⟨g1, _⟩ | ⟨_, _, g2, _⟩
                      · have hd : HL k rs (fun _ => true) h (i + 1) id = .dead := by
                          simp only [HL, if_true]; rw [app'_eq, if_neg hki, t3, t2]; rfl
                        have hd2 := (HL_keep (L := fun _ => true) X (by rw [hd]; simp) m (by omega)).2.2 hd
                        rw [hd2] at g2; cases g2
                      · exact no_set X h1 hi hmo hnoe hfi hfm (.inr g1)
                      · obtain ⟨cs, hcs⟩ := Option.isSome_iff_exists.1 g2
                        rw [t2, peek_cls hcs] at hc; simp [cls] at hc
                    · exact (no_set X h1 hi hmo hnoe hfi hfm (.inl t1)).elim
                    · rw [t3, t3]
                    · rcases (stepR_touch sm).2 id hfm with ⟨_, ⟨e2, sz2, n2, g2⟩, g3⟩ | ⟨g1, _⟩ | ⟨_, _, g2, g3 | g3⟩
                      · exfalso
                        obtain ⟨cs, hcs⟩ := Option.isSome_iff_exists.1 t2
                        rw [g2, peek_cls hcs] at hc; simp [cls] at hc
                      · exact (no_set X h1 hi hmo hnoe hfi hfm (.inr g1)).elim
                      · rw [g3, g3]
                      · rw [t3, g3, t3, g3]
                  · have hg : ∀ x, effG (rs m).d id x = x := by
                      rcases X.step m _ hmo with ⟨_, h2⟩ | ⟨_, h2⟩
                      · rw [h2]; exact fun _ => rfl
                      · exact (stepR_touch h2).1 _ hfm
                    rw [hg, hg]
                · have hg : ∀ x, effG (rs i).d id x = x := by
                    rcases X.step i oi hi with ⟨_, h2⟩ | ⟨_, h2⟩
                    · rw [h2]; exact fun _ => rfl
                    · exact (stepR_touch h2).1 _ hfi
                  rw [hg, hg]
          · rw [if_neg h1] at ih
            rw [if_neg (show ¬ i < m + 1 by omega)]
            have hkk : HL k rs (addL L i) h m (k + m) = HL k rs L h m (k + m) := by
              rw [HL_fresh X m m (.inl (Nat.le_refl _)), HL_fresh X m m (.inl (Nat.le_refl _))]
            rw [app'_eq, app'_eq, hkk, ih]
  rw [key ops.size (Nat.le_refl _), if_pos hisz]
end one
end
/-! ### the text's checks -/
def dstsOk (N : Nat) (ops : Array Oper) : Bool := ops.toList.all fun o => match o.dst with | some d => decide (d < N) | none => true
def pairs (n : Nat) : List (Nat × Nat) := (List.range n).flatMap fun i => (List.range i).map fun j => (j, i)
def drawOk (ops : Array Oper) : Bool :=
  ((List.range ops.size).all fun i => match ops[i]? with
    | some o => o.after.toList.all fun e => !Region.binds .any e || decide (e.on < i)
    | none => true) &&
  (pairs ops.size).all fun (j, i) => hasEdge ops j i || match ops[j]?, ops[i]? with
    | some a, some b => a.apart ops b
    | _, _ => true
def clashes (ops : Array Oper) : List (Nat × Nat) :=
  (pairs ops.size).filter fun (j, i) => !hasEdge ops j i && match ops[j]?, ops[i]? with
    | some a, some b => mayClash a.op b.op
    | _, _ => false
theorem mem_pairs {n j i : Nat} (hj : j < i) (hi : i < n) : (j, i) ∈ pairs n := by
  unfold pairs
  exact List.mem_flatMap.2 ⟨i, List.mem_range.2 hi, List.mem_map.2 ⟨j, List.mem_range.2 hj, rfl⟩⟩
/-! ### a statement's operations in the text's order -/
def stepO (P : Program) (ops : Array Oper) (i : Nat) (o : Oper) (t : Nat → AV) (h : AHeap) (K : Did → (Nat → AV) → AHeap → Prop) : Prop :=
  match guardA ops o t with
  | some false => K ⟨.undef, .nop, []⟩ (putA o.dst .undef t) h
  | some true => ∃ v d fp, stepR P i t h o.op v d fp ∧ K ⟨v, d, fp⟩ (putA o.dst v t) (d.app' i h)
  | none => False
/-- What is still to be yielded. -/
inductive Yt where
  | off
  | more (l : Nat) (xs : List (List AV))
  | stop
def nextY (l : Nat) (b : Bool) (rest : List (List AV)) : Yt := match b with
  | true => .more l rest
  | false => .stop
/-- A call of yield: whatever it answers. -/
def yieldR (o : Op) (t : Nat → AV) (h : AHeap) (y : Yt) (K : Bool → List Nat → Yt → Prop) : Prop :=
  match o with
  | .call { callee := .value f, args, .. } => match evA t f, y with
    | .yl l, .more l' (x :: rest) => l = l' ∧ ∃ ids, passAll h (args.toList.map (evA t)) = some (x, ids) ∧ ∀ b, K b ids (nextY l b rest)
    | _, _ => False
  | _ => False
/-- An operation that is told by what it does in the world, whatever the machine's memory stands for; it may leave several ways to go on. -/
def SemOp (P : Program) (i : Nat) (t : Nat → AV) (h : AHeap) (op : Op) (K : AV → AHeap → Prop) : Prop :=
  (∀ c, op ≠ .defer c) ∧ ∀ (o : Oper) (a : Act) (C : Ctx) (W : World) (B : Nat) (next : Act → World → Prop) (Q : Exit → Act → World → Prop), o.op = op → Inv P C h W B → (∀ n, RepT C W h (t n) (a.tmps.getD n Go.undef)) → h i = .none →
    (∀ v h' u W' C', K v h' → RepT C' W' h' v u → Inv P C' h' W' B → Le C h W C' h' W' → Below B W W' → (∀ id, id ≠ i → h id = .none → h' id = .none) → next (a.put o.dst u) W') → o.wp P a W next Q
theorem SemOp.mono {P : Program} {i : Nat} {t : Nat → AV} {h : AHeap} {op : Op} {K K' : AV → AHeap → Prop} (hK : ∀ v h', K v h' → K' v h') (hs : SemOp P i t h op K) : SemOp P i t h op K' :=
  ⟨hs.1, fun o a C W B next Q ho I hr hi hn => hs.2 o a C W B next Q ho I hr hi fun v h' u W' C' hk => hn v h' u W' C' (hK v h' hk)⟩
def stepY (P : Program) (ops : Array Oper) (i : Nat) (o : Oper) (t : Nat → AV) (h : AHeap) (y : Yt) (K : (Nat → AV) → AHeap → Yt → Prop) : Prop :=
  stepO P ops i o t h (fun r t h => K t h y) ∨
  (guardA ops o t = some true ∧ yieldR o.op t h y fun b ids y' => K (putA o.dst (.bool b) t) ((Eff.call ids none).app' i h) y') ∨
  (guardA ops o t = some true ∧ SemOp P i t h o.op fun v h' => K (putA o.dst v t) h' y)
def opsR (P : Program) (ops : Array Oper) (k : Nat) : List Oper → Nat → ((Nat → AV) → AHeap → Yt → Prop) → (Nat → AV) → AHeap → Yt → Prop
  | [], _, K, t, h, y => K t h y
  | o :: rest, j, K, t, h, y => stepY P ops (k + j) o t h y fun t h y => opsR P ops k rest (j + 1) K t h y
def opsD (P : Program) (ops : Array Oper) (k : Nat) : List Oper → Nat → (List Did → (Nat → AV) → AHeap → Prop) → (Nat → AV) → AHeap → Prop
  | [], _, K, t, h => K [] t h
  | o :: rest, j, K, t, h => stepO P ops (k + j) o t h fun r t h => opsD P ops k rest (j + 1) (fun rs => K (r :: rs)) t h
def fnOf (rs : List Did) (m : Nat) : Did := rs.getD m ⟨.bad, .nop, []⟩
section
variable {P : Program} {ops : Array Oper} {k : Nat} {t t0 : Nat → AV} {h h0 : AHeap}
theorem TL_congr {rs rs' : Nat → Did} {L L' : Nat → Bool} : ∀ m, (∀ j, j < m → rs j = rs' j ∧ L j = L' j) → TL ops rs L t m = TL ops rs' L' t m
  | 0, _ => rfl
  | m + 1, he => by
    simp only [TL]
    rw [TL_congr m (fun j hj => he j (by omega)), (he m (by omega)).1, (he m (by omega)).2]
theorem HL_congr {rs rs' : Nat → Did} {L L' : Nat → Bool} : ∀ m, (∀ j, j < m → rs j = rs' j ∧ L j = L' j) → HL k rs L h m = HL k rs' L' h m
  | 0, _ => rfl
  | m + 1, he => by
    simp only [HL]
    rw [HL_congr m (fun j hj => he j (by omega)), (he m (by omega)).1, (he m (by omega)).2]
def stepAt (P : Program) (ops : Array Oper) (k : Nat) (rs : Nat → Did) (t : Nat → AV) (h : AHeap) (m : Nat) (o : Oper) : Prop :=
  (guardA ops o (TL ops rs (fun _ => true) t m) = some false ∧ rs m = ⟨.undef, .nop, []⟩) ∨
    (guardA ops o (TL ops rs (fun _ => true) t m) = some true ∧ stepR P (k + m) (TL ops rs (fun _ => true) t m) (HL k rs (fun _ => true) h m) o.op (rs m).v (rs m).d (rs m).fp)
theorem fnOf_append (pre rs : List Did) (m : Nat) (hm : m < pre.length) : fnOf (pre ++ rs) m = fnOf pre m := by
  simp [fnOf, List.getD_eq_getElem?_getD, List.getElem?_append, hm]
/-- What each operation did, out of the run in the text's order. -/
theorem opsD_trace (K : List Did → (Nat → AV) → AHeap → Prop) : ∀ (l : List Oper) (pre : List Did), (∀ q, q < l.length → l[q]? = ops[pre.length + q]?) →
    (∀ m o, m < pre.length → ops[m]? = some o → stepAt P ops k (fnOf pre) t h m o) →
    opsD P ops k l pre.length (fun rs => K (pre ++ rs)) (TL ops (fnOf pre) (fun _ => true) t pre.length) (HL k (fnOf pre) (fun _ => true) h pre.length) →
    ∃ rs : List Did, rs.length = pre.length + l.length ∧ (∀ m o, m < rs.length → ops[m]? = some o → stepAt P ops k (fnOf rs) t h m o) ∧
      K rs (TL ops (fnOf rs) (fun _ => true) t rs.length) (HL k (fnOf rs) (fun _ => true) h rs.length)
  | [], pre, _, hs, hr => ⟨pre, by simp, hs, by simpa [opsD] using hr⟩
  | o :: l, pre, hl, hs, hr => by
    have ho : ops[pre.length]? = some o := by simpa using (hl 0 (by simp)).symm
    have next : ∀ r : Did, stepAt P ops k (fnOf (pre ++ [r])) t h pre.length o →
        opsD P ops k l (pre.length + 1) (fun rs => K (pre ++ (r :: rs))) (putA o.dst r.v (TL ops (fnOf pre) (fun _ => true) t pre.length)) (r.d.app' (k + pre.length) (HL k (fnOf pre) (fun _ => true) h pre.length)) →
        ∃ rs : List Did, rs.length = pre.length + (o :: l).length ∧ (∀ m o, m < rs.length → ops[m]? = some o → stepAt P ops k (fnOf rs) t h m o) ∧
          K rs (TL ops (fnOf rs) (fun _ => true) t rs.length) (HL k (fnOf rs) (fun _ => true) h rs.length) := by
      intro r hst hrest
      have hlen : (pre ++ [r]).length = pre.length + 1 := by simp
      have hTe : ∀ m, m ≤ pre.length → TL ops (fnOf (pre ++ [r])) (fun _ => true) t m = TL ops (fnOf pre) (fun _ => true) t m := fun m hm => TL_congr m fun j hj => ⟨fnOf_append _ _ _ (by omega), rfl⟩
      have hHe : ∀ m, m ≤ pre.length → HL k (fnOf (pre ++ [r])) (fun _ => true) h m = HL k (fnOf pre) (fun _ => true) h m := fun m hm => HL_congr m fun j hj => ⟨fnOf_append _ _ _ (by omega), rfl⟩
      have hlast : fnOf (pre ++ [r]) pre.length = r := by simp [fnOf, List.getD_eq_getElem?_getD]
      have hrec := opsD_trace K l (pre ++ [r]) (fun q hq => by rw [hlen]; have := hl (q + 1) (by simpa using hq); simpa [Nat.add_assoc, Nat.add_comm 1 q] using this) (fun m o' hm hm' => by
        rw [hlen] at hm
        by_cases e : m = pre.length
        · subst e; rw [ho] at hm'; cases hm'; exact hst
        · have := hs m o' (by omega) hm'
          unfold stepAt at this ⊢
          rw [hTe m (by omega), hHe m (by omega), fnOf_append _ _ _ (by omega)]
          exact this) (by
        rw [hlen]
        simp only [TL, HL, if_true]
        rw [hTe _ (Nat.le_refl _), hHe _ (Nat.le_refl _), hlast]
        have : dstOf ops pre.length = o.dst := by simp [dstOf, ho]
        rw [this]
        simpa [List.append_assoc] using hrest)
      obtain ⟨rs, h1, h2, h3⟩ := hrec
      exact ⟨rs, by rw [h1, hlen, List.length_cons]; omega, h2, h3⟩
    simp only [opsD, stepO] at hr
    have hT0 : ∀ r, TL ops (fnOf (pre ++ [r])) (fun _ => true) t pre.length = TL ops (fnOf pre) (fun _ => true) t pre.length := fun r => TL_congr _ fun j hj => ⟨fnOf_append _ _ _ hj, rfl⟩
    have hH0 : ∀ r, HL k (fnOf (pre ++ [r])) (fun _ => true) h pre.length = HL k (fnOf pre) (fun _ => true) h pre.length := fun r => HL_congr _ fun j hj => ⟨fnOf_append _ _ _ hj, rfl⟩
    have hlast : ∀ r, fnOf (pre ++ [r]) pre.length = r := fun r => by simp [fnOf, List.getD_eq_getElem?_getD]
    split at hr
    · rename_i hg
      exact next ⟨.undef, .nop, []⟩ (.inl ⟨by rw [hT0]; exact hg, hlast _⟩) hr
    · rename_i hg
      obtain ⟨v, d, fp, hst, hrest⟩ := hr
      exact next ⟨v, d, fp⟩ (.inr ⟨by rw [hT0]; exact hg, by rw [hT0, hH0, hlast]; exact hst⟩) hrest
    · exact hr.elim
theorem stepO_mono {i : Nat} {o : Oper} {K K' : Did → (Nat → AV) → AHeap → Prop} (hK : ∀ r t h, K r t h → K' r t h) (hs : stepO P ops i o t h K) : stepO P ops i o t h K' := by
  unfold stepO at *
  split at hs
  · exact hK _ _ _ hs
  · obtain ⟨v, d, fp, h1, h2⟩ := hs; exact ⟨v, d, fp, h1, hK _ _ _ h2⟩
  · exact hs.elim
theorem yieldR_mono {o : Op} {y : Yt} {K K' : Bool → List Nat → Yt → Prop} (hK : ∀ b ids y, K b ids y → K' b ids y) (hs : yieldR o t h y K) : yieldR o t h y K' := by
  unfold yieldR at *
  split at hs
  · split at hs
    · obtain ⟨h1, ids, h2, h3⟩ := hs; exact ⟨h1, ids, h2, fun b => hK _ _ _ (h3 b)⟩
    · exact hs.elim
  · exact hs.elim
theorem stepY_mono {i : Nat} {o : Oper} {y : Yt} {K K' : (Nat → AV) → AHeap → Yt → Prop} (hK : ∀ t h y, K t h y → K' t h y) (hs : stepY P ops i o t h y K) : stepY P ops i o t h y K' := by
  rcases hs with hs | ⟨h1, hs⟩ | ⟨h1, hs⟩
  · exact .inl (stepO_mono (fun _ _ _ => hK _ _ _) hs)
  · exact .inr (.inl ⟨h1, yieldR_mono (fun _ _ _ => hK _ _ _) hs⟩)
  · exact .inr (.inr ⟨h1, hs.mono fun _ _ => hK _ _ _⟩)
theorem opsR_mono {K K' : (Nat → AV) → AHeap → Yt → Prop} (hK : ∀ t h y, K t h y → K' t h y) : ∀ (l : List Oper) (j : Nat) (t : Nat → AV) (h : AHeap) (y : Yt), opsR P ops k l j K t h y → opsR P ops k l j K' t h y
  | [], _, _, _, _, hs => hK _ _ _ hs
  | o :: l, j, t, h, y, hs => stepY_mono (fun t h y hs => opsR_mono hK l (j + 1) t h y hs) hs
theorem opsD_mono : ∀ (l : List Oper) (j : Nat) (t : Nat → AV) (h : AHeap) {K K' : List Did → (Nat → AV) → AHeap → Prop}, (∀ rs t h, K rs t h → K' rs t h) → opsD P ops k l j K t h → opsD P ops k l j K' t h
  | [], _, _, _, _, _, hK, hs => hK _ _ _ hs
  | o :: l, j, t, h, _, _, hK, hs => stepO_mono (fun r t h hs => opsD_mono l (j + 1) t h (fun rs t h => hK _ _ _) hs) hs
end
/-- The fences that let everything by: outside of rounds, and in one. -/
def WideF (F : Fence) : Prop := F = Fence.wide ∨ ∃ l, F = Fence.wide.inRound l
theorem WideF.fn {F : Fence} (hF : WideF F) (f : FuncId) : F.fn f := by
  rcases hF with rfl | ⟨l, rfl⟩ <;> trivial
theorem WideF.depth {F : Fence} (hF : WideF F) : F.depth = none := by
  rcases hF with rfl | ⟨l, rfl⟩ <;> rfl
theorem WideF.calls {F : Fence} (hF : WideF F) {n : Nat} {P : Program} {f : FuncId} {args : Array Value} {w : World} {R : Ending → World → Prop} (h : Calls P f args w R) : CallsIn F n P f args w R := by
  rcases hF with rfl | ⟨l, rfl⟩
  · exact callsIn_wide.2 h
  · exact CallsIn.inRound l (callsIn_wide.2 h)
theorem opIn_of_wp {F : Fence} (hF : WideF F) {n : Nat} {P : Program} {o : Oper} {a : Act} {w : World} {K : Act → World → Prop} {Q : Exit → Act → World → Prop} (hd : ∀ c, o.op ≠ .defer c) (h : o.wp P a w K Q) : o.wpIn F n P a w K Q := by
  refine ⟨fun f _ => hF.fn f, ?_⟩
  rw [Oper.semAt_eq _ _ _ hd]
  unfold Oper.wp at h
  generalize (execOp a.eval o).run P w = r at *
  cases r with
  | ok x w' =>
    cases x <;> simp only [Oper.upon, Oper.uponIn] at h ⊢ <;> first
      | exact h
      | exact ⟨fun e => (by rw [hF.depth] at e; cases e), hF.calls h⟩
      | (refine ⟨fun e => (by rw [hF.depth] at e; cases e), fun c cs _ => ?_⟩
         obtain ⟨v, w2, hv, hs⟩ := h c cs
         rcases hF with rfl | ⟨l, rfl⟩
         · exact ⟨v, w2, hv, stepsIn_wide.2 hs⟩
         · exact ⟨v, w2, hv, stepsIn_wide.2 hs⟩)
      | exact h.elim
  | halt x w' => cases x <;> simp only [Oper.upon, Oper.uponIn] at h ⊢ <;> exact h
theorem stepR_nodefer {P : Program} {i : Nat} {t : Nat → AV} {h : AHeap} {o : Op} {v : AV} {d : Eff} {fp : List Nat} (hs : stepR P i t h o v d fp) : ∀ c, o ≠ .defer c := by
  intro c e; subst e; exact hs
/-! ### the state and the world -/
/-- What loops over functions leave behind for the function's end. -/
def Marks (C : Ctx) (W : World) (ds : List Deferred) : Prop :=
  ∃ Ds : List Nat, Ds.Nodup ∧ ds = Ds.map (fun D => ({ target := .collected D, args := #[] } : Deferred)) ∧ ∀ D ∈ Ds, C.M D ∧ W.heap[D]? = some (.deferred (some []))
theorem Marks.none (C : Ctx) (W : World) : Marks C W [] := ⟨[], List.nodup_nil, rfl, fun D hD => by cases hD⟩
theorem Marks.kept {C C' : Ctx} {W W' : World} {ds : List Deferred} (m : Marks C W ds) (e : C'.M = C.M) (k : ∀ b, C.M b → W'.heap[b]? = W.heap[b]?) : Marks C' W' ds := by
  obtain ⟨Ds, h1, h2, h3⟩ := m
  exact ⟨Ds, h1, h2, fun D hD => ⟨by rw [e]; exact (h3 D hD).1, (k D (h3 D hD).1).trans (h3 D hD).2⟩⟩
theorem Marks.le {P : Program} {B : Nat} {C C' : Ctx} {h h' : AHeap} {W W' : World} {ds : List Deferred} (m : Marks C W ds) (I : Inv P C h W B) (l : Le C h W C' h' W') : Marks C' W' ds :=
  m.kept l.me fun b hb => l.tk b (I.mn b hb).1
structure OK (P : Program) (B N : Nat) (C : Ctx) (t : Nat → AV) (h : AHeap) (a : Act) (W : World) : Prop where
  rep : ∀ x, RepT C W h (t x) (a.tmps.getD x Go.undef)
  inv : Inv P C h W B
  size : a.tmps.size = N
  defers : Marks C W a.defers
section
variable {P : Program} {ops : Array Oper} {k B N : Nat} {C : Ctx} {t : Nat → AV} {h : AHeap} {a : Act} {W : World}
theorem put_tmps (a : Act) (dst : Option Tmp) (u : Value) (x : Nat) (hd : ∀ d, dst = some d → d < a.tmps.size) : (a.put dst u).tmps.getD x Go.undef = if dst = some x then u else a.tmps.getD x Go.undef := by
  cases dst with
  | none => simp [Act.put]
  | some d =>
    have := hd d rfl
    simp only [Act.put, Array.getD_eq_getD_getElem?, Array.getElem?_setIfInBounds, Option.some.injEq]
    by_cases e : d = x
    · subst e; simp [this]
    · simp [e]
theorem put_size (a : Act) (dst : Option Tmp) (u : Value) : (a.put dst u).tmps.size = a.tmps.size := by cases dst <;> simp [Act.put]
theorem put_defers (a : Act) (dst : Option Tmp) (u : Value) : (a.put dst u).defers = a.defers := by cases dst <;> rfl
theorem OK.put {C' : Ctx} {h' : AHeap} {W' : World} (S : OK P B N C t h a W) (l : Le C h W C' h' W') (I' : Inv P C' h' W' B) {dst : Option Tmp} {v : AV} {u : Value} (hr : RepT C' W' h' v u) (hd : ∀ d, dst = some d → d < N) :
    OK P B N C' (putA dst v t) h' (a.put dst u) W' := by
  refine ⟨fun x => ?_, I', by rw [put_size]; exact S.size, by rw [put_defers]; exact S.defers.le S.inv l⟩
  rw [put_tmps a dst u x (by rw [S.size]; exact hd), putA_eq]
  split
  · exact hr
  · exact (S.rep x).le l
theorem rep_undef {u : Value} (hr : RepT C W h .undef u) : u = Go.undef := by cases hr; rfl
theorem guard_wanted (S : OK P B N C t h a W) {o : Oper} {b : Bool} (hg : guardA ops o t = some b) : Region.wanted o (yielded ops a.tmps) = b := by
  unfold guardA at hg
  unfold Region.wanted
  cases hgd : o.guard with
  | none => rw [hgd] at hg; simpa using hg
  | some jw =>
    obtain ⟨j, want⟩ := jw
    rw [hgd] at hg
    simp only at hg ⊢
    cases hd : (ops[j]?).bind (·.dst) with
    | none =>
      rw [hd] at hg
      simp only [Option.some.injEq] at hg
      simp [yielded, hd, ← hg]
    | some d =>
      rw [hd] at hg
      simp only at hg
      have hr := S.rep d
      split at hg
      · rename_i bb hb
        rw [hb] at hr
        have hu := rep_bool hr
        simp only [Option.some.injEq] at hg
        have : a.tmps[d]? = some (.bool bb) := by
          rw [Array.getD_eq_getD_getElem?] at hu
          cases hq : a.tmps[d]? with
          | none => rw [hq] at hu; cases hu
          | some q => rw [hq] at hu; exact congrArg some hu
        simp [yielded, hd, this, ← hg]
      · rename_i hb
        rw [hb] at hr
        simp only [Option.some.injEq] at hg
        have hu : a.tmps.getD d Go.undef = Go.undef := rep_undef hr
        have : yielded ops a.tmps j = none := by
          unfold yielded
          rw [hd]
          simp only [Option.bind_some]
          rw [Array.getD_eq_getD_getElem?] at hu
          cases hq : a.tmps[d]? with
          | none => rfl
          | some q => rw [hq] at hu; simp only [Option.getD_some] at hu; rw [hu]; rfl
        simp [this, ← hg]
      · cases hg
theorem app'_fresh (d : Eff) {i : Nat} {h : AHeap} {id : Nat} (hid : id ≠ i) (h0 : h id = .none) : d.app' i h id = .none := by
  rw [app'_eq, if_neg hid, h0]; exact effG_none _ _
theorem dstsOk_mem (hd : dstsOk N ops = true) {m : Nat} {o : Oper} (ho : ops[m]? = some o) : ∀ d, o.dst = some d → d < N := by
  intro d he
  have := List.all_eq_true.1 hd o (by simpa using Array.mem_of_getElem? ho)
  rw [he] at this
  simpa using this
/-- A step of the machine's, seen from outside. -/
theorem Le.keeps {P : Program} {B : Nat} {C C' : Ctx} {h h' : AHeap} {W W' : World} (l : Le C h W C' h' W') (I : Inv P C h W B) (I' : Inv P C' h' W' B) (hB : Below B W W') : Keeps C.T B C.S W C'.S W' :=
  ⟨hB, l.tk, l.clS, l.clW, fun b o hs => by
    rcases l.sn b o hs with h1 | h1
    · exact .inl h1
    · rcases I'.news b o hs with h2 | h2
      · exact .inl (I.ss b o (by rw [l.s0] at h2; exact h2))
      · exact .inr ⟨h1, h2⟩, I'.has⟩
/-- What a call of yield does: it may turn what is another's, and lay new blocks. -/
structure KeepsY (B : Nat) (C : Ctx) (W : World) (C' : Ctx) (W' : World) : Prop where
  k : Keeps (fun b => b < W.heap.size ∧ ¬ C.D b) B C.S W C'.S W'
  io : C'.ι = C.ι
  th : C'.θ = C.θ
  me : C'.M = C.M
  s0 : C'.S0 = C.S0
  mt : ∀ b, C.M b → C'.T b
  tnew : ∀ b, C'.T b → C.T b ∨ W.heap.size ≤ b
  tb : ∀ b, C'.T b → b < W'.heap.size
theorem Inv.keepsY {P : Program} {C C' : Ctx} {h : AHeap} {W W' : World} {B : Nat} (I : Inv P C h W B) (k : KeepsY B C W C' W') : Inv P C' h W' B ∧ Le0 C h W C' h W' :=
  I.other ⟨fun b hb _ => k.k.below.block b hb, k.k.below.size, fun id b ho => k.k.keep b ⟨(I.own_lt ho).2, fun ht => (I.tn b ht.1).2 id ho⟩, k.k.clS, k.k.clW, k.k.has,
    fun b o hs => (k.k.nb b o hs).imp id fun hq id ho => hq.1 ⟨(I.own_lt ho).2, fun ht => (I.tn b ht.1).2 id ho⟩,
    k.io, k.th, fun b o hs => (k.k.nb b o hs).imp id And.right, k.s0, fun b ht => ⟨k.tb b ht, fun id ho => (k.tnew b ht).elim (fun ht => (I.tn b ht).2 id ho) fun hq => Nat.lt_irrefl _ (Nat.lt_of_lt_of_le (I.own_lt ho).2 hq)⟩,
    fun b hm => by rw [k.me] at hm; exact ⟨k.mt b hm, (I.mn b hm).2⟩⟩
abbrev Gh := Yt → Ctx → World → Prop
/-- What a run carries along: it abides the machine's own steps; a call of yield is let. -/
structure Ghost (P : Program) (B : Nat) (G : Gh) : Prop where
  keep : ∀ y C W C' W', G y C W → (∀ b, C'.D b ↔ C.D b) → Keeps C.D B C.S W C'.S W' → G y C' W'
  yld : ∀ l x rest C W (vs : List Value), G (.more l (x :: rest)) C W → (∀ b o, C.S b o → (W.cell? ⟨b, o, none⟩).isSome = true) → (∀ b, C.T b → b < W.heap.size) → (∀ b, C.M b → C.T b ∧ B ≤ b) →
    vs.length = x.length → (∀ j z, x[j]? = some z → Rep C.S W z (vs.getD j Go.undef)) →
    YieldAt Fence.wide 0 P l vs.toArray W fun e W2 => ∃ b C2, e = .returned (.bool b) ∧ G (nextY l b rest) C2 W2 ∧ KeepsY B C W C2 W2
theorem Ctx.D_of {C C' : Ctx} (e1 : C'.T = C.T) (e2 : C'.M = C.M) (b : Nat) : C'.D b ↔ C.D b := by unfold Ctx.D; rw [e1, e2]
theorem Ghost.le {P : Program} {B : Nat} {G : Gh} (gh : Ghost P B G) {y : Yt} {C C' : Ctx} {h h' : AHeap} {W W' : World} (hG : G y C W) (l : Le C h W C' h' W') (I : Inv P C h W B) (I' : Inv P C' h' W' B) (hB : Below B W W') : G y C' W' :=
  gh.keep y C W C' W' hG (Ctx.D_of l.te l.me) ((l.keeps I I' hB).sub fun b hb => hb.1)
/-- Nothing has turned. -/
theorem Ghost.same {P : Program} {B : Nat} {G : Gh} (gh : Ghost P B G) {y : Yt} {C C' : Ctx} {W : World} (hG : G y C W) (hh : ∀ b o, C.S b o → (W.cell? ⟨b, o, none⟩).isSome = true) (e : C'.S = C.S) (hD : ∀ b, C'.D b ↔ C.D b) : G y C' W :=
  gh.keep y C W C' W hG hD (by rw [e]; exact .refl hh)
theorem WideF.round {F : Fence} (hF : WideF F) {n : Nat} {P : Program} {l : Nat} {f : FuncId} {tmps : Array Value} {assign body : Code} {w : World} {R : Ending → World → Prop}
    (h : RoundIn Fence.wide 0 P l f tmps assign body w R) : RoundIn F n P l f tmps assign body w R := by
  refine ⟨hF.fn f, fun c cs _ => ?_⟩
  have := h.2 c cs (room_wide _)
  rcases hF with rfl | ⟨l, rfl⟩ <;> exact this
theorem rep_yl {l : Nat} {u : Value} (hr : RepT C W h (.yl l) u) : u = .func (.yield l) #[] #[] := by cases hr; rfl
theorem yield_wp {F : Fence} (hF : WideF F) {n : Nat} {G : Gh} (gh : Ghost P B G) {o : Oper} {y : Yt} {K : Bool → List Nat → Yt → Prop} {next : Act → World → Prop} {Q : Exit → Act → World → Prop}
    (S : OK P B N C t h a W) (hG : G y C W) (hs : yieldR o.op t h y K)
    (hK : ∀ b ids y' C' W', K b ids y' → Inv P C' (sealH h ids) W' B → Le0 C h W C' (sealH h ids) W' → C'.M = C.M → (∀ q, C.M q → W'.heap[q]? = W.heap[q]?) → G y' C' W' → Below B W W' → next (a.put o.dst (.bool b)) W') :
    o.wpIn F n P a W next Q := by
  unfold yieldR at hs
  split at hs
  · rename_i f args ts hop
    split at hs
    · rename_i l l' x rest hf
      obtain ⟨rfl, ids, hp, hk⟩ := hs
      have ef : a.eval f = .func (.yield l) #[] #[] := by
        have := evA_rep S.rep f
        rw [hf] at this
        exact rep_yl this
      have hvals : ∀ j z, (args.toList.map (evA t))[j]? = some z → RepT C W h z ((args.toList.map a.eval).getD j Go.undef) := by
        intro j z hz
        rw [List.getElem?_map] at hz
        obtain ⟨q, hq, rfl⟩ := Option.map_eq_some_iff.1 hz
        rw [List.getD_eq_getElem?_getD, List.getElem?_map, hq]
        exact evA_rep S.rep q
      obtain ⟨I1, l1⟩ := S.inv.close ids
      obtain ⟨hlen, hrep⟩ := passAll_rep S.inv (S' := sealS C h ids) (fun _ _ hs => .inl hs) _ x ids _ hvals hp (fun id hid cs hk => sealS_peek S.inv hid hk)
      have g1 := gh.le hG l1 S.inv I1 (.refl _ _)
      obtain ⟨fn, tmps, assign, body, hy, hround⟩ := gh.yld l x rest _ W (args.toList.map a.eval) g1 I1.has (fun b hb => (I1.tn b hb).1) I1.mn (by simp at hlen ⊢; omega) hrep
      have hrun : (execOp a.eval o).run P W = .ok (.round l fn tmps assign body) W := by
        have harr : args.map a.eval = (args.toList.map a.eval).toArray := by rw [← List.map_toArray, Array.toArray_toList]
        simp only [execOp, hop, resolve, ef, Deferred.ofValue, Sem.run_bind, Sem.run_pure, Result.andThen_ok, invoke, Array.append_empty, Array.empty_append, harr, hy]
      refine ⟨fun f _ => hF.fn f, ?_⟩
      rw [Oper.semAt_eq _ _ _ (fun c e => by rw [hop] at e; cases e), hrun, Oper.uponIn_round]
      refine ⟨fun e => (by rw [hF.depth] at e; cases e), hF.round (hround.mono ?_)⟩
      rintro e W2 ⟨b, C2, rfl, hG2, kp⟩
      obtain ⟨I2, l2⟩ := I1.keepsY kp
      exact hK b ids _ C2 W2 (hk b) I2 (l1.to0.trans l2) kp.me (fun q hq => kp.k.keep q ⟨(I1.tn q (I1.mn q hq).1).1, fun h => h.2 hq⟩) hG2 kp.k.below
    · exact hs.elim
  · exact hs.elim
theorem Marks.le0 {C' : Ctx} {W' : World} {ds : List Deferred} (m : Marks C W ds) (e : C'.M = C.M) (k : ∀ b, C.M b → W'.heap[b]? = W.heap[b]?) : Marks C' W' ds := m.kept e k
theorem seal_app (h : AHeap) (ids : List Nat) (i : Nat) : (Eff.call ids none).app' i h = sealH h ids := rfl
/-- In the text's order. -/
theorem opsR_wp {F : Fence} (hF : WideF F) {n : Nat} {G : Gh} (gh : Ghost P B G) {Q : Exit → Act → World → Prop} (hd : dstsOk N ops = true) {K : (Nat → AV) → AHeap → Yt → Prop} : ∀ (l : List Oper) (j : Nat) (C : Ctx) (t : Nat → AV) (h : AHeap) (y : Yt) (a : Act) (W : World), (∀ q o, l[q]? = some o → ops[j + q]? = some o) →
    OK P B N C t h a W → G y C W → (∀ q, j ≤ q → h (k + q) = .none) → opsR P ops k l j K t h y →
    (∀ C' t' h' y' a' W', K t' h' y' → OK P B N C' t' h' a' W' → G y' C' W' → Le0 C h W C' h' W' → C'.M = C.M → Below B W W' → (∀ q, j + l.length ≤ q → h' (k + q) = .none) → Q .normal a' W') → wpListIn F n P ops Q l a W
  | [], j, C, t, h, y, a, W, _, S, hG, hf, hr, hQ => wpListIn_nil (hQ C t h y a W hr S hG (.refl _ _ _) rfl (.refl _ _) (by simpa using hf))
  | o :: l, j, C, t, h, y, a, W, hl, S, hG, hf, hr, hQ => by
    have ho : ops[j]? = some o := hl 0 o rfl
    have hl' : ∀ q o, l[q]? = some o → ops[j + 1 + q]? = some o := fun q o' hq => by have := hl (q + 1) o' (by simpa using hq); simpa [Nat.add_assoc, Nat.add_comm 1 q] using this
    have hdo := dstsOk_mem hd ho
    simp only [opsR] at hr
    unfold wpListIn
    rcases hr with hr | ⟨hg, hr⟩ | ⟨hg, hnd, hr⟩
    rotate_right
    · rw [if_pos (guard_wanted S hg)]
      refine opIn_of_wp hF hnd (hr o a C W B _ _ rfl S.inv S.rep (hf j (Nat.le_refl _)) fun v h' u W' C' hk hv I' l' hB hfr => ?_)
      refine opsR_wp hF gh hd l (j + 1) C' _ _ y _ W' hl' (S.put l' I' hv hdo) (gh.le hG l' S.inv I' hB) (fun q hq => hfr _ (by omega) (hf q (by omega))) hk
        (fun C2 t2 h2 y2 a2 W2 hk S2 hG2 l2 hM2 hB2 hf2 => hQ C2 t2 h2 y2 a2 W2 hk S2 hG2 (l'.to0.trans l2) (hM2.trans l'.me) (hB.trans hB2) (fun q hq => hf2 q (by simp at hq; omega)))
    · unfold stepO at hr
      split at hr
      · rename_i hg
        rw [if_neg (by rw [guard_wanted S hg]; simp)]
        refine ⟨fun f _ => hF.fn f, ?_⟩
        refine opsR_wp hF gh hd l (j + 1) C _ h y _ W hl' (S.put (.refl _ _ _) S.inv (v := .undef) (u := Go.undef) Rep.undef hdo) hG (fun q hq => hf q (by omega)) hr (fun C' t' h' y' a' W' hk S' hG' l' hM' hB hf' => hQ C' t' h' y' a' W' hk S' hG' l' hM' hB (fun q hq => hf' q (by simp at hq; omega)))
      · rename_i hg
        rw [if_pos (guard_wanted S hg)]
        obtain ⟨v, d, fp, hst, hrest⟩ := hr
        refine opIn_of_wp hF (stepR_nodefer hst) (step_wp S.inv S.rep (hf j (Nat.le_refl _)) hst fun u W' C' hv I' l' hB => ?_)
        refine opsR_wp hF gh hd l (j + 1) C' _ _ y _ W' hl' (S.put l' I' hv hdo) (gh.le hG l' S.inv I' hB) (fun q hq => app'_fresh d (by omega) (hf q (by omega))) hrest
          (fun C2 t2 h2 y2 a2 W2 hk S2 hG2 l2 hM2 hB2 hf2 => hQ C2 t2 h2 y2 a2 W2 hk S2 hG2 (l'.to0.trans l2) (hM2.trans l'.me) (hB.trans hB2) (fun q hq => hf2 q (by simp at hq; omega)))
      · exact hr.elim
    · rw [if_pos (guard_wanted S hg)]
      refine yield_wp hF gh S hG hr fun b ids y' C' W' hk I' l' hM hmk hG' hB => ?_
      rw [seal_app] at hk
      refine opsR_wp hF gh hd l (j + 1) C' _ _ y' _ W' hl' ⟨fun x => ?_, I', by rw [put_size]; exact S.size, by rw [put_defers]; exact S.defers.kept hM hmk⟩ hG' (fun q hq => ?_) hk
        (fun C2 t2 h2 y2 a2 W2 hk S2 hG2 l2 hM2 hB2 hf2 => hQ C2 t2 h2 y2 a2 W2 hk S2 hG2 (l'.trans l2) (hM2.trans hM) (hB.trans hB2) (fun q hq => hf2 q (by simp at hq; omega)))
      · rw [put_tmps a o.dst (.bool b) x (by rw [S.size]; exact hdo), putA_eq]
        split
        · exact Rep.bool b
        · exact (S.rep x).le0 l'
      · have := hf q (by omega)
        unfold sealH; split <;> simp [this, sealO]
/-! ### in whatever order -/
theorem drawOk_back (hd : drawOk ops = true) {j i : Nat} (hi : i < ops.size) (he : hasEdge ops j i = true) : j < i := by
  simp only [drawOk, Bool.and_eq_true] at hd
  have h1 := List.all_eq_true.1 hd.1 i (List.mem_range.2 hi)
  unfold hasEdge at he
  rw [Array.getElem?_eq_getElem hi] at he h1
  simp only at he h1
  obtain ⟨e, hm, hb⟩ := Array.any_eq_true'.1 he
  have := List.all_eq_true.1 h1 e (by simpa using hm)
  simp only [Bool.and_eq_true, beq_iff_eq] at hb
  rw [hb.1] at this
  simp only [Bool.not_true, Bool.false_or, decide_eq_true_eq] at this
  omega
theorem ready_iff {listed : Array Bool} {i : Nat} (hs : listed.size = ops.size) : i ∈ Region.ready .any ops listed ↔ i < ops.size ∧ listed.getD i false = false ∧ ∀ j, hasEdge ops j i = true → listed.getD j false = true := by
  unfold Region.ready
  rw [List.mem_filter, List.mem_range]
  constructor
  · rintro ⟨h1, h2⟩
    simp only [Bool.and_eq_true, Bool.not_eq_true'] at h2
    obtain ⟨h2, h3⟩ := h2
    refine ⟨h1, ?_, fun j hj => ?_⟩
    · rw [Array.getD_eq_getD_getElem?, Array.getElem?_eq_getElem (by omega)] at h2 ⊢; exact h2
    · unfold hasEdge at hj
      rw [Array.getElem?_eq_getElem h1] at h3 hj
      simp only [Option.map_some, Option.getD_some] at h3 hj
      obtain ⟨e, hm, hb⟩ := Array.any_eq_true'.1 hj
      simp only [Bool.and_eq_true, beq_iff_eq] at hb
      have := Array.all_eq_true'.1 h3 e hm
      rw [hb.1, hb.2] at this
      simpa using this
  · rintro ⟨h1, h2, h3⟩
    refine ⟨h1, ?_⟩
    simp only [Bool.and_eq_true, Bool.not_eq_true']
    refine ⟨?_, ?_⟩
    · rw [Array.getD_eq_getD_getElem?, Array.getElem?_eq_getElem (by omega)] at h2 ⊢; exact h2
    · rw [Array.getElem?_eq_getElem h1]
      simp only [Option.map_some, Option.getD_some]
      refine Array.all_eq_true'.2 fun e hm => ?_
      cases hb : Region.binds .any e with
      | false => rfl
      | true =>
        simp only [Bool.not_true, Bool.false_or]
        refine h3 e.on ?_
        unfold hasEdge
        rw [Array.getElem?_eq_getElem h1]
        exact Array.any_eq_true'.2 ⟨e, hm, by simp [hb]⟩
/-- Just these operations have run. -/
def Ran (P : Program) (B N k : Nat) (ops : Array Oper) (rs : Nat → Did) (C0 : Ctx) (t : Nat → AV) (h : AHeap) (W0 : World) (L : Nat → Bool) (a : Act) (W : World) : Prop :=
  ∃ C, OK P B N C (TL ops rs L t ops.size) (HL k rs L h ops.size) a W ∧ Le C0 h W0 C (HL k rs L h ops.size) W ∧ Below B W0 W ∧ Closed ops L ∧
    ∀ j, j < ops.size → L j = true → ∀ id ∈ (rs j).fp, HL k rs L h ops.size id ≠ .none
theorem ran_step {F : Fence} (hF : WideF F) {n p : Nat} {rs : Nat → Did} {C0 : Ctx} {W0 : World} {L : Nat → Bool} {Q : Exit → Act → World → Prop} {K : Act → World → Prop} (hd : dstsOk N ops = true) (X : Lex P ops p k rs t h) (hR : Ran P B N k ops rs C0 t h W0 L a W)
    {i : Nat} (hip : i < p) (hi : i < ops.size) (hn : L i = false) (hr : ∀ j, hasEdge ops j i = true → L j = true) (hK : ∀ a' W', Ran P B N k ops rs C0 t h W0 (addL L i) a' W' → K a' W') : wpOpIn F n P ops Q i K a W := by
  obtain ⟨C, S, l0, hB0, hcl, hist⟩ := hR
  have hio : ops[i]? = some ops[i] := Array.getElem?_eq_getElem hi
  have hdo := dstsOk_mem hd hio
  have hcl' : Closed ops (addL L i) := by
    intro m j hm hLm he
    by_cases e : m = i
    · subst e
      unfold addL
      split
      · rfl
      · exact hr j he
    · have h1 : L m = true := by simpa [addL, e] using hLm
      unfold addL
      split
      · rfl
      · exact hcl m j hm h1 he
  have hadd := HL_add X hcl hio hn hr hist
  have hTadd := TL_add X hcl hio hn
  have hTx : ∀ x ∈ ops[i].looksAt ops, TL ops rs L t ops.size x = TL ops rs (fun _ => true) t i x := fun x hx => by
    rw [TL_below X hcl hio hn hr hx ops.size (Nat.le_refl _), show min ops.size i = i by omega]
  have hev : ∀ y ∈ ops[i].op.operands, evA (TL ops rs L t ops.size) y = evA (TL ops rs (fun _ => true) t i) y := fun y hy => by
    cases y with
    | tmp x =>
      refine hTx x ?_
      unfold Oper.looksAt
      exact List.mem_append.2 (.inl (List.mem_filterMap.2 ⟨.tmp x, by simpa using hy, rfl⟩))
    | _ => rfl
  have hgd : guardA ops ops[i] (TL ops rs L t ops.size) = guardA ops ops[i] (TL ops rs (fun _ => true) t i) := by
    unfold guardA
    cases hg : ops[i].guard with
    | none => rfl
    | some jw =>
      obtain ⟨j, want⟩ := jw
      simp only
      cases hd2 : (ops[j]?).bind (·.dst) with
      | none => rfl
      | some d =>
        simp only
        rw [hTx d (by unfold Oper.looksAt; rw [hg]; exact List.mem_append.2 (.inr (by simp [hd2])))]
  have hfr : HL k rs L h ops.size (k + i) = .none := HL_fresh X ops.size i (.inr hn)
  have hist' : (∀ id ∈ (rs i).fp, HL k rs L h ops.size id ≠ .none) → ∀ j, j < ops.size → addL L i j = true → ∀ id ∈ (rs j).fp, HL k rs (addL L i) h ops.size id ≠ .none := by
    intro hnow j hj hLj id hid
    have hne : HL k rs L h ops.size id ≠ .none := by
      by_cases e : j = i
      · subst e; exact hnow id hid
      · exact hist j hj (by simpa [addL, e] using hLj) id hid
    have hki : id ≠ k + i := fun e => hne (by rw [e]; exact hfr)
    rw [hadd, app'_eq, if_neg hki]
    intro e
    have : cls (effG (rs i).d id (HL k rs L h ops.size id)) = 0 := by rw [e]; rfl
    rw [cls_effG] at this
    exact hne (cls_none.1 this)
  unfold wpOpIn
  rw [hio]
  simp only
  rcases X.full i _ hip hio with ⟨hg, hrs⟩ | ⟨hg, hst⟩
  · have hw := guard_wanted S (hgd.trans hg)
    rw [if_neg (by rw [hw]; simp)]
    refine ⟨fun f _ => hF.fn f, ?_⟩
    refine hK _ _ ⟨C, ?_, ?_, hB0, hcl', hist' (by rw [hrs]; simp)⟩
    · rw [hTadd, hadd, hrs]
      exact S.put (.refl _ _ _) S.inv (v := .undef) (u := Go.undef) Rep.undef hdo
    · rw [hadd, hrs]; exact l0
  · have hw := guard_wanted S (hgd.trans hg)
    rw [if_pos hw]
    have hst1 := stepR_congr_t hst (fun y hy => (hev y hy).symm)
    have hnow := stepR_fp_rep (C := C) (W := W) (h' := HL k rs L h ops.size) hst1 (ρ := a.eval) (fun y _ => evA_rep S.rep y)
    have hst2 := stepR_congr_h (h' := HL k rs L h ops.size) hst1 (fun id hid => (HL_rel X hcl hio hn hr hid (hnow id hid)).1) (fun hx id hid => (HL_rel X hcl hio hn hr hid (hnow id hid)).2 hx)
    refine opIn_of_wp hF (stepR_nodefer hst2) (step_wp S.inv S.rep hfr hst2 fun u W' C' hv I' l' hB => hK _ _ ⟨C', ?_, ?_, hB0.trans hB, hcl', hist' hnow⟩)
    · rw [hTadd, hadd]
      exact S.put l' I' hv hdo
    · rw [hadd]; exact l0.trans l'
theorem any_wp {F : Fence} (hF : WideF F) {n : Nat} {rs : Nat → Did} {C0 : Ctx} {W0 : World} {Q : Exit → Act → World → Prop} (hd : dstsOk N ops = true) (X : Lex P ops ops.size k rs t h)
    (hQ : ∀ a' W', Ran P B N k ops rs C0 t h W0 (fun _ => true) a' W' → Q .normal a' W') :
    ∀ (fuel : Nat) (listed : Array Bool) (a : Act) (W : World), listed.size = ops.size → ((List.range ops.size).countP fun i => !listed.getD i false) ≤ fuel →
      Ran P B N k ops rs C0 t h W0 (fun i => listed.getD i false) a W → wpAnyIn F n P .any ops Q fuel listed a W := by
  have fin : ∀ (listed : Array Bool) (a : Act) (W : World), (∀ i, i < ops.size → listed.getD i false = true) → Ran P B N k ops rs C0 t h W0 (fun i => listed.getD i false) a W → Q .normal a W := by
    rintro listed a W hall ⟨C, S, l, hB, hcl, hist⟩
    refine hQ a W ⟨C, ?_, ?_, hB, fun _ _ _ _ _ => rfl, fun j hj _ id hid => ?_⟩
    · rw [TL_congr (rs' := rs) (L' := fun i => listed.getD i false) _ fun j hj => ⟨rfl, (hall j hj).symm⟩, HL_congr (rs' := rs) (L' := fun i => listed.getD i false) _ fun j hj => ⟨rfl, (hall j hj).symm⟩]; exact S
    · rw [HL_congr (rs' := rs) (L' := fun i => listed.getD i false) _ fun j hj => ⟨rfl, (hall j hj).symm⟩]; exact l
    · rw [HL_congr (rs' := rs) (L' := fun i => listed.getD i false) _ fun j hj => ⟨rfl, (hall j hj).symm⟩]; exact hist j hj (hall j hj) id hid
  have nil_all : ∀ listed : Array Bool, listed.size = ops.size → Region.ready .any ops listed = [] → ∀ i, i < ops.size → listed.getD i false = true := by
    intro listed hs hr i
    induction i using Nat.strongRecOn with
    | _ i ih =>
      intro hi
      cases hl : listed.getD i false with
      | true => rfl
      | false =>
        have : i ∈ Region.ready .any ops listed := (ready_iff hs).2 ⟨hi, hl, fun j hj => ih j (X.back j i hi hj) (Nat.lt_trans (X.back j i hi hj) hi)⟩
        rw [hr] at this; cases this
  intro fuel
  induction fuel with
  | zero =>
    intro listed a W hs hc hR
    have hall : ∀ i, i < ops.size → listed.getD i false = true := fun i hi => by
      have := List.countP_eq_zero.1 (Nat.le_zero.1 hc) i (List.mem_range.2 hi)
      simpa using this
    have hnil : Region.ready .any ops listed = [] := by
      cases hr : Region.ready .any ops listed with
      | nil => rfl
      | cons i r =>
        have : i ∈ Region.ready .any ops listed := by rw [hr]; exact List.mem_cons_self ..
        obtain ⟨h1, h2, _⟩ := (ready_iff hs).1 this
        rw [hall i h1] at h2; cases h2
    exact ⟨hnil, fin listed a W hall hR⟩
  | succ fuel ih =>
    intro listed a W hs hc hR
    refine ⟨fun hr => fin listed a W (nil_all listed hs hr) hR, fun i hi => ?_⟩
    obtain ⟨h1, h2, h3⟩ := (ready_iff hs).1 hi
    have hset : (fun j => (listed.setIfInBounds i true).getD j false) = addL (fun j => listed.getD j false) i := by
      funext j
      unfold addL
      rw [Array.getD_eq_getD_getElem?, Array.getElem?_setIfInBounds]
      by_cases e : i = j
      · subst e; have : i < listed.size := by omega
        simp [this]
      · rw [if_neg e, if_neg (fun e' => e e'.symm)]; simp [Array.getD_eq_getD_getElem?]
    refine ran_step hF hd X hR h1 h1 h2 h3 fun a' W' hR' => ih _ a' W' (by simpa using hs) ?_ (by rw [hset]; exact hR')
    -- one fewer is left
    have hlt : ((List.range ops.size).countP fun j => !(listed.setIfInBounds i true).getD j false) < (List.range ops.size).countP fun j => !listed.getD j false := by
      have he : ∀ j, (!(listed.setIfInBounds i true).getD j false) = ((!listed.getD j false) && !(j == i)) := fun j => by
        have : (listed.setIfInBounds i true).getD j false = addL (fun j => listed.getD j false) i j := congrFun hset j
        rw [this]
        unfold addL
        by_cases e : j = i <;> simp [e]
      simp only [he]
      have key : ∀ l : List Nat, i ∈ l → (l.countP fun j => (!listed.getD j false) && !(j == i)) < l.countP fun j => !listed.getD j false := by
        intro l
        induction l with
        | nil => intro hm; cases hm
        | cons x l ihl =>
          intro hm
          have hle : (l.countP fun j => (!listed.getD j false) && !(j == i)) ≤ l.countP fun j => !listed.getD j false := List.countP_mono_left fun j _ hj => by
            simp only [Bool.and_eq_true] at hj; exact hj.1
          simp only [List.countP_cons]
          by_cases e : x = i
          · subst e
            simp [h2]
            have := hle
            simp at this
            omega
          · have hm' : i ∈ l := by rcases List.mem_cons.1 hm with hm | hm; exact absurd hm.symm e; exact hm
            have := ihl hm'
            have hb : (x == i) = false := by simpa using e
            rw [hb]
            simp only [Bool.not_false, Bool.and_true]
            omega
      exact key _ (List.mem_range.2 h1)
    omega
/-- A statement that draws its order. -/
theorem opsD_wp {F : Fence} (hF : WideF F) {n : Nat} {Q : Exit → Act → World → Prop} {id : Nat} (hm : P.follows .mixedOrders = true) (hd : dstsOk N ops = true) (hdr : drawOk ops = true) {K : (Nat → AV) → AHeap → Prop}
    (S : OK P B N C t h a W) (hf : ∀ q, h (k + q) = .none)
    (hr : opsD P ops k ops.toList 0 (fun rs t' h' => (∀ p ∈ clashes ops, ∀ x ∈ (fnOf rs p.1).fp, x ∉ (fnOf rs p.2).fp) ∧ K t' h') t h)
    (hQ : ∀ C' t' h' a' W', K t' h' → OK P B N C' t' h' a' W' → Le C h W C' h' W' → Below B W W' → (∀ q, ops.size ≤ q → h' (k + q) = .none) → Q .normal a' W') : (Code.region id ops true).wpIn F n P Q a W := by
  obtain ⟨rs, hlen, hst, hcl, hK⟩ := opsD_trace (P := P) (ops := ops) (k := k) (t := t) (h := h) (fun rs t' h' => (∀ p ∈ clashes ops, ∀ x ∈ (fnOf rs p.1).fp, x ∉ (fnOf rs p.2).fp) ∧ K t' h') ops.toList [] (fun q _ => by simp) (fun m o hm => by simp at hm) hr
  simp only [List.length_nil, Nat.zero_add, Array.length_toList] at hlen
  have X : Lex P ops ops.size k (fnOf rs) t h := by
    refine ⟨hf, fun m o ho => (hst m o (by rw [hlen]; exact (Array.getElem?_eq_some_iff.1 ho).1) ho).imp (fun h => ⟨_, h.2⟩) (fun h => h), fun m o _ ho => hst m o (by rw [hlen]; exact (Array.getElem?_eq_some_iff.1 ho).1) ho, fun j i hi he => drawOk_back hdr hi he, fun j i oj oi hji hj hi => ?_, fun j i oj oi hji hj hi => ?_⟩
    · have hisz := (Array.getElem?_eq_some_iff.1 hi).1
      simp only [drawOk, Bool.and_eq_true] at hdr
      have := List.all_eq_true.1 hdr.2 (j, i) (mem_pairs hji hisz)
      simp only [hj, hi, Bool.or_eq_true] at this
      exact this
    · have hisz := (Array.getElem?_eq_some_iff.1 hi).1
      cases he : hasEdge ops j i with
      | true => exact .inl rfl
      | false =>
        cases hc : mayClash oj.op oi.op with
        | false => exact .inr (.inl rfl)
        | true =>
          refine .inr (.inr (hcl (j, i) ?_))
          unfold clashes
          refine List.mem_filter.2 ⟨mem_pairs hji hisz, ?_⟩
          simp [he, hj, hi, hc]
  obtain ⟨I', l'⟩ := S.inv.heap (W' := { W with drawn := W.drawn + 1 }) rfl
  have S' : OK P B N C t h a { W with drawn := W.drawn + 1 } := ⟨fun x => (S.rep x).le l', I', S.size, S.defers⟩
  have hno : ∀ m, (Array.replicate ops.size false).getD m false = false := fun m => by
    rw [Array.getD_eq_getD_getElem?, Array.getElem?_replicate]; split <;> rfl
  refine wpIn_region_any hm (any_wp hF (B := B) (C0 := C) (W0 := { W with drawn := W.drawn + 1 }) hd X (fun a' W' hR => ?_) ops.size (Array.replicate ops.size false) a _ (by simp) (Nat.le_trans List.countP_le_length (by simp)) ⟨C, ?_, ?_, .refl _ _, ?_, ?_⟩)
  · obtain ⟨C', S2, l2, hB, _, _⟩ := hR
    rw [← hlen] at S2 l2
    refine hQ C' _ _ a' W' hK S2 (l'.trans l2) ((show Below B W { W with drawn := W.drawn + 1 } from ⟨rfl, rfl, rfl, Nat.le_refl _, fun _ _ => rfl, .inr (Nat.le_succ _)⟩).trans hB) (fun q hq => ?_)
    rw [hlen]
    exact HL_fresh X ops.size q (.inl hq)
  · have hT : ∀ m, TL ops (fnOf rs) (fun i => (Array.replicate ops.size false).getD i false) t m = t := by
      intro m; induction m with
      | zero => rfl
      | succ m ih => simp only [TL]; rw [if_neg (by rw [hno]; simp)]; exact ih
    have hH : ∀ m, HL k (fnOf rs) (fun i => (Array.replicate ops.size false).getD i false) h m = h := by
      intro m; induction m with
      | zero => rfl
      | succ m ih => simp only [HL]; rw [if_neg (by rw [hno]; simp)]; exact ih
    rw [hT, hH]; exact S'
  · have hH : ∀ m, HL k (fnOf rs) (fun i => (Array.replicate ops.size false).getD i false) h m = h := by
      intro m; induction m with
      | zero => rfl
      | succ m ih => simp only [HL]; rw [if_neg (by rw [hno]; simp)]; exact ih
    rw [hH]; exact .refl _ _ _
  · intro i j hi hL _
    have := (hno i).symm.trans hL
    cases this
  · intro j hj hL
    have := (hno j).symm.trans hL
    cases this
/-! ### a statement cut in two: what must have run ahead of one operation, and the rest, one by one -/
def cutOk (ops : Array Oper) (p : Nat) : Bool :=
  ((List.range p).all fun j => (List.range (p + 1)).any fun q => decide (j < q) && hasEdge ops j q) && ((List.range ops.size).all fun i => decide (i ≤ p) || hasEdge ops (i - 1) i)
def cutAt (ops : Array Oper) (p : Nat) : Bool := cutOk ops p && decide (p < ops.size)
theorem cutAt_ok {p : Nat} (hc : cutAt ops p = true) : cutOk ops p = true ∧ p < ops.size := by
  simpa only [cutAt, Bool.and_eq_true, decide_eq_true_eq] using hc
theorem cut_sep {p : Nat} (hc : cutOk ops p = true) {L : Nat → Bool} (hL : Closed ops L) (hp : p < ops.size) (hr : ∀ j, hasEdge ops j p = true → L j = true) : ∀ (d j : Nat), p - j ≤ d → j < p → L j = true
  | 0, j, hd, hj => by omega
  | d + 1, j, hd, hj => by
    simp only [cutOk, Bool.and_eq_true] at hc
    have h1 := List.all_eq_true.1 hc.1 j (List.mem_range.2 hj)
    obtain ⟨q, hq, h2⟩ := List.any_eq_true.1 h1
    simp only [Bool.and_eq_true, decide_eq_true_eq] at h2
    have hqp : q < p + 1 := List.mem_range.1 hq
    by_cases e : q = p
    · subst e; exact hr j h2.2
    · exact hL q j (by omega) (cut_sep (by simp only [cutOk, Bool.and_eq_true]; exact hc) hL hp hr d q (by omega) (by omega)) h2.2
theorem cut_chain {p : Nat} (hc : cutOk ops p = true) {i : Nat} (hi : p < i) (hs : i < ops.size) : hasEdge ops (i - 1) i = true := by
  simp only [cutOk, Bool.and_eq_true] at hc
  have := List.all_eq_true.1 hc.2 i (List.mem_range.2 hs)
  simp only [Bool.or_eq_true, decide_eq_true_eq] at this
  rcases this with h | h
  · omega
  · exact h
theorem countP_set {listed : Array Bool} {i : Nat} (hs : listed.size = ops.size) (h1 : i < ops.size) (h2 : listed.getD i false = false) :
    ((List.range ops.size).countP fun j => !(listed.setIfInBounds i true).getD j false) < (List.range ops.size).countP fun j => !listed.getD j false := by
  have hset : (fun j => (listed.setIfInBounds i true).getD j false) = addL (fun j => listed.getD j false) i := by
    funext j
    unfold addL
    rw [Array.getD_eq_getD_getElem?, Array.getElem?_setIfInBounds]
    by_cases e : i = j
    · subst e; have : i < listed.size := by omega
      simp [this]
    · rw [if_neg e, if_neg (fun e' => e e'.symm)]; simp [Array.getD_eq_getD_getElem?]
  have he : ∀ j, (!(listed.setIfInBounds i true).getD j false) = ((!listed.getD j false) && !(j == i)) := fun j => by
    have : (listed.setIfInBounds i true).getD j false = addL (fun j => listed.getD j false) i j := congrFun hset j
    rw [this]
    unfold addL
    by_cases e : j = i <;> simp [e]
  simp only [he]
  have key : ∀ l : List Nat, i ∈ l → (l.countP fun j => (!listed.getD j false) && !(j == i)) < l.countP fun j => !listed.getD j false := by
    intro l
    induction l with
    | nil => intro hm; cases hm
    | cons x l ihl =>
      intro hm
      have hle : (l.countP fun j => (!listed.getD j false) && !(j == i)) ≤ l.countP fun j => !listed.getD j false := List.countP_mono_left fun j _ hj => by
        simp only [Bool.and_eq_true] at hj; exact hj.1
      simp only [List.countP_cons]
      by_cases e : x = i
      · subst e
        simp [h2]
        have := hle
        simp at this
        omega
      · have hm' : i ∈ l := by rcases List.mem_cons.1 hm with hm | hm; exact absurd hm.symm e; exact hm
        have := ihl hm'
        have hb : (x == i) = false := by simpa using e
        rw [hb]
        simp only [Bool.not_false, Bool.and_true]
        omega
  exact key _ (List.mem_range.2 h1)
theorem pre_wp {F : Fence} (hF : WideF F) {n p : Nat} {rs : Nat → Did} {C0 : Ctx} {W0 : World} {Q : Exit → Act → World → Prop} (hd : dstsOk N ops = true) (X : Lex P ops p k rs t h) (hc : cutOk ops p = true) (hp : p < ops.size)
    (hQ : ∀ fuel listed a' W', listed.size = ops.size → (∀ i, listed.getD i false = decide (i < p)) → ((List.range ops.size).countP fun i => !listed.getD i false) ≤ fuel → Ran P B N k ops rs C0 t h W0 (fun i => decide (i < p)) a' W' → wpAnyIn F n P .any ops Q fuel listed a' W') :
    ∀ (fuel : Nat) (listed : Array Bool) (a : Act) (W : World), listed.size = ops.size → ((List.range ops.size).countP fun i => !listed.getD i false) ≤ fuel → (∀ i, p ≤ i → listed.getD i false = false) →
      Ran P B N k ops rs C0 t h W0 (fun i => listed.getD i false) a W → wpAnyIn F n P .any ops Q fuel listed a W := by
  have nil_all : ∀ listed : Array Bool, listed.size = ops.size → Region.ready .any ops listed = [] → ∀ i, i < ops.size → listed.getD i false = true := by
    intro listed hs hr i
    induction i using Nat.strongRecOn with
    | _ i ih =>
      intro hi
      cases hl : listed.getD i false with
      | true => rfl
      | false =>
        have : i ∈ Region.ready .any ops listed := (ready_iff hs).2 ⟨hi, hl, fun j hj => ih j (X.back j i hi hj) (Nat.lt_trans (X.back j i hi hj) hi)⟩
        rw [hr] at this; cases this
  intro fuel
  induction fuel with
  | zero =>
    intro listed a W hs hcnt hpre hR
    have hall : ∀ i, i < ops.size → listed.getD i false = true := fun i hi => by
      have := List.countP_eq_zero.1 (Nat.le_zero.1 hcnt) i (List.mem_range.2 hi)
      simpa using this
    have := hpre p (Nat.le_refl _)
    rw [hall p hp] at this; cases this
  | succ fuel ih =>
    intro listed a W hs hcnt hpre hR
    by_cases hall : ∀ i, i < p → listed.getD i false = true
    · have he : ∀ i, listed.getD i false = decide (i < p) := fun i => by
        by_cases h1 : i < p
        · rw [hall i h1]; simp [h1]
        · rw [hpre i (by omega)]; simp [h1]
      refine hQ (fuel + 1) listed a W hs he hcnt ?_
      rw [show (fun i => decide (i < p)) = (fun i => listed.getD i false) from funext fun i => (he i).symm]; exact hR
    · have hclosed : Closed ops (fun i => listed.getD i false) := by obtain ⟨_, _, _, _, h4, _⟩ := hR; exact h4
      refine ⟨fun hr => absurd (fun i hi => nil_all listed hs hr i (by omega)) hall, fun i hi => ?_⟩
      obtain ⟨h1, h2, h3⟩ := (ready_iff hs).1 hi
      have hip : i < p := by
        refine Nat.lt_of_not_le fun hge => ?_
        by_cases e : i = p
        · subst e; exact hall fun j hj => cut_sep hc hclosed hp h3 (i - j) j (Nat.le_refl _) hj
        · have hg : p < i := by omega
          have := h3 (i - 1) (cut_chain hc hg h1)
          rw [hpre (i - 1) (by omega)] at this; cases this
      have hset : (fun j => (listed.setIfInBounds i true).getD j false) = addL (fun j => listed.getD j false) i := by
        funext j
        unfold addL
        rw [Array.getD_eq_getD_getElem?, Array.getElem?_setIfInBounds]
        by_cases e : i = j
        · subst e; have : i < listed.size := by omega
          simp [this]
        · rw [if_neg e, if_neg (fun e' => e e'.symm)]; simp [Array.getD_eq_getD_getElem?]
      refine ran_step hF hd X hR hip h1 h2 h3 fun a' W' hR' => ih _ a' W' (by simpa using hs) ?_ (fun j hj => ?_) (by rw [hset]; exact hR')
      · have := countP_set hs h1 h2; omega
      · have : (listed.setIfInBounds i true).getD j false = addL (fun j => listed.getD j false) i j := congrFun hset j
        rw [this]
        unfold addL
        rw [if_neg (by omega)]
        exact hpre j hj
theorem chain_wp {F : Fence} {n p : Nat} {Q : Exit → Act → World → Prop} (hc : cutOk ops p = true) (hback : ∀ j i, i < ops.size → hasEdge ops j i = true → j < i) : ∀ (l : List Oper) (j fuel : Nat) (listed : Array Bool) (a : Act) (W : World), (∀ q, l[q]? = ops[j + q]?) → p ≤ j → listed.size = ops.size →
    (∀ i, i < ops.size → listed.getD i false = decide (i < j)) → ops.size ≤ j + fuel → wpListIn F n P ops Q l a W → wpAnyIn F n P .any ops Q fuel listed a W
  | [], j, fuel, listed, a, W, hl, hpj, hs, he, hfu, hw => by
    have hj : ops.size ≤ j := by
      have := hl 0
      simp only [List.getElem?_nil, Nat.add_zero] at this
      have := (Array.getElem?_eq_none_iff.1 this.symm)
      exact this
    have hnil : Region.ready .any ops listed = [] := by
      cases hr : Region.ready .any ops listed with
      | nil => rfl
      | cons i r =>
        have : i ∈ Region.ready .any ops listed := by rw [hr]; exact List.mem_cons_self ..
        obtain ⟨h1, h2, _⟩ := (ready_iff hs).1 this
        rw [he i h1] at h2
        simp at h2; omega
    cases fuel with
    | zero => exact ⟨hnil, hw⟩
    | succ fuel => exact ⟨fun _ => hw, fun i hi => by rw [hnil] at hi; cases hi⟩
  | o :: l, j, fuel, listed, a, W, hl, hpj, hs, he, hfu, hw => by
    have ho : ops[j]? = some o := by simpa using (hl 0).symm
    have hj : j < ops.size := (Array.getElem?_eq_some_iff.1 ho).1
    have hl' : ∀ q, l[q]? = ops[j + 1 + q]? := fun q => by have := hl (q + 1); simpa [Nat.add_assoc, Nat.add_comm 1 q] using this
    cases fuel with
    | zero => omega
    | succ fuel =>
      have hrj : j ∈ Region.ready .any ops listed := (ready_iff hs).2 ⟨hj, by rw [he j hj]; simp, fun i hi => by
        have := hback i j hj hi
        rw [he i (by omega)]; simp [this]⟩
      refine ⟨fun hr => (by rw [hr] at hrj; cases hrj), fun i hi => ?_⟩
      obtain ⟨h1, h2, h3⟩ := (ready_iff hs).1 hi
      have hij : i = j := by
        rw [he i h1] at h2
        simp at h2
        refine Classical.byContradiction fun hne => ?_
        have hg : p < i := by omega
        have := h3 (i - 1) (cut_chain hc hg h1)
        rw [he (i - 1) (by omega)] at this
        simp at this; omega
      subst hij
      have key : ∀ a w, wpListIn F n P ops Q l a w → wpAnyIn F n P .any ops Q fuel (listed.setIfInBounds i true) a w := fun a w hw =>
        chain_wp hc hback l (i + 1) fuel _ a w hl' (by omega) (by simpa using hs) (fun q hq => by
          rw [Array.getD_eq_getD_getElem?, Array.getElem?_setIfInBounds]
          by_cases e : i = q
          · subst e; rw [if_pos rfl, if_pos (by omega)]; simp
          · rw [if_neg e]
            have := he q hq
            rw [Array.getD_eq_getD_getElem?] at this
            rw [this]
            simp; omega) (by omega) hw
      refine wpOpIn_mono key ?_
      unfold wpOpIn
      rw [ho]
      exact hw
/-- A statement that draws its order, cut at an operation. -/
theorem opsC_wp {F : Fence} (hF : WideF F) {n p : Nat} {G : Gh} (gh : Ghost P B G) {y : Yt} {Q : Exit → Act → World → Prop} {id : Nat} (hm : P.follows .mixedOrders = true) (hd : dstsOk N ops = true) (hdr : drawOk ops = true) (hcut : cutAt ops p = true) {K : (Nat → AV) → AHeap → Yt → Prop}
    (S : OK P B N C t h a W) (hG : G y C W) (hf : ∀ q, h (k + q) = .none)
    (hr : opsD P ops k (ops.toList.take p) 0 (fun rs t' h' => (∀ q ∈ clashes ops, ∀ x ∈ (fnOf rs q.1).fp, x ∉ (fnOf rs q.2).fp) ∧ opsR P ops k (ops.toList.drop p) p K t' h' y) t h)
    (hQ : ∀ C' t' h' y' a' W', K t' h' y' → OK P B N C' t' h' a' W' → G y' C' W' → Le0 C h W C' h' W' → Below B W W' → (∀ q, ops.size ≤ q → h' (k + q) = .none) → Q .normal a' W') : (Code.region id ops true).wpIn F n P Q a W := by
  obtain ⟨hc, hp⟩ := cutAt_ok hcut
  obtain ⟨rs, hlen, hst, hcl, hK⟩ := opsD_trace (P := P) (ops := ops) (k := k) (t := t) (h := h) (fun rs t' h' => (∀ q ∈ clashes ops, ∀ x ∈ (fnOf rs q.1).fp, x ∉ (fnOf rs q.2).fp) ∧ opsR P ops k (ops.toList.drop p) p K t' h' y) (ops.toList.take p) []
    (fun q hq => by
      have : q < p := by simp at hq; omega
      rw [List.getElem?_take, if_pos this]; simp) (fun m o hm => by simp at hm) hr
  have hlen : rs.length = p := by rw [hlen]; simp; omega
  have hback : ∀ j i, i < ops.size → hasEdge ops j i = true → j < i := fun j i hi he => drawOk_back hdr hi he
  have X : Lex P ops p k (fnOf rs) t h := by
    refine ⟨hf, fun m o ho => ?_, fun m o hm ho => hst m o (by rw [hlen]; exact hm) ho, hback, fun j i oj oi hji hj hi => ?_, fun j i oj oi hji hj hi => ?_⟩
    · by_cases hm : m < p
      · exact (hst m o (by rw [hlen]; exact hm) ho).imp (fun h => ⟨_, h.2⟩) (fun h => h)
      · exact .inl ⟨.bad, by simp [fnOf, List.getD_eq_getElem?_getD, List.getElem?_eq_none (show rs.length ≤ m by omega)]⟩
    · have hisz := (Array.getElem?_eq_some_iff.1 hi).1
      simp only [drawOk, Bool.and_eq_true] at hdr
      have := List.all_eq_true.1 hdr.2 (j, i) (mem_pairs hji hisz)
      simp only [hj, hi, Bool.or_eq_true] at this
      exact this
    · have hisz := (Array.getElem?_eq_some_iff.1 hi).1
      cases he : hasEdge ops j i with
      | true => exact .inl rfl
      | false =>
        cases hc : mayClash oj.op oi.op with
        | false => exact .inr (.inl rfl)
        | true =>
          refine .inr (.inr (hcl (j, i) ?_))
          unfold clashes
          refine List.mem_filter.2 ⟨mem_pairs hji hisz, ?_⟩
          simp [he, hj, hi, hc]
  obtain ⟨I', l'⟩ := S.inv.heap (W' := { W with drawn := W.drawn + 1 }) rfl
  have S' : OK P B N C t h a { W with drawn := W.drawn + 1 } := ⟨fun x => (S.rep x).le l', I', S.size, S.defers⟩
  have hno : ∀ m, (Array.replicate ops.size false).getD m false = false := fun m => by
    rw [Array.getD_eq_getD_getElem?, Array.getElem?_replicate]; split <;> rfl
  have hT : ∀ m, TL ops (fnOf rs) (fun i => (Array.replicate ops.size false).getD i false) t m = t := by
    intro m; induction m with
    | zero => rfl
    | succ m ih => simp only [TL]; rw [if_neg (by rw [hno]; simp)]; exact ih
  have hH : ∀ m, HL k (fnOf rs) (fun i => (Array.replicate ops.size false).getD i false) h m = h := by
    intro m; induction m with
    | zero => rfl
    | succ m ih => simp only [HL]; rw [if_neg (by rw [hno]; simp)]; exact ih
  have hTp : ∀ d, TL ops (fnOf rs) (fun i => decide (i < p)) t (p + d) = TL ops (fnOf rs) (fun _ => true) t p := by
    intro d; induction d with
    | zero => exact TL_congr p fun j hj => ⟨rfl, by simp [hj]⟩
    | succ d ih => rw [← Nat.add_assoc]; simp only [TL]; rw [if_neg (by simp)]; exact ih
  have hHp : ∀ d, HL k (fnOf rs) (fun i => decide (i < p)) h (p + d) = HL k (fnOf rs) (fun _ => true) h p := by
    intro d; induction d with
    | zero => exact HL_congr p fun j hj => ⟨rfl, by simp [hj]⟩
    | succ d ih => rw [← Nat.add_assoc]; simp only [HL]; rw [if_neg (by simp)]; exact ih
  have hcnt : ∀ q, q - p ≤ (List.range q).countP fun i => !decide (i < p) := by
    intro q; induction q with
    | zero => simp
    | succ q ih =>
      rw [List.range_succ, List.countP_append]
      by_cases hq : q < p
      · omega
      · simp only [List.countP_cons, List.countP_nil]
        have : (!decide (q < p)) = true := by simpa using hq
        rw [this]; simp; omega
  refine wpIn_region_any hm (pre_wp hF (B := B) (C0 := C) (W0 := { W with drawn := W.drawn + 1 }) hd X hc hp (fun fuel listed a' W' hs he hfu hR => ?_) ops.size (Array.replicate ops.size false) a _ (by simp) (Nat.le_trans List.countP_le_length (by simp)) (fun i _ => hno i) ⟨C, ?_, ?_, .refl _ _, ?_, ?_⟩)
  · obtain ⟨C', S2, l2, hB, _, _⟩ := hR
    have e1 : ops.size = p + (ops.size - p) := by omega
    rw [e1, hTp, hHp] at S2
    rw [e1, hHp] at l2
    rw [hlen] at hK
    have hfu' : ops.size ≤ p + fuel := by
      have h1 := hcnt ops.size
      have h2 : ((List.range ops.size).countP fun i => !listed.getD i false) = (List.range ops.size).countP fun i => !decide (i < p) := List.countP_congr fun i _ => by rw [he i]
      omega
    have hB' := (show Below B W { W with drawn := W.drawn + 1 } from ⟨rfl, rfl, rfl, Nat.le_refl _, fun _ _ => rfl, .inr (Nat.le_succ _)⟩).trans hB
    refine chain_wp hc hback (ops.toList.drop p) p fuel listed a' W' (fun q => by simp) (Nat.le_refl _) hs (fun i _ => he i) hfu' ?_
    refine opsR_wp hF gh hd (ops.toList.drop p) p C' _ _ y a' W' (fun q o hq => by simpa using hq) S2 (gh.le hG (l'.trans l2) S.inv S2.inv hB') (fun q hq => HL_fresh X p q (.inl hq)) hK fun C2 t2 h2 y2 a2 W2 hk S3 hG3 l3 _ hB3 hf3 => hQ C2 t2 h2 y2 a2 W2 hk S3 hG3 ((l'.trans l2).to0.trans l3) (hB'.trans hB3) (fun q hq => hf3 q (by simp; omega))
  · rw [hT, hH]; exact S'
  · rw [hH]; exact .refl _ _ _
  · intro i j hi hL _
    have := (hno i).symm.trans hL
    cases this
  · intro j hj hL
    have := (hno j).symm.trans hL
    cases this
end
structure St where
  t : Nat → AV
  h : AHeap
  k : Nat
  s : Nat → AV
  y : Yt
/-- What suspended frames hold. -/
def Kp (C : Ctx) (W : World) (h : AHeap) (s : Nat → AV) (keep : Nat → Value) : Prop := ∀ n, RepT C W h (s n) (keep n)
def renC (g : Nat → Option Nat) : AV → AV
  | .op id off => match g id with
    | some n => .op n off
    | none => .bad
  | x => x
def ren0 (g : Nat → Option Nat) : AV → AV
  | .op id off => match g id with
    | some n => .op n off
    | none => .bad
  | .fs t => match g t with
    | some n => .fs n
    | none => .bad
  | .ms id lo n c sz => match g id with
    | some m => .ms m lo n c sz
    | none => .bad
  | .mp id off => match g id with
    | some m => .mp m off
    | none => .bad
  | .sl (.tag t) xs => match g t with
    | some n => .sl (.tag n) xs
    | none => .sl .no xs
  | .fn f caps => .fn f (caps.map (renC g))
  | x => x
def renT (g : Nat → Option Nat) : AV → AV
  | .ag cs => .ag (cs.map (ren0 g))
  | x => ren0 g x
def ren1 (g : Nat → Option Nat) : AV → AV
  | .ag cs => .ag (cs.map (ren0 g))
  | .tup cs => .tup (cs.map (renT g))
  | x => ren0 g x
def renO (g : Nat → Option Nat) : HO → HO
  | .box cs => .box (cs.map (ren0 g))
  | .sealed cs => .sealed (cs.map (ren0 g))
  | x => x
def renH (f g : Nat → Option Nat) (h : AHeap) : AHeap := fun n => match f n with
  | some m => renO g (h m)
  | none => .none
def Ctx.ren (C : Ctx) (f : Nat → Option Nat) : Ctx where
  T := C.T
  M := C.M
  S0 := C.S0
  S := C.S
  ι n := match f n with
    | some m => C.ι m
    | none => 0
  θ n := match f n with
    | some m => C.θ m
    | none => Go.undef
section
variable {P : Program} {B N : Nat} {C : Ctx} {h : AHeap} {W : World} {f g : Nat → Option Nat} (hfg : ∀ n m, f n = some m ↔ g m = some n)
include hfg
theorem repC_ren {x : AV} {u : Value} (hr : RepC C W h x u) : RepC (C.ren f) W (renH f g h) (renC g x) u := by
  cases x with
  | op id off =>
    simp only [renC]
    cases hg : g id with
    | none => exact Rep.any u
    | some n =>
      have hf := (hfg n id).2 hg
      refine ⟨?_, ?_⟩
      · have := hr.1
        simp only [renH, hf]
        cases e : h id <;> rw [e] at this <;> simp_all [HO.peek, renO]
      · simp only [Ctx.ren, hf]; exact hr.2
  | _ => exact hr
theorem rep0_ren {x : AV} {u : Value} (hr : RepT0 C W h x u) : RepT0 (C.ren f) W (renH f g h) (ren0 g x) u := by
  cases x with
  | op id off =>
    simp only [ren0]
    cases hg : g id with
    | none => exact Rep.any u
    | some n =>
      have hf := (hfg n id).2 hg
      refine ⟨?_, ?_⟩
      · have := hr.1
        simp only [renH, hf]
        cases e : h id <;> rw [e] at this <;> simp_all [HO.peek, renO]
      · simp only [Ctx.ren, hf]; exact hr.2
  | sl o xs =>
    cases o with
    | tag t =>
      simp only [ren0]
      cases hg : g t with
      | none => exact hr.1
      | some n =>
        have hf := (hfg n t).2 hg
        refine ⟨hr.1, ?_⟩
        have h2 := hr.2
        simp only [renH, hf, Ctx.ren]
        cases e : h t <;> rw [e] at h2 <;> simp_all [renO]
    | zero => exact hr
    | no => exact hr
    | own e s => exact hr
    | fown e s => exact hr
  | fn q caps =>
    obtain ⟨us, e, hl, hc⟩ := hr
    refine ⟨us, e, by simpa using hl, fun j x hx => ?_⟩
    rw [List.getElem?_map] at hx
    obtain ⟨z, hz, rfl⟩ := Option.map_eq_some_iff.1 hx
    exact repC_ren hfg (hc j z hz)
  | fs t =>
    simp only [ren0]
    cases hg : g t with
    | none => exact Rep.any u
    | some n =>
      have hf := (hfg n t).2 hg
      obtain ⟨h1, h2, h3⟩ := hr
      refine ⟨h1, by simp only [Ctx.ren, hf]; exact h2, ?_⟩
      simp only [renH, hf]
      cases e : h t <;> rw [e] at h3 <;> first | exact h3.elim | trivial
  | ms id lo m c sz =>
    simp only [ren0]
    cases hg : g id with
    | none => exact Rep.any u
    | some n =>
      have hf := (hfg n id).2 hg
      refine ⟨?_, ?_⟩
      · have := hr.1
        simp only [renH, hf]
        cases e : h id <;> rw [e] at this <;> simp_all [HO.peek, renO]
      · simp only [Ctx.ren, hf]; exact hr.2
  | mp id off =>
    simp only [ren0]
    cases hg : g id with
    | none => exact Rep.any u
    | some n =>
      have hf := (hfg n id).2 hg
      refine ⟨?_, ?_⟩
      · have := hr.1
        simp only [renH, hf]
        cases e : h id <;> rw [e] at this <;> simp_all [HO.peek, renO]
      · simp only [Ctx.ren, hf]; exact hr.2
  | _ => exact hr
theorem repG_ren {cs : List AV} {us : List Value} (hc : ∀ j x, cs[j]? = some x → RepT0 C W h x (us.getD j Go.undef)) :
    ∀ j x, (cs.map (ren0 g))[j]? = some x → RepT0 (C.ren f) W (renH f g h) x (us.getD j Go.undef) := fun j x hx => by
  rw [List.getElem?_map] at hx
  obtain ⟨z, hz, rfl⟩ := Option.map_eq_some_iff.1 hx
  exact rep0_ren hfg (hc j z hz)
theorem rep1_ren {x : AV} {u : Value} (hr : RepT C W h x u) : RepT (C.ren f) W (renH f g h) (ren1 g x) u := by
  cases x with
  | ag cs =>
    obtain ⟨us, e, hl, hc⟩ := hr
    exact ⟨us, e, by simpa using hl, repG_ren hfg hc⟩
  | tup cs =>
    obtain ⟨us, e, hl, hc⟩ := hr
    refine ⟨us, e, by simpa using hl, fun j x hx => ?_⟩
    rw [List.getElem?_map] at hx
    obtain ⟨z, hz, rfl⟩ := Option.map_eq_some_iff.1 hx
    have := hc j z hz
    cases z with
    | ag cs' =>
      obtain ⟨us', e', hl', hc'⟩ := this
      exact ⟨us', e', by simpa using hl', repG_ren hfg hc'⟩
    | op id off =>
      have k := rep0_ren hfg (x := .op id off) this
      simp only [renT]
      revert k
      simp only [ren0]
      cases g id <;> exact fun k => k
    | sl o xs =>
      have k := rep0_ren hfg (x := .sl o xs) this
      simp only [renT]
      revert k
      cases o with
      | tag t => simp only [ren0]; cases g t <;> exact fun k => k
      | _ => exact fun k => k
    | fn q caps => exact rep0_ren hfg (x := .fn q caps) this
    | fs t =>
      have k := rep0_ren hfg (x := .fs t) this
      simp only [renT]
      revert k
      simp only [ren0]
      cases g t <;> exact fun k => k
    | ms id lo m c sz =>
      have k := rep0_ren hfg (x := .ms id lo m c sz) this
      simp only [renT]
      revert k
      simp only [ren0]
      cases g id <;> exact fun k => k
    | mp id off =>
      have k := rep0_ren hfg (x := .mp id off) this
      simp only [renT]
      revert k
      simp only [ren0]
      cases g id <;> exact fun k => k
    | _ => exact this
  | op id off =>
    have k := rep0_ren hfg (W := W) (x := .op id off) hr
    simp only [ren1]
    exact RepT.of_T0 k
  | sl o xs =>
    have k := rep0_ren hfg (x := .sl o xs) hr
    simp only [ren1]
    exact RepT.of_T0 k
  | fn q caps => exact RepT.of_T0 (rep0_ren hfg (x := .fn q caps) hr)
  | fs t =>
    have k := rep0_ren hfg (W := W) (x := .fs t) hr
    simp only [ren1]
    exact RepT.of_T0 k
  | ms id lo m c sz =>
    have k := rep0_ren hfg (W := W) (x := .ms id lo m c sz) hr
    simp only [ren1]
    exact RepT.of_T0 k
  | mp id off =>
    have k := rep0_ren hfg (W := W) (x := .mp id off) hr
    simp only [ren1]
    exact RepT.of_T0 k
  | _ => exact hr
theorem renH_peek {n : Nat} {cs : List AV} (hp : (renH f g h n).peek = some cs) : ∃ m cs0, f n = some m ∧ (h m).peek = some cs0 ∧ cs = cs0.map (ren0 g) := by
  unfold renH at hp
  cases hf : f n with
  | none => rw [hf] at hp; cases hp
  | some m =>
    rw [hf] at hp
    simp only at hp
    cases e : h m <;> rw [e] at hp <;> simp_all [renO, HO.peek]
theorem renH_own {n b : Nat} (ho : (renH f g h n).ownBlock (C.ren f) n = some b) : ∃ m, f n = some m ∧ (h m).ownBlock C m = some b := by
  unfold renH at ho
  cases hf : f n with
  | none => rw [hf] at ho; cases ho
  | some m =>
    rw [hf] at ho
    simp only at ho
    refine ⟨m, rfl, ?_⟩
    have hi : (C.ren f).ι n = C.ι m := by simp [Ctx.ren, hf]
    have ht : (C.ren f).θ n = C.θ m := by simp [Ctx.ren, hf]
    cases e : h m <;> rw [e] at ho <;> simp_all [renO, HO.ownBlock]
theorem Inv.ren (I : Inv P C h W B) : Inv P (C.ren f) (renH f g h) W B := by
  refine ⟨I.has, I.base, fun n cs hp => ?_, fun n cs hb o => ?_, fun n cs hb o ho => ?_, fun n e sz q hl => ?_, fun i j b hi hj => ?_, I.news, fun b hb => ⟨(I.tn b hb).1, fun n ho => ?_⟩, I.mn, I.ss, I.tb, fun n e sz xs hl => (by
    unfold renH at hl
    cases hf : f n with
    | none => rw [hf] at hl; cases hl
    | some m =>
      rw [hf] at hl
      simp only at hl
      have ht : (C.ren f).θ n = C.θ m := by simp [Ctx.ren, hf]
      rw [ht]
      refine I.fr m e sz xs ?_
      cases e : h m <;> rw [e] at hl <;> simp_all [renO])⟩
  rotate_right
  · obtain ⟨m, _, h1⟩ := renH_own hfg ho
    exact (I.tn b hb).2 m h1
  · obtain ⟨m, cs0, hf, hp0, rfl⟩ := renH_peek hfg hp
    obtain ⟨us, ty, h1, h2, h3, h4⟩ := I.box m cs0 hp0
    have hi : (C.ren f).ι n = C.ι m := by simp [Ctx.ren, hf]
    rw [hi]
    exact ⟨us, ty, h1, by simpa using h2, h3, repG_ren hfg h4⟩
  · unfold renH at hb
    cases hf : f n with
    | none => rw [hf] at hb; cases hb
    | some m =>
      rw [hf] at hb
      simp only at hb
      have hi : (C.ren f).ι n = C.ι m := by simp [Ctx.ren, hf]
      rw [hi]
      cases e : h m <;> rw [e] at hb <;> simp only [renO] at hb <;> first | (cases hb; done) | exact I.unsealed m _ e o
  · unfold renH at hb
    cases hf : f n with
    | none => rw [hf] at hb; cases hb
    | some m =>
      rw [hf] at hb
      simp only at hb
      have hi : (C.ren f).ι n = C.ι m := by simp [Ctx.ren, hf]
      rw [hi]
      cases e : h m <;> rw [e] at hb <;> simp only [renO] at hb <;> try (cases hb; done)
      injection hb with hb
      refine I.isSealed m _ e o ?_
      rw [← hb] at ho
      simpa using ho
  · unfold renH at hl
    cases hf : f n with
    | none => rw [hf] at hl; cases hl
    | some m =>
      rw [hf] at hl
      simp only at hl
      have ht : (C.ren f).θ n = C.θ m := by simp [Ctx.ren, hf]
      rw [ht]
      refine I.live m e sz q ?_
      cases e : h m <;> rw [e] at hl <;> simp_all [renO]
  · obtain ⟨m, hf, h1⟩ := renH_own hfg hi
    obtain ⟨m', hf', h1'⟩ := renH_own hfg hj
    have := I.apart m m' b h1 h1'
    subst this
    have a1 := (hfg i m).1 hf
    have a2 := (hfg j m).1 hf'
    rw [a1] at a2
    simpa using a2
end
/-- The state under other numbers, some of it forgotten. -/
def RenOk (σ σ' : St) : Prop :=
  ∃ f g : Nat → Option Nat, (∀ n m, f n = some m ↔ g m = some n) ∧ (∀ n, σ'.t n = .bad ∨ σ'.t n = ren1 g (σ.t n)) ∧ (∀ n, σ'.s n = .bad ∨ σ'.s n = ren1 g (σ.s n)) ∧ (∀ n, σ'.h n = renH f g σ.h n) ∧ (∀ q, σ'.h (σ'.k + q) = .none) ∧ σ'.y = σ.y
/-- A slice without any room is taken in as the newest view of no block at all. -/
def zT (σ : St) (d e sz : Nat) : St := ⟨fun n => match Nat.beq n d with | true => .sl (.tag σ.k) [] | false => σ.t n, upd σ.h σ.k (.live e sz 0), σ.k + 1, σ.s, σ.y⟩
def zF (σ : St) (d e sz : Nat) : St := ⟨fun n => match Nat.beq n d with | true => .fs σ.k | false => σ.t n, upd σ.h σ.k (.fresh e sz []), σ.k + 1, σ.s, σ.y⟩
def zC (σ : St) (id : Nat) (cs : List AV) (e sz : Nat) : St := ⟨σ.t, upd (upd σ.h σ.k (.live e sz 0)) id (.box cs), σ.k + 1, σ.s, σ.y⟩
inductive Rn (P : Program) : St → St → Prop
  | refl (σ : St) : Rn P σ σ
  | ren {σ σ' σ'' : St} : RenOk σ σ' → Rn P σ' σ'' → Rn P σ σ''
  | zt {σ σ'' : St} (d e : Nat) : σ.t d = .sl .zero [] → Rn P (zT σ d e (P.cellsOf e)) σ'' → Rn P σ σ''
  | zf {σ σ'' : St} (d e : Nat) : σ.t d = .sl .zero [] → 0 < P.cellsOf e → Rn P (zF σ d e (P.cellsOf e)) σ'' → Rn P σ σ''
  | zc {σ σ'' : St} (id j e : Nat) (cs : List AV) : σ.h id = .box cs → cs[j]? = some (.sl .zero []) → Rn P (zC σ id (cs.set j (.sl (.tag σ.k) [])) e (P.cellsOf e)) σ'' → Rn P σ σ''
theorem OK.ren1 {P : Program} {B N : Nat} {C : Ctx} {a : Act} {W : World} {σ σ' : St} (S : OK P B N C σ.t σ.h a W) (hr : RenOk σ σ') :
    ∃ C', OK P B N C' σ'.t σ'.h a W ∧ (∀ q, σ'.h (σ'.k + q) = .none) ∧ C'.S = C.S ∧ C'.S0 = C.S0 ∧ (C'.T = C.T ∧ C'.M = C.M) ∧ (∀ keep : Nat → Value, Kp C W σ.h σ.s keep → Kp C' W σ'.h σ'.s keep) := by
  obtain ⟨f, g, hfg, ht, hs, hh, hk, _⟩ := hr
  have e : σ'.h = renH f g σ.h := funext hh
  refine ⟨C.ren f, ⟨fun x => ?_, by rw [e]; exact S.inv.ren hfg, S.size, S.defers⟩, hk, rfl, rfl, ⟨rfl, rfl⟩, fun keep hkp x => ?_⟩
  · rcases ht x with h1 | h1
    · rw [h1]; exact Rep.any _
    · rw [h1, e]; exact rep1_ren hfg (S.rep x)
  · rcases hs x with h1 | h1
    · rw [h1]; exact Rep.any _
    · rw [h1, e]; exact rep1_ren hfg (hkp x)
theorem OK.adopt {P : Program} {B N : Nat} {C : Ctx} {a : Act} {W : World} {t : Nat → AV} {h : AHeap} {k : Nat} (S : OK P B N C t h a W) (hf : ∀ q, h (k + q) = .none) (e : Nat) (A : Option Addr) :
    ∃ C' : Ctx, C'.S = C.S ∧ C'.S0 = C.S0 ∧ (C'.T = C.T ∧ C'.M = C.M) ∧ C'.θ k = .slice A 0 0 ∧ Inv P C' (upd h k (.live e (P.cellsOf e) 0)) W B ∧ Le C h W C' (upd h k (.live e (P.cellsOf e) 0)) W := by
  obtain ⟨I', l⟩ := S.inv.newLive (i := k) (hf 0) e 0 (.slice A 0 0) (.inl ⟨rfl, A, rfl⟩) (fun g hg => by cases A <;> cases hg)
  exact ⟨{ C with θ := fun j => if j = k then .slice A 0 0 else C.θ j }, rfl, rfl, ⟨rfl, rfl⟩, by simp, I', l⟩
theorem OK.zt {P : Program} {B N : Nat} {C : Ctx} {a : Act} {W : World} {σ : St} (S : OK P B N C σ.t σ.h a W) (hf : ∀ q, σ.h (σ.k + q) = .none) (d e : Nat) (hd : σ.t d = .sl .zero []) :
    ∃ C', OK P B N C' (zT σ d e (P.cellsOf e)).t (zT σ d e (P.cellsOf e)).h a W ∧ (∀ q, (zT σ d e (P.cellsOf e)).h ((zT σ d e (P.cellsOf e)).k + q) = .none) ∧ C'.S = C.S ∧ C'.S0 = C.S0 ∧ (C'.T = C.T ∧ C'.M = C.M) ∧ (∀ keep : Nat → Value, Kp C W σ.h σ.s keep → Kp C' W (zT σ d e (P.cellsOf e)).h (zT σ d e (P.cellsOf e)).s keep) := by
  have hr := S.rep d
  rw [hd] at hr
  obtain ⟨_, A, hA⟩ := hr
  obtain ⟨C', e1, e2, eT, e3, I', l⟩ := S.adopt hf e A
  refine ⟨C', ⟨fun x => ?_, I', S.size, S.defers.kept eT.2 (fun _ _ => rfl)⟩, fun q => ?_, e1, e2, eT, fun keep hkp x => (hkp x).le l⟩
  · simp only [zT]
    split
    · rename_i hb
      rw [Nat.eq_of_beq_eq_true hb, hA]
      refine ⟨.slE A 0, ?_⟩
      show (match (upd σ.h σ.k (.live e (P.cellsOf e) 0)) σ.k with | .live _ sz n => _ | .dead => True | _ => False)
      rw [upd_self]
      exact ⟨rfl, e3.symm, by simp⟩
    · exact (S.rep x).le l
  · simp only [zT]
    rw [upd_ne _ (by omega), show σ.k + 1 + q = σ.k + (1 + q) by omega]
    exact hf _
theorem OK.zf {P : Program} {B N : Nat} {C : Ctx} {a : Act} {W : World} {σ : St} (S : OK P B N C σ.t σ.h a W) (hf : ∀ q, σ.h (σ.k + q) = .none) (d e : Nat) (hd : σ.t d = .sl .zero []) (hp : 0 < P.cellsOf e) :
    ∃ C', OK P B N C' (zF σ d e (P.cellsOf e)).t (zF σ d e (P.cellsOf e)).h a W ∧ (∀ q, (zF σ d e (P.cellsOf e)).h ((zF σ d e (P.cellsOf e)).k + q) = .none) ∧ C'.S = C.S ∧ C'.S0 = C.S0 ∧ (C'.T = C.T ∧ C'.M = C.M) ∧ (∀ keep : Nat → Value, Kp C W σ.h σ.s keep → Kp C' W (zF σ d e (P.cellsOf e)).h (zF σ d e (P.cellsOf e)).s keep) := by
  have hr := S.rep d
  rw [hd] at hr
  obtain ⟨_, A, hA⟩ := hr
  have hi : σ.h σ.k = .none := hf 0
  obtain ⟨I', l⟩ := S.inv.newFresh (i := σ.k) hi (e := e) (sz := P.cellsOf e) (xs := []) (v := .slice A 0 0) ⟨rfl, hp, by simp, .inl ⟨rfl, A, rfl⟩⟩ (fun g hg => by cases A <;> cases hg)
  refine ⟨{ C with θ := fun j => if j = σ.k then .slice A 0 0 else C.θ j }, ⟨fun x => ?_, I', S.size, S.defers.kept rfl (fun _ _ => rfl)⟩, fun q => ?_, rfl, rfl, ⟨rfl, rfl⟩, fun keep hkp x => (hkp x).le l⟩
  · simp only [zF]
    split
    · rename_i hb
      rw [Nat.eq_of_beq_eq_true hb, hA]
      refine ⟨rfl, by simp, ?_⟩
      show (match (upd σ.h σ.k (.fresh e (P.cellsOf e) [])) σ.k with | .fresh _ _ _ => True | .dead => True | _ => False)
      rw [upd_self]
      trivial
    · exact (S.rep x).le l
  · simp only [zF]
    rw [upd_ne _ (by omega), show σ.k + 1 + q = σ.k + (1 + q) by omega]
    exact hf _
theorem OK.zc {P : Program} {B N : Nat} {C : Ctx} {a : Act} {W : World} {σ : St} (S : OK P B N C σ.t σ.h a W) (hf : ∀ q, σ.h (σ.k + q) = .none) (id j e : Nat) (cs : List AV) (hid : σ.h id = .box cs) (hj : cs[j]? = some (.sl .zero [])) :
    ∃ C', OK P B N C' (zC σ id (cs.set j (.sl (.tag σ.k) [])) e (P.cellsOf e)).t (zC σ id (cs.set j (.sl (.tag σ.k) [])) e (P.cellsOf e)).h a W ∧
      (∀ q, (zC σ id (cs.set j (.sl (.tag σ.k) [])) e (P.cellsOf e)).h ((zC σ id (cs.set j (.sl (.tag σ.k) [])) e (P.cellsOf e)).k + q) = .none) ∧ C'.S = C.S ∧ C'.S0 = C.S0 ∧ (C'.T = C.T ∧ C'.M = C.M) ∧ (∀ keep : Nat → Value, Kp C W σ.h σ.s keep → Kp C' W (zC σ id (cs.set j (.sl (.tag σ.k) [])) e (P.cellsOf e)).h σ.s keep) := by
  obtain ⟨us, ty, h1, h2, h3, h4⟩ := S.inv.box id cs (by rw [hid]; rfl)
  obtain ⟨_, A, hA⟩ := h4 j _ hj
  obtain ⟨C', e1, e2, eT, e3, I', l⟩ := S.adopt hf e A
  have hne : id ≠ σ.k := fun e => by have := hf 0; rw [Nat.add_zero, ← e, hid] at this; cases this
  have hid' : (upd σ.h σ.k (.live e (P.cellsOf e) 0)) id = .box cs := by rw [upd_ne _ hne]; exact hid
  have hio : C'.ι id = C.ι id := l.io id (by rw [hid]; simp)
  obtain ⟨us', ty', g1, g2, g3, g4⟩ := I'.box id cs (by rw [hid']; rfl)
  have hus : us' = us := by
    rw [hio, h1] at g1
    simp only [Option.some.injEq, Obj.cells.injEq] at g1
    have := g1.1
    simpa using this.symm
  -- the one place
  have main : Inv P C' (upd (upd σ.h σ.k (.live e (P.cellsOf e) 0)) id (.box (cs.set j (.sl (.tag σ.k) [])))) W B ∧ Le C' (upd σ.h σ.k (.live e (P.cellsOf e) 0)) W C' (upd (upd σ.h σ.k (.live e (P.cellsOf e) 0)) id (.box (cs.set j (.sl (.tag σ.k) [])))) W := by
    have l2 : Le C' (upd σ.h σ.k (.live e (P.cellsOf e) 0)) W C' (upd (upd σ.h σ.k (.live e (P.cellsOf e) 0)) id (.box (cs.set j (.sl (.tag σ.k) [])))) W := by
      refine ⟨fun _ _ h => h, fun _ _ _ => rfl, fun k => ?_, fun _ _ => rfl, fun _ _ => rfl, rfl, rfl, rfl, fun _ _ => rfl, fun _ _ h => .inl h⟩
      by_cases e : k = id
      · subst e; rw [upd_self, hid']; simp [HOle]
      · rw [upd_ne _ e]; exact HOle.refl _
    have key : ∀ a x, (upd (upd σ.h σ.k (.live e (P.cellsOf e) 0)) id (.box (cs.set j (.sl (.tag σ.k) []))) a).ownBlock C' a = some x → ((upd σ.h σ.k (.live e (P.cellsOf e) 0)) a).ownBlock C' a = some x := fun a x ha => by
      by_cases e : a = id
      · subst e; rw [upd_self] at ha; rw [hid']; exact ha
      · rw [upd_ne _ e] at ha; exact ha
    refine ⟨⟨I'.has, I'.base, fun k cs2 hp => ?_, fun k cs2 hp => ?_, fun k cs2 hp => ?_, fun t e2 sz n ht => ?_, fun a b x ha hb => I'.apart a b x (key a x ha) (key b x hb), I'.news, fun b hb => ⟨(I'.tn b hb).1, fun id ho => (I'.tn b hb).2 id (key id b ho)⟩, I'.mn, I'.ss, I'.tb, fun t e sz xs ht => (by
      have e' : t ≠ id := fun e' => by subst e'; rw [upd_self] at ht; cases ht
      rw [upd_ne _ e'] at ht
      exact I'.fr t e sz xs ht)⟩, l2⟩
    · by_cases ek : k = id
      · subst ek
        rw [upd_self] at hp
        simp only [HO.peek, Option.some.injEq] at hp
        subst hp
        refine ⟨us', ty', g1, by simpa using g2, g3, fun q x hx => ?_⟩
        rw [List.getElem?_set] at hx
        split at hx
        · rename_i hq
          subst hq
          split at hx
          · simp only [Option.some.injEq] at hx
            subst hx
            rw [hus, hA]
            refine ⟨.slE A 0, ?_⟩
            show (match (upd (upd σ.h σ.k (.live e (P.cellsOf e) 0)) k (.box (cs.set j (.sl (.tag σ.k) [])))) σ.k with | .live _ sz n => _ | .dead => True | _ => False)
            rw [upd_ne _ (Ne.symm hne), upd_self]
            exact ⟨rfl, e3.symm, by simp⟩
          · cases hx
        · exact (g4 q x hx).le l2
      · rw [upd_ne _ ek] at hp
        obtain ⟨us2, ty2, k1, k2, k3, k4⟩ := I'.box k cs2 hp
        exact ⟨us2, ty2, k1, k2, k3, fun j x hx => (k4 j x hx).le l2⟩
    · by_cases ek : k = id
      · subst ek; exact I'.unsealed k cs hid'
      · rw [upd_ne _ ek] at hp; exact I'.unsealed k cs2 hp
    · by_cases ek : k = id
      · subst ek; rw [upd_self] at hp; cases hp
      · rw [upd_ne _ ek] at hp; exact I'.isSealed k cs2 hp
    · have e' : t ≠ id := fun e' => by subst e'; rw [upd_self] at ht; cases ht
      rw [upd_ne _ e'] at ht
      exact I'.live t e2 sz n ht
  refine ⟨C', ⟨fun x => ((S.rep x).le l).le main.2, main.1, S.size, S.defers.kept eT.2 (fun _ _ => rfl)⟩, fun q => ?_, e1, e2, eT, fun keep hkp x => ((hkp x).le l).le main.2⟩
  show upd (upd σ.h σ.k (.live e (P.cellsOf e) 0)) id _ (σ.k + 1 + q) = .none
  have hn1 : σ.h (σ.k + 1 + q) = .none := by rw [show σ.k + 1 + q = σ.k + (1 + q) by omega]; exact hf _
  have hn2 : σ.k + 1 + q ≠ id := fun e => by rw [e, hid] at hn1; cases hn1
  rw [upd_ne _ hn2, upd_ne _ (by omega)]
  exact hn1
theorem Rn.y {P : Program} {σ σ' : St} (hr : Rn P σ σ') : σ'.y = σ.y := by
  induction hr with
  | refl σ => rfl
  | ren h1 _ ih => obtain ⟨f, g, _, _, _, _, _, e⟩ := h1; exact ih.trans e
  | zt d e hd _ ih => exact ih
  | zf d e hd hp _ ih => exact ih
  | zc id j e cs hid hj _ ih => exact ih
theorem OK.ren {P : Program} {B N : Nat} {a : Act} {W : World} {σ σ' : St} (hr : Rn P σ σ') : ∀ {C : Ctx}, OK P B N C σ.t σ.h a W → (∀ q, σ.h (σ.k + q) = .none) →
    ∃ C', OK P B N C' σ'.t σ'.h a W ∧ (∀ q, σ'.h (σ'.k + q) = .none) ∧ C'.S = C.S ∧ C'.S0 = C.S0 ∧ (C'.T = C.T ∧ C'.M = C.M) ∧ (∀ keep : Nat → Value, Kp C W σ.h σ.s keep → Kp C' W σ'.h σ'.s keep) := by
  induction hr with
  | refl σ => intro C S hf; exact ⟨C, S, hf, rfl, rfl, ⟨rfl, rfl⟩, fun _ h => h⟩
  | ren h1 _ ih =>
    intro C S hf
    obtain ⟨C1, S1, f1, a1, b1, t1, k1⟩ := S.ren1 h1
    obtain ⟨C2, S2, f2, a2, b2, t2, k2⟩ := ih S1 f1
    exact ⟨C2, S2, f2, a2.trans a1, b2.trans b1, ⟨t2.1.trans t1.1, t2.2.trans t1.2⟩, fun keep h => k2 keep (k1 keep h)⟩
  | zt d e hd _ ih =>
    intro C S hf
    obtain ⟨C1, S1, f1, a1, b1, t1, k1⟩ := S.zt hf d e hd
    obtain ⟨C2, S2, f2, a2, b2, t2, k2⟩ := ih S1 f1
    exact ⟨C2, S2, f2, a2.trans a1, b2.trans b1, ⟨t2.1.trans t1.1, t2.2.trans t1.2⟩, fun keep h => k2 keep (k1 keep h)⟩
  | zf d e hd hp _ ih =>
    intro C S hf
    obtain ⟨C1, S1, f1, a1, b1, t1, k1⟩ := S.zf hf d e hd hp
    obtain ⟨C2, S2, f2, a2, b2, t2, k2⟩ := ih S1 f1
    exact ⟨C2, S2, f2, a2.trans a1, b2.trans b1, ⟨t2.1.trans t1.1, t2.2.trans t1.2⟩, fun keep h => k2 keep (k1 keep h)⟩
  | zc id j e cs hid hj _ ih =>
    intro C S hf
    obtain ⟨C1, S1, f1, a1, b1, t1, k1⟩ := S.zc hf id j e cs hid hj
    obtain ⟨C2, S2, f2, a2, b2, t2, k2⟩ := ih S1 f1
    exact ⟨C2, S2, f2, a2.trans a1, b2.trans b1, ⟨t2.1.trans t1.1, t2.2.trans t1.2⟩, fun keep h => k2 keep (k1 keep h)⟩
inductive AE where
  | normal
  | exit (id : Nat)
  | ret
  deriving DecidableEq
/-- No range over a function is in it. -/
def noRF : Code → Bool
  | .seq a b => noRF a && noRF b
  | .cond _ a b => noRF a && noRF b
  | .block _ c => noRF c
  | .loop c => noRF c
  | .rangeFunc _ _ _ _ => false
  | _ => true
/-- The checks of a text: its temporaries are there, its drawn statements may be taken in the text's order (X: those in which two operations might clash by memory). -/
def codeOk (N : Nat) (X : List Nat) : Code → Bool
  | .skip | .exit _ | .ret => true
  | .region id ops draw => dstsOk N ops && (!draw || (drawOk ops && (X.contains id || (clashes ops).isEmpty)))
  | .seq a b => codeOk N X a && codeOk N X b
  | .cond _ a b => codeOk N X a && codeOk N X b
  | .block _ c => codeOk N X c
  | .loop c => codeOk N X c
  | .rangeFunc _ ps a b => noRF a && noRF b && (ps.toList.all fun p => decide (p < N)) && codeOk N X a && codeOk N X b
  | _ => false
/-- An iterator's contract: handed a yield, it yields these, one after the other, till yield says no. D: what is the caller's own, G: what the caller carries along. -/
def IterS (P : Program) (g : FuncId) (caps : List AV) (xs : List (List AV)) : Prop :=
  ∀ (B : Nat) (S : Nat → Nat → Prop) (W : World) (us : List Value) (l : Nat) (D0 : Nat → Prop) (G : Option (List (List AV)) → (Nat → Prop) → (Nat → Nat → Prop) → World → Prop),
    TabB P B W → (∀ b o, S b o → (W.cell? ⟨b, o, none⟩).isSome = true) → B ≤ W.heap.size → (∀ b, D0 b → b < W.heap.size) → us.length = caps.length → (∀ j x, caps[j]? = some x → Rep S W x (us.getD j Go.undef)) →
    (∀ y D S1 W1 S2 W2, G y D S1 W1 → Keeps D B S1 W1 S2 W2 → G y D S2 W2) →
    (∀ x rest D S1 W1 (vs : List Value), G (some (x :: rest)) D S1 W1 → (∀ b o, S1 b o → (W1.cell? ⟨b, o, none⟩).isSome = true) → (∀ b, D b → b < W1.heap.size) →
      vs.length = x.length → (∀ j z, x[j]? = some z → Rep S1 W1 z (vs.getD j Go.undef)) →
      YieldAt Fence.wide 0 P l vs.toArray W1 fun e W2 => ∃ b D2 S2, e = .returned (.bool b) ∧ Keeps (fun q => q < W1.heap.size ∧ ¬ D q) B S1 W1 S2 W2 ∧ (∀ q, D2 q → (D q ∨ W1.heap.size ≤ q) ∧ q < W2.heap.size) ∧ G (if b then some rest else none) D2 S2 W2) →
    G (some xs) D0 S W →
    Calls P g (#[.func (.yield l) #[] #[]] ++ us.toArray) W fun e W' => (∃ v, e = .returned v) ∧ ∃ D' S', G (some []) D' S' W' ∨ G none D' S' W'
def bindA (ps : List Tmp) (x : List AV) (t : Nat → AV) : Nat → AV := (ps.zip x).foldl (fun t p => fun n => if n = p.1 then p.2 else t n) t
def roundA (P : Program) (J : St → Prop) (Q : AE → St → Prop) : AE → St → Prop
  | .normal, σ => ∃ σ2, Rn P σ σ2 ∧ J σ2
  | e, σ => Q e ⟨σ.s, σ.h, σ.k, fun _ => .bad, σ.y⟩
def assignA (next : St → Prop) : AE → St → Prop
  | .normal, σ => next σ
  | _, _ => False
def thenA (next : St → Prop) (Q : AE → St → Prop) : AE → St → Prop
  | .normal, σ => next σ
  | e, σ => Q e σ
def blockA (id : Nat) (Q : AE → St → Prop) : AE → St → Prop
  | .exit id', σ => if id' = id then Q .normal σ else Q (.exit id') σ
  | e, σ => Q e σ
def WP (P : Program) (X : List Nat) : Code → (AE → St → Prop) → St → Prop
  | .skip, Q, σ => Q .normal σ
  | .region id ops draw, Q, σ =>
    if draw = true then
      opsD P ops σ.k ops.toList 0 (fun rs t h => (id ∈ X → ∀ p ∈ clashes ops, ∀ x ∈ (fnOf rs p.1).fp, x ∉ (fnOf rs p.2).fp) ∧ Q .normal ⟨t, h, σ.k + ops.size, σ.s, σ.y⟩) σ.t σ.h ∨
      ∃ p, cutAt ops p = true ∧ opsD P ops σ.k (ops.toList.take p) 0 (fun rs t h => (id ∈ X → ∀ p ∈ clashes ops, ∀ x ∈ (fnOf rs p.1).fp, x ∉ (fnOf rs p.2).fp) ∧
          opsR P ops σ.k (ops.toList.drop p) p (fun t h y => Q .normal ⟨t, h, σ.k + ops.size, σ.s, y⟩) t h σ.y) σ.t σ.h
    else opsR P ops σ.k ops.toList 0 (fun t h y => Q .normal ⟨t, h, σ.k + ops.size, σ.s, y⟩) σ.t σ.h σ.y
  | .seq a b, Q, σ => WP P X a (thenA (fun σ1 => ∃ σ2, Rn P σ1 σ2 ∧ WP P X b Q σ2) Q) σ
  | .cond c a b, Q, σ => match evA σ.t c with
    | .bool q => (q = true → WP P X a Q σ) ∧ (q = false → WP P X b Q σ)
    | _ => False
  | .block id c, Q, σ => WP P X c (blockA id Q) σ
  | .loop c, Q, σ => ∃ (I : Nat → St → Prop) (n : Nat) (σ0 : St), Rn P σ σ0 ∧ I n σ0 ∧ ∀ m σ', I m σ' → WP P X c (thenA (fun σ'' => ∃ q σ3, q < m ∧ Rn P σ'' σ3 ∧ I q σ3) Q) σ'
  | .exit id, Q, σ => Q (.exit id) σ
  | .ret, Q, σ => Q .ret σ
  | .rangeFunc f ps assign body, Q, σ => ∃ g caps az ids xs, evA σ.t f = .fn g caps ∧ passCs σ.h caps = some (az, ids) ∧ IterS P g az xs ∧ (∀ x ∈ xs, x.length = ps.size) ∧
      (∃ fn c, P.funcs[g]? = some fn ∧ fn.body = some c ∧ fn.name ≠ "runtime.NumGoroutine") ∧
      ∃ (J : Nat → St → Prop) (σ0 : St), Rn P ⟨σ.t, sealH σ.h ids, σ.k, σ.t, σ.y⟩ σ0 ∧ J 0 σ0 ∧
      (∀ i x σ', J i σ' → xs[i]? = some x → WP P X assign (assignA fun σ2 => WP P X body (roundA P (J (i + 1)) Q) σ2) ⟨bindA ps.toList x σ'.s, σ'.h, σ'.k, σ'.s, σ'.y⟩) ∧
      (∀ σ', J xs.length σ' → Q .normal ⟨σ'.s, σ'.h, σ'.k, fun _ => .bad, σ'.y⟩)
  | _, _, _ => False
theorem thenA_mono {n n' : St → Prop} {Q Q' : AE → St → Prop} (hn : ∀ σ, n σ → n' σ) (hQ : ∀ e σ, Q e σ → Q' e σ) : ∀ e σ, thenA n Q e σ → thenA n' Q' e σ := by
  intro e σ h; cases e
  · exact hn σ h
  · exact hQ _ σ h
  · exact hQ _ σ h
theorem blockA_mono {id : Nat} {Q Q' : AE → St → Prop} (hQ : ∀ e σ, Q e σ → Q' e σ) : ∀ e σ, blockA id Q e σ → blockA id Q' e σ := by
  intro e σ h; cases e
  · exact hQ _ σ h
  · simp only [blockA] at h ⊢; split at h
    · rename_i e; rw [if_pos e]; exact hQ _ σ h
    · rename_i e; rw [if_neg e]; exact hQ _ σ h
  · exact hQ _ σ h
theorem WP_mono {P : Program} {X : List Nat} : ∀ (c : Code) {Q Q' : AE → St → Prop} {σ : St}, (∀ e σ, Q e σ → Q' e σ) → WP P X c Q σ → WP P X c Q' σ := by
  intro c
  induction c with
  | skip => intro Q Q' σ hQ h; exact hQ _ _ h
  | region id ops draw =>
    intro Q Q' σ hQ h
    simp only [WP] at h ⊢
    split at h
    · rename_i e
      rw [if_pos e]
      rcases h with h | ⟨p, hp, h⟩
      · exact .inl (opsD_mono _ _ _ _ (fun rs t h hh => ⟨hh.1, hQ _ _ hh.2⟩) h)
      · exact .inr ⟨p, hp, opsD_mono _ _ _ _ (fun rs t h hh => ⟨hh.1, opsR_mono (fun t h y hh => hQ _ _ hh) _ _ _ _ _ hh.2⟩) h⟩
    · rename_i e
      rw [if_neg e]
      exact opsR_mono (fun t h y hh => hQ _ _ hh) _ _ _ _ _ h
  | seq a b iha ihb => intro Q Q' σ hQ h; exact iha (thenA_mono (fun σ h => by obtain ⟨σ2, h1, h2⟩ := h; exact ⟨σ2, h1, ihb hQ h2⟩) hQ) h
  | cond c a b iha ihb =>
    intro Q Q' σ hQ h
    simp only [WP] at h ⊢
    split at h
    · exact ⟨fun e => iha hQ (h.1 e), fun e => ihb hQ (h.2 e)⟩
    · exact h.elim
  | block id c ih => intro Q Q' σ hQ h; exact ih (blockA_mono hQ) h
  | loop c ih =>
    intro Q Q' σ hQ h
    obtain ⟨I, n, σ0, hn, h0, hr⟩ := h
    exact ⟨I, n, σ0, hn, h0, fun m σ' hm => ih (thenA_mono (fun _ h => h) hQ) (hr m σ' hm)⟩
  | exit id => intro Q Q' σ hQ h; exact hQ _ _ h
  | ret => intro Q Q' σ hQ h; exact hQ _ _ h
  | rangeFunc f ps assign body iha ihb =>
    intro Q Q' σ hQ h
    obtain ⟨g, caps, az, ids, xs, h1, h2, h3, h4, h5, J, σ0, h6, h7, h8, h9⟩ := h
    refine ⟨g, caps, az, ids, xs, h1, h2, h3, h4, h5, J, σ0, h6, h7, fun i x σ' hJ hx => ?_, fun σ' hJ => hQ _ _ (h9 σ' hJ)⟩
    refine iha ?_ (h8 i x σ' hJ hx)
    intro e σ2 hq
    cases e with
    | normal => exact ihb (fun e σ3 hq => by cases e <;> first | exact hq | exact hQ _ _ hq) hq
    | exit id => exact hq.elim
    | ret => exact hq.elim
  | _ => intro Q Q' σ hQ h; exact h.elim
/-- A loop, by what holds at every round's head. -/
theorem WP_loop {P : Program} {X : List Nat} {c : Code} {Q : AE → St → Prop} (I : Nat → St → Prop) {n : Nat} {σ σ0 : St} (hn : Rn P σ σ0) (h0 : I n σ0)
    (hr : ∀ n σ, I n σ → WP P X c (thenA (fun σ' => ∃ m σ3, m < n ∧ Rn P σ' σ3 ∧ I m σ3) Q) σ) : WP P X (.loop c) Q σ := ⟨I, n, σ0, hn, h0, hr⟩
def AE.toExit : AE → Exit
  | .normal => .normal
  | .exit id => .exit id
  | .ret => .ret
/-- What the induction over a text says. -/
abbrev WpOk (P : Program) (B N : Nat) (X : List Nat) (c : Code) : Prop :=
  ∀ (F : Fence) (_ : WideF F) (fuelN : Nat) (keep : Nat → Value) (_ : F.round = none ∨ noRF c = true) (G : Gh) (_ : Ghost P B G) (Q : AE → St → Prop) (σ : St) (C : Ctx) (a : Act) (W : World) (R : Exit → Act → World → Prop), WP P X c Q σ →
    OK P B N C σ.t σ.h a W → (∀ q, σ.h (σ.k + q) = .none) → Kp C W σ.h σ.s keep → G σ.y C W →
    (∀ e σ' C' a' W', Q e σ' → OK P B N C' σ'.t σ'.h a' W' → (∀ q, σ'.h (σ'.k + q) = .none) → Kp C' W' σ'.h σ'.s keep → G σ'.y C' W' → Below B W W' → R e.toExit a' W') → c.wpIn F fuelN P R a W
/-! ### a range over a function -/
def Own (C : Ctx) (h : AHeap) (b : Nat) : Prop := ∃ id, (h id).ownBlock C id = some b
theorem cell_notCells {W : World} {b o : Nat} {ob : Obj} (hb : W.heap[b]? = some ob) (hc : ob.isCells = false) : W.cell? ⟨b, o, none⟩ = none := by
  cases h : W.cell? ⟨b, o, none⟩ with
  | none => rfl
  | some v =>
    obtain ⟨o', h1, h2⟩ := cells_of_cell h
    rw [hb] at h1
    simp only [Option.some.injEq] at h1
    subst h1
    rw [hc] at h2; cases h2
section
variable {P : Program} {B N : Nat} {X : List Nat} {C : Ctx} {h : AHeap} {W : World}
theorem Keeps.putObj {K : Nat → Prop} {S : Nat → Nat → Prop} (hh : ∀ b o, S b o → (W.cell? ⟨b, o, none⟩).isSome = true) {b : Nat} {ob : Obj} (hb : W.heap[b]? = some ob) (hc : ob.isCells = false) (hB : B ≤ b) (hK : ¬ K b) (o' : Obj) :
    Keeps K B S W S (W.putObj b o') := by
  have hcell : ∀ q o, S q o → (W.putObj b o').cell? ⟨q, o, none⟩ = W.cell? ⟨q, o, none⟩ := fun q o hs => by
    have hne : q ≠ b := fun e => by subst e; have := hh q o hs; rw [cell_notCells hb hc] at this; cases this
    exact cell_of_heap (World.putObj_heap_other hne)
  exact ⟨⟨rfl, rfl, rfl, by simp, fun k hk => World.putObj_heap_other (by omega), .inr (Nat.le_refl _)⟩, fun q hq => World.putObj_heap_other (fun e => hK (e ▸ hq)), fun _ _ h => h, hcell, fun _ _ h => .inl h, fun q o hs => by rw [hcell q o hs]; exact hh q o hs⟩
theorem Inv.putObj (I : Inv P C h W B) {b : Nat} {ob : Obj} (hb : W.heap[b]? = some ob) (hc : ob.isCells = false) (hn : ¬ Own C h b) (o' : Obj) : Inv P C h (W.putObj b o') B ∧ Le0 C h W C h (W.putObj b o') := by
  have hcell : ∀ q o, C.S q o → (W.putObj b o').cell? ⟨q, o, none⟩ = W.cell? ⟨q, o, none⟩ := fun q o hs => by
    have hne : q ≠ b := fun e => by subst e; have := I.has q o hs; rw [cell_notCells hb hc] at this; cases this
    exact cell_of_heap (World.putObj_heap_other hne)
  exact I.other ⟨fun k _ ⟨us, ty, fz, hk⟩ => World.putObj_heap_other (fun e => by subst e; rw [hb] at hk; injection hk with hk; subst hk; cases hc), by simp, fun id q ho => World.putObj_heap_other (fun e => hn ⟨id, e ▸ ho⟩), fun _ _ h => h, hcell, fun q o hs => by rw [hcell q o hs]; exact I.has q o hs, fun _ _ h => .inl h, rfl, rfl,
    fun _ _ h => .inl h, rfl, fun q hq => by simpa using I.tn q hq, I.mn⟩
theorem Inv.reT (I : Inv P C h W B) (T M : Nat → Prop) (hT : ∀ b, T b → b < W.heap.size ∧ ¬ Own C h b) (hM : ∀ b, M b → T b ∧ B ≤ b) :
    Inv P { C with T := T, M := M } h W B ∧ Le0 C h W { C with T := T, M := M } h W :=
  I.other ⟨fun _ _ _ => rfl, Nat.le_refl _, fun _ _ _ => rfl, fun _ _ h => h, fun _ _ _ => rfl, I.has, fun _ _ h => .inl h, rfl, rfl, fun _ _ h => .inl h, rfl, fun b hb => ⟨(hT b hb).1, fun id ho => (hT b hb).2 ⟨id, ho⟩⟩, hM⟩
/-- Between two rounds. -/
structure Btw (P : Program) (B : Nat) (M0 : Nat → Prop) (W : World) (G : Gh) (keep : Nat → Value) (C' : Ctx) (σ' : St) (Wx : World) : Prop where
  inv : Inv P C' σ'.h Wx B
  fresh : ∀ q, σ'.h (σ'.k + q) = .none
  kp : Kp C' Wx σ'.h σ'.s keep
  gh : G σ'.y C' Wx
  dk : Wx.heap[W.heap.size]? = some (.deferred (some []))
  mq : ∀ b, M0 b → Wx.heap[b]? = W.heap[b]?
  m : C'.M = M0
  below : Below B W Wx
  td : ∀ b, (b = W.heap.size ∨ b = W.heap.size + 1) → ¬ C'.T b ∧ ¬ Own C' σ'.h b
def dom (C' : Ctx) (h' : AHeap) (W : World) (b : Nat) : Prop := Own C' h' b ∨ (b = W.heap.size ∨ b = W.heap.size + 1) ∨ C'.T b
theorem Btw.other {M0 : Nat → Prop} {G : Gh} (gh : Ghost P B G) {keep : Nat → Value} {C' : Ctx} {σ' : St} {Wx W2 : World} {K : Nat → Prop} {S2 : Nat → Nat → Prop}
    (b : Btw P B M0 W G keep C' σ' Wx) (k : Keeps K B C'.S Wx S2 W2) (hK : ∀ q, dom C' σ'.h W q → K q) : Btw P B M0 W G keep { C' with S := S2 } σ' W2 := by
  obtain ⟨I', l⟩ := b.inv.other (C' := { C' with S := S2 }) (W' := W2) ⟨fun b hb _ => k.below.block b hb, k.below.size, fun id q ho => k.keep q (hK q (.inl ⟨id, ho⟩)), k.clS, k.clW, k.has, fun q o hs => (k.nb q o hs).imp id fun hq id ho => hq.1 (hK q (.inl ⟨id, ho⟩)), rfl, rfl,
    fun q o hs => (k.nb q o hs).imp id And.right, rfl, fun q hq => ⟨Nat.lt_of_lt_of_le (b.inv.tn q hq).1 k.below.size, (b.inv.tn q hq).2⟩, b.inv.mn⟩
  refine ⟨I', b.fresh, fun n => (b.kp n).le0 l, gh.keep _ _ _ _ _ b.gh (Ctx.D_of rfl rfl) (k.sub fun q hq => hK q (.inr (.inr hq.1))), (k.keep _ (hK _ (.inr (.inl (.inl rfl))))).trans b.dk, fun q hq => (k.keep q (hK q (.inr (.inr ?_)))).trans (b.mq q hq), b.m, b.below.trans k.below, b.td⟩
  have := b.inv.mn q (by rw [b.m]; exact hq)
  exact this.1
/-- Within a round. -/
structure Rnd (G : Gh) (B : Nat) (M0 : Nat → Prop) (W Wx : World) (D : Nat → Prop) (S1 : Nat → Nat → Prop) (rcd : Obj) (T' : Nat → Prop) (y : Yt) (C : Ctx) (Wy : World) : Prop where
  gh : G y { C with T := T', M := M0 } Wy
  sub : ∀ b, T' b → C.D b ∧ (D b ∨ Wx.heap.size ≤ b)
  mt : ∀ b, M0 b → T' b ∧ B ≤ b
  bk : ∀ b, (b = W.heap.size ∨ b = W.heap.size + 1) → ¬ T' b ∧ C.D b
  dk : Wy.heap[W.heap.size]? = some (.deferred (some []))
  rc : Wy.heap[W.heap.size + 1]? = some rcd
  oth : ∀ b, b < Wx.heap.size → ¬ D b → C.D b ∧ Wy.heap[b]? = Wx.heap[b]?
  mq : ∀ b, M0 b → Wy.heap[b]? = W.heap[b]?
  below : Below B Wx Wy
  clS : ∀ b o, S1 b o → C.S b o
  clW : ∀ b o, S1 b o → Wy.cell? ⟨b, o, none⟩ = Wx.cell? ⟨b, o, none⟩
  nb : ∀ b o, C.S b o → S1 b o ∨ (¬ (b < Wx.heap.size ∧ ¬ D b) ∧ B ≤ b)
theorem ctx_eta {C : Ctx} {M0 : Nat → Prop} (e : C.M = M0) : ({ C with M := M0 } : Ctx) = C := by cases C; simp at e; subst e; rfl
theorem Rnd.ghost {G : Gh} (g : Ghost P B G) {M0 : Nat → Prop} {W Wx : World} {D : Nat → Prop} {S1 : Nat → Nat → Prop} {rcd : Obj} : Ghost P B (fun y C Wy => ∃ T', Rnd G B M0 W Wx D S1 rcd T' y C Wy) := by
  refine ⟨?_, ?_⟩
  · rintro y C W1 C2 W2 ⟨T', r⟩ hD k
    refine ⟨T', g.keep _ _ _ _ _ r.gh (fun _ => Iff.rfl) (k.sub fun b hb => (r.sub b hb.1).1), fun b hb => ⟨(hD b).2 (r.sub b hb).1, (r.sub b hb).2⟩, r.mt, fun b hb => ⟨(r.bk b hb).1, (hD b).2 (r.bk b hb).2⟩, (k.keep _ (r.bk _ (.inl rfl)).2).trans r.dk, (k.keep _ (r.bk _ (.inr rfl)).2).trans r.rc,
      fun b h1 h2 => ⟨(hD b).2 (r.oth b h1 h2).1, (k.keep b (r.oth b h1 h2).1).trans (r.oth b h1 h2).2⟩, fun b hb => (k.keep b (r.sub b (r.mt b hb).1).1).trans (r.mq b hb), r.below.trans k.below, fun b o hs => k.clS b o (r.clS b o hs),
      fun b o hs => (k.clW b o (r.clS b o hs)).trans (r.clW b o hs), fun b o hs => ?_⟩
    rcases k.nb b o hs with h1 | ⟨h1, h2⟩
    · exact r.nb b o h1
    · exact .inr ⟨fun h3 => h1 (r.oth b h3.1 h3.2).1, h2⟩
  · rintro l x rest C W1 vs ⟨T', r⟩ hh htb hmn hvl hvr
    obtain ⟨fn, tmps, assign, body, hy, hr⟩ := g.yld l x rest { C with T := T', M := M0 } W1 vs r.gh hh (fun b hb => htb b (r.sub b hb).1.1) r.mt hvl hvr
    refine ⟨fn, tmps, assign, body, hy, hr.mono ?_⟩
    rintro e W2 ⟨b, C3, rfl, hG, k3⟩
    have hsz : W1.heap.size ≤ W2.heap.size := k3.k.below.size
    have hx1 : Wx.heap.size ≤ W1.heap.size := r.below.size
    have hTn : ∀ q, C3.T q → T' q ∨ W1.heap.size ≤ q := k3.tnew
    have kp : ∀ q, q < W1.heap.size → (T' q → M0 q) → W2.heap[q]? = W1.heap[q]? := fun q h1 h2 => k3.k.keep q ⟨h1, fun h3 => h3.2 (h2 h3.1)⟩
    refine ⟨b, { C3 with T := fun q => C3.T q ∨ (C.T q ∧ ¬ T' q), M := C.M }, rfl, ⟨C3.T, ?_, fun q hq => ⟨⟨.inl hq, fun hm => ?_⟩, ?_⟩, fun q hq => ⟨k3.mt q hq, (r.mt q hq).2⟩, fun q hq => ⟨fun h1 => ?_, .inr ⟨(r.bk q hq).2.1, (r.bk q hq).1⟩, (r.bk q hq).2.2⟩, ?_, ?_, fun q h1 h2 => ?_, fun q hq => ?_, r.below.trans k3.k.below,
      fun q o hs => k3.k.clS q o (r.clS q o hs), fun q o hs => (k3.k.clW q o (r.clS q o hs)).trans (r.clW q o hs), fun q o hs => ?_⟩, ?_⟩
    · have e : ({ C3 with T := C3.T, M := M0 } : Ctx) = C3 := ctx_eta k3.me
      show G (nextY l b rest) ({ C3 with T := C3.T, M := M0 } : Ctx) W2
      rw [e]; exact hG
    · rcases hTn q hq with h1 | h1
      · exact (r.sub q h1).1.2 hm
      · have := htb q (hmn q hm).1; omega
    · rcases hTn q hq with h1 | h1
      · exact (r.sub q h1).2
      · exact .inr (Nat.le_trans hx1 h1)
    · rcases hTn q h1 with h2 | h2
      · exact (r.bk q hq).1 h2
      · have := htb q (r.bk q hq).2.1; omega
    · exact (kp _ (htb _ (r.bk _ (.inl rfl)).2.1) fun h1 => absurd h1 (r.bk _ (.inl rfl)).1).trans r.dk
    · exact (kp _ (htb _ (r.bk _ (.inr rfl)).2.1) fun h1 => absurd h1 (r.bk _ (.inr rfl)).1).trans r.rc
    · have hnT : ¬ T' q := fun h3 => by rcases (r.sub q h3).2 with h4 | h4; exact h2 h4; omega
      obtain ⟨h3, h4⟩ := r.oth q h1 h2
      exact ⟨⟨.inr ⟨h3.1, hnT⟩, h3.2⟩, (kp q (by omega) fun h5 => absurd h5 hnT).trans h4⟩
    · exact (kp q (htb q (r.sub q (r.mt q hq).1).1.1) fun _ => hq).trans (r.mq q hq)
    · rcases k3.k.nb q o hs with h1 | ⟨h1, h2⟩
      · exact r.nb q o h1
      · refine .inr ⟨fun h3 => h1 ⟨by omega, fun h4 => ?_⟩, h2⟩
        rcases (r.sub q h4.1).2 with h5 | h5
        · exact h3.2 h5
        · omega
    · refine ⟨k3.k.sub fun q hq => ⟨hq.1, fun h1 => hq.2 (r.sub q h1.1).1⟩, k3.io, k3.th, rfl, k3.s0, fun q hq => .inr ⟨(hmn q hq).1, fun h1 => (r.sub q h1).1.2 hq⟩, fun q hq => ?_, fun q hq => ?_⟩
      · rcases hq with hq | hq
        · exact (hTn q hq).imp (fun h1 => (r.sub q h1).1.1) id
        · exact .inl hq.1
      · rcases hq with hq | hq
        · exact k3.tb q hq
        · exact Nat.lt_of_lt_of_le (htb q hq.1) hsz
end
section
variable {P : Program} {B N : Nat} {X : List Nat}
theorem foldPs_size (ps : List Tmp) : ∀ (l : List (Tmp × Value)) (t : Array Value), (l.foldl (fun t p => t.setIfInBounds p.1 p.2) t).size = t.size
  | [], _ => rfl
  | p :: l, t => by rw [List.foldl_cons, foldPs_size ps l]; simp
theorem bind_rep {C : Ctx} {W : World} {h : AHeap} : ∀ (ps : List Tmp) (x : List AV) (vs : List Value) (t : Nat → AV) (tm : Array Value), vs.length = x.length → (∀ j z, x[j]? = some z → Rep C.S W z (vs.getD j Go.undef)) → (∀ p ∈ ps, p < tm.size) →
    (∀ n, RepT C W h (t n) (tm.getD n Go.undef)) → ∀ n, RepT C W h (bindA ps x t n) (((ps.zip vs).foldl (fun t p => t.setIfInBounds p.1 p.2) tm).getD n Go.undef)
  | [], x, vs, t, tm, _, _, _, hr, n => by simpa [bindA] using hr n
  | p :: ps, [], [], t, tm, _, _, _, hr, n => by simpa [bindA] using hr n
  | p :: ps, [], v :: vs, t, tm, hl, _, _, hr, n => by simp at hl
  | p :: ps, x :: xs, [], t, tm, hl, _, _, hr, n => by simp at hl
  | p :: ps, x :: xs, v :: vs, t, tm, hl, hv, hp, hr, n => by
    simp only [bindA, List.zip_cons_cons, List.foldl_cons]
    refine bind_rep ps xs vs (fun n => if n = p then x else t n) (tm.setIfInBounds p v) (by simpa using hl) (fun j z hz => by simpa [List.getD] using hv (j + 1) z (by simpa using hz)) (fun q hq => by simpa using hp q (List.mem_cons_of_mem _ hq)) (fun m => ?_) n
    have hpt := hp p List.mem_cons_self
    rw [Array.getD_eq_getD_getElem?, Array.getElem?_setIfInBounds]
    by_cases e : m = p
    · subst e
      have := hv 0 x rfl
      simp [hpt]
      exact RepT.of_rep (by simpa [List.getD] using this)
    · rw [if_neg e, if_neg (fun e' => e e'.symm)]
      have := hr m
      rwa [Array.getD_eq_getD_getElem?] at this
def AE.code : AE → Code
  | .normal => .skip
  | .exit id => .exit id
  | .ret => .ret
theorem rangeFunc_wp {n : Nat} (f : Operand) (ps : Array Tmp) (assign body : Code) (hnA : noRF assign = true) (hnB : noRF body = true) (hps : ∀ p ∈ ps.toList, p < N) (ihA : WpOk P B N X assign) (ihB : WpOk P B N X body)
    {G : Gh} (gh : Ghost P B G) (Q : AE → St → Prop) (σ : St) (C : Ctx) (a : Act) (W : World) (R : Exit → Act → World → Prop) (h : WP P X (.rangeFunc f ps assign body) Q σ)
    (S : OK P B N C σ.t σ.h a W) (hf : ∀ q, σ.h (σ.k + q) = .none) (hG : G σ.y C W)
    (hR : ∀ e σ' C' a' W', Q e σ' → OK P B N C' σ'.t σ'.h a' W' → (∀ q, σ'.h (σ'.k + q) = .none) → (∀ n, σ'.s n = .bad) → G σ'.y C' W' → Below B W W' → R e.toExit a' W') :
    (Code.rangeFunc f ps assign body).wpIn Fence.wide n P R a W := by
  obtain ⟨g, caps, az, ids, xs, hfv, hp, hIt, hxl, ⟨fn0, c0, hfn0, hb0, hname⟩, J, σ0, hn0, hJ0, hround, hdone⟩ := h
  obtain ⟨us, ef, hul, hc⟩ : ∃ us : List Value, a.eval f = .func (.func g) #[] us.toArray ∧ us.length = caps.length ∧ ∀ j x, caps[j]? = some x → RepC C W σ.h x (us.getD j Go.undef) := by
    have := evA_rep S.rep f
    rw [hfv] at this
    exact this
  obtain ⟨I1, l1⟩ := S.inv.close ids
  obtain ⟨hlen1, hrep1⟩ := passCs_rep S.inv (S' := sealS C σ.h ids) (fun _ _ hs => .inl hs) caps az ids us hc hp (fun id hid cs hk => sealS_peek S.inv hid hk)
  have S1 : OK P B N { C with S := sealS C σ.h ids } σ.t (sealH σ.h ids) a W := ⟨fun x => (S.rep x).le l1, I1, S.size, S.defers.le S.inv l1⟩
  have hf1 : ∀ q, sealH σ.h ids (σ.k + q) = .none := fun q => by unfold sealH; split <;> simp [hf q, sealO]
  obtain ⟨C2, S2, hf2, e21, e22, e23, e24⟩ := OK.ren hn0 S1 hf1
  have kp2 := e24 (fun x => a.tmps.getD x Go.undef) S1.rep
  have hG2 : G σ0.y C2 W := by rw [hn0.y]; exact gh.same (gh.le hG l1 S.inv I1 (.refl _ _)) I1.has e21 (Ctx.D_of e23.1 e23.2)
  have hMC : C2.M = C.M := e23.2
  clear hfv hp hc hn0 S1 hf1 e24
  refine wpIn_rangeFunc fun fn _ => ?_
  obtain ⟨rec, hrec⟩ : ∃ rec : LoopState → Option Code → Loop, rec = fun st pe => { state := st, pending := pe, fn, tmps := a.tmps, params := ps, assign, body, defers := W.heap.size } := ⟨_, rfl⟩
  obtain ⟨W1, hW1⟩ : ∃ W1, (W.alloc (.deferred (some []))).alloc (.loop (rec .ready none)) = W1 := ⟨_, rfl⟩
  have hL1 : W1.heap[W.heap.size + 1]? = some (.loop (rec .ready none)) := by
    rw [← hW1]; have := World.alloc_heap_new (W.alloc (.deferred (some []))) (.loop (rec .ready none)); rwa [World.size_alloc] at this
  have hK1 : W1.heap[W.heap.size]? = some (.deferred (some [])) := by
    rw [← hW1]; exact (Below.heap_alloc _ _ _ (by simp)).trans (World.alloc_heap_new W _)
  have hsz1 : W1.heap.size = W.heap.size + 2 := by rw [← hW1]; simp
  have hB1 : Below B W W1 := by rw [← hW1]; exact (((Below.refl _ W).alloc S.inv.base _).alloc (by have := S.inv.base; simp; omega) _)
  have hold : ∀ b, b < W.heap.size → W1.heap[b]? = W.heap[b]? := fun b hb => by
    rw [← hW1]; exact (Below.heap_alloc _ _ _ (by simp; omega)).trans (Below.heap_alloc _ _ _ hb)
  have hBd : ∀ b, (b = W.heap.size ∨ b = W.heap.size + 1) → B ≤ b := fun b hb => by have := S.inv.base; omega
  -- what is carried from round to round
  obtain ⟨Gi, hGi⟩ : ∃ Gi : Option (List (List AV)) → (Nat → Prop) → (Nat → Nat → Prop) → World → Prop, Gi = fun y D Sx Wx => ∃ (C' : Ctx) (σ' : St), C'.S = Sx ∧ (∀ b, D b ↔ dom C' σ'.h W b) ∧
      Btw P B C.M W G (fun x => a.tmps.getD x Go.undef) C' σ' Wx ∧
      (match y with
       | some ys => ∃ i, ys = xs.drop i ∧ i ≤ xs.length ∧ J i σ' ∧ Wx.heap[W.heap.size + 1]? = some (.loop (rec .ready none))
       | none => ∃ e : AE, e ≠ .normal ∧ Q e ⟨σ'.s, σ'.h, σ'.k, fun _ => .bad, σ'.y⟩ ∧ Wx.heap[W.heap.size + 1]? = some (.loop (rec .done (some e.code)))) := ⟨_, rfl⟩
  have hdl : ∀ (D : Nat → Prop) (C' : Ctx) (σ' : St), (∀ b, D b ↔ dom C' σ'.h W b) → ∀ b, (b = W.heap.size ∨ b = W.heap.size + 1) → D b := fun D C' σ' hD b hb => (hD b).2 (.inr (.inl hb))
  have hab : ∀ y D S1 Wx S2 W2, Gi y D S1 Wx → Keeps D B S1 Wx S2 W2 → Gi y D S2 W2 := by
    rw [hGi]
    rintro y D Sx Wx S2 W2 ⟨C', σ', rfl, hD, b, ht⟩ k
    refine ⟨{ C' with S := S2 }, σ', rfl, hD, b.other gh k fun q hq => (hD q).2 hq, ?_⟩
    have hl := k.keep _ (hdl D C' σ' hD _ (.inr rfl))
    cases y with
    | some ys => obtain ⟨i, h1, h2, h3, h4⟩ := ht; exact ⟨i, h1, h2, h3, hl.trans h4⟩
    | none => obtain ⟨e, h1, h2, h3⟩ := ht; exact ⟨e, h1, h2, hl.trans h3⟩
  have h0 : Gi (some xs) (dom C2 σ0.h W) C2.S W1 := by
    rw [hGi]
    have k : Keeps (fun b => b < W.heap.size) B C2.S W C2.S W1 := ⟨hB1, hold, fun _ _ h => h, fun b o hs => cell_of_heap (hold b (cell_lt (S2.inv.has b o hs))), fun _ _ h => .inl h, fun b o hs => by rw [cell_of_heap (hold b (cell_lt (S2.inv.has b o hs)))]; exact S2.inv.has b o hs⟩
    obtain ⟨I', l'⟩ := S2.inv.other (C' := C2) (W' := W1) ⟨fun b hb _ => hold b (Nat.lt_of_lt_of_le hb S2.inv.base), by omega, fun id b ho => hold b (S2.inv.own_lt ho).2, k.clS, k.clW, k.has, fun _ _ h => .inl h, rfl, rfl, fun _ _ h => .inl h, rfl, fun b hb => ⟨by have := (S2.inv.tn b hb).1; omega, (S2.inv.tn b hb).2⟩, S2.inv.mn⟩
    refine ⟨C2, σ0, rfl, fun _ => Iff.rfl, ⟨I', hf2, fun n => (kp2 n).le0 l', gh.keep _ _ _ _ _ hG2 (fun _ => Iff.rfl) (k.sub fun b hb => (S2.inv.tn b hb.1).1), hK1, fun b hb => hold b ?_, hMC, hB1, fun b hb => ⟨fun ht => ?_, ?_⟩⟩, 0, rfl, Nat.zero_le _, hJ0, hL1⟩
    · exact (S.inv.tn b (S.inv.mn b hb).1).1
    · have := (S2.inv.tn b ht).1; omega
    · rintro ⟨id, ho⟩; have := (S2.inv.own_lt ho).2; omega
  refine ⟨W.heap.size + 1, [{ target := .collected W.heap.size, args := #[] }], W1, { target := .fn (.func g) us.toArray, args := #[.func (.yield (W.heap.size + 1)) #[] #[]] }, W1, g,
    #[.func (.yield (W.heap.size + 1)) #[] #[]] ++ us.toArray, W1, ?_, ?_, ?_, ?_, fun e => (by cases e), ?_⟩
  · rw [← hW1, hrec]; exact run_enterLoop_outer _ _ _ _ _
  · simp only [resolve, ef]
    simp [go_sem]
  · intro f' _; trivial
  · have hne : (fn0.name == "runtime.NumGoroutine") = false := by simpa using hname
    simp only [invoke, callFunc, Sem.run_bind, run_program, Result.andThen_ok, hfn0, hne]
    simp [hb0]
  refine CallsIn.more (callsIn_wide.2 ((hIt B C2.S W1 us (W.heap.size + 1) (dom C2 σ0.h W) Gi (S2.inv.tb.keep fun b hb _ => hold b (Nat.lt_of_lt_of_le hb S2.inv.base)) ?_ ?_ ?_ (by rw [hul, hlen1]) ?_ hab ?_ h0).mono ?_)) (Nat.le_refl _)
  · intro b o hs; rw [cell_of_heap (hold b (cell_lt (S2.inv.has b o hs)))]; exact S2.inv.has b o hs
  · have := S.inv.base; omega
  · rintro b (⟨id, ho⟩ | hb | hb)
    · have := (S2.inv.own_lt ho).2; omega
    · omega
    · have := (S2.inv.tn b hb).1; omega
  · intro j x hx
    refine (hrep1 j x hx).mono (fun b o hs => by rw [e21]; exact hs) fun b o hs => ?_
    exact cell_of_heap (hold b (cell_lt (I1.has b o hs)))
  · -- ONE ROUND
    rintro x rest D Sx Wx vs hgi hhas hDlt hvl hvr
    rw [hGi] at hgi
    obtain ⟨C', σ', rfl, hD, b, i, hi1, hi2, hJ, hrdy⟩ := hgi
    have hix : xs[i]? = some x := by
      have : (xs.drop i)[0]? = some x := by rw [← hi1]; rfl
      simpa using this
    have hlt : i < xs.length := (List.getElem?_eq_some_iff.1 hix).1
    have hrest : rest = xs.drop (i + 1) := by
      have : (xs.drop i).tail = rest := by rw [← hi1]; rfl
      rw [← this]; simp
    have hxps : x.length = ps.size := hxl x (List.mem_of_getElem? hix)
    have hszx : W.heap.size + 1 < Wx.heap.size := (Array.getElem?_eq_some_iff.1 hrdy).1
    have hy := run_yield (P := P) (args := vs.toArray) hrdy (by rw [hrec]; simp; omega)
    rw [hrec] at hy
    refine ⟨fn, _, assign, body, hy, roundIn_of_wpIn trivial ?_⟩
    clear hy
    obtain ⟨Ir, lr⟩ := b.inv.reT (fun q => q < Wx.heap.size ∧ ¬ Own C' σ'.h q) (fun _ => False) (fun _ hq => hq) (fun _ hq => hq.elim)
    have hbk : ∀ q, (q = W.heap.size ∨ q = W.heap.size + 1) → D q := hdl D C' σ' hD
    have hfold : ((ps.zip vs.toArray).foldl (fun tmps (t, a) => tmps.setIfInBounds t a) a.tmps) = (ps.toList.zip vs).foldl (fun t p => t.setIfInBounds p.1 p.2) a.tmps := by
      rw [← Array.foldl_toList]; simp
    have OKr : OK P B N { C' with T := fun q => q < Wx.heap.size ∧ ¬ Own C' σ'.h q, M := fun _ => False } (bindA ps.toList x σ'.s) σ'.h { tmps := (ps.zip vs.toArray).foldl (fun tmps (t, a) => tmps.setIfInBounds t a) a.tmps, defers := [] } Wx := by
      refine ⟨fun q => ?_, Ir, ?_, .none _ _⟩
      · simp only [hfold]
        exact bind_rep (C := { C' with T := fun q => q < Wx.heap.size ∧ ¬ Own C' σ'.h q, M := fun _ => False }) ps.toList x vs σ'.s a.tmps hvl hvr (fun p hp => by rw [S.size]; exact hps p hp) (fun n => (b.kp n).le0 lr) q
      · simp only [hfold]; rw [foldPs_size ps.toList]; exact S.size
    have rnd0 : ∀ rcd, Wx.heap[W.heap.size + 1]? = some rcd → Rnd G B C.M W Wx D C'.S rcd C'.T σ'.y { C' with T := fun q => q < Wx.heap.size ∧ ¬ Own C' σ'.h q, M := fun _ => False } Wx := fun rcd hrc => by
      refine ⟨?_, fun q hq => ⟨⟨⟨(b.inv.tn q hq).1, fun ⟨id, ho⟩ => (b.inv.tn q hq).2 id ho⟩, id⟩, .inl ((hD q).2 (.inr (.inr hq)))⟩, fun q hq => ?_, fun q hq => ⟨(b.td q hq).1, ⟨?_, (b.td q hq).2⟩, id⟩, b.dk, hrc, fun q h1 h2 => ⟨⟨⟨h1, fun ho => h2 ((hD q).2 (.inl ho))⟩, id⟩, rfl⟩,
        b.mq, .refl _ _, fun _ _ h => h, fun _ _ _ => rfl, fun _ _ h => .inl h⟩
      · have e : ({ C' with T := C'.T, M := C.M } : Ctx) = C' := ctx_eta b.m
        show G σ'.y ({ C' with T := C'.T, M := C.M } : Ctx) Wx
        rw [e]; exact b.gh
      · have := b.inv.mn q (by rw [b.m]; exact hq)
        exact ⟨this.1, this.2⟩
      · omega
    refine ihA (Fence.wide.inRound (W.heap.size + 1)) (.inr ⟨_, rfl⟩) 0 (fun x => a.tmps.getD x Go.undef) (.inr hnA) _ (Rnd.ghost gh (M0 := C.M) (W := W) (Wx := Wx) (D := D) (S1 := C'.S) (rcd := .loop (rec .ready none))) _ ⟨bindA ps.toList x σ'.s, σ'.h, σ'.k, σ'.s, σ'.y⟩ _ _ Wx _ (hround i x σ' hJ hix) OKr b.fresh (fun n => (b.kp n).le0 lr) ⟨C'.T, rnd0 _ hrdy⟩ ?_
    rintro e σ3 C3 a3 W3 hq3 OK3 fr3 kp3 ⟨T3, r3⟩ hB3
    cases e with
    | exit id => exact hq3.elim
    | ret => exact hq3.elim
    | normal =>
      have hnown3 : ∀ q, C3.D q → ¬ Own C3 σ3.h q := fun q hq ⟨id, ho⟩ => (OK3.inv.tn q hq.1).2 id ho
      show ∃ w₂, _
      refine ⟨_, run_beginRound r3.rc (by rw [hrec]), ?_⟩
      obtain ⟨I3, l3⟩ := OK3.inv.putObj r3.rc rfl (hnown3 _ (r3.bk _ (.inr rfl)).2) (.loop { rec .ready none with state := .busy })
      have k3 := Keeps.putObj (K := fun q => q ≠ W.heap.size + 1) OK3.inv.has r3.rc rfl (hBd _ (.inr rfl)) (fun h => h rfl) (.loop { rec .ready none with state := .busy })
      have hlt3 : W.heap.size + 1 < W3.heap.size := (Array.getElem?_eq_some_iff.1 r3.rc).1
      have r3' : Rnd G B C.M W Wx D C'.S (.loop { rec .ready none with state := .busy }) T3 σ3.y C3 (W3.putObj (W.heap.size + 1) (.loop { rec .ready none with state := .busy })) := by
        refine ⟨gh.keep _ _ _ _ _ r3.gh (fun _ => Iff.rfl) (k3.sub fun q hq e => (r3.bk q (.inr e)).1 hq.1), r3.sub, r3.mt, r3.bk, (k3.keep _ (by omega)).trans r3.dk, World.putObj_heap_same hlt3, fun q h1 h2 => ⟨(r3.oth q h1 h2).1, (k3.keep q fun e => h2 (hbk q (.inr e))).trans (r3.oth q h1 h2).2⟩,
          fun q hq => (k3.keep q fun e => (r3.bk q (.inr e)).1 (r3.mt q hq).1).trans (r3.mq q hq), r3.below.trans k3.below, r3.clS, fun q o hs => (k3.clW q o (r3.clS q o hs)).trans (r3.clW q o hs), r3.nb⟩
      refine ihB (Fence.wide.inRound (W.heap.size + 1)) (.inr ⟨_, rfl⟩) 0 (fun x => a.tmps.getD x Go.undef) (.inr hnB) _ (Rnd.ghost gh) _ σ3 C3 a3 _ _ hq3 ⟨fun x => (OK3.rep x).le0 l3, I3, OK3.size, ?_⟩ fr3 (fun n => (kp3 n).le0 l3) ⟨T3, r3'⟩ ?_
      · obtain ⟨Ds, h1, h2, h3⟩ := OK3.defers
        refine ⟨Ds, h1, h2, fun q hq => ⟨(h3 q hq).1, (k3.keep q fun e => ?_).trans (h3 q hq).2⟩⟩
        exact (r3.bk q (.inr e)).2.2 (h3 q hq).1
      rintro e σ4 C4 a4 W4 hq4 OK4 fr4 kp4 ⟨T4, r4⟩ hB4
      -- what a round leaves
      have fin : ∀ (jump : Option Code) (C5 : Ctx) (σ5 : St), Inv P C5 σ5.h W4 B → (∀ q, σ5.h (σ5.k + q) = .none) → Kp C5 W4 σ5.h σ5.s (fun x => a.tmps.getD x Go.undef) → C5.S = C4.S → C5.T = C4.T → C5.M = C4.M → σ5.y = σ4.y →
          ∃ (C6 : Ctx), C6.S = C4.S ∧ Btw P B C.M W G (fun x => a.tmps.getD x Go.undef) C6 σ5 (W4.putObj (W.heap.size + 1) (.loop (rec (if jump.isNone then .ready else .done) jump))) ∧
            (W4.putObj (W.heap.size + 1) (.loop (rec (if jump.isNone then .ready else .done) jump))).heap[W.heap.size + 1]? = some (.loop (rec (if jump.isNone then .ready else .done) jump)) ∧
            (Instr.endRound (W.heap.size + 1) jump).run P W4 = .ok (.bool jump.isNone) (W4.putObj (W.heap.size + 1) (.loop (rec (if jump.isNone then .ready else .done) jump))) ∧
            Keeps (fun q => q < Wx.heap.size ∧ ¬ D q) B C'.S Wx C6.S (W4.putObj (W.heap.size + 1) (.loop (rec (if jump.isNone then .ready else .done) jump))) ∧
            (∀ q, dom C6 σ5.h W q → (D q ∨ Wx.heap.size ≤ q) ∧ q < (W4.putObj (W.heap.size + 1) (.loop (rec (if jump.isNone then .ready else .done) jump))).heap.size) := by
        intro jump C5 σ5 I5 fr5 kp5 eS eT eM ey
        have hDD : ∀ q, C4.D q → ¬ Own C5 σ5.h q := fun q hq ⟨id, ho⟩ => (I5.tn q (by rw [eT]; exact hq.1)).2 id ho
        obtain ⟨I6, l6⟩ := I5.reT T4 C.M (fun q hq => ⟨(I5.tn q (by rw [eT]; exact (r4.sub q hq).1.1)).1, hDD q (r4.sub q hq).1⟩) (fun q hq => r4.mt q hq)
        have hnl : ¬ Own { C5 with T := T4, M := C.M } σ5.h (W.heap.size + 1) := hDD _ (r4.bk _ (.inr rfl)).2
        obtain ⟨I7, l7⟩ := I6.putObj r4.rc rfl hnl (.loop (rec (if jump.isNone then .ready else .done) jump))
        have k7 := Keeps.putObj (K := fun q => q ≠ W.heap.size + 1) (S := C4.S) OK4.inv.has r4.rc rfl (hBd _ (.inr rfl)) (fun h => h rfl) (.loop (rec (if jump.isNone then .ready else .done) jump))
        have hlt4 : W.heap.size + 1 < W4.heap.size := (Array.getElem?_eq_some_iff.1 r4.rc).1
        refine ⟨{ C5 with T := T4, M := C.M }, eS, ⟨I7, fr5, fun n => ((kp5 n).le0 l6).le0 l7, ?_, (k7.keep _ (by omega)).trans r4.dk, fun q hq => (k7.keep q fun e => (r4.bk q (.inr e)).1 (r4.mt q hq).1).trans (r4.mq q hq), rfl, b.below.trans (r4.below.trans k7.below), fun q hq => ⟨(r4.bk q hq).1, hDD q (r4.bk q hq).2⟩⟩,
          World.putObj_heap_same hlt4, ?_, ?_, fun q hq => ?_⟩
        · rw [ey]
          refine gh.keep _ _ _ _ _ r4.gh (fun _ => Iff.rfl) ?_
          show Keeps _ B C4.S W4 C5.S _
          rw [eS]
          exact k7.sub fun q hq e => (r4.bk q (.inr e)).1 hq.1
        · have := run_endRound (P := P) jump r4.rc
          rw [hrec] at this ⊢
          exact this
        · show Keeps _ B C'.S Wx C5.S _
          rw [eS]
          exact ⟨r4.below.trans k7.below, fun q hq => (k7.keep q fun e => hq.2 (hbk q (.inr e))).trans (r4.oth q hq.1 hq.2).2, fun q o hs => k7.clS q o (r4.clS q o hs), fun q o hs => (k7.clW q o (r4.clS q o hs)).trans (r4.clW q o hs), r4.nb, k7.has⟩
        · have hszq : Wx.heap.size ≤ W4.heap.size := r4.below.size
          rcases hq with ⟨id, ho⟩ | hq | hq
          · refine ⟨?_, by have := (I6.own_lt ho).2; simpa using this⟩
            by_cases h1 : q < Wx.heap.size
            · refine .inl (Classical.byContradiction fun h2 => ?_)
              exact hDD q (r4.oth q h1 h2).1 ⟨id, ho⟩
            · exact .inr (by omega)
          · exact ⟨.inl (hbk q hq), by simp; omega⟩
          · exact ⟨(r4.sub q hq).2, by have := (OK4.inv.tn q (r4.sub q hq).1.1).1; simpa using this⟩
      cases e with
      | normal =>
        obtain ⟨σ5, hn5, hJ5⟩ := hq4
        obtain ⟨C5, S5, fr5, e51, e52, e53, e54⟩ := OK.ren hn5 OK4 fr4
        obtain ⟨C6, h1, h2, h3, h4, h5, h6⟩ := fin none C5 σ5 S5.inv fr5 (e54 _ kp4) e51 e53.1 e53.2 hn5.y
        refine ⟨_, _, h4, true, dom C6 σ5.h W, C6.S, rfl, h5, h6, ?_⟩
        rw [hGi]
        exact ⟨C6, σ5, rfl, fun _ => Iff.rfl, h2, i + 1, hrest, hlt, hJ5, h3⟩
      | ret =>
        obtain ⟨C6, h1, h2, h3, h4, h5, h6⟩ := fin (some .ret) C4 σ4 OK4.inv fr4 kp4 rfl rfl rfl rfl
        refine ⟨_, _, h4, false, dom C6 σ4.h W, C6.S, rfl, h5, h6, ?_⟩
        rw [hGi]
        exact ⟨C6, σ4, rfl, fun _ => Iff.rfl, h2, .ret, (by intro e; cases e), hq4, h3⟩
      | exit id =>
        obtain ⟨C6, h1, h2, h3, h4, h5, h6⟩ := fin (some (.exit id)) C4 σ4 OK4.inv fr4 kp4 rfl rfl rfl rfl
        refine ⟨_, _, h4, false, dom C6 σ4.h W, C6.S, rfl, h5, h6, ?_⟩
        rw [hGi]
        exact ⟨C6, σ4, rfl, fun _ => Iff.rfl, h2, .exit id, (by intro e; cases e), hq4, h3⟩
  · -- BEHIND THE ITERATOR
    rintro e W3 ⟨⟨v, rfl⟩, D', S', hor⟩
    have last : ∀ (C3 : Ctx) (σ3 : St) (st : LoopState) (pe : Option Code) (e : AE), Btw P B C.M W G (fun x => a.tmps.getD x Go.undef) C3 σ3 W3 → W3.heap[W.heap.size + 1]? = some (.loop (rec st pe)) → Q e ⟨σ3.s, σ3.h, σ3.k, fun _ => .bad, σ3.y⟩ →
        R e.toExit { a with defers := [{ target := .collected W.heap.size, args := #[] }] ++ a.defers } (W3.putObj (W.heap.size + 1) (.loop { rec st pe with state := .exhausted })) := by
      intro C3 σ3 st pe e b hl hQe
      have hT4 : ∀ q, (C3.T q ∨ q = W.heap.size) → q < W3.heap.size ∧ ¬ Own C3 σ3.h q := fun q hq => by
        rcases hq with hq | rfl
        · exact ⟨(b.inv.tn q hq).1, fun ⟨id, ho⟩ => (b.inv.tn q hq).2 id ho⟩
        · exact ⟨(Array.getElem?_eq_some_iff.1 b.dk).1, (b.td _ (.inl rfl)).2⟩
      have hM4 : ∀ q, (C.M q ∨ q = W.heap.size) → (C3.T q ∨ q = W.heap.size) ∧ B ≤ q := fun q hq => by
        rcases hq with hq | rfl
        · have := b.inv.mn q (by rw [b.m]; exact hq); exact ⟨.inl this.1, this.2⟩
        · exact ⟨.inr rfl, hBd _ (.inl rfl)⟩
      obtain ⟨I4, l4⟩ := b.inv.reT (fun q => C3.T q ∨ q = W.heap.size) (fun q => C.M q ∨ q = W.heap.size) hT4 hM4
      have hnl : ¬ Own { C3 with T := fun q => C3.T q ∨ q = W.heap.size, M := fun q => C.M q ∨ q = W.heap.size } σ3.h (W.heap.size + 1) := (b.td _ (.inr rfl)).2
      obtain ⟨I5, l5⟩ := I4.putObj hl rfl hnl (.loop { rec st pe with state := .exhausted })
      have k5 := Keeps.putObj (K := fun q => q ≠ W.heap.size + 1) (S := C3.S) b.inv.has hl rfl (hBd _ (.inr rfl)) (fun h => h rfl) (.loop { rec st pe with state := .exhausted })
      refine hR e ⟨σ3.s, σ3.h, σ3.k, fun _ => .bad, σ3.y⟩ _ _ _ hQe ⟨fun x => ((b.kp x).le0 l4).le0 l5, I5, S.size, ?_⟩ b.fresh (fun _ => rfl) (gh.keep _ _ _ _ _ b.gh (fun q => ?_) (k5.sub fun q hq e => (b.td q (.inr e)).1 hq.1)) (b.below.trans k5.below)
      · obtain ⟨Ds, h1, h2, h3⟩ := S.defers
        have hlt : ∀ q, C.M q → q < W.heap.size := fun q hq => (S.inv.tn q (S.inv.mn q hq).1).1
        refine ⟨W.heap.size :: Ds, List.nodup_cons.2 ⟨fun hm => absurd (hlt _ (h3 _ hm).1) (Nat.lt_irrefl _), h1⟩, by rw [h2]; rfl, fun q hq => ?_⟩
        rcases List.mem_cons.1 hq with rfl | hq
        · exact ⟨.inr rfl, (k5.keep _ (by omega)).trans b.dk⟩
        · refine ⟨.inl (h3 q hq).1, (k5.keep q fun e => ?_).trans ((b.mq q (h3 q hq).1).trans (h3 q hq).2)⟩
          have := hlt q (h3 q hq).1; omega
      · constructor
        · rintro ⟨h1, h2⟩
          refine ⟨h1.elim id fun e => absurd (Or.inr e) h2, fun hm => h2 (.inl (by rw [b.m] at hm; exact hm))⟩
        · rintro ⟨h1, h2⟩
          refine ⟨.inl h1, fun hm => hm.elim (fun hm => h2 (by rw [b.m]; exact hm)) fun e => (b.td q (.inl e)).1 h1⟩
    rcases hor with hg | hg
    · rw [hGi] at hg
      obtain ⟨C3, σ3, _, _, b, i, hi1, hi2, hJ, hl⟩ := hg
      have hi : i = xs.length := by
        have := congrArg List.length hi1
        simp at this; omega
      subst hi
      exact ⟨none, _, by have := run_endLoop (P := P) hl (by rw [hrec]; simp); rw [hrec] at this ⊢; exact this, last C3 σ3 _ _ .normal b hl (hdone σ3 hJ)⟩
    · rw [hGi] at hg
      obtain ⟨C3, σ3, _, _, b, e, hne, hQe, hl⟩ := hg
      refine ⟨some e.code, W3.putObj (W.heap.size + 1) (.loop { rec .done (some e.code) with state := .exhausted }), by have := run_endLoop (P := P) hl (by rw [hrec]; simp); rw [hrec] at this ⊢; exact this, ?_⟩
      have := last C3 σ3 _ _ e b hl hQe
      cases e with
      | normal => exact absurd rfl hne
      | ret => exact wpIn_ret this
      | exit id => exact wpIn_exit this
end
section
variable {P : Program} {B N : Nat} {X : List Nat}
theorem WP_wp (hm : P.follows .mixedOrders = true) : ∀ (c : Code), codeOk N X c = true → WpOk P B N X c := by
  intro c
  induction c with
  | skip => intro _ F hF fuelN keep hro G gh Q σ C a W R h S hf kp hG hR; exact wpIn_skip (hR .normal σ C a W h S hf kp hG (.refl _ _))
  | exit id => intro _ F hF fuelN keep hro G gh Q σ C a W R h S hf kp hG hR; exact wpIn_exit (hR (.exit id) σ C a W h S hf kp hG (.refl _ _))
  | ret => intro _ F hF fuelN keep hro G gh Q σ C a W R h S hf kp hG hR; exact wpIn_ret (hR .ret σ C a W h S hf kp hG (.refl _ _))
  | region id ops draw =>
    intro hk F hF fuelN keep hro G gh Q σ C a W R h S hf kp hG hR
    simp only [codeOk, Bool.and_eq_true, Bool.or_eq_true, Bool.not_eq_true'] at hk
    obtain ⟨hd, hdr⟩ := hk
    simp only [WP] at h
    split at h
    · rename_i e
      subst e
      have cl : ∀ {rs : List Did}, (id ∈ X → ∀ p ∈ clashes ops, ∀ x ∈ (fnOf rs p.1).fp, x ∉ (fnOf rs p.2).fp) → ∀ p ∈ clashes ops, ∀ x ∈ (fnOf rs p.1).fp, x ∉ (fnOf rs p.2).fp := fun {rs} hh => by
        rcases hdr with hdr | hdr
        · cases hdr
        · rcases hdr.2 with hx | hx
          · exact hh (by simpa using hx)
          · rw [show clashes ops = [] by simpa using hx]; simp
      have hdr := hdr.resolve_left (by simp)
      rcases h with h | ⟨p, hcut, h⟩
      rotate_left
      · refine opsC_wp hF gh (K := fun t h y => Q .normal ⟨t, h, σ.k + ops.size, σ.s, y⟩) hm hd hdr.1 hcut S hG hf (opsD_mono _ _ _ _ (fun rs t h hh => ⟨cl hh.1, hh.2⟩) h) ?_
        exact fun C' t' h' y' a' W' hq S' hG' l hB hf' => hR .normal ⟨t', h', σ.k + ops.size, σ.s, y'⟩ C' a' W' hq S' (fun q => by rw [Nat.add_assoc]; exact hf' _ (by omega)) (fun n => (kp n).le0 l) hG' hB
      · refine opsD_wp hF (K := fun t h => Q .normal ⟨t, h, σ.k + ops.size, σ.s, σ.y⟩) hm hd hdr.1 S hf (opsD_mono _ _ _ _ (fun rs t h hh => ⟨cl hh.1, hh.2⟩) h) ?_
        · exact fun C' t' h' a' W' hq S' l hB hf' => hR .normal ⟨t', h', σ.k + ops.size, σ.s, σ.y⟩ C' a' W' hq S' (fun q => by rw [Nat.add_assoc]; exact hf' _ (by omega)) (fun n => (kp n).le l) (gh.le hG l S.inv S'.inv hB) hB
    · rename_i e
      cases draw with
      | true => exact absurd rfl e
      | false =>
        refine wpIn_region_list (opsR_wp hF gh hd ops.toList 0 C σ.t σ.h σ.y a W (fun q o hq => by simpa using hq) S hG (fun q _ => hf q) h fun C' t' h' y' a' W' hq S' hG' l _ hB hf' =>
          hR .normal ⟨t', h', σ.k + ops.size, σ.s, y'⟩ C' a' W' hq S' (fun q => by rw [Nat.add_assoc]; exact hf' _ (by simp)) (fun n => (kp n).le0 l) hG' hB)
  | seq x y ihx ihy =>
    intro hk F hF fuelN keep hro G gh Q σ C a W R h S hf kp hG hR
    simp only [codeOk, Bool.and_eq_true] at hk
    have hro1 : F.round = none ∨ noRF x = true := hro.imp id fun h => by simp only [noRF, Bool.and_eq_true] at h; exact h.1
    have hro2 : F.round = none ∨ noRF y = true := hro.imp id fun h => by simp only [noRF, Bool.and_eq_true] at h; exact h.2
    refine wpIn_seq (ihx hk.1 F hF fuelN keep hro1 G gh _ σ C a W _ h S hf kp hG fun e σ' C' a' W' hq S' hf' kp' hG' hB => ?_)
    cases e with
    | normal =>
      obtain ⟨σr, hn, hq⟩ := hq
      obtain ⟨Cr, Sr, hfr, er1, er2, er3, er4⟩ := OK.ren hn S' hf'
      exact ihy hk.2 F hF fuelN keep hro2 G gh _ σr Cr a' W' _ hq Sr hfr (er4 keep kp') (by rw [hn.y]; exact gh.same hG' S'.inv.has er1 (Ctx.D_of er3.1 er3.2)) fun e2 σ2 C2 a2 W2 hq2 S2 hf2 kp2 hG2 hB2 => hR e2 σ2 C2 a2 W2 hq2 S2 hf2 kp2 hG2 (hB.trans hB2)
    | exit id => exact hR _ σ' C' a' W' hq S' hf' kp' hG' hB
    | ret => exact hR _ σ' C' a' W' hq S' hf' kp' hG' hB
  | cond c x y ihx ihy =>
    intro hk F hF fuelN keep hro G gh Q σ C a W R h S hf kp hG hR
    simp only [codeOk, Bool.and_eq_true] at hk
    have hro1 : F.round = none ∨ noRF x = true := hro.imp id fun h => by simp only [noRF, Bool.and_eq_true] at h; exact h.1
    have hro2 : F.round = none ∨ noRF y = true := hro.imp id fun h => by simp only [noRF, Bool.and_eq_true] at h; exact h.2
    simp only [WP] at h
    split at h
    · rename_i q he
      have hr := evA_rep S.rep c
      rw [he] at hr
      have hq := rep_bool hr
      exact wpIn_cond_split hq (fun e => ihx hk.1 F hF fuelN keep hro1 G gh _ σ C a W _ (h.1 e) S hf kp hG hR) (fun e => ihy hk.2 F hF fuelN keep hro2 G gh _ σ C a W _ (h.2 e) S hf kp hG hR)
    · exact h.elim
  | block id c ih =>
    intro hk F hF fuelN keep hro G gh Q σ C a W R h S hf kp hG hR
    refine wpIn_block (ih hk F hF fuelN keep hro G gh _ σ C a W _ h S hf kp hG fun e σ' C' a' W' hq S' hf' kp' hG' hB => ?_)
    cases e with
    | normal => exact hR .normal σ' C' a' W' hq S' hf' kp' hG' hB
    | ret => exact hR .ret σ' C' a' W' hq S' hf' kp' hG' hB
    | exit id' =>
      simp only [blockA] at hq
      simp only [AE.toExit, Exit.inBlock]
      split at hq
      · rename_i e; rw [if_pos e]; exact hR .normal σ' C' a' W' hq S' hf' kp' hG' hB
      · rename_i e; rw [if_neg e]; exact hR (.exit id') σ' C' a' W' hq S' hf' kp' hG' hB
  | loop c ih =>
    intro hk F hF fuelN keep hro G gh Q σ C a W R h S hf kp hG hR
    obtain ⟨I, n, σ0, hn0, h0, hr⟩ := h
    obtain ⟨C0, S0, hf0, e01, e02, e03, e04⟩ := OK.ren hn0 S hf
    have key : ∀ (n m : Nat) (σ' : St) (C' : Ctx) (a' : Act) (W' : World), m ≤ n → I m σ' → OK P B N C' σ'.t σ'.h a' W' → (∀ q, σ'.h (σ'.k + q) = .none) → Kp C' W' σ'.h σ'.s keep → G σ'.y C' W' → Below B W W' →
        Code.roundsIn F fuelN P c R (n + 1) a' W' := by
      intro n
      induction n with
      | zero =>
        intro m σ' C' a' W' hmn hI S' hf' kp' hG' hB
        refine ih hk F hF fuelN keep hro G gh _ σ' C' a' W' _ (hr m σ' hI) S' hf' kp' hG' fun e σ2 C2 a2 W2 hq S2 hf2 kp2 hG2 hB2 => ?_
        cases e with
        | normal => obtain ⟨q, _, hq, _⟩ := hq; omega
        | exit id => exact hR _ σ2 C2 a2 W2 hq S2 hf2 kp2 hG2 (hB.trans hB2)
        | ret => exact hR _ σ2 C2 a2 W2 hq S2 hf2 kp2 hG2 (hB.trans hB2)
      | succ n ihn =>
        intro m σ' C' a' W' hmn hI S' hf' kp' hG' hB
        refine ih hk F hF fuelN keep hro G gh _ σ' C' a' W' _ (hr m σ' hI) S' hf' kp' hG' fun e σ2 C2 a2 W2 hq S2 hf2 kp2 hG2 hB2 => ?_
        cases e with
        | normal =>
          obtain ⟨q, σ3, hq, hn3, hI2⟩ := hq
          obtain ⟨C3, S3, hf3, e31, e32, e33, e34⟩ := OK.ren hn3 S2 hf2
          exact ihn q σ3 C3 a2 W2 (by omega) hI2 S3 hf3 (e34 keep kp2) (by rw [hn3.y]; exact gh.same hG2 S2.inv.has e31 (Ctx.D_of e33.1 e33.2)) (hB.trans hB2)
        | exit id => exact hR _ σ2 C2 a2 W2 hq S2 hf2 kp2 hG2 (hB.trans hB2)
        | ret => exact hR _ σ2 C2 a2 W2 hq S2 hf2 kp2 hG2 (hB.trans hB2)
    exact wpIn_loop_rounds (n + 1) (key n n σ0 C0 a W (Nat.le_refl _) h0 S0 hf0 (e04 keep kp) (by rw [hn0.y]; exact gh.same hG S.inv.has e01 (Ctx.D_of e03.1 e03.2)) (.refl _ _))
  | rangeFunc f ps assign body iha ihb =>
    intro hk F hF fuelN keep hro G gh Q σ C a W R h S hf kp hG hR
    have hF0 : F = Fence.wide := by
      rcases hF with e | ⟨l, e⟩
      · exact e
      · rcases hro with h1 | h1
        · rw [e] at h1; cases h1
        · cases h1
    subst hF0
    simp only [codeOk, Bool.and_eq_true] at hk
    exact rangeFunc_wp f ps assign body hk.1.1.1.1 hk.1.1.1.2 (fun p hp => by have := List.all_eq_true.1 hk.1.1.2 p hp; simpa using this) (iha hk.1.2) (ihb hk.2) gh Q σ C a W R h S hf hG fun e σ' C' a' W' hq S' hf' hs hG' hB => hR e σ' C' a' W' hq S' hf' (fun n => by rw [hs n]; exact Rep.any _) hG' hB
  | _ => intro _ F hF fuelN keep hro G gh Q σ C a W R h; exact h.elim
/-! ### results -/
def resA (P : Program) (σ : St) : ResultVar → Option AV
  | .tmp t => some (σ.t t)
  | .cell a ty => if okTy P ty then (match σ.t a with
    | .op id off => match (σ.h id).peek with | some cs => takeV P ty (cs.drop off) | none => none
    | .rp cs => takeV P ty cs
    | _ => none) else none
def resList (P : Program) (σ : St) : List ResultVar → Option (List AV)
  | [] => some []
  | x :: r => match resA P σ x, resList P σ r with
    | some v, some vs => some (v :: vs)
    | _, _ => none
/-- A value that nothing writes any more. -/
def ret1 : AV → Option AV
  | .ag cs => if cs.all pure0 then some (.ag (cs.map forget0)) else none
  | .sl _ xs => some (.sl .no xs)
  | .tup _ => none
  | .op _ _ | .fs _ | .ms _ _ _ _ _ | .mp _ _ => none
  | .fn f caps => if caps.all pureC then some (.fn f caps) else none
  | x => some x
def retL : List AV → Option (List AV)
  | [] => some []
  | x :: r => match ret1 x, retL r with
    | some v, some vs => some (v :: vs)
    | _, _ => none
/-- What a function gives back, from where it ends. -/
def RetOk (P : Program) (rvs : List ResultVar) (σ : St) (r : AV) : Prop :=
  match resList P σ rvs with
  | some [v] => ret1 v = some r ∨
    (match v, r with
     | .sl (.tag t) xs, .sl (.own e sz) ys => σ.h t = .live e sz xs.length ∧ xs = ys
     | .sl .zero xs, .sl (.own e sz) ys => xs = [] ∧ ys = [] ∧ sz = P.cellsOf e
     | .fs t, .sl (.fown e sz) ys => σ.h t = .fresh e sz ys
     | .sl .zero xs, .sl (.fown e sz) ys => xs = [] ∧ ys = [] ∧ sz = P.cellsOf e ∧ 0 < sz
     | _, _ => False) ∨ ∃ ids, pass σ.h v = some (r, ids)
  | some vs => (match retL vs with | some ws => r = .tup ws | none => False)
  | none => False
variable {C : Ctx} {t : Nat → AV} {h : AHeap} {a : Act} {W : World} {σ : St}
theorem ret1_rep {v r : AV} {u : Value} (hr : RepT C W h v u) (h1 : ret1 v = some r) : Rep C.S W r u := by
  cases v with
  | ag cs =>
    simp only [ret1] at h1
    split at h1
    · rename_i hall
      simp only [Option.some.injEq] at h1; subst h1
      obtain ⟨us, rfl, hl, hc⟩ := hr
      refine .ag _ us (by simpa using hl) fun j x hx => ?_
      rw [List.getElem?_map] at hx
      obtain ⟨z, hz, rfl⟩ := Option.map_eq_some_iff.1 hx
      exact (hc j z hz).pure (List.all_eq_true.1 hall z (List.mem_of_getElem? hz))
    · cases h1
  | sl o xs => simp only [ret1, Option.some.injEq] at h1; subst h1; exact RepT0.pure (x := .sl o xs) hr rfl
  | tup cs => cases h1
  | op id off => cases h1
  | fs t => cases h1
  | ms id lo n c sz => cases h1
  | mp id off => cases h1
  | fn f caps =>
    simp only [ret1] at h1
    split at h1
    · rename_i hall
      simp only [Option.some.injEq] at h1; subst h1
      exact RepT0.pure (x := .fn f caps) hr hall
    · cases h1
  | _ => simp only [ret1, Option.some.injEq] at h1; subst h1; exact hr
def resV (tmps : Array Value) : ResultVar → Sem Value
  | .tmp t => pure (tmps.getD t Go.undef)
  | .cell p ty => do loadVar ty (← asAddr (tmps.getD p Go.undef))
theorem results_eq (fn : Func) (tmps : Array Value) : results fn tmps = (do let vs ← fn.results.mapM (resV tmps); pure (if h : vs.size = 1 then vs[0] else .tuple vs)) := by
  unfold results
  congr 1
theorem resA_run (S : OK P B N C σ.t σ.h a W) {x : ResultVar} {v : AV} (hv : resA P σ x = some v) :
    ∃ u, (resV a.tmps x).run P W = .ok u W ∧ RepT C W σ.h v u := by
  cases x with
  | tmp t =>
    simp only [resA, Option.some.injEq] at hv
    subst hv
    exact ⟨_, rfl, S.rep t⟩
  | cell p ty =>
    simp only [resA] at hv
    split at hv
    · rename_i hk
      have hr := S.rep p
      split at hv
      · rename_i id off he
        rw [he] at hr
        split at hv
        · rename_i cs hp
          obtain ⟨us, ty', h1, h2, h3, h4⟩ := S.inv.box id cs hp
          obtain ⟨u, hu, hru⟩ := takeV_load (W := W) (h := σ.h) (C := C) (b := C.ι id) (off := off) hk hv (fun j => us.getD (off + j) Go.undef) (fun j y hy => by
            rw [List.getElem?_drop] at hy
            refine ⟨?_, h4 _ y hy⟩
            have hlt := (List.getElem?_eq_some_iff.1 hy).1
            rw [cell_of_row W _ _ _ _ _ h1]
            simp [List.getD, List.getElem?_eq_getElem (show off + j < us.length by omega)])
          refine ⟨u, ?_, hru⟩
          have hp' : a.tmps.getD p Go.undef = .pointer (some ⟨C.ι id, off, none⟩) := hr.2
          simp only [resV, hp', asAddr, Sem.run_bind, Sem.run_pure, Result.andThen_ok, hu]
        · cases hv
      · rename_i cs he
        rw [he] at hr
        obtain ⟨b, off, uf, hr', hcell, hrep⟩ := rep_rp hr
        obtain ⟨u, hu, hru⟩ := takeV_load (W := W) (h := σ.h) (C := C) (b := b) (off := off) hk hv uf (fun j y hy => ⟨(hcell j y hy).2, .of_rep (hrep j y hy)⟩)
        refine ⟨u, ?_, hru⟩
        simp only [resV, hr', asAddr, Sem.run_bind, Sem.run_pure, Result.andThen_ok, hu]
      · cases hv
    · cases hv
theorem resList_run (S : OK P B N C σ.t σ.h a W) : ∀ (l : List ResultVar) (vs : List AV), resList P σ l = some vs →
    ∃ us : List Value, (l.mapM (resV a.tmps)).run P W = .ok us W ∧ us.length = vs.length ∧
      ∀ j x, vs[j]? = some x → RepT C W σ.h x (us.getD j Go.undef)
  | [], vs, hv => by
    simp only [resList, Option.some.injEq] at hv
    subst hv
    exact ⟨[], by simp, rfl, fun j x hx => by simp at hx⟩
  | x :: l, vs, hv => by
    simp only [resList] at hv
    cases h1 : resA P σ x with
    | none => rw [h1] at hv; cases hv
    | some v =>
      cases h2 : resList P σ l with
      | none => rw [h1, h2] at hv; cases hv
      | some ws =>
        rw [h1, h2] at hv
        simp only [Option.some.injEq] at hv
        subst hv
        obtain ⟨u, hu, hru⟩ := resA_run S h1
        obtain ⟨us, hus, hl, hc⟩ := resList_run S l ws h2
        refine ⟨u :: us, ?_, by simp [hl], fun j y hy => ?_⟩
        · rw [List.mapM_cons]
          rw [Sem.run_bind, hu]
          simp only [Result.andThen_ok]
          rw [Sem.run_bind, hus]
          rfl
        · cases j with
          | zero => simp at hy; subst hy; exact hru
          | succ j => exact hc j y (by simpa using hy)
def putMarks (Ds : List Nat) (w : World) : World := Ds.foldl (fun w D => w.putObj D (.deferred none)) w
theorem leaves_marks {F : Fence} {n : Nat} {fn : Func} {tmps : Array Value} {R : Ending → World → Prop} : ∀ (Ds : List Nat) (w : World), Ds.Nodup → (∀ D ∈ Ds, w.heap[D]? = some (.deferred (some []))) →
    (∃ v, (results fn tmps).run P (putMarks Ds w) = .ok v (putMarks Ds w) ∧ R (.returned v) (putMarks Ds w)) → LeavesInM F n P fn tmps R (Ds.map fun D => ({ target := .collected D, args := #[] } : Deferred)) .returning w
  | [], w, _, _, h => h
  | D :: Ds, w, hn, hd, h => by
    obtain ⟨h1, h2⟩ := List.nodup_cons.1 hn
    refine ⟨by simp, .inl ⟨D, _, rfl, run_takeDeferred (hd D List.mem_cons_self), ?_⟩⟩
    refine leaves_marks Ds _ h2 (fun E hE => ?_) h
    rw [World.putObj_heap_other (fun e => h1 (by rw [← e]; exact hE))]
    exact hd E (List.mem_cons_of_mem _ hE)
theorem putMarks_ok {B : Nat} {C : Ctx} {h : AHeap} : ∀ (Ds : List Nat) (W : World), Inv P C h W B → Ds.Nodup → (∀ D ∈ Ds, C.M D ∧ W.heap[D]? = some (.deferred (some []))) →
    Inv P C h (putMarks Ds W) B ∧ Le0 C h W C h (putMarks Ds W) ∧ Keeps (fun b => ¬ C.M b) B C.S W C.S (putMarks Ds W)
  | [], W, I, _, _ => ⟨I, .refl _ _ _, .refl I.has⟩
  | D :: Ds, W, I, hn, hd => by
    obtain ⟨h1, h2⟩ := List.nodup_cons.1 hn
    obtain ⟨hM, hD⟩ := hd D List.mem_cons_self
    obtain ⟨I1, l1⟩ := I.putObj hD rfl (fun ⟨id, ho⟩ => (I.tn D (I.mn D hM).1).2 id ho) (.deferred none)
    have k1 := Keeps.putObj (K := fun b => ¬ C.M b) I.has hD rfl (I.mn D hM).2 (fun h => h hM) (.deferred none)
    obtain ⟨I2, l2, k2⟩ := putMarks_ok Ds _ I1 h2 (fun E hE => ⟨(hd E (List.mem_cons_of_mem _ hE)).1, by
      rw [World.putObj_heap_other (fun e => h1 (by rw [← e]; exact hE))]; exact (hd E (List.mem_cons_of_mem _ hE)).2⟩)
    exact ⟨I2, l1.trans l2, k1.trans k2⟩
/-- A function's contract by its text, what is carried along told. -/
theorem calls_of_WP (hm : P.follows .mixedOrders = true) {f : FuncId} {fn : Func} {c : Code} (X : List Nat) {args : List AV} {us : List Value} {W : World} {B : Nat} {C : Ctx} {h0 : AHeap} {k0 : Nat} (hfr : ∀ q, h0 (k0 + q) = .none) {y : Yt} {G : Gh} {R : Ending → World → Prop} (hf : P.funcs[f]? = some fn) (hb : fn.body = some c) (hN : args.length ≤ fn.ntmps)
    (hk : codeOk fn.ntmps X c = true) {Q : AE → St → Prop} (h : WP P X c Q ⟨fun n => args.getD n .undef, h0, k0, fun _ => .bad, y⟩) (hul : us.length = args.length) (hrep : ∀ j x, args[j]? = some x → RepT C W h0 x (us.getD j Go.undef))
    (I : Inv P C h0 W B) (gh : Ghost P B G) (hG : G y C W)
    (hQ : ∀ e σ C' a W', Q e σ → OK P B fn.ntmps C' σ.t σ.h a W' → G σ.y C' W' → Below B W W' → (e = .normal ∨ e = .ret) ∧ ∃ v, (results fn a.tmps).run P W' = .ok v W' ∧ R (.returned v) W') : Calls P f us.toArray W R := by
  refine callsIn_wide (n := 0) |>.1 (callsIn_of_wp_marks hf hb trivial ?_ rfl)
  have Sok : OK P B fn.ntmps C (fun n => args.getD n .undef) h0 { tmps := us.toArray ++ Array.replicate (fn.ntmps - us.toArray.size) Go.undef, defers := [] } W := by
    refine ⟨fun x => ?_, I, by simp; omega, .none _ _⟩
    show RepT C W _ (args.getD x .undef) ((us.toArray ++ Array.replicate (fn.ntmps - us.toArray.size) Go.undef).getD x Go.undef)
    rw [Array.getD_eq_getD_getElem?, Array.getElem?_append]
    simp only [List.size_toArray]
    by_cases hx : x < us.length
    · rw [if_pos hx]
      have hx' : x < args.length := by omega
      rw [show args.getD x .undef = args[x] by simp [List.getD, List.getElem?_eq_getElem hx']]
      have := hrep x _ (List.getElem?_eq_getElem hx')
      rw [List.getD_eq_getElem?_getD] at this
      rw [List.getElem?_toArray]
      exact this
    · rw [if_neg hx]
      rw [show args.getD x .undef = .undef by simp [List.getD, List.getElem?_eq_none (show args.length ≤ x by omega)]]
      have : ((Array.replicate (fn.ntmps - us.length) Go.undef)[x - us.length]?).getD Go.undef = Go.undef := by
        rw [Array.getElem?_replicate]; split <;> rfl
      rw [this]
      exact Rep.undef
  refine WP_wp hm c hk Fence.wide (.inl rfl) 0 (fun _ => Go.undef) (.inl rfl) G gh _ _ C _ W _ h Sok hfr (fun _ => Rep.any _) hG fun e σ' C' a' W' hq S' hf' _ hG' hB => ?_
  obtain ⟨Ds, h1, h2, h3⟩ := S'.defers
  obtain ⟨I2, l2, k2⟩ := putMarks_ok Ds W' S'.inv h1 h3
  obtain ⟨he, v, hv, hr⟩ := hQ e σ' C' { tmps := a'.tmps, defers := [] } (putMarks Ds W') hq ⟨fun x => (S'.rep x).le0 l2, I2, S'.size, .none _ _⟩ (gh.keep _ _ _ _ _ hG' (fun _ => Iff.rfl) (k2.sub fun b hb => hb.2)) (hB.trans k2.below)
  have key : LeavesInM Fence.wide 0 P fn a'.tmps R a'.defers .returning W' := by
    rw [h2]
    exact leaves_marks Ds W' h1 (fun D hD => (h3 D hD).2) ⟨v, hv, hr⟩
  rcases he with rfl | rfl <;> exact key
/-- THE MACHINE SERVES: what a function's text comes to in the machine, its call comes to in the world. -/
theorem sound_intro (hm : P.follows .mixedOrders = true) {f : FuncId} {fn : Func} {c : Code} (X : List Nat) {args : List AV} {r : AV} (hf : P.funcs[f]? = some fn) (hb : fn.body = some c) (hN : args.length ≤ fn.ntmps)
    (hk : codeOk fn.ntmps X c = true) (h : WP P X c (fun e σ => (e = .normal ∨ e = .ret) ∧ RetOk P fn.results.toList σ r) ⟨fun n => args.getD n .undef, fun _ => .none, 0, fun _ => .bad, .off⟩) : Sound P f args r := by
  intro S W us hT hS hlen hrep
  have I0 : Inv P { S0 := S, S := S, ι := fun _ => 0, θ := fun _ => Go.undef } (fun _ => .none) W W.heap.size :=
    ⟨hS, Nat.le_refl _, fun id cs hp => (by cases hp), fun id cs hp => (by cases hp), fun id cs hp => (by cases hp), fun t e sz n ht => (by cases ht), fun i j b hi => (by cases hi), fun b o hs => .inl hs, fun b hb => hb.elim, fun b hb => hb.elim, fun _ _ h => h, hT, fun t e sz xs ht => (by cases ht)⟩
  refine calls_of_WP hm X (h0 := fun _ => .none) (k0 := 0) (fun _ => rfl) hf hb hN hk h hlen (fun j x hx => RepT.of_rep (hrep j x hx)) (C := { S0 := S, S := S, ι := fun _ => 0, θ := fun _ => Go.undef }) I0 (G := fun y C Wx => y = .off ∧ (∀ b o, S b o → C.S b o) ∧ (∀ b o, C.S b o → S b o ∨ W.heap.size ≤ b)) ⟨?_, ?_⟩ ⟨rfl, fun _ _ h => h, fun _ _ h => .inl h⟩ ?_
  · rintro y C W1 C' W2 ⟨h1, h2, h3⟩ _ k
    exact ⟨h1, fun b o hs => k.clS b o (h2 b o hs), fun b o hs => (k.nb b o hs).elim (h3 b o) fun hq => .inr hq.2⟩
  · rintro l x rest C W vs ⟨h1, _⟩; cases h1
  rintro e σ' C' a' W' hq S' ⟨_, hsub, hnew⟩ hB
  obtain ⟨he, hret⟩ := hq
  refine ⟨he, ?_⟩
  have goal : ∃ v, (results fn a'.tmps).run P W' = .ok v W' ∧ ∃ (u : Value) (S'' : Nat → Nat → Prop), Ending.returned v = .returned u ∧ Below W.heap.size W W' ∧ (∀ b o, S b o → S'' b o) ∧
      (∀ b o, S'' b o → S b o ∨ W.heap.size ≤ b) ∧ (∀ b o, S'' b o → (W'.cell? ⟨b, o, none⟩).isSome = true) ∧ RetRep P S'' W' W.heap.size r u := by
    unfold RetOk at hret
    cases hrl : resList P σ' fn.results.toList with
    | none => rw [hrl] at hret; exact hret.elim
    | some vs =>
      rw [hrl] at hret
      obtain ⟨ws, hrun, hl, hc⟩ := resList_run S' _ vs hrl
      have hrun' : (results fn a'.tmps).run P W' = .ok (if h : ws.toArray.size = 1 then ws.toArray[0] else .tuple ws.toArray) W' := by
        rw [results_eq, Sem.run_bind, Array.mapM_eq_mapM_toList, Sem.run_map, hrun]
        rfl
      have simpleRet : ∀ {S2 : Nat → Nat → Prop} {q : AV} {u : Value}, Rep S2 W' q u → RetRep P S2 W' W.heap.size q u := fun {S2 q u} hq => by
        cases q with
        | sl o xs => cases o <;> first | exact hq | cases hq
        | _ => exact hq
      have tupCase : ∀ vs', vs = vs' → (match retL vs' with | some ws => r = .tup ws | none => False) → ws.length ≠ 1 → ∃ v, (results fn a'.tmps).run P W' = .ok v W' ∧ ∃ (u : Value) (S'' : Nat → Nat → Prop), Ending.returned v = .returned u ∧ Below W.heap.size W W' ∧ (∀ b o, S b o → S'' b o) ∧
          (∀ b o, S'' b o → S b o ∨ W.heap.size ≤ b) ∧ (∀ b o, S'' b o → (W'.cell? ⟨b, o, none⟩).isSome = true) ∧ RetRep P S'' W' W.heap.size r u := by
        rintro vs' rfl hret hne
        cases hrt : retL vs with
        | none => rw [hrt] at hret; exact hret.elim
        | some rs =>
          rw [hrt] at hret
          subst hret
          refine ⟨_, hrun', _, C'.S, rfl, hB, hsub, hnew, S'.inv.has, ?_⟩
          rw [dif_neg (by simpa using hne)]
          have key : ∀ (vs rs : List AV) (us : List Value), retL vs = some rs → us.length = vs.length → (∀ j x, vs[j]? = some x → RepT C' W' σ'.h x (us.getD j Go.undef)) →
              rs.length = us.length ∧ ∀ j x, rs[j]? = some x → Rep C'.S W' x (us.getD j Go.undef) := by
            intro vs
            induction vs with
            | nil => intro rs us hr hl _; simp only [retL, Option.some.injEq] at hr; subst hr; exact ⟨by simpa using hl.symm, fun j x hx => by simp at hx⟩
            | cons v vs ih =>
              intro rs us hr hl hc
              simp only [retL] at hr
              cases h1 : ret1 v with
              | none => rw [h1] at hr; cases hr
              | some q =>
                cases h2 : retL vs with
                | none => rw [h1, h2] at hr; cases hr
                | some qs =>
                  rw [h1, h2] at hr
                  simp only [Option.some.injEq] at hr
                  subst hr
                  cases us with
                  | nil => simp at hl
                  | cons u us =>
                    obtain ⟨g1, g2⟩ := ih qs us h2 (by simpa using hl) (fun j x hx => by simpa [List.getD] using hc (j + 1) x (by simpa using hx))
                    refine ⟨by simp [g1], fun j x hx => ?_⟩
                    cases j with
                    | zero => simp at hx; subst hx; exact ret1_rep (hc 0 v rfl) h1
                    | succ j => simpa [List.getD] using g2 j x (by simpa using hx)
          obtain ⟨g1, g2⟩ := key vs rs ws hrt hl hc
          exact Rep.tup rs ws g1.symm g2
      rcases vs with _ | ⟨v, _ | ⟨v2, vs⟩⟩
      · exact tupCase [] rfl hret (by simp at hl; simp [hl])
      · -- one result
        simp only at hret
        have hw1 : ws.length = 1 := by simpa using hl
        obtain ⟨w, rfl⟩ : ∃ w, ws = [w] := by
          cases ws with
          | nil => simp at hw1
          | cons w ws => cases ws with
            | nil => exact ⟨w, rfl⟩
            | cons _ _ => simp at hw1
        have hrv : RepT C' W' σ'.h v w := by simpa using hc 0 v rfl
        rcases hret with h1 | h1 | ⟨ids, h1⟩
        · exact ⟨w, by simpa using hrun', w, C'.S, rfl, hB, hsub, hnew, S'.inv.has, simpleRet (ret1_rep hrv h1)⟩
        rotate_left
        · obtain ⟨I2, l2⟩ := S'.inv.close ids
          refine ⟨w, by simpa using hrun', w, sealS C' σ'.h ids, rfl, hB, fun b o hs => .inl (hsub b o hs), fun b o hs => ?_, I2.has, simpleRet (pass_rep S'.inv hrv h1 (fun _ _ hs => .inl hs) (fun id hid cs hk => sealS_peek S'.inv hid hk))⟩
          rcases hs with hs | ⟨id, cs, _, hb, rfl, _⟩
          · exact hnew b o hs
          · exact .inr (S'.inv.own_lt (id := id) (by rw [hb]; rfl)).1
        · refine ⟨w, by simpa using hrun', w, C'.S, rfl, hB, hsub, hnew, S'.inv.has, ?_⟩
          split at h1
          · rename_i tg xs e sz ys
            obtain ⟨hlv, rfl⟩ := h1
            obtain ⟨q1, q2⟩ := hrv
            rw [hlv] at q2
            obtain ⟨_, q3, q4⟩ := q2
            obtain ⟨q5, q6⟩ := S'.inv.live tg e sz _ hlv
            exact ⟨q1, by rw [q3]; exact q6, q5, q4⟩
          · rename_i xs e sz ys
            obtain ⟨rfl, rfl, hsz⟩ := h1
            obtain ⟨_, A, rfl⟩ := hrv
            exact ⟨.slE A 0, .inl ⟨rfl, A, rfl⟩, hsz, by simp⟩
          · rename_i tg e sz ys
            obtain ⟨_, q2, _⟩ := hrv
            have := S'.inv.fr tg e sz ys h1
            rw [← q2] at this
            exact this
          · rename_i xs e sz ys
            obtain ⟨rfl, rfl, hsz, hpos⟩ := h1
            obtain ⟨_, A, rfl⟩ := hrv
            exact ⟨hsz, hpos, by simp, .inl ⟨rfl, A, rfl⟩⟩
          · exact h1.elim
      · exact tupCase (v :: v2 :: vs) rfl hret (by simp at hl; simp [hl])
  obtain ⟨v, hv, hrest⟩ := goal
  exact ⟨v, hv, hrest⟩
/-- AN ITERATOR's CONTRACT, by its text. -/
theorem iter_intro (hm : P.follows .mixedOrders = true) {g : FuncId} {fn : Func} {c : Code} (X : List Nat) {caps : List AV} {xs : List (List AV)} (hf : P.funcs[g]? = some fn) (hb : fn.body = some c) (hN : caps.length + 1 ≤ fn.ntmps)
    (hk : codeOk fn.ntmps X c = true) (hr : fn.results = #[])
    (h : ∀ l, WP P X c (fun e σ => (e = .normal ∨ e = .ret) ∧ (σ.y = .more l [] ∨ σ.y = .stop)) ⟨fun n => (AV.yl l :: caps).getD n .undef, fun _ => .none, 0, fun _ => .bad, .more l xs⟩) : IterS P g caps xs := by
  intro B S W us l D0 G hT hS hB hD0 hul hrep hab hround hG0
  have I0 : Inv P { T := D0, S0 := S, S := S, ι := fun _ => 0, θ := fun _ => Go.undef } (fun _ => .none) W B :=
    ⟨hS, hB, fun id cs hp => (by cases hp), fun id cs hp => (by cases hp), fun id cs hp => (by cases hp), fun t e sz n ht => (by cases ht), fun i j b hi => (by cases hi), fun b o hs => .inl hs, fun b hb => ⟨hD0 b hb, fun id ho => by cases ho⟩, fun b hb => hb.elim, fun _ _ h => h, hT, fun t e sz xs ht => (by cases ht)⟩
  have earr : #[Value.func (.yield l) #[] #[]] ++ us.toArray = (Value.func (.yield l) #[] #[] :: us).toArray := by simp
  rw [earr]
  have hext : ∀ {D D' : Nat → Prop}, (∀ b, D b ↔ D' b) → D = D' := fun hd => funext fun b => propext (hd b)
  refine calls_of_WP hm X (h0 := fun _ => .none) (k0 := 0) (fun _ => rfl) hf hb (by simpa using hN) hk (h l) (by simp [hul]) (fun j x hx => ?_) (C := { T := D0, S0 := S, S := S, ι := fun _ => 0, θ := fun _ => Go.undef }) I0
    (G := fun y C Wx => match y with | .more l' ys => l' = l ∧ G (some ys) C.D C.S Wx | .stop => G none C.D C.S Wx | .off => False) ⟨?_, ?_⟩ ?_ ?_
  · cases j with
    | zero => simp at hx; subst hx; exact RepT.of_rep (.yl l)
    | succ j => exact RepT.of_rep (by simpa [List.getD] using hrep j x (by simpa using hx))
  · intro y C W1 C' W2 hg hD k
    have e : C'.D = C.D := hext hD
    cases y with
    | off => exact hg
    | more l' ys => exact ⟨hg.1, by rw [e]; exact hab _ _ _ _ _ _ hg.2 k⟩
    | stop => show G none C'.D C'.S W2; rw [e]; exact hab _ _ _ _ _ _ hg k
  · rintro l' x rest C W1 vs ⟨rfl, hg⟩ hh htb hmn hvl hvr
    obtain ⟨fn', tmps, assign, body, hy, hr'⟩ := hround x rest C.D C.S W1 vs hg hh (fun b hb => htb b hb.1) hvl hvr
    refine ⟨fn', tmps, assign, body, hy, hr'.mono ?_⟩
    rintro e W2 ⟨b, D2, S2, rfl, k, hD2, hg2⟩
    have hDM : ∀ q, D2 q → ¬ C.M q := fun q hq hm => by
      rcases (hD2 q hq).1 with h1 | h1
      · exact h1.2 hm
      · have := htb q (hmn q hm).1; omega
    have e2 : Ctx.D { C with S := S2, T := fun q => D2 q ∨ C.M q } = D2 := hext fun q => ⟨fun hq => hq.1.elim id fun hm => absurd hm hq.2, fun hq => ⟨.inl hq, hDM q hq⟩⟩
    refine ⟨b, { C with S := S2, T := fun q => D2 q ∨ C.M q }, rfl, ?_, ⟨k, rfl, rfl, rfl, rfl, fun q hq => .inr hq, fun q hq => ?_, fun q hq => ?_⟩⟩
    · cases b with
      | true => exact ⟨rfl, by rw [e2]; exact hg2⟩
      | false => show G none (Ctx.D _) S2 W2; rw [e2]; exact hg2
    · rcases hq with hq | hq
      · exact (hD2 q hq).1.imp (fun h => h.1) id
      · exact .inl (hmn q hq).1
    · rcases hq with hq | hq
      · exact (hD2 q hq).2
      · exact Nat.lt_of_lt_of_le (htb q (hmn q hq).1) k.below.size
  · have e0 : Ctx.D { T := D0, S0 := S, S := S, ι := fun _ => 0, θ := fun _ => Go.undef } = D0 := hext fun q => ⟨fun hq => hq.1, fun hq => ⟨hq, fun h => h⟩⟩
    exact ⟨rfl, by rw [e0]; exact hG0⟩
  · rintro e σ C' a W' ⟨he, hy⟩ S' hg hB
    refine ⟨he, .tuple #[], ?_, ⟨_, rfl⟩, C'.D, C'.S, ?_⟩
    · have h0 : (([] : List ResultVar).mapM (resV a.tmps)).run P W' = .ok [] W' := by simp
      rw [results_eq, hr, Sem.run_bind, Array.mapM_eq_mapM_toList, Sem.run_map, h0]
      rfl
    · rcases hy with hy | hy <;> rw [hy] at hg
      · exact .inl hg.2
      · exact .inr hg
end
/-! ### what is known of types and functions -/
inductive Z where
  | int (k : IntKind) (n : Int)
  | bool (b : Bool)
  | str0
  | nilP
  | nilF
  | sl0
  deriving DecidableEq, Inhabited
def Z.av : Z → AV
  | .int k n => .int k n
  | .bool b => .bool b
  | .str0 => .str ⟨#[]⟩
  | .nilP => .nilP
  | .nilF => .nilF
  | .sl0 => .sl .zero []
structure TI where
  ok : Bool := false
  agg : Bool := false
  cells : Nat := 0
  bytes : Nat := 0
  zero : Option (List Z) := none
  offs : List (Option Nat) := []
  flds : Option (List (Nat × Nat)) := none
  el : Option Nat := none
  arr : Option (Nat × Nat) := none
  ik : Option IntKind := none
  isBool : Bool := false
  eq : Bool := false
  deriving Inhabited
structure Tb where
  ti : Nat → TI
  fn : Nat → Bool
structure TIok (P : Program) (ty : TypeId) (x : TI) : Prop where
  ok : x.ok = true → okTy P ty = true ∧ isAggB P ty = x.agg ∧ P.cellsOf ty = x.cells ∧ P.bytesOf ty = x.bytes
  zero : ∀ z, x.zero = some z → zeroC P ty = some (z.map Z.av)
  offs : ∀ i n, x.offs[i]? = some (some n) → fieldOff P ty i = some n
  flds : ∀ l, x.flds = some l → ∃ fs : Array Field, P.underlying ty = some (.struct fs) ∧ (fs.toList.map fun f => (f.offset, P.cellsOf f.type)) = l ∧ ∀ f ∈ fs, (P.info? f.type).isSome = true
  el : ∀ e, x.el = some e → sliceElem P ty = some e
  arr : ∀ p, x.arr = some p → arrayElem P ty = some p
  ik : ∀ k, x.ik = some k → intKind P ty = some k
  isBool : x.isBool = true → P.underlying ty = some .bool
  eq : x.eq = true → EqStruct P ty x.cells
structure TbOk (P : Program) (tb : Tb) : Prop where
  ti : ∀ ty, TIok P ty (tb.ti ty)
  fn : ∀ g, tb.fn g = true → ∃ fn c, P.funcs[g]? = some fn ∧ fn.body = some c ∧ fn.name ≠ "runtime.NumGoroutine"
/-! ### what the evaluator stops at -/
structure Br (b : Bool) (A B : Prop) : Prop where
  yes : b = true → A
  no : b = false → B
structure Nd (p A : Prop) : Prop where
  need : p
  on : A
structure CallG (P : Program) (g : Nat) (az : List AV) (K : AV → Prop) : Prop where
  ex : ∃ r, Sound P g az r ∧ K r
structure Ix (xs : List (List AV)) (i : Int) (sz : Nat) (K : List AV → Prop) : Prop where
  ge : 0 ≤ i
  ex : ∃ el, xs[i.toNat]? = some el ∧ el.length = sz ∧ K el
structure LenG (xs : List (List AV)) (K : Int → Prop) : Prop where
  on : K xs.length
structure FnG (tb : Tb) (g : Nat) (A : Prop) : Prop where
  ok : tb.fn g = true
  on : A
/-- A range over a function. -/
structure RfG (P : Program) (X : List Nat) (f : Operand) (ps : Array Tmp) (assign body : Code) (Q : AE → St → Prop) (σ : St) : Prop where
  wp : WP P X (.rangeFunc f ps assign body) Q σ
/-- A call of yield: A: it says yes, Bp: it says no. -/
structure YG (y : Yt) (l : Nat) (x : List AV) (A : List (List AV) → Prop) (Bp : Prop) : Prop where
  ex : ∃ rest, y = .more l (x :: rest) ∧ A rest ∧ Bp
structure Lp (P : Program) (X : List Nat) (c : Code) (Q : AE → St → Prop) (σ : St) : Prop where
  wp : WP P X (.loop c) Q σ
structure RetG (P : Program) (h : AHeap) (vs : List AV) (r : AV) : Prop where
  ret : match vs with
    | [v] => ret1 v = some r ∨
      (match v, r with
       | .sl (.tag t) xs, .sl (.own e sz) ys => h t = .live e sz xs.length ∧ xs = ys
       | .sl .zero xs, .sl (.own e sz) ys => xs = [] ∧ ys = [] ∧ sz = P.cellsOf e
       | .fs t, .sl (.fown e sz) ys => h t = .fresh e sz ys
       | .sl .zero xs, .sl (.fown e sz) ys => xs = [] ∧ ys = [] ∧ sz = P.cellsOf e ∧ 0 < sz
       | _, _ => False) ∨ ∃ ids, pass h v = some (r, ids)
    | vs => match retL vs with
      | some ws => r = .tup ws
      | none => False
def Chk (b : Bool) (A : Prop) : Prop := match b with
  | true => A
  | false => False
theorem Chk.elim {b : Bool} {A : Prop} (h : Chk b A) : b = true ∧ A := by
  cases b
  · exact False.elim h
  · exact ⟨rfl, h⟩
/-! ### forced values -/
def forceL0 : List AV → (List AV → Prop) → Prop
  | [], K => K []
  | x :: r, K => forceL0 r fun r' => K (x :: r')
theorem forceL0_eq : ∀ (l : List AV) (K : List AV → Prop), forceL0 l K ↔ K l
  | [], K => Iff.rfl
  | x :: r, K => by simp only [forceL0]; exact forceL0_eq r _
def forceV (v : AV) (K : AV → Prop) : Prop :=
  match v with
  | .bad => K .bad
  | .undef => K .undef
  | .nilP => K .nilP
  | .nilF => K .nilF
  | .int k n => K (.int k n)
  | .bool b => K (.bool b)
  | .str s => K (.str s)
  | .sl o xs => K (.sl o xs)
  | .ag cs => forceL0 cs fun cs => K (.ag cs)
  | .tup vs => forceL0 vs fun vs => K (.tup vs)
  | .rp cs => K (.rp cs)
  | .op i o => K (.op i o)
  | .fn f cs => forceL0 cs fun cs => K (.fn f cs)
  | .yl l => K (.yl l)
  | .fs t => K (.fs t)
  | .ms id lo n c sz => K (.ms id lo n c sz)
  | .mp id off => K (.mp id off)
theorem forceV_eq (v : AV) (K : AV → Prop) : forceV v K ↔ K v := by cases v <;> simp only [forceV, forceL0_eq]
def forceL : List AV → (List AV → Prop) → Prop
  | [], K => K []
  | x :: r, K => forceV x fun x' => forceL r fun r' => K (x' :: r')
theorem forceL_eq : ∀ (l : List AV) (K : List AV → Prop), forceL l K ↔ K l
  | [], K => Iff.rfl
  | x :: r, K => by simp only [forceL, forceV_eq]; exact forceL_eq r _
def forceLL : List (List AV) → (List (List AV) → Prop) → Prop
  | [], K => K []
  | x :: r, K => forceL x fun x' => forceLL r fun r' => K (x' :: r')
theorem forceLL_eq : ∀ (l : List (List AV)) (K : List (List AV) → Prop), forceLL l K ↔ K l
  | [], K => Iff.rfl
  | x :: r, K => by simp only [forceLL, forceL_eq]; exact forceLL_eq r _
def evL (t : Nat → AV) (l : List Operand) (K : List AV → Prop) : Prop := forceL (l.map (evA t)) K
def takeG (x : TI) (cs : List AV) (K : AV → Prop) : Prop :=
  Chk x.ok (match x.agg with
    | true => Chk (Nat.ble x.cells cs.length) (forceL (cs.take x.cells) fun l => K (.ag l))
    | false => match cs with
      | v :: _ => forceV v K
      | [] => False)
theorem takeG_sound {P : Program} {ty : TypeId} {x : TI} (hx : TIok P ty x) {cs : List AV} {K : AV → Prop} (h : takeG x cs K) : okTy P ty = true ∧ ∃ v, takeV P ty cs = some v ∧ K v := by
  obtain ⟨h1, h2⟩ := Chk.elim h
  obtain ⟨k1, k2, k3, k4⟩ := hx.ok h1
  refine ⟨k1, ?_⟩
  unfold takeV
  rw [k2, k3]
  cases ha : x.agg <;> rw [ha] at h2 <;> simp only at h2
  · cases cs with
    | nil => exact h2.elim
    | cons v r => exact ⟨v, rfl, (forceV_eq _ _).1 h2⟩
  · obtain ⟨h3, h4⟩ := Chk.elim h2
    rw [if_pos rfl, if_pos (Nat.le_of_ble_eq_true h3)]
    exact ⟨_, rfl, (forceL_eq _ _).1 h4⟩
/-- A load from a row of one of the machine's own slices. -/
structure LdR (tb : Tb) (ty : TypeId) (cs : List AV) (off : Nat) (K : AV → Prop) : Prop where
  ex : ∃ row v, (cs.drop off).take row.length = row ∧ takeG (tb.ti ty) row (fun w => w = v) ∧ K v
theorem takeV_more {P : Program} {ty : TypeId} {cs row : List AV} {v : AV} (hr : cs.take row.length = row) (hv : takeV P ty row = some v) : takeV P ty cs = some v := by
  have hpre : ∀ j x, row[j]? = some x → cs[j]? = some x := fun j x hj => by
    rw [← hr, List.getElem?_take] at hj
    split at hj
    · exact hj
    · cases hj
  have hle : row.length ≤ cs.length := by
    have := congrArg List.length hr; simp at this; omega
  unfold takeV at hv ⊢
  split at hv
  · rename_i ha
    rw [if_pos ha]
    split at hv
    · rename_i h1
      rw [if_pos (by omega)]
      rw [← hv, ← hr, List.take_take, Nat.min_eq_left h1]
    · cases hv
  · rename_i ha
    rw [if_neg ha]
    rw [List.head?_eq_getElem?] at hv ⊢
    exact hpre 0 v hv
def sealAll (ids : List Nat) (h : AHeap) (K : AHeap → Prop) : Prop :=
  match ids with
  | [] => K h
  | i :: r => match h i with
    | .box cs => sealAll r (upd h i (.sealed cs)) K
    | .sealed _ => sealAll r h K
    | _ => False
theorem sealAll_sound : ∀ (ids : List Nat) (h : AHeap) (K : AHeap → Prop), sealAll ids h K → K (fun j => if j ∈ ids then sealO (h j) else h j)
  | [], h, K, hk => by simpa [sealAll] using hk
  | i :: r, h, K, hk => by
    simp only [sealAll] at hk
    split at hk
    · rename_i cs e
      have := sealAll_sound r _ K hk
      refine cast (congrArg K ?_) this
      funext j
      by_cases hj : j = i
      · subst hj
        by_cases hr : j ∈ r <;> simp [upd, hr, e, sealO]
      · simp [upd, hj]
    · rename_i cs e
      have := sealAll_sound r _ K hk
      refine cast (congrArg K ?_) this
      funext j
      by_cases hj : j = i
      · subst hj
        by_cases hr : j ∈ r <;> simp [hr, e, sealO]
      · simp [hj]
    · exact hk.elim
/-- What a call gives back, taken in. -/
def adoptG (i : Nat) (r : AV) (h : AHeap) (K : AV → AHeap → Prop) : Prop :=
  match r with
  | .sl (.own e sz) xs => K (.sl (.tag i) xs) (upd h i (.live e sz xs.length))
  | .sl (.fown e sz) xs => K (.fs i) (upd h i (.fresh e sz xs))
  | r => forceV r fun v => K v h
theorem adoptG_sound {i : Nat} {r : AV} {h h' : AHeap} {ids : List Nat} {K : AV → AHeap → Prop} (e : h' = fun j => if j ∈ ids then sealO (h j) else h j) (hk : adoptG i r h' K) :
    K (adopt i r) ((Eff.call ids (adoptO r)).app' i h) := by
  subst e
  unfold adoptG at hk
  split at hk
  · exact hk
  · exact hk
  · rename_i hne hne2
    rw [forceV_eq] at hk
    cases r with
    | sl o xs => cases o <;> first | exact hk | exact absurd rfl (hne _ _ _) | exact absurd rfl (hne2 _ _ _)
    | _ => exact hk
/-- Where a struct's parts lie. -/
def fillG (place : Nat → Option (Nat × Nat)) (cells : List AV) : List (Nat × AV) → (List AV → Prop) → Prop
  | [], K => K cells
  | (i, v) :: rest, K =>
    match place i with
    | some (off, size) => match cellsA v with
      | some vc => Chk (Nat.beq vc.length size && Nat.ble (off + vc.length) cells.length) (forceL (splice cells off vc) fun cells => fillG place cells rest K)
      | none => False
    | none => False
theorem fillG_sound {place : Nat → Option (Nat × Nat)} {K : List AV → Prop} : ∀ (l : List (Nat × AV)) (cells : List AV), fillG place cells l K → ∃ cs, fillA place cells l = some cs ∧ K cs
  | [], cells, h => ⟨cells, rfl, h⟩
  | (i, v) :: rest, cells, h => by
    simp only [fillG] at h
    simp only [fillA]
    cases hp : place i with
    | none => rw [hp] at h; exact h.elim
    | some p =>
      obtain ⟨off, size⟩ := p
      rw [hp] at h
      simp only at h ⊢
      cases hc : cellsA v with
      | none => rw [hc] at h; exact h.elim
      | some vc =>
        rw [hc] at h
        simp only at h ⊢
        obtain ⟨h1, h2⟩ := Chk.elim h
        rw [forceL_eq] at h2
        simp only [Bool.and_eq_true] at h1
        rw [if_pos ⟨Nat.eq_of_beq_eq_true h1.1, Nat.le_of_ble_eq_true h1.2⟩]
        exact fillG_sound rest _ h2
def intsG : List AV → (List Int → Prop) → Prop
  | [], K => K []
  | .int .i64 n :: r, K => intsG r fun l => K (n :: l)
  | _, _ => False
theorem intsG_sound : ∀ (l : List AV) (K : List Int → Prop), intsG l K → ∃ m, ints l = some m ∧ K m
  | [], K, h => ⟨[], rfl, h⟩
  | x :: r, K, h => by
    unfold intsG at h
    split at h
    · rename_i e; cases e
    · rename_i n r' e
      injection e with e1 e2
      subst e1; subst e2
      obtain ⟨m, hm, hk⟩ := intsG_sound r _ h
      exact ⟨n :: m, by simp [ints, hm], hk⟩
    · exact h.elim
def passG (h : AHeap) (az : List AV) (K : List AV → List Nat → Prop) : Prop :=
  match passAll h az with
  | some (as', ids) => forceL as' fun as' => K as' ids
  | none => False
def intG (op : BinOp) (k : IntKind) (x y : Int) (K : AV → Prop) : Prop :=
  match op with
  | .add => K (.int k (k.wrap (x + y)))
  | .sub => K (.int k (k.wrap (x - y)))
  | .mul => K (.int k (k.wrap (x * y)))
  | .quo => Nd (y ≠ 0) (K (.int k (k.wrap (x.tdiv y))))
  | .rem => Nd (y ≠ 0) (K (.int k (x.tmod y)))
  | .eql => K (.bool (x == y))
  | .neq => K (.bool (x != y))
  | .lss => K (.bool (decide (x < y)))
  | .leq => K (.bool (decide (x ≤ y)))
  | .gtr => K (.bool (decide (x > y)))
  | .geq => K (.bool (decide (x ≥ y)))
  | .shr => Nd (0 ≤ y) (K (.int k (x.fdiv (2 ^ (min y.toNat k.bits)))))
  | .shl => Nd (0 ≤ y) (K (.int k (k.wrap (x * 2 ^ (min y.toNat k.bits)))))
  | .and => K (.int k (k.wrap ((BitVec.ofInt k.bits x &&& BitVec.ofInt k.bits y).toNat : Int)))
  | _ => False
theorem intG_sound {op : BinOp} {k : IntKind} {x y : Int} {K : AV → Prop} (h : intG op k x y K) : ∃ v, intBin op k x y = some v ∧ K v := by
  cases op <;> simp only [intG] at h <;> simp only [intBin] <;> first
    | exact ⟨_, rfl, h⟩
    | exact h.elim
    | (rw [if_neg h.need]; exact ⟨_, rfl, h.on⟩)
    | (rw [if_pos h.need]; exact ⟨_, rfl, h.on⟩)
def DecEqK : (a b : IntKind) → Bool
  | a, b => decide (a = b)
/-- One operation. -/
def EXS (P : Program) (tb : Tb) (i : Nat) (t : Nat → AV) (h : AHeap) (o : Op) (K : AV → AHeap → List Nat → Prop) : Prop :=
  match o with
  | .move x | .assign x => forceV (evA t x) fun v => K v h []
  | .pick c a b => match evA t c with
    | .bool true => forceV (evA t a) fun v => K v h []
    | .bool false => forceV (evA t b) fun v => K v h []
    | _ => False
  | .alloc e => match (tb.ti e).zero with
    | some z => forceL (z.map Z.av) fun cs => K (.op i 0) (upd h i (.box cs)) []
    | none => False
  | .box _ x => match cellsA (evA t x) with
    | some cs => forceL cs fun cs => K (.op i 0) (upd h i (.box cs)) []
    | none => False
  | .build ty parts => match (tb.ti ty).zero with
    | some z => match (tb.ti ty).flds with
      | some l => fillG (fun j => l[j]?) (z.map Z.av) (parts.toList.map fun (j, x) => (j, evA t x)) fun cs => K (.ag cs) h []
      | none => match (tb.ti ty).arr with
        | some (_, e) => Chk (tb.ti e).ok (fillG (fun j => some (j * (tb.ti e).cells, (tb.ti e).cells)) (z.map Z.av) (parts.toList.map fun (j, x) => (j, evA t x)) fun cs => K (.ag cs) h [])
        | none => False
    | none => False
  | .buildSlice ty len parts => match (tb.ti ty).el with
    | some e => match len with
      | 0 => Chk (parts.toList.isEmpty) (K (.sl .zero []) h [])
      | len + 1 => match (tb.ti e).zero with
        | some z => Chk ((tb.ti e).ok && (Nat.ble 1 (tb.ti e).cells) && Nat.ble ((len + 1) * (tb.ti e).cells) 1000 && Nat.beq z.length (tb.ti e).cells)
          (fillG (fun j => some (j * (tb.ti e).cells, (tb.ti e).cells)) (List.replicate ((len + 1) * (tb.ti e).cells) .bad) (parts.toList.map fun (j, x) => (j, evA t x)) fun cs =>
            Chk (cs.all isAtom && cs.all pure0) (forceLL (chunks (len + 1) (tb.ti e).cells (cs.map forget0)) fun xs => K (.sl (.tag i) xs) (upd h i (.live e (tb.ti e).cells (len + 1))) []))
        | none => False
    | none => False
  | .load ty x => match evA t x with
    | .op id off => match h id with
      | .box cs => takeG (tb.ti ty) (cs.drop off) fun v => K v h [id]
      | .sealed cs => takeG (tb.ti ty) (cs.drop off) fun v => K v h [id]
      | _ => False
    | .rp cs => takeG (tb.ti ty) cs fun v => K v h []
    | .mp id off => match h id with
      | .box cs => LdR tb ty cs off fun v => K v h [id]
      | _ => False
    | _ => False
  | .store ty x y => Chk (tb.ti ty).ok (match evA t x with
    | .op id off => match cellsA (evA t y) with
      | some cs => match h id with
        | .box old => Chk (Nat.beq cs.length (tb.ti ty).cells && cs.all isAtom && Nat.ble (off + cs.length) old.length) (forceL (splice old off cs) fun new => K .undef (upd h id (.box new)) [id])
        | _ => False
      | none => False
    | _ => False)
  | .nilCheck x => match evA t x with
    | .op id off => K (.op id off) h []
    | .rp cs => K (.rp cs) h []
    | _ => False
  | .binOp op ty x y _ => match evA t x, evA t y with
    | .int k a, .int k' b => Chk (DecEqK k k') (intG op k a b fun v => K v h [])
    | .bool a, .bool b => Chk (tb.ti ty).isBool (match op with
      | .eql => K (.bool (a == b)) h []
      | .neq => K (.bool (a != b)) h []
      | _ => False)
    | .ag a, .ag b => Chk ((tb.ti ty).eq && Nat.beq a.length (tb.ti ty).cells && Nat.beq b.length (tb.ti ty).cells) (intsG a fun l => intsG b fun m => match op with
      | .eql => K (.bool (l == m)) h []
      | .neq => K (.bool (l != m)) h []
      | _ => False)
    | _, _ => False
  | .unOp op _ x => match op, evA t x with
    | .not, .bool b => K (.bool (!b)) h []
    | .neg, .int k n => K (.int k (k.wrap (0 - n))) h []
    | _, _ => False
  | .convert s ty x => Chk (tb.ti s).ok (match (tb.ti ty).ik, evA t x with
    | some k, .int _ n => K (.int k (k.wrap n)) h []
    | _, _ => False)
  | .makeFunc (.func f) first caps => Chk first.toList.isEmpty (evL t caps.toList fun cs => Chk (cs.all (fun x => pure0 x || !pureC x)) (forceL (cs.map forget0) fun cs => K (.fn f cs) h []))
  | .slice ty x lo hi mx => match evA t x with
    | .sl _ xs => match (tb.ti ty).el with
      | some e => match lo, hi, mx with
        | none, none, none => K (.sl .no xs) h []
        | some y, none, none => match evA t y with
          | .int _ l => Chk (tb.ti e).ok (Nd (0 ≤ l ∧ l ≤ xs.length ∧ ∀ y ∈ xs, y.length = (tb.ti e).cells) (K (.sl .no (xs.drop l.toNat)) h []))
          | _ => False
        | none, some z, none => match evA t z with
          | .int _ n => Nd (0 ≤ n ∧ n ≤ xs.length) (K (.sl .no (xs.take n.toNat)) h [])
          | _ => False
        | some y, some z, none => match evA t y, evA t z with
          | .int _ l, .int _ n => Chk (tb.ti e).ok (Nd (0 ≤ l ∧ l ≤ n ∧ n ≤ xs.length ∧ ∀ y ∈ xs, y.length = (tb.ti e).cells) (K (.sl .no ((xs.take n.toNat).drop l.toNat)) h []))
          | _, _ => False
        | none, some y, some z => match evA t y, evA t z with
          | .int _ n, .int _ m => Nd (n = 0 ∧ m = 0) (K (.sl .zero []) h [])
          | _, _ => False
        | _, _, _ => False
      | none => False
    | .op id 0 => match (tb.ti ty).arr, lo, hi, mx with
      | some (n, e), none, none, none => Chk (tb.ti e).ok (match h id with
        | .box cs => Chk (Nat.beq cs.length (n * (tb.ti e).cells) && cs.all pure0) (forceLL (chunks n (tb.ti e).cells (cs.map forget0)) fun xs => K (.sl .no xs) (upd h id (.sealed cs)) [id])
        | _ => False)
      | _, _, _, _ => False
    | .ms id l n c sz => match (tb.ti ty).el with
      | some e => match lo, hi, mx with
        | some y, none, none => match evA t y with
          | .int _ a => Chk ((tb.ti e).ok && Nat.beq sz (tb.ti e).cells) (Nd (0 ≤ a ∧ a ≤ n) (K (.ms id (l + a.toNat) (n - a.toNat) (c - a.toNat) sz) h []))
          | _ => False
        | none, some z, none => match evA t z with
          | .int _ b => Chk ((tb.ti e).ok && Nat.beq sz (tb.ti e).cells) (Nd (0 ≤ b ∧ b ≤ c) (K (.ms id l b.toNat c sz) h []))
          | _ => False
        | _, _, _ => False
      | none => False
    | _ => False
  | .fieldAddr s x f => match (tb.ti s).offs[f]? with
    | some (some n) => match evA t x with
      | .op id off => K (.op id (off + n)) h []
      | .rp cs => forceL (cs.drop n) fun cs => K (.rp cs) h []
      | _ => False
    | _ => False
  | .indexAddr ty x ix => match evA t x, evA t ix with
    | .sl _ xs, .int _ i => match (tb.ti ty).el with
      | some e => Chk (tb.ti e).ok (Ix xs i (tb.ti e).cells fun el => K (.rp el) h [])
      | none => False
    | .ms id l n _ sz, .int _ i => match (tb.ti ty).el with
      | some e => Chk ((tb.ti e).ok && Nat.beq sz (tb.ti e).cells) (Nd (0 ≤ i ∧ i < n) (K (.mp id ((l + i.toNat) * sz)) h []))
      | none => False
    | .op id off, .int _ j => match (tb.ti ty).arr with
      | some (n, e) => Chk (tb.ti e).ok (Nd (0 ≤ j ∧ j < n) (K (.op id (off + j.toNat * (tb.ti e).cells)) h []))
      | none => False
    | _, _ => False
  | .index ty x ix => match (tb.ti ty).arr, evA t x, evA t ix with
    | some (n, e), .ag cs, .int _ i => Nd (0 ≤ i ∧ i < n) (takeG (tb.ti e) (cs.drop (i.toNat * (tb.ti e).cells)) fun v => K v h [])
    | _, _, _ => False
  | .extract x j => match evA t x with
    | .tup vs => match vs[j]? with
      | some v => forceV v fun v => K v h []
      | none => False
    | _ => False
  | .call { callee := .builtin .len, args := ⟨[x]⟩, argTypes := ⟨[ty]⟩ } => match evA t x with
    | .sl _ xs => Chk (tb.ti ty).el.isSome (LenG xs fun n => K (.int .i64 n) h [])
    | _ => False
  | .call { callee := .builtin .min, args := ⟨[x, y]⟩, .. } => match evA t x, evA t y with
    | .int k a, .int _ b => K (.int k (if b < a then b else a)) h []
    | _, _ => False
  | .call { callee := .builtin .max, args := ⟨[x, y]⟩, .. } => match evA t x, evA t y with
    | .int k a, .int _ b => K (.int k (if b > a then b else a)) h []
    | _, _ => False
  | .call { callee := .builtin .append, args := ⟨[x, y]⟩, argTypes := ⟨[ty, ty']⟩ } => match (tb.ti ty).el with
    | some e => match (tb.ti e).zero, evA t x, evA t y with
      | some z, .sl o xs, .sl _ ys => Chk (Nat.beq ty' ty && (tb.ti e).ok && Nat.ble 1 (tb.ti e).cells && Nat.beq z.length (tb.ti e).cells)
        (Nd ((xs.length + ys.length) * (tb.ti e).bytes ≤ 140737488355328 ∧ xs.length + ys.length ≤ 9223372036854775807 ∧ ∀ y ∈ ys, y.length = (tb.ti e).cells ∧ y.all isAtom = true)
          (match o with
           | .zero => K (.sl (.tag i) (xs ++ ys)) (upd h i (.live e (tb.ti e).cells (xs.length + ys.length))) []
           | .tag tg => match h tg with
             | .live e' sz n' => Chk (Nat.beq e' e) (Nd (n' = xs.length) (K (.sl (.tag i) (xs ++ ys)) (upd (upd h tg .dead) i (.live e (tb.ti e).cells (xs.length + ys.length))) [tg]))
             | _ => False
           | _ => False))
      | _, _, _ => False
    | none => False
  | .call { callee := .value f, args, .. } => match evA t f with
    | .fn g caps => FnG tb g (passG h (args.toList.map (evA t) ++ caps) fun az ids => CallG P g az fun r => sealAll ids h fun h' => adoptG i r h' fun v h'' => K v h'' ids)
    | _ => False
  | _ => False
section
variable {P : Program} {tb : Tb} (T : TbOk P tb) {i : Nat} {t : Nat → AV} {h : AHeap} {o : Op} {K : AV → AHeap → List Nat → Prop}
include T
theorem ti_zero_len {e : TypeId} {z : List Z} (hz : (tb.ti e).zero = some z) : zeroC P e = some (z.map Z.av) := (T.ti e).zero z hz
theorem EXS_sound (hx : EXS P tb i t h o K) : ∃ v d fp, stepR P i t h o v d fp ∧ K v (d.app' i h) fp := by
  unfold EXS at hx
  split at hx
  · exact ⟨_, _, _, ⟨rfl, rfl, rfl⟩, (forceV_eq _ _).1 hx⟩
  · exact ⟨_, _, _, ⟨rfl, rfl, rfl⟩, (forceV_eq _ _).1 hx⟩
  · rename_i c a b
    split at hx
    · rename_i e
      exact ⟨_, .nop, [], ⟨by rw [e]; rfl, rfl, rfl⟩, (forceV_eq _ _).1 hx⟩
    · rename_i e
      exact ⟨_, .nop, [], ⟨by rw [e]; rfl, rfl, rfl⟩, (forceV_eq _ _).1 hx⟩
    · exact hx.elim
  · rename_i e
    split at hx
    · rename_i z hz
      rw [forceL_eq] at hx
      exact ⟨_, .new _, [], ⟨by rw [(T.ti e).zero z hz]; exact ⟨rfl, rfl⟩, rfl⟩, hx⟩
    · exact hx.elim
  · rename_i e x
    split at hx
    · rename_i cs hc
      rw [forceL_eq] at hx
      exact ⟨_, .new _, [], ⟨by rw [hc]; exact ⟨rfl, rfl⟩, rfl⟩, hx⟩
    · exact hx.elim
  · rename_i ty parts
    split at hx
    · rename_i z hz
      have hz' := (T.ti ty).zero z hz
      split at hx
      · rename_i l hl
        obtain ⟨fs, hu, hf, hin⟩ := (T.ti ty).flds l hl
        obtain ⟨cs, hcs, hk⟩ := fillG_sound _ _ hx
        have hpl : (fun j => (fs[j]?).bind fun (f : Field) => if (P.info? f.type).isSome = true then some (f.offset, P.cellsOf f.type) else none) = fun (j : Nat) => l[j]? := by
          funext j
          rw [← hf, List.getElem?_map, Array.getElem?_toList]
          cases hj : fs[j]? with
          | none => rfl
          | some f => simp [hin f (Array.mem_of_getElem? hj)]
        refine ⟨_, .nop, [], ⟨?_, rfl, rfl⟩, hk⟩
        rw [hu, hz']
        simp only at hcs ⊢
        rw [hpl, hcs]
        exact ⟨hin, rfl⟩
      · split at hx
        · rename_i n e ha
          obtain ⟨h1, h2⟩ := Chk.elim hx
          have ha' := (T.ti ty).arr _ ha
          obtain ⟨k1, k2, k3, k4⟩ := (T.ti e).ok h1
          obtain ⟨cs, hcs, hk⟩ := fillG_sound _ _ h2
          unfold arrayElem at ha'
          split at ha'
          · rename_i n' e' hu
            split at ha'
            · rename_i hi
              simp only [Option.some.injEq, Prod.mk.injEq] at ha'
              obtain ⟨rfl, rfl⟩ := ha'
              refine ⟨_, .nop, [], ⟨?_, rfl, rfl⟩, hk⟩
              rw [hu, hz']
              simp only
              rw [k3, hcs]
              exact ⟨hi, rfl⟩
            · cases ha'
          · cases ha'
        · exact hx.elim
    · exact hx.elim
  · rename_i ty len parts
    split at hx
    · rename_i e he
      have he' := (T.ti ty).el e he
      split at hx
      · obtain ⟨h1, h2⟩ := Chk.elim hx
        refine ⟨_, .nop, [], ⟨?_, rfl⟩, h2⟩
        rw [he']
        simp only
        rw [if_pos trivial]
        refine ⟨?_, trivial, trivial⟩
        cases parts with | mk l => simpa using h1
      · rename_i len
        split at hx
        · rename_i z hz
          have hz' := (T.ti e).zero z hz
          obtain ⟨h1, h2⟩ := Chk.elim hx
          simp only [Bool.and_eq_true] at h1
          obtain ⟨⟨⟨a1, a2⟩, a3⟩, a4⟩ := h1
          obtain ⟨k1, k2, k3, k4⟩ := (T.ti e).ok a1
          obtain ⟨cs, hcs, hk⟩ := fillG_sound _ _ h2
          obtain ⟨b1, b2⟩ := Chk.elim hk
          simp only [Bool.and_eq_true] at b1
          rw [forceLL_eq] at b2
          refine ⟨_, .new _, [], ⟨?_, rfl⟩, b2⟩
          rw [he']
          simp only
          rw [if_neg (by omega), k3, hcs]
          refine ⟨by have := Nat.le_of_ble_eq_true a2; omega, Nat.le_of_ble_eq_true a3, by rw [hz']; rfl, by rw [hz']; simpa using Nat.eq_of_beq_eq_true a4, b1.1, b1.2, rfl, rfl⟩
        · exact hx.elim
    · exact hx.elim
  · rename_i ty x
    split at hx
    · rename_i id off he
      split at hx
      · rename_i cs hh
        obtain ⟨k1, v, hv, hk⟩ := takeG_sound (T.ti ty) hx
        exact ⟨v, .nop, [id], ⟨k1, rfl, by rw [he]; exact ⟨rfl, by rw [hh]; exact hv⟩⟩, hk⟩
      · rename_i cs hh
        obtain ⟨k1, v, hv, hk⟩ := takeG_sound (T.ti ty) hx
        exact ⟨v, .nop, [id], ⟨k1, rfl, by rw [he]; exact ⟨rfl, by rw [hh]; exact hv⟩⟩, hk⟩
      · exact hx.elim
    · rename_i cs he
      obtain ⟨k1, v, hv, hk⟩ := takeG_sound (T.ti ty) hx
      exact ⟨v, .nop, [], ⟨k1, rfl, by rw [he]; exact ⟨rfl, hv⟩⟩, hk⟩
    · rename_i id off he
      split at hx
      · rename_i cs hh
        obtain ⟨row, v, hrow, ht, hk⟩ := hx.ex
        obtain ⟨k1, w, hv, rfl⟩ := takeG_sound (T.ti ty) ht
        exact ⟨w, .nop, [id], ⟨k1, rfl, by rw [he]; exact ⟨rfl, by rw [hh]; exact takeV_more hrow hv⟩⟩, hk⟩
      · exact hx.elim
    · exact hx.elim
  · rename_i ty x y
    obtain ⟨h1, hx⟩ := Chk.elim hx
    obtain ⟨k1, k2, k3, k4⟩ := (T.ti ty).ok h1
    split at hx
    · rename_i id off he
      split at hx
      · rename_i cs hc
        split at hx
        · rename_i old hh
          obtain ⟨h2, hx⟩ := Chk.elim hx
          simp only [Bool.and_eq_true] at h2
          rw [forceL_eq] at hx
          refine ⟨_, .set id off cs, [id], ⟨(okTy_iff k1).1, rfl, ?_⟩, ?_⟩
          · rw [he, hc]
            refine ⟨rfl, rfl, by rw [k3]; exact Nat.eq_of_beq_eq_true h2.1.1, h2.1.2, ?_⟩
            rw [hh]; exact Nat.le_of_ble_eq_true h2.2
          · simp only [Eff.app', hh, setO]; exact hx
        · exact hx.elim
      · exact hx.elim
    · exact hx.elim
  · rename_i x
    split at hx
    · rename_i id off he; exact ⟨_, .nop, [], ⟨by rw [he], rfl, rfl⟩, hx⟩
    · rename_i cs he; exact ⟨_, .nop, [], ⟨by rw [he], rfl, rfl⟩, hx⟩
    · exact hx.elim
  · rename_i op ty x y ty2
    split at hx
    · rename_i k a k' b e1 e2
      obtain ⟨h1, h2⟩ := Chk.elim hx
      obtain ⟨v, hv, hk⟩ := intG_sound h2
      refine ⟨v, .nop, [], ⟨?_, rfl, rfl⟩, hk⟩
      rw [e1, e2]
      exact ⟨by simpa [DecEqK] using h1, hv⟩
    · rename_i a b e1 e2
      obtain ⟨h1, h2⟩ := Chk.elim hx
      have hb := (T.ti ty).isBool h1
      split at h2
      · exact ⟨_, .nop, [], ⟨by rw [e1, e2]; exact ⟨hb, rfl⟩, rfl, rfl⟩, h2⟩
      · exact ⟨_, .nop, [], ⟨by rw [e1, e2]; exact ⟨hb, rfl⟩, rfl, rfl⟩, h2⟩
      · exact h2.elim
    · rename_i a b e1 e2
      obtain ⟨h1, h2⟩ := Chk.elim hx
      simp only [Bool.and_eq_true] at h1
      have l1 := Nat.eq_of_beq_eq_true h1.1.2
      have l2 := Nat.eq_of_beq_eq_true h1.2
      have hE := (T.ti ty).eq h1.1.1
      rw [← l1] at hE
      obtain ⟨l, hl, h3⟩ := intsG_sound _ _ h2
      obtain ⟨m, hm, h4⟩ := intsG_sound _ _ h3
      split at h4
      · exact ⟨_, .nop, [], ⟨by rw [e1, e2]; exact ⟨hE, by omega, by rw [hl, hm]⟩, rfl, rfl⟩, h4⟩
      · exact ⟨_, .nop, [], ⟨by rw [e1, e2]; exact ⟨hE, by omega, by rw [hl, hm]⟩, rfl, rfl⟩, h4⟩
      · exact h4.elim
    · exact hx.elim
  · rename_i op ty x
    split at hx
    · rename_i b e; exact ⟨_, .nop, [], ⟨by rw [e], rfl, rfl⟩, hx⟩
    · rename_i k n e; exact ⟨_, .nop, [], ⟨by rw [e], rfl, rfl⟩, hx⟩
    · exact hx.elim
  · rename_i s ty x
    obtain ⟨h1, hx⟩ := Chk.elim hx
    obtain ⟨k1, k2, k3, k4⟩ := (T.ti s).ok h1
    split at hx
    · rename_i k q n hk e
      refine ⟨_, .nop, [], ⟨?_, rfl, rfl⟩, hx⟩
      have h2 := (okTy_iff k1).2
      cases hu : P.underlying s with
      | none => rw [hu] at h2; cases h2
      | some u =>
        rw [(T.ti ty).ik k hk, e]
    · exact hx.elim
  · rename_i f first caps
    obtain ⟨h1, hx⟩ := Chk.elim hx
    unfold evL at hx
    rw [forceL_eq] at hx
    obtain ⟨h2, hx⟩ := Chk.elim hx
    rw [forceL_eq] at hx
    refine ⟨_, .nop, [], ⟨?_, h2, rfl, rfl, rfl⟩, hx⟩
    cases first with | mk l => simpa using h1
  · rename_i ty x lo hi mx
    split at hx
    · rename_i q xs he
      split at hx
      · rename_i e hel
        have hel' := (T.ti ty).el e hel
        split at hx
        · exact ⟨_, .nop, [], by simp only [stepR, hel', he]; exact ⟨trivial, trivial, trivial⟩, hx⟩
        · rename_i y
          split at hx
          · rename_i k l hy
            obtain ⟨h1, hx⟩ := Chk.elim hx
            obtain ⟨k1, k2, k3, k4⟩ := (T.ti e).ok h1
            obtain ⟨⟨a1, a2, a3⟩, hx⟩ := hx
            refine ⟨_, .nop, [], ?_, hx⟩
            simp only [stepR, hel', he, hy, k3]
            exact ⟨⟨a1, a2, a3, trivial⟩, trivial, trivial⟩
          · exact hx.elim
        · rename_i z
          split at hx
          · rename_i k l hy
            obtain ⟨⟨a1, a2⟩, hx⟩ := hx
            refine ⟨_, .nop, [], ?_, hx⟩
            simp only [stepR, hel', he, hy]
            exact ⟨⟨a1, a2, trivial⟩, trivial, trivial⟩
          · exact hx.elim
        · rename_i y z
          split at hx
          · rename_i k l k' n hy hz
            obtain ⟨h1, hx⟩ := Chk.elim hx
            obtain ⟨k1, k2, k3, k4⟩ := (T.ti e).ok h1
            obtain ⟨⟨a1, a2, a3, a4⟩, hx⟩ := hx
            refine ⟨_, .nop, [], ?_, hx⟩
            simp only [stepR, hel', he, hy, hz, k3]
            exact ⟨⟨a1, a2, a3, a4, trivial⟩, trivial, trivial⟩
          · exact hx.elim
        · rename_i y z
          split at hx
          · rename_i k n k' m hy hz
            obtain ⟨⟨a1, a2⟩, hx⟩ := hx
            refine ⟨_, .nop, [], ?_, hx⟩
            simp only [stepR, hel', he, hy, hz]
            exact ⟨⟨a1, a2, trivial⟩, trivial, trivial⟩
          · exact hx.elim
        · exact hx.elim
      · exact hx.elim
    · rename_i id he
      split at hx
      · rename_i n e ha
        have ha' := (T.ti ty).arr _ ha
        obtain ⟨h1, hx⟩ := Chk.elim hx
        obtain ⟨k1, k2, k3, k4⟩ := (T.ti e).ok h1
        split at hx
        · rename_i cs hh
          obtain ⟨h2, hx⟩ := Chk.elim hx
          simp only [Bool.and_eq_true] at h2
          rw [forceLL_eq] at hx
          refine ⟨.sl .no (chunks n (tb.ti e).cells (cs.map forget0)), .call [id] none, [id], ?_, ?_⟩
          · simp only [stepR, he, ha', hh, HO.peek, k3]
            cases sliceElem P ty <;> exact ⟨Nat.eq_of_beq_eq_true h2.1, h2.2, trivial, trivial, trivial⟩
          · refine cast (congrArg (fun q => K _ q [id]) ?_) hx
            funext j
            simp only [Eff.app', List.mem_singleton]
            by_cases hj : j = id
            · subst hj; simp [upd, hh, sealO]
            · simp [upd, hj]
        · exact hx.elim
      · exact hx.elim
    · rename_i id l n c sz he
      split at hx
      · rename_i e hel
        have hel' := (T.ti ty).el e hel
        split at hx
        · rename_i y
          split at hx
          · rename_i k a hy
            obtain ⟨h1, hx⟩ := Chk.elim hx
            simp only [Bool.and_eq_true] at h1
            obtain ⟨k1, k2, k3, k4⟩ := (T.ti e).ok h1.1
            obtain ⟨⟨a1, a2⟩, hx⟩ := hx
            refine ⟨_, .nop, [], ?_, hx⟩
            simp only [stepR, hel', he, hy, k3]
            exact ⟨⟨a1, a2, Nat.eq_of_beq_eq_true h1.2, trivial⟩, trivial, trivial⟩
          · exact hx.elim
        · rename_i z
          split at hx
          · rename_i k a hy
            obtain ⟨h1, hx⟩ := Chk.elim hx
            simp only [Bool.and_eq_true] at h1
            obtain ⟨k1, k2, k3, k4⟩ := (T.ti e).ok h1.1
            obtain ⟨⟨a1, a2⟩, hx⟩ := hx
            refine ⟨_, .nop, [], ?_, hx⟩
            simp only [stepR, hel', he, hy, k3]
            exact ⟨⟨a1, a2, Nat.eq_of_beq_eq_true h1.2, trivial⟩, trivial, trivial⟩
          · exact hx.elim
        · exact hx.elim
      · exact hx.elim
    · exact hx.elim
  · rename_i s x f
    split at hx
    · rename_i n hn
      have hn' := (T.ti s).offs f n hn
      split at hx
      · rename_i id off he
        exact ⟨_, .nop, [], by simp only [stepR, hn', he, addOff]; exact ⟨⟨trivial, trivial⟩, trivial, trivial⟩, hx⟩
      · rename_i cs he
        rw [forceL_eq] at hx
        exact ⟨_, .nop, [], by simp only [stepR, hn', he, addOff]; exact ⟨⟨trivial, trivial⟩, trivial, trivial⟩, hx⟩
      · exact hx.elim
    · exact hx.elim
  · rename_i ty x ix
    split at hx
    · rename_i q xs k j e1 e2
      split at hx
      · rename_i e hel
        obtain ⟨h1, hx⟩ := Chk.elim hx
        obtain ⟨k1, k2, k3, k4⟩ := (T.ti e).ok h1
        obtain ⟨hge, el, hget, hlen, hk⟩ := hx
        exact ⟨_, .nop, [], by simp only [stepR, e1, e2, (T.ti ty).el e hel, hget, k3]; exact ⟨⟨hge, hlen, trivial⟩, trivial, trivial⟩, hk⟩
      · exact hx.elim
    · rename_i id l n c sz k j e1 e2
      split at hx
      · rename_i e hel
        obtain ⟨h1, hx⟩ := Chk.elim hx
        simp only [Bool.and_eq_true] at h1
        obtain ⟨k1, k2, k3, k4⟩ := (T.ti e).ok h1.1
        obtain ⟨⟨a1, a2⟩, hk⟩ := hx
        exact ⟨_, .nop, [], by simp only [stepR, e1, e2, (T.ti ty).el e hel, k3]; exact ⟨⟨a1, a2, Nat.eq_of_beq_eq_true h1.2, trivial⟩, trivial, trivial⟩, hk⟩
      · exact hx.elim
    · rename_i id off k j e1 e2
      split at hx
      · rename_i n e ha
        obtain ⟨h1, hx⟩ := Chk.elim hx
        obtain ⟨k1, k2, k3, k4⟩ := (T.ti e).ok h1
        obtain ⟨⟨a1, a2⟩, hk⟩ := hx
        exact ⟨_, .nop, [], by simp only [stepR, e1, e2, (T.ti ty).arr _ ha, k3]; exact ⟨⟨a1, a2, trivial⟩, trivial, trivial⟩, hk⟩
      · exact hx.elim
    · exact hx.elim
  · rename_i ty x ix
    split at hx
    · rename_i n e cs k j ha e1 e2
      obtain ⟨⟨a1, a2⟩, hx⟩ := hx
      obtain ⟨k1, v, hv, hk⟩ := takeG_sound (T.ti e) hx
      have hok : (tb.ti e).ok = true := (Chk.elim hx).1
      obtain ⟨_, _, k3, _⟩ := (T.ti e).ok hok
      exact ⟨v, .nop, [], by simp only [stepR, e1, e2, (T.ti ty).arr _ ha, k3]; exact ⟨⟨a1, a2, k1, hv⟩, trivial, trivial⟩, hk⟩
    · exact hx.elim
  · rename_i x j
    split at hx
    · rename_i vs he
      split at hx
      · rename_i v hv
        rw [forceV_eq] at hx
        exact ⟨v, .nop, [], by simp only [stepR, he, hv]; exact ⟨trivial, trivial, trivial⟩, hx⟩
      · exact hx.elim
    · exact hx.elim
  · rename_i x ty
    split at hx
    · rename_i q xs he
      obtain ⟨h1, hx⟩ := Chk.elim hx
      obtain ⟨e, hel⟩ := Option.isSome_iff_exists.1 h1
      refine ⟨_, .nop, [], ?_, hx.on⟩
      simp only [stepR, he, (T.ti ty).el e hel]
      exact ⟨⟨rfl, trivial⟩, trivial, trivial⟩
    · exact hx.elim
  · rename_i x y _
    split at hx
    · rename_i k a k' b e1 e2
      refine ⟨_, .nop, [], ?_, hx⟩
      simp only [stepR, e1, e2]
      exact ⟨trivial, trivial, trivial⟩
    · exact hx.elim
  · rename_i x y _
    split at hx
    · rename_i k a k' b e1 e2
      refine ⟨_, .nop, [], ?_, hx⟩
      simp only [stepR, e1, e2]
      exact ⟨trivial, trivial, trivial⟩
    · exact hx.elim
  · rename_i x y ty ty'
    split at hx
    · rename_i e hel
      split at hx
      · rename_i z o xs q ys hz e1 e2
        obtain ⟨h1, hx⟩ := Chk.elim hx
        simp only [Bool.and_eq_true] at h1
        obtain ⟨⟨⟨a1, a2⟩, a3⟩, a4⟩ := h1
        obtain ⟨k1, k2, k3, k4⟩ := (T.ti e).ok a2
        obtain ⟨⟨b1, b2, b3⟩, hx⟩ := hx
        have hz' := (T.ti e).zero z hz
        have base : ty' = ty ∧ 0 < P.cellsOf e ∧ ((zeroC P e).map List.length) = some (P.cellsOf e) ∧ (xs.length + ys.length) * P.bytesOf e ≤ 140737488355328 ∧ (xs.length + ys.length) ≤ 9223372036854775807 ∧
            (∀ y ∈ ys, y.length = P.cellsOf e ∧ y.all isAtom = true) := by
          rw [k3, k4]
          exact ⟨Nat.eq_of_beq_eq_true a1, by have := Nat.le_of_ble_eq_true a3; omega, by rw [hz']; simpa using Nat.eq_of_beq_eq_true a4, b1, b2, b3⟩
        obtain ⟨c1, c2, c3, c4, c5, c6⟩ := base
        split at hx
        · refine ⟨.sl (.tag i) (xs ++ ys), .app none (.live e (tb.ti e).cells (xs.length + ys.length)), [], ?_, hx⟩
          simp only [stepR, e1, e2, (T.ti ty).el e hel, appendable]
          exact ⟨c1, c2, c3, c4, c5, c6, trivial, by rw [k3], rfl⟩
        · rename_i tg _
          split at hx
          · rename_i e' sz n' hh
            obtain ⟨d1, hx⟩ := Chk.elim hx
            obtain ⟨d2, hx⟩ := hx
            have d1' : e' = e := Nat.eq_of_beq_eq_true d1
            refine ⟨.sl (.tag i) (xs ++ ys), .app (some tg) (.live e (tb.ti e).cells (xs.length + ys.length)), [tg], ?_, ?_⟩
            · simp only [stepR, e1, e2, (T.ti ty).el e hel, appendable, hh]
              refine ⟨c1, c2, c3, c4, c5, c6, ?_⟩
              rw [if_pos ⟨d1', d2⟩]
              exact ⟨trivial, by rw [k3], rfl⟩
            · simp only [Eff.app', hh, killO]; exact hx
          · exact hx.elim
        · exact hx.elim
      · exact hx.elim
    · exact hx.elim
  · rename_i f args _
    split at hx
    · rename_i g caps he
      obtain ⟨h1, hx⟩ := hx
      unfold passG at hx
      split at hx
      · rename_i az ids hp
        rw [forceL_eq] at hx
        obtain ⟨r, hs, hk⟩ := hx.ex
        refine ⟨adopt i r, .call ids (adoptO r), ids, ?_, ?_⟩
        · simp only [stepR, he, hp]
          exact ⟨trivial, T.fn g h1, r, hs, rfl, rfl⟩
        · exact adoptG_sound (K := fun v h'' => K v h'' ids) rfl (sealAll_sound ids h (fun h' => adoptG i r h' fun v h'' => K v h'' ids) hk)
      · exact hx.elim
    · exact hx.elim
  · exact hx.elim
end
/-- An operation that the proof must tell. -/
structure SemG (P : Program) (i : Nat) (t : Nat → AV) (h : AHeap) (o : Op) (K : AV → AHeap → Prop) : Prop where
  sem : SemOp P i t h o K
def isOwn : AV → Bool
  | .fs _ | .ms _ _ _ _ _ | .mp _ _ => true
  | _ => false
def anyOwn : List AV → Bool
  | [] => false
  | x :: r => match isOwn x with
    | true => true
    | false => anyOwn r
/-- One operation, yield let, and what the proof must tell. -/
def EXT (P : Program) (tb : Tb) (i : Nat) (t : Nat → AV) (h : AHeap) (y : Yt) (o : Op) (K : AV → AHeap → List Nat → Yt → Prop) : Prop :=
  match o with
  | .call { callee := .value f, args, argTypes } => match evA t f with
    | .yl l => passG h (args.toList.map (evA t)) fun x ids => sealAll ids h fun h' => YG y l x (fun rest => K (.bool true) h' ids (.more l rest)) (K (.bool false) h' ids .stop)
    | _ => match anyOwn (args.toList.map (evA t)) with
      | true => SemG P i t h (.call { callee := .value f, args, argTypes }) fun v h => K v h [] y
      | false => EXS P tb i t h (.call { callee := .value f, args, argTypes }) fun v h fp => K v h fp y
  | .call { callee := .builtin .clear, args, argTypes } => SemG P i t h (.call { callee := .builtin .clear, args, argTypes }) fun v h => K v h [] y
  | .call { callee := .builtin .copy, args, argTypes } => SemG P i t h (.call { callee := .builtin .copy, args, argTypes }) fun v h => K v h [] y
  | .call { callee := .builtin .cap, args, argTypes } => SemG P i t h (.call { callee := .builtin .cap, args, argTypes }) fun v h => K v h [] y
  | .call { callee := .builtin .len, args, argTypes } => match anyOwn (args.toList.map (evA t)) with
    | true => SemG P i t h (.call { callee := .builtin .len, args, argTypes }) fun v h => K v h [] y
    | false => EXS P tb i t h (.call { callee := .builtin .len, args, argTypes }) fun v h fp => K v h fp y
  | .call { callee := .builtin .append, args, argTypes } => match anyOwn (args.toList.map (evA t)) with
    | true => SemG P i t h (.call { callee := .builtin .append, args, argTypes }) fun v h => K v h [] y
    | false => EXS P tb i t h (.call { callee := .builtin .append, args, argTypes }) fun v h fp => K v h fp y
  | .binOp op ty x y' ty2 => match y' with
    | .const (.slice none 0 0) => SemG P i t h (.binOp op ty x y' ty2) fun v h => K v h [] y
    | _ => match evA t x with
      | .str _ => SemG P i t h (.binOp op ty x y' ty2) fun v h => K v h [] y
      | .bad => SemG P i t h (.binOp op ty x y' ty2) fun v h => K v h [] y
      | _ => EXS P tb i t h (.binOp op ty x y' ty2) fun v h fp => K v h fp y
  | .store ty x y' => match evA t x with
    | .mp _ _ => SemG P i t h (.store ty x y') fun v h => K v h [] y
    | _ => EXS P tb i t h (.store ty x y') fun v h fp => K v h fp y
  | o => EXS P tb i t h o fun v h fp => K v h fp y
theorem EXT_sound {P : Program} {tb : Tb} (T : TbOk P tb) {i : Nat} {t : Nat → AV} {h : AHeap} {y : Yt} {o : Op} {K : AV → AHeap → List Nat → Yt → Prop} (hx : EXT P tb i t h y o K) :
    (∃ v d fp, stepR P i t h o v d fp ∧ K v (d.app' i h) fp y) ∨ yieldR o t h y (fun b ids y' => K (.bool b) ((Eff.call ids none).app' i h) ids y') ∨ SemOp P i t h o fun v h => K v h [] y := by
  unfold EXT at hx
  split at hx
  · rename_i f args ts
    split at hx
    · rename_i l he
      right; left
      unfold passG at hx
      split at hx
      · rename_i az ids hp
        rw [forceL_eq] at hx
        have h2 := sealAll_sound ids h _ hx
        obtain ⟨rest, rfl, h3, h4⟩ := h2.ex
        simp only [yieldR, he]
        refine ⟨trivial, ids, hp, fun b => ?_⟩
        cases b with
        | true => exact h3
        | false => exact h4
      · exact hx.elim
    · split at hx
      · exact .inr (.inr hx.sem)
      · exact .inl (EXS_sound T (K := fun v h fp => K v h fp y) hx)
  · exact .inr (.inr hx.sem)
  · exact .inr (.inr hx.sem)
  · exact .inr (.inr hx.sem)
  · split at hx
    · exact .inr (.inr hx.sem)
    · exact .inl (EXS_sound T (K := fun v h fp => K v h fp y) hx)
  · split at hx
    · exact .inr (.inr hx.sem)
    · exact .inl (EXS_sound T (K := fun v h fp => K v h fp y) hx)
  · split at hx
    · exact .inr (.inr hx.sem)
    · split at hx
      · exact .inr (.inr hx.sem)
      · exact .inr (.inr hx.sem)
      · exact .inl (EXS_sound T (K := fun v h fp => K v h fp y) hx)
  · split at hx
    · exact .inr (.inr hx.sem)
    · exact .inl (EXS_sound T (K := fun v h fp => K v h fp y) hx)
  · exact .inl (EXS_sound T (K := fun v h fp => K v h fp y) hx)
end Go.Proofs.YtbaajjihhdmdpaaGreatDoor
