/- The abstract machine: its evaluator over whole texts. · The abstract machine: its evaluator: loops whose heads are told place by place. · MADE BY PROGRAM (wip/gen/tab.py): the types' table for the evaluator; that the program bears it out. · The program's data as the machine's values; the first contracts. · MADE BY PROGRAM (wip/gen/lib.py): contracts of the library's generic functions. · Package network and its reference: what they compute. · The reference's package network: what it computes. · Package network: links by binary search; both find the same. No condition. -/
import Derived.Test.YtbaajjihhdmdpaaGreatDoorRe02
import Derived.Test.YtbaajjihhdmdpaaGreatDoorProg
import Derived.KernelRfl
import Derived.Test.YtbaajjihhdmdpaaGreatDoorChecked
import Derived.IntWalk

namespace Go.Proofs.YtbaajjihhdmdpaaGreatDoor
open Go.RowKit
set_option linter.unusedVariables false
set_option linter.unusedSimpArgs false
set_option linter.unnecessarySimpa false
set_option linter.unusedSectionVars false
variable [Lax]
abbrev Did' := List Nat
def putN (d : Nat) (v : AV) (t : Nat → AV) : Nat → AV := fun n => match Nat.beq n d with
  | true => v
  | false => t n
def putG (dst : Option Tmp) (v : AV) (t : Nat → AV) : Nat → AV := match dst with
  | some d => putN d v t
  | none => t
theorem putG_eq (dst : Option Tmp) (v : AV) (t : Nat → AV) : putA dst v t = putG dst v t := by
  cases dst with
  | none => rfl
  | some d =>
    funext n
    simp only [putA, putG, putN]
    split
    · rename_i e; subst e; simp
    · rename_i e
      have : Nat.beq n d = false := by
        cases hb : Nat.beq n d with
        | false => rfl
        | true => exact absurd (Nat.eq_of_beq_eq_true hb) e
      rw [this]
def putK (dst : Option Tmp) (v : AV) (t : Nat → AV) (K : (Nat → AV) → Prop) : Prop := match dst with
  | some d => K (putN d v t)
  | none => K t
theorem putK_eq (dst : Option Tmp) (v : AV) (t : Nat → AV) (K : (Nat → AV) → Prop) : putK dst v t K ↔ K (putA dst v t) := by
  rw [putG_eq]; cases dst <;> exact Iff.rfl
def forceN (n : Nat) (K : Nat → Prop) : Prop := match n with
  | 0 => K 0
  | n + 1 => K (n + 1)
theorem forceN_eq (n : Nat) (K : Nat → Prop) : forceN n K ↔ K n := by cases n <;> exact Iff.rfl
def lookG : List (Nat × Bool) → Nat → Option Bool
  | [], _ => none
  | (d, b) :: r, n => match Nat.beq n d with
    | true => some b
    | false => lookG r n
/-- Manners: in a drawn part, one by one, one by one with appends told by the proof. -/
inductive Md where
  | drw | un | ap
def EXA (P : Program) (tb : Tb) (i : Nat) (t : Nat → AV) (h : AHeap) (y : Yt) (o : Op) (K : AV → AHeap → List Nat → Yt → Prop) : Prop := match o with
  | .call { callee := .builtin .append, args, argTypes } => SemG P i t h (.call { callee := .builtin .append, args, argTypes }) fun v h => K v h [] y
  | o => EXT P tb i t h y o K
/-- An operation, yield let or not. -/
def EXU (P : Program) (tb : Tb) (dr : Md) (i : Nat) (t : Nat → AV) (h : AHeap) (y : Yt) (o : Op) (K : AV → AHeap → List Nat → Yt → Prop) : Prop := match dr with
  | .drw => EXS P tb i t h o fun v h fp => K v h fp y
  | .un => EXT P tb i t h y o K
  | .ap => EXA P tb i t h y o K
/-- One operation with its guard. G: the guards that were asked already. -/
def EXO (P : Program) (tb : Tb) (dr : Md) (ops : Array Oper) (i : Nat) (o : Oper) (G : List (Nat × Bool)) (t : Nat → AV) (h : AHeap) (y : Yt) (K : Did' → List (Nat × Bool) → (Nat → AV) → AHeap → Yt → Prop) : Prop :=
  match o.guard with
  | none => EXU P tb dr i t h y o.op fun v h' fp y => putK o.dst v t fun t => K fp G t h' y
  | some (j, want) => match (ops[j]?).bind (·.dst) with
    | some d => match t d with
      | .undef => putK o.dst .undef t fun t => K [] G t h y
      | .bool b => match lookG G d with
        | some _ => match b with
          | true => match want with
            | true => EXU P tb dr i t h y o.op fun v h' fp y => putK o.dst v t fun t => K fp G t h' y
            | false => putK o.dst .undef t fun t => K [] G t h y
          | false => match want with
            | false => EXU P tb dr i t h y o.op fun v h' fp y => putK o.dst v t fun t => K fp G t h' y
            | true => putK o.dst .undef t fun t => K [] G t h y
        | none => Br b
          (match want with
            | true => EXU P tb dr i (putN d (.bool true) t) h y o.op fun v h' fp y => putK o.dst v (putN d (.bool true) t) fun t => K fp ((d, true) :: G) t h' y
            | false => putK o.dst .undef (putN d (.bool true) t) fun t => K [] ((d, true) :: G) t h y)
          (match want with
            | false => EXU P tb dr i (putN d (.bool false) t) h y o.op fun v h' fp y => putK o.dst v (putN d (.bool false) t) fun t => K fp ((d, false) :: G) t h' y
            | true => putK o.dst .undef (putN d (.bool false) t) fun t => K [] ((d, false) :: G) t h y)
      | _ => False
    | none => False
def EXL (P : Program) (tb : Tb) (dr : Md) (ops : Array Oper) (k : Nat) : List Oper → Nat → List (Nat × Bool) → (Nat → AV) → AHeap → Yt → (List Did' → (Nat → AV) → AHeap → Yt → Prop) → Prop
  | [], _, _, t, h, y, K => K [] t h y
  | o :: rest, j, G, t, h, y, K => EXO P tb dr ops (k + j) o G t h y fun fp G t h y => EXL P tb dr ops k rest (j + 1) G t h y fun fps => K (fp :: fps)
theorem putN_same {d : Nat} {v : AV} {t : Nat → AV} (e : t d = v) : putN d v t = t := by
  funext n
  simp only [putN]
  split
  · rename_i hb; rw [Nat.eq_of_beq_eq_true hb]; exact e.symm
  · rfl
section
variable {P : Program} {tb : Tb} (T : TbOk P tb)
include T
theorem EXU_sound {dr : Md} {i : Nat} {t : Nat → AV} {h : AHeap} {y : Yt} {o : Op} {K : AV → AHeap → List Nat → Yt → Prop} (hx : EXU P tb dr i t h y o K) :
    (∃ v d fp, stepR P i t h o v d fp ∧ K v (d.app' i h) fp y) ∨ (dr ≠ .drw ∧ yieldR o t h y (fun b ids y' => K (.bool b) ((Eff.call ids none).app' i h) ids y')) ∨ (dr ≠ .drw ∧ SemOp P i t h o fun v h => K v h [] y) := by
  cases dr with
  | drw => exact .inl (EXS_sound T (K := fun v h fp => K v h fp y) hx)
  | un => exact (EXT_sound T hx).imp id fun h => h.imp (fun h => ⟨by simp, h⟩) fun h => ⟨by simp, h⟩
  | ap =>
    simp only [EXU] at hx
    unfold EXA at hx
    split at hx
    · exact .inr (.inr ⟨by simp, hx.sem⟩)
    · exact (EXT_sound T hx).imp id fun h => h.imp (fun h => ⟨by simp, h⟩) fun h => ⟨by simp, h⟩
theorem EXO_sound {dr : Md} {ops : Array Oper} {i : Nat} {o : Oper} {G : List (Nat × Bool)} {t : Nat → AV} {h : AHeap} {y : Yt} {K : Did' → List (Nat × Bool) → (Nat → AV) → AHeap → Yt → Prop}
    (hx : EXO P tb dr ops i o G t h y K) : stepO P ops i o t h (fun r t' h' => ∃ G, K r.fp G t' h' y) ∨
      (dr ≠ .drw ∧ guardA ops o t = some true ∧ yieldR o.op t h y fun b ids y' => ∃ G fp, K fp G (putA o.dst (.bool b) t) ((Eff.call ids none).app' i h) y') ∨
      (dr ≠ .drw ∧ guardA ops o t = some true ∧ SemOp P i t h o.op fun v h' => ∃ G fp, K fp G (putA o.dst v t) h' y) := by
  have run : ∀ {G' : List (Nat × Bool)} {t' : Nat → AV}, guardA ops o t = some true → t' = t → (EXU P tb dr i t' h y o.op fun v h' fp y => putK o.dst v t' fun t => K fp G' t h' y) →
      stepO P ops i o t h (fun r t' h' => ∃ G, K r.fp G t' h' y) ∨ (dr ≠ .drw ∧ guardA ops o t = some true ∧ yieldR o.op t h y fun b ids y' => ∃ G fp, K fp G (putA o.dst (.bool b) t) ((Eff.call ids none).app' i h) y') ∨
      (dr ≠ .drw ∧ guardA ops o t = some true ∧ SemOp P i t h o.op fun v h' => ∃ G fp, K fp G (putA o.dst v t) h' y) := by
    intro G' t' hg e hy
    rw [e] at hy
    rcases EXU_sound T hy with ⟨v, d, fp, hs, hk⟩ | ⟨hd, hy⟩ | ⟨hd, hy⟩
    rotate_right
    · exact .inr (.inr ⟨hd, hg, hy.mono fun v h' hk => ⟨G', [], (putK_eq _ _ _ _).1 hk⟩⟩)
    · left
      unfold stepO
      rw [hg]
      exact ⟨v, d, fp, hs, G', (putK_eq _ _ _ _).1 hk⟩
    · exact .inr (.inl ⟨hd, hg, yieldR_mono (fun b ids y' hk => ⟨G', ids, (putK_eq _ _ _ _).1 hk⟩) hy⟩)
  have skip : ∀ {G' : List (Nat × Bool)} {t' : Nat → AV}, guardA ops o t = some false → t' = t → (putK o.dst .undef t' fun t => K [] G' t h y) →
      stepO P ops i o t h (fun r t' h' => ∃ G, K r.fp G t' h' y) ∨ (dr ≠ .drw ∧ guardA ops o t = some true ∧ yieldR o.op t h y fun b ids y' => ∃ G fp, K fp G (putA o.dst (.bool b) t) ((Eff.call ids none).app' i h) y') ∨
      (dr ≠ .drw ∧ guardA ops o t = some true ∧ SemOp P i t h o.op fun v h' => ∃ G fp, K fp G (putA o.dst v t) h' y) := by
    intro G' t' hg e hy
    rw [e] at hy
    left
    unfold stepO
    rw [hg]
    exact ⟨G', (putK_eq _ _ _ _).1 hy⟩
  unfold EXO at hx
  cases hgd : o.guard with
  | none =>
    rw [hgd] at hx
    exact run (by unfold guardA; rw [hgd]) rfl hx
  | some jw =>
    obtain ⟨j, want⟩ := jw
    rw [hgd] at hx
    simp only at hx
    cases hd : (ops[j]?).bind (·.dst) with
    | none => rw [hd] at hx; exact hx.elim
    | some d =>
      rw [hd] at hx
      simp only at hx
      have hga : ∀ b, t d = .bool b → guardA ops o t = some (b == want) := fun b e => by unfold guardA; rw [hgd]; simp only; rw [hd]; simp only; rw [e]
      have hgu : t d = .undef → guardA ops o t = some false := fun e => by unfold guardA; rw [hgd]; simp only; rw [hd]; simp only; rw [e]
      cases ht : t d <;> rw [ht] at hx <;> try exact hx.elim
      · exact skip (hgu ht) rfl hx
      · rename_i b
        simp only at hx
        cases hl : lookG G d with
        | some q =>
          rw [hl] at hx
          cases b <;> cases want <;> simp only at hx
          · exact run (hga _ ht) rfl hx
          · exact skip (hga _ ht) rfl hx
          · exact skip (hga _ ht) rfl hx
          · exact run (hga _ ht) rfl hx
        | none =>
          rw [hl] at hx
          simp only at hx
          cases b with
          | true =>
            have hy := hx.yes rfl
            cases want <;> simp only at hy
            · exact skip (hga _ ht) (putN_same ht) hy
            · exact run (hga _ ht) (putN_same ht) hy
          | false =>
            have hy := hx.no rfl
            cases want <;> simp only at hy
            · exact run (hga _ ht) (putN_same ht) hy
            · exact skip (hga _ ht) (putN_same ht) hy
theorem EXL_soundD {ops : Array Oper} {k : Nat} {y : Yt} : ∀ (l : List Oper) (j : Nat) (G : List (Nat × Bool)) (t : Nat → AV) (h : AHeap) (K : List Did' → (Nat → AV) → AHeap → Yt → Prop),
    EXL P tb .drw ops k l j G t h y K → opsD P ops k l j (fun rs t h => K (rs.map Did.fp) t h y) t h
  | [], j, G, t, h, K, hx => hx
  | o :: rest, j, G, t, h, K, hx => by
    unfold EXL at hx
    unfold opsD
    rcases EXO_sound T hx with hs | ⟨hd, _⟩ | ⟨hd, _⟩
    · refine stepO_mono ?_ hs
      rintro r t' h' ⟨G', hk⟩
      exact EXL_soundD rest (j + 1) G' t' h' _ hk
    · exact absurd rfl hd
    · exact absurd rfl hd
theorem EXL_soundR {md : Md} {ops : Array Oper} {k : Nat} : ∀ (l : List Oper) (j : Nat) (G : List (Nat × Bool)) (t : Nat → AV) (h : AHeap) (y : Yt) (K : (Nat → AV) → AHeap → Yt → Prop),
    EXL P tb md ops k l j G t h y (fun _ => K) → opsR P ops k l j K t h y
  | [], j, G, t, h, y, K, hx => hx
  | o :: rest, j, G, t, h, y, K, hx => by
    unfold EXL at hx
    unfold opsR
    rcases EXO_sound T hx with hs | ⟨_, hg, hs⟩ | ⟨_, hg, hs⟩
    rotate_right
    · refine .inr (.inr ⟨hg, hs.mono ?_⟩)
      rintro v h' ⟨G', fp, hk⟩
      exact EXL_soundR rest (j + 1) G' _ _ y _ hk
    · refine .inl (stepO_mono ?_ hs)
      rintro r t' h' ⟨G', hk⟩
      exact EXL_soundR rest (j + 1) G' t' h' y _ hk
    · refine .inr (.inl ⟨hg, yieldR_mono ?_ hs⟩)
      rintro b ids y' ⟨G', fp, hk⟩
      exact EXL_soundR rest (j + 1) G' _ _ y' _ hk
end
def inX : List Nat → Nat → Bool
  | [], _ => false
  | x :: r, n => match Nat.beq n x with
    | true => true
    | false => inX r n
theorem inX_iff {X : List Nat} {n : Nat} : inX X n = true ↔ n ∈ X := by
  induction X with
  | nil => simp [inX]
  | cons x r ih =>
    simp only [inX, List.mem_cons]
    split
    · rename_i hb; simp [Nat.eq_of_beq_eq_true hb]
    · rename_i hb
      rw [ih]
      constructor
      · exact .inr
      · rintro (rfl | h)
        · simp at hb
        · exact h
/-- No two operations that might clash touch the same box. -/
def noClash (ops : Array Oper) (fps : List Did') : Prop := ((clashes ops).all fun p => (fps.getD p.1 []).all fun x => !inX (fps.getD p.2 []) x) = true
theorem noClash_iff {ops : Array Oper} {fps : List Did'} (h : noClash ops fps) : ∀ p ∈ clashes ops, ∀ x ∈ fps.getD p.1 [], x ∉ fps.getD p.2 [] := by
  intro p hp x hx hx'
  have h1 := List.all_eq_true.1 (List.all_eq_true.1 h p hp) x hx
  rw [inX_iff.2 hx'] at h1
  cases h1
def exitG (id' id : Nat) (a b : Prop) : Prop := match Nat.beq id' id with
  | true => a
  | false => b
def blockG (id : Nat) (Q : AE → St → Prop) : AE → St → Prop
  | .exit id', σ => exitG id' id (Q .normal σ) (Q (.exit id') σ)
  | e, σ => Q e σ
theorem blockG_eq (id : Nat) (Q : AE → St → Prop) (e : AE) (σ : St) (h : blockG id Q e σ) : blockA id Q e σ := by
  cases e with
  | exit id' =>
    simp only [blockG, exitG] at h
    simp only [blockA]
    split at h
    · rename_i hb; rw [if_pos (Nat.eq_of_beq_eq_true hb)]; exact h
    · rename_i hb; rw [if_neg (by intro e; subst e; simp at hb)]; exact h
  | _ => exact h
def thenG (next : St → Prop) (Q : AE → St → Prop) : AE → St → Prop
  | .normal, σ => next σ
  | e, σ => Q e σ
def asgG (next : St → Prop) : AE → St → Prop
  | .normal, σ => next σ
  | _, _ => False
/-- The number that stands in X for a statement that is cut at its operation p. -/
def cutX (id p : Nat) : Nat := 1000000 * (p + 1) + id
/-- The number that stands in X for a statement whose appends the proof tells. -/
def appX (id : Nat) : Nat := 1000000000 + id
def cutP : List Nat → Nat → Option Nat
  | [], _ => none
  | x :: r, id => match Nat.ble 1000000 x with
    | true => match Nat.ble 1000000000 x with
      | true => cutP r id
      | false => match Nat.beq (x % 1000000) id with
        | true => some (x / 1000000 - 1)
        | false => cutP r id
    | false => cutP r id
def mdX (X : List Nat) (id : Nat) : Md := match inX X (appX id) with
  | true => .ap
  | false => .un
def clashG (b : Bool) (p A : Prop) : Prop := match b with
  | true => Nd p A
  | false => A
/-- A text. -/
def EX (P : Program) (tb : Tb) (X : List Nat) : Code → (AE → St → Prop) → St → Prop
  | .skip, Q, σ => Q .normal σ
  | .region id ops draw, Q, σ => match draw with
    | true => match cutP X id with
      | some p => Nd (cutAt ops p = true) (forceN σ.k fun k => EXL P tb .drw ops k (ops.toList.take p) 0 [] σ.t σ.h σ.y fun fps t h y => clashG (inX X id) (noClash ops fps)
            (EXL P tb (mdX X id) ops k (ops.toList.drop p) p [] t h y fun _ t h y => forceN (k + ops.size) fun k => Q .normal ⟨t, h, k, σ.s, y⟩))
      | none => forceN σ.k fun k => EXL P tb .drw ops k ops.toList 0 [] σ.t σ.h σ.y fun fps t h y => clashG (inX X id) (noClash ops fps) (forceN (k + ops.size) fun k => Q .normal ⟨t, h, k, σ.s, y⟩)
    | false => forceN σ.k fun k => EXL P tb (mdX X id) ops k ops.toList 0 [] σ.t σ.h σ.y fun _ t h y => forceN (k + ops.size) fun k => Q .normal ⟨t, h, k, σ.s, y⟩
  | .seq a b, Q, σ => EX P tb X a (thenG (EX P tb X b Q) Q) σ
  | .cond c a b, Q, σ => match evA σ.t c with
    | .bool q => Br q (EX P tb X a Q σ) (EX P tb X b Q σ)
    | _ => False
  | .block id c, Q, σ => EX P tb X c (blockG id Q) σ
  | .loop c, Q, σ => Lp P X c Q σ
  | .rangeFunc f ps assign body, Q, σ => RfG P X f ps assign body Q σ
  | .exit id, Q, σ => Q (.exit id) σ
  | .ret, Q, σ => Q .ret σ
  | _, _, _ => False
theorem fps_noClash {ops : Array Oper} {rs : List Did} (h : noClash ops (rs.map Did.fp)) : ∀ p ∈ clashes ops, ∀ x ∈ (fnOf rs p.1).fp, x ∉ (fnOf rs p.2).fp := by
  intro p hp x hx hx'
  refine noClash_iff h p hp x ?_ ?_
  · unfold fnOf at hx
    rw [List.getD_eq_getElem?_getD] at hx ⊢
    rw [List.getElem?_map]
    cases e2 : rs[p.1]? <;> rw [e2] at hx <;> simpa using hx
  · unfold fnOf at hx'
    rw [List.getD_eq_getElem?_getD] at hx' ⊢
    rw [List.getElem?_map]
    cases e2 : rs[p.2]? <;> rw [e2] at hx' <;> simpa using hx'
theorem clashG_elim {b : Bool} {p A : Prop} (h : clashG b p A) : (b = true → p) ∧ A := by
  cases b with
  | true => exact ⟨fun _ => h.need, h.on⟩
  | false => exact ⟨fun e => (by cases e), h⟩
theorem EX_sound {P : Program} {tb : Tb} (T : TbOk P tb) {X : List Nat} : ∀ (c : Code) {Q : AE → St → Prop} {σ : St}, EX P tb X c Q σ → WP P X c Q σ := by
  intro c
  induction c with
  | skip => intro Q σ h; exact h
  | region id ops draw =>
    intro Q σ h
    simp only [EX, forceN_eq] at h
    simp only [WP]
    cases draw with
    | false =>
      rw [if_neg (by simp)]
      exact EXL_soundR T _ _ _ _ _ _ _ h
    | true =>
      rw [if_pos rfl]
      simp only at h
      split at h
      · rename_i p hp
        refine .inr ⟨p, h.need, opsD_mono _ _ _ _ (fun rs t h hk => ?_) (EXL_soundD T _ _ _ _ _ _ h.on)⟩
        obtain ⟨h1, h2⟩ := clashG_elim hk
        exact ⟨fun hx => fps_noClash (h1 (inX_iff.2 hx)), EXL_soundR T _ _ _ _ _ _ _ h2⟩
      · refine .inl (opsD_mono _ _ _ _ (fun rs t h hk => ?_) (EXL_soundD T _ _ _ _ _ _ h))
        obtain ⟨h1, h2⟩ := clashG_elim hk
        exact ⟨fun hx => fps_noClash (h1 (inX_iff.2 hx)), h2⟩
  | seq a b iha ihb =>
    intro Q σ h
    refine WP_mono a ?_ (iha h)
    intro e σ' hq
    cases e with
    | normal => exact ⟨σ', .refl σ', ihb hq⟩
    | exit id => exact hq
    | ret => exact hq
  | cond c a b iha ihb =>
    intro Q σ h
    simp only [EX] at h
    simp only [WP]
    split at h
    · rename_i q e
      rw [e]
      exact ⟨fun hq => iha (h.yes hq), fun hq => ihb (h.no hq)⟩
    · exact h.elim
  | block id c ih =>
    intro Q σ h
    exact WP_mono c (fun e σ' hq => blockG_eq id Q e σ' hq) (ih h)
  | loop c ih => intro Q σ h; exact h.wp
  | rangeFunc f ps a b iha ihb => intro Q σ h; exact h.wp
  | exit id => intro Q σ h; exact h
  | ret => intro Q σ h; exact h
  | _ => intro Q σ h; exact h.elim
/-! ### a function's results -/
def resG (tb : Tb) (σ : St) : List ResultVar → (List AV → Prop) → Prop
  | [], K => K []
  | .tmp t :: r, K => forceV (σ.t t) fun v => resG tb σ r fun vs => K (v :: vs)
  | .cell a ty :: r, K => match σ.t a with
    | .op id off => match σ.h id with
      | .box cs => takeG (tb.ti ty) (cs.drop off) fun v => resG tb σ r fun vs => K (v :: vs)
      | .sealed cs => takeG (tb.ti ty) (cs.drop off) fun v => resG tb σ r fun vs => K (v :: vs)
      | _ => False
    | _ => False
theorem resG_sound {P : Program} {tb : Tb} (T : TbOk P tb) {σ : St} : ∀ (l : List ResultVar) (K : List AV → Prop), resG tb σ l K → ∃ vs, resList P σ l = some vs ∧ K vs
  | [], K, h => ⟨[], rfl, h⟩
  | .tmp t :: r, K, h => by
    unfold resG at h
    rw [forceV_eq] at h
    obtain ⟨vs, h1, h2⟩ := resG_sound T r _ h
    exact ⟨σ.t t :: vs, by simp [resList, resA, h1], h2⟩
  | .cell a ty :: r, K, h => by
    unfold resG at h
    split at h
    · rename_i id off e
      split at h
      · rename_i cs hh
        obtain ⟨k1, v, hv, hk⟩ := takeG_sound (T.ti ty) h
        obtain ⟨vs, h1, h2⟩ := resG_sound T r _ hk
        exact ⟨v :: vs, by simp [resList, resA, k1, e, hh, HO.peek, hv, h1], h2⟩
      · rename_i cs hh
        obtain ⟨k1, v, hv, hk⟩ := takeG_sound (T.ti ty) h
        obtain ⟨vs, h1, h2⟩ := resG_sound T r _ hk
        exact ⟨v :: vs, by simp [resList, resA, k1, e, hh, HO.peek, hv, h1], h2⟩
      · exact h.elim
    · exact h.elim
/-- What a function's end must say. -/
def FinG (P : Program) (tb : Tb) (rvs : List ResultVar) (r : AV) : AE → St → Prop
  | .exit _, _ => False
  | _, σ => resG tb σ rvs fun vs => RetG P σ.h vs r
theorem FinG_sound {P : Program} {tb : Tb} (T : TbOk P tb) {rvs : List ResultVar} {r : AV} {e : AE} {σ : St} (h : FinG P tb rvs r e σ) : (e = .normal ∨ e = .ret) ∧ RetOk P rvs σ r := by
  have key : resG tb σ rvs (fun vs => RetG P σ.h vs r) → RetOk P rvs σ r := by
    intro h
    obtain ⟨vs, h1, h2⟩ := resG_sound T _ _ h
    have h2 := h2.ret
    unfold RetOk
    rw [h1]
    rcases vs with _ | ⟨v, _ | ⟨v2, vs⟩⟩
    · exact h2
    · exact h2
    · exact h2
  cases e with
  | exit id => exact h.elim
  | normal => exact ⟨.inl rfl, key h⟩
  | ret => exact ⟨.inr rfl, key h⟩
def argsT (args : List AV) : Nat → AV
  | n => args.getD n .undef
/-- A FUNCTION'S CONTRACT, by the evaluator. -/
theorem ex_intro {P : Program} (hm : P.follows .mixedOrders = true) {tb : Tb} (T : TbOk P tb) {f : FuncId} {fn : Func} {c : Code} {args : List AV} {r : AV} (X : List Nat) (hf : P.funcs[f]? = some fn) (hb : fn.body = some c)
    (hN : args.length ≤ fn.ntmps) (hk : codeOk fn.ntmps X c = true) (h : EX P tb X c (FinG P tb fn.results.toList r) ⟨argsT args, fun _ => .none, 0, fun _ => .bad, .off⟩) : Sound P f args r :=
  sound_intro hm X hf hb hN hk (WP_mono c (fun e σ hq => FinG_sound T hq) (EX_sound T c h))
/-- What an iterator's end must say. -/
def FinY : AE → St → Prop
  | .exit _, _ => False
  | _, σ => match σ.y with
    | .more _ xs => xs = []
    | .stop => True
    | .off => False
/-- AN ITERATOR'S CONTRACT, by the evaluator. -/
theorem it_intro {P : Program} (hm : P.follows .mixedOrders = true) {tb : Tb} (T : TbOk P tb) {g : FuncId} {fn : Func} {c : Code} {caps : List AV} {xs : List (List AV)} (X : List Nat) (hf : P.funcs[g]? = some fn) (hb : fn.body = some c)
    (hN : caps.length + 1 ≤ fn.ntmps) (hk : codeOk fn.ntmps X c = true) (hr : fn.results = #[]) (h : ∀ l, EX P tb X c (fun e σ => FinY e σ ∧ ∀ l' ys, σ.y = .more l' ys → l' = l) ⟨argsT (.yl l :: caps), fun _ => .none, 0, fun _ => .bad, .more l xs⟩) : IterS P g caps xs :=
  iter_intro hm X hf hb hN hk hr fun l => WP_mono c (fun e σ hq => by
    obtain ⟨h1, h2⟩ := hq
    cases e with
    | exit id => exact h1.elim
    | normal =>
      refine ⟨.inl rfl, ?_⟩
      cases hy : σ.y with
      | off => simp [FinY, hy] at h1
      | stop => exact .inr rfl
      | more l' ys => simp [FinY, hy] at h1; exact .inl (by rw [h2 l' ys hy, h1])
    | ret =>
      refine ⟨.inr rfl, ?_⟩
      cases hy : σ.y with
      | off => simp [FinY, hy] at h1
      | stop => exact .inr rfl
      | more l' ys => simp [FinY, hy] at h1; exact .inl (by rw [h2 l' ys hy, h1])) (EX_sound T c (h l))
theorem Br.T {A B : Prop} (h : A) : Br true A B := ⟨fun _ => h, fun e => (by cases e)⟩
theorem Br.F {A B : Prop} (h : B) : Br false A B := ⟨fun e => (by cases e), fun _ => h⟩
theorem Nd.go {p A : Prop} (h : p) (k : A) : Nd p A := ⟨h, k⟩
theorem CallG.go {P : Program} {g : Nat} {az : List AV} {K : AV → Prop} {r : AV} (h : Sound P g az r) (k : K r) : CallG P g az K := ⟨r, h, k⟩
theorem Ix.go {xs : List (List AV)} {i : Int} {sz : Nat} {K : List AV → Prop} {el : List AV} (h0 : 0 ≤ i) (h1 : xs[i.toNat]? = some el) (h2 : el.length = sz) (k : K el) : Ix xs i sz K := ⟨h0, el, h1, h2, k⟩
/-- Into a list that was made from another one. -/
theorem Ix.map {α : Type} {f : α → List AV} {l : List α} {i : Int} {sz : Nat} {K : List AV → Prop} {x : α} (h0 : 0 ≤ i) (h1 : l[i.toNat]? = some x) (h2 : (f x).length = sz) (k : K (f x)) : Ix (l.map f) i sz K :=
  ⟨h0, f x, by simp [h1], h2, k⟩
theorem RetG.one {P : Program} {h : AHeap} {v r : AV} (e : ret1 v = some r) : RetG P h [v] r := ⟨.inl e⟩
/-- A closure whose variables are closed. -/
theorem RetG.shut {P : Program} {h : AHeap} {v r : AV} {ids : List Nat} (e : pass h v = some (r, ids)) : RetG P h [v] r := ⟨.inr (.inr ⟨ids, e⟩)⟩
theorem YG.go {y : Yt} {l : Nat} {x : List AV} {A : List (List AV) → Prop} {Bp : Prop} (rest : List (List AV)) (e : y = .more l (x :: rest)) (h1 : A rest) (h2 : Bp) : YG y l x A Bp := ⟨rest, e, h1, h2⟩
theorem RetG.own {P : Program} {h : AHeap} {t : Nat} {xs ys : List (List AV)} {e : TypeId} {sz : Nat} (hl : h t = .live e sz xs.length) (he : xs = ys) : RetG P h [.sl (.tag t) xs] (.sl (.own e sz) ys) := ⟨.inr (.inl ⟨hl, he⟩)⟩
theorem RetG.own0 {P : Program} {h : AHeap} {e : TypeId} {sz : Nat} (hz : sz = P.cellsOf e) : RetG P h [.sl .zero []] (.sl (.own e sz) []) := ⟨.inr (.inl ⟨rfl, rfl, hz⟩)⟩
theorem RetG.fs {P : Program} {h : AHeap} {t : Nat} {ys : List (List AV)} {e : TypeId} {sz : Nat} (hl : h t = .fresh e sz ys) : RetG P h [.fs t] (.sl (.fown e sz) ys) := ⟨.inr (.inl hl)⟩
theorem RetG.fs0 {P : Program} {h : AHeap} {e : TypeId} {sz : Nat} (hz : sz = P.cellsOf e) (hp : 0 < sz) : RetG P h [.sl .zero []] (.sl (.fown e sz) []) := ⟨.inr (.inl ⟨rfl, rfl, hz, hp⟩)⟩
theorem RetG.two {P : Program} {h : AHeap} {v w r s : AV} (e : ret1 v = some r) (e' : ret1 w = some s) : RetG P h [v, w] (.tup [r, s]) := ⟨by simp [retL, e, e']⟩
theorem RetG.three {P : Program} {h : AHeap} {v w x r s q : AV} (e : ret1 v = some r) (e' : ret1 w = some s) (e'' : ret1 x = some q) : RetG P h [v, w, x] (.tup [r, s, q]) := ⟨by simp [retL, e, e', e'']⟩
theorem RetG.none {P : Program} {h : AHeap} : RetG P h [] (.tup []) := ⟨by simp [retL]⟩
/-! ### loops -/
/-- A loop, by what holds at every round's head: its state is told by mk. -/
theorem Lp.intro {P : Program} {X : List Nat} {c : Code} {Q : AE → St → Prop} {σ : St} {α : Type} (mk : α → St) (I : Nat → α → Prop) (n : Nat) (a : α) (h0 : I n a) (hn : Rn P σ (mk a))
    (hr : ∀ n a, I n a → WP P X c (thenG (fun σ' => ∃ m a', m < n ∧ I m a' ∧ Rn P σ' (mk a')) Q) (mk a)) : Lp P X c Q σ :=
  ⟨WP_loop (fun m σ => ∃ a, σ = mk a ∧ I m a) hn ⟨a, rfl, h0⟩ (by
    rintro m _ ⟨a, rfl, hI⟩
    refine WP_mono c ?_ (hr m a hI)
    intro e σ' hq
    cases e with
    | normal =>
      obtain ⟨q, a', h1, h2, h3⟩ := hq
      exact ⟨q, mk a', h1, h3, a', rfl, h2⟩
    | exit id => exact hq
    | ret => exact hq)⟩
theorem LenG.map {α : Type} {f : α → List AV} {l : List α} {K : Int → Prop} (k : K l.length) : LenG (l.map f) K := ⟨by rw [List.length_map]; exact k⟩
theorem LenG.go {xs : List (List AV)} {K : Int → Prop} (k : K xs.length) : LenG xs K := ⟨k⟩
theorem Br.tt {b : Bool} {A B : Prop} (h : b = true) (k : A) : Br b A B := ⟨fun _ => k, fun e => (by rw [h] at e; cases e)⟩
theorem Br.ff {b : Bool} {A B : Prop} (h : b = false) (k : B) : Br b A B := ⟨fun e => (by rw [h] at e; cases e), fun _ => k⟩
theorem FnG.go {tb : Tb} {g : Nat} {A : Prop} (h : tb.fn g = true) (k : A) : FnG tb g A := ⟨h, k⟩
def ofL : List (Nat × AV) → Nat → AV
  | [], _ => .bad
  | (d, v) :: r, n => match Nat.beq n d with
    | true => v
    | false => ofL r n
def ofH : List HO → Nat → HO
  | [], _ => .none
  | o :: r, n => match n with
    | 0 => o
    | n + 1 => ofH r n
theorem ofH_get : ∀ (H : List HO) (n : Nat), ofH H n = (H[n]?).getD .none
  | [], n => by cases n <;> rfl
  | o :: r, 0 => rfl
  | o :: r, n + 1 => by simpa [ofH] using ofH_get r n
def mkS (L : List (Nat × AV)) (H : List HO) : St := ⟨ofL L, ofH H, H.length, fun _ => .bad, .off⟩
def mkT (L Ls : List (Nat × AV)) (H : List HO) (y : Yt) : St := ⟨ofL L, ofH H, H.length, ofL Ls, y⟩
/-- Which boxes live on: those that a temporary points to, or a cell of such a box. -/
inductive Root where
  | t (n : Nat)
  | c (r : Root) (j : Nat)
def idV : AV → Option Nat
  | .op id _ => some id
  | .sl (.tag id) _ => some id
  | .fs id => some id
  | .ms id _ _ _ _ => some id
  | .mp id _ => some id
  | _ => none
def Root.id (σ : St) : Root → Option Nat
  | .t n => idV (σ.t n)
  | .c r j => match r.id σ with
    | some id => match σ.h id with
      | .box cs => match cs[j]? with
        | some v => idV v
        | none => none
      | .sealed cs => match cs[j]? with
        | some v => idV v
        | none => none
      | _ => none
    | none => none
def idsOf (σ : St) : List Root → Option (List Nat)
  | [] => some []
  | r :: rs => match r.id σ, idsOf σ rs with
    | some i, some is => some (i :: is)
    | _, _ => none
def idx : List Nat → Nat → Nat → Option Nat
  | [], _, _ => none
  | i :: r, j, n => match Nat.beq n i with
    | true => some j
    | false => idx r (j + 1) n
def apartB : List Nat → Bool
  | [] => true
  | i :: r => match inX r i with
    | true => false
    | false => apartB r
def TChk (g : Nat → Option Nat) (t : Nat → AV) : List (Nat × AV) → Prop
  | [] => True
  | (d, v) :: r => v = ren1 g (t d) ∧ TChk g t r
def HChk (g : Nat → Option Nat) (h : AHeap) : List Nat → List HO → Prop
  | [], [] => True
  | i :: is, o :: os => o = renO g (h i) ∧ HChk g h is os
  | _, _ => False
/-- The state is told so, place by place. -/
def RnL (σ : St) (roots : List Root) (L : List (Nat × AV)) (H : List HO) : Prop :=
  match σ.y with
  | .off => match idsOf σ roots with
    | some ids => apartB ids = true ∧ TChk (idx ids 0) σ.t L ∧ HChk (idx ids 0) σ.h ids H
    | none => False
  | _ => False
/-- The same, in a round or in an iterator. -/
def RnT (σ : St) (roots : List Root) (L Ls : List (Nat × AV)) (H : List HO) (y : Yt) : Prop :=
  match idsOf σ roots with
  | some ids => apartB ids = true ∧ TChk (idx ids 0) σ.t L ∧ TChk (idx ids 0) σ.s Ls ∧ HChk (idx ids 0) σ.h ids H ∧ y = σ.y
  | none => False
theorem idx_iff : ∀ (ids : List Nat), apartB ids = true → ∀ (j n m : Nat), idx ids j m = some (j + n) ↔ ids[n]? = some m
  | [], _, j, n, m => by simp [idx]
  | i :: r, ha, j, n, m => by
    simp only [apartB] at ha
    split at ha
    · cases ha
    · rename_i hi
      have ih := idx_iff r ha
      simp only [idx]
      split
      · rename_i hb
        have hm := Nat.eq_of_beq_eq_true hb
        subst hm
        cases n with
        | zero => simp
        | succ n =>
          simp only [Option.some.injEq, List.getElem?_cons_succ]
          constructor
          · omega
          · intro h
            have : m ∈ r := List.mem_of_getElem? h
            rw [inX_iff.2 this] at hi
            cases hi
      · rename_i hb
        cases n with
        | zero =>
          simp only [Nat.add_zero, List.getElem?_cons_zero, Option.some.injEq]
          constructor
          · intro h
            exfalso
            have key : ∀ (l : List Nat) (q : Nat), idx l (q + 1) m = some j → q + 1 ≤ j := by
              intro l
              induction l with
              | nil => intro q h; cases h
              | cons y l ihl =>
                intro q h
                simp only [idx] at h
                split at h
                · simp only [Option.some.injEq] at h; omega
                · have := ihl (q + 1) h; omega
            have := key r j h
            omega
          · rintro rfl
            simp at hb
        | succ n =>
          rw [List.getElem?_cons_succ, ← ih (j + 1) n m]
          rw [show j + 1 + n = j + (n + 1) by omega]
theorem HChk_get {g : Nat → Option Nat} {h : AHeap} : ∀ {is : List Nat} {H : List HO}, HChk g h is H → is.length = H.length ∧ ∀ (n i : Nat), is[n]? = some i → H[n]? = some (renO g (h i))
  | [], [], _ => ⟨rfl, fun n i hi => by simp at hi⟩
  | i :: is, o :: os, hc => by
    obtain ⟨h1, h2⟩ := hc
    obtain ⟨h3, h4⟩ := HChk_get h2
    refine ⟨by simp [h3], fun n j hj => ?_⟩
    cases n with
    | zero => simp at hj; subst hj; simp [h1]
    | succ n => simpa using h4 n j (by simpa using hj)
  | [], _ :: _, hc => hc.elim
  | _ :: _, [], hc => hc.elim
theorem TChk_get {g : Nat → Option Nat} {t : Nat → AV} : ∀ {L : List (Nat × AV)}, TChk g t L → ∀ n, ofL L n = .bad ∨ ofL L n = ren1 g (t n)
  | [], _, n => .inl rfl
  | (d, v) :: r, hc, n => by
    obtain ⟨h1, h2⟩ := hc
    simp only [ofL]
    split
    · rename_i hb; rw [Nat.eq_of_beq_eq_true hb]; exact .inr h1
    · exact TChk_get h2 n
theorem RnT.rn {P : Program} {σ : St} {roots : List Root} {L Ls : List (Nat × AV)} {H : List HO} {y : Yt} (h : RnT σ roots L Ls H y) : Rn P σ (mkT L Ls H y) := by
  unfold RnT at h
  split at h
  · rename_i ids hids
    obtain ⟨ha, ht, hs, hh, hy⟩ := h
    obtain ⟨hl, hg⟩ := HChk_get hh
    refine .ren ⟨fun n => ids[n]?, fun m => idx ids 0 m, fun n m => ?_, TChk_get ht, TChk_get hs, fun n => ?_, fun q => ?_, hy⟩ (.refl _)
    · have := idx_iff ids ha 0 n m
      rw [Nat.zero_add] at this
      exact this.symm
    · show ofH H n = _
      rw [ofH_get]
      simp only [renH]
      cases hi : ids[n]? with
      | none =>
        have : H.length ≤ n := by rw [← hl]; exact List.getElem?_eq_none_iff.1 hi
        simp [List.getElem?_eq_none this]
      | some i => rw [hg n i hi]; rfl
    · show ofH H _ = _
      rw [ofH_get]
      simp [mkT]
  · exact h.elim
theorem RnL.rn {P : Program} {σ : St} {roots : List Root} {L : List (Nat × AV)} {H : List HO} (h : RnL σ roots L H) : Rn P σ (mkS L H) := by
  unfold RnL at h
  split at h
  · rename_i hy
    split at h
    · rename_i ids hids
      obtain ⟨ha, ht, hh⟩ := h
      have : RnT σ roots L [] H .off := by unfold RnT; rw [hids]; exact ⟨ha, ht, trivial, hh, hy.symm⟩
      exact this.rn
    · exact h.elim
  · exact h.elim
/-- Slices without room that are taken in first: those in a temporary, those in a box's cell. -/
inductive Zp where
  | t (d e : Nat)
  | f (d e : Nat)
  | c (r : Root) (j e : Nat)
def zAll (tb : Tb) : List Zp → St → (St → Prop) → Prop
  | [], σ, K => K σ
  | .t d e :: zs, σ, K => Chk (tb.ti e).ok (match σ.t d with
    | .sl .zero [] => zAll tb zs (zT σ d e (tb.ti e).cells) K
    | _ => False)
  | .f d e :: zs, σ, K => Chk ((tb.ti e).ok && Nat.blt 0 (tb.ti e).cells) (match σ.t d with
    | .sl .zero [] => zAll tb zs (zF σ d e (tb.ti e).cells) K
    | _ => False)
  | .c r j e :: zs, σ, K => Chk (tb.ti e).ok (match r.id σ with
    | some id => match σ.h id with
      | .box cs => match cs[j]? with
        | some (.sl .zero []) => zAll tb zs (zC σ id (cs.set j (.sl (.tag σ.k) [])) e (tb.ti e).cells) K
        | _ => False
      | _ => False
    | none => False)
theorem zAll_sound {P : Program} {tb : Tb} (T : TbOk P tb) {σ2 : St} : ∀ (zs : List Zp) (σ : St) (K : St → Prop), (∀ σ', K σ' → Rn P σ' σ2) → zAll tb zs σ K → Rn P σ σ2
  | [], σ, K, hK, h => hK σ h
  | .t d e :: zs, σ, K, hK, h => by
    unfold zAll at h
    obtain ⟨h1, h2⟩ := Chk.elim h
    split at h2
    · rename_i hd
      have := zAll_sound T zs _ K hK h2
      rw [← ((T.ti e).ok h1).2.2.1] at this
      exact .zt d e hd this
    · exact h2.elim
  | .f d e :: zs, σ, K, hK, h => by
    unfold zAll at h
    obtain ⟨h1, h2⟩ := Chk.elim h
    simp only [Bool.and_eq_true] at h1
    split at h2
    · rename_i hd
      have hp : 0 < (tb.ti e).cells := Nat.le_of_ble_eq_true h1.2
      have := zAll_sound T zs _ K hK h2
      rw [← ((T.ti e).ok h1.1).2.2.1] at this hp
      exact .zf d e hd hp this
    · exact h2.elim
  | .c r j e :: zs, σ, K, hK, h => by
    unfold zAll at h
    obtain ⟨h1, h2⟩ := Chk.elim h
    split at h2
    · rename_i id hid
      split at h2
      · rename_i cs hh
        split at h2
        · rename_i hj
          have := zAll_sound T zs _ K hK h2
          rw [← ((T.ti e).ok h1).2.2.1] at this
          exact .zc id j e cs hh hj this
        · exact h2.elim
      · exact h2.elim
    · exact h2.elim
/-- A loop whose head is told place by place: L: the temporaries that are looked at again, H: the boxes, roots: by what they are found. -/
theorem Lp.goZ {P : Program} {tb : Tb} (T : TbOk P tb) {X : List Nat} {c : Code} {Q : AE → St → Prop} {σ : St} {α : Type} (roots : List Root) (zs : List Zp) (L : α → List (Nat × AV)) (H : α → List HO) (I : Nat → α → Prop) (n : Nat) (a : α)
    (h0 : I n a) (rs : List Root) (hn : zAll tb zs σ fun σ => RnL σ rs (L a) (H a))
    (hr : ∀ n a, I n a → EX P tb X c (thenG (fun σ' => ∃ m a', m < n ∧ I m a' ∧ RnL σ' roots (L a') (H a')) Q) (mkS (L a) (H a))) : Lp P X c Q σ := by
  refine Lp.intro (fun a => mkS (L a) (H a)) I n a h0 (zAll_sound T zs σ _ (fun σ' h => RnL.rn h) hn) (fun n a hI => ?_)
  refine WP_mono c (fun e σ' hq => by
    cases e with
    | normal =>
      obtain ⟨m, a', h1, h2, h3⟩ := hq
      exact ⟨m, a', h1, h2, h3.rn⟩
    | exit id => exact hq
    | ret => exact hq) (EX_sound T c (hr n a hI))
theorem Lp.go {P : Program} {tb : Tb} (T : TbOk P tb) {X : List Nat} {c : Code} {Q : AE → St → Prop} {σ : St} {α : Type} (roots : List Root) (L : α → List (Nat × AV)) (H : α → List HO) (I : Nat → α → Prop) (n : Nat) (a : α)
    (h0 : I n a) (rs : List Root) (hn : RnL σ rs (L a) (H a))
    (hr : ∀ n a, I n a → EX P tb X c (thenG (fun σ' => ∃ m a', m < n ∧ I m a' ∧ RnL σ' roots (L a') (H a')) Q) (mkS (L a) (H a))) : Lp P X c Q σ :=
  Lp.goZ T roots [] L H I n a h0 rs hn hr
/-- A loop in a round or in an iterator. -/
theorem Lp.goTZ {P : Program} {tb : Tb} (T : TbOk P tb) {X : List Nat} {c : Code} {Q : AE → St → Prop} {σ : St} {α : Type} (roots : List Root) (zs : List Zp) (L Ls : α → List (Nat × AV)) (H : α → List HO) (Y : α → Yt) (I : Nat → α → Prop) (n : Nat) (a : α)
    (h0 : I n a) (rs : List Root) (hn : zAll tb zs σ fun σ => RnT σ rs (L a) (Ls a) (H a) (Y a))
    (hr : ∀ n a, I n a → EX P tb X c (thenG (fun σ' => ∃ m a', m < n ∧ I m a' ∧ RnT σ' roots (L a') (Ls a') (H a') (Y a')) Q) (mkT (L a) (Ls a) (H a) (Y a))) : Lp P X c Q σ := by
  refine Lp.intro (fun a => mkT (L a) (Ls a) (H a) (Y a)) I n a h0 (zAll_sound T zs σ _ (fun σ' h => RnT.rn h) hn) (fun n a hI => ?_)
  refine WP_mono c (fun e σ' hq => by
    cases e with
    | normal =>
      obtain ⟨m, a', h1, h2, h3⟩ := hq
      exact ⟨m, a', h1, h2, h3.rn⟩
    | exit id => exact hq
    | ret => exact hq) (EX_sound T c (hr n a hI))
theorem Lp.goT {P : Program} {tb : Tb} (T : TbOk P tb) {X : List Nat} {c : Code} {Q : AE → St → Prop} {σ : St} {α : Type} (roots : List Root) (L Ls : α → List (Nat × AV)) (H : α → List HO) (Y : α → Yt) (I : Nat → α → Prop) (n : Nat) (a : α)
    (h0 : I n a) (rs : List Root) (hn : RnT σ rs (L a) (Ls a) (H a) (Y a))
    (hr : ∀ n a, I n a → EX P tb X c (thenG (fun σ' => ∃ m a', m < n ∧ I m a' ∧ RnT σ' roots (L a') (Ls a') (H a') (Y a')) Q) (mkT (L a) (Ls a) (H a) (Y a))) : Lp P X c Q σ :=
  Lp.goTZ T roots [] L Ls H Y I n a h0 rs hn hr
/-- A range over a function whose contract is known: between rounds the state is told place by place. -/
def rndG (J : St → Prop) (Q : AE → St → Prop) : AE → St → Prop
  | .normal, σ => J σ
  | e, σ => Q e ⟨σ.s, σ.h, σ.k, fun _ => .bad, σ.y⟩
def bindG : List Tmp → List AV → (Nat → AV) → Nat → AV
  | p :: ps, x :: xs, t => bindG ps xs (putN p x t)
  | _, _, t => t
theorem bindG_eq : ∀ (ps : List Tmp) (x : List AV) (t : Nat → AV), bindA ps x t = bindG ps x t
  | [], x, t => by cases x <;> rfl
  | p :: ps, [], t => rfl
  | p :: ps, x :: xs, t => by
    have := bindG_eq ps xs (putN p x t)
    have e : putN p x t = fun n => if n = p then x else t n := by
      funext n
      simp only [putN]
      split
      · rename_i hb; simp [Nat.eq_of_beq_eq_true hb]
      · rename_i hb
        rw [if_neg (fun e => by subst e; simp at hb)]
    simp only [bindG]
    rw [← this, e]
    rfl
theorem RfG.goZ {P : Program} {tb : Tb} (T : TbOk P tb) {X : List Nat} {f : Operand} {ps : Array Tmp} {assign body : Code} {Q : AE → St → Prop} {σ : St} {g : FuncId} {caps az : List AV} {xs : List (List AV)} {α : Type}
    (hfv : evA σ.t f = .fn g caps) (hp : passCs σ.h caps = some (az, [])) (it : IterS P g az xs) (hxl : ∀ x ∈ xs, x.length = ps.size) (hfn : tb.fn g = true)
    (roots : List Root) (zs : List Zp) (Ls : α → List (Nat × AV)) (H : α → List HO) (Y : α → Yt) (I : Nat → α → Prop) (a0 : α) (h0 : I 0 a0) (rs : List Root) (hn : zAll tb zs ⟨σ.t, σ.h, σ.k, σ.t, σ.y⟩ fun σ => RnT σ rs [] (Ls a0) (H a0) (Y a0))
    (hr : ∀ i a x, I i a → xs[i]? = some x → EX P tb X assign (asgG (EX P tb X body (rndG (fun σ' => ∃ a', I (i + 1) a' ∧ RnT σ' roots [] (Ls a') (H a') (Y a')) Q))) ⟨bindG ps.toList x (ofL (Ls a)), ofH (H a), (H a).length, ofL (Ls a), Y a⟩)
    (hd : ∀ a, I xs.length a → Q .normal ⟨ofL (Ls a), ofH (H a), (H a).length, fun _ => .bad, Y a⟩) : RfG P X f ps assign body Q σ := by
  refine ⟨g, caps, az, [], xs, hfv, hp, it, hxl, T.fn g hfn, fun i σ' => ∃ a, I i a ∧ σ' = mkT [] (Ls a) (H a) (Y a), mkT [] (Ls a0) (H a0) (Y a0), ?_, ⟨a0, h0, rfl⟩, ?_, ?_⟩
  · have e : sealH σ.h [] = σ.h := by funext j; simp [sealH]
    rw [e]
    exact zAll_sound T zs _ _ (fun σ' h => RnT.rn h) hn
  · rintro i x _ ⟨a, hI, rfl⟩ hx
    have := hr i a x hI hx
    refine WP_mono assign (fun e σ2 hq => ?_) (EX_sound T assign (by rw [show (mkT [] (Ls a) (H a) (Y a)).s = ofL (Ls a) from rfl, bindG_eq]; exact this))
    cases e with
    | normal =>
      refine WP_mono body (fun e σ3 hq => ?_) (EX_sound T body hq)
      cases e with
      | normal => obtain ⟨a', h1, h2⟩ := hq; exact ⟨_, h2.rn, a', h1, rfl⟩
      | exit id => exact hq
      | ret => exact hq
    | exit id => exact hq.elim
    | ret => exact hq.elim
  · rintro _ ⟨a, hI, rfl⟩
    exact hd a hI
theorem RfG.go {P : Program} {tb : Tb} (T : TbOk P tb) {X : List Nat} {f : Operand} {ps : Array Tmp} {assign body : Code} {Q : AE → St → Prop} {σ : St} {g : FuncId} {caps az : List AV} {xs : List (List AV)} {α : Type}
    (hfv : evA σ.t f = .fn g caps) (hp : passCs σ.h caps = some (az, [])) (it : IterS P g az xs) (hxl : ∀ x ∈ xs, x.length = ps.size) (hfn : tb.fn g = true)
    (roots : List Root) (Ls : α → List (Nat × AV)) (H : α → List HO) (Y : α → Yt) (I : Nat → α → Prop) (a0 : α) (h0 : I 0 a0) (rs : List Root) (hn : RnT ⟨σ.t, σ.h, σ.k, σ.t, σ.y⟩ rs [] (Ls a0) (H a0) (Y a0))
    (hr : ∀ i a x, I i a → xs[i]? = some x → EX P tb X assign (asgG (EX P tb X body (rndG (fun σ' => ∃ a', I (i + 1) a' ∧ RnT σ' roots [] (Ls a') (H a') (Y a')) Q))) ⟨bindG ps.toList x (ofL (Ls a)), ofH (H a), (H a).length, ofL (Ls a), Y a⟩)
    (hd : ∀ a, I xs.length a → Q .normal ⟨ofL (Ls a), ofH (H a), (H a).length, fun _ => .bad, Y a⟩) : RfG P X f ps assign body Q σ :=
  RfG.goZ T hfv hp it hxl hfn roots [] Ls H Y I a0 h0 rs hn hr hd
/-- A loop's rounds, one by one. -/
def UL (P : Program) (tb : Tb) (X : List Nat) (c : Code) (Q : AE → St → Prop) : Nat → St → Prop
  | 0, _ => False
  | n + 1, σ => EX P tb X c (thenG (UL P tb X c Q n) Q) σ
theorem Lp.unroll {P : Program} {tb : Tb} (T : TbOk P tb) {X : List Nat} {c : Code} {Q : AE → St → Prop} {σ : St} (n : Nat) (h : UL P tb X c Q n σ) : Lp P X c Q σ := by
  refine ⟨WP_loop (fun m σ => UL P tb X c Q m σ) (Rn.refl σ) h (fun m σ' hm => ?_)⟩
  cases m with
  | zero => exact hm.elim
  | succ m =>
    refine WP_mono c (fun e σ2 hq => ?_) (EX_sound T c hm)
    cases e with
    | normal => exact ⟨m, σ2, by omega, .refl _, hq⟩
    | exit id => exact hq
    | ret => exact hq
end Go.Proofs.YtbaajjihhdmdpaaGreatDoor

namespace Go.Proofs.YtbaajjihhdmdpaaGreatDoor
open Go.RowKit
set_option linter.unusedSectionVars false
set_option linter.unusedVariables false
def tyTree (n : Nat) : TI :=
  match Nat.ble n 169 with
  | true =>
    match Nat.ble n 83 with
    | true =>
      match Nat.ble n 41 with
      | true =>
        match Nat.ble n 19 with
        | true =>
          match Nat.ble n 9 with
          | true =>
            match Nat.ble n 4 with
            | true =>
              match Nat.ble n 2 with
              | true =>
                match Nat.ble n 1 with
                | true =>
                  match Nat.beq n 1 with
                  | true => { ok := true, cells := 1, bytes := 8, zero := some [.nilF] }
                  | false => {}
                | false =>
                  match Nat.beq n 2 with
                  | true => { ok := true, cells := 1, bytes := 8, zero := some [.int .i64 0], ik := some .i64 }
                  | false => {}
              | false =>
                match Nat.ble n 3 with
                | true =>
                  match Nat.beq n 3 with
                  | true => { ok := true, cells := 1, bytes := 8, zero := some [.int .i64 0], ik := some .i64 }
                  | false => {}
                | false =>
                  match Nat.beq n 4 with
                  | true => { ok := true, cells := 1, bytes := 1, zero := some [.bool false], isBool := true }
                  | false => {}
            | false =>
              match Nat.ble n 6 with
              | true =>
                match Nat.ble n 5 with
                | true =>
                  match Nat.beq n 5 with
                  | true => { ok := true, cells := 1, bytes := 1, zero := some [.int .u8 0], ik := some .u8 }
                  | false => {}
                | false =>
                  match Nat.beq n 6 with
                  | true => { ok := true, cells := 1, bytes := 1, zero := some [.int .u8 0], ik := some .u8 }
                  | false => {}
              | false =>
                match Nat.ble n 7 with
                | true =>
                  match Nat.beq n 7 with
                  | true => { ok := true, cells := 4, bytes := 24, agg := true, zero := some [.int .i64 0, .int .i64 0, .bool false, .int .u8 0], offs := [some 0, some 1, some 2, some 3], flds := some [(0, 1), (1, 1), (2, 1), (3, 1)] }
                  | false => {}
                | false =>
                  match Nat.ble n 8 with
                  | true =>
                    match Nat.beq n 8 with
                    | true => { ok := true, cells := 4, bytes := 24, agg := true, zero := some [.int .i64 0, .int .i64 0, .bool false, .int .u8 0], offs := [some 0, some 1, some 2, some 3], flds := some [(0, 1), (1, 1), (2, 1), (3, 1)] }
                    | false => {}
                  | false =>
                    match Nat.beq n 9 with
                    | true => { ok := true, cells := 1, bytes := 16, zero := some [.str0] }
                    | false => {}
          | false =>
            match Nat.ble n 14 with
            | true =>
              match Nat.ble n 11 with
              | true =>
                match Nat.ble n 10 with
                | true =>
                  match Nat.beq n 10 with
                  | true => { ok := true, cells := 1, bytes := 16, zero := some [.str0] }
                  | false => {}
                | false =>
                  match Nat.beq n 11 with
                  | true => { ok := true, cells := 1, bytes := 16, zero := some [.str0] }
                  | false => {}
              | false =>
                match Nat.ble n 12 with
                | true =>
                  match Nat.beq n 12 with
                  | true => { ok := true, cells := 1, bytes := 8, zero := some [.int .u64 0], ik := some .u64 }
                  | false => {}
                | false =>
                  match Nat.ble n 13 with
                  | true =>
                    match Nat.beq n 13 with
                    | true => { ok := true, cells := 2, bytes := 24, agg := true, zero := some [.str0, .int .u64 0], offs := [some 0, some 1], flds := some [(0, 1), (1, 1)] }
                    | false => {}
                  | false =>
                    match Nat.beq n 14 with
                    | true => { ok := true, cells := 2, bytes := 24, agg := true, zero := some [.str0, .int .u64 0], offs := [some 0, some 1], flds := some [(0, 1), (1, 1)] }
                    | false => {}
            | false =>
              match Nat.ble n 16 with
              | true =>
                match Nat.ble n 15 with
                | true =>
                  match Nat.beq n 15 with
                  | true => { ok := true, cells := 1, bytes := 8, zero := some [.nilP] }
                  | false => {}
                | false =>
                  match Nat.beq n 16 with
                  | true => { ok := true, cells := 1, bytes := 8, zero := some [.nilP] }
                  | false => {}
              | false =>
                match Nat.ble n 17 with
                | true =>
                  match Nat.beq n 17 with
                  | true => { ok := true, cells := 1, bytes := 8, zero := some [.nilP] }
                  | false => {}
                | false =>
                  match Nat.ble n 18 with
                  | true =>
                    match Nat.beq n 18 with
                    | true => { ok := true, cells := 1, bytes := 8, agg := true, zero := some [.nilP], offs := [some 0], flds := some [(0, 1)] }
                    | false => {}
                  | false =>
                    match Nat.beq n 19 with
                    | true => { ok := true, cells := 1, bytes := 8, agg := true, zero := some [.nilP], offs := [some 0], flds := some [(0, 1)] }
                    | false => {}
        | false =>
          match Nat.ble n 29 with
          | true =>
            match Nat.ble n 24 with
            | true =>
              match Nat.ble n 22 with
              | true =>
                match Nat.ble n 21 with
                | true =>
                  match Nat.beq n 21 with
                  | true => { ok := true, cells := 1, bytes := 4, zero := some [.int .i32 0], ik := some .i32 }
                  | false => {}
                | false =>
                  match Nat.beq n 22 with
                  | true => { ok := true, cells := 1, bytes := 24, zero := some [.sl0], el := some 24 }
                  | false => {}
              | false =>
                match Nat.ble n 23 with
                | true =>
                  match Nat.beq n 23 with
                  | true => { ok := true, cells := 1, bytes := 24, zero := some [.sl0], el := some 31 }
                  | false => {}
                | false =>
                  match Nat.beq n 24 with
                  | true => { ok := true, cells := 1, bytes := 24, zero := some [.sl0], el := some 3 }
                  | false => {}
            | false =>
              match Nat.ble n 26 with
              | true =>
                match Nat.ble n 25 with
                | true =>
                  match Nat.beq n 25 with
                  | true => { ok := true, cells := 6, bytes := 96, agg := true, zero := some [.int .i64 0, .sl0, .int .i64 0, .int .i64 0, .sl0, .sl0], offs := [some 0, some 1, some 2, some 3, some 4, some 5], flds := some [(0, 1), (1, 1), (2, 1), (3, 1), (4, 1), (5, 1)] }
                  | false => {}
                | false =>
                  match Nat.beq n 26 with
                  | true => { ok := true, cells := 6, bytes := 96, agg := true, zero := some [.int .i64 0, .sl0, .int .i64 0, .int .i64 0, .sl0, .sl0], offs := [some 0, some 1, some 2, some 3, some 4, some 5], flds := some [(0, 1), (1, 1), (2, 1), (3, 1), (4, 1), (5, 1)] }
                  | false => {}
              | false =>
                match Nat.ble n 27 with
                | true =>
                  match Nat.beq n 27 with
                  | true => { ok := true, cells := 1, bytes := 24, zero := some [.sl0], el := some 61 }
                  | false => {}
                | false =>
                  match Nat.ble n 28 with
                  | true =>
                    match Nat.beq n 28 with
                    | true => { ok := true, cells := 3, bytes := 40, agg := true, zero := some [.int .i64 0, .int .i64 0, .sl0], offs := [some 0, some 1, some 2], flds := some [(0, 1), (1, 1), (2, 1)] }
                    | false => {}
                  | false =>
                    match Nat.beq n 29 with
                    | true => { ok := true, cells := 3, bytes := 40, agg := true, zero := some [.int .i64 0, .int .i64 0, .sl0], offs := [some 0, some 1, some 2], flds := some [(0, 1), (1, 1), (2, 1)] }
                    | false => {}
          | false =>
            match Nat.ble n 34 with
            | true =>
              match Nat.ble n 31 with
              | true =>
                match Nat.ble n 30 with
                | true =>
                  match Nat.beq n 30 with
                  | true => { ok := true, cells := 3, bytes := 24, agg := true, zero := some [.int .i64 0, .int .i64 0, .int .i64 0], offs := [some 0, some 1, some 2], flds := some [(0, 1), (1, 1), (2, 1)] }
                  | false => {}
                | false =>
                  match Nat.beq n 31 with
                  | true => { ok := true, cells := 3, bytes := 24, agg := true, zero := some [.int .i64 0, .int .i64 0, .int .i64 0], offs := [some 0, some 1, some 2], flds := some [(0, 1), (1, 1), (2, 1)], eq := true }
                  | false => {}
              | false =>
                match Nat.ble n 32 with
                | true =>
                  match Nat.beq n 32 with
                  | true => { ok := true, cells := 1, bytes := 8, zero := some [.nilF] }
                  | false => {}
                | false =>
                  match Nat.ble n 33 with
                  | true =>
                    match Nat.beq n 33 with
                    | true => { ok := true, cells := 1, bytes := 8, zero := some [.nilF] }
                    | false => {}
                  | false =>
                    match Nat.beq n 34 with
                    | true => { ok := true, cells := 1, bytes := 8, zero := some [.int .i64 0], ik := some .i64 }
                    | false => {}
            | false =>
              match Nat.ble n 38 with
              | true =>
                match Nat.ble n 36 with
                | true =>
                  match Nat.beq n 36 with
                  | true => { ok := true, cells := 1, bytes := 8, zero := some [.nilF] }
                  | false => {}
                | false =>
                  match Nat.beq n 38 with
                  | true => { ok := true, cells := 1, bytes := 8, zero := some [.nilF] }
                  | false => {}
              | false =>
                match Nat.ble n 39 with
                | true =>
                  match Nat.beq n 39 with
                  | true => { ok := true, cells := 1, bytes := 8, zero := some [.nilF] }
                  | false => {}
                | false =>
                  match Nat.ble n 40 with
                  | true =>
                    match Nat.beq n 40 with
                    | true => { ok := true, cells := 1, bytes := 8, zero := some [.nilF] }
                    | false => {}
                  | false =>
                    match Nat.beq n 41 with
                    | true => { ok := true, cells := 1, bytes := 8, zero := some [.nilF] }
                    | false => {}
      | false =>
        match Nat.ble n 62 with
        | true =>
          match Nat.ble n 50 with
          | true =>
            match Nat.ble n 45 with
            | true =>
              match Nat.ble n 43 with
              | true =>
                match Nat.ble n 42 with
                | true =>
                  match Nat.beq n 42 with
                  | true => { ok := true, cells := 1, bytes := 24, zero := some [.sl0], el := some 47 }
                  | false => {}
                | false =>
                  match Nat.beq n 43 with
                  | true => { ok := true, cells := 6, bytes := 48, agg := true, zero := some [.int .i64 0, .int .i64 0, .int .i64 0, .int .i64 0, .int .i64 0, .int .i64 0], offs := [some 0, some 1, some 2, some 3, some 4, some 5], flds := some [(0, 1), (1, 1), (2, 1), (3, 1), (4, 1), (5, 1)] }
                  | false => {}
              | false =>
                match Nat.ble n 44 with
                | true =>
                  match Nat.beq n 44 with
                  | true => { ok := true, cells := 6, bytes := 48, agg := true, zero := some [.int .i64 0, .int .i64 0, .int .i64 0, .int .i64 0, .int .i64 0, .int .i64 0], offs := [some 0, some 1, some 2, some 3, some 4, some 5], flds := some [(0, 1), (1, 1), (2, 1), (3, 1), (4, 1), (5, 1)], eq := true }
                  | false => {}
                | false =>
                  match Nat.beq n 45 with
                  | true => { ok := true, cells := 1, bytes := 24, zero := some [.sl0], el := some 80 }
                  | false => {}
            | false =>
              match Nat.ble n 47 with
              | true =>
                match Nat.ble n 46 with
                | true =>
                  match Nat.beq n 46 with
                  | true => { ok := true, cells := 7, bytes := 72, agg := true, zero := some [.int .i64 0, .int .i64 0, .int .i64 0, .int .i64 0, .int .i64 0, .int .i64 0, .sl0], offs := [some 0, some 6], flds := some [(0, 6), (6, 1)] }
                  | false => {}
                | false =>
                  match Nat.beq n 47 with
                  | true => { ok := true, cells := 7, bytes := 72, agg := true, zero := some [.int .i64 0, .int .i64 0, .int .i64 0, .int .i64 0, .int .i64 0, .int .i64 0, .sl0], offs := [some 0, some 6], flds := some [(0, 6), (6, 1)] }
                  | false => {}
              | false =>
                match Nat.ble n 48 with
                | true =>
                  match Nat.beq n 48 with
                  | true => { ok := true, cells := 1, bytes := 8, zero := some [.nilF] }
                  | false => {}
                | false =>
                  match Nat.ble n 49 with
                  | true =>
                    match Nat.beq n 49 with
                    | true => { ok := true, cells := 1, bytes := 8, zero := some [.nilF] }
                    | false => {}
                  | false =>
                    match Nat.beq n 50 with
                    | true => { ok := true, cells := 1, bytes := 8, zero := some [.nilF] }
                    | false => {}
          | false =>
            match Nat.ble n 57 with
            | true =>
              match Nat.ble n 53 with
              | true =>
                match Nat.ble n 51 with
                | true =>
                  match Nat.beq n 51 with
                  | true => { ok := true, cells := 1, bytes := 8, zero := some [.nilF] }
                  | false => {}
                | false =>
                  match Nat.beq n 53 with
                  | true => { ok := true, cells := 1, bytes := 8, zero := some [.nilF] }
                  | false => {}
              | false =>
                match Nat.ble n 54 with
                | true =>
                  match Nat.beq n 54 with
                  | true => { ok := true, cells := 1, bytes := 24, zero := some [.sl0], el := some 64 }
                  | false => {}
                | false =>
                  match Nat.ble n 55 with
                  | true =>
                    match Nat.beq n 55 with
                    | true => { ok := true, cells := 1, bytes := 24, zero := some [.sl0], el := some 64 }
                    | false => {}
                  | false =>
                    match Nat.beq n 57 with
                    | true => { ok := true, cells := 1, bytes := 8, zero := some [.nilF] }
                    | false => {}
            | false =>
              match Nat.ble n 59 with
              | true =>
                match Nat.ble n 58 with
                | true =>
                  match Nat.beq n 58 with
                  | true => { ok := true, cells := 1, bytes := 8, zero := some [.nilF] }
                  | false => {}
                | false =>
                  match Nat.beq n 59 with
                  | true => { ok := true, cells := 1, bytes := 8, zero := some [.nilF] }
                  | false => {}
              | false =>
                match Nat.ble n 60 with
                | true =>
                  match Nat.beq n 60 with
                  | true => { ok := true, cells := 5, bytes := 40, agg := true, zero := some [.int .i64 0, .int .i64 0, .int .i64 0, .int .i64 0, .int .i64 0], offs := [some 0, some 1, some 2, some 3, some 4], flds := some [(0, 1), (1, 1), (2, 1), (3, 1), (4, 1)] }
                  | false => {}
                | false =>
                  match Nat.ble n 61 with
                  | true =>
                    match Nat.beq n 61 with
                    | true => { ok := true, cells := 5, bytes := 40, agg := true, zero := some [.int .i64 0, .int .i64 0, .int .i64 0, .int .i64 0, .int .i64 0], offs := [some 0, some 1, some 2, some 3, some 4], flds := some [(0, 1), (1, 1), (2, 1), (3, 1), (4, 1)], eq := true }
                    | false => {}
                  | false =>
                    match Nat.beq n 62 with
                    | true => { ok := true, cells := 1, bytes := 8, zero := some [.nilF] }
                    | false => {}
        | false =>
          match Nat.ble n 72 with
          | true =>
            match Nat.ble n 66 with
            | true =>
              match Nat.ble n 64 with
              | true =>
                match Nat.ble n 63 with
                | true =>
                  match Nat.beq n 63 with
                  | true => { ok := true, cells := 5, bytes := 104, agg := true, zero := some [.int .i64 0, .sl0, .sl0, .sl0, .sl0], offs := [some 0, some 1, some 2, some 3, some 4], flds := some [(0, 1), (1, 1), (2, 1), (3, 1), (4, 1)] }
                  | false => {}
                | false =>
                  match Nat.beq n 64 with
                  | true => { ok := true, cells := 5, bytes := 104, agg := true, zero := some [.int .i64 0, .sl0, .sl0, .sl0, .sl0], offs := [some 0, some 1, some 2, some 3, some 4], flds := some [(0, 1), (1, 1), (2, 1), (3, 1), (4, 1)] }
                  | false => {}
              | false =>
                match Nat.ble n 65 with
                | true =>
                  match Nat.beq n 65 with
                  | true => { ok := true, cells := 1, bytes := 8, zero := some [.nilF] }
                  | false => {}
                | false =>
                  match Nat.beq n 66 with
                  | true => { ok := true, cells := 1, bytes := 8, zero := some [.nilF] }
                  | false => {}
            | false =>
              match Nat.ble n 68 with
              | true =>
                match Nat.ble n 67 with
                | true =>
                  match Nat.beq n 67 with
                  | true => { ok := true, cells := 1, bytes := 8, zero := some [.nilF] }
                  | false => {}
                | false =>
                  match Nat.beq n 68 with
                  | true => { ok := true, cells := 1, bytes := 8, zero := some [.nilF] }
                  | false => {}
              | false =>
                match Nat.ble n 69 with
                | true =>
                  match Nat.beq n 69 with
                  | true => { ok := true, cells := 1, bytes := 8, zero := some [.nilF] }
                  | false => {}
                | false =>
                  match Nat.ble n 71 with
                  | true =>
                    match Nat.beq n 71 with
                    | true => { ok := true, cells := 1, bytes := 8, zero := some [.nilF] }
                    | false => {}
                  | false =>
                    match Nat.beq n 72 with
                    | true => { ok := true, cells := 1, bytes := 8, zero := some [.nilF] }
                    | false => {}
          | false =>
            match Nat.ble n 77 with
            | true =>
              match Nat.ble n 74 with
              | true =>
                match Nat.ble n 73 with
                | true =>
                  match Nat.beq n 73 with
                  | true => { ok := true, cells := 1, bytes := 8, zero := some [.nilF] }
                  | false => {}
                | false =>
                  match Nat.beq n 74 with
                  | true => { ok := true, cells := 1, bytes := 8, zero := some [.nilF] }
                  | false => {}
              | false =>
                match Nat.ble n 75 with
                | true =>
                  match Nat.beq n 75 with
                  | true => { ok := true, cells := 1, bytes := 8, zero := some [.nilF] }
                  | false => {}
                | false =>
                  match Nat.ble n 76 with
                  | true =>
                    match Nat.beq n 76 with
                    | true => { ok := true, cells := 1, bytes := 8, zero := some [.nilF] }
                    | false => {}
                  | false =>
                    match Nat.beq n 77 with
                    | true => { ok := true, cells := 1, bytes := 8, zero := some [.nilF] }
                    | false => {}
            | false =>
              match Nat.ble n 80 with
              | true =>
                match Nat.ble n 79 with
                | true =>
                  match Nat.beq n 79 with
                  | true => { ok := true, cells := 1, bytes := 8, zero := some [.nilF] }
                  | false => {}
                | false =>
                  match Nat.beq n 80 with
                  | true => { ok := true, cells := 1, bytes := 24, zero := some [.sl0], el := some 3 }
                  | false => {}
              | false =>
                match Nat.ble n 81 with
                | true =>
                  match Nat.beq n 81 with
                  | true => { ok := true, cells := 1, bytes := 8, zero := some [.nilF] }
                  | false => {}
                | false =>
                  match Nat.ble n 82 with
                  | true =>
                    match Nat.beq n 82 with
                    | true => { ok := true, cells := 1, bytes := 24, zero := some [.sl0], el := some 44 }
                    | false => {}
                  | false =>
                    match Nat.beq n 83 with
                    | true => { ok := true, cells := 1, bytes := 8, zero := some [.nilF] }
                    | false => {}
    | false =>
      match Nat.ble n 126 with
      | true =>
        match Nat.ble n 104 with
        | true =>
          match Nat.ble n 94 with
          | true =>
            match Nat.ble n 88 with
            | true =>
              match Nat.ble n 86 with
              | true =>
                match Nat.ble n 85 with
                | true =>
                  match Nat.beq n 85 with
                  | true => { ok := true, cells := 1, bytes := 8, zero := some [.nilF] }
                  | false => {}
                | false =>
                  match Nat.beq n 86 with
                  | true => { ok := true, cells := 1, bytes := 8, zero := some [.nilF] }
                  | false => {}
              | false =>
                match Nat.ble n 87 with
                | true =>
                  match Nat.beq n 87 with
                  | true => { ok := true, cells := 1, bytes := 8, zero := some [.nilF] }
                  | false => {}
                | false =>
                  match Nat.beq n 88 with
                  | true => { ok := true, cells := 1, bytes := 8, zero := some [.nilF] }
                  | false => {}
            | false =>
              match Nat.ble n 90 with
              | true =>
                match Nat.ble n 89 with
                | true =>
                  match Nat.beq n 89 with
                  | true => { ok := true, cells := 7, bytes := 72, agg := true, zero := some [.int .i64 0, .int .i64 0, .int .i64 0, .int .i64 0, .sl0, .int .i64 0, .int .i64 0], offs := [some 0, some 1, some 2, some 3, some 4, some 5, some 6], flds := some [(0, 1), (1, 1), (2, 1), (3, 1), (4, 1), (5, 1), (6, 1)] }
                  | false => {}
                | false =>
                  match Nat.beq n 90 with
                  | true => { ok := true, cells := 7, bytes := 72, agg := true, zero := some [.int .i64 0, .int .i64 0, .int .i64 0, .int .i64 0, .sl0, .int .i64 0, .int .i64 0], offs := [some 0, some 1, some 2, some 3, some 4, some 5, some 6], flds := some [(0, 1), (1, 1), (2, 1), (3, 1), (4, 1), (5, 1), (6, 1)] }
                  | false => {}
              | false =>
                match Nat.ble n 92 with
                | true =>
                  match Nat.beq n 92 with
                  | true => { ok := true, cells := 1, bytes := 8, zero := some [.nilF] }
                  | false => {}
                | false =>
                  match Nat.ble n 93 with
                  | true =>
                    match Nat.beq n 93 with
                    | true => { ok := true, cells := 1, bytes := 8, zero := some [.nilF] }
                    | false => {}
                  | false =>
                    match Nat.beq n 94 with
                    | true => { ok := true, cells := 1, bytes := 8, zero := some [.nilF] }
                    | false => {}
          | false =>
            match Nat.ble n 99 with
            | true =>
              match Nat.ble n 96 with
              | true =>
                match Nat.ble n 95 with
                | true =>
                  match Nat.beq n 95 with
                  | true => { ok := true, cells := 1, bytes := 8, zero := some [.nilF] }
                  | false => {}
                | false =>
                  match Nat.beq n 96 with
                  | true => { ok := true, cells := 1, bytes := 8, zero := some [.nilF] }
                  | false => {}
              | false =>
                match Nat.ble n 97 with
                | true =>
                  match Nat.beq n 97 with
                  | true => { ok := true, cells := 1, bytes := 8, zero := some [.nilF] }
                  | false => {}
                | false =>
                  match Nat.ble n 98 with
                  | true =>
                    match Nat.beq n 98 with
                    | true => { ok := true, cells := 1, bytes := 8, zero := some [.nilF] }
                    | false => {}
                  | false =>
                    match Nat.beq n 99 with
                    | true => { ok := true, cells := 1, bytes := 8, zero := some [.nilF] }
                    | false => {}
            | false =>
              match Nat.ble n 101 with
              | true =>
                match Nat.ble n 100 with
                | true =>
                  match Nat.beq n 100 with
                  | true => { ok := true, cells := 1, bytes := 8, zero := some [.nilF] }
                  | false => {}
                | false =>
                  match Nat.beq n 101 with
                  | true => { ok := true, cells := 1, bytes := 8, zero := some [.nilF] }
                  | false => {}
              | false =>
                match Nat.ble n 102 with
                | true =>
                  match Nat.beq n 102 with
                  | true => { ok := true, cells := 1, bytes := 8, zero := some [.nilF] }
                  | false => {}
                | false =>
                  match Nat.ble n 103 with
                  | true =>
                    match Nat.beq n 103 with
                    | true => { ok := true, cells := 1, bytes := 2, zero := some [.int .u16 0], ik := some .u16 }
                    | false => {}
                  | false =>
                    match Nat.beq n 104 with
                    | true => { ok := true, cells := 1, bytes := 8, zero := some [.nilF] }
                    | false => {}
        | false =>
          match Nat.ble n 115 with
          | true =>
            match Nat.ble n 110 with
            | true =>
              match Nat.ble n 106 with
              | true =>
                match Nat.ble n 105 with
                | true =>
                  match Nat.beq n 105 with
                  | true => { ok := true, cells := 1, bytes := 8, zero := some [.nilF] }
                  | false => {}
                | false =>
                  match Nat.beq n 106 with
                  | true => { ok := true, cells := 1, bytes := 8, zero := some [.nilF] }
                  | false => {}
              | false =>
                match Nat.ble n 108 with
                | true =>
                  match Nat.beq n 108 with
                  | true => { ok := true, cells := 1, bytes := 8, zero := some [.nilF] }
                  | false => {}
                | false =>
                  match Nat.beq n 110 with
                  | true => { ok := true, cells := 1, bytes := 8, zero := some [.nilF] }
                  | false => {}
            | false =>
              match Nat.ble n 112 with
              | true =>
                match Nat.ble n 111 with
                | true =>
                  match Nat.beq n 111 with
                  | true => { ok := true, cells := 1, bytes := 8, zero := some [.nilF] }
                  | false => {}
                | false =>
                  match Nat.beq n 112 with
                  | true => { ok := true, cells := 1, bytes := 8, zero := some [.nilF] }
                  | false => {}
              | false =>
                match Nat.ble n 113 with
                | true =>
                  match Nat.beq n 113 with
                  | true => { ok := true, cells := 1, bytes := 8, zero := some [.nilF] }
                  | false => {}
                | false =>
                  match Nat.ble n 114 with
                  | true =>
                    match Nat.beq n 114 with
                    | true => { ok := true, cells := 1, bytes := 8, zero := some [.nilF] }
                    | false => {}
                  | false =>
                    match Nat.beq n 115 with
                    | true => { ok := true, cells := 9, bytes := 136, agg := true, zero := some [.int .i64 0, .sl0, .int .i64 0, .int .i64 0, .sl0, .sl0, .int .i64 0, .int .i64 0, .sl0], offs := [some 0, some 6], flds := some [(0, 6), (6, 3)] }
                    | false => {}
          | false =>
            match Nat.ble n 120 with
            | true =>
              match Nat.ble n 117 with
              | true =>
                match Nat.ble n 116 with
                | true =>
                  match Nat.beq n 116 with
                  | true => { ok := true, cells := 9, bytes := 136, agg := true, zero := some [.int .i64 0, .sl0, .int .i64 0, .int .i64 0, .sl0, .sl0, .int .i64 0, .int .i64 0, .sl0], offs := [some 0, some 6], flds := some [(0, 6), (6, 3)] }
                  | false => {}
                | false =>
                  match Nat.beq n 117 with
                  | true => { ok := true, cells := 1, bytes := 8, zero := some [.nilF] }
                  | false => {}
              | false =>
                match Nat.ble n 118 with
                | true =>
                  match Nat.beq n 118 with
                  | true => { ok := true, cells := 1, bytes := 8, zero := some [.nilF] }
                  | false => {}
                | false =>
                  match Nat.ble n 119 with
                  | true =>
                    match Nat.beq n 119 with
                    | true => { ok := true, cells := 1, bytes := 8, zero := some [.nilF] }
                    | false => {}
                  | false =>
                    match Nat.beq n 120 with
                    | true => { ok := true, cells := 1, bytes := 8, zero := some [.nilF] }
                    | false => {}
            | false =>
              match Nat.ble n 122 with
              | true =>
                match Nat.ble n 121 with
                | true =>
                  match Nat.beq n 121 with
                  | true => { ok := true, cells := 1, bytes := 8, zero := some [.nilF] }
                  | false => {}
                | false =>
                  match Nat.beq n 122 with
                  | true => { ok := true, cells := 1, bytes := 8, zero := some [.nilF] }
                  | false => {}
              | false =>
                match Nat.ble n 123 with
                | true =>
                  match Nat.beq n 123 with
                  | true => { ok := true, cells := 1, bytes := 8, zero := some [.nilF] }
                  | false => {}
                | false =>
                  match Nat.ble n 125 with
                  | true =>
                    match Nat.beq n 125 with
                    | true => { ok := true, cells := 1, bytes := 8, zero := some [.nilF] }
                    | false => {}
                  | false =>
                    match Nat.beq n 126 with
                    | true => { ok := true, cells := 1, bytes := 8, zero := some [.nilF] }
                    | false => {}
      | false =>
        match Nat.ble n 148 with
        | true =>
          match Nat.ble n 136 with
          | true =>
            match Nat.ble n 131 with
            | true =>
              match Nat.ble n 129 with
              | true =>
                match Nat.ble n 127 with
                | true =>
                  match Nat.beq n 127 with
                  | true => { ok := true, cells := 1, bytes := 8, zero := some [.nilF] }
                  | false => {}
                | false =>
                  match Nat.beq n 129 with
                  | true => { ok := true, cells := 1, bytes := 8, zero := some [.nilF] }
                  | false => {}
              | false =>
                match Nat.ble n 130 with
                | true =>
                  match Nat.beq n 130 with
                  | true => { ok := true, cells := 1, bytes := 8, zero := some [.nilF] }
                  | false => {}
                | false =>
                  match Nat.beq n 131 with
                  | true => { ok := true, cells := 1, bytes := 8, zero := some [.nilF] }
                  | false => {}
            | false =>
              match Nat.ble n 133 with
              | true =>
                match Nat.ble n 132 with
                | true =>
                  match Nat.beq n 132 with
                  | true => { ok := true, cells := 1, bytes := 8, zero := some [.nilF] }
                  | false => {}
                | false =>
                  match Nat.beq n 133 with
                  | true => { ok := true, cells := 1, bytes := 8, zero := some [.nilF] }
                  | false => {}
              | false =>
                match Nat.ble n 134 with
                | true =>
                  match Nat.beq n 134 with
                  | true => { ok := true, cells := 1, bytes := 8, zero := some [.nilF] }
                  | false => {}
                | false =>
                  match Nat.ble n 135 with
                  | true =>
                    match Nat.beq n 135 with
                    | true => { ok := true, cells := 1, bytes := 8, zero := some [.nilF] }
                    | false => {}
                  | false =>
                    match Nat.beq n 136 with
                    | true => { ok := true, cells := 1, bytes := 8, zero := some [.nilF] }
                    | false => {}
          | false =>
            match Nat.ble n 142 with
            | true =>
              match Nat.ble n 139 with
              | true =>
                match Nat.ble n 137 with
                | true =>
                  match Nat.beq n 137 with
                  | true => { ok := true, cells := 1, bytes := 8, zero := some [.nilF] }
                  | false => {}
                | false =>
                  match Nat.beq n 139 with
                  | true => { ok := true, cells := 1, bytes := 8, zero := some [.nilF] }
                  | false => {}
              | false =>
                match Nat.ble n 140 with
                | true =>
                  match Nat.beq n 140 with
                  | true => { ok := true, cells := 1, bytes := 8, zero := some [.nilF] }
                  | false => {}
                | false =>
                  match Nat.ble n 141 with
                  | true =>
                    match Nat.beq n 141 with
                    | true => { ok := true, cells := 1, bytes := 8, zero := some [.nilF] }
                    | false => {}
                  | false =>
                    match Nat.beq n 142 with
                    | true => { ok := true, cells := 1, bytes := 8, zero := some [.nilF] }
                    | false => {}
            | false =>
              match Nat.ble n 144 with
              | true =>
                match Nat.ble n 143 with
                | true =>
                  match Nat.beq n 143 with
                  | true => { ok := true, cells := 17, bytes := 216, agg := true, zero := some [.int .i64 0, .sl0, .int .i64 0, .int .i64 0, .sl0, .sl0, .int .i64 0, .int .i64 0, .sl0, .int .i64 0, .int .i64 0, .int .i64 0, .int .i64 0, .int .i64 0, .int .i64 0, .sl0, .int .i64 0], offs := [some 0, some 6, some 9, some 15, some 16], flds := some [(0, 6), (6, 3), (9, 6), (15, 1), (16, 1)] }
                  | false => {}
                | false =>
                  match Nat.beq n 144 with
                  | true => { ok := true, cells := 17, bytes := 216, agg := true, zero := some [.int .i64 0, .sl0, .int .i64 0, .int .i64 0, .sl0, .sl0, .int .i64 0, .int .i64 0, .sl0, .int .i64 0, .int .i64 0, .int .i64 0, .int .i64 0, .int .i64 0, .int .i64 0, .sl0, .int .i64 0], offs := [some 0, some 6, some 9, some 15, some 16], flds := some [(0, 6), (6, 3), (9, 6), (15, 1), (16, 1)] }
                  | false => {}
              | false =>
                match Nat.ble n 145 with
                | true =>
                  match Nat.beq n 145 with
                  | true => { ok := true, cells := 1, bytes := 8, zero := some [.nilF] }
                  | false => {}
                | false =>
                  match Nat.ble n 147 with
                  | true =>
                    match Nat.beq n 147 with
                    | true => { ok := true, cells := 1, bytes := 8, zero := some [.nilF] }
                    | false => {}
                  | false =>
                    match Nat.beq n 148 with
                    | true => { ok := true, cells := 1, bytes := 8, zero := some [.nilF] }
                    | false => {}
        | false =>
          match Nat.ble n 158 with
          | true =>
            match Nat.ble n 152 with
            | true =>
              match Nat.ble n 150 with
              | true =>
                match Nat.ble n 149 with
                | true =>
                  match Nat.beq n 149 with
                  | true => { ok := true, cells := 1, bytes := 8, zero := some [.nilF] }
                  | false => {}
                | false =>
                  match Nat.beq n 150 with
                  | true => { ok := true, cells := 1, bytes := 8, zero := some [.nilF] }
                  | false => {}
              | false =>
                match Nat.ble n 151 with
                | true =>
                  match Nat.beq n 151 with
                  | true => { ok := true, cells := 1, bytes := 8, zero := some [.nilF] }
                  | false => {}
                | false =>
                  match Nat.beq n 152 with
                  | true => { ok := true, cells := 1, bytes := 8, zero := some [.nilF] }
                  | false => {}
            | false =>
              match Nat.ble n 155 with
              | true =>
                match Nat.ble n 153 with
                | true =>
                  match Nat.beq n 153 with
                  | true => { ok := true, cells := 1, bytes := 8, zero := some [.nilF] }
                  | false => {}
                | false =>
                  match Nat.beq n 155 with
                  | true => { ok := true, cells := 1, bytes := 8, zero := some [.nilF] }
                  | false => {}
              | false =>
                match Nat.ble n 156 with
                | true =>
                  match Nat.beq n 156 with
                  | true => { ok := true, cells := 1, bytes := 8, zero := some [.nilF] }
                  | false => {}
                | false =>
                  match Nat.ble n 157 with
                  | true =>
                    match Nat.beq n 157 with
                    | true => { ok := true, cells := 1, bytes := 8, zero := some [.nilF] }
                    | false => {}
                  | false =>
                    match Nat.beq n 158 with
                    | true => { ok := true, cells := 1, bytes := 8, zero := some [.nilF] }
                    | false => {}
          | false =>
            match Nat.ble n 164 with
            | true =>
              match Nat.ble n 160 with
              | true =>
                match Nat.ble n 159 with
                | true =>
                  match Nat.beq n 159 with
                  | true => { ok := true, cells := 9, bytes := 136, agg := true, zero := some [.int .i64 0, .sl0, .int .i64 0, .int .i64 0, .sl0, .sl0, .sl0, .int .i64 0, .int .i64 0], offs := [some 0, some 6, some 7, some 8], flds := some [(0, 6), (6, 1), (7, 1), (8, 1)] }
                  | false => {}
                | false =>
                  match Nat.beq n 160 with
                  | true => { ok := true, cells := 9, bytes := 136, agg := true, zero := some [.int .i64 0, .sl0, .int .i64 0, .int .i64 0, .sl0, .sl0, .sl0, .int .i64 0, .int .i64 0], offs := [some 0, some 6, some 7, some 8], flds := some [(0, 6), (6, 1), (7, 1), (8, 1)] }
                  | false => {}
              | false =>
                match Nat.ble n 161 with
                | true =>
                  match Nat.beq n 161 with
                  | true => { ok := true, cells := 3, bytes := 24, agg := true, zero := some [.nilF, .nilF, .nilF], arr := some (3, 157) }
                  | false => {}
                | false =>
                  match Nat.ble n 163 with
                  | true =>
                    match Nat.beq n 163 with
                    | true => { ok := true, cells := 1, bytes := 8, zero := some [.nilF] }
                    | false => {}
                  | false =>
                    match Nat.beq n 164 with
                    | true => { ok := true, cells := 1, bytes := 8, zero := some [.nilF] }
                    | false => {}
            | false =>
              match Nat.ble n 166 with
              | true =>
                match Nat.ble n 165 with
                | true =>
                  match Nat.beq n 165 with
                  | true => { ok := true, cells := 1, bytes := 8, zero := some [.nilF] }
                  | false => {}
                | false =>
                  match Nat.beq n 166 with
                  | true => { ok := true, cells := 1, bytes := 8, zero := some [.nilF] }
                  | false => {}
              | false =>
                match Nat.ble n 167 with
                | true =>
                  match Nat.beq n 167 with
                  | true => { ok := true, cells := 1, bytes := 8, zero := some [.nilF] }
                  | false => {}
                | false =>
                  match Nat.ble n 168 with
                  | true =>
                    match Nat.beq n 168 with
                    | true => { ok := true, cells := 1, bytes := 8, zero := some [.nilF] }
                    | false => {}
                  | false =>
                    match Nat.beq n 169 with
                    | true => { ok := true, cells := 1, bytes := 8, zero := some [.nilF] }
                    | false => {}
  | false =>
    match Nat.ble n 252 with
    | true =>
      match Nat.ble n 212 with
      | true =>
        match Nat.ble n 191 with
        | true =>
          match Nat.ble n 178 with
          | true =>
            match Nat.ble n 173 with
            | true =>
              match Nat.ble n 171 with
              | true =>
                match Nat.ble n 170 with
                | true =>
                  match Nat.beq n 170 with
                  | true => { ok := true, cells := 1, bytes := 8, zero := some [.nilF] }
                  | false => {}
                | false =>
                  match Nat.beq n 171 with
                  | true => { ok := true, cells := 1, bytes := 8, zero := some [.nilF] }
                  | false => {}
              | false =>
                match Nat.ble n 172 with
                | true =>
                  match Nat.beq n 172 with
                  | true => { ok := true, cells := 1, bytes := 8, zero := some [.nilF] }
                  | false => {}
                | false =>
                  match Nat.beq n 173 with
                  | true => { ok := true, cells := 1, bytes := 8, zero := some [.nilF] }
                  | false => {}
            | false =>
              match Nat.ble n 175 with
              | true =>
                match Nat.ble n 174 with
                | true =>
                  match Nat.beq n 174 with
                  | true => { ok := true, cells := 1, bytes := 8, zero := some [.nilF] }
                  | false => {}
                | false =>
                  match Nat.beq n 175 with
                  | true => { ok := true, cells := 1, bytes := 8, zero := some [.nilF] }
                  | false => {}
              | false =>
                match Nat.ble n 176 with
                | true =>
                  match Nat.beq n 176 with
                  | true => { ok := true, cells := 1, bytes := 8, zero := some [.nilF] }
                  | false => {}
                | false =>
                  match Nat.ble n 177 with
                  | true =>
                    match Nat.beq n 177 with
                    | true => { ok := true, cells := 1, bytes := 8, zero := some [.nilF] }
                    | false => {}
                  | false =>
                    match Nat.beq n 178 with
                    | true => { ok := true, cells := 1, bytes := 8, zero := some [.nilP] }
                    | false => {}
          | false =>
            match Nat.ble n 186 with
            | true =>
              match Nat.ble n 180 with
              | true =>
                match Nat.ble n 179 with
                | true =>
                  match Nat.beq n 179 with
                  | true => { ok := true, cells := 1, bytes := 24, zero := some [.sl0], el := some 5 }
                  | false => {}
                | false =>
                  match Nat.beq n 180 with
                  | true => { ok := true, cells := 2, bytes := 32, agg := true, zero := some [.nilP, .sl0], offs := [some 0, some 1], flds := some [(0, 1), (1, 1)] }
                  | false => {}
              | false =>
                match Nat.ble n 181 with
                | true =>
                  match Nat.beq n 181 with
                  | true => { ok := true, cells := 2, bytes := 32, agg := true, zero := some [.nilP, .sl0], offs := [some 0, some 1], flds := some [(0, 1), (1, 1)] }
                  | false => {}
                | false =>
                  match Nat.ble n 185 with
                  | true =>
                    match Nat.beq n 185 with
                    | true => { ok := true, cells := 1, bytes := 8, zero := some [.nilF] }
                    | false => {}
                  | false =>
                    match Nat.beq n 186 with
                    | true => { ok := true, cells := 1, bytes := 8, zero := some [.nilF] }
                    | false => {}
            | false =>
              match Nat.ble n 188 with
              | true =>
                match Nat.ble n 187 with
                | true =>
                  match Nat.beq n 187 with
                  | true => { ok := true, cells := 5, bytes := 40, agg := true, zero := some [.int .i64 0, .int .i64 0, .int .i64 0, .int .i64 0, .int .i64 0], arr := some (5, 3) }
                  | false => {}
                | false =>
                  match Nat.beq n 188 with
                  | true => { ok := true, cells := 1, bytes := 8, zero := some [.nilF] }
                  | false => {}
              | false =>
                match Nat.ble n 189 with
                | true =>
                  match Nat.beq n 189 with
                  | true => { ok := true, cells := 1, bytes := 8, zero := some [.nilF] }
                  | false => {}
                | false =>
                  match Nat.ble n 190 with
                  | true =>
                    match Nat.beq n 190 with
                    | true => { ok := true, cells := 1, bytes := 8, zero := some [.nilF] }
                    | false => {}
                  | false =>
                    match Nat.beq n 191 with
                    | true => { ok := true, cells := 1, bytes := 8, zero := some [.nilF] }
                    | false => {}
        | false =>
          match Nat.ble n 201 with
          | true =>
            match Nat.ble n 195 with
            | true =>
              match Nat.ble n 193 with
              | true =>
                match Nat.ble n 192 with
                | true =>
                  match Nat.beq n 192 with
                  | true => { ok := true, cells := 1, bytes := 8, zero := some [.nilF] }
                  | false => {}
                | false =>
                  match Nat.beq n 193 with
                  | true => { ok := true, cells := 1, bytes := 8, zero := some [.nilF] }
                  | false => {}
              | false =>
                match Nat.ble n 194 with
                | true =>
                  match Nat.beq n 194 with
                  | true => { ok := true, cells := 1, bytes := 8, zero := some [.nilF] }
                  | false => {}
                | false =>
                  match Nat.beq n 195 with
                  | true => { ok := true, cells := 1, bytes := 8, zero := some [.nilF] }
                  | false => {}
            | false =>
              match Nat.ble n 198 with
              | true =>
                match Nat.ble n 196 with
                | true =>
                  match Nat.beq n 196 with
                  | true => { ok := true, cells := 1, bytes := 8, zero := some [.nilF] }
                  | false => {}
                | false =>
                  match Nat.beq n 198 with
                  | true => { ok := true, cells := 1, bytes := 8, zero := some [.nilF] }
                  | false => {}
              | false =>
                match Nat.ble n 199 with
                | true =>
                  match Nat.beq n 199 with
                  | true => { ok := true, cells := 1, bytes := 8, zero := some [.nilF] }
                  | false => {}
                | false =>
                  match Nat.ble n 200 with
                  | true =>
                    match Nat.beq n 200 with
                    | true => { ok := true, cells := 1, bytes := 8, zero := some [.nilF] }
                    | false => {}
                  | false =>
                    match Nat.beq n 201 with
                    | true => { ok := true, cells := 1, bytes := 8, zero := some [.nilF] }
                    | false => {}
          | false =>
            match Nat.ble n 207 with
            | true =>
              match Nat.ble n 204 with
              | true =>
                match Nat.ble n 203 with
                | true =>
                  match Nat.beq n 203 with
                  | true => { ok := true, cells := 1, bytes := 8, zero := some [.nilF] }
                  | false => {}
                | false =>
                  match Nat.beq n 204 with
                  | true => { ok := true, cells := 1, bytes := 8, zero := some [.nilF] }
                  | false => {}
              | false =>
                match Nat.ble n 205 with
                | true =>
                  match Nat.beq n 205 with
                  | true => { ok := true, cells := 1, bytes := 8, zero := some [.nilF] }
                  | false => {}
                | false =>
                  match Nat.ble n 206 with
                  | true =>
                    match Nat.beq n 206 with
                    | true => { ok := true, cells := 1, bytes := 8, zero := some [.nilF] }
                    | false => {}
                  | false =>
                    match Nat.beq n 207 with
                    | true => { ok := true, cells := 1, bytes := 8, zero := some [.nilF] }
                    | false => {}
            | false =>
              match Nat.ble n 209 with
              | true =>
                match Nat.ble n 208 with
                | true =>
                  match Nat.beq n 208 with
                  | true => { ok := true, cells := 1, bytes := 8, zero := some [.int .u64 0], ik := some .u64 }
                  | false => {}
                | false =>
                  match Nat.beq n 209 with
                  | true => { ok := true, cells := 1, bytes := 8, zero := some [.nilF] }
                  | false => {}
              | false =>
                match Nat.ble n 210 with
                | true =>
                  match Nat.beq n 210 with
                  | true => { ok := true, cells := 1, bytes := 8, zero := some [.nilF] }
                  | false => {}
                | false =>
                  match Nat.ble n 211 with
                  | true =>
                    match Nat.beq n 211 with
                    | true => { ok := true, cells := 1, bytes := 8, zero := some [.nilF] }
                    | false => {}
                  | false =>
                    match Nat.beq n 212 with
                    | true => { ok := true, cells := 1, bytes := 8, zero := some [.nilF] }
                    | false => {}
      | false =>
        match Nat.ble n 233 with
        | true =>
          match Nat.ble n 222 with
          | true =>
            match Nat.ble n 217 with
            | true =>
              match Nat.ble n 215 with
              | true =>
                match Nat.ble n 213 with
                | true =>
                  match Nat.beq n 213 with
                  | true => { ok := true, cells := 1, bytes := 8, zero := some [.nilF] }
                  | false => {}
                | false =>
                  match Nat.beq n 215 with
                  | true => { ok := true, cells := 1, bytes := 8, zero := some [.nilF] }
                  | false => {}
              | false =>
                match Nat.ble n 216 with
                | true =>
                  match Nat.beq n 216 with
                  | true => { ok := true, cells := 1, bytes := 8, zero := some [.nilF] }
                  | false => {}
                | false =>
                  match Nat.beq n 217 with
                  | true => { ok := true, cells := 1, bytes := 8, zero := some [.nilF] }
                  | false => {}
            | false =>
              match Nat.ble n 219 with
              | true =>
                match Nat.ble n 218 with
                | true =>
                  match Nat.beq n 218 with
                  | true => { ok := true, cells := 1, bytes := 8, zero := some [.nilF] }
                  | false => {}
                | false =>
                  match Nat.beq n 219 with
                  | true => { ok := true, cells := 1, bytes := 8, zero := some [.nilF] }
                  | false => {}
              | false =>
                match Nat.ble n 220 with
                | true =>
                  match Nat.beq n 220 with
                  | true => { ok := true, cells := 1, bytes := 8, zero := some [.nilF] }
                  | false => {}
                | false =>
                  match Nat.ble n 221 with
                  | true =>
                    match Nat.beq n 221 with
                    | true => { ok := true, cells := 1, bytes := 8, zero := some [.nilF] }
                    | false => {}
                  | false =>
                    match Nat.beq n 222 with
                    | true => { ok := true, cells := 1, bytes := 8, zero := some [.nilF] }
                    | false => {}
          | false =>
            match Nat.ble n 228 with
            | true =>
              match Nat.ble n 224 with
              | true =>
                match Nat.ble n 223 with
                | true =>
                  match Nat.beq n 223 with
                  | true => { ok := true, cells := 1, bytes := 8, zero := some [.nilF] }
                  | false => {}
                | false =>
                  match Nat.beq n 224 with
                  | true => { ok := true, cells := 1, bytes := 8, zero := some [.nilF] }
                  | false => {}
              | false =>
                match Nat.ble n 225 with
                | true =>
                  match Nat.beq n 225 with
                  | true => { ok := true, cells := 1, bytes := 8, zero := some [.nilF] }
                  | false => {}
                | false =>
                  match Nat.ble n 227 with
                  | true =>
                    match Nat.beq n 227 with
                    | true => { ok := true, cells := 1, bytes := 8, zero := some [.nilF] }
                    | false => {}
                  | false =>
                    match Nat.beq n 228 with
                    | true => { ok := true, cells := 1, bytes := 8, zero := some [.nilF] }
                    | false => {}
            | false =>
              match Nat.ble n 230 with
              | true =>
                match Nat.ble n 229 with
                | true =>
                  match Nat.beq n 229 with
                  | true => { ok := true, cells := 1, bytes := 8, zero := some [.nilF] }
                  | false => {}
                | false =>
                  match Nat.beq n 230 with
                  | true => { ok := true, cells := 1, bytes := 8, zero := some [.nilF] }
                  | false => {}
              | false =>
                match Nat.ble n 231 with
                | true =>
                  match Nat.beq n 231 with
                  | true => { ok := true, cells := 1, bytes := 8, zero := some [.nilF] }
                  | false => {}
                | false =>
                  match Nat.ble n 232 with
                  | true =>
                    match Nat.beq n 232 with
                    | true => { ok := true, cells := 1, bytes := 8, zero := some [.nilF] }
                    | false => {}
                  | false =>
                    match Nat.beq n 233 with
                    | true => { ok := true, cells := 1, bytes := 8, zero := some [.nilF] }
                    | false => {}
        | false =>
          match Nat.ble n 242 with
          | true =>
            match Nat.ble n 237 with
            | true =>
              match Nat.ble n 235 with
              | true =>
                match Nat.ble n 234 with
                | true =>
                  match Nat.beq n 234 with
                  | true => { ok := true, cells := 1, bytes := 8, zero := some [.nilF] }
                  | false => {}
                | false =>
                  match Nat.beq n 235 with
                  | true => { ok := true, cells := 1, bytes := 8, zero := some [.nilF] }
                  | false => {}
              | false =>
                match Nat.ble n 236 with
                | true =>
                  match Nat.beq n 236 with
                  | true => { ok := true, cells := 1, bytes := 8, zero := some [.nilF] }
                  | false => {}
                | false =>
                  match Nat.beq n 237 with
                  | true => { ok := true, cells := 1, bytes := 8, zero := some [.nilF] }
                  | false => {}
            | false =>
              match Nat.ble n 239 with
              | true =>
                match Nat.ble n 238 with
                | true =>
                  match Nat.beq n 238 with
                  | true => { ok := true, cells := 1, bytes := 8, zero := some [.nilF] }
                  | false => {}
                | false =>
                  match Nat.beq n 239 with
                  | true => { ok := true, cells := 1, bytes := 8, zero := some [.nilP] }
                  | false => {}
              | false =>
                match Nat.ble n 240 with
                | true =>
                  match Nat.beq n 240 with
                  | true => { ok := true, cells := 1, bytes := 8, zero := some [.nilF] }
                  | false => {}
                | false =>
                  match Nat.ble n 241 with
                  | true =>
                    match Nat.beq n 241 with
                    | true => { ok := true, cells := 1, bytes := 8, zero := some [.nilF] }
                    | false => {}
                  | false =>
                    match Nat.beq n 242 with
                    | true => { ok := true, cells := 1, bytes := 8, zero := some [.nilF] }
                    | false => {}
          | false =>
            match Nat.ble n 247 with
            | true =>
              match Nat.ble n 244 with
              | true =>
                match Nat.ble n 243 with
                | true =>
                  match Nat.beq n 243 with
                  | true => { ok := true, cells := 1, bytes := 8, zero := some [.nilF] }
                  | false => {}
                | false =>
                  match Nat.beq n 244 with
                  | true => { ok := true, cells := 1, bytes := 8, zero := some [.nilF] }
                  | false => {}
              | false =>
                match Nat.ble n 245 with
                | true =>
                  match Nat.beq n 245 with
                  | true => { ok := true, cells := 1, bytes := 8, zero := some [.nilF] }
                  | false => {}
                | false =>
                  match Nat.ble n 246 with
                  | true =>
                    match Nat.beq n 246 with
                    | true => { ok := true, cells := 1, bytes := 8, zero := some [.nilF] }
                    | false => {}
                  | false =>
                    match Nat.beq n 247 with
                    | true => { ok := true, cells := 1, bytes := 8, zero := some [.nilF] }
                    | false => {}
            | false =>
              match Nat.ble n 249 with
              | true =>
                match Nat.ble n 248 with
                | true =>
                  match Nat.beq n 248 with
                  | true => { ok := true, cells := 1, bytes := 8, zero := some [.nilF] }
                  | false => {}
                | false =>
                  match Nat.beq n 249 with
                  | true => { ok := true, cells := 1, bytes := 8, zero := some [.nilF] }
                  | false => {}
              | false =>
                match Nat.ble n 250 with
                | true =>
                  match Nat.beq n 250 with
                  | true => { ok := true, cells := 1, bytes := 8, zero := some [.nilF] }
                  | false => {}
                | false =>
                  match Nat.ble n 251 with
                  | true =>
                    match Nat.beq n 251 with
                    | true => { ok := true, cells := 1, bytes := 8, zero := some [.nilF] }
                    | false => {}
                  | false =>
                    match Nat.beq n 252 with
                    | true => { ok := true, cells := 1, bytes := 8, zero := some [.nilF] }
                    | false => {}
    | false =>
      match Nat.ble n 293 with
      | true =>
        match Nat.ble n 273 with
        | true =>
          match Nat.ble n 262 with
          | true =>
            match Nat.ble n 256 with
            | true =>
              match Nat.ble n 254 with
              | true =>
                match Nat.ble n 253 with
                | true =>
                  match Nat.beq n 253 with
                  | true => { ok := true, cells := 1, bytes := 8, zero := some [.nilF] }
                  | false => {}
                | false =>
                  match Nat.beq n 254 with
                  | true => { ok := true, cells := 1, bytes := 8, zero := some [.nilF] }
                  | false => {}
              | false =>
                match Nat.ble n 255 with
                | true =>
                  match Nat.beq n 255 with
                  | true => { ok := true, cells := 1, bytes := 8, zero := some [.nilF] }
                  | false => {}
                | false =>
                  match Nat.beq n 256 with
                  | true => { ok := true, cells := 1, bytes := 8, zero := some [.int .i64 0], ik := some .i64 }
                  | false => {}
            | false =>
              match Nat.ble n 259 with
              | true =>
                match Nat.ble n 258 with
                | true =>
                  match Nat.beq n 258 with
                  | true => { ok := true, cells := 1, bytes := 8, zero := some [.nilF] }
                  | false => {}
                | false =>
                  match Nat.beq n 259 with
                  | true => { ok := true, cells := 1, bytes := 8, zero := some [.nilF] }
                  | false => {}
              | false =>
                match Nat.ble n 260 with
                | true =>
                  match Nat.beq n 260 with
                  | true => { ok := true, cells := 1, bytes := 8, zero := some [.nilF] }
                  | false => {}
                | false =>
                  match Nat.ble n 261 with
                  | true =>
                    match Nat.beq n 261 with
                    | true => { ok := true, cells := 1, bytes := 8, zero := some [.nilF] }
                    | false => {}
                  | false =>
                    match Nat.beq n 262 with
                    | true => { ok := true, cells := 1, bytes := 8, zero := some [.nilF] }
                    | false => {}
          | false =>
            match Nat.ble n 267 with
            | true =>
              match Nat.ble n 264 with
              | true =>
                match Nat.ble n 263 with
                | true =>
                  match Nat.beq n 263 with
                  | true => { ok := true, cells := 1, bytes := 4, zero := some [.int .u32 0], ik := some .u32 }
                  | false => {}
                | false =>
                  match Nat.beq n 264 with
                  | true => { ok := true, cells := 1, bytes := 8, zero := some [.nilF] }
                  | false => {}
              | false =>
                match Nat.ble n 265 with
                | true =>
                  match Nat.beq n 265 with
                  | true => { ok := true, cells := 1, bytes := 8, zero := some [.int .u64 0], ik := some .u64 }
                  | false => {}
                | false =>
                  match Nat.ble n 266 with
                  | true =>
                    match Nat.beq n 266 with
                    | true => { ok := true, cells := 1, bytes := 8, zero := some [.nilF] }
                    | false => {}
                  | false =>
                    match Nat.beq n 267 with
                    | true => { ok := true, cells := 1, bytes := 8, zero := some [.nilF] }
                    | false => {}
            | false =>
              match Nat.ble n 270 with
              | true =>
                match Nat.ble n 269 with
                | true =>
                  match Nat.beq n 269 with
                  | true => { ok := true, cells := 1, bytes := 8, zero := some [.nilF] }
                  | false => {}
                | false =>
                  match Nat.beq n 270 with
                  | true => { ok := true, cells := 1, bytes := 8, zero := some [.nilF] }
                  | false => {}
              | false =>
                match Nat.ble n 271 with
                | true =>
                  match Nat.beq n 271 with
                  | true => { ok := true, cells := 1, bytes := 8, zero := some [.nilF] }
                  | false => {}
                | false =>
                  match Nat.ble n 272 with
                  | true =>
                    match Nat.beq n 272 with
                    | true => { ok := true, cells := 1, bytes := 8, zero := some [.nilF] }
                    | false => {}
                  | false =>
                    match Nat.beq n 273 with
                    | true => { ok := true, cells := 1, bytes := 8, zero := some [.nilF] }
                    | false => {}
        | false =>
          match Nat.ble n 283 with
          | true =>
            match Nat.ble n 277 with
            | true =>
              match Nat.ble n 275 with
              | true =>
                match Nat.ble n 274 with
                | true =>
                  match Nat.beq n 274 with
                  | true => { ok := true, cells := 1, bytes := 8, zero := some [.nilF] }
                  | false => {}
                | false =>
                  match Nat.beq n 275 with
                  | true => { ok := true, cells := 1, bytes := 8, zero := some [.nilF] }
                  | false => {}
              | false =>
                match Nat.ble n 276 with
                | true =>
                  match Nat.beq n 276 with
                  | true => { ok := true, cells := 1, bytes := 8, zero := some [.nilF] }
                  | false => {}
                | false =>
                  match Nat.beq n 277 with
                  | true => { ok := true, cells := 1, bytes := 8, zero := some [.nilF] }
                  | false => {}
            | false =>
              match Nat.ble n 280 with
              | true =>
                match Nat.ble n 279 with
                | true =>
                  match Nat.beq n 279 with
                  | true => { ok := true, cells := 1, bytes := 8, zero := some [.nilF] }
                  | false => {}
                | false =>
                  match Nat.beq n 280 with
                  | true => { ok := true, cells := 1, bytes := 8, zero := some [.nilF] }
                  | false => {}
              | false =>
                match Nat.ble n 281 with
                | true =>
                  match Nat.beq n 281 with
                  | true => { ok := true, cells := 1, bytes := 8, zero := some [.nilF] }
                  | false => {}
                | false =>
                  match Nat.ble n 282 with
                  | true =>
                    match Nat.beq n 282 with
                    | true => { ok := true, cells := 1, bytes := 8, zero := some [.nilF] }
                    | false => {}
                  | false =>
                    match Nat.beq n 283 with
                    | true => { ok := true, cells := 1, bytes := 8, zero := some [.int .u64 0], ik := some .u64 }
                    | false => {}
          | false =>
            match Nat.ble n 288 with
            | true =>
              match Nat.ble n 285 with
              | true =>
                match Nat.ble n 284 with
                | true =>
                  match Nat.beq n 284 with
                  | true => { ok := true, cells := 1, bytes := 8, zero := some [.nilF] }
                  | false => {}
                | false =>
                  match Nat.beq n 285 with
                  | true => { ok := true, cells := 1, bytes := 8, zero := some [.nilF] }
                  | false => {}
              | false =>
                match Nat.ble n 286 with
                | true =>
                  match Nat.beq n 286 with
                  | true => { ok := true, cells := 1, bytes := 8, zero := some [.nilF] }
                  | false => {}
                | false =>
                  match Nat.ble n 287 with
                  | true =>
                    match Nat.beq n 287 with
                    | true => { ok := true, cells := 1, bytes := 8, zero := some [.nilP] }
                    | false => {}
                  | false =>
                    match Nat.beq n 288 with
                    | true => { ok := true, cells := 1, bytes := 8, zero := some [.nilF] }
                    | false => {}
            | false =>
              match Nat.ble n 290 with
              | true =>
                match Nat.ble n 289 with
                | true =>
                  match Nat.beq n 289 with
                  | true => { ok := true, cells := 1, bytes := 8, zero := some [.nilF] }
                  | false => {}
                | false =>
                  match Nat.beq n 290 with
                  | true => { ok := true, cells := 1, bytes := 8, zero := some [.nilF] }
                  | false => {}
              | false =>
                match Nat.ble n 291 with
                | true =>
                  match Nat.beq n 291 with
                  | true => { ok := true, cells := 1, bytes := 8, zero := some [.nilF] }
                  | false => {}
                | false =>
                  match Nat.ble n 292 with
                  | true =>
                    match Nat.beq n 292 with
                    | true => { ok := true, cells := 1, bytes := 8, zero := some [.nilF] }
                    | false => {}
                  | false =>
                    match Nat.beq n 293 with
                    | true => { ok := true, cells := 1, bytes := 8, zero := some [.nilF] }
                    | false => {}
      | false =>
        match Nat.ble n 315 with
        | true =>
          match Nat.ble n 304 with
          | true =>
            match Nat.ble n 297 with
            | true =>
              match Nat.ble n 295 with
              | true =>
                match Nat.ble n 294 with
                | true =>
                  match Nat.beq n 294 with
                  | true => { ok := true, cells := 1, bytes := 8, zero := some [.nilF] }
                  | false => {}
                | false =>
                  match Nat.beq n 295 with
                  | true => { ok := true, cells := 1, bytes := 8, zero := some [.nilF] }
                  | false => {}
              | false =>
                match Nat.ble n 296 with
                | true =>
                  match Nat.beq n 296 with
                  | true => { ok := true, cells := 1, bytes := 8, zero := some [.nilF] }
                  | false => {}
                | false =>
                  match Nat.beq n 297 with
                  | true => { ok := true, cells := 1, bytes := 8, zero := some [.nilF] }
                  | false => {}
            | false =>
              match Nat.ble n 300 with
              | true =>
                match Nat.ble n 298 with
                | true =>
                  match Nat.beq n 298 with
                  | true => { ok := true, cells := 1, bytes := 8, zero := some [.nilF] }
                  | false => {}
                | false =>
                  match Nat.beq n 300 with
                  | true => { ok := true, cells := 1, bytes := 8, zero := some [.nilF] }
                  | false => {}
              | false =>
                match Nat.ble n 301 with
                | true =>
                  match Nat.beq n 301 with
                  | true => { ok := true, cells := 1, bytes := 8, zero := some [.nilP] }
                  | false => {}
                | false =>
                  match Nat.ble n 303 with
                  | true =>
                    match Nat.beq n 303 with
                    | true => { ok := true, cells := 1, bytes := 8, zero := some [.nilF] }
                    | false => {}
                  | false =>
                    match Nat.beq n 304 with
                    | true => { ok := true, cells := 1, bytes := 8, zero := some [.nilF] }
                    | false => {}
          | false =>
            match Nat.ble n 309 with
            | true =>
              match Nat.ble n 306 with
              | true =>
                match Nat.ble n 305 with
                | true =>
                  match Nat.beq n 305 with
                  | true => { ok := true, cells := 1, bytes := 8, zero := some [.nilF] }
                  | false => {}
                | false =>
                  match Nat.beq n 306 with
                  | true => { ok := true, cells := 1, bytes := 8, zero := some [.nilF] }
                  | false => {}
              | false =>
                match Nat.ble n 307 with
                | true =>
                  match Nat.beq n 307 with
                  | true => { ok := true, cells := 1, bytes := 8, zero := some [.nilF] }
                  | false => {}
                | false =>
                  match Nat.ble n 308 with
                  | true =>
                    match Nat.beq n 308 with
                    | true => { ok := true, cells := 1, bytes := 8, zero := some [.nilF] }
                    | false => {}
                  | false =>
                    match Nat.beq n 309 with
                    | true => { ok := true, cells := 1, bytes := 8, zero := some [.nilF] }
                    | false => {}
            | false =>
              match Nat.ble n 311 with
              | true =>
                match Nat.ble n 310 with
                | true =>
                  match Nat.beq n 310 with
                  | true => { ok := true, cells := 1, bytes := 8, zero := some [.nilF] }
                  | false => {}
                | false =>
                  match Nat.beq n 311 with
                  | true => { ok := true, cells := 24, bytes := 24, agg := true, zero := some [.int .u8 0, .int .u8 0, .int .u8 0, .int .u8 0, .int .u8 0, .int .u8 0, .int .u8 0, .int .u8 0, .int .u8 0, .int .u8 0, .int .u8 0, .int .u8 0, .int .u8 0, .int .u8 0, .int .u8 0, .int .u8 0, .int .u8 0, .int .u8 0, .int .u8 0, .int .u8 0, .int .u8 0, .int .u8 0, .int .u8 0, .int .u8 0], arr := some (24, 5) }
                  | false => {}
              | false =>
                match Nat.ble n 312 with
                | true =>
                  match Nat.beq n 312 with
                  | true => { ok := true, cells := 1, bytes := 8, zero := some [.nilF] }
                  | false => {}
                | false =>
                  match Nat.ble n 314 with
                  | true =>
                    match Nat.beq n 314 with
                    | true => { ok := true, cells := 1, bytes := 8, zero := some [.nilF] }
                    | false => {}
                  | false =>
                    match Nat.beq n 315 with
                    | true => { ok := true, cells := 1, bytes := 8, zero := some [.nilF] }
                    | false => {}
        | false =>
          match Nat.ble n 325 with
          | true =>
            match Nat.ble n 320 with
            | true =>
              match Nat.ble n 317 with
              | true =>
                match Nat.ble n 316 with
                | true =>
                  match Nat.beq n 316 with
                  | true => { ok := true, cells := 1, bytes := 8, zero := some [.nilF] }
                  | false => {}
                | false =>
                  match Nat.beq n 317 with
                  | true => { ok := true, cells := 1, bytes := 8, zero := some [.nilF] }
                  | false => {}
              | false =>
                match Nat.ble n 318 with
                | true =>
                  match Nat.beq n 318 with
                  | true => { ok := true, cells := 1, bytes := 8, zero := some [.nilF] }
                  | false => {}
                | false =>
                  match Nat.ble n 319 with
                  | true =>
                    match Nat.beq n 319 with
                    | true => { ok := true, cells := 20, bytes := 160, agg := true, zero := some [.int .u64 0, .int .u64 0, .int .u64 0, .int .u64 0, .int .u64 0, .int .u64 0, .int .u64 0, .int .u64 0, .int .u64 0, .int .u64 0, .int .u64 0, .int .u64 0, .int .u64 0, .int .u64 0, .int .u64 0, .int .u64 0, .int .u64 0, .int .u64 0, .int .u64 0, .int .u64 0], arr := some (20, 265) }
                    | false => {}
                  | false =>
                    match Nat.beq n 320 with
                    | true => { ok := true, cells := 65, bytes := 65, agg := true, arr := some (65, 5) }
                    | false => {}
            | false =>
              match Nat.ble n 322 with
              | true =>
                match Nat.ble n 321 with
                | true =>
                  match Nat.beq n 321 with
                  | true => { ok := true, cells := 1, bytes := 8, zero := some [.nilF] }
                  | false => {}
                | false =>
                  match Nat.beq n 322 with
                  | true => { ok := true, cells := 32, bytes := 32, agg := true, zero := some [.int .u8 0, .int .u8 0, .int .u8 0, .int .u8 0, .int .u8 0, .int .u8 0, .int .u8 0, .int .u8 0, .int .u8 0, .int .u8 0, .int .u8 0, .int .u8 0, .int .u8 0, .int .u8 0, .int .u8 0, .int .u8 0, .int .u8 0, .int .u8 0, .int .u8 0, .int .u8 0, .int .u8 0, .int .u8 0, .int .u8 0, .int .u8 0, .int .u8 0, .int .u8 0, .int .u8 0, .int .u8 0, .int .u8 0, .int .u8 0, .int .u8 0, .int .u8 0], arr := some (32, 5) }
                  | false => {}
              | false =>
                match Nat.ble n 323 with
                | true =>
                  match Nat.beq n 323 with
                  | true => { ok := true, cells := 64, bytes := 64, agg := true, zero := some [.int .u8 0, .int .u8 0, .int .u8 0, .int .u8 0, .int .u8 0, .int .u8 0, .int .u8 0, .int .u8 0, .int .u8 0, .int .u8 0, .int .u8 0, .int .u8 0, .int .u8 0, .int .u8 0, .int .u8 0, .int .u8 0, .int .u8 0, .int .u8 0, .int .u8 0, .int .u8 0, .int .u8 0, .int .u8 0, .int .u8 0, .int .u8 0, .int .u8 0, .int .u8 0, .int .u8 0, .int .u8 0, .int .u8 0, .int .u8 0, .int .u8 0, .int .u8 0, .int .u8 0, .int .u8 0, .int .u8 0, .int .u8 0, .int .u8 0, .int .u8 0, .int .u8 0, .int .u8 0, .int .u8 0, .int .u8 0, .int .u8 0, .int .u8 0, .int .u8 0, .int .u8 0, .int .u8 0, .int .u8 0, .int .u8 0, .int .u8 0, .int .u8 0, .int .u8 0, .int .u8 0, .int .u8 0, .int .u8 0, .int .u8 0, .int .u8 0, .int .u8 0, .int .u8 0, .int .u8 0, .int .u8 0, .int .u8 0, .int .u8 0, .int .u8 0], arr := some (64, 5) }
                  | false => {}
                | false =>
                  match Nat.ble n 324 with
                  | true =>
                    match Nat.beq n 324 with
                    | true => { ok := true, cells := 4, bytes := 40, agg := true, zero := some [.nilP, .nilP, .nilP, .str0], offs := [some 0, some 1, some 2, some 3], flds := some [(0, 1), (1, 1), (2, 1), (3, 1)] }
                    | false => {}
                  | false =>
                    match Nat.beq n 325 with
                    | true => { ok := true, cells := 4, bytes := 40, agg := true, zero := some [.nilP, .nilP, .nilP, .str0], offs := [some 0, some 1, some 2, some 3], flds := some [(0, 1), (1, 1), (2, 1), (3, 1)] }
                    | false => {}
          | false =>
            match Nat.ble n 330 with
            | true =>
              match Nat.ble n 327 with
              | true =>
                match Nat.ble n 326 with
                | true =>
                  match Nat.beq n 326 with
                  | true => { ok := true, cells := 0, bytes := 0, agg := true, zero := some [], arr := some (0, 16) }
                  | false => {}
                | false =>
                  match Nat.beq n 327 with
                  | true => { ok := true, cells := 0, bytes := 0, agg := true, zero := some [], offs := [none], flds := some [(0, 0)] }
                  | false => {}
              | false =>
                match Nat.ble n 328 with
                | true =>
                  match Nat.beq n 328 with
                  | true => { ok := true, cells := 0, bytes := 0, agg := true, zero := some [], offs := [none], flds := some [(0, 0)] }
                  | false => {}
                | false =>
                  match Nat.ble n 329 with
                  | true =>
                    match Nat.beq n 329 with
                    | true => { ok := true, cells := 1, bytes := 1, zero := some [.int .u8 0], ik := some .u8 }
                    | false => {}
                  | false =>
                    match Nat.beq n 330 with
                    | true => { ok := true, cells := 1, bytes := 1, zero := some [.int .u8 0], ik := some .u8 }
                    | false => {}
            | false =>
              match Nat.ble n 332 with
              | true =>
                match Nat.ble n 331 with
                | true =>
                  match Nat.beq n 331 with
                  | true => { ok := true, cells := 1, bytes := 8, zero := some [.nilF] }
                  | false => {}
                | false =>
                  match Nat.beq n 332 with
                  | true => { ok := true, cells := 1, bytes := 4, zero := some [.int .i32 0], ik := some .i32 }
                  | false => {}
              | false =>
                match Nat.ble n 333 with
                | true =>
                  match Nat.beq n 333 with
                  | true => { ok := true, cells := 1, bytes := 4, zero := some [.int .i32 0], ik := some .i32 }
                  | false => {}
                | false =>
                  match Nat.ble n 334 with
                  | true =>
                    match Nat.beq n 334 with
                    | true => { ok := true, cells := 11, bytes := 48, agg := true, zero := some [.int .u64 0, .int .u64 0, .int .u32 0, .int .u8 0, .int .u8 0, .int .u8 0, .int .u8 0, .nilF, .nilP, .int .i32 0, .int .i32 0], offs := [some 0, some 1, some 2, some 3, some 4, some 5, some 6, some 7, some 8, some 9, some 10], flds := some [(0, 1), (1, 1), (2, 1), (3, 1), (4, 1), (5, 1), (6, 1), (7, 1), (8, 1), (9, 1), (10, 1)] }
                    | false => {}
                  | false =>
                    match Nat.beq n 335 with
                    | true => { ok := true, cells := 11, bytes := 48, agg := true, zero := some [.int .u64 0, .int .u64 0, .int .u32 0, .int .u8 0, .int .u8 0, .int .u8 0, .int .u8 0, .nilF, .nilP, .int .i32 0, .int .i32 0], offs := [some 0, some 1, some 2, some 3, some 4, some 5, some 6, some 7, some 8, some 9, some 10], flds := some [(0, 1), (1, 1), (2, 1), (3, 1), (4, 1), (5, 1), (6, 1), (7, 1), (8, 1), (9, 1), (10, 1)] }
                    | false => {}
def fnB (n : Nat) : Bool := match Nat.ble n 341 with
  | true => match inX [0, 1, 192, 242, 285] n with
    | true => false
    | false => true
  | false => false
def tb : Tb where
  ti n := match Nat.ble n 335 with
    | true => tyTree n
    | false => {}
  fn := fnB
def avZ : AV → Z → Bool
  | .int k n, .int k' n' => decide (k = k') && decide (n = n')
  | .bool b, .bool b' => b == b'
  | .str s, .str0 => decide (s = ⟨#[]⟩)
  | .nilP, .nilP => true
  | .nilF, .nilF => true
  | .sl .zero [], .sl0 => true
  | _, _ => false
theorem avZ_eq {x : AV} {z : Z} (h : avZ x z = true) : x = z.av := by
  unfold avZ at h
  split at h <;> simp_all [Z.av]
def avsZ : List AV → List Z → Bool
  | [], [] => true
  | x :: r, z :: s => avZ x z && avsZ r s
  | _, _ => false
theorem avsZ_eq : ∀ {l : List AV} {m : List Z}, avsZ l m = true → l = m.map Z.av
  | [], [], _ => rfl
  | x :: r, z :: s, h => by
    simp only [avsZ, Bool.and_eq_true] at h
    simp [avZ_eq h.1, avsZ_eq h.2]
  | [], _ :: _, h => by cases h
  | _ :: _, [], h => by cases h
def eqB (P : Program) (ty : TypeId) (n : Nat) : Bool :=
  !P.eqGuardType P.depth ty && !P.stoodInHeld ty && match P.underlying ty with
    | some (.struct fs) => fs.size == n && (List.range fs.size).all fun i => match fs[i]? with
      | some f => f.name != "_" && f.offset == i && (match P.underlying f.type with
        | some (.int .i64) => true
        | _ => false)
      | none => true
    | _ => false
theorem eqB_eq {P : Program} {ty : TypeId} {n : Nat} (h : eqB P ty n = true) : EqStruct P ty n := by
  unfold eqB at h
  simp only [Bool.and_eq_true, Bool.not_eq_true'] at h
  obtain ⟨⟨h1, h2⟩, h3⟩ := h
  refine ⟨h1, h2, ?_⟩
  split at h3
  · rename_i fs hu
    simp only [Bool.and_eq_true, beq_iff_eq] at h3
    refine ⟨fs, hu, h3.1, fun i f hf => ?_⟩
    have hi := (Array.getElem?_eq_some_iff.1 hf).1
    have := List.all_eq_true.1 h3.2 i (List.mem_range.2 hi)
    rw [hf] at this
    simp only [Bool.and_eq_true, bne_iff_ne, ne_eq, beq_iff_eq] at this
    refine ⟨this.1.1, this.1.2, ?_⟩
    have h4 := this.2
    split at h4
    · assumption
    · cases h4
  · cases h3
def tiB (P : Program) (ty : TypeId) (x : TI) : Bool :=
  (!x.ok || (okTy P ty && isAggB P ty == x.agg && P.cellsOf ty == x.cells && P.bytesOf ty == x.bytes)) &&
  (match x.zero with
   | some z => match zeroC P ty with
     | some l => avsZ l z
     | none => false
   | none => true) &&
  ((List.range x.offs.length).all fun i => match x.offs[i]? with
    | some (some n) => fieldOff P ty i == some n
    | _ => true) &&
  (match x.flds with
   | some l => match P.underlying ty with
     | some (.struct fs) => (fs.toList.map fun f => (f.offset, P.cellsOf f.type)) == l && fs.all fun f => (P.info? f.type).isSome
     | _ => false
   | none => true) &&
  (match x.el with | some e => sliceElem P ty == some e | none => true) &&
  (match x.arr with | some p => arrayElem P ty == some p | none => true) &&
  (match x.ik with | some k => decide (intKind P ty = some k) | none => true) &&
  (!x.isBool || (match P.underlying ty with | some .bool => true | _ => false)) &&
  (!x.eq || eqB P ty x.cells)
theorem tiB_ok {P : Program} {ty : TypeId} {x : TI} (h : tiB P ty x = true) : TIok P ty x := by
  unfold tiB at h
  simp only [Bool.and_eq_true] at h
  obtain ⟨⟨⟨⟨⟨⟨⟨⟨h1, h2⟩, h3⟩, h4⟩, h5⟩, h6⟩, h7⟩, h8⟩, h9⟩ := h
  refine ⟨fun e => ?_, fun z e => ?_, fun i n e => ?_, fun l e => ?_, fun y e => ?_, fun p e => ?_, fun k e => ?_, fun e => ?_, fun e => ?_⟩
  · rw [e] at h1
    simpa [Bool.and_eq_true, and_assoc] using h1
  · rw [e] at h2
    simp only at h2
    split at h2
    · rename_i l hl; rw [hl, avsZ_eq h2]
    · cases h2
  · have hi := (List.getElem?_eq_some_iff.1 e).1
    have := List.all_eq_true.1 h3 i (List.mem_range.2 hi)
    rw [e] at this
    simpa using this
  · rw [e] at h4
    simp only at h4
    split at h4
    · rename_i fs hu
      simp only [Bool.and_eq_true, beq_iff_eq] at h4
      refine ⟨fs, hu, h4.1, fun f hf => ?_⟩
      have := h4.2
      rw [Array.all_eq_true_iff_forall_mem] at this
      exact this f hf
    · cases h4
  · rw [e] at h5; simpa using h5
  · rw [e] at h6; simpa using h6
  · rw [e] at h7; simpa using h7
  · rw [e] at h8
    simp only [Bool.not_true, Bool.false_or] at h8
    split at h8
    · assumption
    · cases h8
  · rw [e] at h9; exact eqB_eq (by simpa using h9)
def tabB (P : Program) (x : Nat → TI) (n : Nat) : Bool := (List.range n).all fun ty => tiB P ty (x ty)
def fnOkB (P : Program) (f : Nat → Bool) (n : Nat) : Bool := (List.range n).all fun g => !f g || match P.funcs[g]? with
  | some fn => fn.body.isSome && fn.name != "runtime.NumGoroutine"
  | none => false
theorem tab_there : tabB Tryz.prog tyTree 336 = true := by kernel_rfl
theorem fn_there : fnOkB Tryz.prog fnB 365 = true := by kernel_rfl
theorem T : TbOk Tryz.prog tb := by
  refine ⟨fun ty => ?_, fun g hg => ?_⟩
  · show TIok _ _ (match Nat.ble ty 335 with | true => tyTree ty | false => {})
    split
    · rename_i hb
      exact tiB_ok (List.all_eq_true.1 tab_there ty (List.mem_range.2 (by have := Nat.le_of_ble_eq_true hb; omega)))
    · exact ⟨fun e => (by cases e), fun z e => (by cases e), fun i n e => (by simp at e), fun l e => (by cases e), fun y e => (by cases e), fun p e => (by cases e), fun k e => (by cases e), fun e => (by cases e), fun e => (by cases e)⟩
  · have hlt : g < 365 := by
      have : fnB g = true := hg
      unfold fnB at this
      split at this
      · rename_i hb; have := Nat.le_of_ble_eq_true hb; omega
      · cases this
    have := List.all_eq_true.1 fn_there g (List.mem_range.2 hlt)
    rw [show fnB g = true from hg] at this
    simp only [Bool.not_true, Bool.false_or] at this
    split at this
    · rename_i fn hf
      simp only [Bool.and_eq_true, bne_iff_ne, ne_eq] at this
      obtain ⟨c, hc⟩ := Option.isSome_iff_exists.1 this.1
      exact ⟨fn, c, hf, hc, this.2⟩
    · cases this
end Go.Proofs.YtbaajjihhdmdpaaGreatDoor

namespace Go.Proofs.YtbaajjihhdmdpaaGreatDoor
open Go.RowKit
set_option linter.unusedSectionVars false
set_option linter.unusedVariables false
set_option linter.unusedSimpArgs false
set_option linter.unnecessarySimpa false
set_option maxRecDepth 100000
variable [Lax]
theorem mixedT : Tryz.prog.follows .mixedOrders = true := Checked.mixed Tryz.checked
abbrev i64 (n : Int) : AV := .int .i64 n
abbrev intsV (l : List Int) : AV := .sl .no (l.map fun x => [i64 x])
abbrev rowsV (l : List (List Int)) : AV := .sl .no (l.map fun x => [intsV x])
structure GLink where
  from_ : Int
  to_ : Int
  loss : Int
  deriving DecidableEq, Inhabited
structure GCell where
  slot : Int
  offset : Int
  from_ : Int
  to_ : Int
  flow : Int
  deriving DecidableEq, Inhabited
structure GNet where
  nodes : Int
  power : List (List Int)
  noise : Int
  thr : Int
  links : List GLink
  margin : List Int
  deriving DecidableEq, Inhabited
structure GFlow where
  id : Int
  from_ : Int
  to_ : Int
  period : Int
  phase : Int
  deadline : Int
  deriving DecidableEq, Inhabited
structure GReq where
  flow : GFlow
  routes : List (List Int)
  deriving DecidableEq, Inhabited
structure GSched where
  length : Int
  offsets : Int
  cells : List GCell
  deriving DecidableEq, Inhabited
structure GClaim where
  flow : Int
  routes : List (List Int)
  bounds : List Int
  worst : List Int
  slots : List (List Int)
  deriving DecidableEq, Inhabited
structure GReason where
  kind : Int
  node : Int
  index : Int
  route : Int
  links : List GLink
  need : Int
  have_ : Int
  deriving DecidableEq, Inhabited
def GLink.c (x : GLink) : List AV := [i64 x.from_, i64 x.to_, i64 x.loss]
def GLink.v (x : GLink) : AV := .ag x.c
def GCell.c (x : GCell) : List AV := [i64 x.slot, i64 x.offset, i64 x.from_, i64 x.to_, i64 x.flow]
def GCell.v (x : GCell) : AV := .ag x.c
abbrev linksV (l : List GLink) : AV := .sl .no (l.map fun x => x.c)
abbrev cellsV (l : List GCell) : AV := .sl .no (l.map fun x => x.c)
def GNet.c (n : GNet) : List AV := [i64 n.nodes, rowsV n.power, i64 n.noise, i64 n.thr, linksV n.links, intsV n.margin]
def GNet.v (n : GNet) : AV := .ag n.c
def GFlow.c (x : GFlow) : List AV := [i64 x.id, i64 x.from_, i64 x.to_, i64 x.period, i64 x.phase, i64 x.deadline]
def GFlow.v (x : GFlow) : AV := .ag x.c
abbrev flowsV (l : List GFlow) : AV := .sl .no (l.map fun x => x.c)
def GReq.c (x : GReq) : List AV := [i64 x.flow.id, i64 x.flow.from_, i64 x.flow.to_, i64 x.flow.period, i64 x.flow.phase, i64 x.flow.deadline, rowsV x.routes]
def GReq.v (x : GReq) : AV := .ag x.c
abbrev reqsV (l : List GReq) : AV := .sl .no (l.map fun x => x.c)
def GSched.c (x : GSched) : List AV := [i64 x.length, i64 x.offsets, cellsV x.cells]
def GSched.v (x : GSched) : AV := .ag x.c
def GClaim.c (x : GClaim) : List AV := [i64 x.flow, rowsV x.routes, intsV x.bounds, intsV x.worst, rowsV x.slots]
def GClaim.v (x : GClaim) : AV := .ag x.c
abbrev claimsV (l : List GClaim) : AV := .sl .no (l.map fun x => x.c)
def GReason.c (x : GReason) : List AV := [i64 x.kind, i64 x.node, i64 x.index, i64 x.route, linksV x.links, i64 x.need, i64 x.have_]
def GReason.v (x : GReason) : AV := .ag x.c
theorem w64 {n : Int} (h : -9223372036854775808 ≤ n ∧ n ≤ 9223372036854775807) : IntKind.i64.wrap n = n := Go.IntWalk.i64_in n h
theorem incr {i : Nat} (h : i < 9223372036854775807) : i64 ((i + 1 : Nat) : Int) = .int .i64 (IntKind.i64.wrap ((i : Int) + 1)) := by
  rw [w64 (by omega)]; rfl
abbrev W (n : Int) : Int := IntKind.i64.wrap n
/-- A list that a loop can count. -/
abbrev Cn {α : Type} (l : List α) : Prop := l.length < 4611686018427387904
structure GNet.ok (n : GNet) : Prop where
  power : Cn n.power
  rows : ∀ r ∈ n.power, Cn r
  links : Cn n.links
  margin : Cn n.margin
/-- The element with an index. -/
abbrev gd {α : Type} [Inhabited α] (l : List α) (i : Nat) : α := l.getD i default
abbrev gi {α : Type} [Inhabited α] (l : List α) (i : Int) : α := l.getD i.toNat default
theorem gd_get {α : Type} [Inhabited α] {l : List α} {i : Nat} (h : i < l.length) : l[i]? = some (gd l i) := by simp [gd, List.getD, h]
theorem gd_mem {α : Type} [Inhabited α] {l : List α} {i : Nat} (h : i < l.length) : gd l i ∈ l := List.mem_of_getElem? (gd_get h)
theorem Ix.at {α : Type} [Inhabited α] {f : α → List AV} {l : List α} {i : Nat} {sz : Nat} {K : List AV → Prop} (h1 : i < l.length) (h2 : (f (gd l i)).length = sz) (k : K (f (gd l i))) : Ix (l.map f) (i : Int) sz K :=
  ⟨by omega, f (gd l i), by rw [Int.toNat_natCast, List.getElem?_map, gd_get h1]; rfl, h2, k⟩
theorem Ix.int {α : Type} [Inhabited α] {f : α → List AV} {l : List α} {i : Int} {sz : Nat} {K : List AV → Prop} (h0 : 0 ≤ i ∧ i.toNat < l.length) (h2 : (f (gi l i)).length = sz) (k : K (f (gi l i))) : Ix (l.map f) i sz K :=
  ⟨h0.1, f (gi l i), by rw [List.getElem?_map, gd_get h0.2]; rfl, h2, k⟩
theorem Ix.pred {α : Type} [Inhabited α] {f : α → List AV} {l : List α} {i : Nat} {sz : Nat} {K : List AV → Prop} (h0 : 0 < i) (h1 : i < l.length) (hl : Cn l) (h2 : (f (gd l (i - 1))).length = sz) (k : K (f (gd l (i - 1)))) :
    Ix (l.map f) (IntKind.i64.wrap ((i : Int) - 1)) sz K := by
  have := hl
  rw [w64 (by omega), show ((i : Int) - 1) = ((i - 1 : Nat) : Int) by omega]
  exact Ix.at (by omega) h2 k
/-! ### the first contracts -/
def touches (a b : GCell) : Bool := a.from_ == b.from_ || a.from_ == b.to_ || a.to_ == b.from_ || a.to_ == b.to_
theorem S309 (a b : GCell) : Sound Tryz.prog 309 [a.v, b.v] (.bool (touches a b)) := by
  refine ex_intro mixedT T [] Tryz.func309 rfl (by rw [Tryz.ntmps309]; simp) (by kernel_rfl) ?_
  conv => whnf
  repeat' first | (refine LenG.map ?_; conv => whnf) | (refine LenG.go ?_; conv => whnf)
  repeat' first
    | (refine Br.T ?_; conv => whnf)
    | (refine Br.F ?_; conv => whnf)
    | (refine Br.mk (fun hq => ?_) (fun hq => ?_) <;> conv => whnf)
    | (refine FnG.go rfl ?_; conv => whnf)
    | (refine LenG.map ?_; conv => whnf)
    | (refine LenG.go ?_; conv => whnf)
  all_goals (refine RetG.one ?_; simp_all [ret1, touches])
def cmpI (a b : Int) : Int := if a < b then -1 else if b < a then 1 else 0
theorem S241 (a : Int) : Sound Tryz.prog 241 [i64 a] (.bool false) := by
  refine ex_intro mixedT T [] Tryz.func241 rfl (by rw [Tryz.ntmps241]; simp) (by kernel_rfl) ?_
  conv => whnf
  repeat' first | (refine LenG.map ?_; conv => whnf) | (refine LenG.go ?_; conv => whnf)
  repeat' first
    | (refine Br.T ?_; conv => whnf)
    | (refine Br.F ?_; conv => whnf)
    | (refine Br.mk (fun hq => ?_) (fun hq => ?_) <;> conv => whnf)
    | (refine FnG.go rfl ?_; conv => whnf)
    | (refine LenG.map ?_; conv => whnf)
    | (refine LenG.go ?_; conv => whnf)
  all_goals (refine RetG.one ?_; simp [ret1])
theorem S174 (a b : Int) : Sound Tryz.prog 174 [i64 a, i64 b] (i64 (cmpI a b)) := by
  refine ex_intro mixedT T [] Tryz.func174 rfl (by rw [Tryz.ntmps174]; simp) (by kernel_rfl) ?_
  conv => whnf
  repeat' first | (refine LenG.map ?_; conv => whnf) | (refine LenG.go ?_; conv => whnf)
  repeat' first
    | (refine Br.T ?_; conv => whnf)
    | (refine Br.F ?_; conv => whnf)
    | (refine Br.mk (fun hq => ?_) (fun hq => ?_) <;> conv => whnf)
    | (refine FnG.go rfl ?_; conv => whnf)
    | (refine LenG.map ?_; conv => whnf)
    | (refine LenG.go ?_; conv => whnf)
    | (refine CallG.go (S241 _) ?_; conv => whnf)
  all_goals (refine RetG.one ?_; simp only [decide_eq_true_eq, decide_eq_false_iff_not] at *; simp only [ret1, cmpI]; (repeat' split) <;> first | rfl | omega)
def idxOf {α : Type} (p : α → Bool) : List α → Nat → Int
  | [], _ => -1
  | x :: r, k => if p x then k else idxOf p r (k + 1)
theorem idxOf_ge {α : Type} (p : α → Bool) : ∀ (l : List α) (k : Nat), 0 ≤ idxOf p l k ↔ l.any p = true
  | [], k => by simp [idxOf]
  | x :: r, k => by
    have ih := idxOf_ge p r (k + 1)
    unfold idxOf
    by_cases h : p x = true
    · rw [if_pos h]; simp [h]
    · rw [if_neg h, ih]; simp [h]
theorem idxOf_any {α : Type} (p : α → Bool) (l : List α) (k : Nat) : decide (idxOf p l k ≥ 0) = l.any p := by
  have := idxOf_ge p l k
  cases h : l.any p
  · rw [h] at this; simpa using this
  · rw [h] at this; simpa using this
/-- The first that is not 0. -/
def orI : List Int → Int
  | [] => 0
  | x :: r => if x = 0 then orI r else x
theorem S186 (l : List Int) (hl : Cn l) : Sound Tryz.prog 186 [intsV l] (i64 (orI l)) := by
  refine ex_intro mixedT T [] Tryz.func186 rfl (by rw [Tryz.ntmps186]; simp) (by kernel_rfl) ?_
  conv => whnf
  repeat' first | (refine LenG.map ?_; conv => whnf) | (refine LenG.go ?_; conv => whnf)
  refine Lp.go T [] (fun i : Nat => [(3, i64 0), (6, intsV l), (7, i64 l.length), (8, i64 i)]) (fun _ => []) (fun m i => m + i = l.length ∧ orI l = orI (l.drop i)) l.length 0 ⟨by simp, by simp⟩ [] ?_ ?_
  · (conv => whnf); refine ⟨rfl, ?_, ?_⟩ <;> (conv => whnf) <;> (repeat' apply And.intro) <;> first | exact True.intro | rfl | (conv => rhs; whnf)
  rintro m i ⟨hm, hi⟩
  conv => whnf
  refine Br.mk (fun hq => ?_) (fun hq => ?_) <;> conv => whnf
  · have hlt : i < l.length := by simpa using hq
    refine Ix.map (x := l[i]) (by omega) (by simp [hlt]) rfl ?_
    conv => whnf
    refine Br.mk (fun hp' => ?_) (fun hp' => ?_) <;> conv => whnf
    · refine RetG.one ?_
      rw [hi, List.drop_eq_getElem_cons hlt]
      simp_all [ret1, orI]
    · refine ⟨m - 1, i + 1, by omega, ⟨by omega, ?_⟩, ?_⟩
      · rw [hi, List.drop_eq_getElem_cons hlt]
        simp_all [orI]
      · (conv => whnf); refine ⟨rfl, ?_, ?_⟩ <;> (conv => whnf) <;> (repeat' apply And.intro) <;> first | exact True.intro | rfl | (conv => rhs; whnf)
        exact incr (by omega)
  · have hge : l.length ≤ i := by simpa using hq
    refine RetG.one ?_
    rw [hi, List.drop_eq_nil_of_le hge]
    simp [ret1, orI]
theorem S284_0 {g : Nat} (hg : tb.fn g = true) (l : List Int) (p : Int → Bool) (hp : ∀ x ∈ l, Sound Tryz.prog g (i64 x :: []) (.bool (p x))) (hl : l.length < 4611686018427387904) :
    Sound Tryz.prog 284 [.sl .no (l.map fun x => [i64 x]), .fn g []] (i64 (idxOf p l 0)) := by
  refine ex_intro mixedT T [] Tryz.func284 rfl (by rw [Tryz.ntmps284]; simp) (by kernel_rfl) ?_
  conv => whnf
  repeat' first | (refine LenG.map ?_; conv => whnf) | (refine LenG.go ?_; conv => whnf)
  refine Lp.go T [] (fun i : Nat => [(0, .sl .no (l.map fun x => [i64 x])), (1, .fn g []), (7, i64 l.length), (8, i64 i)]) (fun _ => []) (fun m i => m + i = l.length ∧ idxOf p l 0 = idxOf p (l.drop i) i) l.length 0 ⟨by simp, by simp⟩ [] ?_ ?_
  · (conv => whnf); refine ⟨rfl, ?_, ?_⟩ <;> (conv => whnf) <;> (repeat' apply And.intro) <;> first | exact True.intro | rfl | (conv => rhs; whnf)
  rintro m i ⟨hm, hi⟩
  conv => whnf
  refine Br.mk (fun hq => ?_) (fun hq => ?_) <;> conv => whnf
  · have hlt : i < l.length := by simpa using hq
    refine Ix.map (x := l[i]) (by omega) (by simp [hlt]) rfl ?_
    conv => whnf
    refine FnG.go hg ?_; conv => whnf
    refine CallG.go (hp _ (List.getElem_mem hlt)) ?_; conv => whnf
    refine Br.mk (fun hp' => ?_) (fun hp' => ?_) <;> conv => whnf
    · refine RetG.one ?_
      rw [hi, List.drop_eq_getElem_cons hlt]
      simp [ret1, idxOf, hp']
    · refine ⟨m - 1, i + 1, by omega, ⟨by omega, ?_⟩, ?_⟩
      · rw [hi, List.drop_eq_getElem_cons hlt]
        simp [idxOf, hp']
      · (conv => whnf); refine ⟨rfl, ?_, ?_⟩ <;> (conv => whnf) <;> (repeat' apply And.intro) <;> first | exact True.intro | rfl | (conv => rhs; whnf)
        exact incr (by omega)
  · have hge : l.length ≤ i := by simpa using hq
    refine RetG.one ?_
    rw [hi, List.drop_eq_nil_of_le hge]
    simp [ret1, idxOf]
theorem S231_0 {g : Nat} (hg : tb.fn g = true) (l : List Int) (p : Int → Bool) (hp : ∀ x ∈ l, Sound Tryz.prog g (i64 x :: []) (.bool (p x))) (hl : l.length < 4611686018427387904) :
    Sound Tryz.prog 231 [.sl .no (l.map fun x => [i64 x]), .fn g []] (.bool (l.any p)) := by
  refine ex_intro mixedT T [] Tryz.func231 rfl (by rw [Tryz.ntmps231]; simp) (by kernel_rfl) ?_
  conv => whnf
  repeat' first | (refine LenG.map ?_; conv => whnf) | (refine LenG.go ?_; conv => whnf)
  repeat' first
    | (refine Br.T ?_; conv => whnf)
    | (refine Br.F ?_; conv => whnf)
    | (refine Br.mk (fun hq => ?_) (fun hq => ?_) <;> conv => whnf)
    | (refine FnG.go rfl ?_; conv => whnf)
    | (refine LenG.map ?_; conv => whnf)
    | (refine LenG.go ?_; conv => whnf)
    | (refine CallG.go (S284_0 hg  l p hp hl) ?_; conv => whnf)
  all_goals (refine RetG.one ?_; simp only [ret1, idxOf_any])
theorem S283_1 {g : Nat} (hg : tb.fn g = true) (c0 : List AV) (l : List (List Int)) (p : (List Int) → Bool) (hp : ∀ x ∈ l, Sound Tryz.prog g (intsV x :: [.rp c0]) (.bool (p x))) (hl : l.length < 4611686018427387904) :
    Sound Tryz.prog 283 [.sl .no (l.map fun x => [intsV x]), .fn g [.rp c0]] (i64 (idxOf p l 0)) := by
  refine ex_intro mixedT T [] Tryz.func283 rfl (by rw [Tryz.ntmps283]; simp) (by kernel_rfl) ?_
  conv => whnf
  repeat' first | (refine LenG.map ?_; conv => whnf) | (refine LenG.go ?_; conv => whnf)
  refine Lp.go T [] (fun i : Nat => [(0, .sl .no (l.map fun x => [intsV x])), (1, .fn g [.rp c0]), (7, i64 l.length), (8, i64 i)]) (fun _ => []) (fun m i => m + i = l.length ∧ idxOf p l 0 = idxOf p (l.drop i) i) l.length 0 ⟨by simp, by simp⟩ [] ?_ ?_
  · (conv => whnf); refine ⟨rfl, ?_, ?_⟩ <;> (conv => whnf) <;> (repeat' apply And.intro) <;> first | exact True.intro | rfl | (conv => rhs; whnf)
  rintro m i ⟨hm, hi⟩
  conv => whnf
  refine Br.mk (fun hq => ?_) (fun hq => ?_) <;> conv => whnf
  · have hlt : i < l.length := by simpa using hq
    refine Ix.map (x := l[i]) (by omega) (by simp [hlt]) rfl ?_
    conv => whnf
    refine FnG.go hg ?_; conv => whnf
    refine CallG.go (hp _ (List.getElem_mem hlt)) ?_; conv => whnf
    refine Br.mk (fun hp' => ?_) (fun hp' => ?_) <;> conv => whnf
    · refine RetG.one ?_
      rw [hi, List.drop_eq_getElem_cons hlt]
      simp [ret1, idxOf, hp']
    · refine ⟨m - 1, i + 1, by omega, ⟨by omega, ?_⟩, ?_⟩
      · rw [hi, List.drop_eq_getElem_cons hlt]
        simp [idxOf, hp']
      · (conv => whnf); refine ⟨rfl, ?_, ?_⟩ <;> (conv => whnf) <;> (repeat' apply And.intro) <;> first | exact True.intro | rfl | (conv => rhs; whnf)
        exact incr (by omega)
  · have hge : l.length ≤ i := by simpa using hq
    refine RetG.one ?_
    rw [hi, List.drop_eq_nil_of_le hge]
    simp [ret1, idxOf]
theorem S227_1 {g : Nat} (hg : tb.fn g = true) (c0 : List AV) (l : List (List Int)) (p : (List Int) → Bool) (hp : ∀ x ∈ l, Sound Tryz.prog g (intsV x :: [.rp c0]) (.bool (p x))) (hl : l.length < 4611686018427387904) :
    Sound Tryz.prog 227 [.sl .no (l.map fun x => [intsV x]), .fn g [.rp c0]] (.bool (l.any p)) := by
  refine ex_intro mixedT T [] Tryz.func227 rfl (by rw [Tryz.ntmps227]; simp) (by kernel_rfl) ?_
  conv => whnf
  repeat' first | (refine LenG.map ?_; conv => whnf) | (refine LenG.go ?_; conv => whnf)
  repeat' first
    | (refine Br.T ?_; conv => whnf)
    | (refine Br.F ?_; conv => whnf)
    | (refine Br.mk (fun hq => ?_) (fun hq => ?_) <;> conv => whnf)
    | (refine FnG.go rfl ?_; conv => whnf)
    | (refine LenG.map ?_; conv => whnf)
    | (refine LenG.go ?_; conv => whnf)
    | (refine CallG.go (S283_1 hg c0 l p hp hl) ?_; conv => whnf)
  all_goals (refine RetG.one ?_; simp only [ret1, idxOf_any])
theorem S96_1 {g : Nat} (hg : tb.fn g = true) (c0 : List AV) (l : List GCell) (p : GCell → Bool) (hp : ∀ x ∈ l, Sound Tryz.prog g (x.v :: [.rp c0]) (.bool (p x))) (hl : l.length < 4611686018427387904) :
    Sound Tryz.prog 96 [.sl .no (l.map fun x => x.c), .fn g [.rp c0]] (i64 (idxOf p l 0)) := by
  refine ex_intro mixedT T [] Tryz.func96 rfl (by rw [Tryz.ntmps96]; simp) (by kernel_rfl) ?_
  conv => whnf
  repeat' first | (refine LenG.map ?_; conv => whnf) | (refine LenG.go ?_; conv => whnf)
  refine Lp.go T [] (fun i : Nat => [(0, .sl .no (l.map fun x => x.c)), (1, .fn g [.rp c0]), (7, i64 l.length), (8, i64 i)]) (fun _ => []) (fun m i => m + i = l.length ∧ idxOf p l 0 = idxOf p (l.drop i) i) l.length 0 ⟨by simp, by simp⟩ [] ?_ ?_
  · (conv => whnf); refine ⟨rfl, ?_, ?_⟩ <;> (conv => whnf) <;> (repeat' apply And.intro) <;> first | exact True.intro | rfl | (conv => rhs; whnf)
  rintro m i ⟨hm, hi⟩
  conv => whnf
  refine Br.mk (fun hq => ?_) (fun hq => ?_) <;> conv => whnf
  · have hlt : i < l.length := by simpa using hq
    refine Ix.map (x := l[i]) (by omega) (by simp [hlt]) rfl ?_
    conv => whnf
    refine FnG.go hg ?_; conv => whnf
    refine CallG.go (hp _ (List.getElem_mem hlt)) ?_; conv => whnf
    refine Br.mk (fun hp' => ?_) (fun hp' => ?_) <;> conv => whnf
    · refine RetG.one ?_
      rw [hi, List.drop_eq_getElem_cons hlt]
      simp [ret1, idxOf, hp']
    · refine ⟨m - 1, i + 1, by omega, ⟨by omega, ?_⟩, ?_⟩
      · rw [hi, List.drop_eq_getElem_cons hlt]
        simp [idxOf, hp']
      · (conv => whnf); refine ⟨rfl, ?_, ?_⟩ <;> (conv => whnf) <;> (repeat' apply And.intro) <;> first | exact True.intro | rfl | (conv => rhs; whnf)
        exact incr (by omega)
  · have hge : l.length ≤ i := by simpa using hq
    refine RetG.one ?_
    rw [hi, List.drop_eq_nil_of_le hge]
    simp [ret1, idxOf]
theorem S32_1 {g : Nat} (hg : tb.fn g = true) (c0 : List AV) (l : List GCell) (p : GCell → Bool) (hp : ∀ x ∈ l, Sound Tryz.prog g (x.v :: [.rp c0]) (.bool (p x))) (hl : l.length < 4611686018427387904) :
    Sound Tryz.prog 32 [.sl .no (l.map fun x => x.c), .fn g [.rp c0]] (.bool (l.any p)) := by
  refine ex_intro mixedT T [] Tryz.func32 rfl (by rw [Tryz.ntmps32]; simp) (by kernel_rfl) ?_
  conv => whnf
  repeat' first | (refine LenG.map ?_; conv => whnf) | (refine LenG.go ?_; conv => whnf)
  repeat' first
    | (refine Br.T ?_; conv => whnf)
    | (refine Br.F ?_; conv => whnf)
    | (refine Br.mk (fun hq => ?_) (fun hq => ?_) <;> conv => whnf)
    | (refine FnG.go rfl ?_; conv => whnf)
    | (refine LenG.map ?_; conv => whnf)
    | (refine LenG.go ?_; conv => whnf)
    | (refine CallG.go (S96_1 hg c0 l p hp hl) ?_; conv => whnf)
  all_goals (refine RetG.one ?_; simp only [ret1, idxOf_any])
theorem S96_2 {g : Nat} (hg : tb.fn g = true) (c0 c1 : List AV) (l : List GCell) (p : GCell → Bool) (hp : ∀ x ∈ l, Sound Tryz.prog g (x.v :: [.rp c0, .rp c1]) (.bool (p x))) (hl : l.length < 4611686018427387904) :
    Sound Tryz.prog 96 [.sl .no (l.map fun x => x.c), .fn g [.rp c0, .rp c1]] (i64 (idxOf p l 0)) := by
  refine ex_intro mixedT T [] Tryz.func96 rfl (by rw [Tryz.ntmps96]; simp) (by kernel_rfl) ?_
  conv => whnf
  repeat' first | (refine LenG.map ?_; conv => whnf) | (refine LenG.go ?_; conv => whnf)
  refine Lp.go T [] (fun i : Nat => [(0, .sl .no (l.map fun x => x.c)), (1, .fn g [.rp c0, .rp c1]), (7, i64 l.length), (8, i64 i)]) (fun _ => []) (fun m i => m + i = l.length ∧ idxOf p l 0 = idxOf p (l.drop i) i) l.length 0 ⟨by simp, by simp⟩ [] ?_ ?_
  · (conv => whnf); refine ⟨rfl, ?_, ?_⟩ <;> (conv => whnf) <;> (repeat' apply And.intro) <;> first | exact True.intro | rfl | (conv => rhs; whnf)
  rintro m i ⟨hm, hi⟩
  conv => whnf
  refine Br.mk (fun hq => ?_) (fun hq => ?_) <;> conv => whnf
  · have hlt : i < l.length := by simpa using hq
    refine Ix.map (x := l[i]) (by omega) (by simp [hlt]) rfl ?_
    conv => whnf
    refine FnG.go hg ?_; conv => whnf
    refine CallG.go (hp _ (List.getElem_mem hlt)) ?_; conv => whnf
    refine Br.mk (fun hp' => ?_) (fun hp' => ?_) <;> conv => whnf
    · refine RetG.one ?_
      rw [hi, List.drop_eq_getElem_cons hlt]
      simp [ret1, idxOf, hp']
    · refine ⟨m - 1, i + 1, by omega, ⟨by omega, ?_⟩, ?_⟩
      · rw [hi, List.drop_eq_getElem_cons hlt]
        simp [idxOf, hp']
      · (conv => whnf); refine ⟨rfl, ?_, ?_⟩ <;> (conv => whnf) <;> (repeat' apply And.intro) <;> first | exact True.intro | rfl | (conv => rhs; whnf)
        exact incr (by omega)
  · have hge : l.length ≤ i := by simpa using hq
    refine RetG.one ?_
    rw [hi, List.drop_eq_nil_of_le hge]
    simp [ret1, idxOf]
theorem S96_3 {g : Nat} (hg : tb.fn g = true) (c0 c1 c2 : List AV) (l : List GCell) (p : GCell → Bool) (hp : ∀ x ∈ l, Sound Tryz.prog g (x.v :: [.rp c0, .rp c1, .rp c2]) (.bool (p x))) (hl : l.length < 4611686018427387904) :
    Sound Tryz.prog 96 [.sl .no (l.map fun x => x.c), .fn g [.rp c0, .rp c1, .rp c2]] (i64 (idxOf p l 0)) := by
  refine ex_intro mixedT T [] Tryz.func96 rfl (by rw [Tryz.ntmps96]; simp) (by kernel_rfl) ?_
  conv => whnf
  repeat' first | (refine LenG.map ?_; conv => whnf) | (refine LenG.go ?_; conv => whnf)
  refine Lp.go T [] (fun i : Nat => [(0, .sl .no (l.map fun x => x.c)), (1, .fn g [.rp c0, .rp c1, .rp c2]), (7, i64 l.length), (8, i64 i)]) (fun _ => []) (fun m i => m + i = l.length ∧ idxOf p l 0 = idxOf p (l.drop i) i) l.length 0 ⟨by simp, by simp⟩ [] ?_ ?_
  · (conv => whnf); refine ⟨rfl, ?_, ?_⟩ <;> (conv => whnf) <;> (repeat' apply And.intro) <;> first | exact True.intro | rfl | (conv => rhs; whnf)
  rintro m i ⟨hm, hi⟩
  conv => whnf
  refine Br.mk (fun hq => ?_) (fun hq => ?_) <;> conv => whnf
  · have hlt : i < l.length := by simpa using hq
    refine Ix.map (x := l[i]) (by omega) (by simp [hlt]) rfl ?_
    conv => whnf
    refine FnG.go hg ?_; conv => whnf
    refine CallG.go (hp _ (List.getElem_mem hlt)) ?_; conv => whnf
    refine Br.mk (fun hp' => ?_) (fun hp' => ?_) <;> conv => whnf
    · refine RetG.one ?_
      rw [hi, List.drop_eq_getElem_cons hlt]
      simp [ret1, idxOf, hp']
    · refine ⟨m - 1, i + 1, by omega, ⟨by omega, ?_⟩, ?_⟩
      · rw [hi, List.drop_eq_getElem_cons hlt]
        simp [idxOf, hp']
      · (conv => whnf); refine ⟨rfl, ?_, ?_⟩ <;> (conv => whnf) <;> (repeat' apply And.intro) <;> first | exact True.intro | rfl | (conv => rhs; whnf)
        exact incr (by omega)
  · have hge : l.length ≤ i := by simpa using hq
    refine RetG.one ?_
    rw [hi, List.drop_eq_nil_of_le hge]
    simp [ret1, idxOf]
theorem S32_3 {g : Nat} (hg : tb.fn g = true) (c0 c1 c2 : List AV) (l : List GCell) (p : GCell → Bool) (hp : ∀ x ∈ l, Sound Tryz.prog g (x.v :: [.rp c0, .rp c1, .rp c2]) (.bool (p x))) (hl : l.length < 4611686018427387904) :
    Sound Tryz.prog 32 [.sl .no (l.map fun x => x.c), .fn g [.rp c0, .rp c1, .rp c2]] (.bool (l.any p)) := by
  refine ex_intro mixedT T [] Tryz.func32 rfl (by rw [Tryz.ntmps32]; simp) (by kernel_rfl) ?_
  conv => whnf
  repeat' first | (refine LenG.map ?_; conv => whnf) | (refine LenG.go ?_; conv => whnf)
  repeat' first
    | (refine Br.T ?_; conv => whnf)
    | (refine Br.F ?_; conv => whnf)
    | (refine Br.mk (fun hq => ?_) (fun hq => ?_) <;> conv => whnf)
    | (refine FnG.go rfl ?_; conv => whnf)
    | (refine LenG.map ?_; conv => whnf)
    | (refine LenG.go ?_; conv => whnf)
    | (refine CallG.go (S96_3 hg c0 c1 c2 l p hp hl) ?_; conv => whnf)
  all_goals (refine RetG.one ?_; simp only [ret1, idxOf_any])
theorem S115_1 {g : Nat} (hg : tb.fn g = true) (c0 : List AV) (l : List GReq) (p : GReq → Bool) (hp : ∀ x ∈ l, Sound Tryz.prog g (x.v :: [.rp c0]) (.bool (p x))) (hl : l.length < 4611686018427387904) :
    Sound Tryz.prog 115 [.sl .no (l.map fun x => x.c), .fn g [.rp c0]] (i64 (idxOf p l 0)) := by
  refine ex_intro mixedT T [] Tryz.func115 rfl (by rw [Tryz.ntmps115]; simp) (by kernel_rfl) ?_
  conv => whnf
  repeat' first | (refine LenG.map ?_; conv => whnf) | (refine LenG.go ?_; conv => whnf)
  refine Lp.go T [] (fun i : Nat => [(0, .sl .no (l.map fun x => x.c)), (1, .fn g [.rp c0]), (7, i64 l.length), (8, i64 i)]) (fun _ => []) (fun m i => m + i = l.length ∧ idxOf p l 0 = idxOf p (l.drop i) i) l.length 0 ⟨by simp, by simp⟩ [] ?_ ?_
  · (conv => whnf); refine ⟨rfl, ?_, ?_⟩ <;> (conv => whnf) <;> (repeat' apply And.intro) <;> first | exact True.intro | rfl | (conv => rhs; whnf)
  rintro m i ⟨hm, hi⟩
  conv => whnf
  refine Br.mk (fun hq => ?_) (fun hq => ?_) <;> conv => whnf
  · have hlt : i < l.length := by simpa using hq
    refine Ix.map (x := l[i]) (by omega) (by simp [hlt]) rfl ?_
    conv => whnf
    refine FnG.go hg ?_; conv => whnf
    refine CallG.go (hp _ (List.getElem_mem hlt)) ?_; conv => whnf
    refine Br.mk (fun hp' => ?_) (fun hp' => ?_) <;> conv => whnf
    · refine RetG.one ?_
      rw [hi, List.drop_eq_getElem_cons hlt]
      simp [ret1, idxOf, hp']
    · refine ⟨m - 1, i + 1, by omega, ⟨by omega, ?_⟩, ?_⟩
      · rw [hi, List.drop_eq_getElem_cons hlt]
        simp [idxOf, hp']
      · (conv => whnf); refine ⟨rfl, ?_, ?_⟩ <;> (conv => whnf) <;> (repeat' apply And.intro) <;> first | exact True.intro | rfl | (conv => rhs; whnf)
        exact incr (by omega)
  · have hge : l.length ≤ i := by simpa using hq
    refine RetG.one ?_
    rw [hi, List.drop_eq_nil_of_le hge]
    simp [ret1, idxOf]
theorem S45_1 {g : Nat} (hg : tb.fn g = true) (c0 : List AV) (l : List GReq) (p : GReq → Bool) (hp : ∀ x ∈ l, Sound Tryz.prog g (x.v :: [.rp c0]) (.bool (p x))) (hl : l.length < 4611686018427387904) :
    Sound Tryz.prog 45 [.sl .no (l.map fun x => x.c), .fn g [.rp c0]] (.bool (l.any p)) := by
  refine ex_intro mixedT T [] Tryz.func45 rfl (by rw [Tryz.ntmps45]; simp) (by kernel_rfl) ?_
  conv => whnf
  repeat' first | (refine LenG.map ?_; conv => whnf) | (refine LenG.go ?_; conv => whnf)
  repeat' first
    | (refine Br.T ?_; conv => whnf)
    | (refine Br.F ?_; conv => whnf)
    | (refine Br.mk (fun hq => ?_) (fun hq => ?_) <;> conv => whnf)
    | (refine FnG.go rfl ?_; conv => whnf)
    | (refine LenG.map ?_; conv => whnf)
    | (refine LenG.go ?_; conv => whnf)
    | (refine CallG.go (S115_1 hg c0 l p hp hl) ?_; conv => whnf)
  all_goals (refine RetG.one ?_; simp only [ret1, idxOf_any])
theorem S197_1 {g : Nat} (hg : tb.fn g = true) (c0 : List AV) (l : List GFlow) (p : GFlow → Bool) (hp : ∀ x ∈ l, Sound Tryz.prog g (x.v :: [.rp c0]) (.bool (p x))) (hl : l.length < 4611686018427387904) :
    Sound Tryz.prog 197 [.sl .no (l.map fun x => x.c), .fn g [.rp c0]] (i64 (idxOf p l 0)) := by
  refine ex_intro mixedT T [] Tryz.func197 rfl (by rw [Tryz.ntmps197]; simp) (by kernel_rfl) ?_
  conv => whnf
  repeat' first | (refine LenG.map ?_; conv => whnf) | (refine LenG.go ?_; conv => whnf)
  refine Lp.go T [] (fun i : Nat => [(0, .sl .no (l.map fun x => x.c)), (1, .fn g [.rp c0]), (7, i64 l.length), (8, i64 i)]) (fun _ => []) (fun m i => m + i = l.length ∧ idxOf p l 0 = idxOf p (l.drop i) i) l.length 0 ⟨by simp, by simp⟩ [] ?_ ?_
  · (conv => whnf); refine ⟨rfl, ?_, ?_⟩ <;> (conv => whnf) <;> (repeat' apply And.intro) <;> first | exact True.intro | rfl | (conv => rhs; whnf)
  rintro m i ⟨hm, hi⟩
  conv => whnf
  refine Br.mk (fun hq => ?_) (fun hq => ?_) <;> conv => whnf
  · have hlt : i < l.length := by simpa using hq
    refine Ix.map (x := l[i]) (by omega) (by simp [hlt]) rfl ?_
    conv => whnf
    refine FnG.go hg ?_; conv => whnf
    refine CallG.go (hp _ (List.getElem_mem hlt)) ?_; conv => whnf
    refine Br.mk (fun hp' => ?_) (fun hp' => ?_) <;> conv => whnf
    · refine RetG.one ?_
      rw [hi, List.drop_eq_getElem_cons hlt]
      simp [ret1, idxOf, hp']
    · refine ⟨m - 1, i + 1, by omega, ⟨by omega, ?_⟩, ?_⟩
      · rw [hi, List.drop_eq_getElem_cons hlt]
        simp [idxOf, hp']
      · (conv => whnf); refine ⟨rfl, ?_, ?_⟩ <;> (conv => whnf) <;> (repeat' apply And.intro) <;> first | exact True.intro | rfl | (conv => rhs; whnf)
        exact incr (by omega)
  · have hge : l.length ≤ i := by simpa using hq
    refine RetG.one ?_
    rw [hi, List.drop_eq_nil_of_le hge]
    simp [ret1, idxOf]
theorem S120_1 {g : Nat} (hg : tb.fn g = true) (c0 : List AV) (l : List GFlow) (p : GFlow → Bool) (hp : ∀ x ∈ l, Sound Tryz.prog g (x.v :: [.rp c0]) (.bool (p x))) (hl : l.length < 4611686018427387904) :
    Sound Tryz.prog 120 [.sl .no (l.map fun x => x.c), .fn g [.rp c0]] (.bool (l.any p)) := by
  refine ex_intro mixedT T [] Tryz.func120 rfl (by rw [Tryz.ntmps120]; simp) (by kernel_rfl) ?_
  conv => whnf
  repeat' first | (refine LenG.map ?_; conv => whnf) | (refine LenG.go ?_; conv => whnf)
  repeat' first
    | (refine Br.T ?_; conv => whnf)
    | (refine Br.F ?_; conv => whnf)
    | (refine Br.mk (fun hq => ?_) (fun hq => ?_) <;> conv => whnf)
    | (refine FnG.go rfl ?_; conv => whnf)
    | (refine LenG.map ?_; conv => whnf)
    | (refine LenG.go ?_; conv => whnf)
    | (refine CallG.go (S197_1 hg c0 l p hp hl) ?_; conv => whnf)
  all_goals (refine RetG.one ?_; simp only [ret1, idxOf_any])
theorem S97_1 {g : Nat} (hg : tb.fn g = true) (c0 : List AV) (l : List GClaim) (p : GClaim → Bool) (hp : ∀ x ∈ l, Sound Tryz.prog g (x.v :: [.rp c0]) (.bool (p x))) (hl : l.length < 4611686018427387904) :
    Sound Tryz.prog 97 [.sl .no (l.map fun x => x.c), .fn g [.rp c0]] (i64 (idxOf p l 0)) := by
  refine ex_intro mixedT T [] Tryz.func97 rfl (by rw [Tryz.ntmps97]; simp) (by kernel_rfl) ?_
  conv => whnf
  repeat' first | (refine LenG.map ?_; conv => whnf) | (refine LenG.go ?_; conv => whnf)
  refine Lp.go T [] (fun i : Nat => [(0, .sl .no (l.map fun x => x.c)), (1, .fn g [.rp c0]), (7, i64 l.length), (8, i64 i)]) (fun _ => []) (fun m i => m + i = l.length ∧ idxOf p l 0 = idxOf p (l.drop i) i) l.length 0 ⟨by simp, by simp⟩ [] ?_ ?_
  · (conv => whnf); refine ⟨rfl, ?_, ?_⟩ <;> (conv => whnf) <;> (repeat' apply And.intro) <;> first | exact True.intro | rfl | (conv => rhs; whnf)
  rintro m i ⟨hm, hi⟩
  conv => whnf
  refine Br.mk (fun hq => ?_) (fun hq => ?_) <;> conv => whnf
  · have hlt : i < l.length := by simpa using hq
    refine Ix.map (x := l[i]) (by omega) (by simp [hlt]) rfl ?_
    conv => whnf
    refine FnG.go hg ?_; conv => whnf
    refine CallG.go (hp _ (List.getElem_mem hlt)) ?_; conv => whnf
    refine Br.mk (fun hp' => ?_) (fun hp' => ?_) <;> conv => whnf
    · refine RetG.one ?_
      rw [hi, List.drop_eq_getElem_cons hlt]
      simp [ret1, idxOf, hp']
    · refine ⟨m - 1, i + 1, by omega, ⟨by omega, ?_⟩, ?_⟩
      · rw [hi, List.drop_eq_getElem_cons hlt]
        simp [idxOf, hp']
      · (conv => whnf); refine ⟨rfl, ?_, ?_⟩ <;> (conv => whnf) <;> (repeat' apply And.intro) <;> first | exact True.intro | rfl | (conv => rhs; whnf)
        exact incr (by omega)
  · have hge : l.length ≤ i := by simpa using hq
    refine RetG.one ?_
    rw [hi, List.drop_eq_nil_of_le hge]
    simp [ret1, idxOf]
theorem S34_1 {g : Nat} (hg : tb.fn g = true) (c0 : List AV) (l : List GClaim) (p : GClaim → Bool) (hp : ∀ x ∈ l, Sound Tryz.prog g (x.v :: [.rp c0]) (.bool (p x))) (hl : l.length < 4611686018427387904) :
    Sound Tryz.prog 34 [.sl .no (l.map fun x => x.c), .fn g [.rp c0]] (.bool (l.any p)) := by
  refine ex_intro mixedT T [] Tryz.func34 rfl (by rw [Tryz.ntmps34]; simp) (by kernel_rfl) ?_
  conv => whnf
  repeat' first | (refine LenG.map ?_; conv => whnf) | (refine LenG.go ?_; conv => whnf)
  repeat' first
    | (refine Br.T ?_; conv => whnf)
    | (refine Br.F ?_; conv => whnf)
    | (refine Br.mk (fun hq => ?_) (fun hq => ?_) <;> conv => whnf)
    | (refine FnG.go rfl ?_; conv => whnf)
    | (refine LenG.map ?_; conv => whnf)
    | (refine LenG.go ?_; conv => whnf)
    | (refine CallG.go (S97_1 hg c0 l p hp hl) ?_; conv => whnf)
  all_goals (refine RetG.one ?_; simp only [ret1, idxOf_any])
theorem S317_1 {g : Nat} (hg : tb.fn g = true) (c0 : List AV) (l : List Int) (p : Int → Bool) (hp : ∀ x ∈ l, Sound Tryz.prog g (i64 x :: [.rp c0]) (.bool (p x))) (hl : l.length < 4611686018427387904) :
    Sound Tryz.prog 317 [.sl .no (l.map fun x => [i64 x]), .fn g [.rp c0]] (i64 (idxOf p l 0)) := by
  refine ex_intro mixedT T [] Tryz.func317 rfl (by rw [Tryz.ntmps317]; simp) (by kernel_rfl) ?_
  conv => whnf
  repeat' first | (refine LenG.map ?_; conv => whnf) | (refine LenG.go ?_; conv => whnf)
  refine Lp.go T [] (fun i : Nat => [(0, .sl .no (l.map fun x => [i64 x])), (1, .fn g [.rp c0]), (7, i64 l.length), (8, i64 i)]) (fun _ => []) (fun m i => m + i = l.length ∧ idxOf p l 0 = idxOf p (l.drop i) i) l.length 0 ⟨by simp, by simp⟩ [] ?_ ?_
  · (conv => whnf); refine ⟨rfl, ?_, ?_⟩ <;> (conv => whnf) <;> (repeat' apply And.intro) <;> first | exact True.intro | rfl | (conv => rhs; whnf)
  rintro m i ⟨hm, hi⟩
  conv => whnf
  refine Br.mk (fun hq => ?_) (fun hq => ?_) <;> conv => whnf
  · have hlt : i < l.length := by simpa using hq
    refine Ix.map (x := l[i]) (by omega) (by simp [hlt]) rfl ?_
    conv => whnf
    refine FnG.go hg ?_; conv => whnf
    refine CallG.go (hp _ (List.getElem_mem hlt)) ?_; conv => whnf
    refine Br.mk (fun hp' => ?_) (fun hp' => ?_) <;> conv => whnf
    · refine RetG.one ?_
      rw [hi, List.drop_eq_getElem_cons hlt]
      simp [ret1, idxOf, hp']
    · refine ⟨m - 1, i + 1, by omega, ⟨by omega, ?_⟩, ?_⟩
      · rw [hi, List.drop_eq_getElem_cons hlt]
        simp [idxOf, hp']
      · (conv => whnf); refine ⟨rfl, ?_, ?_⟩ <;> (conv => whnf) <;> (repeat' apply And.intro) <;> first | exact True.intro | rfl | (conv => rhs; whnf)
        exact incr (by omega)
  · have hge : l.length ≤ i := by simpa using hq
    refine RetG.one ?_
    rw [hi, List.drop_eq_nil_of_le hge]
    simp [ret1, idxOf]
theorem S303_1 {g : Nat} (hg : tb.fn g = true) (c0 : List AV) (l : List Int) (p : Int → Bool) (hp : ∀ x ∈ l, Sound Tryz.prog g (i64 x :: [.rp c0]) (.bool (p x))) (hl : l.length < 4611686018427387904) :
    Sound Tryz.prog 303 [.sl .no (l.map fun x => [i64 x]), .fn g [.rp c0]] (.bool (l.any p)) := by
  refine ex_intro mixedT T [] Tryz.func303 rfl (by rw [Tryz.ntmps303]; simp) (by kernel_rfl) ?_
  conv => whnf
  repeat' first | (refine LenG.map ?_; conv => whnf) | (refine LenG.go ?_; conv => whnf)
  repeat' first
    | (refine Br.T ?_; conv => whnf)
    | (refine Br.F ?_; conv => whnf)
    | (refine Br.mk (fun hq => ?_) (fun hq => ?_) <;> conv => whnf)
    | (refine FnG.go rfl ?_; conv => whnf)
    | (refine LenG.map ?_; conv => whnf)
    | (refine LenG.go ?_; conv => whnf)
    | (refine CallG.go (S317_1 hg c0 l p hp hl) ?_; conv => whnf)
  all_goals (refine RetG.one ?_; simp only [ret1, idxOf_any])
/-- The binary search: the first index at which f is false, if f is so. -/
def bsGo (f : Nat → Bool) (lo hi : Nat) : Nat :=
  if h : lo < hi then (if f ((lo + hi) / 2) = true then bsGo f ((lo + hi) / 2 + 1) hi else bsGo f lo ((lo + hi) / 2)) else lo
termination_by hi - lo
def bsI {α : Type} [Inhabited α] (c : α → Int) (l : List α) : Nat := bsGo (fun k => decide (c (gd l k) < 0)) 0 l.length
def bsB {α : Type} [Inhabited α] (c : α → Int) (l : List α) : Bool := decide (bsI c l < l.length) && c (gd l (bsI c l)) == 0
theorem mid_eq {lo hi : Nat} (h : lo + hi < 9223372036854775808) : IntKind.i64.wrap (Int.fdiv (IntKind.u64.wrap (IntKind.i64.wrap ((lo : Int) + (hi : Int)))) (2 ^ min (Int.toNat 1) IntKind.u64.bits)) = (((lo + hi) / 2 : Nat) : Int) := by
  have e1 : IntKind.i64.wrap ((lo : Int) + (hi : Int)) = ((lo + hi : Nat) : Int) := by rw [w64 (by omega)]; omega
  have e2 : IntKind.u64.wrap ((lo + hi : Nat) : Int) = ((lo + hi : Nat) : Int) := by
    unfold IntKind.wrap
    simp only [IntKind.bits, IntKind.signed]
    simp
    omega
  rw [e1, e2]
  have e3 : (2 : Int) ^ min (Int.toNat 1) IntKind.u64.bits = 2 := by decide
  rw [e3, Int.fdiv_eq_ediv_of_nonneg _ (by omega), w64 (by omega)]
  omega
theorem S109 {g : Nat} (hg : tb.fn g = true) (l : List GCell) (x : GCell) (c : GCell → Int) (hc : ∀ y ∈ l, Sound Tryz.prog g [y.v, x.v] (i64 (c y))) (hl : Cn l) :
    Sound Tryz.prog 109 [.sl .no (l.map fun x => x.c), x.v, .fn g []] (.tup [i64 (bsI c l), .bool (bsB c l)]) := by
  refine ex_intro mixedT T [] Tryz.func109 rfl (by rw [Tryz.ntmps109]; simp) (by kernel_rfl) ?_
  conv => whnf
  repeat' first | (refine LenG.map ?_; conv => whnf) | (refine LenG.go ?_; conv => whnf)
  refine Lp.go T [.t 4] (fun (a : Nat × Nat) => match a with | (lo, hi) => [(0, .sl .no (l.map fun x => x.c)), (2, .fn g []), (4, .op 0 0), (8, i64 l.length), (9, i64 lo), (10, i64 hi)]) (fun _ => [.box x.c]) (fun m a => m = a.2 - a.1 ∧ a.1 ≤ a.2 ∧ a.2 ≤ l.length ∧ bsI c l = bsGo (fun k => decide (c (gd l k) < 0)) a.1 a.2) l.length (0, l.length) ⟨by simp, by simp, by simp, rfl⟩ [.t 4] ?_ ?_
  · (conv => whnf); refine ⟨rfl, ?_, ?_⟩ <;> (conv => whnf) <;> (repeat' apply And.intro) <;> first | exact True.intro | rfl | (conv => rhs; whnf)
  rintro m ⟨lo, hi⟩ ⟨hm, h1, h2, h3⟩
  simp only at hm h1 h2 h3
  conv => whnf
  refine Br.mk (fun hq => ?_) (fun hq => ?_) <;> conv => whnf
  · have hlt : lo < hi := by simpa using hq
    refine Nd.go (by decide) ?_; conv => whnf
    rw [mid_eq (by omega)]
    rw [bsGo, dif_pos hlt] at h3
    refine Ix.at (l := l) (by omega) rfl ?_; conv => whnf
    refine FnG.go hg ?_; conv => whnf
    refine CallG.go (hc _ (gd_mem (by omega))) ?_; conv => whnf
    refine Br.mk (fun hq => ?_) (fun hq => ?_) <;> conv => whnf
    · rw [if_pos hq] at h3
      refine ⟨hi - ((lo + hi) / 2 + 1), ((lo + hi) / 2 + 1, hi), by omega, ⟨rfl, by simp only; omega, h2, h3⟩, ?_⟩
      (conv => whnf); refine ⟨rfl, ?_, ?_⟩ <;> (conv => whnf) <;> (repeat' apply And.intro) <;> first | exact True.intro | rfl | (conv => rhs; whnf)
      exact incr (by omega)
    · rw [if_neg (by rw [hq]; simp)] at h3
      refine ⟨(lo + hi) / 2 - lo, (lo, (lo + hi) / 2), by omega, ⟨rfl, by simp only; omega, by simp only; omega, h3⟩, ?_⟩
      (conv => whnf); refine ⟨rfl, ?_, ?_⟩ <;> (conv => whnf) <;> (repeat' apply And.intro) <;> first | exact True.intro | rfl | (conv => rhs; whnf)
  · have hge : ¬ lo < hi := by simpa using hq
    rw [bsGo, dif_neg hge] at h3
    refine Br.mk (fun hq => ?_) (fun hq => ?_) <;> conv => whnf
    · have hlt : lo < l.length := by simpa using hq
      refine Ix.at (l := l) hlt rfl ?_; conv => whnf
      refine FnG.go hg ?_; conv => whnf
      refine CallG.go (hc _ (gd_mem hlt)) ?_; conv => whnf
      refine RetG.two (by rw [h3]; rfl) ?_
      simp [ret1, bsB, h3, hlt]
    · have hlt : ¬ lo < l.length := by simpa using hq
      refine RetG.two (by rw [h3]; rfl) ?_
      simp [ret1, bsB, h3]
      omega
theorem S172 {g : Nat} (hg : tb.fn g = true) (l : List GReq) (x : GReq) (c : GReq → Int) (hc : ∀ y ∈ l, Sound Tryz.prog g [y.v, x.v] (i64 (c y))) (hl : Cn l) :
    Sound Tryz.prog 172 [.sl .no (l.map fun x => x.c), x.v, .fn g []] (.tup [i64 (bsI c l), .bool (bsB c l)]) := by
  refine ex_intro mixedT T [] Tryz.func172 rfl (by rw [Tryz.ntmps172]; simp) (by kernel_rfl) ?_
  conv => whnf
  repeat' first | (refine LenG.map ?_; conv => whnf) | (refine LenG.go ?_; conv => whnf)
  refine Lp.go T [.t 4] (fun (a : Nat × Nat) => match a with | (lo, hi) => [(0, .sl .no (l.map fun x => x.c)), (2, .fn g []), (4, .op 0 0), (8, i64 l.length), (9, i64 lo), (10, i64 hi)]) (fun _ => [.box x.c]) (fun m a => m = a.2 - a.1 ∧ a.1 ≤ a.2 ∧ a.2 ≤ l.length ∧ bsI c l = bsGo (fun k => decide (c (gd l k) < 0)) a.1 a.2) l.length (0, l.length) ⟨by simp, by simp, by simp, rfl⟩ [.t 4] ?_ ?_
  · (conv => whnf); refine ⟨rfl, ?_, ?_⟩ <;> (conv => whnf) <;> (repeat' apply And.intro) <;> first | exact True.intro | rfl | (conv => rhs; whnf)
  rintro m ⟨lo, hi⟩ ⟨hm, h1, h2, h3⟩
  simp only at hm h1 h2 h3
  conv => whnf
  refine Br.mk (fun hq => ?_) (fun hq => ?_) <;> conv => whnf
  · have hlt : lo < hi := by simpa using hq
    refine Nd.go (by decide) ?_; conv => whnf
    rw [mid_eq (by omega)]
    rw [bsGo, dif_pos hlt] at h3
    refine Ix.at (l := l) (by omega) rfl ?_; conv => whnf
    refine FnG.go hg ?_; conv => whnf
    refine CallG.go (hc _ (gd_mem (by omega))) ?_; conv => whnf
    refine Br.mk (fun hq => ?_) (fun hq => ?_) <;> conv => whnf
    · rw [if_pos hq] at h3
      refine ⟨hi - ((lo + hi) / 2 + 1), ((lo + hi) / 2 + 1, hi), by omega, ⟨rfl, by simp only; omega, h2, h3⟩, ?_⟩
      (conv => whnf); refine ⟨rfl, ?_, ?_⟩ <;> (conv => whnf) <;> (repeat' apply And.intro) <;> first | exact True.intro | rfl | (conv => rhs; whnf)
      exact incr (by omega)
    · rw [if_neg (by rw [hq]; simp)] at h3
      refine ⟨(lo + hi) / 2 - lo, (lo, (lo + hi) / 2), by omega, ⟨rfl, by simp only; omega, by simp only; omega, h3⟩, ?_⟩
      (conv => whnf); refine ⟨rfl, ?_, ?_⟩ <;> (conv => whnf) <;> (repeat' apply And.intro) <;> first | exact True.intro | rfl | (conv => rhs; whnf)
  · have hge : ¬ lo < hi := by simpa using hq
    rw [bsGo, dif_neg hge] at h3
    refine Br.mk (fun hq => ?_) (fun hq => ?_) <;> conv => whnf
    · have hlt : lo < l.length := by simpa using hq
      refine Ix.at (l := l) hlt rfl ?_; conv => whnf
      refine FnG.go hg ?_; conv => whnf
      refine CallG.go (hc _ (gd_mem hlt)) ?_; conv => whnf
      refine RetG.two (by rw [h3]; rfl) ?_
      simp [ret1, bsB, h3, hlt]
    · have hlt : ¬ lo < l.length := by simpa using hq
      refine RetG.two (by rw [h3]; rfl) ?_
      simp [ret1, bsB, h3]
      omega
theorem S237 {g : Nat} (hg : tb.fn g = true) (l : List GLink) (x : GLink) (c : GLink → Int) (hc : ∀ y ∈ l, Sound Tryz.prog g [y.v, x.v] (i64 (c y))) (hl : Cn l) :
    Sound Tryz.prog 237 [.sl .no (l.map fun x => x.c), x.v, .fn g []] (.tup [i64 (bsI c l), .bool (bsB c l)]) := by
  refine ex_intro mixedT T [] Tryz.func237 rfl (by rw [Tryz.ntmps237]; simp) (by kernel_rfl) ?_
  conv => whnf
  repeat' first | (refine LenG.map ?_; conv => whnf) | (refine LenG.go ?_; conv => whnf)
  refine Lp.go T [.t 4] (fun (a : Nat × Nat) => match a with | (lo, hi) => [(0, .sl .no (l.map fun x => x.c)), (2, .fn g []), (4, .op 0 0), (8, i64 l.length), (9, i64 lo), (10, i64 hi)]) (fun _ => [.box x.c]) (fun m a => m = a.2 - a.1 ∧ a.1 ≤ a.2 ∧ a.2 ≤ l.length ∧ bsI c l = bsGo (fun k => decide (c (gd l k) < 0)) a.1 a.2) l.length (0, l.length) ⟨by simp, by simp, by simp, rfl⟩ [.t 4] ?_ ?_
  · (conv => whnf); refine ⟨rfl, ?_, ?_⟩ <;> (conv => whnf) <;> (repeat' apply And.intro) <;> first | exact True.intro | rfl | (conv => rhs; whnf)
  rintro m ⟨lo, hi⟩ ⟨hm, h1, h2, h3⟩
  simp only at hm h1 h2 h3
  conv => whnf
  refine Br.mk (fun hq => ?_) (fun hq => ?_) <;> conv => whnf
  · have hlt : lo < hi := by simpa using hq
    refine Nd.go (by decide) ?_; conv => whnf
    rw [mid_eq (by omega)]
    rw [bsGo, dif_pos hlt] at h3
    refine Ix.at (l := l) (by omega) rfl ?_; conv => whnf
    refine FnG.go hg ?_; conv => whnf
    refine CallG.go (hc _ (gd_mem (by omega))) ?_; conv => whnf
    refine Br.mk (fun hq => ?_) (fun hq => ?_) <;> conv => whnf
    · rw [if_pos hq] at h3
      refine ⟨hi - ((lo + hi) / 2 + 1), ((lo + hi) / 2 + 1, hi), by omega, ⟨rfl, by simp only; omega, h2, h3⟩, ?_⟩
      (conv => whnf); refine ⟨rfl, ?_, ?_⟩ <;> (conv => whnf) <;> (repeat' apply And.intro) <;> first | exact True.intro | rfl | (conv => rhs; whnf)
      exact incr (by omega)
    · rw [if_neg (by rw [hq]; simp)] at h3
      refine ⟨(lo + hi) / 2 - lo, (lo, (lo + hi) / 2), by omega, ⟨rfl, by simp only; omega, by simp only; omega, h3⟩, ?_⟩
      (conv => whnf); refine ⟨rfl, ?_, ?_⟩ <;> (conv => whnf) <;> (repeat' apply And.intro) <;> first | exact True.intro | rfl | (conv => rhs; whnf)
  · have hge : ¬ lo < hi := by simpa using hq
    rw [bsGo, dif_neg hge] at h3
    refine Br.mk (fun hq => ?_) (fun hq => ?_) <;> conv => whnf
    · have hlt : lo < l.length := by simpa using hq
      refine Ix.at (l := l) hlt rfl ?_; conv => whnf
      refine FnG.go hg ?_; conv => whnf
      refine CallG.go (hc _ (gd_mem hlt)) ?_; conv => whnf
      refine RetG.two (by rw [h3]; rfl) ?_
      simp [ret1, bsB, h3, hlt]
    · have hlt : ¬ lo < l.length := by simpa using hq
      refine RetG.two (by rw [h3]; rfl) ?_
      simp [ret1, bsB, h3]
      omega
/-! ### what the functions compute -/
def cmpLink (a b : GLink) : Int := orI [cmpI a.from_ b.from_, cmpI a.to_ b.to_]
def GNet.pw (n : GNet) (a b : Int) : Int := gi (gi n.power a) b
def isNode (n : GNet) (a : Int) : Bool := decide (0 ≤ a) && decide (a < n.nodes)
def powErr (n : GNet) : Int :=
  if (n.power.length : Int) != n.nodes || n.power.any (fun r => (r.length : Int) != n.nodes) then 1
  else if n.power.any (fun r => r.any fun p => decide (p < 0) || decide (p > 68719476736)) then 2 else 0
def linkErr (n : GNet) (prev : Option GLink) (l : GLink) (m : Int) : Int :=
  if !isNode n l.from_ || !isNode n l.to_ || l.from_ == l.to_ || decide (l.loss < 0) || decide (l.loss > 7) then 2
  else if (match prev with | some p => decide (cmpLink p l ≥ 0) | none => false) then 5
  else if decide (m < 0) || decide (m > n.pw l.from_ l.to_) then 2 else 0
def linkErrAt (n : GNet) (i : Nat) : Int := linkErr n (if decide ((i : Int) > 0) then some (gd n.links (i - 1)) else none) (gd n.links i) (gd n.margin i)
/-- The first that is not 0, of n from i on. -/
def scan (f : Nat → Int) : Nat → Nat → Int
  | 0, _ => 0
  | n + 1, i => if f i != 0 then f i else scan f n (i + 1)
def netErr (n : GNet) : Int :=
  if decide (n.nodes < 2) || decide (n.nodes > 32) then 2
  else if powErr n != 0 then powErr n
  else if decide (n.noise < 0) || decide (n.noise > 68719476736) || decide (n.thr < 1000) || decide (n.thr > 100000) then 2
  else if decide ((n.links.length : Int) > 128) then 8
  else if (n.margin.length : Int) != n.links.length then 11
  else scan (linkErrAt n) n.links.length 0
structure PowOk (n : GNet) : Prop where
  len : (n.power.length : Int) = n.nodes
  row : ∀ r ∈ n.power, (r.length : Int) = n.nodes
/-! ### network.Check -/
theorem S233 (a b : GLink) : Sound Tryz.prog 233 [a.v, b.v] (i64 (cmpLink a b)) := by
  refine ex_intro mixedT T [] Tryz.func233 rfl (by rw [Tryz.ntmps233]; simp) (by kernel_rfl) ?_
  conv => whnf
  repeat' first | (refine LenG.map ?_; conv => whnf) | (refine LenG.go ?_; conv => whnf)
  repeat' first
    | (refine Br.T ?_; conv => whnf)
    | (refine Br.F ?_; conv => whnf)
    | (refine Br.mk (fun hq => ?_) (fun hq => ?_) <;> conv => whnf)
    | (refine FnG.go rfl ?_; conv => whnf)
    | (refine LenG.map ?_; conv => whnf)
    | (refine LenG.go ?_; conv => whnf)
    | (refine CallG.go (S174 _ _) ?_; conv => whnf)
    | (refine CallG.go (S186 [_, _] (by simp)) ?_; conv => whnf)
  all_goals (exact RetG.one rfl)
theorem S229 (x : Int) : Sound Tryz.prog 229 [i64 x] (.bool (decide (x < 0) || decide (x > 68719476736))) := by
  refine ex_intro mixedT T [] Tryz.func229 rfl (by rw [Tryz.ntmps229]; simp) (by kernel_rfl) ?_
  conv => whnf
  repeat' first | (refine LenG.map ?_; conv => whnf) | (refine LenG.go ?_; conv => whnf)
  repeat' first
    | (refine Br.T ?_; conv => whnf)
    | (refine Br.F ?_; conv => whnf)
    | (refine Br.mk (fun hq => ?_) (fun hq => ?_) <;> conv => whnf)
    | (refine FnG.go rfl ?_; conv => whnf)
    | (refine LenG.map ?_; conv => whnf)
    | (refine LenG.go ?_; conv => whnf)
  all_goals first
    | (refine RetG.one ?_; (try simp only [Bool.not_eq_true', Bool.not_eq_false'] at *); simp only [ret1, *, Bool.true_or, Bool.false_or, Bool.or_true, Bool.or_false, Bool.true_and, Bool.false_and, Bool.and_true, Bool.and_false, Bool.not_true, Bool.not_false, if_true, if_false, Bool.false_eq_true, reduceIte]; done)
    | (refine RetG.one ?_; simp_all [ret1] <;> omega)
theorem S228 (n : GNet) (r : List Int) : Sound Tryz.prog 228 [intsV r, .rp n.c] (.bool ((r.length : Int) != n.nodes)) := by
  refine ex_intro mixedT T [] Tryz.func228 rfl (by rw [Tryz.ntmps228]; simp) (by kernel_rfl) ?_
  conv => whnf
  repeat' first | (refine LenG.map ?_; conv => whnf) | (refine LenG.go ?_; conv => whnf)
  repeat' first
    | (refine Br.T ?_; conv => whnf)
    | (refine Br.F ?_; conv => whnf)
    | (refine Br.mk (fun hq => ?_) (fun hq => ?_) <;> conv => whnf)
    | (refine FnG.go rfl ?_; conv => whnf)
    | (refine LenG.map ?_; conv => whnf)
    | (refine LenG.go ?_; conv => whnf)
  all_goals (refine RetG.one ?_; simp_all [ret1])
theorem S230 (r : List Int) (hr : Cn r) : Sound Tryz.prog 230 [intsV r, .rp [.fn 229 []]] (.bool (r.any fun p => decide (p < 0) || decide (p > 68719476736))) := by
  refine ex_intro mixedT T [] Tryz.func230 rfl (by rw [Tryz.ntmps230]; simp) (by kernel_rfl) ?_
  conv => whnf
  repeat' first | (refine LenG.map ?_; conv => whnf) | (refine LenG.go ?_; conv => whnf)
  repeat' first
    | (refine Br.T ?_; conv => whnf)
    | (refine Br.F ?_; conv => whnf)
    | (refine Br.mk (fun hq => ?_) (fun hq => ?_) <;> conv => whnf)
    | (refine FnG.go rfl ?_; conv => whnf)
    | (refine LenG.map ?_; conv => whnf)
    | (refine LenG.go ?_; conv => whnf)
    | (refine CallG.go (S231_0 (g := 229) rfl r _ (fun x _ => S229 x) hr) ?_; conv => whnf)
  all_goals (exact RetG.one rfl)
theorem S155 (n : GNet) (hn : n.ok) : Sound Tryz.prog 155 [n.v] (i64 (powErr n)) := by
  refine ex_intro mixedT T [] Tryz.func155 rfl (by rw [Tryz.ntmps155]; simp) (by kernel_rfl) ?_
  conv => whnf
  repeat' first | (refine LenG.map ?_; conv => whnf) | (refine LenG.go ?_; conv => whnf)
  repeat' first
    | (refine Br.T ?_; conv => whnf)
    | (refine Br.F ?_; conv => whnf)
    | (refine Br.mk (fun hq => ?_) (fun hq => ?_) <;> conv => whnf)
    | (refine FnG.go rfl ?_; conv => whnf)
    | (refine LenG.map ?_; conv => whnf)
    | (refine LenG.go ?_; conv => whnf)
    | (refine CallG.go (S227_1 (g := 228) rfl n.c n.power _ (fun x _ => S228 n x) hn.power) ?_; conv => whnf)
    | (refine CallG.go (S227_1 (g := 230) rfl [.fn 229 []] n.power _ (fun x hx => S230 x (hn.rows x hx)) hn.power) ?_; conv => whnf)
  all_goals (refine RetG.one ?_; (try simp only [Bool.not_eq_true', Bool.not_eq_false'] at *); (try delta powErr); simp only [ret1, *, Bool.true_or, Bool.false_or, Bool.or_true, Bool.or_false, Bool.true_and, Bool.false_and, Bool.and_true, Bool.and_false, Bool.not_true, Bool.not_false, if_true, if_false, Bool.false_eq_true, reduceIte])
theorem S232 (n : GNet) (a : Int) : Sound Tryz.prog 232 [i64 a, .rp n.c] (.bool (isNode n a)) := by
  refine ex_intro mixedT T [] Tryz.func232 rfl (by rw [Tryz.ntmps232]; simp) (by kernel_rfl) ?_
  conv => whnf
  repeat' first | (refine LenG.map ?_; conv => whnf) | (refine LenG.go ?_; conv => whnf)
  repeat' first
    | (refine Br.T ?_; conv => whnf)
    | (refine Br.F ?_; conv => whnf)
    | (refine Br.mk (fun hq => ?_) (fun hq => ?_) <;> conv => whnf)
    | (refine FnG.go rfl ?_; conv => whnf)
    | (refine LenG.map ?_; conv => whnf)
    | (refine LenG.go ?_; conv => whnf)
  all_goals first
    | (refine RetG.one ?_; (try simp only [Bool.not_eq_true', Bool.not_eq_false'] at *); (try delta isNode); simp only [ret1, *, Bool.true_or, Bool.false_or, Bool.or_true, Bool.or_false, Bool.true_and, Bool.false_and, Bool.and_true, Bool.and_false, Bool.not_true, Bool.not_false, if_true, if_false, Bool.false_eq_true, reduceIte]; done)
    | (refine RetG.one ?_; simp_all [isNode, ret1] <;> omega)
theorem pw_row {n : GNet} (hp : PowOk n) {a : Int} (ha : (!isNode n a) = false) : 0 ≤ a ∧ a.toNat < n.power.length := by
  have := hp.len
  simp [isNode] at ha
  omega
theorem pw_col {n : GNet} (hp : PowOk n) {a b : Int} (ha : (!isNode n a) = false) (hb : (!isNode n b) = false) : 0 ≤ b ∧ b.toNat < (gi n.power a).length := by
  have h3 := hp.row _ (gd_mem (pw_row hp ha).2)
  simp [isNode] at hb
  change 0 ≤ b ∧ b.toNat < (gd n.power a.toNat).length
  omega
theorem S156 (n : GNet) (hn : n.ok) (i : Nat) (hi : i < n.links.length) (hml : n.margin.length = n.links.length) (hp : PowOk n) : Sound Tryz.prog 156 [n.v, i64 i] (i64 (linkErrAt n i)) := by
  have hl := hn.links
  have hmi : i < n.margin.length := by omega
  refine ex_intro mixedT T [] Tryz.func156 rfl (by rw [Tryz.ntmps156]; simp) (by kernel_rfl) ?_
  conv => whnf
  repeat' first | (refine LenG.map ?_; conv => whnf) | (refine LenG.go ?_; conv => whnf)
  repeat' first
    | (refine Br.T ?_; conv => whnf)
    | (refine Br.F ?_; conv => whnf)
    | (refine Br.mk (fun hq => ?_) (fun hq => ?_) <;> conv => whnf)
    | (refine FnG.go rfl ?_; conv => whnf)
    | (refine LenG.map ?_; conv => whnf)
    | (refine LenG.go ?_; conv => whnf)
    | (refine CallG.go (S232 n _) ?_; conv => whnf)
    | (refine CallG.go (S233 (gd n.links (i - 1)) (gd n.links i)) ?_; conv => whnf)
    | (refine Ix.at (l := n.links) hi rfl ?_; conv => whnf)
    | (refine Ix.at (l := n.margin) hmi rfl ?_; conv => whnf)
    | (refine Ix.pred (l := n.links) (by simp_all) hi hl rfl ?_; conv => whnf)
    | (refine Ix.int (l := n.power) (pw_row hp (by assumption)) rfl ?_; conv => whnf)
    | (refine Ix.int (l := gi n.power _) (pw_col hp (a := (gd n.links i).from_) (by assumption) (by assumption)) rfl ?_; conv => whnf)
  all_goals (refine RetG.one ?_; (try simp only [Bool.not_eq_true', Bool.not_eq_false'] at *); (try delta linkErrAt linkErr GNet.pw); simp only [ret1, *, Bool.true_or, Bool.false_or, Bool.or_true, Bool.or_false, Bool.true_and, Bool.false_and, Bool.and_true, Bool.and_false, Bool.not_true, Bool.not_false, if_true, if_false, Bool.false_eq_true, reduceIte])
theorem powOk_of {n : GNet} (h : powErr n = 0) : PowOk n := by
  unfold powErr at h
  split at h
  · cases h
  · rename_i hq
    simp only [Bool.or_eq_true, not_or, bne_iff_ne, ne_eq, Decidable.not_not, List.any_eq_true, not_exists, not_and] at hq
    exact ⟨hq.1, hq.2⟩
theorem S71 (n : GNet) (hn : n.ok) : Sound Tryz.prog 71 [n.v] (i64 (netErr n)) := by
  refine ex_intro mixedT T [] Tryz.func71 rfl (by rw [Tryz.ntmps71]; simp) (by kernel_rfl) ?_
  conv => whnf
  repeat' first | (refine LenG.map ?_; conv => whnf) | (refine LenG.go ?_; conv => whnf)
  repeat' first
    | (refine Br.T ?_; conv => whnf)
    | (refine Br.F ?_; conv => whnf)
    | (refine Br.mk (fun hq => ?_) (fun hq => ?_) <;> conv => whnf)
    | (refine FnG.go rfl ?_; conv => whnf)
    | (refine LenG.map ?_; conv => whnf)
    | (refine LenG.go ?_; conv => whnf)
    | (refine CallG.go (S155 n hn) ?_; conv => whnf)
  all_goals try (refine RetG.one ?_; try delta netErr; simp only [ret1, *, Bool.true_or, Bool.false_or, Bool.or_true, Bool.or_false, Bool.true_and, Bool.false_and, Bool.and_true, Bool.and_false, Bool.not_true, Bool.not_false, if_true, if_false, Bool.false_eq_true, reduceIte]; done)
  have h0 : netErr n = scan (linkErrAt n) n.links.length 0 := by delta netErr; simp only [*, Bool.true_or, Bool.false_or, Bool.or_true, Bool.or_false, Bool.true_and, Bool.false_and, Bool.and_true, Bool.and_false, Bool.not_true, Bool.not_false, if_true, if_false, Bool.false_eq_true, reduceIte]
  have hp : PowOk n := powOk_of (by simp_all)
  have hml : n.margin.length = n.links.length := by simp at hq; omega
  have hl := hn.links
  refine Lp.go T [.t 1] (fun i : Nat => [(1, .op 0 0), (53, i64 n.links.length), (54, i64 i)]) (fun _ => [.box n.c]) (fun m i => m + i = n.links.length ∧ netErr n = scan (linkErrAt n) m i) n.links.length 0 ⟨by simp, h0⟩ [.t 1] ?_ ?_
  · (conv => whnf); refine ⟨rfl, ?_, ?_⟩ <;> (conv => whnf) <;> (repeat' apply And.intro) <;> first | exact True.intro | rfl | (conv => rhs; whnf)
  rintro m i ⟨hm, hi⟩
  conv => whnf
  refine Br.mk (fun hq => ?_) (fun hq => ?_) <;> conv => whnf
  · have hlt : i < n.links.length := by simpa using hq
    obtain ⟨m, rfl⟩ : ∃ q, m = q + 1 := ⟨m - 1, by omega⟩
    rw [scan] at hi
    repeat' first
      | (refine Br.T ?_; conv => whnf)
      | (refine Br.F ?_; conv => whnf)
      | (refine Br.mk (fun hq => ?_) (fun hq => ?_) <;> conv => whnf)
      | (refine FnG.go rfl ?_; conv => whnf)
      | (refine LenG.map ?_; conv => whnf)
      | (refine LenG.go ?_; conv => whnf)
      | (refine CallG.go (S156 n hn i hlt hml hp) ?_; conv => whnf)
    · refine RetG.one ?_
      simp_all [ret1]
    · refine ⟨m, i + 1, by omega, ⟨by omega, by simp_all⟩, ?_⟩
      (conv => whnf); refine ⟨rfl, ?_, ?_⟩ <;> (conv => whnf) <;> (repeat' apply And.intro) <;> first | exact True.intro | rfl | (conv => rhs; whnf)
      exact incr (by omega)
  · have : n.links.length ≤ i := by simpa using hq
    obtain rfl : m = 0 := by omega
    refine RetG.one ?_
    rw [hi]; rfl
abbrev inI (n lo hi : Int) : Bool := decide (n ≥ lo) && decide (n ≤ hi)
theorem S112 (a b c : Int) : Sound Tryz.prog 112 [i64 a, i64 b, i64 c] (.bool (inI a b c)) := by
  refine ex_intro mixedT T [] Tryz.func112 rfl (by rw [Tryz.ntmps112]; simp) (by kernel_rfl) ?_
  conv => whnf
  repeat' first | (refine LenG.map ?_; conv => whnf) | (refine LenG.go ?_; conv => whnf)
  repeat' first
    | (refine Br.T ?_; conv => whnf)
    | (refine Br.F ?_; conv => whnf)
    | (refine Br.mk (fun hq => ?_) (fun hq => ?_) <;> conv => whnf)
    | (refine FnG.go rfl ?_; conv => whnf)
    | (refine LenG.map ?_; conv => whnf)
    | (refine LenG.go ?_; conv => whnf)
  all_goals (refine RetG.one ?_; (try simp only [Bool.not_eq_true', Bool.not_eq_false'] at *); (try delta inI); simp only [ret1, *, Bool.true_or, Bool.false_or, Bool.or_true, Bool.or_false, Bool.true_and, Bool.false_and, Bool.and_true, Bool.and_false, Bool.not_true, Bool.not_false, if_true, if_false, Bool.false_eq_true, reduceIte])
theorem any_drop {α : Type} [Inhabited α] (p : α → Bool) {l : List α} {i : Nat} (h : i < l.length) : (l.drop i).any p = (p (gd l i) || (l.drop (i + 1)).any p) := by
  have e : gd l i = l[i] := by simp [gd, List.getD, h]
  rw [List.drop_eq_getElem_cons h, List.any_cons, e]
theorem any_end {α : Type} (p : α → Bool) {l : List α} {i : Nat} (h : l.length ≤ i) : (l.drop i).any p = false := by rw [List.drop_eq_nil_of_le h]; rfl
theorem S113 (n : GNet) (hn : n.ok) (h1 : 2 ≤ n.nodes) (h2 : n.nodes ≤ 32) : Sound Tryz.prog 113 [n.v] (i64 (powErr n)) := by
  refine ex_intro mixedT T [] Tryz.func113 rfl (by rw [Tryz.ntmps113]; simp) (by kernel_rfl) ?_
  conv => whnf
  repeat' first | (refine LenG.map ?_; conv => whnf) | (refine LenG.go ?_; conv => whnf)
  repeat' first
    | (refine Br.T ?_; conv => whnf)
    | (refine Br.F ?_; conv => whnf)
    | (refine Br.mk (fun hq => ?_) (fun hq => ?_) <;> conv => whnf)
    | (refine FnG.go rfl ?_; conv => whnf)
    | (refine LenG.map ?_; conv => whnf)
    | (refine LenG.go ?_; conv => whnf)
  · refine RetG.one ?_; delta powErr; simp only [ret1, *, Bool.true_or, Bool.false_or, Bool.or_true, Bool.or_false, Bool.true_and, Bool.false_and, Bool.and_true, Bool.and_false, Bool.not_true, Bool.not_false, if_true, if_false, Bool.false_eq_true, reduceIte]
  have hlen : (n.power.length : Int) = n.nodes := by simpa using hq
  refine Lp.go T [.t 1] (fun a : Nat => [(1, .op 0 0), (3, i64 a)]) (fun _ => [.box n.c]) (fun m a => m + a = n.power.length ∧ n.power.any (fun r => (r.length : Int) != n.nodes) = (n.power.drop a).any (fun r => (r.length : Int) != n.nodes)) n.power.length 0 ⟨by simp, by simp⟩ [.t 1] ?_ ?_
  · (conv => whnf); refine ⟨rfl, ?_, ?_⟩ <;> (conv => whnf) <;> (repeat' apply And.intro) <;> first | exact True.intro | rfl | (conv => rhs; whnf)
  rintro m a ⟨hm, ha⟩
  conv => whnf
  refine Br.mk (fun hq => ?_) (fun hq => ?_) <;> conv => whnf
  · have hlt : a < n.power.length := by simp at hq; omega
    rw [any_drop _ hlt] at ha
    repeat' first
      | (refine Br.T ?_; conv => whnf)
      | (refine Br.F ?_; conv => whnf)
      | (refine Br.mk (fun hq => ?_) (fun hq => ?_) <;> conv => whnf)
      | (refine FnG.go rfl ?_; conv => whnf)
      | (refine LenG.map ?_; conv => whnf)
      | (refine LenG.go ?_; conv => whnf)
      | (refine Ix.at (l := n.power) hlt rfl ?_; conv => whnf)
    · refine RetG.one ?_
      delta powErr
      simp only [ret1, *, Bool.true_or, Bool.false_or, Bool.or_true, Bool.or_false, Bool.true_and, Bool.false_and, Bool.and_true, Bool.and_false, Bool.not_true, Bool.not_false, if_true, if_false, Bool.false_eq_true, reduceIte]
    · refine ⟨m - 1, a + 1, by omega, ⟨by omega, by simp_all⟩, ?_⟩
      (conv => whnf); refine ⟨rfl, ?_, ?_⟩ <;> (conv => whnf) <;> (repeat' apply And.intro) <;> first | exact True.intro | rfl | (conv => rhs; whnf)
      exact incr (by omega)
  rw [any_end _ (by simp at hq; omega)] at ha
  -- the numbers
  have hrow : ∀ r ∈ n.power, (r.length : Int) = n.nodes := by
    intro r hr
    have := List.any_eq_false.1 ha r hr
    simpa using this
  refine Lp.go T [.t 1] (fun a : Nat => [(1, .op 0 0), (4, i64 a)]) (fun _ => [.box n.c]) (fun m a => m + a = n.power.length ∧ n.power.any (fun r => r.any fun p => decide (p < 0) || decide (p > 68719476736)) = (n.power.drop a).any (fun r => r.any fun p => decide (p < 0) || decide (p > 68719476736))) n.power.length 0 ⟨by simp, by simp⟩ [.t 1] ?_ ?_
  · (conv => whnf); refine ⟨rfl, ?_, ?_⟩ <;> (conv => whnf) <;> (repeat' apply And.intro) <;> first | exact True.intro | rfl | (conv => rhs; whnf)
  rintro m a ⟨hm, hb⟩
  conv => whnf
  refine Br.mk (fun hq => ?_) (fun hq => ?_) <;> conv => whnf
  · have hlt : a < n.power.length := by simp at hq; omega
    rw [any_drop _ hlt] at hb
    have hlr : ((gd n.power a).length : Int) = n.nodes := hrow _ (gd_mem hlt)
    refine Lp.go T [.t 1] (fun b : Nat => [(1, .op 0 0), (4, i64 a), (5, i64 b)]) (fun _ => [.box n.c]) (fun m b => m + b = (gd n.power a).length ∧ (gd n.power a).any (fun p => decide (p < 0) || decide (p > 68719476736)) = ((gd n.power a).drop b).any (fun p => decide (p < 0) || decide (p > 68719476736))) (gd n.power a).length 0 ⟨by simp, by simp⟩ [.t 1] ?_ ?_
    · (conv => whnf); refine ⟨rfl, ?_, ?_⟩ <;> (conv => whnf) <;> (repeat' apply And.intro) <;> first | exact True.intro | rfl | (conv => rhs; whnf)
    rintro m' b ⟨hm', hc⟩
    conv => whnf
    refine Br.mk (fun hq => ?_) (fun hq => ?_) <;> conv => whnf
    · have hlt' : b < (gd n.power a).length := by simp at hq; omega
      rw [any_drop _ hlt'] at hc
      repeat' first
        | (refine Br.T ?_; conv => whnf)
        | (refine Br.F ?_; conv => whnf)
        | (refine Br.mk (fun hq => ?_) (fun hq => ?_) <;> conv => whnf)
        | (refine FnG.go rfl ?_; conv => whnf)
        | (refine LenG.map ?_; conv => whnf)
        | (refine LenG.go ?_; conv => whnf)
        | (refine CallG.go (S112 _ _ _) ?_; conv => whnf)
        | (refine Ix.at (l := n.power) hlt rfl ?_; conv => whnf)
        | (refine Ix.at (l := gd n.power a) hlt' rfl ?_; conv => whnf)
      · have hv := hq
        have : (decide (gd (gd n.power a) b < 0) || decide (gd (gd n.power a) b > 68719476736)) = true := by
          simp at hv ⊢; omega
        refine RetG.one ?_
        delta powErr
        simp only [ret1, *, Bool.true_or, Bool.false_or, Bool.or_true, Bool.or_false, Bool.true_and, Bool.false_and, Bool.and_true, Bool.and_false, Bool.not_true, Bool.not_false, if_true, if_false, Bool.false_eq_true, reduceIte]
        simp [hlen]
      · have hv := hq
        have : (decide (gd (gd n.power a) b < 0) || decide (gd (gd n.power a) b > 68719476736)) = false := by
          simp at hv ⊢; omega
        refine ⟨m' - 1, b + 1, by omega, ⟨by omega, by simp only [*, Bool.true_or, Bool.false_or, Bool.or_true, Bool.or_false, Bool.true_and, Bool.false_and, Bool.and_true, Bool.and_false, Bool.not_true, Bool.not_false, if_true, if_false, Bool.false_eq_true, reduceIte]⟩, ?_⟩
        (conv => whnf); refine ⟨rfl, ?_, ?_⟩ <;> (conv => whnf) <;> (repeat' apply And.intro) <;> first | exact True.intro | rfl | (conv => rhs; whnf)
        have := hn.rows _ (gd_mem hlt)
        exact incr (by omega)
    · rw [any_end _ (by simp at hq; omega)] at hc
      refine ⟨m - 1, a + 1, by omega, ⟨by omega, by simp only [*, Bool.true_or, Bool.false_or, Bool.or_true, Bool.or_false, Bool.true_and, Bool.false_and, Bool.and_true, Bool.and_false, Bool.not_true, Bool.not_false, if_true, if_false, Bool.false_eq_true, reduceIte]⟩, ?_⟩
      (conv => whnf); refine ⟨rfl, ?_, ?_⟩ <;> (conv => whnf) <;> (repeat' apply And.intro) <;> first | exact True.intro | rfl | (conv => rhs; whnf)
      exact incr (by omega)
  · rw [any_end _ (by simp at hq; omega)] at hb
    refine RetG.one ?_
    delta powErr
    simp only [ret1, *, Bool.true_or, Bool.false_or, Bool.or_true, Bool.or_false, Bool.true_and, Bool.false_and, Bool.and_true, Bool.and_false, Bool.not_true, Bool.not_false, if_true, if_false, Bool.false_eq_true, reduceIte]
    simp [hlen]
theorem in_node {n : GNet} (h1 : 2 ≤ n.nodes) (h2 : n.nodes ≤ 32) (a : Int) : inI a 0 (IntKind.i64.wrap (n.nodes - 1)) = isNode n a := by
  rw [w64 (by omega)]
  simp only [inI, isNode, ge_iff_le]
  congr 1
  simp; omega
theorem cmpI_ge (a b : Int) : (0 ≤ cmpI a b ↔ b ≤ a) ∧ (cmpI a b = 0 ↔ a = b) := by
  unfold cmpI; split
  · omega
  · split <;> omega
theorem cmpLink_ge (p l : GLink) : decide (cmpLink p l ≥ 0) = (decide (p.from_ > l.from_) || (p.from_ == l.from_ && decide (p.to_ ≥ l.to_))) := by
  have h1 := cmpI_ge p.from_ l.from_
  have h2 := cmpI_ge p.to_ l.to_
  have h3 := h2.1
  rw [Bool.eq_iff_iff]
  simp only [cmpLink, orI, decide_eq_true_eq, ge_iff_le, Bool.or_eq_true, Bool.and_eq_true, beq_iff_eq, gt_iff_lt]
  by_cases e : cmpI p.from_ l.from_ = 0
  · rw [if_pos e]
    by_cases e2 : cmpI p.to_ l.to_ = 0
    · rw [if_pos e2]; omega
    · rw [if_neg e2]; omega
  · rw [if_neg e]; omega
theorem nin (m p : Int) : (decide (m < 0) || decide (m > p)) = !inI m 0 p := by
  rw [Bool.eq_iff_iff]; simp <;> omega
theorem nin2 (m q p : Int) : (decide (m < q) || decide (m > p)) = !inI m q p := by
  rw [Bool.eq_iff_iff]; simp <;> omega
theorem nin3 (m q p : Int) (c : Bool) : (decide (m < q) || (decide (m > p) || c)) = (!inI m q p || c) := by
  rw [← Bool.or_assoc, nin2]
theorem S114 (n : GNet) (hn : n.ok) (h1 : 2 ≤ n.nodes) (h2 : n.nodes ≤ 32) (i : Nat) (hi : i < n.links.length) (hml : n.margin.length = n.links.length) (hp : PowOk n) : Sound Tryz.prog 114 [n.v, i64 i] (i64 (linkErrAt n i)) := by
  have hl := hn.links
  have hmi : i < n.margin.length := by omega
  refine ex_intro mixedT T [] Tryz.func114 rfl (by rw [Tryz.ntmps114]; simp) (by kernel_rfl) ?_
  conv => whnf
  repeat' first | (refine LenG.map ?_; conv => whnf) | (refine LenG.go ?_; conv => whnf)
  repeat' first
    | (refine Br.T ?_; conv => whnf)
    | (refine Br.F ?_; conv => whnf)
    | (refine Br.mk (fun hq => ?_) (fun hq => ?_) <;> conv => whnf)
    | (refine FnG.go rfl ?_; conv => whnf)
    | (refine LenG.map ?_; conv => whnf)
    | (refine LenG.go ?_; conv => whnf)
    | (refine CallG.go (S112 _ _ _) ?_; conv => whnf)
    | (rw [in_node h1 h2]; done)
    | (refine Ix.at (l := n.links) hi rfl ?_; conv => whnf)
    | (refine Ix.at (l := n.margin) hmi rfl ?_; conv => whnf)
    | (refine Ix.pred (l := n.links) (by simp_all) hi hl rfl ?_; conv => whnf)
    | (refine Ix.int (l := n.power) (pw_row hp (by rw [← in_node h1 h2]; assumption)) rfl ?_; conv => whnf)
    | (refine Ix.int (l := gi n.power _) (pw_col hp (a := (gd n.links i).from_) (by rw [← in_node h1 h2]; assumption) (by rw [← in_node h1 h2]; assumption)) rfl ?_; conv => whnf)
  all_goals (refine RetG.one ?_)
  all_goals (simp only [in_node h1 h2] at *)
  all_goals (delta linkErrAt linkErr GNet.pw; simp only [Bool.or_assoc, nin, cmpLink_ge])
  all_goals simp only [ret1, *, Bool.true_or, Bool.false_or, Bool.or_true, Bool.or_false, Bool.true_and, Bool.false_and, Bool.and_true, Bool.and_false, Bool.not_true, Bool.not_false, if_true, if_false, Bool.false_eq_true, reduceIte]
theorem S44 (n : GNet) (hn : n.ok) : Sound Tryz.prog 44 [n.v] (i64 (netErr n)) := by
  refine ex_intro mixedT T [] Tryz.func44 rfl (by rw [Tryz.ntmps44]; simp) (by kernel_rfl) ?_
  conv => whnf
  repeat' first | (refine LenG.map ?_; conv => whnf) | (refine LenG.go ?_; conv => whnf)
  repeat' first
    | (refine Br.T ?_; conv => whnf)
    | (refine Br.F ?_; conv => whnf)
    | (refine Br.mk (fun hq => ?_) (fun hq => ?_) <;> conv => whnf)
    | (refine FnG.go rfl ?_; conv => whnf)
    | (refine LenG.map ?_; conv => whnf)
    | (refine LenG.go ?_; conv => whnf)
    | (refine CallG.go (S112 _ _ _) ?_; conv => whnf)
    | (refine CallG.go (S113 n hn (by simp_all) (by simp_all)) ?_; conv => whnf)
  all_goals try (refine RetG.one ?_; delta netErr; simp only [Bool.or_assoc, nin2]; simp only [ret1, *, Bool.true_or, Bool.false_or, Bool.or_true, Bool.or_false, Bool.true_and, Bool.false_and, Bool.and_true, Bool.and_false, Bool.not_true, Bool.not_false, if_true, if_false, Bool.false_eq_true, reduceIte]; done)
  have h0 : netErr n = scan (linkErrAt n) n.links.length 0 := by delta netErr; simp only [Bool.or_assoc, nin2, nin3]; simp only [*, Bool.true_or, Bool.false_or, Bool.or_true, Bool.or_false, Bool.true_and, Bool.false_and, Bool.and_true, Bool.and_false, Bool.not_true, Bool.not_false, if_true, if_false, Bool.false_eq_true, reduceIte]
  have hd : 2 ≤ n.nodes ∧ n.nodes ≤ 32 := by simp_all
  have hp : PowOk n := powOk_of (by simp_all)
  have hml : n.margin.length = n.links.length := by simp at hq; omega
  have hl := hn.links
  refine Lp.go T [.t 1] (fun i : Nat => [(1, .op 0 0), (4, i64 i)]) (fun _ => [.box n.c]) (fun m i => m + i = n.links.length ∧ netErr n = scan (linkErrAt n) m i) n.links.length 0 ⟨by simp, h0⟩ [.t 1] ?_ ?_
  · (conv => whnf); refine ⟨rfl, ?_, ?_⟩ <;> (conv => whnf) <;> (repeat' apply And.intro) <;> first | exact True.intro | rfl | (conv => rhs; whnf)
  rintro m i ⟨hm, hi⟩
  conv => whnf
  refine LenG.map ?_
  conv => whnf
  refine Br.mk (fun hq => ?_) (fun hq => ?_) <;> conv => whnf
  · have hlt : i < n.links.length := by simpa using hq
    obtain ⟨m, rfl⟩ : ∃ q, m = q + 1 := ⟨m - 1, by omega⟩
    rw [scan] at hi
    repeat' first
      | (refine Br.T ?_; conv => whnf)
      | (refine Br.F ?_; conv => whnf)
      | (refine Br.mk (fun hq => ?_) (fun hq => ?_) <;> conv => whnf)
      | (refine FnG.go rfl ?_; conv => whnf)
      | (refine LenG.map ?_; conv => whnf)
      | (refine LenG.go ?_; conv => whnf)
      | (refine CallG.go (S114 n hn hd.1 hd.2 i hlt hml hp) ?_; conv => whnf)
    · refine RetG.one ?_
      simp_all [ret1]
    · refine ⟨m, i + 1, by omega, ⟨by omega, by simp_all⟩, ?_⟩
      (conv => whnf); refine ⟨rfl, ?_, ?_⟩ <;> (conv => whnf) <;> (repeat' apply And.intro) <;> first | exact True.intro | rfl | (conv => rhs; whnf)
      exact incr (by omega)
  · have : n.links.length ≤ i := by simpa using hq
    obtain rfl : m = 0 := by omega
    refine RetG.one ?_
    rw [hi]; rfl
/-! ### finding a link -/
def isLk (a b : Int) (l : GLink) : Bool := l.from_ == a && l.to_ == b
/-- The index of a link, -1 if there is none. -/
def findLk (n : GNet) (a b : Int) : Int := idxOf (isLk a b) n.links 0
theorem idxOf_step {α : Type} [Inhabited α] (p : α → Bool) {l : List α} {i k : Nat} (h : i < l.length) : idxOf p (l.drop i) k = if p (gd l i) then (k : Int) else idxOf p (l.drop (i + 1)) (k + 1) := by
  have e : gd l i = l[i] := by simp [gd, List.getD, h]
  rw [List.drop_eq_getElem_cons h, idxOf, e]
theorem idxOf_end {α : Type} (p : α → Bool) {l : List α} {i k : Nat} (h : l.length ≤ i) : idxOf p (l.drop i) k = -1 := by rw [List.drop_eq_nil_of_le h]; rfl
theorem S151 (n : GNet) (hn : n.ok) (a b : Int) : Sound Tryz.prog 151 [n.v, i64 a, i64 b] (i64 (findLk n a b)) := by
  have hl := hn.links
  refine ex_intro mixedT T [] Tryz.func151 rfl (by rw [Tryz.ntmps151]; simp) (by kernel_rfl) ?_
  conv => whnf
  repeat' first | (refine LenG.map ?_; conv => whnf) | (refine LenG.go ?_; conv => whnf)
  refine Lp.go T [.t 3] (fun i : Nat => [(1, i64 a), (2, i64 b), (3, .op 0 0), (7, i64 i)]) (fun _ => [.box n.c]) (fun m i => m + i = n.links.length ∧ findLk n a b = idxOf (isLk a b) (n.links.drop i) i) n.links.length 0 ⟨by simp, by simp [findLk]⟩ [.t 3] ?_ ?_
  · (conv => whnf); refine ⟨rfl, ?_, ?_⟩ <;> (conv => whnf) <;> (repeat' apply And.intro) <;> first | exact True.intro | rfl | (conv => rhs; whnf)
  rintro m i ⟨hm, hi⟩
  conv => whnf
  refine LenG.map ?_
  conv => whnf
  refine Br.mk (fun hq => ?_) (fun hq => ?_) <;> conv => whnf
  · have hlt : i < n.links.length := by simpa using hq
    rw [idxOf_step _ hlt] at hi
    repeat' first
      | (refine Br.T ?_; conv => whnf)
      | (refine Br.F ?_; conv => whnf)
      | (refine Br.mk (fun hq => ?_) (fun hq => ?_) <;> conv => whnf)
      | (refine FnG.go rfl ?_; conv => whnf)
      | (refine LenG.map ?_; conv => whnf)
      | (refine LenG.go ?_; conv => whnf)
      | (refine Ix.at (l := n.links) hlt rfl ?_; conv => whnf)
    · refine RetG.one ?_
      simp_all [ret1, isLk]
    · refine ⟨m - 1, i + 1, by omega, ⟨by omega, by simp_all [isLk]⟩, ?_⟩
      (conv => whnf); refine ⟨rfl, ?_, ?_⟩ <;> (conv => whnf) <;> (repeat' apply And.intro) <;> first | exact True.intro | rfl | (conv => rhs; whnf)
      exact incr (by omega)
    · refine ⟨m - 1, i + 1, by omega, ⟨by omega, by simp_all [isLk]⟩, ?_⟩
      (conv => whnf); refine ⟨rfl, ?_, ?_⟩ <;> (conv => whnf) <;> (repeat' apply And.intro) <;> first | exact True.intro | rfl | (conv => rhs; whnf)
      exact incr (by omega)
  · rw [idxOf_end _ (by simpa using hq)] at hi
    refine RetG.one ?_
    rw [hi]; rfl
/-- Is a signal heard: as the machine reckons it. -/
def heard (n : GNet) (s d : Int) : Bool := decide (W (s * 1000) ≥ W (n.thr * W (n.noise + d)))
theorem S170 (n : GNet) (s d : Int) : Sound Tryz.prog 170 [n.v, i64 s, i64 d] (.bool (heard n s d)) := by
  refine ex_intro mixedT T [] Tryz.func170 rfl (by rw [Tryz.ntmps170]; simp) (by kernel_rfl) ?_
  conv => whnf
  repeat' first | (refine LenG.map ?_; conv => whnf) | (refine LenG.go ?_; conv => whnf)
  exact RetG.one rfl
theorem S236 (n : GNet) (s d : Int) : Sound Tryz.prog 236 [n.v, i64 s, i64 d] (.bool (heard n s d)) := by
  refine ex_intro mixedT T [] Tryz.func236 rfl (by rw [Tryz.ntmps236]; simp) (by kernel_rfl) ?_
  conv => whnf
  repeat' first | (refine LenG.map ?_; conv => whnf) | (refine LenG.go ?_; conv => whnf)
  exact RetG.one rfl
theorem idxOf_lt {α : Type} (p : α → Bool) : ∀ (l : List α) (k : Nat), idxOf p l k = -1 ∨ (k : Int) ≤ idxOf p l k ∧ idxOf p l k < k + l.length
  | [], k => .inl rfl
  | x :: r, k => by
    unfold idxOf
    split
    · right; simp; omega
    · have := idxOf_lt p r (k + 1)
      simp at this ⊢
      omega
theorem findLk_lt (n : GNet) (a b : Int) (h : 0 ≤ findLk n a b) : (findLk n a b).toNat < n.links.length := by
  have := idxOf_lt (isLk a b) n.links 0
  unfold findLk at h ⊢
  omega
/-- Is there a usable link: the network is valid. -/
def goodLk (n : GNet) (a b : Int) : Bool :=
  decide (findLk n a b ≥ 0) && decide (findLk n b a ≥ 0) && heard n (gi n.margin (findLk n a b)) 0 && heard n (gi n.margin (findLk n b a)) 0
theorem S77 (n : GNet) (hn : n.ok) (hml : n.margin.length = n.links.length) (a b : Int) : Sound Tryz.prog 77 [n.v, i64 a, i64 b] (.bool (goodLk n a b)) := by
  have h1 := findLk_lt n a b
  have h2 := findLk_lt n b a
  refine ex_intro mixedT T [] Tryz.func77 rfl (by rw [Tryz.ntmps77]; simp) (by kernel_rfl) ?_
  conv => whnf
  repeat' first | (refine LenG.map ?_; conv => whnf) | (refine LenG.go ?_; conv => whnf)
  repeat' first
    | (refine Br.T ?_; conv => whnf)
    | (refine Br.F ?_; conv => whnf)
    | (refine Br.mk (fun hq => ?_) (fun hq => ?_) <;> conv => whnf)
    | (refine FnG.go rfl ?_; conv => whnf)
    | (refine LenG.map ?_; conv => whnf)
    | (refine LenG.go ?_; conv => whnf)
    | (refine CallG.go (S151 n hn _ _) ?_; conv => whnf)
    | (refine CallG.go (S170 n _ _) ?_; conv => whnf)
    | (refine Ix.int (l := n.margin) (by simp_all) rfl ?_; conv => whnf)
  all_goals (refine RetG.one ?_; (try simp only [Bool.not_eq_true', Bool.not_eq_false'] at *); (try delta goodLk); simp only [ret1, *, Bool.true_or, Bool.false_or, Bool.or_true, Bool.or_false, Bool.true_and, Bool.false_and, Bool.and_true, Bool.and_false, Bool.not_true, Bool.not_false, if_true, if_false, Bool.false_eq_true, reduceIte])
/-- Is it small enough for the statements. -/
def fewNet (n : GNet) : Bool := !(n.power.any fun r => decide ((r.length : Int) > 40)) && decide ((n.power.length : Int) ≤ 8) && decide ((n.links.length : Int) ≤ 60) && decide ((n.margin.length : Int) ≤ 60)
theorem S18 (n : GNet) (hn : n.ok) : Sound Tryz.prog 18 [n.v] (.bool (fewNet n)) := by
  have hl := hn.power
  refine ex_intro mixedT T [] Tryz.func18 rfl (by rw [Tryz.ntmps18]; simp) (by kernel_rfl) ?_
  conv => whnf
  repeat' first | (refine LenG.map ?_; conv => whnf) | (refine LenG.go ?_; conv => whnf)
  refine Lp.go T [.t 1] (fun i : Nat => [(1, .op 0 0), (3, i64 i)]) (fun _ => [.box n.c]) (fun m i => m + i = n.power.length ∧ (n.power.any fun r => decide ((r.length : Int) > 40)) = (n.power.drop i).any fun r => decide ((r.length : Int) > 40)) n.power.length 0 ⟨by simp, by simp⟩ [.t 1] ?_ ?_
  · (conv => whnf); refine ⟨rfl, ?_, ?_⟩ <;> (conv => whnf) <;> (repeat' apply And.intro) <;> first | exact True.intro | rfl | (conv => rhs; whnf)
  rintro m i ⟨hm, hi⟩
  conv => whnf
  refine LenG.map ?_
  conv => whnf
  refine Br.mk (fun hq => ?_) (fun hq => ?_) <;> conv => whnf
  · have hlt : i < n.power.length := by simpa using hq
    rw [any_drop _ hlt] at hi
    repeat' first
      | (refine Br.T ?_; conv => whnf)
      | (refine Br.F ?_; conv => whnf)
      | (refine Br.mk (fun hq => ?_) (fun hq => ?_) <;> conv => whnf)
      | (refine FnG.go rfl ?_; conv => whnf)
      | (refine LenG.map ?_; conv => whnf)
      | (refine LenG.go ?_; conv => whnf)
      | (refine Ix.at (l := n.power) hlt rfl ?_; conv => whnf)
    · refine RetG.one ?_
      delta fewNet
      simp only [ret1, *, Bool.true_or, Bool.false_or, Bool.or_true, Bool.or_false, Bool.true_and, Bool.false_and, Bool.and_true, Bool.and_false, Bool.not_true, Bool.not_false, if_true, if_false, Bool.false_eq_true, reduceIte]
    · refine ⟨m - 1, i + 1, by omega, ⟨by omega, by simp only [*, Bool.true_or, Bool.false_or, Bool.or_true, Bool.or_false, Bool.true_and, Bool.false_and, Bool.and_true, Bool.and_false, Bool.not_true, Bool.not_false, if_true, if_false, Bool.false_eq_true, reduceIte]⟩, ?_⟩
      (conv => whnf); refine ⟨rfl, ?_, ?_⟩ <;> (conv => whnf) <;> (repeat' apply And.intro) <;> first | exact True.intro | rfl | (conv => rhs; whnf)
      exact incr (by omega)
  · rw [any_end _ (by simpa using hq)] at hi
    repeat' first
      | (refine Br.T ?_; conv => whnf)
      | (refine Br.F ?_; conv => whnf)
      | (refine Br.mk (fun hq => ?_) (fun hq => ?_) <;> conv => whnf)
      | (refine FnG.go rfl ?_; conv => whnf)
      | (refine LenG.map ?_; conv => whnf)
      | (refine LenG.go ?_; conv => whnf)
    all_goals (refine RetG.one ?_; (try simp only [Bool.not_eq_true', Bool.not_eq_false'] at *); (try delta fewNet); simp only [ret1, *, Bool.true_or, Bool.false_or, Bool.or_true, Bool.or_false, Bool.true_and, Bool.false_and, Bool.and_true, Bool.and_false, Bool.not_true, Bool.not_false, if_true, if_false, Bool.false_eq_true, reduceIte])
theorem bsGo_spec (f : Nat → Bool) (hf : ∀ i j, i ≤ j → f j = true → f i = true) : ∀ (q lo hi : Nat), hi - lo ≤ q → lo ≤ hi → (∀ j, j < lo → f j = true) → (f hi = false ∨ True) →
    lo ≤ bsGo f lo hi ∧ bsGo f lo hi ≤ hi ∧ (∀ j, j < bsGo f lo hi → f j = true) ∧ (∀ j, bsGo f lo hi ≤ j → j < hi → f j = false)
  | 0, lo, hi, hq, h1, h2, _ => by
    rw [bsGo, dif_neg (by omega)]
    exact ⟨Nat.le_refl _, h1, h2, fun j h3 h4 => by omega⟩
  | q + 1, lo, hi, hq, h1, h2, _ => by
    rw [bsGo]
    split
    · rename_i hlt
      split
      · rename_i hm
        have := bsGo_spec f hf q ((lo + hi) / 2 + 1) hi (by omega) (by omega) (fun j hj => hf j ((lo + hi) / 2) (by omega) hm) (.inr trivial)
        exact ⟨by omega, this.2.1, this.2.2.1, this.2.2.2⟩
      · rename_i hm
        have := bsGo_spec f hf q lo ((lo + hi) / 2) (by omega) (by omega) h2 (.inr trivial)
        refine ⟨this.1, by omega, this.2.2.1, fun j h3 h4 => ?_⟩
        by_cases h5 : j < (lo + hi) / 2
        · exact this.2.2.2 j h3 h5
        · cases hj : f j with
          | false => rfl
          | true => exact absurd (hf _ _ (by omega) hj) hm
    · exact ⟨Nat.le_refl _, h1, h2, fun j h3 h4 => by omega⟩
/-- Over a list that is in order for c: what the search finds is the first with c = 0. -/
theorem bs_first {α : Type} [Inhabited α] (c : α → Int) (p : α → Bool) (l : List α) (hp : ∀ x ∈ l, (p x = true ↔ c x = 0)) (hs : ∀ i j, i < j → j < l.length → c (gd l j) ≤ 0 → c (gd l i) < 0) :
    (if bsB c l = true then (bsI c l : Int) else -1) = idxOf p l 0 := by
  obtain ⟨f, hf⟩ : ∃ f : Nat → Bool, f = fun k => decide (c (gd l k) < 0) && decide (k < l.length) := ⟨_, rfl⟩
  have hmono : ∀ i j, i ≤ j → f j = true → f i = true := by
    intro i j hij hj
    rw [hf] at hj ⊢
    simp only [Bool.and_eq_true, decide_eq_true_eq] at hj ⊢
    rcases Nat.lt_or_ge i j with h | h
    · exact ⟨hs i j h hj.2 (by omega), by omega⟩
    · obtain rfl : i = j := by omega
      exact hj
  have hcong : ∀ (q lo hi : Nat), hi - lo ≤ q → hi ≤ l.length → bsGo (fun k => decide (c (gd l k) < 0)) lo hi = bsGo f lo hi := by
    intro q
    induction q with
    | zero => intro lo hi h1 h2; rw [bsGo.eq_def (fun k => decide (c (gd l k) < 0)) lo hi, bsGo.eq_def f lo hi, dif_neg (by omega), dif_neg (by omega)]
    | succ q ih =>
      intro lo hi h1 h2
      rw [bsGo.eq_def (fun k => decide (c (gd l k) < 0)) lo hi, bsGo.eq_def f lo hi]
      split
      · rename_i hlt
        have e : f ((lo + hi) / 2) = decide (c (gd l ((lo + hi) / 2)) < 0) := by rw [hf]; simp; omega
        rw [e, ih _ _ (by omega) h2, ih _ _ (by omega) (by omega)]
      · rfl
  have hr : bsI c l = bsGo f 0 l.length := hcong _ 0 _ (Nat.le_refl _) (Nat.le_refl _)
  obtain ⟨_, h2, h3, h4⟩ := bsGo_spec f hmono _ 0 l.length (Nat.le_refl _) (by omega) (fun j hj => by omega) (.inr trivial)
  rw [← hr] at h2 h3 h4
  generalize hR : bsI c l = r at *
  have hlow : ∀ j, j < r → c (gd l j) < 0 := fun j hj => by
    have := h3 j hj; rw [hf] at this; simp at this; exact this.1
  have key : ∀ (m i : Nat), m + i = l.length → i ≤ r → idxOf p (l.drop i) i = if bsB c l = true then (r : Int) else -1 := by
    intro m
    induction m with
    | zero =>
      intro i hm hi
      rw [idxOf_end _ (by omega)]
      have : bsB c l = false := by unfold bsB; rw [hR]; simp; omega
      rw [this]; rfl
    | succ m ih =>
      intro i hm hi
      have hlt : i < l.length := by omega
      rw [idxOf_step _ hlt]
      have hpi := hp _ (gd_mem hlt)
      by_cases hc0 : c (gd l i) = 0
      · rw [if_pos (hpi.2 hc0)]
        have : i = r := by
          rcases Nat.lt_or_ge i r with h | h
          · have := hlow i h; omega
          · omega
        subst this
        have : bsB c l = true := by unfold bsB; rw [hR, Bool.and_eq_true]; exact ⟨decide_eq_true hlt, beq_iff_eq.2 hc0⟩
        rw [if_pos this]
      · rw [if_neg (fun h => hc0 (hpi.1 h))]
        rcases Nat.lt_or_ge i r with h | h
        · exact ih (i + 1) (by omega) h
        · obtain rfl : i = r := by omega
          have hb : bsB c l = false := by
            unfold bsB; rw [hR, Bool.and_eq_false_iff]
            exact .inr (beq_eq_false_iff_ne.2 hc0)
          rw [hb]
          -- nothing behind it either
          have hnone : ∀ (m' j : Nat), m' + j = l.length → i < j → idxOf p (l.drop j) j = -1 := by
            intro m'
            induction m' with
            | zero => intro j hj _; exact idxOf_end _ (by omega)
            | succ m' ih' =>
              intro j hj hij
              have hlj : j < l.length := by omega
              rw [idxOf_step _ hlj]
              have hnp : ¬ p (gd l j) = true := fun hpj => by
                have h0 := (hp _ (gd_mem hlj)).1 hpj
                have h1 := hs i j hij hlj (by omega)
                have h5 := h4 i (Nat.le_refl _) hlt
                rw [hf] at h5
                simp only [hlt, decide_true, Bool.and_true, decide_eq_false_iff_not] at h5
                omega
              rw [if_neg hnp]
              exact ih' (j + 1) (by omega) (by omega)
          exact hnone m (i + 1) (by omega) (by omega)
  have := key l.length 0 (by omega) (Nat.zero_le _)
  rw [List.drop_zero] at this
  exact this.symm
/-! ### a valid network -/
theorem cmpLink_lt (p l : GLink) : cmpLink p l < 0 ↔ (p.from_ < l.from_ ∨ p.from_ = l.from_ ∧ p.to_ < l.to_) := by
  have h := cmpLink_ge p l
  rw [Bool.eq_iff_iff] at h
  simp at h
  omega
theorem cmpI_sign (a b : Int) : (cmpI a b < 0 ↔ a < b) ∧ (0 < cmpI a b ↔ b < a) ∧ (cmpI a b = 0 ↔ a = b) := by
  unfold cmpI; split
  · omega
  · split <;> omega
theorem cmpLink_zero (p l : GLink) : cmpLink p l = 0 ↔ (p.from_ = l.from_ ∧ p.to_ = l.to_) := by
  have h1 := cmpI_sign p.from_ l.from_
  have h2 := cmpI_sign p.to_ l.to_
  simp only [cmpLink, orI]
  split
  · split <;> omega
  · omega
theorem scan_zero {f : Nat → Int} : ∀ (n i : Nat), scan f n i = 0 ↔ ∀ j, i ≤ j → j < i + n → f j = 0
  | 0, i => by simp [scan]; intro j h1 h2; omega
  | n + 1, i => by
    rw [scan]
    by_cases h : f i = 0
    · simp only [h]
      rw [if_neg (by simp), scan_zero n (i + 1)]
      constructor
      · intro hh j h1 h2
        by_cases e : j = i
        · subst e; exact h
        · exact hh j (by omega) (by omega)
      · intro hh j h1 h2; exact hh j (by omega) (by omega)
    · rw [if_pos (by simpa using h)]
      constructor
      · intro hh; exact absurd hh h
      · intro hh; exact hh i (Nat.le_refl _) (by omega)
structure NetOk (n : GNet) : Prop where
  nodes : 2 ≤ n.nodes ∧ n.nodes ≤ 32
  pow : PowOk n
  powR : ∀ r ∈ n.power, ∀ p ∈ r, 0 ≤ p ∧ p ≤ 68719476736
  noise : 0 ≤ n.noise ∧ n.noise ≤ 68719476736
  thr : 1000 ≤ n.thr ∧ n.thr ≤ 100000
  links : n.links.length ≤ 128
  margin : n.margin.length = n.links.length
  link : ∀ i, i < n.links.length → linkErrAt n i = 0
theorem netOk_of {n : GNet} (h : netErr n = 0) : NetOk n := by
  unfold netErr at h
  split at h
  · cases h
  rename_i h1
  split at h
  · rename_i h2; simp at h2; exact absurd h h2
  rename_i h2
  split at h
  · cases h
  rename_i h3
  split at h
  · cases h
  rename_i h4
  split at h
  · cases h
  rename_i h5
  simp at h1 h2 h3 h4 h5
  have hpow := powOk_of h2
  refine ⟨by omega, hpow, ?_, by omega, by omega, by omega, by omega, fun i hi => ?_⟩
  · intro r hr p hp
    unfold powErr at h2
    split at h2
    · cases h2
    · split at h2
      · cases h2
      · rename_i hh
        simp only [Bool.not_eq_true] at hh
        have := List.any_eq_false.1 hh r hr
        simp only [Bool.not_eq_true] at this
        have := List.any_eq_false.1 this p hp
        simp at this
        omega
  · exact (scan_zero _ _).1 h i (Nat.zero_le _) (by omega)
structure LinkOk (n : GNet) (l : GLink) (m : Int) : Prop where
  from_ : 0 ≤ l.from_ ∧ l.from_ < n.nodes
  to_ : 0 ≤ l.to_ ∧ l.to_ < n.nodes
  ne : l.from_ ≠ l.to_
  loss : 0 ≤ l.loss ∧ l.loss ≤ 7
  margin : 0 ≤ m ∧ m ≤ n.pw l.from_ l.to_
theorem linkOk_of {n : GNet} {p : Option GLink} {l : GLink} {m : Int} (h : linkErr n p l m = 0) : LinkOk n l m ∧ ∀ q, p = some q → cmpLink q l < 0 := by
  unfold linkErr at h
  cases p with
  | none =>
    simp only [Bool.false_eq_true, if_false] at h
    split at h
    · cases h
    rename_i h1
    split at h
    · cases h
    rename_i h3
    simp only [isNode, Bool.or_eq_true, not_or, Bool.not_eq_true, Bool.not_eq_false', Bool.and_eq_true, decide_eq_true_eq, decide_eq_false_iff_not, beq_eq_false_iff_ne, ne_eq] at h1 h3
    exact ⟨⟨by omega, by omega, by omega, by omega, by omega⟩, fun q hq => by cases hq⟩
  | some p =>
    simp only at h
    split at h
    · cases h
    rename_i h1
    split at h
    · cases h
    rename_i h2
    split at h
    · cases h
    rename_i h3
    simp only [isNode, Bool.or_eq_true, not_or, Bool.not_eq_true, Bool.not_eq_false', Bool.and_eq_true, decide_eq_true_eq, decide_eq_false_iff_not, beq_eq_false_iff_ne, ne_eq] at h1 h3
    exact ⟨⟨by omega, by omega, by omega, by omega, by omega⟩, fun q hq => by cases hq; simpa using h2⟩
theorem NetOk.at {n : GNet} (h : NetOk n) {i : Nat} (hi : i < n.links.length) : LinkOk n (gd n.links i) (gd n.margin i) := (linkOk_of (h.link i hi)).1
theorem NetOk.succ {n : GNet} (h : NetOk n) {i : Nat} (hi : i + 1 < n.links.length) : cmpLink (gd n.links i) (gd n.links (i + 1)) < 0 :=
  (linkOk_of (h.link (i + 1) hi)).2 _ (by rw [if_pos (by simp <;> omega)]; rfl)
theorem NetOk.lt {n : GNet} (h : NetOk n) {i : Nat} : ∀ (q : Nat), i + q + 1 < n.links.length → cmpLink (gd n.links i) (gd n.links (i + q + 1)) < 0
  | 0, hj => h.succ hj
  | q + 1, hj => by
    have h1 := h.lt (i := i) q (by omega)
    have h2 := h.succ (i := i + q + 1) (by omega)
    rw [cmpLink_lt] at h1 h2 ⊢
    rw [show i + (q + 1) + 1 = i + q + 1 + 1 by omega]
    omega
theorem NetOk.find {n : GNet} (h : NetOk n) (a b : Int) : (if bsB (fun l => cmpLink l ⟨a, b, 0⟩) n.links = true then (bsI (fun l => cmpLink l ⟨a, b, 0⟩) n.links : Int) else -1) = findLk n a b := by
  refine bs_first _ (isLk a b) n.links (fun x _ => ?_) (fun i j hij hj hc => ?_)
  · rw [cmpLink_zero]; simp [isLk]
  · obtain ⟨q, rfl⟩ : ∃ q, j = i + q + 1 := ⟨j - i - 1, by omega⟩
    have h1 := h.lt q hj
    have h2 := (cmpLink_lt (gd n.links (i + q + 1)) ⟨a, b, 0⟩)
    have h3 := (cmpLink_zero (gd n.links (i + q + 1)) ⟨a, b, 0⟩)
    simp only at hc h2 h3 ⊢
    rw [cmpLink_lt] at h1 ⊢
    simp only
    omega
/-! ### the program's functions -/
theorem S162 (n : GNet) (hn : n.ok) (h : NetOk n) (a b : Int) : Sound Tryz.prog 162 [n.v, i64 a, i64 b] (i64 (findLk n a b)) := by
  rw [← h.find]
  refine ex_intro mixedT T [] Tryz.func162 rfl (by rw [Tryz.ntmps162]; simp) (by kernel_rfl) ?_
  conv => whnf
  repeat' first | (refine LenG.map ?_; conv => whnf) | (refine LenG.go ?_; conv => whnf)
  repeat' first
    | (refine Br.T ?_; conv => whnf)
    | (refine Br.F ?_; conv => whnf)
    | (refine Br.mk (fun hq => ?_) (fun hq => ?_) <;> conv => whnf)
    | (refine FnG.go rfl ?_; conv => whnf)
    | (refine LenG.map ?_; conv => whnf)
    | (refine LenG.go ?_; conv => whnf)
    | (refine CallG.go (S237 (g := 233) rfl n.links ⟨a, b, 0⟩ (fun l => cmpLink l ⟨a, b, 0⟩) (fun y _ => S233 y ⟨a, b, 0⟩) hn.links) ?_; conv => whnf)
  all_goals (refine RetG.one ?_; simp_all [ret1])
theorem S74 (n : GNet) (hn : n.ok) (a b : Int) : Sound Tryz.prog 74 [n.v, i64 a, i64 b] (i64 (if netErr n != 0 then -1 else findLk n a b)) := by
  refine ex_intro mixedT T [] Tryz.func74 rfl (by rw [Tryz.ntmps74]; simp) (by kernel_rfl) ?_
  conv => whnf
  repeat' first | (refine LenG.map ?_; conv => whnf) | (refine LenG.go ?_; conv => whnf)
  repeat' first
    | (refine Br.T ?_; conv => whnf)
    | (refine Br.F ?_; conv => whnf)
    | (refine Br.mk (fun hq => ?_) (fun hq => ?_) <;> conv => whnf)
    | (refine FnG.go rfl ?_; conv => whnf)
    | (refine LenG.map ?_; conv => whnf)
    | (refine LenG.go ?_; conv => whnf)
    | (refine CallG.go (S71 n hn) ?_; conv => whnf)
    | (refine CallG.go (S162 n hn (netOk_of (by simp_all)) _ _) ?_; conv => whnf)
  all_goals (refine RetG.one ?_; (try simp only [Bool.not_eq_true', Bool.not_eq_false'] at *); simp only [ret1, *, Bool.true_or, Bool.false_or, Bool.or_true, Bool.or_false, Bool.true_and, Bool.false_and, Bool.and_true, Bool.and_false, Bool.not_true, Bool.not_false, if_true, if_false, Bool.false_eq_true, reduceIte])
theorem S200 (n : GNet) (hn : n.ok) (s d : Int) : Sound Tryz.prog 200 [n.v, i64 s, i64 d] (.bool (netErr n == 0 && inI s 0 8796093022208 && inI d 0 8796093022208 && heard n s d)) := by
  refine ex_intro mixedT T [] Tryz.func200 rfl (by rw [Tryz.ntmps200]; simp) (by kernel_rfl) ?_
  conv => whnf
  repeat' first | (refine LenG.map ?_; conv => whnf) | (refine LenG.go ?_; conv => whnf)
  repeat' first
    | (refine Br.T ?_; conv => whnf)
    | (refine Br.F ?_; conv => whnf)
    | (refine Br.mk (fun hq => ?_) (fun hq => ?_) <;> conv => whnf)
    | (refine FnG.go rfl ?_; conv => whnf)
    | (refine LenG.map ?_; conv => whnf)
    | (refine LenG.go ?_; conv => whnf)
    | (refine CallG.go (S71 n hn) ?_; conv => whnf)
    | (refine CallG.go (S236 n _ _) ?_; conv => whnf)
  all_goals (refine RetG.one ?_; simp only [ret1]; congr 1; congr 1)
  · simp_all
  · rw [Bool.eq_iff_iff]; simp_all; intros; split at hq <;> omega
  · rw [Bool.eq_iff_iff]; simp_all; intros; split at hq <;> omega
  · have : (0 ≤ s ∧ s ≤ 8796093022208) ∧ (0 ≤ d ∧ d ≤ 8796093022208) := by
      simp at *; split at * <;> split at * <;> omega
    simp_all
/-- Is a link usable. -/
def usableLk (n : GNet) (i : Int) : Bool :=
  decide (findLk n (gi n.links i).to_ (gi n.links i).from_ ≥ 0) && heard n (gi n.margin i) 0 && heard n (gi n.margin (findLk n (gi n.links i).to_ (gi n.links i).from_)) 0
theorem S161 (n : GNet) (hn : n.ok) (h : NetOk n) (i : Int) (hi : 0 ≤ i ∧ i.toNat < n.links.length) : Sound Tryz.prog 161 [n.v, i64 i] (.bool (usableLk n i)) := by
  have h1 := findLk_lt n (gi n.links i).to_ (gi n.links i).from_
  have hml := h.margin
  refine ex_intro mixedT T [] Tryz.func161 rfl (by rw [Tryz.ntmps161]; simp) (by kernel_rfl) ?_
  conv => whnf
  repeat' first | (refine LenG.map ?_; conv => whnf) | (refine LenG.go ?_; conv => whnf)
  repeat' first
    | (refine Br.T ?_; conv => whnf)
    | (refine Br.F ?_; conv => whnf)
    | (refine Br.mk (fun hq => ?_) (fun hq => ?_) <;> conv => whnf)
    | (refine FnG.go rfl ?_; conv => whnf)
    | (refine LenG.map ?_; conv => whnf)
    | (refine LenG.go ?_; conv => whnf)
    | (refine CallG.go (S162 n hn h _ _) ?_; conv => whnf)
    | (refine CallG.go (S236 n _ _) ?_; conv => whnf)
    | (refine Ix.int (l := n.links) hi rfl ?_; conv => whnf)
    | (refine Ix.int (l := n.margin) (by simp_all) rfl ?_; conv => whnf)
  all_goals (refine RetG.one ?_; (try simp only [Bool.not_eq_true', Bool.not_eq_false'] at *); (try delta usableLk); simp only [ret1, *, Bool.true_or, Bool.false_or, Bool.or_true, Bool.or_false, Bool.true_and, Bool.false_and, Bool.and_true, Bool.and_false, Bool.not_true, Bool.not_false, if_true, if_false, Bool.false_eq_true, reduceIte])
theorem S73 (n : GNet) (hn : n.ok) (i : Int) : Sound Tryz.prog 73 [n.v, i64 i] (.bool (netErr n == 0 && decide (i ≥ 0) && decide (i < n.links.length) && usableLk n i)) := by
  refine ex_intro mixedT T [] Tryz.func73 rfl (by rw [Tryz.ntmps73]; simp) (by kernel_rfl) ?_
  conv => whnf
  repeat' first | (refine LenG.map ?_; conv => whnf) | (refine LenG.go ?_; conv => whnf)
  repeat' first
    | (refine Br.T ?_; conv => whnf)
    | (refine Br.F ?_; conv => whnf)
    | (refine Br.mk (fun hq => ?_) (fun hq => ?_) <;> conv => whnf)
    | (refine FnG.go rfl ?_; conv => whnf)
    | (refine LenG.map ?_; conv => whnf)
    | (refine LenG.go ?_; conv => whnf)
    | (refine CallG.go (S71 n hn) ?_; conv => whnf)
    | (refine CallG.go (S161 n hn (netOk_of (by simp_all)) i (by simp_all <;> omega)) ?_; conv => whnf)
  all_goals (refine RetG.one ?_; (try simp only [Bool.not_eq_true', Bool.not_eq_false'] at *); simp only [ret1, *, Bool.true_or, Bool.false_or, Bool.or_true, Bool.or_false, Bool.true_and, Bool.false_and, Bool.and_true, Bool.and_false, Bool.not_true, Bool.not_false, if_true, if_false, Bool.false_eq_true, reduceIte])
end Go.Proofs.YtbaajjihhdmdpaaGreatDoor
