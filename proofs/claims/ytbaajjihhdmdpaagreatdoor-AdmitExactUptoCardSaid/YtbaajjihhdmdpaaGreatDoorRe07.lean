/- AdmitExact: for every input of bulk at most 1048576 (the row's own condition) the law returns true and its arguments read as they did. -/
import Derived.Test.YtbaajjihhdmdpaaGreatDoorRe06

namespace Go.Proofs.YtbaajjihhdmdpaaGreatDoor
open Go.RowKit
set_option linter.unusedSectionVars false
set_option linter.unusedVariables false
set_option linter.unusedSimpArgs false
set_option linter.unnecessarySimpa false
set_option maxRecDepth 100000
set_option maxHeartbeats 4000000
theorem relGo_len (n : GNet) (id fin : Int) (hf : fin ≤ 1000000) (r : List Int) : ∀ (m i : Nat) (s : GSched) (p : Int), 0 ≤ p → p ≤ fin → (relGo n id fin r m i s p).1.length = s.length ∧ (relGo n id fin r m i s p).1.offsets = s.offsets ∧ ((relGo n id fin r m i s p).1.cells.length : Int) ≤ s.cells.length + (fin - p)
  | 0, i, s, p, h0, h1 => ⟨rfl, rfl, by simp [relGo]; omega⟩
  | m + 1, i, s, p, h0, h1 => by
    obtain ⟨e1, e2, e3, e4, e5⟩ := fillGo_len n (hopL n r i) id fin hf ((fin - p).toNat + 1) s (W ((hopL n r i).loss + 1)) p h0 h1
    rw [relGo]
    unfold fillP
    generalize fillGo n (hopL n r i) id fin ((fin - p).toNat + 1) s (W ((hopL n r i).loss + 1)) p = q at *
    split
    · exact ⟨e1, e2, by show (q.1.cells.length : Int) ≤ _; omega⟩
    · obtain ⟨f1, f2, f3⟩ := relGo_len n id fin hf r m (i + 1) q.1 q.2.2 (by omega) e4
      exact ⟨f1.trans e1, f2.trans e2, by omega⟩
/-- The releases of a route, from p on. -/
def putGo (n : GNet) (f : GFlow) (len : Int) (r : List Int) : Nat → GSched → Int → Option GSched
  | 0, s, _ => some s
  | m + 1, s, p => if decide (p < len) then
      (if !(relP n s f r p).2 then none else putGo n f len r m (relP n s f r p).1 (W (p + f.period)))
    else some s
def placeGo (n : GNet) (f : GFlow) (len : Int) : List (List Int) → GSched → Option GSched
  | [], s => some s
  | r :: rs, s => match putGo n f len r (len.toNat + 1) s f.phase with
    | none => none
    | some s' => placeGo n f len rs s'
def placeP (n : GNet) (s : GSched) (x : GReq) : GSched × Bool := match placeGo n x.flow s.length x.routes s with
  | some s' => (s', true)
  | none => (s, false)
structure PlaceOk (n : GNet) (s : GSched) (x : GReq) : Prop where
  net : n.ok
  chk : netErr n = 0
  cells : s.cells.length ≤ 1000
  len : 1 ≤ s.length ∧ s.length ≤ 512
  offs : s.offsets ≤ 1000000
  per : 1 ≤ x.flow.period ∧ x.flow.period ≤ 512
  pha : 0 ≤ x.flow.phase ∧ x.flow.phase ≤ 512
  dead : 0 ≤ x.flow.deadline ∧ x.flow.deadline ≤ x.flow.period
  routes : x.routes.length ≤ 2
  rlen : ∀ r ∈ x.routes, r.length ≤ 9
  way : ∀ r ∈ x.routes, ∀ i, i + 1 < r.length → 0 ≤ findLk n (gd r i) (gd r (i + 1))
theorem S87 (n : GNet) (s : GSched) (x : GReq) (h : PlaceOk n s x) : Sound Tryz.prog 87 [n.v, s.v, x.v] (.tup [(placeP n s x).1.v, .bool (placeP n s x).2]) := by
  have h1 := h.len
  have h2 := h.per
  have h3 := h.pha
  have h4 := h.dead
  have h5 := h.routes
  have h6 := h.cells
  obtain ⟨R, hR⟩ : ∃ R, placeGo n x.flow s.length x.routes s = R := ⟨_, rfl⟩
  have hgood : ∀ s', R = some s' → placeP n s x = (s', true) := fun s' e => by unfold placeP; rw [hR, e]
  have hbad : R = none → placeP n s x = (s, false) := fun e => by unfold placeP; rw [hR, e]
  refine ex_intro mixedT T [] Tryz.func87 rfl (by rw [Tryz.ntmps87]; simp) (by kernel_rfl) ?_
  conv => whnf
  repeat' first | (refine LenG.map ?_; conv => whnf) | (refine LenG.go ?_; conv => whnf)
  repeat' first | (refine LenG.map ?_; conv => whnf) | (refine LenG.go ?_; conv => whnf)
  refine Lp.go T [.t 4, .t 5, .t 6, .t 8] (fun (a : Nat × GSched) => [(4, .op 0 0), (5, .op 1 0), (6, .op 2 0), (8, .op 3 0), (17, rowsV x.routes), (18, i64 x.routes.length), (19, i64 a.1)])
    (fun a => [.box s.c, .box x.c, .box [i64 0, i64 0, .sl .zero []], .box (n.c ++ a.2.c)])
    (fun m a => m + a.1 = x.routes.length ∧ R = placeGo n x.flow s.length (x.routes.drop a.1) a.2 ∧ a.2.length = s.length ∧ a.2.offsets = s.offsets ∧ a.2.cells.length ≤ 1000 + a.1 * 2000) x.routes.length (0, s) ⟨by simp, hR.symm, rfl, rfl, by simp; omega⟩ [.t 4, .t 5, .t 6, .t 8] ?_ ?_
  · (conv => whnf); refine ⟨rfl, ?_, ?_⟩ <;> (conv => whnf) <;> (repeat' apply And.intro) <;> first | exact True.intro | rfl | (conv => rhs; whnf)
  rintro m ⟨i, s1⟩ ⟨hm, hi, hl1, ho1, hc1⟩
  simp only at hm hi hl1 ho1 hc1 ⊢
  conv => whnf
  refine Br.mk (fun hq => ?_) (fun hq => ?_) <;> conv => whnf
  · have hlt : i < x.routes.length := by simpa using hq
    have hd : x.routes.drop i = gd x.routes i :: x.routes.drop (i + 1) := by
      rw [List.drop_eq_getElem_cons hlt]; simp [gd, List.getD, hlt]
    rw [hd, placeGo] at hi
    have hrl := h.rlen _ (gd_mem hlt)
    have hrw := h.way _ (gd_mem hlt)
    refine Ix.at (l := x.routes) hlt rfl ?_; conv => whnf
    generalize gd x.routes i = r at *
    obtain ⟨Q, hQ⟩ : ∃ Q, putGo n x.flow s.length r (s.length.toNat + 1) s1 x.flow.phase = Q := ⟨_, rfl⟩
    rw [hQ] at hi
    refine Lp.go T [.t 4, .t 5, .t 6, .t 8] (fun (a : Nat × GSched × Int) => [(4, .op 0 0), (5, .op 1 0), (6, .op 2 0), (8, .op 3 0), (11, intsV r), (12, i64 a.2.2), (17, rowsV x.routes), (18, i64 x.routes.length), (19, i64 i)])
      (fun a => [.box s.c, .box x.c, .box [i64 0, i64 0, .sl .zero []], .box (n.c ++ a.2.1.c)])
      (fun m a => a.1 = m ∧ Q = putGo n x.flow s.length r a.1 a.2.1 a.2.2 ∧ a.2.1.length = s.length ∧ a.2.1.offsets = s.offsets ∧ 0 ≤ a.2.2 ∧ x.flow.phase ≤ a.2.2 ∧ a.2.2 ≤ 1100 ∧ s.length + 1 ≤ a.2.2 + m ∧ (a.2.1.cells.length : Int) ≤ s1.cells.length + (a.2.2 - x.flow.phase)) (s.length.toNat + 1) (s.length.toNat + 1, s1, x.flow.phase) ⟨rfl, hQ.symm, hl1, ho1, h3.1, by simp, by simp; omega, by simp; omega, by simp⟩ [.t 4, .t 5, .t 6, .t 8] ?_ ?_
    · (conv => whnf); refine ⟨rfl, ?_, ?_⟩ <;> (conv => whnf) <;> (repeat' apply And.intro) <;> first | exact True.intro | rfl | (conv => rhs; whnf)
    rintro _ ⟨k, s2, p⟩ ⟨rfl, hq2, hl2, ho2, hp0, hp1, hp2, hk, hc2⟩
    simp only at hq2 hl2 ho2 hp0 hp1 hp2 hk hc2 ⊢
    conv => whnf
    refine Br.mk (fun hqa => ?_) (fun hqa => ?_) <;> conv => whnf
    · have hpl : p < s.length := by simpa using hqa
      obtain ⟨k, rfl⟩ : ∃ q, k = q + 1 := ⟨k - 1, by omega⟩
      rw [putGo, if_pos hqa] at hq2
      have hW : W (p + x.flow.period) = p + x.flow.period := w64 (by omega)
      have hW2 : W (p + x.flow.deadline) = p + x.flow.deadline := w64 (by omega)
      have hlen := relGo_len n x.flow.id (W (p + x.flow.deadline)) (by omega) r (r.length - 1) 0 s2 p hp0 (by omega)
      refine FnG.go rfl ?_; conv => whnf
      refine CallG.go (S176 n h.net h.chk s2 (by omega) (by omega) (by have := h.offs; omega) x.flow ⟨h4.1, by omega⟩ r hrl hrw p ⟨hp0, by omega⟩) ?_; conv => whnf
      have hrp : relP n s2 x.flow r p = relGo n x.flow.id (W (p + x.flow.deadline)) r (r.length - 1) 0 s2 p := rfl
      rw [← hrp] at hlen
      generalize relP n s2 x.flow r p = S at *
      obtain ⟨s3, b⟩ := S
      obtain ⟨e1, e2, e3⟩ := hlen
      simp only at e1 e2 e3 hq2
      refine Br.mk (fun hqb => ?_) (fun hqb => ?_) <;> conv => whnf
      · rw [if_pos hqb] at hq2
        rw [hq2] at hi
        rw [hbad hi]
        exact RetG.two rfl rfl
      · rw [if_neg (by rw [hqb]; simp)] at hq2
        refine ⟨k, (k, s3, W (p + x.flow.period)), by omega, ⟨rfl, hq2, by simp only; omega, by simp only; omega, by simp only [hW]; omega, by simp only [hW]; omega, by simp only [hW]; omega, by simp only [hW]; omega, by simp only [hW]; omega⟩, ?_⟩
        (conv => whnf); refine ⟨rfl, ?_, ?_⟩ <;> (conv => whnf) <;> (repeat' apply And.intro) <;> first | exact True.intro | rfl | (conv => rhs; whnf)
    · have hQ2 : Q = some s2 := by
        cases k with
        | zero => exact hq2
        | succ k => rw [hq2, putGo, if_neg (by rw [hqa]; simp)]
      rw [hQ2] at hi
      refine ⟨m - 1, (i + 1, s2), by omega, ⟨by simp only; omega, hi, hl2, ho2, by simp only; omega⟩, ?_⟩
      (conv => whnf); refine ⟨rfl, ?_, ?_⟩ <;> (conv => whnf) <;> (repeat' apply And.intro) <;> first | exact True.intro | rfl | (conv => rhs; whnf)
      exact incr (by omega)
  · have : x.routes.length ≤ i := by simpa using hq
    rw [List.drop_eq_nil_of_le this, placeGo] at hi
    rw [hgood _ hi]
    exact RetG.two rfl rfl
def cmpReq (a b : GReq) : Int := cmpI a.flow.id b.flow.id
theorem S173 (a b : GReq) : Sound Tryz.prog 173 [a.v, b.v] (i64 (cmpReq a b)) := by
  refine ex_intro mixedT T [] Tryz.func173 rfl (by rw [Tryz.ntmps173]; simp) (by kernel_rfl) ?_
  conv => whnf
  repeat' first | (refine LenG.map ?_; conv => whnf) | (refine LenG.go ?_; conv => whnf)
  repeat' first
    | (refine Br.T ?_; conv => whnf)
    | (refine Br.F ?_; conv => whnf)
    | (refine Br.mk (fun hq => ?_) (fun hq => ?_) <;> conv => whnf)
    | (refine FnG.go rfl ?_; conv => whnf)
    | (refine LenG.map ?_; conv => whnf)
    | (refine LenG.go ?_; conv => whnf)
    | (refine CallG.go (S174 _ _) ?_; conv => whnf)
  exact RetG.one rfl
def insR (q : List GReq) (x : GReq) : List GReq := q.take (bsI (fun y => cmpReq y x) q) ++ x :: q.drop (bsI (fun y => cmpReq y x) q)
theorem S86 (q : List GReq) (hq : q.length ≤ 1000000) (x : GReq) : Sound Tryz.prog 86 [reqsV q, x.v] (reqsV (insR q x)) := by
  refine ex_intro mixedT T [cutX 2 5] Tryz.func86 rfl (by rw [Tryz.ntmps86]; simp) (by kernel_rfl) ?_
  conv => whnf
  repeat' first | (refine LenG.map ?_; conv => whnf) | (refine LenG.go ?_; conv => whnf)
  refine FnG.go rfl ?_; conv => whnf
  refine CallG.go (S172 (g := 173) rfl q x (fun y => cmpReq y x) (fun y _ => S173 y _) (by show q.length < _; omega)) ?_; conv => whnf
  refine Nd.go (by kernel_rfl) ?_; conv => whnf
  refine FnG.go rfl ?_; conv => whnf
  refine CallG.go (S26f q (by omega)) ?_; conv => whnf
  have hb := bsI_le (fun y => cmpReq y x) q
  have hins : insR q x = q.take (bsI (fun y => cmpReq y x) q) ++ x :: q.drop (bsI (fun y => cmpReq y x) q) := rfl
  rw [hins]
  generalize bsI (fun y => cmpReq y x) q = p at *
  refine SemG.go (Sem.cons (kill := some _) (e := 47) (sz := 7) (xs := q.map GReq.c) (rest := [.tmp 15, .tmp 17]) rfl rfl ⟨rfl, rfl⟩ (by kernel_rfl) (by decide) rfl (fnOk rfl) (D175 q p x hb (by omega)) ?_)
  conv => whnf
  exact RetG.one rfl
def servesP (n : GNet) (q : List GReq) (s : GSched) : Bool := (makeP n q s).2.2 == 0
theorem S83 (n : GNet) (hn : n.ok) (q : List GReq) (hql : q.length ≤ 1000000) (hx : ∀ x ∈ q, x.ok) (s : GSched) (hs : s.cells.length ≤ 1000000) : Sound Tryz.prog 83 [n.v, reqsV q, s.v] (.bool (servesP n q s)) := by
  refine ex_intro mixedT T [] Tryz.func83 rfl (by rw [Tryz.ntmps83]; simp) (by kernel_rfl) ?_
  conv => whnf
  repeat' first | (refine LenG.map ?_; conv => whnf) | (refine LenG.go ?_; conv => whnf)
  repeat' first
    | (refine Br.T ?_; conv => whnf)
    | (refine Br.F ?_; conv => whnf)
    | (refine Br.mk (fun hq => ?_) (fun hq => ?_) <;> conv => whnf)
    | (refine FnG.go rfl ?_; conv => whnf)
    | (refine LenG.map ?_; conv => whnf)
    | (refine LenG.go ?_; conv => whnf)
    | (refine CallG.go (S30 n hn q hql hx s hs) ?_; conv => whnf)
  exact RetG.one rfl
def faultyQ (n : GNet) (q : List GReq) : Bool := (makeP n q zeroS).2.2 != 1 || decide ((makeP n q zeroS).2.1 ≥ 0)
theorem S85 (n : GNet) (hn : n.ok) (q : List GReq) (hql : q.length ≤ 1000000) (hx : ∀ x ∈ q, x.ok) : Sound Tryz.prog 85 [n.v, reqsV q] (.bool (faultyQ n q)) := by
  refine ex_intro mixedT T [] Tryz.func85 rfl (by rw [Tryz.ntmps85]; simp) (by kernel_rfl) ?_
  conv => whnf
  repeat' first | (refine LenG.map ?_; conv => whnf) | (refine LenG.go ?_; conv => whnf)
  repeat' first
    | (refine Br.T ?_; conv => whnf)
    | (refine Br.F ?_; conv => whnf)
    | (refine Br.mk (fun hq => ?_) (fun hq => ?_) <;> conv => whnf)
    | (refine FnG.go rfl ?_; conv => whnf)
    | (refine LenG.map ?_; conv => whnf)
    | (refine LenG.go ?_; conv => whnf)
    | (refine CallG.go (S30 n hn q hql hx zeroS (by decide)) ?_; conv => whnf)
  all_goals (refine RetG.one ?_; delta faultyQ; simp only [ret1, *, Bool.true_or, Bool.false_or, Bool.or_true, Bool.or_false, Bool.true_and, Bool.false_and, Bool.and_true, Bool.and_false, Bool.not_true, Bool.not_false, if_true, if_false, Bool.false_eq_true, reduceIte])
theorem S84 (x y : GReq) : Sound Tryz.prog 84 [y.v, .rp x.c] (.bool (y.flow.id == x.flow.id)) := by
  refine ex_intro mixedT T [] Tryz.func84 rfl (by rw [Tryz.ntmps84]; simp) (by kernel_rfl) ?_
  conv => whnf
  repeat' first | (refine LenG.map ?_; conv => whnf) | (refine LenG.go ?_; conv => whnf)
  repeat' first
    | (refine Br.T ?_; conv => whnf)
    | (refine Br.F ?_; conv => whnf)
    | (refine Br.mk (fun hq => ?_) (fun hq => ?_) <;> conv => whnf)
    | (refine FnG.go rfl ?_; conv => whnf)
    | (refine LenG.map ?_; conv => whnf)
    | (refine LenG.go ?_; conv => whnf)
  exact RetG.one rfl
theorem firstE_ge {f : Nat → Int} : ∀ (m i : Nat), (firstE f m i).2 ≠ 0 → 0 ≤ (firstE f m i).1
  | 0, i, h => absurd rfl h
  | m + 1, i, h => by
    rw [firstE] at h ⊢
    split
    · simp
    · rename_i h1; rw [if_neg h1] at h; exact firstE_ge m (i + 1) h
theorem flows_all {nodes : Int} {l : List GFlow} (h : ((flowsP nodes l).2 != 0) = false) : ∀ f ∈ l, flowErr nodes f = 0 := by
  unfold flowsP at h
  split at h
  · simp at h
  split at h
  · simp at h
  intro f hf
  obtain ⟨i, hi, rfl⟩ := List.getElem_of_mem hf
  have hz := firstE_ok _ _ (by simpa using h) i (by omega) (by omega)
  have e : gd l i = l[i] := by simp [gd, List.getD, hi]
  unfold flowAt at hz
  rw [e] at hz
  split at hz
  · exact hz
  · rename_i h1; simpa using h1
theorem flowErr_ok {nodes : Int} {f : GFlow} (h : flowErr nodes f = 0) : (1 ≤ f.period ∧ f.period ≤ 512) ∧ (0 ≤ f.phase ∧ f.phase < f.period) ∧ (1 ≤ f.deadline ∧ f.deadline ≤ f.period) ∧ 0 ≤ f.id ∧ f.id ≤ 255 := by
  unfold flowErr at h
  split at h
  · cases h
  split at h
  · cases h
  rename_i h2 h3
  simp only [Bool.or_eq_true, decide_eq_true_eq, not_or] at h2 h3
  omega
theorem faulty_ok {n : GNet} {q : List GReq} (hv : netErr n = 0) (h : faultyQ n q = false) : ((reqsP n q).2 != 0) = false := by
  cases hr : ((reqsP n q).2 != 0) with
  | false => rfl
  | true =>
    exfalso
    unfold faultyQ makeP at h
    rw [if_pos hr] at h
    simp only [Bool.or_eq_false_iff, decide_eq_false_iff_not] at h
    obtain ⟨h1, h2⟩ := h
    have h1 : (reqsP n q).2 = 1 := by simpa using h1
    unfold reqsP at h1 h2 hr
    rw [if_neg (by simp [hv])] at h1 h2 hr
    split at h1
    · rename_i h3
      rw [if_pos h3] at h2
      unfold flowsP at h1 h2
      split at h1
      · cases h1
      split at h1
      · cases h1
      rename_i h4 h5
      rw [if_neg h4, if_neg h5] at h2
      have := firstE_ge _ _ (by rw [h1]; decide : (firstE (flowAt n.nodes (flowsOf q)) (flowsOf q).length 0).2 ≠ 0)
      omega
    · rename_i h3
      rw [if_neg h3] at h2
      have := firstE_ge _ _ (by rw [h1]; decide : (firstE (reqAt n q) q.length 0).2 ≠ 0)
      omega
theorem sched_ok {n : GNet} {l : List GFlow} {s : GSched} (h : ((schedP n l s).2 != 0) = false) : sized s = true ∧ s.cells.length ≤ 512 := by
  unfold schedP at h
  split at h
  · simp at h
  split at h
  · simp at h
  split at h
  · simp at h
  split at h
  · simp at h
  split at h
  · simp at h
  rename_i h1 h2 h3 h4 h5
  refine ⟨by simpa using h3, by simp at h5; omega⟩
theorem serves_ok {n : GNet} {q : List GReq} {s : GSched} (h : servesP n q s = true) : ((reqsP n q).2 != 0) = false ∧ ((schedP n (flowsOf q) s).2 != 0) = false := by
  unfold servesP makeP at h
  split at h
  · rename_i h1
    simp only [beq_iff_eq] at h; rw [h] at h1; simp at h1
  rename_i h1
  split at h
  · simp at h
  rename_i h2
  exact ⟨Bool.eq_false_iff.2 h1, Bool.eq_false_iff.2 h2⟩
theorem mem_insR {q : List GReq} {x : GReq} : x ∈ insR q x := by simp [insR]
theorem insR_mem {q : List GReq} {x y : GReq} (h : y ∈ insR q x) : y = x ∨ y ∈ q := by
  rcases List.mem_append.1 h with h | h
  · exact .inr (List.mem_of_mem_take h)
  · rcases List.mem_cons.1 h with h | h
    · exact .inl h
    · exact .inr (List.mem_of_mem_drop h)
theorem place_ok {n : GNet} (hn : n.ok) {q : List GReq} {s : GSched} {x : GReq} (h1 : servesP n q s = true) (h2 : faultyQ n (insR q x) = false) : PlaceOk n s x := by
  obtain ⟨hr, hs⟩ := serves_ok h1
  obtain ⟨hv, _, _⟩ := reqsP_ok hr
  obtain ⟨_, hf, ho⟩ := reqsP_ok (faulty_ok hv h2)
  obtain ⟨hz, hc⟩ := sched_ok hs
  have hfx := flowErr_ok (flows_all hf x.flow (List.mem_map.2 ⟨x, mem_insR, rfl⟩))
  obtain ⟨r1, r2, r3⟩ := routesP_ok (ho x mem_insR)
  unfold sized at hz
  simp only [Bool.and_eq_true, decide_eq_true_eq] at hz
  refine ⟨hn, hv, by omega, by omega, by omega, hfx.1, by omega, by omega, r2, fun r hrr => ?_, fun r hrr i hi => ?_⟩
  · exact (faultP_ok (endsP_zero (r3 r hrr)).2).2.1
  · exact (goodLk_find (by rw [(faultP_ok (endsP_zero (r3 r hrr)).2).2.2 i hi]; rfl)).1
def admitP (n : GNet) (q : List GReq) (s : GSched) (x : GReq) : GSched × Int :=
  if !servesP n q s then (zeroS, 1) else if q.any (fun y => y.flow.id == x.flow.id) then (zeroS, 6) else if faultyQ n (insR q x) then (zeroS, 1)
  else if Int.tmod s.length x.flow.period != 0 then (zeroS, 11) else if !(placeP n s x).2 then (zeroS, 18) else if decide (((placeP n s x).1.cells.length : Int) > 512) then (zeroS, 8) else ((placeP n s x).1, 0)
theorem S27 (n : GNet) (hn : n.ok) (q : List GReq) (hql : q.length ≤ 900000) (hx : ∀ y ∈ q, y.ok) (s : GSched) (hs : s.cells.length ≤ 1000000) (x : GReq) (hxo : x.ok) :
    Sound Tryz.prog 27 [n.v, reqsV q, s.v, x.v] (.tup [(admitP n q s x).1.v, i64 (admitP n q s x).2]) := by
  have hil : (insR q x).length ≤ 1000000 := by
    have := bsI_le (fun y => cmpReq y x) q
    simp only [insR, List.length_append, List.length_take, List.length_cons, List.length_drop]; omega
  have hio : ∀ y ∈ insR q x, y.ok := fun y hy => (insR_mem hy).elim (fun e => e ▸ hxo) (hx y)
  refine ex_intro mixedT T [] Tryz.func27 rfl (by rw [Tryz.ntmps27]; simp) (by kernel_rfl) ?_
  conv => whnf
  repeat' first | (refine LenG.map ?_; conv => whnf) | (refine LenG.go ?_; conv => whnf)
  refine FnG.go rfl ?_; conv => whnf
  refine CallG.go (S83 n hn q (by omega) hx s hs) ?_; conv => whnf
  refine Br.mk (fun hq1 => ?_) (fun hq1 => ?_) <;> conv => whnf
  · rw [show admitP n q s x = (zeroS, 1) by unfold admitP; rw [if_pos hq1]]; exact RetG.two rfl rfl
  refine FnG.go rfl ?_; conv => whnf
  refine CallG.go (S45_1 rfl x.c q (fun y => y.flow.id == x.flow.id) (fun y _ => S84 x y) (by omega)) ?_; conv => whnf
  refine Br.mk (fun hq2 => ?_) (fun hq2 => ?_) <;> conv => whnf
  · rw [show admitP n q s x = (zeroS, 6) by unfold admitP; rw [hq1, hq2]; rfl]; exact RetG.two rfl rfl
  refine FnG.go rfl ?_; conv => whnf
  refine CallG.go (S86 q (by omega) x) ?_; conv => whnf
  refine FnG.go rfl ?_; conv => whnf
  refine CallG.go (S85 n hn (insR q x) hil hio) ?_; conv => whnf
  refine Br.mk (fun hq3 => ?_) (fun hq3 => ?_) <;> conv => whnf
  · rw [show admitP n q s x = (zeroS, 1) by unfold admitP; rw [hq1, hq2, hq3]; rfl]; exact RetG.two rfl rfl
  have hp := place_ok hn (by simpa using hq1) hq3
  have hper := hp.per
  refine Nd.go (by omega) ?_; conv => whnf
  refine Br.mk (fun hq4 => ?_) (fun hq4 => ?_) <;> conv => whnf
  · rw [show admitP n q s x = (zeroS, 11) by unfold admitP; rw [hq1, hq2, hq3, hq4]; rfl]; exact RetG.two rfl rfl
  refine FnG.go rfl ?_; conv => whnf
  refine CallG.go (S87 n s x hp) ?_; conv => whnf
  refine Br.mk (fun hq5 => ?_) (fun hq5 => ?_) <;> conv => whnf
  · rw [show admitP n q s x = (zeroS, 18) by unfold admitP; rw [hq1, hq2, hq3, hq4, hq5]; rfl]; exact RetG.two rfl rfl
  repeat' first | (refine LenG.map ?_; conv => whnf) | (refine LenG.go ?_; conv => whnf)
  refine Br.mk (fun hq6 => ?_) (fun hq6 => ?_) <;> conv => whnf
  · rw [show admitP n q s x = (zeroS, 8) by unfold admitP; rw [hq1, hq2, hq3, hq4, hq5, hq6]; rfl]; exact RetG.two rfl rfl
  rw [show admitP n q s x = ((placeP n s x).1, 0) by unfold admitP; rw [hq1, hq2, hq3, hq4, hq5, hq6]; rfl]
  refine FnG.go rfl ?_; conv => whnf
  refine CallG.go (S80o (placeP n s x).1.cells (by simp at hq6; omega)) ?_; conv => whnf
  exact RetG.two rfl rfl
def inC (l : List GCell) (x : GCell) : Bool := l.any fun y => decide (x = y)
theorem S179 (t : GSched) (ht : Cn t.cells) (c : GCell) : Sound Tryz.prog 179 [c.v, .rp t.c] (.bool (inC t.cells c)) := by
  refine ex_intro mixedT T [] Tryz.func179 rfl (by rw [Tryz.ntmps179]; simp) (by kernel_rfl) ?_
  conv => whnf
  repeat' first | (refine LenG.map ?_; conv => whnf) | (refine LenG.go ?_; conv => whnf)
  repeat' first
    | (refine Br.T ?_; conv => whnf)
    | (refine Br.F ?_; conv => whnf)
    | (refine Br.mk (fun hq => ?_) (fun hq => ?_) <;> conv => whnf)
    | (refine FnG.go rfl ?_; conv => whnf)
    | (refine LenG.map ?_; conv => whnf)
    | (refine LenG.go ?_; conv => whnf)
    | (refine CallG.go (S50 t.cells ht c) ?_; conv => whnf)
  exact RetG.one rfl
def onlyC (s t : GSched) : List GCell := s.cells.filter fun c => !inC t.cells c
theorem S92 (s t : GSched) (hs : s.cells.length ≤ 1000000) (ht : Cn t.cells) : Sound Tryz.prog 92 [s.v, t.v] (cellsV (onlyC s t)) := by
  refine ex_intro mixedT T [] Tryz.func92 rfl (by rw [Tryz.ntmps92]; simp) (by kernel_rfl) ?_
  conv => whnf
  repeat' first | (refine LenG.map ?_; conv => whnf) | (refine LenG.go ?_; conv => whnf)
  repeat' first
    | (refine Br.T ?_; conv => whnf)
    | (refine Br.F ?_; conv => whnf)
    | (refine Br.mk (fun hq => ?_) (fun hq => ?_) <;> conv => whnf)
    | (refine FnG.go rfl ?_; conv => whnf)
    | (refine LenG.map ?_; conv => whnf)
    | (refine LenG.go ?_; conv => whnf)
    | (refine CallG.go (S80f s.cells (by omega)) ?_; conv => whnf)
  refine SemG.go (Sem.cons (kill := some _) (e := 61) (sz := 5) (xs := s.cells.map GCell.c) (rest := [.tmp 8]) rfl rfl ⟨rfl, rfl⟩ (by kernel_rfl) (by decide) rfl (fnOk rfl) (D79_1 rfl t.c s.cells (inC t.cells) (fun c _ => S179 t ht c) (by omega)) ?_)
  conv => whnf
  exact RetG.one rfl
def differP (s t : GSched) : List GCell × List GCell × Int :=
  if !form s || !form t then ([], [], 1) else if s.length != t.length || s.offsets != t.offsets then ([], [], 11) else (onlyC s t, onlyC t s, 0)
theorem S29 (s t : GSched) (hs : s.cells.length ≤ 1000000) (ht : t.cells.length ≤ 1000000) : Sound Tryz.prog 29 [s.v, t.v] (.tup [cellsV (differP s t).1, cellsV (differP s t).2.1, i64 (differP s t).2.2]) := by
  have h1 : Cn s.cells := by show s.cells.length < _; omega
  have h2 : Cn t.cells := by show t.cells.length < _; omega
  refine ex_intro mixedT T [] Tryz.func29 rfl (by rw [Tryz.ntmps29]; simp) (by kernel_rfl) ?_
  conv => whnf
  repeat' first | (refine LenG.map ?_; conv => whnf) | (refine LenG.go ?_; conv => whnf)
  repeat' first
    | (refine Br.T ?_; conv => whnf)
    | (refine Br.F ?_; conv => whnf)
    | (refine Br.mk (fun hq => ?_) (fun hq => ?_) <;> conv => whnf)
    | (refine FnG.go rfl ?_; conv => whnf)
    | (refine LenG.map ?_; conv => whnf)
    | (refine LenG.go ?_; conv => whnf)
    | (refine CallG.go (S91 s h1) ?_; conv => whnf)
    | (refine CallG.go (S91 t h2) ?_; conv => whnf)
    | (refine CallG.go (S92 s t hs h2) ?_; conv => whnf)
    | (refine CallG.go (S92 t s ht h1) ?_; conv => whnf)
  all_goals (refine RetG.three ?_ ?_ ?_ <;> (delta differP; simp only [*, Bool.true_or, Bool.false_or, Bool.or_true, Bool.or_false, Bool.true_and, Bool.false_and, Bool.and_true, Bool.and_false, Bool.not_true, Bool.not_false, if_true, if_false, Bool.false_eq_true, reduceIte]; try rfl))
def addP (s : GSched) (c : GCell) : GSched × Int :=
  if !form s then (zeroS, 1) else if !formedC s c then (zeroS, 2) else if bsB (fun y => cmpCell y c) s.cells then (zeroS, 6)
  else if (s.cells.length : Int) == 512 then (zeroS, 8) else (⟨s.length, s.offsets, insC s.cells c⟩, 0)
theorem S43 (s : GSched) (hs : s.cells.length ≤ 1000000) (c : GCell) : Sound Tryz.prog 43 [s.v, c.v] (.tup [(addP s c).1.v, i64 (addP s c).2]) := by
  have h1 : Cn s.cells := by show s.cells.length < _; omega
  refine ex_intro mixedT T [cutX 10 6] Tryz.func43 rfl (by rw [Tryz.ntmps43]; simp) (by kernel_rfl) ?_
  conv => whnf
  repeat' first | (refine LenG.map ?_; conv => whnf) | (refine LenG.go ?_; conv => whnf)
  repeat' first
    | (refine Br.T ?_; conv => whnf)
    | (refine Br.F ?_; conv => whnf)
    | (refine Br.mk (fun hq => ?_) (fun hq => ?_) <;> conv => whnf)
    | (refine FnG.go rfl ?_; conv => whnf)
    | (refine LenG.map ?_; conv => whnf)
    | (refine LenG.go ?_; conv => whnf)
    | (refine CallG.go (S91 s h1) ?_; conv => whnf)
    | (refine CallG.go (S108 s c) ?_; conv => whnf)
    | (refine CallG.go (S109 (g := 110) rfl s.cells c (fun y => cmpCell y c) (fun y _ => S110 y c) h1) ?_; conv => whnf)
    | (refine Nd.go (by kernel_rfl) ?_; conv => whnf)
    | (refine CallG.go (S80f s.cells (by omega)) ?_; conv => whnf)
  all_goals try (refine RetG.two ?_ ?_ <;> (delta addP; simp only [*, Bool.true_or, Bool.false_or, Bool.or_true, Bool.or_false, Bool.true_and, Bool.false_and, Bool.and_true, Bool.and_false, Bool.not_true, Bool.not_false, if_true, if_false, Bool.false_eq_true, reduceIte]; rfl); done)
  have hR : addP s c = (⟨s.length, s.offsets, insC s.cells c⟩, 0) := by delta addP; simp only [*, Bool.true_or, Bool.false_or, Bool.or_true, Bool.or_false, Bool.true_and, Bool.false_and, Bool.and_true, Bool.and_false, Bool.not_true, Bool.not_false, if_true, if_false, Bool.false_eq_true, reduceIte]
  rw [hR]
  have hb := bsI_le (fun y => cmpCell y c) s.cells
  have hins : insC s.cells c = s.cells.take (bsI (fun y => cmpCell y c) s.cells) ++ c :: s.cells.drop (bsI (fun y => cmpCell y c) s.cells) := rfl
  rw [hins]
  clear hins hR
  generalize bsI (fun y => cmpCell y c) s.cells = p at *
  refine SemG.go (Sem.cons (kill := some _) (e := 61) (sz := 5) (xs := s.cells.map GCell.c) (rest := [.tmp 36, .tmp 38]) rfl rfl ⟨rfl, rfl⟩ (by kernel_rfl) (by decide) rfl (fnOk rfl) (D111 s.cells p c hb (by omega)) ?_)
  conv => whnf
  exact RetG.two rfl rfl
end Go.Proofs.YtbaajjihhdmdpaaGreatDoor

namespace Go.Proofs.YtbaajjihhdmdpaaGreatDoor
open Go.RowKit
set_option linter.unusedSectionVars false
set_option linter.unusedVariables false
set_option linter.unusedSimpArgs false
set_option linter.unnecessarySimpa false
set_option maxRecDepth 100000
/-- There is room for a cell among cells. -/
structure RoomC (n : GNet) (l : List GCell) (c : GCell) : Prop where
  link : goodLk n c.from_ c.to_ = true
  free : ∀ d ∈ l, d.slot = c.slot → touches c d = false
  good : goodCells n (c :: l.filter (atSame c)) = true
theorem good_same {n : GNet} {a b : List GCell} (h : a.Perm b) : goodCells n a = goodCells n b := good_perm n (h.map _)
theorem apart_perm {a b : List GCell} (h : a.Perm b) : (a.Pairwise fun c d => c.slot = d.slot → touches c d = false) ↔ b.Pairwise fun c d => c.slot = d.slot → touches c d = false :=
  h.pairwise_iff (R := fun c d => c.slot = d.slot → touches c d = false) fun {x y} k e => by rw [touches_comm]; exact k e.symm
theorem Calm.perm {n : GNet} {a b : List GCell} (h : a.Perm b) (k : Calm n a) : Calm n b :=
  ⟨fun c hc => k.link c (h.mem_iff.2 hc), (apart_perm h).1 k.apart, fun c hc => by
    rw [← good_same (h.filter (atSame c))]; exact k.calm c (h.mem_iff.2 hc)⟩
theorem calm_cons {n : GNet} {l : List GCell} {c : GCell} (h : Calm n l) : Calm n (c :: l) ↔ RoomC n l c := by
  constructor
  · intro k
    refine ⟨k.link c (by simp), fun d hd e => (List.pairwise_cons.1 k.apart).1 d hd e.symm, ?_⟩
    have := k.calm c (by simp)
    rwa [List.filter_cons, if_pos (atSame_refl c)] at this
  · intro k
    refine ⟨fun d hd => ?_, List.pairwise_cons.2 ⟨fun d hd e => k.free d hd e.symm, h.apart⟩, fun d hd => ?_⟩
    · rcases List.mem_cons.1 hd with rfl | hd
      · exact k.link
      · exact h.link d hd
    · by_cases hs : atSame d c = true
      · rw [atSame_eq hs, List.filter_cons, if_pos (atSame_refl c)]; exact k.good
      · rw [List.filter_cons, if_neg hs]
        rcases List.mem_cons.1 hd with rfl | hd
        · exact absurd (atSame_refl d) hs
        · exact h.calm d hd
/-! ### room and what Room finds -/
/-! ### a cell laid in its place -/
theorem bs_pos {α : Type} [Inhabited α] (c : α → Int) (l : List α) (hs : ∀ i j, i < j → j < l.length → c (gd l j) < 0 → c (gd l i) < 0) :
    bsI c l ≤ l.length ∧ (∀ j, j < bsI c l → c (gd l j) < 0) ∧ ∀ j, bsI c l ≤ j → j < l.length → 0 ≤ c (gd l j) := by
  obtain ⟨f, hf⟩ : ∃ f : Nat → Bool, f = fun k => decide (c (gd l k) < 0) && decide (k < l.length) := ⟨_, rfl⟩
  have hmono : ∀ i j, i ≤ j → f j = true → f i = true := by
    intro i j hij hj
    rw [hf] at hj ⊢
    simp only [Bool.and_eq_true, decide_eq_true_eq] at hj ⊢
    rcases Nat.lt_or_ge i j with h | h
    · exact ⟨hs i j h hj.2 hj.1, by omega⟩
    · obtain rfl : i = j := by omega
      exact hj
  have hcong : ∀ (q lo hi : Nat), hi - lo ≤ q → hi ≤ l.length → bsGo (fun k => decide (c (gd l k) < 0)) lo hi = bsGo f lo hi := by
    intro q
    induction q with
    | zero => intro lo hi h1 h2; rw [bsGo.eq_def (fun k => decide (c (gd l k) < 0)) lo hi, bsGo.eq_def f lo hi, dif_neg (by omega), dif_neg (by omega)]
    | succ q ih =>
      intro lo hi h1 h2
      rw [bsGo.eq_def (fun k => decide (c (gd l k) < 0)) lo hi, bsGo.eq_def f lo hi]
      split
      · rename_i hlt
        have e : f ((lo + hi) / 2) = decide (c (gd l ((lo + hi) / 2)) < 0) := by rw [hf]; simp; omega
        rw [e, ih _ _ (by omega) h2, ih _ _ (by omega) (by omega)]
      · rfl
  have hr : bsI c l = bsGo f 0 l.length := hcong _ 0 _ (Nat.le_refl _) (Nat.le_refl _)
  obtain ⟨_, h2, h3, h4⟩ := bsGo_spec f hmono _ 0 l.length (Nat.le_refl _) (by omega) (fun j hj => by omega) (.inr trivial)
  rw [← hr] at h2 h3 h4
  rw [hf] at h3 h4
  refine ⟨h2, fun j hj => ?_, fun j h5 h6 => ?_⟩
  · have := h3 j hj
    simp only [Bool.and_eq_true, decide_eq_true_eq] at this
    exact this.1
  · have := h4 j h5 h6
    simp only [Bool.and_eq_false_iff, decide_eq_false_iff_not] at this
    omega
theorem cell_nums {a b : GCell} (h : a.nums = b.nums) : a = b := by
  cases a; cases b
  simp only [GCell.nums, List.cons.injEq, and_true] at h
  obtain ⟨rfl, rfl, rfl, rfl, rfl⟩ := h
  rfl
theorem cmpCell_tot {a b : GCell} (h : ¬ cmpCell a b < 0) (k : ¬ cmpCell b a < 0) : a = b := cell_nums (cmpInts_tot _ _ rfl h k)
theorem cmpCell_gt {a b : GCell} (h : 0 ≤ cmpCell a b) (hne : a ≠ b) : cmpCell b a < 0 := by
  by_cases k : cmpCell b a < 0
  · exact k
  · exact absurd (cmpCell_tot (by omega) k) hne
theorem rising_mono {l : List GCell} (hr : Rising l) (c : GCell) : ∀ i j, i < j → j < l.length → cmpCell (gd l j) c < 0 → cmpCell (gd l i) c < 0 := fun i j hij hj h => by
  have := List.pairwise_iff_getElem.1 hr i j (by omega) hj hij
  rw [gd_at hj] at h
  rw [gd_at (by omega)]
  exact cmpCell_trans this h
theorem insC_perm (l : List GCell) (c : GCell) : (insC l c).Perm (c :: l) := by
  unfold insC
  have := List.perm_middle (a := c) (l₁ := l.take (bsI (fun y => cmpCell y c) l)) (l₂ := l.drop (bsI (fun y => cmpCell y c) l))
  rwa [List.take_append_drop] at this
theorem insC_mem {l : List GCell} {c x : GCell} : x ∈ insC l c ↔ x = c ∨ x ∈ l := by
  rw [(insC_perm l c).mem_iff, List.mem_cons]
theorem insC_rising {l : List GCell} (hr : Rising l) {c : GCell} (hc : c ∉ l) : Rising (insC l c) := by
  obtain ⟨h1, h2, h3⟩ := bs_pos (fun y => cmpCell y c) l (rising_mono hr c)
  unfold insC
  generalize bsI (fun y => cmpCell y c) l = p at *
  have hL : ∀ x ∈ l.take p, cmpCell x c < 0 := fun x hx => by
    obtain ⟨i, hi, rfl⟩ := List.getElem_of_mem hx
    rw [List.length_take] at hi
    have := h2 i (by omega)
    rw [gd_at (by omega)] at this
    rwa [List.getElem_take]
  have hR : ∀ x ∈ l.drop p, cmpCell c x < 0 := fun x hx => by
    have hm := List.mem_of_mem_drop hx
    obtain ⟨i, hi, rfl⟩ := List.getElem_of_mem hx
    rw [List.length_drop] at hi
    have := h3 (p + i) (by omega) (by omega)
    rw [gd_at (by omega)] at this
    rw [List.getElem_drop] at hm ⊢
    exact cmpCell_gt this (fun e => hc (e ▸ hm))
  refine List.pairwise_append.2 ⟨hr.sublist (List.take_sublist _ _), List.pairwise_cons.2 ⟨hR, hr.sublist (List.drop_sublist _ _)⟩, fun a ha b hb => ?_⟩
  rcases List.mem_cons.1 hb with rfl | hb
  · exact hL a ha
  · exact cmpCell_trans (hL a ha) (hR b hb)
theorem allFrom_iff (f : Nat → Bool) : ∀ (m i : Nat), allFrom f m i = true ↔ ∀ j, i ≤ j → j < i + m → f j = true
  | 0, i => by simp [allFrom]; intro j h1 h2; omega
  | m + 1, i => by
    rw [allFrom, Bool.and_eq_true, allFrom_iff f m (i + 1)]
    constructor
    · rintro ⟨h, k⟩ j h1 h2
      by_cases e : j = i
      · subst e; exact h
      · exact k j (by omega) (by omega)
    · intro k; exact ⟨k i (by omega) (by omega), fun j h1 h2 => k j (by omega) (by omega)⟩
theorem form_iff (s : GSched) : form s = true ↔ sized s = true ∧ s.cells.length ≤ 512 ∧ (∀ c ∈ s.cells, formedC s c = true) ∧ Rising s.cells := by
  unfold form
  rw [Bool.and_eq_true, Bool.and_eq_true, allFrom_iff, rising_iff, and_assoc]
  refine and_congr Iff.rfl (and_congr (by simp; omega) ?_)
  have at1 : ∀ i, formAt s i = true ↔ formedC s (gd s.cells i) = true ∧ (0 < i → cmpCell (gd s.cells (i - 1)) (gd s.cells i) < 0) := by
    intro i
    unfold formAt
    generalize gd s.cells i = c
    generalize gd s.cells (i - 1) = b
    generalize cmpCell b c = m
    cases formedC s c <;> by_cases h0 : 0 < i <;> by_cases hm : m < 0 <;> simp [h0, hm] <;> (try omega)
  constructor
  · intro h
    refine ⟨fun c hc => ?_, fun i h0 h1 => ((at1 i).1 (h i (by omega) (by omega))).2 h0⟩
    obtain ⟨i, hi, rfl⟩ := List.getElem_of_mem hc
    have := ((at1 i).1 (h i (by omega) (by omega))).1
    rwa [gd_at hi] at this
  · rintro ⟨h1, h2⟩ i _ hi
    exact (at1 i).2 ⟨h1 _ (gd_mem (by omega)), fun h0 => h2 i h0 (by omega)⟩
theorem findFl_iff (l : List GFlow) (id : Int) : 0 ≤ findFl l id ↔ ∃ f ∈ l, f.id = id := by
  unfold findFl
  rw [idxOf_ge, List.any_eq_true]
  simp
theorem flow_id {nodes : Int} {fl : List GFlow} (h : (flowsP nodes fl).2 = 0) {id : Int} (hf : 0 ≤ findFl fl id) : 0 ≤ id ∧ id ≤ 255 := by
  obtain ⟨f, hm, rfl⟩ := (findFl_iff _ _).1 hf
  exact (flowErr_ok (flows_all (by simpa using h) f hm)).2.2.2
theorem formed_of {n : GNet} (hv : netErr n = 0) {fl : List GFlow} (h : (flowsP n.nodes fl).2 = 0) {s : GSched} {c : GCell} (hp : placed s c = true) (hg : goodLk n c.from_ c.to_ = true) (hf : 0 ≤ findFl fl c.flow) : formedC s c = true := by
  have hn := (netOk_of hv).nodes
  have h1 := goodLk_node (netOk_of hv) hg
  have h2 := flow_id h hf
  unfold isNode at h1
  simp only [Bool.and_eq_true, decide_eq_true_eq] at h1
  unfold formedC
  simp only [Bool.and_eq_true, decide_eq_true_eq]
  exact ⟨⟨⟨hp, by omega⟩, by omega⟩, by omega⟩
theorem ValidS.form {n : GNet} {fl : List GFlow} {s : GSched} (h : ValidS n fl s) : form s = true :=
  (form_iff s).2 ⟨h.sized, h.many, fun c hc => formed_of h.net h.flows (h.at_ c hc).1 (h.calm.link c hc) (h.at_ c hc).2, h.rising⟩
/-- One list of cells holds another one, and more. -/
def Ext (a b : List GCell) : Prop := ∃ e : List GCell, b.Perm (e ++ a)
theorem Ext.refl (a : List GCell) : Ext a a := ⟨[], List.Perm.refl _⟩
theorem Ext.trans {a b c : List GCell} (h : Ext a b) (k : Ext b c) : Ext a c := by
  obtain ⟨e, h⟩ := h
  obtain ⟨f, k⟩ := k
  refine ⟨f ++ e, ?_⟩
  rw [List.append_assoc]
  exact k.trans (h.append_left f)
theorem Ext.ins (a : List GCell) (c : GCell) : Ext a (insC a c) := ⟨[c], insC_perm a c⟩
theorem Ext.mem {a b : List GCell} (h : Ext a b) {c : GCell} (hc : c ∈ a) : c ∈ b := by
  obtain ⟨e, h⟩ := h
  exact h.mem_iff.2 (List.mem_append.2 (.inr hc))
theorem Ext.more {s s' : GSched} (hl : s'.length = s.length) (h : Ext s.cells s'.cells) (id : Int) (l : GLink) : More s s' id l := by
  intro t
  obtain ⟨e, h⟩ := h
  unfold slotC
  rw [hl, (h.filter _).length_eq, List.filter_append, List.length_append]
  omega
structure Grid (n : GNet) (s g : GSched) (id : Int) : Prop where
  len : g.length = s.length
  offs : g.offsets = s.offsets
  rising : Rising g.cells
  calm : Calm n g.cells
  at_ : ∀ c ∈ g.cells, placed s c = true
  ext : Ext s.cells g.cells
  old : g.cells.filter (fun c => c.flow != id) = s.cells
theorem insC_filter {l : List GCell} {c : GCell} {p : GCell → Bool} (h : p c = false) : (insC l c).filter p = l.filter p := by
  unfold insC
  rw [List.filter_append, List.filter_cons, h, if_neg (by simp), ← List.filter_append, List.take_append_drop]
theorem offsL_room {n : GNet} {s : GSched} {l : GLink} {slot : Int} {o : Nat} (hg : goodLk n l.from_ l.to_ = true) (h : o ∈ offsL n s l slot) (id : Int) : (o : Int) < s.offsets ∧ RoomC n s.cells ⟨slot, o, l.from_, l.to_, id⟩ := by
  unfold offsL at h
  split at h
  · simp at h
  rename_i hno
  obtain ⟨h1, h2⟩ := List.mem_filter.1 h
  have h1 : o < s.offsets.toNat := by simp [List.mem_range'] at h1; omega
  refine ⟨by omega, hg, fun d hd e => ?_, ?_⟩
  · have hm : d ∈ hereL s.cells slot := List.mem_filter.2 ⟨hd, by simpa using e⟩
    simp only [Bool.not_eq_true, List.any_eq_false] at hno
    have := hno d hm
    rw [touches_comm]
    simpa [touchesL, touches] using this
  · unfold roomAtP at h2
    rw [← h2]
    refine good_perm n ?_
    have e : (hereL s.cells slot).filter (fun c => !(c.offset != (o : Int))) = s.cells.filter (atSame ⟨slot, o, l.from_, l.to_, id⟩) := by
      unfold hereL
      rw [List.filter_filter]
      refine List.filter_congr fun d _ => ?_
      unfold atSame
      simp only [bne, Bool.not_not]
      rw [Bool.and_comm]
    rw [e, List.map_cons, List.map_append]
    exact (List.perm_append_comm (l₁ := [endsC ⟨slot, o, l.from_, l.to_, id⟩])).trans (List.Perm.refl _)
theorem slot_grid {n : GNet} {s g : GSched} {id : Int} {l : GLink} {slot : Int} (hG : Grid n s g id) (hg : goodLk n l.from_ l.to_ = true) (hs : 0 ≤ slot ∧ slot < s.length) :
    Grid n s (slotP n g l id slot).1 id ∧ Ext g.cells (slotP n g l id slot).1.cells ∧ ((slotP n g l id slot).2 = true → ∀ t, Int.tmod t s.length = slot → 1 ≤ (slotC (slotP n g l id slot).1 id l t).length) := by
  have one : ∀ (L : List GCell) (c : GCell), c ∈ L → 1 ≤ L.length := fun L c h => by cases L with | nil => simp at h | cons a b => simp
  unfold slotP
  by_cases hh : g.cells.any (hasC l id slot) = true
  · rw [if_pos hh]
    refine ⟨hG, Ext.refl _, fun _ t ht => ?_⟩
    obtain ⟨c, h1, h2⟩ := List.any_eq_true.1 hh
    unfold hasC at h2
    simp only [Bool.and_eq_true, beq_iff_eq] at h2
    refine one _ c (List.mem_filter.2 ⟨h1, ?_⟩)
    unfold onC
    rw [hG.len, ht]
    simp only [Bool.and_eq_true, beq_iff_eq]
    exact ⟨h2.1.1.1, ⟨h2.2, h2.1.1.2⟩, h2.1.2⟩
  · rw [if_neg hh]
    cases ho : offsL n g l slot with
    | nil => exact ⟨hG, Ext.refl _, fun h => by cases h⟩
    | cons o r =>
      simp only
      obtain ⟨h1, h2⟩ := offsL_room (o := o) hg (by rw [ho]; simp : o ∈ offsL n g l slot) id
      have hc : (⟨slot, o, l.from_, l.to_, id⟩ : GCell) ∉ g.cells := fun hc => hh (List.any_eq_true.2 ⟨_, hc, by simp [hasC]⟩)
      refine ⟨⟨hG.len, hG.offs, insC_rising hG.rising hc, ((calm_cons hG.calm).2 h2).perm (insC_perm _ _).symm, fun c hm => ?_, hG.ext.trans (Ext.ins _ _), ?_⟩, Ext.ins _ _, fun _ t ht => ?_⟩
      · rcases insC_mem.1 hm with rfl | hm
        · have := hG.offs
          unfold placed insI; simp; omega
        · exact hG.at_ c hm
      · rw [insC_filter (by simp)]; exact hG.old
      · refine one _ ⟨slot, o, l.from_, l.to_, id⟩ (List.mem_filter.2 ⟨insC_mem.2 (.inl rfl), ?_⟩)
        simp only
        rw [hG.len, ht]
        simp [onC]
theorem fill_grid {n : GNet} {s : GSched} {id fin : Int} {l : GLink} (hg : goodLk n l.from_ l.to_ = true) (hlen : 1 ≤ s.length) (hf : fin ≤ 1000000) : ∀ (m : Nat) (g : GSched) (left : Nat) (p : Int), Grid n s g id → 0 ≤ p → p ≤ fin → left ≤ 1000000 →
    Grid n s (fillGo n l id fin m g left p).1 id ∧ Ext g.cells (fillGo n l id fin m g left p).1.cells ∧ p ≤ (fillGo n l id fin m g left p).2.2 ∧ (fillGo n l id fin m g left p).2.2 ≤ fin ∧
      (left : Int) ≤ (fillGo n l id fin m g left p).2.1 + (runT (fillGo n l id fin m g left p).1 id l ((fillGo n l id fin m g left p).2.2 - p).toNat p).length
  | 0, g, left, p, hG, h0, hp, hl => by
    simp only [fillGo]
    exact ⟨hG, Ext.refl _, Int.le_refl _, hp, by omega⟩
  | m + 1, g, left, p, hG, h0, hp, hl => by
    rw [fillGo]
    by_cases hc : (decide ((left : Int) > 0) && decide (p < fin)) = true
    · rw [if_pos hc]
      simp only [Bool.and_eq_true, decide_eq_true_eq] at hc
      have hWp : W (p + 1) = p + 1 := Wi (by omega)
      have hWl : W ((left : Int) - 1) = ((left - 1 : Nat) : Int) := by rw [Wi (by omega)]; omega
      have hslot : 0 ≤ Int.tmod p g.length ∧ Int.tmod p g.length < s.length := by
        rw [hG.len, Int.tmod_eq_emod_of_nonneg h0]
        exact ⟨Int.emod_nonneg _ (by omega), Int.emod_lt_of_pos _ (by omega)⟩
      obtain ⟨k1, k2, k3⟩ := slot_grid hG hg hslot
      have hk3 : (slotP n g l id (Int.tmod p g.length)).2 = true → 1 ≤ (slotC (slotP n g l id (Int.tmod p g.length)).1 id l p).length := fun h => k3 h p (by rw [hG.len])
      rw [hWp, hWl]
      generalize slotP n g l id (Int.tmod p g.length) = q at *
      have ite : (if q.2 = true then ((left - 1 : Nat) : Int) else (left : Int)) = ((if q.2 = true then left - 1 else left : Nat) : Int) := by split <;> rfl
      rw [ite]
      obtain ⟨i1, i2, i3, i4, i5⟩ := fill_grid hg hlen hf m q.1 (if q.2 = true then left - 1 else left) (p + 1) k1 (by omega) (by omega) (by split <;> omega)
      generalize fillGo n l id fin m q.1 ((if q.2 = true then left - 1 else left : Nat) : Int) (p + 1) = R at *
      refine ⟨i1, k2.trans i2, by omega, i4, ?_⟩
      rw [show (R.2.2 - p).toNat = (R.2.2 - (p + 1)).toNat + 1 by omega, runT, List.length_append, List.length_map]
      cases hq : q.2 with
      | true =>
        rw [hq] at i5
        simp only [if_true] at i5
        have h1 := hk3 hq
        have h2 := Ext.more (i1.len.trans k1.len.symm) i2 id l p
        omega
      | false =>
        rw [hq] at i5
        simp only [Bool.false_eq_true, if_false] at i5
        omega
    · rw [if_neg hc]
      exact ⟨hG, Ext.refl _, Int.le_refl _, hp, by simp only; omega⟩
/-- The links of a route from a hop on. -/
def linksFrom (n : GNet) (r : List Int) (i m : Nat) : List GLink := (List.range' i m).map fun j => ⟨gd r j, gd r (j + 1), lossLk n (gd r j) (gd r (j + 1))⟩
theorem hopsL_from (n : GNet) (r : List Int) : hopsL n r = linksFrom n r 0 (r.length - 1) := by
  unfold hopsL linksFrom
  rw [List.range_eq_range']
theorem hopL_eq {n : GNet} {r : List Int} {i : Nat} (h : goodLk n (gd r i) (gd r (i + 1)) = true) : hopL n r i = ⟨gd r i, gd r (i + 1), lossLk n (gd r i) (gd r (i + 1))⟩ := by
  have h1 := findLk_is (goodLk_find (n := n) (a := gd r i) (b := gd r (i + 1)) (by rw [h]; rfl)).1
  have e : hopL n r i = ⟨(gi n.links (findLk n (gd r i) (gd r (i + 1)))).from_, (gi n.links (findLk n (gd r i) (gd r (i + 1)))).to_, (gi n.links (findLk n (gd r i) (gd r (i + 1)))).loss⟩ := rfl
  rw [e, h1.1, h1.2]; rfl
theorem lossLk_ok {n : GNet} (hv : netErr n = 0) {a b : Int} (h : goodLk n a b = true) : 0 ≤ lossLk n a b ∧ lossLk n a b ≤ 7 := by
  have h0 := (goodLk_find (n := n) (a := a) (b := b) (by rw [h]; rfl)).1
  exact ((netOk_of hv).at (findLk_lt n a b h0)).loss
theorem rel_grid {n : GNet} (hv : netErr n = 0) {s : GSched} {id fin : Int} {r : List Int} (hr : ∀ i, i + 1 < r.length → goodLk n (gd r i) (gd r (i + 1)) = true) (hlen : 1 ≤ s.length) (hf : fin ≤ 1000000) : ∀ (m i : Nat) (g : GSched) (p : Int), Grid n s g id → 0 ≤ p → p ≤ fin → i + m < r.length →
    Grid n s (relGo n id fin r m i g p).1 id ∧ Ext g.cells (relGo n id fin r m i g p).1.cells ∧ ((relGo n id fin r m i g p).2 = true → Way (relGo n id fin r m i g p).1 id (linksFrom n r i m) p fin)
  | 0, i, g, p, hG, h0, hp, hi => by
    simp only [relGo]
    exact ⟨hG, Ext.refl _, fun _ => hp⟩
  | m + 1, i, g, p, hG, h0, hp, hi => by
    have hg := hr i (by omega)
    have hl := lossLk_ok hv hg
    rw [relGo, hopL_eq hg]
    unfold fillP
    simp only
    have hW : W (lossLk n (gd r i) (gd r (i + 1)) + 1) = ((lossLk n (gd r i) (gd r (i + 1)) + 1).toNat : Int) := by rw [Wi (by omega)]; omega
    rw [hW]
    obtain ⟨k1, k2, k3, k4, k5⟩ := fill_grid (l := ⟨gd r i, gd r (i + 1), lossLk n (gd r i) (gd r (i + 1))⟩) hg hlen hf ((fin - p).toNat + 1) g (lossLk n (gd r i) (gd r (i + 1)) + 1).toNat p hG h0 hp (by omega)
    generalize hR : fillGo n ⟨gd r i, gd r (i + 1), lossLk n (gd r i) (gd r (i + 1))⟩ id fin ((fin - p).toNat + 1) g ((lossLk n (gd r i) (gd r (i + 1)) + 1).toNat : Int) p = R at *
    by_cases hq : R.2.1 > 0
    · rw [if_pos (by simpa using hq)]
      exact ⟨k1, k2, fun h => by cases h⟩
    · rw [if_neg (by simpa using hq)]
      obtain ⟨i1, i2, i3⟩ := rel_grid hv hr hlen hf m (i + 1) R.1 R.2.2 k1 (by omega) k4 (by omega)
      refine ⟨i1, k2.trans i2, fun h => ?_⟩
      have := i3 h
      unfold linksFrom
      rw [List.range'_succ, List.map_cons]
      refine ⟨R.2.2, k3, ?_, this⟩
      have h6 := (Ext.more (i1.len.trans k1.len.symm) i2 id ⟨gd r i, gd r (i + 1), lossLk n (gd r i) (gd r (i + 1))⟩).run (R.2.2 - p).toNat p
      simp only at k5 ⊢
      omega
theorem put_grid {n : GNet} (hv : netErr n = 0) {s : GSched} {f : GFlow} {r : List Int} (hr : ∀ i, i + 1 < r.length → goodLk n (gd r i) (gd r (i + 1)) = true) (hlen : 1 ≤ s.length ∧ s.length ≤ 512) (hper : 1 ≤ f.period ∧ f.period ≤ 512) (hd : 0 ≤ f.deadline ∧ f.deadline ≤ f.period) : ∀ (m : Nat) (g g' : GSched) (p : Int), Grid n s g f.id → 0 ≤ p → p ≤ 2000 → 2 ≤ r.length → putGo n f s.length r m g p = some g' →
    Grid n s g' f.id ∧ Ext g.cells g'.cells ∧ ∀ rel ∈ relsGo f s.length m p, Way g' f.id (hopsL n r) rel (rel + f.deadline)
  | 0, g, g', p, hG, h0, hp, hr2, h => by
    simp only [putGo, Option.some.injEq] at h
    subst h
    exact ⟨hG, Ext.refl _, fun rel hrel => by simp [relsGo] at hrel⟩
  | m + 1, g, g', p, hG, h0, hp, hr2, h => by
    rw [putGo] at h
    rw [relsGo]
    by_cases hlt : p < s.length
    · rw [if_pos (by simpa using hlt)] at h
      rw [if_pos hlt]
      have hWf : W (p + f.deadline) = p + f.deadline := Wi (by omega)
      have hWp : W (p + f.period) = p + f.period := Wi (by omega)
      have hrel : relP n g f r p = relGo n f.id (p + f.deadline) r (r.length - 1) 0 g p := by unfold relP; rw [hWf]
      obtain ⟨k1, k2, k3⟩ := rel_grid hv (fin := p + f.deadline) hr hlen.1 (by omega) (r.length - 1) 0 g p hG h0 (by omega) (by omega)
      rw [← hrel] at k1 k2 k3
      rw [hWp] at h
      generalize relP n g f r p = R at *
      cases hR : R.2 with
      | false => rw [hR] at h; simp at h
      | true =>
        rw [hR] at h
        simp only [Bool.not_true, Bool.false_eq_true, if_false] at h
        obtain ⟨i1, i2, i3⟩ := put_grid hv hr hlen hper hd m R.1 g' (p + f.period) k1 (by omega) (by omega) hr2 h
        refine ⟨i1, k2.trans i2, fun rel hm => ?_⟩
        rcases List.mem_cons.1 hm with rfl | hm
        · rw [hopsL_from]
          exact (k3 hR).more fun l _ => Ext.more (i1.len.trans k1.len.symm) i2 f.id l
        · exact i3 rel hm
    · rw [if_neg (by simpa using hlt)] at h
      simp only [Option.some.injEq] at h
      subst h
      rw [if_neg hlt]
      exact ⟨hG, Ext.refl _, fun rel hrel => by simp at hrel⟩
theorem place_grid {n : GNet} (hv : netErr n = 0) {s : GSched} {f : GFlow} (hlen : 1 ≤ s.length ∧ s.length ≤ 512) (hper : 1 ≤ f.period ∧ f.period ≤ 512) (hd : 0 ≤ f.deadline ∧ f.deadline ≤ f.period) (hph : 0 ≤ f.phase ∧ f.phase ≤ 512) : ∀ (rs : List (List Int)) (g g' : GSched), Grid n s g f.id → (∀ r ∈ rs, 2 ≤ r.length ∧ ∀ i, i + 1 < r.length → goodLk n (gd r i) (gd r (i + 1)) = true) → placeGo n f s.length rs g = some g' →
    Grid n s g' f.id ∧ Ext g.cells g'.cells ∧ ∀ r ∈ rs, ∀ rel ∈ rels f s.length, Way g' f.id (hopsL n r) rel (rel + f.deadline)
  | [], g, g', hG, hrs, h => by
    simp only [placeGo, Option.some.injEq] at h
    subst h
    exact ⟨hG, Ext.refl _, fun r hr => by simp at hr⟩
  | r :: rs, g, g', hG, hrs, h => by
    rw [placeGo] at h
    cases hp : putGo n f s.length r (s.length.toNat + 1) g f.phase with
    | none => rw [hp] at h; cases h
    | some g1 =>
      rw [hp] at h
      simp only at h
      have hr := hrs r (by simp)
      obtain ⟨k1, k2, k3⟩ := put_grid hv hr.2 hlen hper hd _ g g1 f.phase hG hph.1 (by omega) hr.1 hp
      obtain ⟨i1, i2, i3⟩ := place_grid hv hlen hper hd hph rs g1 g' k1 (fun x hx => hrs x (by simp [hx])) h
      refine ⟨i1, k2.trans i2, fun r' hr' rel hrel => ?_⟩
      rcases List.mem_cons.1 hr' with rfl | hr'
      · exact (k3 rel hrel).more fun l _ => Ext.more (i1.len.trans k1.len.symm) i2 f.id l
      · exact i3 r' hr' rel hrel
end Go.Proofs.YtbaajjihhdmdpaaGreatDoor

namespace Go.Proofs.YtbaajjihhdmdpaaGreatDoor
open Go.RowKit
set_option linter.unusedSectionVars false
set_option linter.unusedVariables false
set_option linter.unusedSimpArgs false
set_option linter.unnecessarySimpa false
set_option maxRecDepth 100000
set_option maxHeartbeats 4000000
theorem S99 (a b : List Int) (ha : Cn a) (hb : Cn b) : Sound Tryz.prog 99 [intsV a, intsV b] (.bool (decide (a = b))) := by
  refine ex_intro mixedT T [] Tryz.func99 rfl (by rw [Tryz.ntmps99]; simp) (by kernel_rfl) ?_
  conv => whnf
  repeat' first | (refine LenG.map ?_; conv => whnf) | (refine LenG.go ?_; conv => whnf)
  repeat' first | (refine LenG.map ?_; conv => whnf) | (refine LenG.go ?_; conv => whnf)
  refine Br.mk (fun hq => ?_) (fun hq => ?_) <;> conv => whnf
  · have : a ≠ b := fun e => by subst e; simp at hq
    rw [decide_eq_false this]; exact RetG.one rfl
  have hlen : a.length = b.length := by simp at hq; omega
  refine Lp.go T [] (fun i : Nat => [(0, intsV a), (1, intsV b), (5, i64 i)]) (fun _ => []) (fun m i => m + i = a.length ∧ ∀ j, j < i → gd a j = gd b j) a.length 0 ⟨by simp, fun j h => by omega⟩ [] ?_ ?_
  · (conv => whnf); refine ⟨rfl, ?_, ?_⟩ <;> (conv => whnf) <;> (repeat' apply And.intro) <;> first | exact True.intro | rfl | (conv => rhs; whnf)
  rintro m i ⟨hm, hi⟩
  conv => whnf
  repeat' first | (refine LenG.map ?_; conv => whnf) | (refine LenG.go ?_; conv => whnf)
  refine Br.mk (fun hq => ?_) (fun hq => ?_) <;> conv => whnf
  · have hlt : i < a.length := by simpa using hq
    refine Ix.at (l := a) hlt rfl ?_; conv => whnf
    refine Ix.at (l := b) (by omega) rfl ?_; conv => whnf
    rw [int_dec']
    refine Br.mk (fun hq2 => ?_) (fun hq2 => ?_) <;> conv => whnf
    · have : a ≠ b := fun e => by subst e; simp at hq2
      rw [decide_eq_false this]; exact RetG.one rfl
    · refine ⟨m - 1, i + 1, by omega, ⟨by omega, fun j hj => ?_⟩, ?_⟩
      · by_cases e : j = i
        · subst e; simpa using hq2
        · exact hi j (by omega)
      · (conv => whnf); refine ⟨rfl, ?_, ?_⟩ <;> (conv => whnf) <;> (repeat' apply And.intro) <;> first | exact True.intro | rfl | (conv => rhs; whnf)
        exact incr (by omega)
  · have hge : a.length ≤ i := by simpa using hq
    have : a = b := by
      apply List.ext_getElem hlen
      intro j h1 h2
      have := hi j (by omega)
      simpa [gd, h1, h2] using this
    rw [decide_eq_true this]; exact RetG.one rfl
theorem S98 (a b : List (List Int)) (ha : Cn a) (hb : Cn b) (hra : ∀ r ∈ a, Cn r) (hrb : ∀ r ∈ b, Cn r) : Sound Tryz.prog 98 [rowsV a, rowsV b] (.bool (decide (a = b))) := by
  refine ex_intro mixedT T [] Tryz.func98 rfl (by rw [Tryz.ntmps98]; simp) (by kernel_rfl) ?_
  conv => whnf
  repeat' first | (refine LenG.map ?_; conv => whnf) | (refine LenG.go ?_; conv => whnf)
  repeat' first | (refine LenG.map ?_; conv => whnf) | (refine LenG.go ?_; conv => whnf)
  refine Br.mk (fun hq => ?_) (fun hq => ?_) <;> conv => whnf
  · have : a ≠ b := fun e => by subst e; simp at hq
    rw [decide_eq_false this]; exact RetG.one rfl
  have hlen : a.length = b.length := by simp at hq; omega
  refine Lp.go T [] (fun i : Nat => [(0, rowsV a), (1, rowsV b), (5, i64 i)]) (fun _ => []) (fun m i => m + i = a.length ∧ ∀ j, j < i → gd a j = gd b j) a.length 0 ⟨by simp, fun j h => by omega⟩ [] ?_ ?_
  · (conv => whnf); refine ⟨rfl, ?_, ?_⟩ <;> (conv => whnf) <;> (repeat' apply And.intro) <;> first | exact True.intro | rfl | (conv => rhs; whnf)
  rintro m i ⟨hm, hi⟩
  conv => whnf
  repeat' first | (refine LenG.map ?_; conv => whnf) | (refine LenG.go ?_; conv => whnf)
  refine Br.mk (fun hq => ?_) (fun hq => ?_) <;> conv => whnf
  · have hlt : i < a.length := by simpa using hq
    refine Ix.at (l := a) hlt rfl ?_; conv => whnf
    refine Ix.at (l := b) (by omega) rfl ?_; conv => whnf
    refine FnG.go rfl ?_; conv => whnf
    refine CallG.go (S99 _ _ (hra _ (gd_mem hlt)) (hrb _ (gd_mem (i := i) (by omega)))) ?_; conv => whnf
    refine Br.mk (fun hq2 => ?_) (fun hq2 => ?_) <;> conv => whnf
    · have : a ≠ b := fun e => by subst e; simp at hq2
      rw [decide_eq_false this]; exact RetG.one rfl
    · refine ⟨m - 1, i + 1, by omega, ⟨by omega, fun j hj => ?_⟩, ?_⟩
      · by_cases e : j = i
        · subst e; simpa using hq2
        · exact hi j (by omega)
      · (conv => whnf); refine ⟨rfl, ?_, ?_⟩ <;> (conv => whnf) <;> (repeat' apply And.intro) <;> first | exact True.intro | rfl | (conv => rhs; whnf)
        exact incr (by omega)
  · have hge : a.length ≤ i := by simpa using hq
    have : a = b := by
      apply List.ext_getElem hlen
      intro j h1 h2
      have := hi j (by omega)
      simpa [gd, h1, h2] using this
    rw [decide_eq_true this]; exact RetG.one rfl
theorem any_gd {α : Type} [Inhabited α] {l : List α} {p : α → Bool} {i : Nat} (h : i < l.length) (hp : p (gd l i) = true) : l.any p = true := List.any_eq_true.2 ⟨_, gd_mem h, hp⟩
theorem none_gd {α : Type} [Inhabited α] {l : List α} {p : α → Bool} (h : ∀ j, j < l.length → p (gd l j) = false) : l.any p = false := by
  rw [List.any_eq_false]
  intro x hx
  obtain ⟨i, hi, rfl⟩ := List.getElem_of_mem hx
  have := h i hi
  rw [show gd l i = l[i] by simp [gd, List.getD, hi]] at this
  rw [this]; simp
theorem upto_succ {p : Nat → Prop} {i : Nat} (h : ∀ j, j < i → p j) (k : p i) : ∀ j, j < i + 1 → p j := fun j hj => by
  rcases Nat.lt_succ_iff_lt_or_eq.1 hj with h1 | rfl
  · exact h j h1
  · exact k
def longR (r : List Int) : Bool := decide ((r.length : Int) > 12)
def few37 (n : GNet) (s : GSched) (l : List (List Int)) : Bool := if l.any longR then false else fewNet n && decide ((s.cells.length : Int) ≤ 24) && decide ((l.length : Int) ≤ 3)
theorem S82 (n : GNet) (hn : n.ok) (s : GSched) (hs : Cn s.cells) (l : List (List Int)) (hl : Cn l) : Sound Tryz.prog 82 [n.v, s.v, rowsV l] (.bool (few37 n s l)) := by
  obtain ⟨R, hR⟩ : ∃ R, few37 n s l = R := ⟨_, rfl⟩
  rw [hR]
  unfold few37 at hR
  refine ex_intro mixedT T [] Tryz.func82 rfl (by rw [Tryz.ntmps82]; simp) (by kernel_rfl) ?_
  conv => whnf
  repeat' first | (refine LenG.map ?_; conv => whnf) | (refine LenG.go ?_; conv => whnf)
  refine Lp.go T [.t 3, .t 4] (fun i : Nat => [(2, rowsV l), (3, .op 0 0), (4, .op 1 0), (7, i64 i)]) (fun _ => [.box n.c, .box s.c]) (fun m i => m + i = l.length ∧ ∀ j, j < i → longR (gd l j) = false) l.length 0 ⟨by simp, by simp⟩ [.t 3, .t 4] ?_ ?_
  · (conv => whnf); refine ⟨rfl, ?_, ?_⟩ <;> (conv => whnf) <;> (repeat' apply And.intro) <;> first | exact True.intro | rfl | (conv => rhs; whnf)
  rintro m i ⟨hm, hi⟩
  conv => whnf
  repeat' first | (refine LenG.map ?_; conv => whnf) | (refine LenG.go ?_; conv => whnf)
  refine Br.mk (fun hq => ?_) (fun hq => ?_) <;> conv => whnf
  · have hlt : i < l.length := by simpa using hq
    refine Ix.at (l := l) hlt rfl ?_; conv => whnf
    repeat' first | (refine LenG.map ?_; conv => whnf) | (refine LenG.go ?_; conv => whnf)
    refine Br.mk (fun hq2 => ?_) (fun hq2 => ?_) <;> conv => whnf
    · rw [if_pos (any_gd hlt hq2)] at hR
      rw [← hR]; exact RetG.one rfl
    · refine ⟨m - 1, i + 1, by omega, ⟨by omega, upto_succ hi hq2⟩, ?_⟩
      (conv => whnf); refine ⟨rfl, ?_, ?_⟩ <;> (conv => whnf) <;> (repeat' apply And.intro) <;> first | exact True.intro | rfl | (conv => rhs; whnf)
      exact incr (by omega)
  · have hge : l.length ≤ i := by simpa using hq
    rw [if_neg (by rw [none_gd fun j hj => hi j (by omega)]; simp)] at hR
    rw [← hR]
    clear hR hi hm hq
    repeat' first
      | (refine Br.T ?_; conv => whnf)
      | (refine Br.F ?_; conv => whnf)
      | (refine Br.mk (fun hq => ?_) (fun hq => ?_) <;> conv => whnf)
      | (refine FnG.go rfl ?_; conv => whnf)
      | (refine LenG.map ?_; conv => whnf)
      | (refine LenG.go ?_; conv => whnf)
      | (refine CallG.go (S18 n hn) ?_; conv => whnf)
    all_goals (refine RetG.one ?_; simp only [ret1, *, Bool.true_or, Bool.false_or, Bool.or_true, Bool.or_false, Bool.true_and, Bool.false_and, Bool.and_true, Bool.and_false, Bool.not_true, Bool.not_false, if_true, if_false, Bool.false_eq_true, reduceIte])
def bigReq (n : GNet) (x : GReq) : Bool := !few37 n zeroS x.routes
def few38 (n : GNet) (q : List GReq) (s : GSched) : Bool := if q.any (bigReq n) then false else fewNet n && decide ((q.length : Int) ≤ 4) && decide ((s.cells.length : Int) ≤ 30)
theorem S25 (n : GNet) (hn : n.ok) (q : List GReq) (hql : Cn q) (hx : ∀ x ∈ q, x.ok) (s : GSched) (hs : Cn s.cells) : Sound Tryz.prog 25 [n.v, reqsV q, s.v] (.bool (few38 n q s)) := by
  obtain ⟨R, hR⟩ : ∃ R, few38 n q s = R := ⟨_, rfl⟩
  rw [hR]
  unfold few38 at hR
  refine ex_intro mixedT T [] Tryz.func25 rfl (by rw [Tryz.ntmps25]; simp) (by kernel_rfl) ?_
  conv => whnf
  repeat' first | (refine LenG.map ?_; conv => whnf) | (refine LenG.go ?_; conv => whnf)
  refine Lp.go T [.t 3, .t 5] (fun i : Nat => [(1, reqsV q), (3, .op 0 0), (5, .op 1 0), (7, i64 i)]) (fun _ => [.box n.c, .box s.c]) (fun m i => m + i = q.length ∧ ∀ j, j < i → bigReq n (gd q j) = false) q.length 0 ⟨by simp, by simp⟩ [.t 3, .t 5] ?_ ?_
  · (conv => whnf); refine ⟨rfl, ?_, ?_⟩ <;> (conv => whnf) <;> (repeat' apply And.intro) <;> first | exact True.intro | rfl | (conv => rhs; whnf)
  rintro m i ⟨hm, hi⟩
  conv => whnf
  repeat' first | (refine LenG.map ?_; conv => whnf) | (refine LenG.go ?_; conv => whnf)
  refine Br.mk (fun hq => ?_) (fun hq => ?_) <;> conv => whnf
  · have hlt : i < q.length := by simpa using hq
    have hxo := hx _ (gd_mem hlt)
    refine Ix.at (l := q) hlt rfl ?_; conv => whnf
    refine FnG.go rfl ?_; conv => whnf
    refine CallG.go (S82 n hn zeroS (by decide) (gd q i).routes hxo.routes) ?_; conv => whnf
    refine Br.mk (fun hq2 => ?_) (fun hq2 => ?_) <;> conv => whnf
    · rw [if_pos (any_gd hlt hq2)] at hR
      rw [← hR]; exact RetG.one rfl
    · refine ⟨m - 1, i + 1, by omega, ⟨by omega, upto_succ hi hq2⟩, ?_⟩
      (conv => whnf); refine ⟨rfl, ?_, ?_⟩ <;> (conv => whnf) <;> (repeat' apply And.intro) <;> first | exact True.intro | rfl | (conv => rhs; whnf)
      exact incr (by omega)
  · have hge : q.length ≤ i := by simpa using hq
    rw [if_neg (by rw [none_gd fun j hj => hi j (by omega)]; simp)] at hR
    rw [← hR]
    clear hR hi hm hq
    repeat' first
      | (refine Br.T ?_; conv => whnf)
      | (refine Br.F ?_; conv => whnf)
      | (refine Br.mk (fun hq => ?_) (fun hq => ?_) <;> conv => whnf)
      | (refine FnG.go rfl ?_; conv => whnf)
      | (refine LenG.map ?_; conv => whnf)
      | (refine LenG.go ?_; conv => whnf)
      | (refine CallG.go (S18 n hn) ?_; conv => whnf)
    all_goals (refine RetG.one ?_; simp only [ret1, *, Bool.true_or, Bool.false_or, Bool.or_true, Bool.or_false, Bool.true_and, Bool.false_and, Bool.and_true, Bool.and_false, Bool.not_true, Bool.not_false, if_true, if_false, Bool.false_eq_true, reduceIte])
structure GClaim.ok (c : GClaim) : Prop where
  routes : Cn c.routes
  rows : ∀ r ∈ c.routes, Cn r
  bounds : Cn c.bounds
  worst : Cn c.worst
  slots : Cn c.slots
  srows : ∀ r ∈ c.slots, Cn r
theorem S36 (a b : GClaim) (ha : a.ok) (hb : b.ok) : Sound Tryz.prog 36 [a.v, b.v] (.bool (decide (a = b))) := by
  have hne : ∀ {p : Prop}, (a = b → p) → ¬ p → decide (a = b) = false := fun h k => decide_eq_false fun e => k (h e)
  refine ex_intro mixedT T [] Tryz.func36 rfl (by rw [Tryz.ntmps36]; simp) (by kernel_rfl) ?_
  conv => whnf
  repeat' first | (refine LenG.map ?_; conv => whnf) | (refine LenG.go ?_; conv => whnf)
  repeat' first
    | (refine Br.T ?_; conv => whnf)
    | (refine Br.F ?_; conv => whnf)
    | (refine LenG.map ?_; conv => whnf)
    | (refine LenG.go ?_; conv => whnf)
    | (refine FnG.go rfl ?_; conv => whnf)
    | (refine CallG.go (S98 a.routes b.routes ha.routes hb.routes ha.rows hb.rows) ?_; conv => whnf)
    | (refine CallG.go (S99 a.bounds b.bounds ha.bounds hb.bounds) ?_; conv => whnf)
    | (refine CallG.go (S99 a.worst b.worst ha.worst hb.worst) ?_; conv => whnf)
    | (refine Br.mk (fun hq => ?_) (fun hq => ?_) <;> conv => whnf)
  · rw [hne (p := a.flow = b.flow) (fun e => by rw [e]) (by simpa using hq)]; exact RetG.one rfl
  · rw [hne (p := a.routes = b.routes) (fun e => by rw [e]) (by simpa using hq)]; exact RetG.one rfl
  · rw [hne (p := a.bounds = b.bounds) (fun e => by rw [e]) (by simpa using hq)]; exact RetG.one rfl
  · rw [hne (p := a.worst = b.worst) (fun e => by rw [e]) (by simpa using hq)]; exact RetG.one rfl
  · rw [hne (p := a.slots.length = b.slots.length) (fun e => by rw [e]) (by simp at hq; omega)]; exact RetG.one rfl
  rename_i h1 h2 h3 h4
  have h5 := hq
  clear hq
  have hlen : a.slots.length = b.slots.length := by simp at h5; omega
  have hsl := ha.slots
  refine Lp.go T [.t 2, .t 3] (fun i : Nat => [(2, .op 0 0), (3, .op 1 0), (5, i64 i)]) (fun _ => [.box a.c, .box b.c]) (fun m i => m + i = a.slots.length ∧ ∀ j, j < i → gd a.slots j = gd b.slots j) a.slots.length 0 ⟨by simp, by simp⟩ [.t 2, .t 3] ?_ ?_
  · (conv => whnf); refine ⟨rfl, ?_, ?_⟩ <;> (conv => whnf) <;> (repeat' apply And.intro) <;> first | exact True.intro | rfl | (conv => rhs; whnf)
  rintro m i ⟨hm, hi⟩
  conv => whnf
  repeat' first | (refine LenG.map ?_; conv => whnf) | (refine LenG.go ?_; conv => whnf)
  refine Br.mk (fun hq => ?_) (fun hq => ?_) <;> conv => whnf
  · have hlt : i < a.slots.length := by simpa using hq
    refine Ix.at (l := a.slots) hlt rfl ?_; conv => whnf
    refine Ix.at (l := b.slots) (by omega) rfl ?_; conv => whnf
    refine FnG.go rfl ?_; conv => whnf
    refine CallG.go (S99 (gd a.slots i) (gd b.slots i) (ha.srows _ (gd_mem hlt)) (hb.srows _ (gd_mem (by omega)))) ?_; conv => whnf
    refine Br.mk (fun hq2 => ?_) (fun hq2 => ?_) <;> conv => whnf
    · rw [hne (p := gd a.slots i = gd b.slots i) (fun e => by rw [e]) (by simpa using hq2)]; exact RetG.one rfl
    · refine ⟨m - 1, i + 1, by omega, ⟨by omega, upto_succ hi (by simpa using hq2)⟩, ?_⟩
      (conv => whnf); refine ⟨rfl, ?_, ?_⟩ <;> (conv => whnf) <;> (repeat' apply And.intro) <;> first | exact True.intro | rfl | (conv => rhs; whnf)
      exact incr (by omega)
  · have hge : a.slots.length ≤ i := by simpa using hq
    have hs : a.slots = b.slots := List.ext_getElem hlen fun j k1 k2 => by
      have := hi j (by omega)
      rwa [show gd a.slots j = a.slots[j] by simp [gd, List.getD, k1], show gd b.slots j = b.slots[j] by simp [gd, List.getD, k2]] at this
    have e : a = b := by
      have e1 : a.flow = b.flow := by simpa using h1
      have e2 : a.routes = b.routes := by simpa using h2
      have e3 : a.bounds = b.bounds := by simpa using h3
      have e4 : a.worst = b.worst := by simpa using h4
      cases a; cases b
      simp only at e1 e2 e3 e4 hs
      subst e1 e2 e3 e4 hs; rfl
    rw [decide_eq_true e]; exact RetG.one rfl
/-! ### With -/
theorem snocV2 {α : Type} {f : α → List AV} {l : List α} {x y : α} {t : Nat} : AV.sl (.tag t) ((l ++ [x] ++ [y]).map f) = .sl (.tag t) (l.map f ++ [f x] ++ [f y]) := by simp
theorem snocH2 {α : Type} {f : α → List AV} {l : List α} {x y : α} {e sz : Nat} : HO.live e sz (l ++ [x] ++ [y]).length = .live e sz ((l.map f ++ [f x]).length + [f y].length) := by simp
theorem appOkG {A : List (List AV)} {y : List AV} {sz b : Nat} (hb : b ≤ 1000) (hl : A.length ≤ 100000000) (hy : y.length = sz ∧ y.all isAtom = true) :
    (A.length + [y].length) * b ≤ 140737488355328 ∧ A.length + [y].length ≤ 9223372036854775807 ∧ ∀ z ∈ [y], z.length = sz ∧ z.all isAtom = true := by
  simp only [List.length_cons, List.length_nil]
  refine ⟨?_, by omega, fun z hz => by simp at hz; subst hz; exact hy⟩
  exact Nat.le_trans (Nat.mul_le_mul (show A.length + (0 + 1) ≤ 100000001 by omega) hb) (by decide)
def withGo (x : GReq) : List GReq → Bool → List GReq → List GReq × Bool
  | [], put, out => (out, put)
  | y :: r, put, out => if !put && decide (y.flow.id > x.flow.id) then withGo x r true (out ++ [x] ++ [y]) else withGo x r put (out ++ [y])
def withR (q : List GReq) (x : GReq) : List GReq := if !(withGo x q false []).2 then (withGo x q false []).1 ++ [x] else (withGo x q false []).1
theorem S31 (q : List GReq) (hq : q.length ≤ 1000000) (x : GReq) : Sound Tryz.prog 31 [reqsV q, x.v] (reqsV (withR q x)) := by
  obtain ⟨R, hR⟩ : ∃ R, withGo x q false [] = R := ⟨_, rfl⟩
  have hW : withR q x = if !R.2 then R.1 ++ [x] else R.1 := by unfold withR; rw [hR]
  rw [hW]
  clear hW
  refine ex_intro mixedT T [] Tryz.func31 rfl (by rw [Tryz.ntmps31]; simp) (by kernel_rfl) ?_
  conv => whnf
  repeat' first | (refine LenG.map ?_; conv => whnf) | (refine LenG.go ?_; conv => whnf)
  refine Lp.goZ T [.t 3, .t 5] [.t 5 47] (fun (a : Nat × Bool × List GReq) => [(0, reqsV q), (3, .op 0 0), (5, .sl (.tag 1) (a.2.2.map GReq.c)), (6, .bool a.2.1), (7, i64 a.1)]) (fun a => [.box x.c, .live 47 7 a.2.2.length])
    (fun m a => m + a.1 = q.length ∧ withGo x (q.drop a.1) a.2.1 a.2.2 = R ∧ a.2.2.length ≤ a.1 + (if a.2.1 then 1 else 0)) q.length (0, false, []) ⟨by simp, by simpa using hR, by simp⟩ [.t 3, .t 5] ?_ ?_
  · (conv => whnf); refine ⟨rfl, ?_, ?_⟩ <;> (conv => whnf) <;> (repeat' apply And.intro) <;> first | exact True.intro | rfl | (conv => rhs; whnf)
  rintro m ⟨i, put, out⟩ ⟨hm, hi, hl⟩
  simp only at hm hi hl
  conv => whnf
  repeat' first | (refine LenG.map ?_; conv => whnf) | (refine LenG.go ?_; conv => whnf)
  refine Br.mk (fun hq2 => ?_) (fun hq2 => ?_) <;> conv => whnf
  · have hlt : i < q.length := by simpa using hq2
    rw [drop_gd hlt, withGo] at hi
    have hl1 : out.length ≤ i + 1 := by split at hl <;> omega
    repeat' first
      | (refine Br.T ?_; conv => whnf)
      | (refine Br.F ?_; conv => whnf)
      | (refine Br.mk (fun hq => ?_) (fun hq => ?_) <;> conv => whnf)
      | (refine FnG.go rfl ?_; conv => whnf)
      | (refine LenG.map ?_; conv => whnf)
      | (refine LenG.go ?_; conv => whnf)
      | (refine Ix.at (l := q) hlt rfl ?_; conv => whnf)
      | (refine ⟨appOkG (by decide) (by simp <;> omega) ⟨rfl, rfl⟩, ?_⟩; (conv => whnf); refine ⟨by simp, ?_⟩; conv => whnf)
    · have h1 : put = false := by simpa using (by assumption : (!put) = true)
      subst h1
      have h2 : decide ((gd q i).flow.id > x.flow.id) = true := hq
      rw [h2, if_pos (by decide)] at hi
      refine ⟨m - 1, (i + 1, true, out ++ [x] ++ [gd q i]), by omega, ⟨by simp only; omega, hi, by simp at hl ⊢; omega⟩, ?_⟩
      (conv => whnf); refine ⟨rfl, ?_, ?_⟩ <;> (conv => whnf) <;> (repeat' apply And.intro) <;> first | exact True.intro | rfl | (conv => rhs; whnf)
      · exact snocV2
      · exact incr (by omega)
      · exact snocH2
    all_goals
      have hh : (!put && decide ((gd q i).flow.id > x.flow.id)) = false := by
        first
          | (have h1 : (!put) = false := (by assumption : (!put) = false); rw [h1]; rfl)
          | (have h2 : decide ((gd q i).flow.id > x.flow.id) = false := hq; rw [h2, Bool.and_false])
      rw [hh, if_neg (by decide)] at hi
      refine ⟨m - 1, (i + 1, put, out ++ [gd q i]), by omega, ⟨by simp only; omega, hi, by simp at hl ⊢; omega⟩, ?_⟩
      (conv => whnf); refine ⟨rfl, ?_, ?_⟩ <;> (conv => whnf) <;> (repeat' apply And.intro) <;> first | exact True.intro | rfl | exact snocV | exact incr (by omega) | exact snocH
  · obtain rfl : m = 0 := by
      have : q.length ≤ i := by simpa using hq2
      omega
    rw [List.drop_eq_nil_of_le (by omega), withGo] at hi
    rw [← hi]
    have hl1 : out.length ≤ i + 1 := by split at hl <;> omega
    repeat' first
      | (refine Br.T ?_; conv => whnf)
      | (refine Br.F ?_; conv => whnf)
      | (refine Br.mk (fun hq => ?_) (fun hq => ?_) <;> conv => whnf)
      | (refine FnG.go rfl ?_; conv => whnf)
      | (refine LenG.map ?_; conv => whnf)
      | (refine LenG.go ?_; conv => whnf)
      | (refine ⟨appOk (by decide) (by simp only; omega) ⟨rfl, rfl⟩, ?_⟩; (conv => whnf); refine ⟨by simp, ?_⟩; conv => whnf)
    · rw [show (!put) = true from hq]; exact RetG.one (by show some (AV.sl Fl.no (out.map GReq.c ++ [x.c])) = some (AV.sl Fl.no ((out ++ [x]).map GReq.c)); rw [List.map_append]; rfl)
    · rw [show (!put) = false from hq]; exact RetG.one rfl
end Go.Proofs.YtbaajjihhdmdpaaGreatDoor

namespace Go.Proofs.YtbaajjihhdmdpaaGreatDoor
open Go.RowKit
set_option linter.unusedSectionVars false
set_option linter.unusedVariables false
set_option linter.unusedSimpArgs false
set_option linter.unnecessarySimpa false
set_option maxRecDepth 100000
theorem hops_congr {s s' : GSched} {id fin : Int} (h : ∀ l t, slotC s id l t = slotC s' id l t) : ∀ (ls : List GLink) (p : Int), hops s id fin ls p = hops s' id fin ls p := by
  have hr : ∀ l (m : Nat) (p : Int), runT s id l m p = runT s' id l m p := by
    intro l m
    induction m with
    | zero => intro p; rfl
    | succ m ih => intro p; rw [runT, runT, h, ih]
  intro ls
  induction ls with
  | nil => intro p; rfl
  | cons l ls ih => intro p; rw [hops, hops, hr, ih]
theorem boundF_congr {s s' : GSched} {f : GFlow} (h : ∀ l t, slotC s f.id l t = slotC s' f.id l t) (ls : List GLink) : ∀ (rs : List Int) (b : Int × Int × List Int), boundF s f ls rs b = boundF s' f ls rs b
  | [], b => rfl
  | rel :: rs, b => by
    rw [boundF, boundF, hops_congr h]
    cases hops s' f.id (rel + f.period) ls rel with
    | none => rfl
    | some L => simp only; exact boundF_congr h ls rs _
/-! ### one route -/
theorem late_iff {n : GNet} (hn : n.ok) {s : GSched} {f : GFlow} {r : List Int} (hc : checkW ⟨n, s, f, r, 0⟩ = 0) : lateR n s f r = false ↔ Served s f (hopsL n r) f.deadline := by
  obtain ⟨hw, hz⟩ := way_ok (w := ⟨n, s, f, r, 0⟩) hn (by simp) hc
  have hb := bound_eq hw hz rfl
  have hd : 0 ≤ f.deadline := by
    unfold checkW at hc
    split at hc
    · cases hc
    split at hc
    · cases hc
    split at hc
    · cases hc
    rename_i h3
    have := (flowOk_of (Bool.eq_false_iff.2 h3)).2.2.1
    simp only at this; omega
  rw [served_iff hd]
  unfold lateR routeB
  rw [hc, if_neg (by decide), hb]
  cases hF : boundF s f (hopsL n r) (rels f s.length) (0, 0, []) with
  | none => simp [hF]
  | some b => simp [hF]
theorem route_congr {n : GNet} (hn : n.ok) {s s' : GSched} {f : GFlow} {r : List Int} (hl : s'.length = s.length) (hp : printE s' = printE s) (h : ∀ l t, slotC s f.id l t = slotC s' f.id l t) : routeB ⟨n, s', f, r, 0⟩ = routeB ⟨n, s, f, r, 0⟩ := by
  have hc : checkW ⟨n, s', f, r, 0⟩ = checkW ⟨n, s, f, r, 0⟩ := by unfold checkW; simp only; rw [hl, hp]
  unfold routeB
  rw [hc]
  by_cases h0 : checkW ⟨n, s, f, r, 0⟩ = 0
  · obtain ⟨hw, hz⟩ := way_ok (w := ⟨n, s, f, r, 0⟩) hn (by simp) h0
    obtain ⟨hw', hz'⟩ := way_ok (w := ⟨n, s', f, r, 0⟩) hn (by simp) (hc.trans h0)
    have hb : boundP ⟨n, s', f, r, 0⟩ = boundP ⟨n, s, f, r, 0⟩ := by
      rw [bound_eq hw hz rfl, bound_eq hw' hz' rfl]
      simp only
      rw [hl, boundF_congr h]
    rw [hb]
  · rw [if_pos (by simpa using h0), if_pos (by simpa using h0)]
/-! ### claims -/
theorem claimGo_some {n : GNet} {s : GSched} {f : GFlow} : ∀ (rs : List (List Int)) (c : GClaim), (claimGo n s f rs c).isSome = true ↔ ∀ r ∈ rs, lateR n s f r = false
  | [], c => by simp [claimGo]
  | r :: rs, c => by
    rw [claimGo]
    cases h : lateR n s f r with
    | true => simp [h]
    | false =>
      rw [if_neg (by simp), claimGo_some rs]
      simp [h]
theorem claim_some {n : GNet} {s : GSched} {x : GReq} : (claimP n s x).isSome = true ↔ ∀ r ∈ x.routes, lateR n s x.flow r = false := claimGo_some _ _
theorem claimGo_congr {n : GNet} {s s' : GSched} {f : GFlow} (h : ∀ r, routeB ⟨n, s', f, r, 0⟩ = routeB ⟨n, s, f, r, 0⟩) : ∀ (rs : List (List Int)) (c : GClaim), claimGo n s' f rs c = claimGo n s f rs c
  | [], c => rfl
  | r :: rs, c => by
    rw [claimGo, claimGo]
    unfold lateR
    rw [h]
    split
    · rfl
    · exact claimGo_congr h rs _
theorem makeGo_ok {n : GNet} {s : GSched} : ∀ (l : List GReq) (i : Nat) (out : List GClaim), (∀ y ∈ l, (claimP n s y).isSome = true) → makeGo n s l i out = (out ++ l.map (fun y => (claimP n s y).getD noClaim), -1, 0)
  | [], i, out, _ => by simp [makeGo]
  | x :: r, i, out, h => by
    rw [makeGo]
    have hx := h x (by simp)
    cases hc : claimP n s x with
    | none => rw [hc] at hx; cases hx
    | some c =>
      simp only
      rw [makeGo_ok r (i + 1) _ (fun y hy => h y (by simp [hy]))]
      simp [hc]
theorem makeGo_all {n : GNet} {s : GSched} : ∀ (l : List GReq) (i : Nat) (out : List GClaim), (makeGo n s l i out).2.2 = 0 → ∀ y ∈ l, (claimP n s y).isSome = true
  | [], i, out, _ => by simp
  | x :: r, i, out, h => by
    rw [makeGo] at h
    cases hc : claimP n s x with
    | none => rw [hc] at h; simp at h
    | some c =>
      rw [hc] at h
      simp only at h
      intro y hy
      rcases List.mem_cons.1 hy with rfl | hy
      · rw [hc]; rfl
      · exact makeGo_all r (i + 1) _ h y hy
/-- What a certificate wants. -/
structure Cert (n : GNet) (q : List GReq) (s : GSched) : Prop where
  reqs : (reqsP n q).2 = 0
  valid : ValidS n (flowsOf q) s
  claims : ∀ y ∈ q, (claimP n s y).isSome = true
theorem make_iff (n : GNet) (q : List GReq) (s : GSched) : (makeP n q s).2.2 = 0 ↔ Cert n q s := by
  unfold makeP
  constructor
  · intro h
    split at h
    · rename_i h1; simp only at h; rw [h] at h1; simp at h1
    rename_i h1
    split at h
    · simp at h
    rename_i h2
    exact ⟨by simpa using h1, (sched_iff _ _ _).1 (by simpa using h2), makeGo_all _ _ _ h⟩
  · intro h
    rw [if_neg (by simp [h.reqs]), if_neg (by simp [(sched_iff _ _ _).2 h.valid]), makeGo_ok _ _ _ h.claims]
theorem make_eq {n : GNet} {q : List GReq} {s : GSched} (h : Cert n q s) : makeP n q s = (q.map (fun y => (claimP n s y).getD noClaim), -1, 0) := by
  unfold makeP
  rw [if_neg (by simp [h.reqs]), if_neg (by simp [(sched_iff _ _ _).2 h.valid]), makeGo_ok _ _ _ h.claims]
  simp
theorem serves_iff (n : GNet) (q : List GReq) (s : GSched) : servesP n q s = true ↔ Cert n q s := by
  unfold servesP; rw [beq_iff_eq, make_iff]
theorem reqs_net {n : GNet} {q : List GReq} (h : (reqsP n q).2 = 0) : netErr n = 0 ∧ (flowsP n.nodes (flowsOf q)).2 = 0 ∧ ∀ x ∈ q, routesP n x = 0 := by
  have := reqsP_ok (q := q) (n := n) (by simpa using h)
  exact ⟨this.1, by simpa using this.2.1, this.2.2⟩
theorem route_check {n : GNet} {q : List GReq} {s : GSched} (hr : (reqsP n q).2 = 0) (hf : form s = true) (hm : ∀ f ∈ flowsOf q, Int.tmod s.length f.period = 0) {x : GReq} (hx : x ∈ q) {r : List Int} (hrr : r ∈ x.routes) : checkW ⟨n, s, x.flow, r, 0⟩ = 0 := by
  obtain ⟨h1, h2, h3⟩ := reqs_net hr
  have hxf : x.flow ∈ flowsOf q := List.mem_map.2 ⟨x, hx, rfl⟩
  have hfe := flows_all (nodes := n.nodes) (l := flowsOf q) (by simpa using h2) x.flow hxf
  have hnn : 2 ≤ n.nodes ∧ n.nodes ≤ 32 := (netOk_of h1).nodes
  have hone : (flowsP n.nodes [x.flow]).2 = 0 := by
    unfold flowsP
    rw [if_neg (by simp; omega), if_neg (by simp), firstE_iff]
    intro j _ hj
    obtain rfl : j = 0 := by simp at hj; omega
    unfold flowAt
    have e : gd [x.flow] 0 = x.flow := rfl
    rw [e, hfe]; simp
  unfold checkW
  rw [if_neg (by simp [h1]), if_neg (by simp [printE, hf]), if_neg (by simp [hone]), if_neg (by simp [hm _ hxf])]
  exact (routesP_ok (h3 x hx)).2.2 r hrr
theorem served_all {n : GNet} (hn : n.ok) {q : List GReq} {s : GSched} (h : Cert n q s) {x : GReq} (hx : x ∈ q) {r : List Int} (hr : r ∈ x.routes) : Served s x.flow (hopsL n r) x.flow.deadline :=
  (late_iff hn (route_check h.reqs h.valid.form h.valid.match_ hx hr)).1 (claim_some.1 (h.claims x hx) r hr)
/-! ### the place of a further request -/
theorem flows_rise {nodes : Int} {l : List GFlow} (h : (flowsP nodes l).2 = 0) : l.Pairwise fun a b => a.id < b.id := by
  unfold flowsP at h
  split at h
  · simp at h
  split at h
  · simp at h
  have hz := (firstE_iff _ _).1 h
  have step : ∀ q i, i + q + 1 < l.length → (gd l i).id < (gd l (i + q + 1)).id := by
    have one : ∀ i, i + 1 < l.length → (gd l i).id < (gd l (i + 1)).id := by
      intro i hi
      have := hz (i + 1) (by omega) (by omega)
      unfold flowAt at this
      split at this
      · rename_i h1; rw [this] at h1; simp at h1
      split at this
      · cases this
      · rename_i h2
        simp at h2
        simp only [gd, Nat.add_sub_cancel] at h2 ⊢
        simp at h2 ⊢; omega
    intro q
    induction q with
    | zero => intro i hi; exact one i hi
    | succ q ih =>
      intro i hi
      have h1 := ih i (by omega)
      have h2 := one (i + q + 1) (by omega)
      rw [show i + (q + 1) + 1 = i + q + 1 + 1 by omega]; omega
  refine List.pairwise_iff_getElem.2 fun i j hi hj hij => ?_
  have := step (j - i - 1) i (by omega)
  rwa [show i + (j - i - 1) + 1 = j by omega, gd_at hi, gd_at hj] at this
theorem withGo_put (x : GReq) : ∀ (l out : List GReq), withGo x l true out = (out ++ l, true)
  | [], out => by simp [withGo]
  | y :: r, out => by
    rw [withGo, if_neg (by simp), withGo_put x r]
    simp
theorem withGo_split (x : GReq) : ∀ (a b out : List GReq), (∀ y ∈ a, y.flow.id ≤ x.flow.id) → (∀ y ∈ b, x.flow.id < y.flow.id) →
    (if !(withGo x (a ++ b) false out).2 then (withGo x (a ++ b) false out).1 ++ [x] else (withGo x (a ++ b) false out).1) = out ++ a ++ x :: b
  | [], [], out, _, _ => by simp [withGo]
  | [], y :: b, out, _, hb => by
    have h := hb y (by simp)
    have hd : (!false && decide (y.flow.id > x.flow.id)) = true := by simp; exact h
    have e : withGo x (y :: b) false out = (out ++ [x] ++ [y] ++ b, true) := by rw [withGo, if_pos hd, withGo_put]
    rw [List.nil_append, e]
    simp
  | y :: a, b, out, ha, hb => by
    have h := ha y (by simp)
    have hd : ¬ ((!false && decide (y.flow.id > x.flow.id)) = true) := by simp; exact h
    have e : withGo x (y :: a ++ b) false out = withGo x (a ++ b) false (out ++ [y]) := by rw [List.cons_append, withGo, if_neg hd]
    rw [e, withGo_split x a b (out ++ [y]) (fun z hz => ha z (by simp [hz])) hb]
    simp
theorem with_ins {q : List GReq} {x : GReq} (hq : q.Pairwise fun a b => a.flow.id < b.flow.id) (hx : ∀ y ∈ q, y.flow.id ≠ x.flow.id) : withR q x = insR q x := by
  have hmono : ∀ i j, i < j → j < q.length → cmpReq (gd q j) x < 0 → cmpReq (gd q i) x < 0 := by
    intro i j hij hj h
    have := List.pairwise_iff_getElem.1 hq i j (by omega) hj hij
    unfold cmpReq at *
    rw [cmpI_neg] at *
    rw [gd_at hj] at h
    rw [gd_at (by omega)]
    omega
  obtain ⟨h1, h2, h3⟩ := bs_pos (fun y => cmpReq y x) q hmono
  unfold withR insR
  generalize bsI (fun y => cmpReq y x) q = p at *
  have := withGo_split x (q.take p) (q.drop p) [] (fun y hy => by
    obtain ⟨i, hi, rfl⟩ := List.getElem_of_mem hy
    rw [List.length_take] at hi
    have := h2 i (by omega)
    unfold cmpReq at this
    rw [cmpI_neg, gd_at (by omega)] at this
    rw [List.getElem_take]; omega) (fun y hy => by
    have hm := List.mem_of_mem_drop hy
    obtain ⟨i, hi, rfl⟩ := List.getElem_of_mem hy
    rw [List.length_drop] at hi
    have h4 := h3 (p + i) (by omega) (by omega)
    have h5 := hx _ hm
    unfold cmpReq at h4
    have h6 := (not_congr (cmpI_neg (gd q (p + i)).flow.id x.flow.id)).1 (by omega)
    rw [gd_at (by omega)] at h6
    rw [List.getElem_drop] at h5 ⊢
    omega)
  rw [List.take_append_drop] at this
  simpa using this
theorem ins_mem {q : List GReq} {x y : GReq} : y ∈ insR q x ↔ y = x ∨ y ∈ q := by
  constructor
  · exact insR_mem
  · rintro (rfl | h)
    · exact mem_insR
    · unfold insR
      rw [← List.take_append_drop (bsI (fun z => cmpReq z x) q) q] at h
      rcases List.mem_append.1 h with h | h
      · exact List.mem_append.2 (.inl h)
      · exact List.mem_append.2 (.inr (List.mem_cons_of_mem _ h))
theorem ins_len (q : List GReq) (x : GReq) : (insR q x).length = q.length + 1 := by
  have := bsI_le (fun z => cmpReq z x) q
  unfold insR
  simp only [List.length_append, List.length_take, List.length_cons, List.length_drop]
  omega
theorem hopsL_loss {n : GNet} (hv : netErr n = 0) {r : List Int} (hr : ∀ i, i + 1 < r.length → goodLk n (gd r i) (gd r (i + 1)) = true) : ∀ l ∈ hopsL n r, 0 ≤ l.loss ∧ l.loss ≤ 7 := by
  intro l hl
  unfold hopsL at hl
  obtain ⟨i, hi, rfl⟩ := List.mem_map.1 hl
  have := List.mem_range.1 hi
  exact lossLk_ok hv (hr i (by omega))
theorem route_ok {n : GNet} {a b : Int} {r : List Int} (h : checkR n a b r = 0) : 2 ≤ r.length ∧ r.length ≤ 9 ∧ ∀ i, i + 1 < r.length → goodLk n (gd r i) (gd r (i + 1)) = true := faultP_ok (endsP_zero h).2
theorem slotC_other {s t : GSched} {id xid : Int} (hl : t.length = s.length) (ho : t.cells.filter (fun c => c.flow != xid) = s.cells) (hne : id ≠ xid) (l : GLink) (k : Int) : slotC s id l k = slotC t id l k := by
  unfold slotC
  rw [hl, ← ho, List.filter_filter]
  refine List.filter_congr fun c _ => ?_
  cases h : onC id l c with
  | false => simp
  | true =>
    unfold onC at h
    simp only [Bool.and_eq_true, beq_iff_eq] at h
    have : (c.flow != xid) = true := by simp; omega
    rw [this]; simp
/-- What a request was admitted with. -/
structure Admitted (n : GNet) (q : List GReq) (s : GSched) (x : GReq) (t : GSched) : Prop where
  before : Cert n q s
  after : Cert n (insR q x) t
  fresh : ∀ y ∈ q, y.flow.id ≠ x.flow.id
  len : t.length = s.length
  offs : t.offsets = s.offsets
  ext : Ext s.cells t.cells
  old : t.cells.filter (fun c => c.flow != x.flow.id) = s.cells
  same : ∀ y ∈ q, claimP n t y = claimP n s y
/-- How Admit comes to its answer. -/
structure AdmitIn (n : GNet) (q : List GReq) (s : GSched) (x : GReq) : Prop where
  before : Cert n q s
  fresh : ∀ y ∈ q, y.flow.id ≠ x.flow.id
  reqs : (reqsP n (insR q x)).2 = 0
  per : Int.tmod s.length x.flow.period = 0
theorem admit_in {n : GNet} {q : List GReq} {s : GSched} {x : GReq} (h1 : servesP n q s = true) (h2 : (q.any fun y => y.flow.id == x.flow.id) = false) (h3 : faultyQ n (insR q x) = false) (h4 : (Int.tmod s.length x.flow.period != 0) = false) : AdmitIn n q s x := by
  have hb := (serves_iff n q s).1 h1
  refine ⟨hb, fun y hy e => ?_, by simpa using faulty_ok hb.valid.net h3, by simpa using h4⟩
  have := List.any_eq_false.1 h2 y hy
  simp [e] at this
theorem AdmitIn.grid {n : GNet} {q : List GReq} {s : GSched} {x : GReq} (h : AdmitIn n q s x) : Grid n s s x.flow.id := by
  have hV := h.before.valid
  refine ⟨rfl, rfl, hV.rising, hV.calm, fun c hc => (hV.at_ c hc).1, Ext.refl _, List.filter_eq_self.2 fun c hc => ?_⟩
  obtain ⟨f, hf, e⟩ := (findFl_iff _ _).1 (hV.at_ c hc).2
  unfold flowsOf at hf
  obtain ⟨y, hy, rfl⟩ := List.mem_map.1 hf
  have := h.fresh y hy
  simp; omega
theorem AdmitIn.flow {n : GNet} {q : List GReq} {s : GSched} {x : GReq} (h : AdmitIn n q s x) : (1 ≤ x.flow.period ∧ x.flow.period ≤ 512) ∧ (0 ≤ x.flow.phase ∧ x.flow.phase < x.flow.period) ∧ (1 ≤ x.flow.deadline ∧ x.flow.deadline ≤ x.flow.period) ∧ 0 ≤ x.flow.id ∧ x.flow.id ≤ 255 :=
  flowErr_ok (flows_all (nodes := n.nodes) (l := flowsOf (insR q x)) (by rw [(reqs_net h.reqs).2.1]; rfl) x.flow (List.mem_map.2 ⟨x, mem_insR, rfl⟩))
theorem AdmitIn.route {n : GNet} {q : List GReq} {s : GSched} {x : GReq} (h : AdmitIn n q s x) : ∀ r ∈ x.routes, 2 ≤ r.length ∧ ∀ i, i + 1 < r.length → goodLk n (gd r i) (gd r (i + 1)) = true := fun r hr => by
  have := route_ok ((routesP_ok ((reqs_net h.reqs).2.2 x mem_insR)).2.2 r hr)
  exact ⟨this.1, this.2.2⟩
theorem AdmitIn.sizes {n : GNet} {q : List GReq} {s : GSched} {x : GReq} (h : AdmitIn n q s x) : (1 ≤ s.length ∧ s.length ≤ 512) ∧ 1 ≤ s.offsets ∧ s.offsets ≤ 16 := by
  have := formR_bd (s := s) (by rw [form_eq]; exact h.before.valid.form)
  omega
/-- A grid over a schedule is valid with the further request. -/
theorem AdmitIn.valid {n : GNet} {q : List GReq} {s g : GSched} {x : GReq} (h : AdmitIn n q s x) (hG : Grid n s g x.flow.id) (hc : g.cells.length ≤ 512) : ValidS n (flowsOf (insR q x)) g := by
  have hV := h.before.valid
  refine ⟨hV.net, (reqs_net h.reqs).2.1, ?_, fun f hf => ?_, hc, fun c hm => ?_, hG.rising, hG.calm⟩
  · have := hV.sized
    unfold sized at *
    rw [hG.len, hG.offs]; exact this
  · unfold flowsOf at hf
    obtain ⟨y, hy, rfl⟩ := List.mem_map.1 hf
    rw [hG.len]
    rcases ins_mem.1 hy with rfl | hy
    · exact h.per
    · exact hV.match_ _ (List.mem_map.2 ⟨y, hy, rfl⟩)
  · refine ⟨?_, (findFl_iff _ _).2 ?_⟩
    · have := hG.at_ c hm
      unfold placed at *
      rw [hG.len, hG.offs]; exact this
    · by_cases e : c.flow = x.flow.id
      · exact ⟨x.flow, List.mem_map.2 ⟨x, mem_insR, rfl⟩, e.symm⟩
      · have hs : c ∈ s.cells := by
          rw [← hG.old]
          exact List.mem_filter.2 ⟨hm, by simpa using e⟩
        obtain ⟨f, hf, e2⟩ := (findFl_iff _ _).1 (hV.at_ c hs).2
        unfold flowsOf at hf
        obtain ⟨y, hy, rfl⟩ := List.mem_map.1 hf
        exact ⟨y.flow, List.mem_map.2 ⟨y, ins_mem.2 (.inr hy), rfl⟩, e2⟩
theorem claims_other {n : GNet} (hn : n.ok) {s t : GSched} {xid : Int} (hl : t.length = s.length) (hf : form s = true) (hf' : form t = true) (ho : t.cells.filter (fun c => c.flow != xid) = s.cells) {y : GReq} (hne : y.flow.id ≠ xid) : claimP n t y = claimP n s y :=
  claimGo_congr (fun r => route_congr hn hl (by simp [printE, hf, hf']) (slotC_other hl ho hne)) _ _
theorem admit_law {n : GNet} (hn : n.ok) {q : List GReq} {s : GSched} {x : GReq} (h : (admitP n q s x).2 = 0) : Admitted n q s x (admitP n q s x).1 := by
  unfold admitP at h ⊢
  split at h
  · simp at h
  rename_i h1
  split at h
  · simp at h
  rename_i h2
  split at h
  · simp at h
  rename_i h3
  split at h
  · simp at h
  rename_i h4
  split at h
  · simp at h
  rename_i h5
  split at h
  · simp at h
  rename_i h6
  rw [if_neg h1, if_neg h2, if_neg h3, if_neg h4, if_neg h5, if_neg h6]
  simp only
  have hI := admit_in (n := n) (q := q) (s := s) (x := x) (by simpa using h1) (by simpa using h2) (by simpa using h3) (by simpa using h4)
  have hfl := hI.flow
  have hsz := hI.sizes
  have hV := hI.before.valid
  unfold placeP at h5 h6 ⊢
  cases hp : placeGo n x.flow s.length x.routes s with
  | none => rw [hp] at h5; simp at h5
  | some t =>
    rw [hp] at h6
    simp only at h6 ⊢
    obtain ⟨hG, hE, hW⟩ := place_grid hV.net (f := x.flow) hsz.1 hfl.1 (by omega) (by omega) x.routes s t hI.grid hI.route hp
    have hVt := hI.valid hG (by simp at h6; omega)
    have hsame : ∀ y ∈ q, claimP n t y = claimP n s y := fun y hy => claims_other hn hG.len hV.form hVt.form hG.old (hI.fresh y hy)
    refine ⟨hI.before, ⟨hI.reqs, hVt, fun y hy => ?_⟩, hI.fresh, hG.len, hG.offs, hG.ext, hG.old, hsame⟩
    rcases ins_mem.1 hy with rfl | hy
    · refine claim_some.2 fun r hr => (late_iff hn (route_check hI.reqs hVt.form hVt.match_ mem_insR hr)).2 fun rel hrel => ?_
      rw [hG.len] at hrel
      have hw := hW r hr rel hrel
      obtain ⟨L, hL, hle⟩ := hw.hops (fin := rel + y.flow.period) (by omega) (Int.le_refl _) (fun l hl => (hopsL_loss hV.net (hI.route r hr).2 l hl).1)
      exact ⟨L, hL, by omega⟩
    · rw [hsame y hy]; exact hI.before.claims y hy
theorem admit_none {n : GNet} {q : List GReq} {s : GSched} {x : GReq} (h : (admitP n q s x).2 ≠ 0) : (admitP n q s x).1.cells = [] := by
  unfold admitP at h ⊢
  split
  · rfl
  split
  · rfl
  split
  · rfl
  split
  · rfl
  split
  · rfl
  split
  · rfl
  · rename_i a1 a2 a3 a4 a5 a6
    rw [if_neg a1, if_neg a2, if_neg a3, if_neg a4, if_neg a5, if_neg a6] at h
    exact absurd rfl h
/-- The law's questions, answered. -/
theorem serves_law {n : GNet} (hn : n.ok) {q : List GReq} {s : GSched} {x : GReq} (h : (admitP n q s x).2 = 0) :
    differP s (admitP n q s x).1 = ([], onlyC (admitP n q s x).1 s, 0) ∧ (∀ c ∈ onlyC (admitP n q s x).1 s, c.flow = x.flow.id) ∧ withR q x = insR q x ∧
      makeP n (insR q x) (admitP n q s x).1 = ((insR q x).map (fun y => (claimP n (admitP n q s x).1 y).getD noClaim), -1, 0) ∧ makeP n q s = (q.map (fun y => (claimP n s y).getD noClaim), -1, 0) ∧
      dropP (admitP n q s x).1 x.flow.id = (s, 0) ∧ ∀ c ∈ (makeP n q s).1, c ∈ (makeP n (insR q x) (admitP n q s x).1).1 := by
  have hA := admit_law hn h
  generalize (admitP n q s x).1 = t at *
  have hfs := hA.before.valid.form
  have hft := hA.after.valid.form
  have hm1 := make_eq hA.after
  have hm2 := make_eq hA.before
  refine ⟨?_, fun c hc => ?_, with_ins ?_ hA.fresh, hm1, hm2, ?_, fun c hc => ?_⟩
  · have hless : onlyC s t = [] := by
      unfold onlyC
      refine List.filter_eq_nil_iff.2 fun c hc => ?_
      have : inC t.cells c = true := List.any_eq_true.2 ⟨c, hA.ext.mem hc, by simp⟩
      simp [this]
    unfold differP
    rw [hfs, hft, if_neg (by simp), if_neg (by simp [hA.len, hA.offs]), hless]
  · unfold onlyC at hc
    obtain ⟨h1, h2⟩ := List.mem_filter.1 hc
    by_cases e : c.flow = x.flow.id
    · exact e
    · exfalso
      have hs : c ∈ s.cells := by
        rw [← hA.old]
        exact List.mem_filter.2 ⟨h1, by simpa using e⟩
      have : inC s.cells c = true := List.any_eq_true.2 ⟨c, hs, by simp⟩
      rw [this] at h2; simp at h2
  · have := flows_rise (reqs_net hA.before.reqs).2.1
    unfold flowsOf at this
    exact (List.pairwise_map (f := fun x : GReq => x.flow) (R := fun a b : GFlow => a.id < b.id)).1 this
  · unfold dropP
    rw [printE, hft, if_pos rfl, if_neg (by simp), hA.len, hA.offs]
    have e := hA.old
    simp only [bne] at e
    rw [e]
  · rw [hm2] at hc
    rw [hm1]
    simp only at hc ⊢
    obtain ⟨y, hy, rfl⟩ := List.mem_map.1 hc
    exact List.mem_map.2 ⟨y, ins_mem.2 (.inr hy), by rw [hA.same y hy]⟩
/-! ### fewer cells -/
theorem heard_mono {n : GNet} (h : NetOk n) {s d e : Int} (hs : 0 ≤ s ∧ s ≤ 68719476736) (hd : 0 ≤ d) (hde : d ≤ e) (he : e ≤ 8796093022208) (hh : heard n s e = true) : heard n s d = true := by
  have hn := h.noise
  have ht := h.thr
  unfold heard at *
  have b2 : n.thr * (n.noise + e) ≤ 100000 * 82532091559936 := Int.mul_le_mul ht.2 (by omega) (by omega) (by omega)
  have b3 : n.thr * (n.noise + d) ≤ n.thr * (n.noise + e) := Int.mul_le_mul_of_nonneg_left (by omega) (by omega)
  have b4 : 0 ≤ n.thr * (n.noise + d) := Int.mul_nonneg (by omega) (by omega)
  rw [Wi (n := n.noise + e) (by omega), Wi (n := n.thr * (n.noise + e)) (by omega), Wi (n := s * 1000) (by omega)] at hh
  rw [Wi (n := n.noise + d) (by omega), Wi (n := n.thr * (n.noise + d)) (by omega), Wi (n := s * 1000) (by omega)]
  simp only [decide_eq_true_eq] at *
  omega
theorem hears_mono {n : GNet} (h : NetOk n) {s d e : Int} (hs : 0 ≤ s ∧ s ≤ 68719476736) (hd : 0 ≤ d) (hde : d ≤ e) (hh : hearsB n s e = true) : hearsB n s d = true := by
  unfold hearsB at *
  simp only [Bool.and_eq_true, decide_eq_true_eq] at *
  obtain ⟨⟨⟨h1, h2⟩, h3⟩, h4⟩ := hh
  exact ⟨⟨⟨h1, h2⟩, by omega, by omega⟩, heard_mono h hs hd hde h3.2 h4⟩
theorem dist1_mono {n : GNet} (h : NetOk n) {node s s' a C : Int} (hC : C ≤ 4611686018427387904) (h0 : 0 ≤ s) (h1 : s ≤ s') (h2 : s' ≤ C) : 0 ≤ dist1 n node s a ∧ dist1 n node s a ≤ dist1 n node s' a ∧ dist1 n node s' a ≤ C + 68719476736 := by
  unfold dist1
  have := pw_R h a node
  split
  · rw [Wi (by omega), Wi (by omega)]; omega
  · omega
theorem fold2_mono {n : GNet} (h : NetOk n) (node : Int) : ∀ (r : List GCell) (s s' C : Int), 0 ≤ s → s ≤ s' → s' ≤ C → C + r.length * 137438953472 ≤ 4611686018427387904 → 0 ≤ r.foldl (dist2 n node) s ∧ r.foldl (dist2 n node) s ≤ r.foldl (dist2 n node) s' ∧ r.foldl (dist2 n node) s' ≤ C + r.length * 137438953472
  | [], s, s', C, h0, h1, h2, h3 => by simp; omega
  | c :: r, s, s', C, h0, h1, h2, h3 => by
    simp only [List.length_cons] at h3 ⊢
    have a1 := dist1_mono h (node := node) (a := c.from_) (C := C) (by omega) h0 h1 h2
    have a2 := dist1_mono h (node := node) (a := c.to_) (C := C + 68719476736) (by omega) a1.1 a1.2.1 a1.2.2
    have := fold2_mono h node r (dist2 n node s c) (dist2 n node s' c) (C + 137438953472) a2.1 a2.2.1 (by unfold dist2; omega) (by omega)
    rw [List.foldl_cons, List.foldl_cons]
    refine ⟨this.1, this.2.1, ?_⟩
    refine Int.le_trans this.2.2 ?_; omega
theorem distE_mono {n : GNet} (h : NetOk n) (node : Int) {e r : List GCell} (hl : (e ++ r).length ≤ 600) : 0 ≤ distE n node r ∧ distE n node r ≤ distE n node (e ++ r) := by
  rw [List.length_append] at hl
  unfold distE
  rw [List.foldl_append]
  have h1 := fold2_mono h node e 0 0 0 (Int.le_refl _) (Int.le_refl _) (Int.le_refl _) (by omega)
  have h2 := fold2_mono h node r 0 (e.foldl (dist2 n node) 0) (600 * 137438953472) (Int.le_refl _) h1.1 (by omega) (by omega)
  exact ⟨h2.1, h2.2.1⟩
theorem badE_mono {n : GNet} (hv : netErr n = 0) {c : GCell} {e r : List GCell} (hl : (e ++ r).length ≤ 600) (hb : badE n c (e ++ r) = false) : badE n c r = false := by
  have h := netOk_of hv
  unfold badE at *
  simp only [Bool.or_eq_false_iff, List.any_append, Bool.not_eq_false'] at hb ⊢
  obtain ⟨⟨⟨h1, h2⟩, h3⟩, h4⟩ := hb
  obtain ⟨g1, g2⟩ := goodLk_find (by rw [h1]; rfl)
  have d1 := distE_mono h c.to_ hl
  have d2 := distE_mono h c.from_ hl
  exact ⟨⟨⟨h1, h2.2⟩, hears_mono h (margin_R h g1 (findLk_lt n _ _ g1)) d1.1 d1.2 h3⟩, hears_mono h (margin_R h g2 (findLk_lt n _ _ g2)) d2.1 d2.2 h4⟩
theorem good_mono {n : GNet} {a b e : List GCell} (hp : b.Perm (e ++ a)) (hl : b.length ≤ 600) (hg : goodCells n b = true) : goodCells n a = true := by
  rw [good_iff] at *
  refine ⟨hg.1, fun c r hcr => ?_⟩
  have h1 : b.Perm (c :: (e ++ r)) := hp.trans ((hcr.append_left e).trans List.perm_middle)
  refine badE_mono hg.1 (e := e) ?_ (hg.2 c _ h1)
  have := h1.length_eq
  simp only [List.length_cons] at this
  omega
theorem RoomC.less {n : GNet} {l l' e : List GCell} {c : GCell} (hp : l.Perm (e ++ l')) (hl : l.length ≤ 512) (h : RoomC n l c) : RoomC n l' c := by
  refine ⟨h.link, fun d hd e' => h.free d (hp.mem_iff.2 (List.mem_append.2 (.inr hd))) e', ?_⟩
  refine good_mono (e := e.filter (atSame c)) ?_ ?_ h.good
  · have := (hp.filter (atSame c)).cons c
    rw [List.filter_append] at this
    exact this.trans List.perm_middle.symm
  · have := List.length_filter_le (atSame c) l
    simp only [List.length_cons]; omega
theorem calm_room {n : GNet} {l : List GCell} {c : GCell} (k : Calm n (c :: l)) : RoomC n l c := by
  refine ⟨k.link c (by simp), fun d hd e => (List.pairwise_cons.1 k.apart).1 d hd e.symm, ?_⟩
  have := k.calm c (by simp)
  rwa [List.filter_cons, if_pos (atSame_refl c)] at this
/-- A schedule with cells of one flow more. -/
structure Over (n : GNet) (s t : GSched) (id : Int) : Prop where
  len : t.length = s.length
  offs : t.offsets = s.offsets
  old : t.cells.filter (fun c => c.flow != id) = s.cells
  calm : Calm n t.cells
  at_ : ∀ c ∈ t.cells, placed t c = true
  many : t.cells.length ≤ 512
theorem Over.room {n : GNet} {s t : GSched} {id : Int} (h : Over n s t id) {c : GCell} (hc : c ∈ t.cells) (hid : c.flow = id) : RoomC n s.cells c := by
  have h1 : t.cells.Perm (t.cells.filter (fun c => !(c.flow != id)) ++ s.cells) := by
    rw [← h.old]
    exact (List.filter_append_perm (fun c : GCell => c.flow != id) t.cells).symm.trans List.perm_append_comm
  have hm : c ∈ t.cells.filter (fun c => !(c.flow != id)) := List.mem_filter.2 ⟨hc, by simp [hid]⟩
  have h2 : t.cells.Perm (c :: ((t.cells.filter (fun c => !(c.flow != id))).erase c ++ s.cells)) := by
    refine h1.trans ?_
    have := (List.perm_cons_erase hm).append_right s.cells
    simpa using this
  refine (calm_room (h.calm.perm h2)).less (List.Perm.refl _) ?_
  have := h2.length_eq
  have := h.many
  simp only [List.length_cons] at *; omega
theorem Over.none {n : GNet} {s t : GSched} {id : Int} (h : Over n s t id) {c : GCell} (hc : c ∈ s.cells) : c.flow ≠ id := by
  rw [← h.old] at hc
  have := (List.mem_filter.1 hc).2
  simpa using this
theorem slotC_one {n : GNet} {t : GSched} (h : Calm n t.cells) (id : Int) (l : GLink) (p : Int) : (slotC t id l p).length ≤ 1 := by
  have hp : (slotC t id l p).Pairwise fun c d => c.slot = d.slot → touches c d = false := h.apart.sublist List.filter_sublist
  have hm : ∀ c ∈ slotC t id l p, c.slot = Int.tmod p t.length ∧ c.from_ = l.from_ := fun c hc => by
    have := (List.mem_filter.1 hc).2
    unfold onC at this
    simp only [Bool.and_eq_true, beq_iff_eq] at this
    exact ⟨this.1, this.2.1.2⟩
  match hs : slotC t id l p with
  | [] => simp
  | [c] => simp
  | c :: d :: r =>
    rw [hs] at hp hm
    have h1 := (List.pairwise_cons.1 hp).1 d (by simp)
    have h2 := hm c (by simp)
    have h3 := hm d (by simp)
    have := h1 (by rw [h2.1, h3.1])
    unfold touches at this
    simp only [Bool.or_eq_false_iff, beq_eq_false_iff_ne] at this
    have e : c.from_ = d.from_ := by rw [h2.2, h3.2]
    omega
/-! ### how many cells a run has -/
def kT (A : List GCell) (L : Int) : Nat → Int → Nat
  | 0, _ => 0
  | m + 1, p => (A.filter fun c => c.slot == Int.tmod p L).length + kT A L m (p + 1)
theorem kT_add (A : List GCell) (L : Int) : ∀ (a b : Nat) (p : Int), kT A L (a + b) p = kT A L a p + kT A L b (p + a)
  | 0, b, p => by simp [kT]
  | a + 1, b, p => by
    rw [show a + 1 + b = (a + b) + 1 by omega, kT, kT, kT_add A L a b (p + 1), show p + 1 + (a : Int) = p + ((a + 1 : Nat) : Int) by omega]; omega
theorem tmod_ne {L p q : Int} (h0 : 0 ≤ p) (h1 : p < q) (h2 : q < p + L) : Int.tmod q L ≠ Int.tmod p L := by
  intro e
  rw [Int.tmod_eq_emod_of_nonneg h0, Int.tmod_eq_emod_of_nonneg (by omega)] at e
  have h3 : (q - p) % L = 0 := Int.emod_eq_emod_iff_emod_sub_eq_zero.1 e
  rw [Int.emod_eq_of_lt (by omega) (by omega)] at h3
  omega
theorem kT_congr {A B : List GCell} {L : Int} : ∀ (m : Nat) (p : Int), (∀ q, p ≤ q → q < p + m → A.filter (fun c => c.slot == Int.tmod q L) = B.filter (fun c => c.slot == Int.tmod q L)) → kT A L m p = kT B L m p
  | 0, p, h => rfl
  | m + 1, p, h => by
    rw [kT, kT, h p (Int.le_refl _) (by omega), kT_congr m (p + 1) fun q h1 h2 => h q (by omega) (by omega)]
theorem kT_le {L : Int} : ∀ (m : Nat) (A : List GCell) (p : Int), 0 ≤ p → (m : Int) ≤ L → kT A L m p ≤ A.length
  | 0, A, p, h0, hm => by simp [kT]
  | m + 1, A, p, h0, hm => by
    have hc : ∀ q, p + 1 ≤ q → q < p + 1 + (m : Int) → A.filter (fun c => c.slot == Int.tmod q L) = (A.filter fun c => !(c.slot == Int.tmod p L)).filter (fun c => c.slot == Int.tmod q L) := by
      intro q h1 h2
      rw [List.filter_filter]
      refine List.filter_congr fun c _ => ?_
      have := tmod_ne (L := L) (p := p) (q := q) h0 (by omega) (by omega)
      by_cases e : c.slot = Int.tmod q L
      · simp [e, this]
      · have : (c.slot == Int.tmod q L) = false := by simpa using e
        rw [this]; rfl
    rw [kT, kT_congr m (p + 1) hc]
    have h1 := kT_le (L := L) m (A.filter fun c => !(c.slot == Int.tmod p L)) (p + 1) (by omega) (by omega)
    have h2 := (List.filter_append_perm (fun c : GCell => c.slot == Int.tmod p L) A).length_eq
    rw [List.length_append] at h2
    omega
def ofF (s : GSched) (id : Int) : List GCell := s.cells.filter fun c => !(c.flow != id)
theorem runT_kT (s : GSched) (id : Int) (l : GLink) : ∀ (m : Nat) (p : Int), (runT s id l m p).length ≤ kT (ofF s id) s.length m p
  | 0, p => by simp [runT]
  | m + 1, p => by
    have h1 := runT_kT s id l m (p + 1)
    rw [runT, kT, List.length_append, List.length_map]
    have : (slotC s id l p).length ≤ ((ofF s id).filter fun c => c.slot == Int.tmod p s.length).length := by
      unfold slotC ofF
      rw [List.filter_filter]
      rw [← List.countP_eq_length_filter, ← List.countP_eq_length_filter]
      refine List.countP_mono_left fun c _ h => ?_
      unfold onC at h
      simp only [Bool.and_eq_true, beq_iff_eq] at h
      simp [h.1, h.2.1.1]
    omega
theorem Way.count {s : GSched} {id : Int} : ∀ {ls : List GLink} {p e : Int}, Way s id ls p e → needL ls ≤ kT (ofF s id) s.length (e - p).toNat p
  | [], p, e, h => by simp [needL]
  | l :: ls, p, e, ⟨a, h1, h2, h3⟩ => by
    have h4 := h3.le
    have h5 := h3.count
    have h6 := runT_kT s id l (a - p).toNat p
    rw [show (e - p).toNat = (a - p).toNat + (e - a).toNat by omega, kT_add, show p + ((a - p).toNat : Int) = a by omega]
    simp only [needL, List.map_cons, List.sum_cons] at *
    omega
theorem Way.later {s : GSched} {id : Int} : ∀ {ls : List GLink} {p e e' : Int}, Way s id ls p e → e ≤ e' → Way s id ls p e'
  | [], p, e, e', h, he => Int.le_trans h he
  | l :: ls, p, e, e', ⟨a, h1, h2, h3⟩, he => ⟨a, h1, h2, h3.later he⟩
/-- From p on (up to e) the slots are as they were. -/
def Clean (s g : GSched) (p e : Int) : Prop := ∀ q, p ≤ q → q < e → hereL g.cells (Int.tmod q s.length) = hereL s.cells (Int.tmod q s.length)
theorem Clean.later {s g : GSched} {p q e : Int} (h : Clean s g p e) (hq : p ≤ q) : Clean s g q e := fun r h1 h2 => h r (by omega) h2
theorem slot_count (n : GNet) (g : GSched) (l : GLink) (id slot : Int) : (slotP n g l id slot).1.cells.length ≤ g.cells.length + (if (slotP n g l id slot).2 = true then 1 else 0) := by
  unfold slotP
  split
  · simp
  · split
    · simp
    · simp [insC_len]
theorem slot_here (n : GNet) (g : GSched) (l : GLink) (id slot : Int) {q : Int} (hq : q ≠ slot) : hereL (slotP n g l id slot).1.cells q = hereL g.cells q := by
  unfold slotP
  split
  · rfl
  · split
    · rfl
    · unfold hereL
      refine insC_filter ?_
      simp; omega
theorem slot_took {n : GNet} {s t g : GSched} {id : Int} {l : GLink} {p : Int} (hO : Over n s t id) (hG : Grid n s g id) (hh : hereL g.cells (Int.tmod p s.length) = hereL s.cells (Int.tmod p s.length)) (hc : slotC t id l p ≠ []) : (slotP n g l id (Int.tmod p s.length)).2 = true := by
  obtain ⟨c, hm⟩ := List.exists_mem_of_ne_nil _ hc
  obtain ⟨h1, h2⟩ := List.mem_filter.1 hm
  unfold onC at h2
  simp only [Bool.and_eq_true, beq_iff_eq] at h2
  rw [hO.len] at h2
  have hR := hO.room h1 h2.2.1.1
  have hP := hO.at_ c h1
  unfold placed insI at hP
  rw [hO.len, hO.offs] at hP
  simp at hP
  generalize Int.tmod p s.length = slot at *
  unfold slotP
  split
  · rfl
  have ho : offsL n g l slot = offsL n s l slot := by unfold offsL; rw [hh, hG.offs]
  rw [ho]
  have hin : c.offset.toNat ∈ offsL n s l slot := by
    unfold offsL
    rw [if_neg ?_]
    · refine List.mem_filter.2 ⟨by simp [List.mem_range']; omega, ?_⟩
      unfold roomAtP
      rw [show ((c.offset.toNat : Nat) : Int) = c.offset by omega]
      rw [← hR.good]
      refine good_perm n ?_
      have e : (hereL s.cells slot).filter (fun d => !(d.offset != c.offset)) = s.cells.filter (atSame c) := by
        unfold hereL
        rw [List.filter_filter]
        refine List.filter_congr fun d _ => ?_
        unfold atSame
        simp only [bne, Bool.not_not]
        rw [← h2.1, Bool.and_comm]
      rw [e, List.map_cons, List.map_append]
      refine (List.perm_append_comm (l₂ := [endsC ⟨0, 0, l.from_, l.to_, 0⟩])).trans ?_
      have e2 : endsC ⟨0, 0, l.from_, l.to_, 0⟩ = endsC c := by unfold endsC; simp only; rw [h2.2.1.2, h2.2.2]
      rw [e2]
      exact List.Perm.refl _
    · simp only [Bool.not_eq_true, List.any_eq_false]
      intro d hd
      obtain ⟨k1, k2⟩ := List.mem_filter.1 hd
      have := hR.free d k1 (by rw [h2.1]; simpa using k2)
      rw [touches_comm] at this
      unfold touches at this
      unfold touchesL
      rw [← h2.2.1.2, ← h2.2.2, this]
  cases hL : offsL n s l slot with
  | nil => rw [hL] at hin; simp at hin
  | cons a b => rfl
theorem fill_zero (n : GNet) (l : GLink) (id fin : Int) (m : Nat) (g : GSched) (p : Int) : fillGo n l id fin m g 0 p = (g, 0, p) := by
  cases m with
  | zero => rfl
  | succ m => rw [fillGo, if_neg (by simp)]
theorem fill_count (n : GNet) (l : GLink) (id fin : Int) : ∀ (m : Nat) (g : GSched) (left : Nat) (p : Int), left ≤ 1000000 →
    ((fillGo n l id fin m g left p).1.cells.length : Int) + (fillGo n l id fin m g left p).2.1 ≤ g.cells.length + left ∧ 0 ≤ (fillGo n l id fin m g left p).2.1
  | 0, g, left, p, hl => by simp only [fillGo]; omega
  | m + 1, g, left, p, hl => by
    rw [fillGo]
    by_cases hc : (decide ((left : Int) > 0) && decide (p < fin)) = true
    · rw [if_pos hc]
      simp only [Bool.and_eq_true, decide_eq_true_eq] at hc
      have hWl : W ((left : Int) - 1) = ((left - 1 : Nat) : Int) := by rw [Wi (by omega)]; omega
      rw [hWl]
      have k := slot_count n g l id (Int.tmod p g.length)
      generalize slotP n g l id (Int.tmod p g.length) = q at *
      have ite : (if q.2 = true then ((left - 1 : Nat) : Int) else (left : Int)) = ((if q.2 = true then left - 1 else left : Nat) : Int) := by split <;> rfl
      rw [ite]
      have ih := fill_count n l id fin m q.1 (if q.2 = true then left - 1 else left) (W (p + 1)) (by split <;> omega)
      generalize fillGo n l id fin m q.1 ((if q.2 = true then left - 1 else left : Nat) : Int) (W (p + 1)) = R at *
      refine ⟨?_, ih.2⟩
      cases hq : q.2 with
      | true => rw [hq] at ih k; simp only [if_true] at ih k; omega
      | false => rw [hq] at ih k; simp only [Bool.false_eq_true, if_false] at ih k; omega
    · rw [if_neg hc]; simp only; omega
theorem fill_exact {n : GNet} {s t : GSched} {id fin E : Int} {l : GLink} (hO : Over n s t id) (hg : goodLk n l.from_ l.to_ = true) (hlen : 1 ≤ s.length) (hf : fin ≤ 1000000) (hfE : fin ≤ E) : ∀ (k m : Nat) (g : GSched) (left : Nat) (p : Int), Grid n s g id → Clean s g p E → E ≤ p + s.length → 0 ≤ p → p + k ≤ fin → (fin - p).toNat < m → left ≤ 1000000 → left ≤ (runT t id l k p).length →
    (fillGo n l id fin m g left p).2.1 = 0 ∧ (fillGo n l id fin m g left p).2.2 ≤ p + k ∧ Clean s (fillGo n l id fin m g left p).1 (fillGo n l id fin m g left p).2.2 E
  | 0, m, g, left, p, hG, hC, hE, h0, hp, hm, hl, hk => by
    simp only [runT, List.length_nil] at hk
    obtain rfl : left = 0 := by omega
    rw [Int.ofNat_zero, fill_zero]
    exact ⟨rfl, by simp, hC⟩
  | k + 1, 0, g, left, p, hG, hC, hE, h0, hp, hm, hl, hk => by omega
  | k + 1, m + 1, g, left, p, hG, hC, hE, h0, hp, hm, hl, hk => by
    by_cases hz : left = 0
    · subst hz
      rw [Int.ofNat_zero, fill_zero]
      exact ⟨rfl, by simp; omega, hC⟩
    rw [fillGo, if_pos (by simp; omega)]
    have hWp : W (p + 1) = p + 1 := Wi (by omega)
    have hWl : W ((left : Int) - 1) = ((left - 1 : Nat) : Int) := by rw [Wi (by omega)]; omega
    have hslot : 0 ≤ Int.tmod p s.length ∧ Int.tmod p s.length < s.length := by
      rw [Int.tmod_eq_emod_of_nonneg h0]
      exact ⟨Int.emod_nonneg _ (by omega), Int.emod_lt_of_pos _ (by omega)⟩
    rw [hG.len, hWp, hWl]
    have k1 := (slot_grid (l := l) hG hg hslot).1
    have k2 : Clean s (slotP n g l id (Int.tmod p s.length)).1 (p + 1) E := fun q h1 h2 => by
      rw [slot_here n g l id _ (tmod_ne h0 (by omega) (by omega))]
      exact hC q (by omega) h2
    have k3 : slotC t id l p ≠ [] → (slotP n g l id (Int.tmod p s.length)).2 = true := slot_took hO hG (hC p (Int.le_refl _) (by omega))
    have k4 := slotC_one hO.calm id l p
    rw [runT, List.length_append, List.length_map] at hk
    generalize slotP n g l id (Int.tmod p s.length) = q at *
    have ite : (if q.2 = true then ((left - 1 : Nat) : Int) else (left : Int)) = ((if q.2 = true then left - 1 else left : Nat) : Int) := by split <;> rfl
    rw [ite]
    have hle : (if q.2 = true then left - 1 else left) ≤ (runT t id l k (p + 1)).length := by
      by_cases he : slotC t id l p = []
      · rw [he] at hk
        simp only [List.length_nil, Nat.zero_add] at hk
        split <;> omega
      · rw [if_pos (k3 he)]; omega
    have ih := fill_exact hO hg hlen hf hfE k m q.1 (if q.2 = true then left - 1 else left) (p + 1) k1 k2 (by omega) (by omega) (by omega) (by omega) (by split <;> omega) hle
    refine ⟨ih.1, ?_, ih.2.2⟩
    have := ih.2.1; omega
theorem rel_exact {n : GNet} (hv : netErr n = 0) {s t : GSched} {id fin E e : Int} (hO : Over n s t id) {r : List Int} (hr : ∀ i, i + 1 < r.length → goodLk n (gd r i) (gd r (i + 1)) = true) (hlen : 1 ≤ s.length) (hf : fin ≤ 1000000) (hfE : fin ≤ E) (he : e ≤ fin) : ∀ (m i : Nat) (g : GSched) (p p0 : Int), Grid n s g id → Clean s g p E → E ≤ p + s.length → 0 ≤ p → p ≤ p0 → i + m < r.length → Way t id (linksFrom n r i m) p0 e →
    (relGo n id fin r m i g p).2 = true ∧ Way (relGo n id fin r m i g p).1 id (linksFrom n r i m) p e ∧ Clean s (relGo n id fin r m i g p).1 e E ∧ Grid n s (relGo n id fin r m i g p).1 id ∧ Ext g.cells (relGo n id fin r m i g p).1.cells
  | 0, i, g, p, p0, hG, hC, hE, h0, hp, hi, hw => by
    have hw : p0 ≤ e := hw
    simp only [relGo]
    exact ⟨trivial, Int.le_trans hp hw, hC.later (by omega), hG, Ext.refl _⟩
  | m + 1, i, g, p, p0, hG, hC, hE, h0, hp, hi, hw => by
    have hg := hr i (by omega)
    have hl := lossLk_ok hv hg
    have hsp : linksFrom n r i (m + 1) = ⟨gd r i, gd r (i + 1), lossLk n (gd r i) (gd r (i + 1))⟩ :: linksFrom n r (i + 1) m := by
      unfold linksFrom
      rw [List.range'_succ, List.map_cons]
    rw [hsp] at hw ⊢
    obtain ⟨a, h1, h2, h3⟩ := hw
    have h3e := h3.le
    rw [relGo, hopL_eq hg]
    unfold fillP
    simp only
    have hW : W (lossLk n (gd r i) (gd r (i + 1)) + 1) = ((lossLk n (gd r i) (gd r (i + 1)) + 1).toNat : Int) := by rw [Wi (by omega)]; omega
    rw [hW]
    simp only at h2
    generalize hlk : (⟨gd r i, gd r (i + 1), lossLk n (gd r i) (gd r (i + 1))⟩ : GLink) = lk at *
    have hgl : goodLk n lk.from_ lk.to_ = true := by rw [← hlk]; exact hg
    have h4 : (lossLk n (gd r i) (gd r (i + 1)) + 1).toNat ≤ (runT t id lk (a - p).toNat p).length := by
      rw [show (a - p).toNat = (p0 - p).toNat + (a - p0).toNat by omega, runT_add, List.length_append, show p + ((p0 - p).toNat : Int) = p0 by omega]
      omega
    obtain ⟨j1, j2, j3⟩ := fill_exact hO hgl hlen hf hfE (a - p).toNat ((fin - p).toNat + 1) g (lossLk n (gd r i) (gd r (i + 1)) + 1).toNat p hG hC hE h0 (by omega) (by omega) (by omega) h4
    obtain ⟨k1, k2, k3, k4, k5⟩ := fill_grid hgl hlen hf ((fin - p).toNat + 1) g (lossLk n (gd r i) (gd r (i + 1)) + 1).toNat p hG h0 (by omega) (by omega)
    generalize fillGo n lk id fin ((fin - p).toNat + 1) g ((lossLk n (gd r i) (gd r (i + 1)) + 1).toNat : Int) p = R at *
    rw [if_neg (by simp; omega)]
    obtain ⟨i1, i2, i3, i4, i5⟩ := rel_exact hv hO hr hlen hf hfE he m (i + 1) R.1 R.2.2 a k1 j3 (by omega) (by omega) (by omega) (by omega) h3
    refine ⟨i1, ⟨R.2.2, k3, ?_, i2⟩, i3, i4, k2.trans i5⟩
    have h6 := (Ext.more (i4.len.trans k1.len.symm) i5 id lk).run (R.2.2 - p).toNat p
    have h7 : lk.loss = lossLk n (gd r i) (gd r (i + 1)) := by rw [← hlk]
    rw [h7]
    omega
theorem rel_count {n : GNet} (hv : netErr n = 0) {id fin : Int} {r : List Int} (hr : ∀ i, i + 1 < r.length → goodLk n (gd r i) (gd r (i + 1)) = true) : ∀ (m i : Nat) (g : GSched) (p : Int), i + m < r.length →
    (relGo n id fin r m i g p).1.cells.length ≤ g.cells.length + needL (linksFrom n r i m)
  | 0, i, g, p, hi => by simp [relGo]
  | m + 1, i, g, p, hi => by
    have hg := hr i (by omega)
    have hl := lossLk_ok hv hg
    have hsp : linksFrom n r i (m + 1) = ⟨gd r i, gd r (i + 1), lossLk n (gd r i) (gd r (i + 1))⟩ :: linksFrom n r (i + 1) m := by
      unfold linksFrom
      rw [List.range'_succ, List.map_cons]
    have hnd : needL (linksFrom n r i (m + 1)) = (lossLk n (gd r i) (gd r (i + 1)) + 1).toNat + needL (linksFrom n r (i + 1) m) := by
      rw [hsp]; simp [needL]
    rw [relGo, hopL_eq hg]
    unfold fillP
    simp only
    have hW : W (lossLk n (gd r i) (gd r (i + 1)) + 1) = ((lossLk n (gd r i) (gd r (i + 1)) + 1).toNat : Int) := by rw [Wi (by omega)]; omega
    rw [hW]
    have hc := fill_count n ⟨gd r i, gd r (i + 1), lossLk n (gd r i) (gd r (i + 1))⟩ id fin ((fin - p).toNat + 1) g (lossLk n (gd r i) (gd r (i + 1)) + 1).toNat p (by omega)
    generalize fillGo n ⟨gd r i, gd r (i + 1), lossLk n (gd r i) (gd r (i + 1))⟩ id fin ((fin - p).toNat + 1) g ((lossLk n (gd r i) (gd r (i + 1)) + 1).toNat : Int) p = R at *
    split
    · simp only; omega
    · have := rel_count hv (id := id) (fin := fin) hr m (i + 1) R.1 R.2.2 (by omega)
      omega
theorem rel_room {L P phase p : Int} {k : Nat} (hP : 1 ≤ P) (hph : 0 ≤ phase) (hm : Int.tmod L P = 0) (hL : 0 ≤ L) (hp : p = phase + k * P) (hlt : p < L) : p + P ≤ phase + L := by
  rw [Int.tmod_eq_emod_of_nonneg hL] at hm
  obtain ⟨j, rfl⟩ := Int.dvd_of_emod_eq_zero hm
  have h1 : (k : Int) * P < P * j := by omega
  rw [Int.mul_comm P j] at h1 ⊢
  have h2 : (k : Int) < j := Int.lt_of_mul_lt_mul_right h1 (by omega)
  have h3 : ((k : Int) + 1) * P ≤ j * P := Int.mul_le_mul_of_nonneg_right (by omega) (by omega)
  rw [Int.add_mul, Int.one_mul] at h3
  omega
theorem put_exact {n : GNet} (hv : netErr n = 0) {s t : GSched} {f : GFlow} {B : Int} (hO : Over n s t f.id) {r : List Int} (hr2 : 2 ≤ r.length) (hr : ∀ i, i + 1 < r.length → goodLk n (gd r i) (gd r (i + 1)) = true) (hlen : 1 ≤ s.length ∧ s.length ≤ 512) (hper : 1 ≤ f.period ∧ f.period ≤ 512) (hd : 0 ≤ f.deadline ∧ f.deadline ≤ f.period) (hph : 0 ≤ f.phase ∧ f.phase ≤ f.period) (hmod : Int.tmod s.length f.period = 0) (hB : 0 ≤ B ∧ B ≤ f.deadline) :
    ∀ (m : Nat) (g : GSched) (p : Int) (k : Nat), p = f.phase + k * f.period → p ≤ 2000 → Grid n s g f.id → Clean s g p (f.phase + s.length) → (∀ rel ∈ relsGo f s.length m p, Way t f.id (hopsL n r) rel (rel + B)) →
    ∃ g', putGo n f s.length r m g p = some g' ∧ Grid n s g' f.id ∧ Ext g.cells g'.cells ∧ (∀ rel ∈ relsGo f s.length m p, Way g' f.id (hopsL n r) rel (rel + B)) ∧ g'.cells.length ≤ g.cells.length + needL (hopsL n r) * (relsGo f s.length m p).length
  | 0, g, p, k, hp, hp2, hG, hC, hW => ⟨g, rfl, hG, Ext.refl _, fun rel hrel => by simp [relsGo] at hrel, by simp⟩
  | m + 1, g, p, k, hp, hp2, hG, hC, hW => by
    have hkP : 0 ≤ (k : Int) * f.period := Int.mul_nonneg (by omega) (by omega)
    rw [relsGo] at hW ⊢
    by_cases hlt : p < s.length
    · rw [if_pos hlt] at hW ⊢
      have hend := rel_room (by omega) hph.1 hmod (by omega) hp hlt
      have hWf : W (p + f.deadline) = p + f.deadline := Wi (by omega)
      have hWp : W (p + f.period) = p + f.period := Wi (by omega)
      have hrel : relP n g f r p = relGo n f.id (p + f.deadline) r (r.length - 1) 0 g p := by unfold relP; rw [hWf]
      have hw := hW p (by simp)
      rw [hopsL_from] at hw
      obtain ⟨i1, i2, i3, i4, i5⟩ := rel_exact hv (fin := p + f.deadline) (E := f.phase + s.length) (e := p + B) hO hr hlen.1 (by omega) (by omega) (by omega) (r.length - 1) 0 g p p hG hC (by omega) (by omega) (Int.le_refl _) (by omega) hw
      have i6 := rel_count hv (id := f.id) (fin := p + f.deadline) hr (r.length - 1) 0 g p (by omega)
      rw [← hrel] at i1 i2 i3 i4 i5 i6
      rw [← hopsL_from] at i2 i6
      rw [putGo, if_pos (by simpa using hlt), hWp]
      generalize relP n g f r p = R at *
      rw [i1, if_neg (by simp)]
      obtain ⟨g', j1, j2, j3, j4, j5⟩ := put_exact hv hO hr2 hr hlen hper hd hph hmod hB m R.1 (p + f.period) (k + 1) (by rw [hp]; simp [Int.add_mul]; omega) (by omega) i4 (i3.later (by omega)) (fun rel h => hW rel (by simp [h]))
      refine ⟨g', j1, j2, i5.trans j3, fun rel h => ?_, ?_⟩
      · rcases List.mem_cons.1 h with rfl | h
        · exact i2.more fun l _ => Ext.more (j2.len.trans i4.len.symm) j3 f.id l
        · exact j4 rel h
      · rw [List.length_cons, Nat.mul_add]; omega
    · rw [if_neg hlt] at hW ⊢
      rw [putGo, if_neg (by simpa using hlt)]
      exact ⟨g, rfl, hG, Ext.refl _, fun rel hrel => by simp at hrel, by simp⟩
theorem rels_count {s : GSched} {f : GFlow} {ls : List GLink} {B : Int} (hper : 1 ≤ f.period) (hB : B ≤ f.period) (hph : 0 ≤ f.phase) (hmod : Int.tmod s.length f.period = 0) (hlen : 0 ≤ s.length) : ∀ (m : Nat) (p : Int) (k : Nat), p = f.phase + k * f.period → (∀ rel ∈ relsGo f s.length m p, Way s f.id ls rel (rel + B)) →
    needL ls * (relsGo f s.length m p).length ≤ kT (ofF s f.id) s.length (f.phase + s.length - p).toNat p
  | 0, p, k, hp, hW => by simp [relsGo]
  | m + 1, p, k, hp, hW => by
    rw [relsGo] at hW ⊢
    by_cases hlt : p < s.length
    · rw [if_pos hlt] at hW ⊢
      have hend := rel_room hper hph hmod hlen hp hlt
      have h1 := ((hW p (by simp)).later (e' := p + f.period) (by omega)).count
      have h2 := rels_count hper hB hph hmod hlen m (p + f.period) (k + 1) (by rw [hp]; simp [Int.add_mul]; omega) (fun rel h => hW rel (by simp [h]))
      rw [show (p + f.period - p).toNat = f.period.toNat by omega] at h1
      rw [show (f.phase + s.length - p).toNat = f.period.toNat + (f.phase + s.length - (p + f.period)).toNat by omega, kT_add, show p + (f.period.toNat : Int) = p + f.period by omega, List.length_cons, Nat.mul_add]
      omega
    · rw [if_neg hlt]; simp
/-- A served route has its cells. -/
theorem served_ways {s : GSched} {f : GFlow} {ls : List GLink} {B : Int} (hper : 0 ≤ f.period) (h : Served s f ls B) : ∀ rel ∈ rels f s.length, Way s f.id ls rel (rel + B) := fun rel hr => by
  obtain ⟨L, hL, hle⟩ := h rel hr
  exact (hops_way hL (by omega)).later (by omega)
theorem served_count {s : GSched} {f : GFlow} {ls : List GLink} {B : Int} (hper : 1 ≤ f.period) (hB : B ≤ f.period) (hph : 0 ≤ f.phase) (hmod : Int.tmod s.length f.period = 0) (hlen : 0 ≤ s.length) (h : Served s f ls B) : needL ls * (rels f s.length).length ≤ (ofF s f.id).length := by
  have h1 := rels_count hper hB hph hmod hlen (s.length.toNat + 1) f.phase 0 (by simp) (served_ways (by omega) h)
  refine Nat.le_trans h1 ?_
  exact kT_le _ _ _ hph (by omega)
theorem sched_zero {n : GNet} {fl : List GFlow} (h1 : netErr n = 0) (h2 : (flowsP n.nodes fl).2 = 0) : schedP n fl zeroS = (-1, 2) := by
  unfold schedP
  rw [if_neg (by simp [h1]), if_neg (by simp [h2]), if_pos (by rfl)]
theorem faulty_of {n : GNet} {q : List GReq} (h : (reqsP n q).2 = 0) : faultyQ n q = false := by
  obtain ⟨h1, h2, _⟩ := reqs_net h
  unfold faultyQ makeP
  rw [if_neg (by simp [h]), sched_zero h1 h2]
  rfl
/-- What a route's bound is, if the route is served. -/
theorem route_bound {n : GNet} (hn : n.ok) {s : GSched} {f : GFlow} {r : List Int} (hc : checkW ⟨n, s, f, r, 0⟩ = 0) {B : Int} (hB : 0 ≤ B) : Served s f (hopsL n r) B ↔ (routeB ⟨n, s, f, r, 0⟩).2.2.2 = 0 ∧ (routeB ⟨n, s, f, r, 0⟩).1 ≤ B := by
  obtain ⟨hw, hz⟩ := way_ok (w := ⟨n, s, f, r, 0⟩) hn (by simp) hc
  have hb := bound_eq hw hz rfl
  rw [served_iff hB]
  unfold routeB
  rw [hc, if_neg (by decide), hb]
  cases hF : boundF s f (hopsL n r) (rels f s.length) (0, 0, []) with
  | none => simp [hF]
  | some b => simp [hF]
theorem route_ge {n : GNet} (hn : n.ok) {s : GSched} {f : GFlow} {r : List Int} (hc : checkW ⟨n, s, f, r, 0⟩ = 0) : 0 ≤ (routeB ⟨n, s, f, r, 0⟩).1 := by
  obtain ⟨hw, hz⟩ := way_ok (w := ⟨n, s, f, r, 0⟩) hn (by simp) hc
  have hb := bound_eq hw hz rfl
  unfold routeB
  rw [hc, if_neg (by decide), hb]
  cases hF : boundF s f (hopsL n r) (rels f s.length) (0, 0, []) with
  | none => simp [hF]
  | some b =>
    simp only [hF]
    have := ((boundF_le (rels f s.length) (0, 0, []) b hF).1 (Int.le_refl _)).1
    simpa [hF] using this
theorem exact_law {n : GNet} (hn : n.ok) {q : List GReq} {s t : GSched} {x : GReq} {r : List Int} (h1 : Cert n q s) (h2 : Cert n (insR q x) t) (hf : ∀ y ∈ q, y.flow.id ≠ x.flow.id) (hr : x.routes = [r]) (hl : t.length = s.length) (ho : t.offsets = s.offsets) (hold : t.cells.filter (fun c => c.flow != x.flow.id) = s.cells) :
    (admitP n q s x).2 = 0 ∧ (routeB ⟨n, (admitP n q s x).1, x.flow, r, 0⟩).2.2.2 = 0 ∧ (routeB ⟨n, t, x.flow, r, 0⟩).2.2.2 = 0 ∧ (routeB ⟨n, (admitP n q s x).1, x.flow, r, 0⟩).1 ≤ (routeB ⟨n, t, x.flow, r, 0⟩).1 := by
  have hI : AdmitIn n q s x := ⟨h1, hf, h2.reqs, by rw [← hl]; exact h2.valid.match_ _ (List.mem_map.2 ⟨x, mem_insR, rfl⟩)⟩
  have hfl := hI.flow
  have hsz := hI.sizes
  have hV := h1.valid
  have hO : Over n s t x.flow.id := ⟨hl, ho, hold, h2.valid.calm, fun c hc => (h2.valid.at_ c hc).1, h2.valid.many⟩
  have hrm : r ∈ x.routes := by rw [hr]; simp
  have hct := route_check h2.reqs h2.valid.form h2.valid.match_ mem_insR hrm
  have hD := served_all hn h2 mem_insR hrm
  have hbt := (route_bound hn hct (by omega)).1 hD
  have hB0 := route_ge hn hct
  have hS := (route_bound hn hct hB0).2 ⟨hbt.1, Int.le_refl _⟩
  generalize hBe : (routeB ⟨n, t, x.flow, r, 0⟩).1 = B at *
  have hW := served_ways (by omega) hS
  rw [hl] at hW
  obtain ⟨g, p1, p2, p3, p4, p5⟩ := put_exact hV.net hO (hI.route r hrm).1 (hI.route r hrm).2 hsz.1 hfl.1 (by omega) (by omega) hI.per ⟨hB0, hbt.2⟩ (s.length.toNat + 1) s x.flow.phase 0 (by simp) (by omega) hI.grid (fun q _ _ => rfl) hW
  have hcount := served_count hfl.1.1 (by omega) (by omega) (by rw [hl]; exact hI.per) (by omega) hS
  rw [hl] at hcount
  have hmany : g.cells.length ≤ 512 := by
    have e := (List.filter_append_perm (fun c : GCell => c.flow != x.flow.id) t.cells).length_eq
    rw [List.length_append, hold] at e
    have e2 : (ofF t x.flow.id).length = (t.cells.filter fun c => !(c.flow != x.flow.id)).length := rfl
    have := h2.valid.many
    unfold rels at hcount
    omega
  have hpl : placeP n s x = (g, true) := by
    unfold placeP
    rw [hr, placeGo, p1]
    simp [placeGo]
  have hA : admitP n q s x = (g, 0) := by
    unfold admitP
    rw [if_neg (by rw [(serves_iff n q s).2 h1]; simp), if_neg (by simp only [List.any_eq_true, beq_iff_eq, not_exists, not_and]; exact hf), if_neg (by rw [faulty_of h2.reqs]; simp), if_neg (by simp [hI.per]), hpl, if_neg (by simp), if_neg (by simp; omega)]
  rw [hA]
  have hVg := hI.valid p2 hmany
  have hcg := route_check hI.reqs hVg.form hVg.match_ mem_insR hrm
  have hSg : Served g x.flow (hopsL n r) B := fun rel hrel => by
    rw [p2.len] at hrel
    obtain ⟨L, hL, hle⟩ := (p4 rel hrel).hops (fin := rel + x.flow.period) (by omega) (Int.le_refl _) (fun l hl => (hopsL_loss hV.net (hI.route r hrm).2 l hl).1)
    exact ⟨L, hL, by omega⟩
  have hbg := (route_bound hn hcg hB0).1 hSg
  exact ⟨rfl, hbg.1, hbt.1, hbg.2⟩
end Go.Proofs.YtbaajjihhdmdpaaGreatDoor

namespace Go.Proofs.YtbaajjihhdmdpaaGreatDoor
open Go.RowKit
set_option linter.unusedSectionVars false
set_option linter.unusedVariables false
set_option linter.unusedSimpArgs false
set_option linter.unnecessarySimpa false
set_option maxRecDepth 100000
set_option maxHeartbeats 4000000
def exN : GNet := ⟨3, [[0, 9, 9], [9, 0, 9], [9, 9, 0]], 1, 1000, [⟨0, 1, 0⟩, ⟨1, 0, 0⟩, ⟨1, 2, 0⟩, ⟨2, 1, 0⟩], [9, 9, 9, 9]⟩
def exQ : List GReq := [⟨⟨5, 0, 1, 3, 0, 3⟩, [[0, 1]]⟩]
def exS : GSched := ⟨3, 1, [⟨0, 0, 0, 1, 5⟩]⟩
def exX : GReq := ⟨⟨6, 1, 2, 3, 0, 3⟩, [[1, 2]]⟩
def exT : GSched := ⟨3, 1, [⟨0, 0, 0, 1, 5⟩, ⟨1, 0, 1, 2, 6⟩]⟩
theorem exN_ok : exN.ok := ⟨by decide, by decide, by decide, by decide⟩
theorem exQ_ok : ∀ x ∈ exQ, x.ok := fun x hx => by
  obtain rfl := List.mem_singleton.1 hx
  exact ⟨by decide, by decide⟩
theorem exX_ok : exX.ok := ⟨by decide, by decide⟩
theorem ex_room : roomP exN exS ⟨1, 2, 0⟩ = ([⟨1, 0, 1, 2, 0⟩, ⟨2, 0, 1, 2, 0⟩], 0) := by decide +kernel
theorem ex_admit : admitP exN exQ exS exX = (exT, 0) := by decide +kernel
theorem ex_drop : dropP exT 5 = (⟨3, 1, [⟨1, 0, 1, 2, 6⟩]⟩, 0) := by decide +kernel
theorem S70 : Sound Tryz.prog 70 [] (.tup [exN.v, reqsV exQ, exS.v]) := by
  refine ex_intro mixedT T [] Tryz.func70 rfl (by rw [Tryz.ntmps70]; simp) (by kernel_rfl) ?_
  conv => whnf
  repeat' first | (refine LenG.map ?_; conv => whnf) | (refine LenG.go ?_; conv => whnf)
  exact RetG.three rfl rfl rfl
theorem S17 : Sound Tryz.prog 17 [] (.bool true) := by
  have h1 := S19 exN exN_ok exS (by decide) ⟨1, 2, 0⟩
  rw [ex_room] at h1
  have h2 := S27 exN exN_ok exQ (by decide) exQ_ok exS (by decide) exX exX_ok
  rw [ex_admit] at h2
  have h3 := S21 exT (by decide) 5
  rw [ex_drop] at h3
  refine ex_intro mixedT T [] Tryz.func17 rfl (by rw [Tryz.ntmps17]; simp) (by kernel_rfl) ?_
  conv => whnf
  repeat' first | (refine LenG.map ?_; conv => whnf) | (refine LenG.go ?_; conv => whnf)
  repeat' first
    | (refine Br.T ?_; conv => whnf)
    | (refine Br.F ?_; conv => whnf)
    | (refine Br.tt (by rfl) ?_; conv => whnf)
    | (refine FnG.go rfl ?_; conv => whnf)
    | (refine LenG.map ?_; conv => whnf)
    | (refine LenG.go ?_; conv => whnf)
    | (refine CallG.go S70 ?_; conv => whnf)
    | (refine CallG.go h1 ?_; conv => whnf)
    | (refine CallG.go h2 ?_; conv => whnf)
    | (refine CallG.go h3 ?_; conv => whnf)
    | (refine Ix.go (by decide) rfl rfl ?_; conv => whnf)
  exact RetG.one rfl
theorem S3 (n : GNet) (hn : n.ok) (s : GSched) (hs : s.cells.length ≤ 100000000) (l : GLink) (flow : Int) : Sound Tryz.prog 3 [n.v, s.v, l.v, i64 flow] (.bool true) := by
  have hsC : Cn s.cells := by show s.cells.length < _; omega
  have h1 := S19 n hn s hsC l
  have h2 := S20 n hn s hsC l
  have h3 := S21 s hs flow
  have h4 := S22 s hsC flow
  rw [room_eq] at h1
  rw [drop_eq] at h3
  have hR : Cn (roomR n s l).1 := by
    show (roomR n s l).1.length < _
    unfold roomR roomRes
    split
    · simp
    split
    · simp
    split
    · simp
    · rename_i h; simp at h; simp only; omega
  have hD : Cn (dropR s flow).1.cells := by
    show (dropR s flow).1.cells.length < _
    unfold dropR
    split
    · simp [zeroS]
    · have := List.length_filter_le (fun c : GCell => c.flow != flow) s.cells
      simp only; omega
  generalize roomR n s l = R at h1 h2 hR
  generalize dropR s flow = D at h3 h4 hD
  have h5 : Sound Tryz.prog 23 [cellsV R.1, cellsV R.1] (.bool true) := by simpa using S23 R.1 R.1 hR
  have h6 : Sound Tryz.prog 24 [D.1.v, D.1.v] (.bool true) := by simpa using S24 D.1 D.1 hD
  refine ex_intro mixedT T [] Tryz.func3 rfl (by rw [Tryz.ntmps3]; simp) (by kernel_rfl) ?_
  conv => whnf
  repeat' first | (refine LenG.map ?_; conv => whnf) | (refine LenG.go ?_; conv => whnf)
  repeat' first
    | (refine Br.T ?_; conv => whnf)
    | (refine Br.F ?_; conv => whnf)
    | (refine Br.tt (by simp only [beq_self_eq_true]) ?_; conv => whnf)
    | (refine Br.mk (fun hq => ?_) (fun hq => ?_) <;> conv => whnf)
    | (refine FnG.go rfl ?_; conv => whnf)
    | (refine LenG.map ?_; conv => whnf)
    | (refine LenG.go ?_; conv => whnf)
    | (refine CallG.go S17 ?_; conv => whnf)
    | (refine CallG.go (S18 n hn) ?_; conv => whnf)
    | (refine CallG.go h1 ?_; conv => whnf)
    | (refine CallG.go h2 ?_; conv => whnf)
    | (refine CallG.go h3 ?_; conv => whnf)
    | (refine CallG.go h4 ?_; conv => whnf)
    | (refine CallG.go h5 ?_; conv => whnf)
    | (refine CallG.go h6 ?_; conv => whnf)
  all_goals first
    | exact RetG.one rfl
    | exact RetG.one (by simp [ret1])
theorem few38_le {n : GNet} {q : List GReq} {s : GSched} (h : few38 n q s = true) : q.length ≤ 4 ∧ s.cells.length ≤ 30 := by
  unfold few38 at h
  split at h
  · simp at h
  · simp at h; omega
/-! ### a certificate's sizes -/
theorem boundF_len {s : GSched} {f : GFlow} {ls : List GLink} : ∀ (rs : List Int) (b b' : Int × Int × List Int), boundF s f ls rs b = some b' → b.2.2.length ≤ needL ls → b'.2.2.length ≤ needL ls
  | [], b, b', h, hb => by simp [boundF] at h; subst h; exact hb
  | rel :: rs, b, b', h, hb => by
    rw [boundF] at h
    cases hh : hops s f.id (rel + f.period) ls rel with
    | none => rw [hh] at h; cases h
    | some L =>
      rw [hh] at h
      refine boundF_len rs _ _ h ?_
      split
      · simp only [List.length_map]; exact Nat.le_of_eq (hops_len _ _ _ hh)
      · exact hb
theorem needL_le : ∀ (ls : List GLink), (∀ l ∈ ls, 0 ≤ l.loss ∧ l.loss ≤ 7) → needL ls ≤ 8 * ls.length
  | [], _ => by simp [needL]
  | l :: ls, h => by
    have h1 := h l (by simp)
    have h2 := needL_le ls fun x hx => h x (by simp [hx])
    simp only [needL, List.map_cons, List.sum_cons, List.length_cons] at h2 ⊢
    omega
theorem routeB_len {n : GNet} (hn : n.ok) (s : GSched) (f : GFlow) (r : List Int) : (routeB ⟨n, s, f, r, 0⟩).2.2.1.length ≤ 100 := by
  unfold routeB
  split
  · simp
  rename_i hc
  obtain ⟨hw, hz⟩ := way_ok (w := ⟨n, s, f, r, 0⟩) hn (by simp) (by simpa using hc)
  split
  · simp
  rw [bound_eq hw hz rfl]
  cases hF : boundF s f (hopsL n r) (rels f s.length) (0, 0, []) with
  | none => simp [hF]
  | some b =>
    simp only [hF]
    have h1 := boundF_len _ _ _ hF (by simp)
    have e := (linksW_eq hw rfl).1
    have h2 := needL_le (hopsL n r) (fun l hl => (linksW_eq hw rfl).2 l (by rw [e]; exact hl))
    have h3 : (hopsL n r).length = r.length - 1 := by simp [hopsL]
    have h4 : r.length ≤ 9 := hw.len
    omega
theorem claimGo_ok {n : GNet} (hn : n.ok) {s : GSched} {f : GFlow} : ∀ (rs : List (List Int)) (c c' : GClaim), claimGo n s f rs c = some c' → (∀ r ∈ rs, Cn r) → (∀ r ∈ c.routes, Cn r) → (∀ r ∈ c.slots, Cn r) →
    c'.routes.length ≤ c.routes.length + rs.length ∧ c'.bounds.length ≤ c.bounds.length + rs.length ∧ c'.worst.length ≤ c.worst.length + rs.length ∧ c'.slots.length ≤ c.slots.length + rs.length ∧ (∀ r ∈ c'.routes, Cn r) ∧ (∀ r ∈ c'.slots, Cn r)
  | [], c, c', h, _, h1, h2 => by simp [claimGo] at h; subst h; exact ⟨by simp, by simp, by simp, by simp, h1, h2⟩
  | r :: rs, c, c', h, hr, h1, h2 => by
    rw [claimGo] at h
    split at h
    · cases h
    have := claimGo_ok hn rs _ _ h (fun x hx => hr x (by simp [hx])) (fun x hx => by
      rcases List.mem_append.1 hx with hx | hx
      · exact h1 x hx
      · rw [List.mem_singleton.1 hx]; exact hr r (by simp)) (fun x hx => by
      rcases List.mem_append.1 hx with hx | hx
      · exact h2 x hx
      · rw [List.mem_singleton.1 hx]
        have := routeB_len hn s f r
        show List.length _ < _
        omega)
    unfold addR at this
    simp only [List.length_append, List.length_cons, List.length_nil] at this ⊢
    exact ⟨by omega, by omega, by omega, by omega, this.2.2.2.2⟩
theorem claim_ok {n : GNet} (hn : n.ok) {s : GSched} {x : GReq} (hx : x.ok) (hl : x.routes.length ≤ 1000000) : ((claimP n s x).getD noClaim).ok := by
  cases h : claimP n s x with
  | none => exact ⟨by decide, by simp [noClaim], by decide, by decide, by decide, by simp [noClaim]⟩
  | some c =>
    have := claimGo_ok hn _ _ _ h hx.rows (by simp) (by simp)
    simp only [List.length_nil] at this
    simp only [Option.getD_some]
    exact ⟨by show c.routes.length < _; omega, this.2.2.2.2.1, by show c.bounds.length < _; omega, by show c.worst.length < _; omega, by show c.slots.length < _; omega, this.2.2.2.2.2⟩
theorem S33 (x : GReq) (c : GCell) : Sound Tryz.prog 33 [c.v, .rp x.c] (.bool (c.flow != x.flow.id)) := by
  refine ex_intro mixedT T [] Tryz.func33 rfl (by rw [Tryz.ntmps33]; simp) (by kernel_rfl) ?_
  conv => whnf
  repeat' first | (refine LenG.map ?_; conv => whnf) | (refine LenG.go ?_; conv => whnf)
  repeat' first
    | (refine Br.T ?_; conv => whnf)
    | (refine Br.F ?_; conv => whnf)
    | (refine Br.mk (fun hq => ?_) (fun hq => ?_) <;> conv => whnf)
    | (refine FnG.go rfl ?_; conv => whnf)
    | (refine LenG.map ?_; conv => whnf)
    | (refine LenG.go ?_; conv => whnf)
  exact RetG.one rfl
theorem S35 (y z : GClaim) (hy : y.ok) (hz : z.ok) : Sound Tryz.prog 35 [z.v, .rp y.c] (.bool (decide (y = z))) := by
  refine ex_intro mixedT T [] Tryz.func35 rfl (by rw [Tryz.ntmps35]; simp) (by kernel_rfl) ?_
  conv => whnf
  repeat' first | (refine LenG.map ?_; conv => whnf) | (refine LenG.go ?_; conv => whnf)
  repeat' first
    | (refine Br.T ?_; conv => whnf)
    | (refine Br.F ?_; conv => whnf)
    | (refine Br.mk (fun hq => ?_) (fun hq => ?_) <;> conv => whnf)
    | (refine FnG.go rfl ?_; conv => whnf)
    | (refine LenG.map ?_; conv => whnf)
    | (refine LenG.go ?_; conv => whnf)
    | (refine CallG.go (S36 y z hy hz) ?_; conv => whnf)
  exact RetG.one rfl
theorem S5 (n : GNet) (hn : n.ok) (q : List GReq) (hq : q.length ≤ 10000000) (ho : ∀ x ∈ q, x.ok) (s : GSched) (hs : s.cells.length ≤ 100000000) (x : GReq) (hx : x.ok) : Sound Tryz.prog 5 [n.v, reqsV q, s.v, x.v] (.bool true) := by
  have hsC : Cn s.cells := by show s.cells.length < _; omega
  have hqx : ∀ y ∈ q ++ [x], y.ok := fun y hy => (List.mem_append.1 hy).elim (ho y) fun h => (List.mem_singleton.1 h) ▸ hx
  obtain ⟨F, hF⟩ : ∃ F, few38 n (q ++ [x]) s = F := ⟨_, rfl⟩
  have c25 := S25 n hn (q ++ [x]) (by show (q ++ [x]).length < _; simp; omega) hqx s hsC
  rw [hF] at c25
  obtain ⟨A, hA⟩ : ∃ A, admitP n q s x = A := ⟨_, rfl⟩
  obtain ⟨D, hD⟩ : ∃ D, onlyC A.1 s = D := ⟨_, rfl⟩
  obtain ⟨C, hC⟩ : ∃ C, makeP n (insR q x) A.1 = C := ⟨_, rfl⟩
  obtain ⟨B, hB⟩ : ∃ B, makeP n q s = B := ⟨_, rfl⟩
  have small : F = true → q.length ≤ 4 ∧ s.cells.length ≤ 30 := fun h => by
    have := few38_le (n := n) (q := q ++ [x]) (s := s) (by rw [hF, h])
    simp at this; omega
  have c27 : F = true → Sound Tryz.prog 27 [n.v, reqsV q, s.v, x.v] (.tup [A.1.v, i64 A.2]) := fun h => by
    rw [← hA]; have := small h; exact S27 n hn q (by omega) ho s (by omega) x hx
  have none : A.2 ≠ 0 → A.1.cells = [] := fun h => by rw [← hA]; exact admit_none (by rw [hA]; exact h)
  have hol : ∀ y ∈ q, F = true → A.2 = 0 → ((claimP n s y).getD noClaim).ok ∧ ((claimP n A.1 y).getD noClaim).ok := fun y hy _ h0 => by
    have hc := admit_law hn (n := n) (q := q) (s := s) (x := x) (by rw [hA]; exact h0)
    have hr := (routesP_ok ((reqs_net hc.before.reqs).2.2 y hy)).2.1
    exact ⟨claim_ok hn (ho y hy) (by omega), claim_ok hn (ho y hy) (by omega)⟩
  have law : F = true → A.2 = 0 → differP s A.1 = ([], D, 0) ∧ (∀ c ∈ D, (c.flow != x.flow.id) = false) ∧ withR q x = insR q x ∧ C.2 = (-1, 0) ∧ B.2 = (-1, 0) ∧ dropP A.1 x.flow.id = (s, 0) ∧ (∀ c ∈ B.1, C.1.any fun z => decide (c = z)) ∧ C.1.length = B.1.length + 1 ∧ B.1.length ≤ 4 ∧ A.1.cells.length ≤ 512 ∧ (∀ y ∈ B.1, y.ok) ∧ (∀ y ∈ C.1, y.ok) := by
    intro hf h0
    have h0' : (admitP n q s x).2 = 0 := by rw [hA]; exact h0
    have hc := admit_law hn h0'
    obtain ⟨e1, e2, e3, e4, e5, e6, e7⟩ := serves_law hn h0'
    have hql := small hf
    rw [hA] at e1 e2 e4 e6 e7 hc
    rw [hD] at e1 e2
    rw [hC] at e4 e7
    rw [hB] at e5 e7
    refine ⟨e1, fun c h => by simp [e2 c h], e3, by rw [e4], by rw [e5], e6, fun c h => List.any_eq_true.2 ⟨c, e7 c h, by simp⟩, ?_, ?_, hc.after.valid.many, fun y hy => ?_, fun y hy => ?_⟩
    · rw [e4, e5]; simp [ins_len]
    · rw [e5]; simp; omega
    · rw [e5] at hy
      obtain ⟨z, hz, rfl⟩ := List.mem_map.1 hy
      exact (hol z hz hf h0).1
    · rw [e4] at hy
      obtain ⟨z, hz, rfl⟩ := List.mem_map.1 hy
      rcases ins_mem.1 hz with rfl | hz
      · exact claim_ok hn hx (by have := (routesP_ok ((reqs_net hc.after.reqs).2.2 z mem_insR)).2.1; omega)
      · exact (hol z hz hf h0).2
  have c29 : F = true → A.2 = 0 → Sound Tryz.prog 29 [s.v, A.1.v] (.tup [cellsV [], cellsV D, i64 0]) := fun hf h0 => by
    have L := law hf h0
    have := S29 s A.1 (by have := small hf; omega) (by omega)
    rw [L.1] at this; exact this
  have c31 : F = true → A.2 = 0 → Sound Tryz.prog 31 [reqsV q, x.v] (reqsV (insR q x)) := fun hf h0 => by
    rw [← (law hf h0).2.2.1]; exact S31 q (by have := small hf; omega) x
  have c30 : F = true → A.2 = 0 → Sound Tryz.prog 30 [n.v, reqsV (insR q x), A.1.v] (.tup [claimsV C.1, i64 (-1), i64 0]) := fun hf h0 => by
    have L := law hf h0
    have := S30 n hn (insR q x) (by rw [ins_len]; have := small hf; omega) (fun y hy => (insR_mem hy).elim (fun e => e ▸ hx) (ho y)) A.1 (by omega)
    rw [hC, L.2.2.2.1] at this; exact this
  have c30b : F = true → A.2 = 0 → Sound Tryz.prog 30 [n.v, reqsV q, s.v] (.tup [claimsV B.1, i64 (-1), i64 0]) := fun hf h0 => by
    have L := law hf h0
    have := S30 n hn q (by have := small hf; omega) ho s (by have := small hf; omega)
    rw [hB, L.2.2.2.2.1] at this; exact this
  have c21 : F = true → A.2 = 0 → Sound Tryz.prog 21 [A.1.v, i64 x.flow.id] (.tup [s.v, i64 0]) := fun hf h0 => by
    have L := law hf h0
    have := S21 A.1 (by omega) x.flow.id
    rw [L.2.2.2.2.2.1] at this; exact this
  have hDl : F = true → A.2 = 0 → D.length ≤ 100000000 := fun hf h0 => by
    rw [← hD]
    exact Nat.le_trans (List.length_filter_le _ _) (by have := (law hf h0).2.2.2.2.2.2.2.2.2.1; omega)
  have c32 : F = true → A.2 = 0 → Sound Tryz.prog 32 [cellsV D, .fn 33 [.rp x.c]] (.bool false) := fun hf h0 => by
    have := S32_1 (g := 33) rfl x.c D (fun c => c.flow != x.flow.id) (fun c _ => S33 x c) (by have := hDl hf h0; omega)
    rwa [show (D.any fun c => c.flow != x.flow.id) = false from by rw [List.any_eq_false]; intro c hc; rw [(law hf h0).2.1 c hc]; simp] at this
  have c24 : Sound Tryz.prog 24 [s.v, s.v] (.bool true) := by simpa using S24 s s hsC
  clear hF hA hD hC hB hDl
  refine ex_intro mixedT T [] Tryz.func5 rfl (by rw [Tryz.ntmps5]; simp) (by kernel_rfl) ?_
  conv => whnf
  repeat' first | (refine LenG.map ?_; conv => whnf) | (refine LenG.go ?_; conv => whnf)
  refine FnG.go rfl ?_; conv => whnf
  refine CallG.go S17 ?_; conv => whnf
  repeat' first | (refine Br.T ?_; conv => whnf) | (refine Br.F ?_; conv => whnf)
  refine FnG.go rfl ?_; conv => whnf
  refine CallG.go (S26o q (by omega)) ?_; conv => whnf
  refine ⟨appOk (by decide) (by omega) ⟨rfl, rfl⟩, ?_⟩; conv => whnf
  refine ⟨by simp, ?_⟩; conv => whnf
  refine FnG.go rfl ?_; conv => whnf
  rw [show reqsV (q ++ [x]) = .sl .no (q.map GReq.c ++ [x.c]) by simp [reqsV]] at c25
  refine CallG.go c25 ?_; conv => whnf
  cases F with
  | false =>
    refine Br.tt rfl ?_; conv => whnf
    exact RetG.one rfl
  | true =>
    refine Br.ff rfl ?_; conv => whnf
    refine FnG.go rfl ?_; conv => whnf
    refine CallG.go (c27 rfl) ?_; conv => whnf
    refine Br.mk (fun g => ?_) (fun g => ?_) <;> conv => whnf
    · refine LenG.map ?_; conv => whnf
      exact RetG.one (by simp [ret1, none (by simpa using g)])
    have h0 : A.2 = 0 := by simpa using g
    have L := law rfl h0
    have l1 := L.2.2.2.2.2.2.1
    have l2 := L.2.2.2.2.2.2.2.1
    have l3 := L.2.2.2.2.2.2.2.2.1
    have l4 := L.2.2.2.2.2.2.2.2.2.2.1
    have l5 := L.2.2.2.2.2.2.2.2.2.2.2
    clear L law
    refine FnG.go rfl ?_; conv => whnf
    refine CallG.go (c29 rfl h0) ?_; conv => whnf
    refine FnG.go rfl ?_; conv => whnf
    refine CallG.go (c31 rfl h0) ?_; conv => whnf
    refine FnG.go rfl ?_; conv => whnf
    refine CallG.go (c30 rfl h0) ?_; conv => whnf
    refine FnG.go rfl ?_; conv => whnf
    refine CallG.go (c30b rfl h0) ?_; conv => whnf
    refine FnG.go rfl ?_; conv => whnf
    refine CallG.go (c21 rfl h0) ?_; conv => whnf
    repeat' first
      | (refine Br.T ?_; conv => whnf)
      | (refine Br.F ?_; conv => whnf)
      | (refine Br.ff (by rfl) ?_; conv => whnf)
      | (refine LenG.map ?_; conv => whnf)
      | (refine FnG.go rfl ?_; conv => whnf)
      | (refine CallG.go (c32 rfl h0) ?_; conv => whnf)
      | (refine CallG.go c24 ?_; conv => whnf)
    refine Lp.go T [] (fun i : Nat => [(14, claimsV C.1), (17, claimsV B.1), (112, claimsV B.1), (113, i64 B.1.length), (114, i64 i)]) (fun _ => []) (fun m i => m + i = B.1.length) B.1.length 0 (by simp) [] ?_ ?_
    · (conv => whnf); refine ⟨rfl, ?_, ?_⟩ <;> (conv => whnf) <;> (repeat' apply And.intro) <;> first | exact True.intro | rfl | (conv => rhs; whnf)
    rintro m i hm
    conv => whnf
    refine Br.mk (fun hq => ?_) (fun hq => ?_) <;> conv => whnf
    · have hlt : i < B.1.length := by simpa using hq
      refine Ix.at (l := B.1) hlt rfl ?_; conv => whnf
      refine FnG.go rfl ?_; conv => whnf
      refine CallG.go (S34_1 (g := 35) rfl (gd B.1 i).c C.1 (fun z => decide (gd B.1 i = z)) (fun z hz => S35 (gd B.1 i) z (l4 _ (gd_mem hlt)) (l5 z hz)) (by omega)) ?_; conv => whnf
      rw [l1 _ (gd_mem hlt)]
      refine Br.ff rfl ?_; conv => whnf
      refine ⟨m - 1, i + 1, by omega, by omega, ?_⟩
      (conv => whnf); refine ⟨rfl, ?_, ?_⟩ <;> (conv => whnf) <;> (repeat' apply And.intro) <;> first | exact True.intro | rfl | (conv => rhs; whnf)
      exact incr (by omega)
    · repeat' first | (refine LenG.map ?_; conv => whnf)
      refine RetG.one ?_
      rw [l2, w64 (by omega)]
      simp [ret1]
theorem S46 (x y : GReq) : Sound Tryz.prog 46 [y.v, .rp x.c] (.bool (y.flow.id == x.flow.id)) := by
  refine ex_intro mixedT T [] Tryz.func46 rfl (by rw [Tryz.ntmps46]; simp) (by kernel_rfl) ?_
  conv => whnf
  repeat' first | (refine LenG.map ?_; conv => whnf) | (refine LenG.go ?_; conv => whnf)
  repeat' first
    | (refine Br.T ?_; conv => whnf)
    | (refine Br.F ?_; conv => whnf)
    | (refine Br.mk (fun hq => ?_) (fun hq => ?_) <;> conv => whnf)
    | (refine FnG.go rfl ?_; conv => whnf)
    | (refine LenG.map ?_; conv => whnf)
    | (refine LenG.go ?_; conv => whnf)
  exact RetG.one rfl
theorem withGo_len (x : GReq) : ∀ (l : List GReq) (p : Bool) (out : List GReq), (withGo x l p out).1.length + (if (withGo x l p out).2 then 0 else 1) ≤ l.length + out.length + (if p then 0 else 1)
  | [], p, out => by cases p <;> simp [withGo]
  | y :: r, p, out => by
    rw [withGo]
    split
    · rename_i h
      have := withGo_len x r true (out ++ [x] ++ [y])
      simp at h
      rw [h.1]
      simp only [List.length_append, List.length_cons, List.length_nil, if_true, Bool.false_eq_true, if_false] at this ⊢; omega
    · have := withGo_len x r p (out ++ [y])
      simp only [List.length_append, List.length_cons, List.length_nil] at this ⊢; omega
theorem withGo_mem (x : GReq) : ∀ (l : List GReq) (p : Bool) (out : List GReq) (y : GReq), y ∈ (withGo x l p out).1 → y = x ∨ y ∈ l ∨ y ∈ out
  | [], p, out, y, h => by simp [withGo] at h; exact .inr (.inr h)
  | z :: r, p, out, y, h => by
    rw [withGo] at h
    split at h
    · rcases withGo_mem x r _ _ y h with h | h | h
      · exact .inl h
      · exact .inr (.inl (by simp [h]))
      · simp at h
        rcases h with h | h | h
        · exact .inr (.inr h)
        · exact .inl h
        · exact .inr (.inl (by simp [h]))
    · rcases withGo_mem x r _ _ y h with h | h | h
      · exact .inl h
      · exact .inr (.inl (by simp [h]))
      · simp at h
        rcases h with h | h
        · exact .inr (.inr h)
        · exact .inr (.inl (by simp [h]))
theorem withR_len (q : List GReq) (x : GReq) : (withR q x).length ≤ q.length + 1 := by
  have := withGo_len x q false []
  unfold withR
  cases h : (withGo x q false []).2 <;> rw [h] at this <;> simp at this ⊢ <;> omega
theorem withR_mem {q : List GReq} {x y : GReq} (h : y ∈ withR q x) : y = x ∨ y ∈ q := by
  unfold withR at h
  split at h
  · rcases List.mem_append.1 h with h | h
    · rcases withGo_mem x _ _ _ y h with h | h | h
      · exact .inl h
      · exact .inr h
      · simp at h
    · exact .inl (List.mem_singleton.1 h)
  · rcases withGo_mem x _ _ _ y h with h | h | h
    · exact .inl h
    · exact .inr h
    · simp at h
/-! ### the cells that are added -/
def ofC (id : Int) (c : GCell) : GCell := ⟨c.slot, c.offset, c.from_, c.to_, id⟩
def addS (id : Int) (t : GSched) (c : GCell) : GSched := if (addP t (ofC id c)).2 == 0 then (addP t (ofC id c)).1 else t
theorem addS_is (id : Int) (t : GSched) (c : GCell) : addS id t c = t ∨ addS id t c = ⟨t.length, t.offsets, insC t.cells (ofC id c)⟩ := by
  unfold addS
  split
  · rename_i h
    unfold addP at h ⊢
    split
    · rename_i k; rw [if_pos k] at h; simp at h
    rename_i k1; rw [if_neg k1] at h
    split
    · rename_i k; rw [if_pos k] at h; simp at h
    rename_i k2; rw [if_neg k2] at h
    split
    · rename_i k; rw [if_pos k] at h; simp at h
    rename_i k3; rw [if_neg k3] at h
    split
    · rename_i k; rw [if_pos k] at h; simp at h
    · exact .inr rfl
  · exact .inl rfl
theorem adds_is (id : Int) : ∀ (l : List GCell) (t : GSched), (l.foldl (addS id) t).length = t.length ∧ (l.foldl (addS id) t).offsets = t.offsets ∧ (l.foldl (addS id) t).cells.filter (fun c => c.flow != id) = t.cells.filter (fun c => c.flow != id) ∧ (l.foldl (addS id) t).cells.length ≤ t.cells.length + l.length
  | [], t => ⟨rfl, rfl, rfl, by simp⟩
  | c :: r, t => by
    obtain ⟨h1, h2, h3, h4⟩ := adds_is id r (addS id t c)
    rw [List.foldl_cons]
    rcases addS_is id t c with e | e
    · rw [e] at h1 h2 h3 h4 ⊢
      exact ⟨h1, h2, h3, by simp; omega⟩
    · rw [e] at h1 h2 h3 h4 ⊢
      refine ⟨h1, h2, h3.trans (insC_filter (by simp [ofC])), ?_⟩
      rw [insC_len] at h4
      simp; omega
theorem same_none {q : List GReq} {x : GReq} (h : (q.any fun y => y.flow.id == x.flow.id) = false) : ∀ y ∈ q, y.flow.id ≠ x.flow.id := by
  intro y hy e
  have := List.any_eq_false.1 h y hy
  simp [e] at this
theorem exact_all {n : GNet} (hn : n.ok) {q : List GReq} {s : GSched} {x : GReq} {more : List GCell} (hr : x.routes.length = 1) (h1 : (makeP n q s).2.2 = 0) (h2 : (makeP n (withR q x) (more.foldl (addS x.flow.id) s)).2.2 = 0) (h3 : (q.any fun y => y.flow.id == x.flow.id) = false) :
    (admitP n q s x).2 = 0 ∧ (routeB ⟨n, (admitP n q s x).1, x.flow, gd x.routes 0, 0⟩).2.2.2 = 0 ∧ (routeB ⟨n, more.foldl (addS x.flow.id) s, x.flow, gd x.routes 0, 0⟩).2.2.2 = 0 ∧ (routeB ⟨n, (admitP n q s x).1, x.flow, gd x.routes 0, 0⟩).1 ≤ (routeB ⟨n, more.foldl (addS x.flow.id) s, x.flow, gd x.routes 0, 0⟩).1 ∧ (admitP n q s x).1.cells.length ≤ 512 := by
  have hC := (make_iff n q s).1 h1
  have hf := same_none h3
  have hq : q.Pairwise fun a b => a.flow.id < b.flow.id := by
    have := flows_rise (reqs_net hC.reqs).2.1
    unfold flowsOf at this
    exact (List.pairwise_map (f := fun x : GReq => x.flow) (R := fun a b : GFlow => a.id < b.id)).1 this
  rw [with_ins hq hf] at h2
  have hD := (make_iff n _ _).1 h2
  obtain ⟨a1, a2, a3, _⟩ := adds_is x.flow.id more s
  have hs : s.cells.filter (fun c => c.flow != x.flow.id) = s.cells := by
    refine List.filter_eq_self.2 fun c hc => ?_
    obtain ⟨f, hf2, e⟩ := (findFl_iff _ _).1 (hC.valid.at_ c hc).2
    unfold flowsOf at hf2
    obtain ⟨y, hy, rfl⟩ := List.mem_map.1 hf2
    have := hf y hy
    simp; omega
  rw [hs] at a3
  have hrr : x.routes = [gd x.routes 0] := by
    cases hx : x.routes with
    | nil => rw [hx] at hr; simp at hr
    | cons a b =>
      rw [hx] at hr
      simp at hr
      subst hr; rfl
  obtain ⟨e1, e2, e3, e4⟩ := exact_law hn hC hD hf hrr a1 a2 a3
  exact ⟨e1, e2, e3, e4, (admit_law hn e1).after.valid.many⟩
theorem S8 (n : GNet) (hn : n.ok) (q : List GReq) (hq : q.length ≤ 10000000) (ho : ∀ x ∈ q, x.ok) (s : GSched) (hs : s.cells.length ≤ 100000000) (x : GReq) (hx : x.ok) (more : List GCell) (hm : more.length ≤ 100000000) : Sound Tryz.prog 8 [n.v, reqsV q, s.v, x.v, cellsV more] (.bool true) := by
  have hsC : Cn s.cells := by show s.cells.length < _; omega
  have hmC : Cn more := by show more.length < _; omega
  have hqC : Cn q := by show q.length < _; omega
  have hqx : ∀ y ∈ q ++ [x], y.ok := fun y hy => (List.mem_append.1 hy).elim (ho y) fun h => (List.mem_singleton.1 h) ▸ hx
  obtain ⟨F, hF⟩ : ∃ F, few38 n (q ++ [x]) s = F := ⟨_, rfl⟩
  have c25 := S25 n hn (q ++ [x]) (by show (q ++ [x]).length < _; simp; omega) hqx s hsC
  rw [hF] at c25
  have small : F = true → q.length ≤ 4 ∧ s.cells.length ≤ 30 := fun h => by
    have := few38_le (n := n) (q := q ++ [x]) (s := s) (by rw [hF, h])
    simp at this; omega
  obtain ⟨f, hfd⟩ : ∃ f : GSched → GCell → GSched, f = addS x.flow.id := ⟨_, rfl⟩
  obtain ⟨g, hgd⟩ : ∃ g : GSched → GCell → GSched × Int, g = fun t c => addP t (ofC x.flow.id c) := ⟨_, rfl⟩
  have fg : ∀ t c, f t c = if (g t c).2 == 0 then (g t c).1 else t := fun t c => by rw [hfd, hgd]; rfl
  have c43 : ∀ (t : GSched) (c : GCell), t.cells.length ≤ 1000000 → Sound Tryz.prog 43 [t.v, (ofC x.flow.id c).v] (.tup [(g t c).1.v, i64 (g t c).2]) := fun t c h => by rw [hgd]; exact S43 t h _
  obtain ⟨U, hU⟩ : ∃ U, more.foldl f s = U := ⟨_, rfl⟩
  have hUl : U.cells.length ≤ s.cells.length + more.length := by rw [← hU, hfd]; exact (adds_is x.flow.id more s).2.2.2
  have hpre : ∀ k, ((more.take k).foldl f s).cells.length ≤ s.cells.length + k := fun k => by
    have := (adds_is x.flow.id (more.take k) s).2.2.2
    rw [hfd]
    rw [List.length_take] at this; omega
  obtain ⟨A, hA⟩ : ∃ A, admitP n q s x = A := ⟨_, rfl⟩
  obtain ⟨B, hB⟩ : ∃ B, makeP n q s = B := ⟨_, rfl⟩
  obtain ⟨X, hX⟩ : ∃ X, withR q x = X := ⟨_, rfl⟩
  obtain ⟨C, hC⟩ : ∃ C, makeP n X U = C := ⟨_, rfl⟩
  obtain ⟨b, hb⟩ : ∃ b, (q.any fun y => y.flow.id == x.flow.id) = b := ⟨_, rfl⟩
  obtain ⟨G, hG⟩ : ∃ G, routeB ⟨n, A.1, x.flow, gd x.routes 0, 0⟩ = G := ⟨_, rfl⟩
  obtain ⟨H, hH⟩ : ∃ H, routeB ⟨n, U, x.flow, gd x.routes 0, 0⟩ = H := ⟨_, rfl⟩
  have law : x.routes.length = 1 → B.2.2 = 0 → C.2.2 = 0 → b = false → A.2 = 0 ∧ G.2.2.2 = 0 ∧ H.2.2.2 = 0 ∧ G.1 ≤ H.1 ∧ A.1.cells.length ≤ 512 := fun h0 h1 h2 h3 => by
    have := exact_all (n := n) hn (q := q) (s := s) (x := x) (more := more) h0 (by rw [hB]; exact h1) (by rw [hX, ← hfd, hU, hC]; exact h2) (by rw [hb]; exact h3)
    rw [← hfd, hU, hH, hA, hG] at this
    exact this
  have hXl : X.length ≤ q.length + 1 := by rw [← hX]; exact withR_len q x
  have hXo : ∀ y ∈ X, y.ok := fun y hy => by rw [← hX] at hy; exact (withR_mem hy).elim (fun e => e ▸ hx) (ho y)
  have c27 : F = true → Sound Tryz.prog 27 [n.v, reqsV q, s.v, x.v] (.tup [A.1.v, i64 A.2]) := fun h => by
    rw [← hA]; have := small h; exact S27 n hn q (by omega) ho s (by omega) x hx
  have c30 : F = true → Sound Tryz.prog 30 [n.v, reqsV q, s.v] (.tup [claimsV B.1, i64 B.2.1, i64 B.2.2]) := fun h => by
    rw [← hB]; have := small h; exact S30 n hn q (by omega) ho s (by omega)
  have c31 : F = true → Sound Tryz.prog 31 [reqsV q, x.v] (reqsV X) := fun h => by
    rw [← hX]; have := small h; exact S31 q (by omega) x
  have c30b : F = true → more.length ≤ 20 → Sound Tryz.prog 30 [n.v, reqsV X, U.v] (.tup [claimsV C.1, i64 C.2.1, i64 C.2.2]) := fun h h2 => by
    rw [← hC]; have := small h; exact S30 n hn X (by omega) hXo U (by omega)
  have c45 : F = true → Sound Tryz.prog 45 [reqsV q, .fn 46 [.rp x.c]] (.bool b) := fun h => by
    rw [← hb]; exact S45_1 (g := 46) rfl x.c q (fun y => y.flow.id == x.flow.id) (fun y _ => S46 x y) (by omega)
  have c44 := S44 n hn
  have hr0 : x.routes.length = 1 → Cn (gd x.routes 0) := fun h => hx.rows _ (gd_mem (by omega))
  have c47 : A.1.cells.length ≤ 512 → x.routes.length = 1 → Sound Tryz.prog 47 [n.v, A.1.v, x.flow.v, .sl .no ((gd x.routes 0).map fun x => [i64 x])] (.tup [i64 G.1, i64 G.2.1, intsV G.2.2.1, i64 G.2.2.2]) := fun h h2 => by
    rw [← hG]; exact S47 n hn A.1 (by show A.1.cells.length < _; omega) x.flow (gd x.routes 0) (hr0 h2)
  have c47b : x.routes.length = 1 → Sound Tryz.prog 47 [n.v, U.v, x.flow.v, .sl .no ((gd x.routes 0).map fun x => [i64 x])] (.tup [i64 H.1, i64 H.2.1, intsV H.2.2.1, i64 H.2.2.2]) := fun h2 => by
    rw [← hH]; exact S47 n hn U (by show U.cells.length < _; omega) x.flow (gd x.routes 0) (hr0 h2)
  clear hF hA hB hX hC hb hG hH hfd hgd
  refine ex_intro mixedT T [] Tryz.func8 rfl (by rw [Tryz.ntmps8]; simp) (by kernel_rfl) ?_
  conv => whnf
  repeat' first | (refine LenG.map ?_; conv => whnf) | (refine LenG.go ?_; conv => whnf)
  refine FnG.go rfl ?_; conv => whnf
  refine CallG.go S17 ?_; conv => whnf
  repeat' first | (refine Br.T ?_; conv => whnf) | (refine Br.F ?_; conv => whnf)
  refine FnG.go rfl ?_; conv => whnf
  refine CallG.go (S26o q (by omega)) ?_; conv => whnf
  refine ⟨appOk (by decide) (by omega) ⟨rfl, rfl⟩, ?_⟩; conv => whnf
  refine ⟨by simp, ?_⟩; conv => whnf
  refine FnG.go rfl ?_; conv => whnf
  rw [show reqsV (q ++ [x]) = .sl .no (q.map GReq.c ++ [x.c]) by simp [reqsV]] at c25
  refine CallG.go c25 ?_; conv => whnf
  cases F with
  | false =>
    refine Br.tt rfl ?_; conv => whnf
    repeat' first | (refine Br.T ?_; conv => whnf) | (refine Br.F ?_; conv => whnf)
    exact RetG.one rfl
  | true =>
    refine Br.ff rfl ?_; conv => whnf
    refine LenG.map ?_; conv => whnf
    refine Br.mk (fun g1 => ?_) (fun g1 => ?_) <;> conv => whnf
    · repeat' first | (refine Br.T ?_; conv => whnf) | (refine Br.F ?_; conv => whnf)
      exact RetG.one rfl
    have g1 : x.routes.length = 1 := by simp at g1; omega
    repeat' first | (refine Br.T ?_; conv => whnf) | (refine Br.F ?_; conv => whnf) | (refine LenG.map ?_; conv => whnf)
    refine Br.mk (fun g2 => ?_) (fun g2 => ?_) <;> conv => whnf
    · exact RetG.one rfl
    have g2 : more.length ≤ 20 := by simp at g2; omega
    repeat' first | (refine LenG.map ?_; conv => whnf)
    refine Lp.go T [.t 5, .t 7, .t 8, .t 11] (fun (a : Nat × GSched) => [(1, reqsV q), (5, .op 0 0), (7, .op 1 0), (8, .op 2 0), (11, .op 3 0), (55, cellsV more), (56, i64 more.length), (57, i64 a.1)]) (fun a => [.box n.c, .box s.c, .box x.c, .box a.2.c])
      (fun m a => m + a.1 = more.length ∧ a.2 = (more.take a.1).foldl f s) more.length (0, s) ⟨by simp, by simp⟩ [.t 5, .t 7, .t 8, .t 11] ?_ ?_
    · (conv => whnf); refine ⟨rfl, ?_, ?_⟩ <;> (conv => whnf) <;> (repeat' apply And.intro) <;> first | exact True.intro | rfl | (conv => rhs; whnf)
    rintro m ⟨k, t⟩ ⟨hmk, ht⟩
    simp only at hmk ht
    conv => whnf
    refine Br.mk (fun hq => ?_) (fun hq => ?_) <;> conv => whnf
    · have hlt : k < more.length := by simpa using hq
      have htl : t.cells.length ≤ 1000000 := by have := hpre k; have := small rfl; rw [ht]; omega
      have hnx : f t (gd more k) = (more.take (k + 1)).foldl f s := by
        rw [List.take_add_one, gd_get hlt, List.foldl_append, ← ht]; rfl
      rw [fg] at hnx
      refine Ix.at (l := more) hlt rfl ?_; conv => whnf
      refine FnG.go rfl ?_; conv => whnf
      refine CallG.go (c43 t (gd more k) htl) ?_; conv => whnf
      refine Br.mk (fun g3 => ?_) (fun g3 => ?_) <;> conv => whnf
      · refine ⟨m - 1, (k + 1, (g t (gd more k)).1), by omega, ⟨by simp only; omega, by rw [← hnx, if_pos g3]⟩, ?_⟩
        (conv => whnf); refine ⟨rfl, ?_, ?_⟩ <;> (conv => whnf) <;> (repeat' apply And.intro) <;> first | exact True.intro | rfl | (conv => rhs; whnf)
        exact incr (by omega)
      · refine ⟨m - 1, (k + 1, t), by omega, ⟨by simp only; omega, by rw [← hnx, if_neg (by rw [g3]; simp)]⟩, ?_⟩
        (conv => whnf); refine ⟨rfl, ?_, ?_⟩ <;> (conv => whnf) <;> (repeat' apply And.intro) <;> first | exact True.intro | rfl | (conv => rhs; whnf)
        exact incr (by omega)
    · have hkm : k = more.length := by
        have : more.length ≤ k := by simpa using hq
        omega
      rw [hkm, List.take_length, hU] at ht
      subst ht
      refine FnG.go rfl ?_; conv => whnf
      refine CallG.go (c30 rfl) ?_; conv => whnf
      refine Br.mk (fun g3 => ?_) (fun g3 => ?_) <;> conv => whnf
      · exact RetG.one rfl
      refine FnG.go rfl ?_; conv => whnf
      refine CallG.go (c31 rfl) ?_; conv => whnf
      refine FnG.go rfl ?_; conv => whnf
      refine CallG.go (c30b rfl g2) ?_; conv => whnf
      refine Br.mk (fun g4 => ?_) (fun g4 => ?_) <;> conv => whnf
      · repeat' first | (refine Br.T ?_; conv => whnf) | (refine Br.F ?_; conv => whnf)
        exact RetG.one rfl
      refine FnG.go rfl ?_; conv => whnf
      refine CallG.go c44 ?_; conv => whnf
      refine Br.mk (fun g5 => ?_) (fun g5 => ?_) <;> conv => whnf
      · repeat' first | (refine Br.T ?_; conv => whnf) | (refine Br.F ?_; conv => whnf)
        exact RetG.one rfl
      repeat' first | (refine Br.T ?_; conv => whnf) | (refine Br.F ?_; conv => whnf)
      refine FnG.go rfl ?_; conv => whnf
      refine CallG.go (c45 rfl) ?_; conv => whnf
      cases b with
      | true =>
        refine Br.tt rfl ?_; conv => whnf
        exact RetG.one rfl
      | false =>
        refine Br.ff rfl ?_; conv => whnf
        have L := law g1 (by simpa using g3) (by simpa using g4) rfl
        refine FnG.go rfl ?_; conv => whnf
        refine CallG.go (c27 rfl) ?_; conv => whnf
        refine Br.ff (by rw [L.1]; rfl) ?_; conv => whnf
        refine Ix.at (l := x.routes) (i := 0) (by omega) rfl ?_; conv => whnf
        refine FnG.go rfl ?_; conv => whnf
        refine CallG.go (c47 L.2.2.2.2 g1) ?_; conv => whnf
        refine Ix.at (l := x.routes) (i := 0) (by omega) rfl ?_; conv => whnf
        refine FnG.go rfl ?_; conv => whnf
        refine CallG.go (c47b g1) ?_; conv => whnf
        refine Br.tt (by rw [L.2.1]; rfl) ?_; conv => whnf
        refine Br.tt (by rw [L.2.2.1]; rfl) ?_; conv => whnf
        exact RetG.one (by simp [ret1, L.2.2.2.1])
end Go.Proofs.YtbaajjihhdmdpaaGreatDoor

namespace Go.Proofs.YtbaajjihhdmdpaaGreatDoor.admitExact
open Go.RowKit Go.ChangeShapes Go.WideShapes Go.Deep
set_option linter.unusedVariables false
set_option linter.unusedSimpArgs false
set_option linter.unnecessarySimpa false
set_option maxRecDepth 100000
set_option maxHeartbeats 4000000
abbrev lay : List (String × DataW Unit) := [("math/bits.deBruijn32tab", Rows.laid_math_bits_deBruijn32tab), ("math/bits.deBruijn64tab", Rows.laid_math_bits_deBruijn64tab), ("internal/strconv.uint64pow10", Rows.laid_internal_strconv_uint64pow10)]
abbrev wit : Array Value := #[.agg #[.int .i64 0, .slice none 0 0, .int .i64 0, .int .i64 0, .slice none 0 0, .slice none 0 0], .slice none 0 0, .agg #[.int .i64 0, .int .i64 0, .slice none 0 0], .agg #[.int .i64 0, .int .i64 0, .int .i64 0, .int .i64 0, .int .i64 0, .int .i64 0, .slice none 0 0], .slice none 0 0]
theorem laid_met (os : Os) : laidMetH Tryz.prog lay ((World.doorLaid Tryz.prog 24 os).forCall (fun _ _ => 0) ⟨#[], wit, []⟩).memory := by
  rw [MakeChecks.laidMetH_plain _ _ _ (by kernel_rfl)]
  exact laidMet_of_run' 8 (by kernel_rfl) (by kernel_rfl)
def readings {H : Type} : List (DataW H) := [.agg [.lit (.int .i64 0), .nil, .lit (.int .i64 0), .lit (.int .i64 0), .nil, .nil], .nil, .agg [.lit (.int .i64 0), .lit (.int .i64 0), .nil], .agg [.agg [.lit (.int .i64 0), .lit (.int .i64 0), .lit (.int .i64 0), .lit (.int .i64 0), .lit (.int .i64 0), .lit (.int .i64 0)], .nil], .nil]
theorem reads (os : Os) {H : Type} (enc : TypeId × Value → H) : DataW.whole enc Tryz.prog ((World.doorLaid Tryz.prog 24 os).forCall (fun _ _ => 0) ⟨#[], wit, []⟩).memory Tryz.f8.params.toList Rows.admitExactSpec.vars false wit.toList 8 = some (readings, [], []) := by kernel_rfl
theorem contract (H : Type) (enc : TypeId × Value → H) (W : World) (base : Nat) (args : Array Value) (ds gs : List (DataW H)) (before : List MemPlace)
    (hval : ∀ (j : Nat) t v, Tryz.f8.params[j]? = some t → args[j]? = some v → Value.okWide Tryz.prog W .any base t v)
    (hW : DataW.Whole enc Tryz.prog Tryz.f8.params.toList Rows.admitExactSpec.vars false W args.toList ds gs before) (hL : laidMetH Tryz.prog lay W) (hk : Rows.uptoSmall H (ds ++ gs) = true) :
    Calls Tryz.prog 8 args W fun e W' => ∃ v, e = .returned v ∧ Rows.admitExactSpec.post enc Tryz.prog Tryz.f8 false true false false W args v W' := by
  have hW' := hW
  obtain ⟨p, q, hA0, hV, rfl, hfz, hnd⟩ := hW
  have hA : DataW.TrodAll enc Tryz.prog W 0 (fun _ => true) true Tryz.f8.params.toList args.toList ds p := hA0
  rw [Tryz.params8] at hA hval
  obtain ⟨v0, vs0, d0, ds0, p0, q0, hargs, rfl, rfl, h0, r0⟩ := trodAll_cons hA
  obtain ⟨v1, vs1, d1, ds1, p1, q1, rfl, rfl, rfl, h1, r1⟩ := trodAll_cons r0
  obtain ⟨v2, vs2, d2, ds2, p2, q2, rfl, rfl, rfl, h2, r2⟩ := trodAll_cons r1
  obtain ⟨v3, vs3, d3, ds3, p3, q3, rfl, rfl, rfl, h3, r3⟩ := trodAll_cons r2
  obtain ⟨v4, vs4, d4, ds4, p4, q4, rfl, rfl, rfl, h4, r4⟩ := trodAll_cons r3
  obtain ⟨rfl, rfl, rfl⟩ := trodAll_nil r4
  obtain rfl : args = #[v0, v1, v2, v3, v4] := by cases args; simp_all
  obtain ⟨rfl, rfl⟩ := trodVars_none hV
  rw [List.append_nil] at hk
  obtain ⟨n0, k0, b0⟩ := argS Tryz.underlying26 rdNet (hval 0 26 v0 rfl rfl) h0 1048576 (bulk_part hk (by simp))
  obtain ⟨q1, k1, b1, c1⟩ := argL Tryz.underlying42 rdReqs (hval 1 42 v1 rfl rfl) h1 1048576 (bulk_part hk (by simp))
  have o1 : ∀ x ∈ q1, x.ok := fun x hx => req_ok (c1 x hx)
  obtain ⟨s2, k2, b2⟩ := argS Tryz.underlying29 rdSched (hval 2 29 v2 rfl rfl) h2 1048576 (bulk_part hk (by simp))
  obtain ⟨y3, k3, b3⟩ := argS Tryz.underlying47 rdReq (hval 3 47 v3 rfl rfl) h3 1048576 (bulk_part hk (by simp))
  obtain ⟨cs4, k4, b4, c4⟩ := argL Tryz.underlying27 rdCells (hval 4 27 v4 rfl rfl) h4 1048576 (bulk_part hk (by simp))
  have hc := S8 n0 (net_ok b0) q1 (Nat.le_trans b1 (by decide)) o1 s2 (Nat.le_trans b2 (by decide)) y3 (req_ok b3) cs4 (Nat.le_trans b4 (by decide))
  refine law_calls (vs := [v0, v1, v2, v3, v4]) hc (tab_of hL) rfl (rep_cons k0 (rep_cons k1 (rep_cons k2 (rep_cons k3 (rep_cons k4 rep_nil))))) fun W' hb => ?_
  refine post_law hW' rfl (by kernel_rfl) rfl (fun t ht => ?_) hb
  rw [Tryz.params8] at ht
  have hall : ([26, 42, 29, 47, 27].all fun t => Tryz.prog.readableRec t && decide (t < Tryz.prog.types.size)) = true := by kernel_rfl
  simpa using List.all_eq_true.1 hall t ht
theorem lifted (os : Os) (started : os.Started) (H : Type) (enc : TypeId × Value → H) (F : Stop.Interp) :
    ReturnsInHanded {} Tryz.checked os 8 .any ((Rows.OpenSpec.upto Rows.admitExactSpec).preRow enc Tryz.prog Tryz.f8 Rows.admitExactUptoRow.domain false Rows.admitExactUptoRow.laid) (((Rows.OpenSpec.upto Rows.admitExactSpec).at F).post enc Tryz.prog Tryz.f8 false true false false) := by
  refine returnsInHanded_of_row (C := Tryz.checked) (s := (Rows.OpenSpec.upto Rows.admitExactSpec)) ownKnob0 started (by kernel_rfl) Tryz.func8
    (witness_row_at (enc := enc) (C := Tryz.checked) false (World.doorLaid Tryz.prog 24 os) wit rfl (by kernel_rfl) (by kernel_rfl) (by kernel_rfl)
      (OpenSpec.preRow_of_cond 8 (reads os enc) (by kernel_rfl) (fun k hk => by cases hk; kernel_rfl) (by kernel_rfl) (laid_met os))) ?_
  intro W base args ds gs before hval hW _ hcond _ hL _ _
  exact contract H enc W base args ds gs before hval hW hL (hcond _ rfl)
theorem joined : joinedFacts Tryz.prog 8 Tryz.f8 (Rows.OpenSpec.upto Rows.admitExactSpec).bare Rows.admitExactUptoRow = true := by
  unfold joinedFacts
  simp only [Bool.and_eq_true]
  repeat' apply And.intro
  all_goals as_aux_lemma => kernel_rfl
theorem named : Tryz.prog.funcNamed "hopmesh/hopmeshlaw41.AdmitExact" = some 8 := by kernel_rfl
theorem inst : Func.isInstance Tryz.prog Tryz.f8 Rows.admitExactUptoRow.origin Rows.admitExactUptoRow.targs := of_decide_eq_true (by kernel_rfl)
theorem wrap : Func.isWrapper Tryz.prog Tryz.f8 Rows.admitExactUptoRow.wrapper Rows.admitExactUptoRow.mainSum := by unfold Func.isWrapper; first | (rw [if_pos (by decide +kernel)]; kernel_rfl) | (rw [if_neg (by decide +kernel)]; exact ⟨rfl, rfl⟩)
theorem saidUpto : Rows.AdmitExactUptoSaid :=
  OpenClaim.holds_of_cond 8 Tryz.f8 rfl rfl rfl rfl rfl rfl rfl ⟨rfl, rfl, rfl, rfl, rfl⟩ rfl rfl rfl rfl rfl named Tryz.func8 joined inst wrap
    (fun os started H enc _ F => by rw [OpenClaim.pre_eq_preRow]; exact lifted os started H enc F)
theorem looks0 : false = Tryz.pinned.checked.prog.looks [] := by kernel_rfl
theorem plain (f : FuncId) (fn : Func) (hf : Tryz.pinned.checked.prog.funcNamed "hopmesh/hopmeshlaw41.AdmitExact" = some f) (hfn : Tryz.pinned.checked.prog.funcs[f]? = some fn) :
    false = Tryz.pinned.checked.prog.looks [] ∧ ∀ (j : Nat) t, fn.params[j]? = some t → Tryz.pinned.checked.prog.wantsStandIn t = false := by
  obtain rfl : f = 8 := Option.some.inj (named.symm.trans hf) |>.symm
  obtain rfl : fn = Tryz.f8 := (Option.some.inj (Tryz.func8.symm.trans hfn)).symm
  refine ⟨looks0, fun j t ht => ?_⟩
  rw [Tryz.params8] at ht
  have hm : t ∈ [26, 42, 29, 47, 27] := by simpa using Array.mem_of_getElem? ht
  have hall : ([26, 42, 29, 47, 27].all fun u => !Tryz.prog.wantsStandIn u) = true := by kernel_rfl
  exact (show Tryz.prog.wantsStandIn t = false by simpa using List.all_eq_true.1 hall t hm)
theorem wf : OpenClaim.wfByText (Rows.OpenSpec.upto Rows.admitExactSpec) Rows.admitExactUptoRow = true := by kernel_rfl
theorem goes : false = Rows.admitExactUptoRow.goesBy Tryz.pinned.checked.prog := by kernel_rfl
theorem main0 : Tryz.pinned.checked.prog.mainIs = some (Rows.admitExactUptoCard.stood.harness.1, Rows.admitExactUptoCard.stood.harness.2.toList) := by kernel_rfl
theorem cardUpto : Rows.AdmitExactUptoCardSaid :=
  Claim7.holds_tied_plain_at .later [] _ _ _ _ saidUpto (fun _ h => by cases h) wf (fun _ h => by cases h) admitExactUpto_row_tie rfl ⟨rfl, rfl⟩ main0 rfl plain goes
end Go.Proofs.YtbaajjihhdmdpaaGreatDoor.admitExact
namespace Go.Proofs.YtbaajjihhdmdpaaGreatDoor
theorem admitExact_holds : Rows.AdmitExactUptoCardSaid := admitExact.cardUpto
#print axioms admitExact_holds
end Go.Proofs.YtbaajjihhdmdpaaGreatDoor
