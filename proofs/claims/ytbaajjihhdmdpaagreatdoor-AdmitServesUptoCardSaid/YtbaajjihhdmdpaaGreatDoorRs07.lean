/- AdmitServes: for every input of bulk at most 1048576 (the row's own condition) the law returns true and its arguments read as they did. -/
import Derived.Test.YtbaajjihhdmdpaaGreatDoorRs06

namespace Go.Proofs.YtbaajjihhdmdpaaGreatDoor
open Go.RowKit
set_option linter.unusedSectionVars false
set_option linter.unusedVariables false
set_option linter.unusedSimpArgs false
set_option linter.unnecessarySimpa false
set_option maxRecDepth 100000
set_option maxHeartbeats 4000000
def cmpReq (a b : GReq) : Int := cmpI a.flow.id b.flow.id
theorem S173 (a b : GReq) : Sound Tryz.prog 173 [a.v, b.v] (i64 (cmpReq a b)) := by
  refine ex_intro mixedT T [] Tryz.func173 rfl (by rw [Tryz.ntmps173]; simp) (by kernel_rfl) ?_
  conv => whnf
  repeat' first | (refine LenG.map ?_; conv => whnf) | (refine LenG.go ?_; conv => whnf)
  repeat' first
    | (refine Br.T ?_; conv => whnf)
    | (refine Br.F ?_; conv => whnf)
    | (refine Br.mk (fun hq => ?_) (fun hq => ?_) <;> conv => whnf)
    | (refine FnG.go rfl ?_; conv => whnf)
    | (refine LenG.map ?_; conv => whnf)
    | (refine LenG.go ?_; conv => whnf)
    | (refine CallG.go (S174 _ _) ?_; conv => whnf)
  exact RetG.one rfl
def insR (q : List GReq) (x : GReq) : List GReq := q.take (bsI (fun y => cmpReq y x) q) ++ x :: q.drop (bsI (fun y => cmpReq y x) q)
theorem S86 (q : List GReq) (hq : q.length ≤ 1000000) (x : GReq) : Sound Tryz.prog 86 [reqsV q, x.v] (reqsV (insR q x)) := by
  refine ex_intro mixedT T [cutX 2 5] Tryz.func86 rfl (by rw [Tryz.ntmps86]; simp) (by kernel_rfl) ?_
  conv => whnf
  repeat' first | (refine LenG.map ?_; conv => whnf) | (refine LenG.go ?_; conv => whnf)
  refine FnG.go rfl ?_; conv => whnf
  refine CallG.go (S172 (g := 173) rfl q x (fun y => cmpReq y x) (fun y _ => S173 y _) (by show q.length < _; omega)) ?_; conv => whnf
  refine Nd.go (by kernel_rfl) ?_; conv => whnf
  refine FnG.go rfl ?_; conv => whnf
  refine CallG.go (S26f q (by omega)) ?_; conv => whnf
  have hb := bsI_le (fun y => cmpReq y x) q
  have hins : insR q x = q.take (bsI (fun y => cmpReq y x) q) ++ x :: q.drop (bsI (fun y => cmpReq y x) q) := rfl
  rw [hins]
  generalize bsI (fun y => cmpReq y x) q = p at *
  refine SemG.go (Sem.cons (kill := some _) (e := 47) (sz := 7) (xs := q.map GReq.c) (rest := [.tmp 15, .tmp 17]) rfl rfl ⟨rfl, rfl⟩ (by kernel_rfl) (by decide) rfl (fnOk rfl) (D175 q p x hb (by omega)) ?_)
  conv => whnf
  exact RetG.one rfl
def servesP (n : GNet) (q : List GReq) (s : GSched) : Bool := (makeP n q s).2.2 == 0
theorem S83 (n : GNet) (hn : n.ok) (q : List GReq) (hql : q.length ≤ 1000000) (hx : ∀ x ∈ q, x.ok) (s : GSched) (hs : s.cells.length ≤ 1000000) : Sound Tryz.prog 83 [n.v, reqsV q, s.v] (.bool (servesP n q s)) := by
  refine ex_intro mixedT T [] Tryz.func83 rfl (by rw [Tryz.ntmps83]; simp) (by kernel_rfl) ?_
  conv => whnf
  repeat' first | (refine LenG.map ?_; conv => whnf) | (refine LenG.go ?_; conv => whnf)
  repeat' first
    | (refine Br.T ?_; conv => whnf)
    | (refine Br.F ?_; conv => whnf)
    | (refine Br.mk (fun hq => ?_) (fun hq => ?_) <;> conv => whnf)
    | (refine FnG.go rfl ?_; conv => whnf)
    | (refine LenG.map ?_; conv => whnf)
    | (refine LenG.go ?_; conv => whnf)
    | (refine CallG.go (S30 n hn q hql hx s hs) ?_; conv => whnf)
  exact RetG.one rfl
def faultyQ (n : GNet) (q : List GReq) : Bool := (makeP n q zeroS).2.2 != 1 || decide ((makeP n q zeroS).2.1 ≥ 0)
theorem S85 (n : GNet) (hn : n.ok) (q : List GReq) (hql : q.length ≤ 1000000) (hx : ∀ x ∈ q, x.ok) : Sound Tryz.prog 85 [n.v, reqsV q] (.bool (faultyQ n q)) := by
  refine ex_intro mixedT T [] Tryz.func85 rfl (by rw [Tryz.ntmps85]; simp) (by kernel_rfl) ?_
  conv => whnf
  repeat' first | (refine LenG.map ?_; conv => whnf) | (refine LenG.go ?_; conv => whnf)
  repeat' first
    | (refine Br.T ?_; conv => whnf)
    | (refine Br.F ?_; conv => whnf)
    | (refine Br.mk (fun hq => ?_) (fun hq => ?_) <;> conv => whnf)
    | (refine FnG.go rfl ?_; conv => whnf)
    | (refine LenG.map ?_; conv => whnf)
    | (refine LenG.go ?_; conv => whnf)
    | (refine CallG.go (S30 n hn q hql hx zeroS (by decide)) ?_; conv => whnf)
  all_goals (refine RetG.one ?_; delta faultyQ; simp only [ret1, *, Bool.true_or, Bool.false_or, Bool.or_true, Bool.or_false, Bool.true_and, Bool.false_and, Bool.and_true, Bool.and_false, Bool.not_true, Bool.not_false, if_true, if_false, Bool.false_eq_true, reduceIte])
theorem S84 (x y : GReq) : Sound Tryz.prog 84 [y.v, .rp x.c] (.bool (y.flow.id == x.flow.id)) := by
  refine ex_intro mixedT T [] Tryz.func84 rfl (by rw [Tryz.ntmps84]; simp) (by kernel_rfl) ?_
  conv => whnf
  repeat' first | (refine LenG.map ?_; conv => whnf) | (refine LenG.go ?_; conv => whnf)
  repeat' first
    | (refine Br.T ?_; conv => whnf)
    | (refine Br.F ?_; conv => whnf)
    | (refine Br.mk (fun hq => ?_) (fun hq => ?_) <;> conv => whnf)
    | (refine FnG.go rfl ?_; conv => whnf)
    | (refine LenG.map ?_; conv => whnf)
    | (refine LenG.go ?_; conv => whnf)
  exact RetG.one rfl
theorem firstE_ge {f : Nat → Int} : ∀ (m i : Nat), (firstE f m i).2 ≠ 0 → 0 ≤ (firstE f m i).1
  | 0, i, h => absurd rfl h
  | m + 1, i, h => by
    rw [firstE] at h ⊢
    split
    · simp
    · rename_i h1; rw [if_neg h1] at h; exact firstE_ge m (i + 1) h
theorem flows_all {nodes : Int} {l : List GFlow} (h : ((flowsP nodes l).2 != 0) = false) : ∀ f ∈ l, flowErr nodes f = 0 := by
  unfold flowsP at h
  split at h
  · simp at h
  split at h
  · simp at h
  intro f hf
  obtain ⟨i, hi, rfl⟩ := List.getElem_of_mem hf
  have hz := firstE_ok _ _ (by simpa using h) i (by omega) (by omega)
  have e : gd l i = l[i] := by simp [gd, List.getD, hi]
  unfold flowAt at hz
  rw [e] at hz
  split at hz
  · exact hz
  · rename_i h1; simpa using h1
theorem flowErr_ok {nodes : Int} {f : GFlow} (h : flowErr nodes f = 0) : (1 ≤ f.period ∧ f.period ≤ 512) ∧ (0 ≤ f.phase ∧ f.phase < f.period) ∧ (1 ≤ f.deadline ∧ f.deadline ≤ f.period) ∧ 0 ≤ f.id ∧ f.id ≤ 255 := by
  unfold flowErr at h
  split at h
  · cases h
  split at h
  · cases h
  rename_i h2 h3
  simp only [Bool.or_eq_true, decide_eq_true_eq, not_or] at h2 h3
  omega
theorem faulty_ok {n : GNet} {q : List GReq} (hv : netErr n = 0) (h : faultyQ n q = false) : ((reqsP n q).2 != 0) = false := by
  cases hr : ((reqsP n q).2 != 0) with
  | false => rfl
  | true =>
    exfalso
    unfold faultyQ makeP at h
    rw [if_pos hr] at h
    simp only [Bool.or_eq_false_iff, decide_eq_false_iff_not] at h
    obtain ⟨h1, h2⟩ := h
    have h1 : (reqsP n q).2 = 1 := by simpa using h1
    unfold reqsP at h1 h2 hr
    rw [if_neg (by simp [hv])] at h1 h2 hr
    split at h1
    · rename_i h3
      rw [if_pos h3] at h2
      unfold flowsP at h1 h2
      split at h1
      · cases h1
      split at h1
      · cases h1
      rename_i h4 h5
      rw [if_neg h4, if_neg h5] at h2
      have := firstE_ge _ _ (by rw [h1]; decide : (firstE (flowAt n.nodes (flowsOf q)) (flowsOf q).length 0).2 ≠ 0)
      omega
    · rename_i h3
      rw [if_neg h3] at h2
      have := firstE_ge _ _ (by rw [h1]; decide : (firstE (reqAt n q) q.length 0).2 ≠ 0)
      omega
theorem sched_ok {n : GNet} {l : List GFlow} {s : GSched} (h : ((schedP n l s).2 != 0) = false) : sized s = true ∧ s.cells.length ≤ 512 := by
  unfold schedP at h
  split at h
  · simp at h
  split at h
  · simp at h
  split at h
  · simp at h
  split at h
  · simp at h
  split at h
  · simp at h
  rename_i h1 h2 h3 h4 h5
  refine ⟨by simpa using h3, by simp at h5; omega⟩
theorem serves_ok {n : GNet} {q : List GReq} {s : GSched} (h : servesP n q s = true) : ((reqsP n q).2 != 0) = false ∧ ((schedP n (flowsOf q) s).2 != 0) = false := by
  unfold servesP makeP at h
  split at h
  · rename_i h1
    simp only [beq_iff_eq] at h; rw [h] at h1; simp at h1
  rename_i h1
  split at h
  · simp at h
  rename_i h2
  exact ⟨Bool.eq_false_iff.2 h1, Bool.eq_false_iff.2 h2⟩
theorem mem_insR {q : List GReq} {x : GReq} : x ∈ insR q x := by simp [insR]
theorem insR_mem {q : List GReq} {x y : GReq} (h : y ∈ insR q x) : y = x ∨ y ∈ q := by
  rcases List.mem_append.1 h with h | h
  · exact .inr (List.mem_of_mem_take h)
  · rcases List.mem_cons.1 h with h | h
    · exact .inl h
    · exact .inr (List.mem_of_mem_drop h)
theorem place_ok {n : GNet} (hn : n.ok) {q : List GReq} {s : GSched} {x : GReq} (h1 : servesP n q s = true) (h2 : faultyQ n (insR q x) = false) : PlaceOk n s x := by
  obtain ⟨hr, hs⟩ := serves_ok h1
  obtain ⟨hv, _, _⟩ := reqsP_ok hr
  obtain ⟨_, hf, ho⟩ := reqsP_ok (faulty_ok hv h2)
  obtain ⟨hz, hc⟩ := sched_ok hs
  have hfx := flowErr_ok (flows_all hf x.flow (List.mem_map.2 ⟨x, mem_insR, rfl⟩))
  obtain ⟨r1, r2, r3⟩ := routesP_ok (ho x mem_insR)
  unfold sized at hz
  simp only [Bool.and_eq_true, decide_eq_true_eq] at hz
  refine ⟨hn, hv, by omega, by omega, by omega, hfx.1, by omega, by omega, r2, fun r hrr => ?_, fun r hrr i hi => ?_⟩
  · exact (faultP_ok (endsP_zero (r3 r hrr)).2).2.1
  · exact (goodLk_find (by rw [(faultP_ok (endsP_zero (r3 r hrr)).2).2.2 i hi]; rfl)).1
def admitP (n : GNet) (q : List GReq) (s : GSched) (x : GReq) : GSched × Int :=
  if !servesP n q s then (zeroS, 1) else if q.any (fun y => y.flow.id == x.flow.id) then (zeroS, 6) else if faultyQ n (insR q x) then (zeroS, 1)
  else if Int.tmod s.length x.flow.period != 0 then (zeroS, 11) else if !(placeP n s x).2 then (zeroS, 18) else if decide (((placeP n s x).1.cells.length : Int) > 512) then (zeroS, 8) else ((placeP n s x).1, 0)
theorem S27 (n : GNet) (hn : n.ok) (q : List GReq) (hql : q.length ≤ 900000) (hx : ∀ y ∈ q, y.ok) (s : GSched) (hs : s.cells.length ≤ 1000000) (x : GReq) (hxo : x.ok) :
    Sound Tryz.prog 27 [n.v, reqsV q, s.v, x.v] (.tup [(admitP n q s x).1.v, i64 (admitP n q s x).2]) := by
  have hil : (insR q x).length ≤ 1000000 := by
    have := bsI_le (fun y => cmpReq y x) q
    simp only [insR, List.length_append, List.length_take, List.length_cons, List.length_drop]; omega
  have hio : ∀ y ∈ insR q x, y.ok := fun y hy => (insR_mem hy).elim (fun e => e ▸ hxo) (hx y)
  refine ex_intro mixedT T [] Tryz.func27 rfl (by rw [Tryz.ntmps27]; simp) (by kernel_rfl) ?_
  conv => whnf
  repeat' first | (refine LenG.map ?_; conv => whnf) | (refine LenG.go ?_; conv => whnf)
  refine FnG.go rfl ?_; conv => whnf
  refine CallG.go (S83 n hn q (by omega) hx s hs) ?_; conv => whnf
  refine Br.mk (fun hq1 => ?_) (fun hq1 => ?_) <;> conv => whnf
  · rw [show admitP n q s x = (zeroS, 1) by unfold admitP; rw [if_pos hq1]]; exact RetG.two rfl rfl
  refine FnG.go rfl ?_; conv => whnf
  refine CallG.go (S45_1 rfl x.c q (fun y => y.flow.id == x.flow.id) (fun y _ => S84 x y) (by omega)) ?_; conv => whnf
  refine Br.mk (fun hq2 => ?_) (fun hq2 => ?_) <;> conv => whnf
  · rw [show admitP n q s x = (zeroS, 6) by unfold admitP; rw [hq1, hq2]; rfl]; exact RetG.two rfl rfl
  refine FnG.go rfl ?_; conv => whnf
  refine CallG.go (S86 q (by omega) x) ?_; conv => whnf
  refine FnG.go rfl ?_; conv => whnf
  refine CallG.go (S85 n hn (insR q x) hil hio) ?_; conv => whnf
  refine Br.mk (fun hq3 => ?_) (fun hq3 => ?_) <;> conv => whnf
  · rw [show admitP n q s x = (zeroS, 1) by unfold admitP; rw [hq1, hq2, hq3]; rfl]; exact RetG.two rfl rfl
  have hp := place_ok hn (by simpa using hq1) hq3
  have hper := hp.per
  refine Nd.go (by omega) ?_; conv => whnf
  refine Br.mk (fun hq4 => ?_) (fun hq4 => ?_) <;> conv => whnf
  · rw [show admitP n q s x = (zeroS, 11) by unfold admitP; rw [hq1, hq2, hq3, hq4]; rfl]; exact RetG.two rfl rfl
  refine FnG.go rfl ?_; conv => whnf
  refine CallG.go (S87 n s x hp) ?_; conv => whnf
  refine Br.mk (fun hq5 => ?_) (fun hq5 => ?_) <;> conv => whnf
  · rw [show admitP n q s x = (zeroS, 18) by unfold admitP; rw [hq1, hq2, hq3, hq4, hq5]; rfl]; exact RetG.two rfl rfl
  repeat' first | (refine LenG.map ?_; conv => whnf) | (refine LenG.go ?_; conv => whnf)
  refine Br.mk (fun hq6 => ?_) (fun hq6 => ?_) <;> conv => whnf
  · rw [show admitP n q s x = (zeroS, 8) by unfold admitP; rw [hq1, hq2, hq3, hq4, hq5, hq6]; rfl]; exact RetG.two rfl rfl
  rw [show admitP n q s x = ((placeP n s x).1, 0) by unfold admitP; rw [hq1, hq2, hq3, hq4, hq5, hq6]; rfl]
  refine FnG.go rfl ?_; conv => whnf
  refine CallG.go (S80o (placeP n s x).1.cells (by simp at hq6; omega)) ?_; conv => whnf
  exact RetG.two rfl rfl
def inC (l : List GCell) (x : GCell) : Bool := l.any fun y => decide (x = y)
theorem S179 (t : GSched) (ht : Cn t.cells) (c : GCell) : Sound Tryz.prog 179 [c.v, .rp t.c] (.bool (inC t.cells c)) := by
  refine ex_intro mixedT T [] Tryz.func179 rfl (by rw [Tryz.ntmps179]; simp) (by kernel_rfl) ?_
  conv => whnf
  repeat' first | (refine LenG.map ?_; conv => whnf) | (refine LenG.go ?_; conv => whnf)
  repeat' first
    | (refine Br.T ?_; conv => whnf)
    | (refine Br.F ?_; conv => whnf)
    | (refine Br.mk (fun hq => ?_) (fun hq => ?_) <;> conv => whnf)
    | (refine FnG.go rfl ?_; conv => whnf)
    | (refine LenG.map ?_; conv => whnf)
    | (refine LenG.go ?_; conv => whnf)
    | (refine CallG.go (S50 t.cells ht c) ?_; conv => whnf)
  exact RetG.one rfl
def onlyC (s t : GSched) : List GCell := s.cells.filter fun c => !inC t.cells c
theorem S92 (s t : GSched) (hs : s.cells.length ≤ 1000000) (ht : Cn t.cells) : Sound Tryz.prog 92 [s.v, t.v] (cellsV (onlyC s t)) := by
  refine ex_intro mixedT T [] Tryz.func92 rfl (by rw [Tryz.ntmps92]; simp) (by kernel_rfl) ?_
  conv => whnf
  repeat' first | (refine LenG.map ?_; conv => whnf) | (refine LenG.go ?_; conv => whnf)
  repeat' first
    | (refine Br.T ?_; conv => whnf)
    | (refine Br.F ?_; conv => whnf)
    | (refine Br.mk (fun hq => ?_) (fun hq => ?_) <;> conv => whnf)
    | (refine FnG.go rfl ?_; conv => whnf)
    | (refine LenG.map ?_; conv => whnf)
    | (refine LenG.go ?_; conv => whnf)
    | (refine CallG.go (S80f s.cells (by omega)) ?_; conv => whnf)
  refine SemG.go (Sem.cons (kill := some _) (e := 61) (sz := 5) (xs := s.cells.map GCell.c) (rest := [.tmp 8]) rfl rfl ⟨rfl, rfl⟩ (by kernel_rfl) (by decide) rfl (fnOk rfl) (D79_1 rfl t.c s.cells (inC t.cells) (fun c _ => S179 t ht c) (by omega)) ?_)
  conv => whnf
  exact RetG.one rfl
def differP (s t : GSched) : List GCell × List GCell × Int :=
  if !form s || !form t then ([], [], 1) else if s.length != t.length || s.offsets != t.offsets then ([], [], 11) else (onlyC s t, onlyC t s, 0)
theorem S29 (s t : GSched) (hs : s.cells.length ≤ 1000000) (ht : t.cells.length ≤ 1000000) : Sound Tryz.prog 29 [s.v, t.v] (.tup [cellsV (differP s t).1, cellsV (differP s t).2.1, i64 (differP s t).2.2]) := by
  have h1 : Cn s.cells := by show s.cells.length < _; omega
  have h2 : Cn t.cells := by show t.cells.length < _; omega
  refine ex_intro mixedT T [] Tryz.func29 rfl (by rw [Tryz.ntmps29]; simp) (by kernel_rfl) ?_
  conv => whnf
  repeat' first | (refine LenG.map ?_; conv => whnf) | (refine LenG.go ?_; conv => whnf)
  repeat' first
    | (refine Br.T ?_; conv => whnf)
    | (refine Br.F ?_; conv => whnf)
    | (refine Br.mk (fun hq => ?_) (fun hq => ?_) <;> conv => whnf)
    | (refine FnG.go rfl ?_; conv => whnf)
    | (refine LenG.map ?_; conv => whnf)
    | (refine LenG.go ?_; conv => whnf)
    | (refine CallG.go (S91 s h1) ?_; conv => whnf)
    | (refine CallG.go (S91 t h2) ?_; conv => whnf)
    | (refine CallG.go (S92 s t hs h2) ?_; conv => whnf)
    | (refine CallG.go (S92 t s ht h1) ?_; conv => whnf)
  all_goals (refine RetG.three ?_ ?_ ?_ <;> (delta differP; simp only [*, Bool.true_or, Bool.false_or, Bool.or_true, Bool.or_false, Bool.true_and, Bool.false_and, Bool.and_true, Bool.and_false, Bool.not_true, Bool.not_false, if_true, if_false, Bool.false_eq_true, reduceIte]; try rfl))
end Go.Proofs.YtbaajjihhdmdpaaGreatDoor

namespace Go.Proofs.YtbaajjihhdmdpaaGreatDoor
open Go.RowKit
set_option linter.unusedSectionVars false
set_option linter.unusedVariables false
set_option linter.unusedSimpArgs false
set_option linter.unnecessarySimpa false
set_option maxRecDepth 100000
/-- There is room for a cell among cells. -/
structure RoomC (n : GNet) (l : List GCell) (c : GCell) : Prop where
  link : goodLk n c.from_ c.to_ = true
  free : ∀ d ∈ l, d.slot = c.slot → touches c d = false
  good : goodCells n (c :: l.filter (atSame c)) = true
theorem good_same {n : GNet} {a b : List GCell} (h : a.Perm b) : goodCells n a = goodCells n b := good_perm n (h.map _)
theorem apart_perm {a b : List GCell} (h : a.Perm b) : (a.Pairwise fun c d => c.slot = d.slot → touches c d = false) ↔ b.Pairwise fun c d => c.slot = d.slot → touches c d = false :=
  h.pairwise_iff (R := fun c d => c.slot = d.slot → touches c d = false) fun {x y} k e => by rw [touches_comm]; exact k e.symm
theorem Calm.perm {n : GNet} {a b : List GCell} (h : a.Perm b) (k : Calm n a) : Calm n b :=
  ⟨fun c hc => k.link c (h.mem_iff.2 hc), (apart_perm h).1 k.apart, fun c hc => by
    rw [← good_same (h.filter (atSame c))]; exact k.calm c (h.mem_iff.2 hc)⟩
theorem calm_cons {n : GNet} {l : List GCell} {c : GCell} (h : Calm n l) : Calm n (c :: l) ↔ RoomC n l c := by
  constructor
  · intro k
    refine ⟨k.link c (by simp), fun d hd e => (List.pairwise_cons.1 k.apart).1 d hd e.symm, ?_⟩
    have := k.calm c (by simp)
    rwa [List.filter_cons, if_pos (atSame_refl c)] at this
  · intro k
    refine ⟨fun d hd => ?_, List.pairwise_cons.2 ⟨fun d hd e => k.free d hd e.symm, h.apart⟩, fun d hd => ?_⟩
    · rcases List.mem_cons.1 hd with rfl | hd
      · exact k.link
      · exact h.link d hd
    · by_cases hs : atSame d c = true
      · rw [atSame_eq hs, List.filter_cons, if_pos (atSame_refl c)]; exact k.good
      · rw [List.filter_cons, if_neg hs]
        rcases List.mem_cons.1 hd with rfl | hd
        · exact absurd (atSame_refl d) hs
        · exact h.calm d hd
/-! ### room and what Room finds -/
/-! ### a cell laid in its place -/
theorem bs_pos {α : Type} [Inhabited α] (c : α → Int) (l : List α) (hs : ∀ i j, i < j → j < l.length → c (gd l j) < 0 → c (gd l i) < 0) :
    bsI c l ≤ l.length ∧ (∀ j, j < bsI c l → c (gd l j) < 0) ∧ ∀ j, bsI c l ≤ j → j < l.length → 0 ≤ c (gd l j) := by
  obtain ⟨f, hf⟩ : ∃ f : Nat → Bool, f = fun k => decide (c (gd l k) < 0) && decide (k < l.length) := ⟨_, rfl⟩
  have hmono : ∀ i j, i ≤ j → f j = true → f i = true := by
    intro i j hij hj
    rw [hf] at hj ⊢
    simp only [Bool.and_eq_true, decide_eq_true_eq] at hj ⊢
    rcases Nat.lt_or_ge i j with h | h
    · exact ⟨hs i j h hj.2 hj.1, by omega⟩
    · obtain rfl : i = j := by omega
      exact hj
  have hcong : ∀ (q lo hi : Nat), hi - lo ≤ q → hi ≤ l.length → bsGo (fun k => decide (c (gd l k) < 0)) lo hi = bsGo f lo hi := by
    intro q
    induction q with
    | zero => intro lo hi h1 h2; rw [bsGo.eq_def (fun k => decide (c (gd l k) < 0)) lo hi, bsGo.eq_def f lo hi, dif_neg (by omega), dif_neg (by omega)]
    | succ q ih =>
      intro lo hi h1 h2
      rw [bsGo.eq_def (fun k => decide (c (gd l k) < 0)) lo hi, bsGo.eq_def f lo hi]
      split
      · rename_i hlt
        have e : f ((lo + hi) / 2) = decide (c (gd l ((lo + hi) / 2)) < 0) := by rw [hf]; simp; omega
        rw [e, ih _ _ (by omega) h2, ih _ _ (by omega) (by omega)]
      · rfl
  have hr : bsI c l = bsGo f 0 l.length := hcong _ 0 _ (Nat.le_refl _) (Nat.le_refl _)
  obtain ⟨_, h2, h3, h4⟩ := bsGo_spec f hmono _ 0 l.length (Nat.le_refl _) (by omega) (fun j hj => by omega) (.inr trivial)
  rw [← hr] at h2 h3 h4
  rw [hf] at h3 h4
  refine ⟨h2, fun j hj => ?_, fun j h5 h6 => ?_⟩
  · have := h3 j hj
    simp only [Bool.and_eq_true, decide_eq_true_eq] at this
    exact this.1
  · have := h4 j h5 h6
    simp only [Bool.and_eq_false_iff, decide_eq_false_iff_not] at this
    omega
theorem cell_nums {a b : GCell} (h : a.nums = b.nums) : a = b := by
  cases a; cases b
  simp only [GCell.nums, List.cons.injEq, and_true] at h
  obtain ⟨rfl, rfl, rfl, rfl, rfl⟩ := h
  rfl
theorem cmpCell_tot {a b : GCell} (h : ¬ cmpCell a b < 0) (k : ¬ cmpCell b a < 0) : a = b := cell_nums (cmpInts_tot _ _ rfl h k)
theorem cmpCell_gt {a b : GCell} (h : 0 ≤ cmpCell a b) (hne : a ≠ b) : cmpCell b a < 0 := by
  by_cases k : cmpCell b a < 0
  · exact k
  · exact absurd (cmpCell_tot (by omega) k) hne
theorem rising_mono {l : List GCell} (hr : Rising l) (c : GCell) : ∀ i j, i < j → j < l.length → cmpCell (gd l j) c < 0 → cmpCell (gd l i) c < 0 := fun i j hij hj h => by
  have := List.pairwise_iff_getElem.1 hr i j (by omega) hj hij
  rw [gd_at hj] at h
  rw [gd_at (by omega)]
  exact cmpCell_trans this h
theorem insC_perm (l : List GCell) (c : GCell) : (insC l c).Perm (c :: l) := by
  unfold insC
  have := List.perm_middle (a := c) (l₁ := l.take (bsI (fun y => cmpCell y c) l)) (l₂ := l.drop (bsI (fun y => cmpCell y c) l))
  rwa [List.take_append_drop] at this
theorem insC_mem {l : List GCell} {c x : GCell} : x ∈ insC l c ↔ x = c ∨ x ∈ l := by
  rw [(insC_perm l c).mem_iff, List.mem_cons]
theorem insC_rising {l : List GCell} (hr : Rising l) {c : GCell} (hc : c ∉ l) : Rising (insC l c) := by
  obtain ⟨h1, h2, h3⟩ := bs_pos (fun y => cmpCell y c) l (rising_mono hr c)
  unfold insC
  generalize bsI (fun y => cmpCell y c) l = p at *
  have hL : ∀ x ∈ l.take p, cmpCell x c < 0 := fun x hx => by
    obtain ⟨i, hi, rfl⟩ := List.getElem_of_mem hx
    rw [List.length_take] at hi
    have := h2 i (by omega)
    rw [gd_at (by omega)] at this
    rwa [List.getElem_take]
  have hR : ∀ x ∈ l.drop p, cmpCell c x < 0 := fun x hx => by
    have hm := List.mem_of_mem_drop hx
    obtain ⟨i, hi, rfl⟩ := List.getElem_of_mem hx
    rw [List.length_drop] at hi
    have := h3 (p + i) (by omega) (by omega)
    rw [gd_at (by omega)] at this
    rw [List.getElem_drop] at hm ⊢
    exact cmpCell_gt this (fun e => hc (e ▸ hm))
  refine List.pairwise_append.2 ⟨hr.sublist (List.take_sublist _ _), List.pairwise_cons.2 ⟨hR, hr.sublist (List.drop_sublist _ _)⟩, fun a ha b hb => ?_⟩
  rcases List.mem_cons.1 hb with rfl | hb
  · exact hL a ha
  · exact cmpCell_trans (hL a ha) (hR b hb)
theorem allFrom_iff (f : Nat → Bool) : ∀ (m i : Nat), allFrom f m i = true ↔ ∀ j, i ≤ j → j < i + m → f j = true
  | 0, i => by simp [allFrom]; intro j h1 h2; omega
  | m + 1, i => by
    rw [allFrom, Bool.and_eq_true, allFrom_iff f m (i + 1)]
    constructor
    · rintro ⟨h, k⟩ j h1 h2
      by_cases e : j = i
      · subst e; exact h
      · exact k j (by omega) (by omega)
    · intro k; exact ⟨k i (by omega) (by omega), fun j h1 h2 => k j (by omega) (by omega)⟩
theorem form_iff (s : GSched) : form s = true ↔ sized s = true ∧ s.cells.length ≤ 512 ∧ (∀ c ∈ s.cells, formedC s c = true) ∧ Rising s.cells := by
  unfold form
  rw [Bool.and_eq_true, Bool.and_eq_true, allFrom_iff, rising_iff, and_assoc]
  refine and_congr Iff.rfl (and_congr (by simp; omega) ?_)
  have at1 : ∀ i, formAt s i = true ↔ formedC s (gd s.cells i) = true ∧ (0 < i → cmpCell (gd s.cells (i - 1)) (gd s.cells i) < 0) := by
    intro i
    unfold formAt
    generalize gd s.cells i = c
    generalize gd s.cells (i - 1) = b
    generalize cmpCell b c = m
    cases formedC s c <;> by_cases h0 : 0 < i <;> by_cases hm : m < 0 <;> simp [h0, hm] <;> (try omega)
  constructor
  · intro h
    refine ⟨fun c hc => ?_, fun i h0 h1 => ((at1 i).1 (h i (by omega) (by omega))).2 h0⟩
    obtain ⟨i, hi, rfl⟩ := List.getElem_of_mem hc
    have := ((at1 i).1 (h i (by omega) (by omega))).1
    rwa [gd_at hi] at this
  · rintro ⟨h1, h2⟩ i _ hi
    exact (at1 i).2 ⟨h1 _ (gd_mem (by omega)), fun h0 => h2 i h0 (by omega)⟩
theorem findFl_iff (l : List GFlow) (id : Int) : 0 ≤ findFl l id ↔ ∃ f ∈ l, f.id = id := by
  unfold findFl
  rw [idxOf_ge, List.any_eq_true]
  simp
theorem flow_id {nodes : Int} {fl : List GFlow} (h : (flowsP nodes fl).2 = 0) {id : Int} (hf : 0 ≤ findFl fl id) : 0 ≤ id ∧ id ≤ 255 := by
  obtain ⟨f, hm, rfl⟩ := (findFl_iff _ _).1 hf
  exact (flowErr_ok (flows_all (by simpa using h) f hm)).2.2.2
theorem formed_of {n : GNet} (hv : netErr n = 0) {fl : List GFlow} (h : (flowsP n.nodes fl).2 = 0) {s : GSched} {c : GCell} (hp : placed s c = true) (hg : goodLk n c.from_ c.to_ = true) (hf : 0 ≤ findFl fl c.flow) : formedC s c = true := by
  have hn := (netOk_of hv).nodes
  have h1 := goodLk_node (netOk_of hv) hg
  have h2 := flow_id h hf
  unfold isNode at h1
  simp only [Bool.and_eq_true, decide_eq_true_eq] at h1
  unfold formedC
  simp only [Bool.and_eq_true, decide_eq_true_eq]
  exact ⟨⟨⟨hp, by omega⟩, by omega⟩, by omega⟩
theorem ValidS.form {n : GNet} {fl : List GFlow} {s : GSched} (h : ValidS n fl s) : form s = true :=
  (form_iff s).2 ⟨h.sized, h.many, fun c hc => formed_of h.net h.flows (h.at_ c hc).1 (h.calm.link c hc) (h.at_ c hc).2, h.rising⟩
/-- One list of cells holds another one, and more. -/
def Ext (a b : List GCell) : Prop := ∃ e : List GCell, b.Perm (e ++ a)
theorem Ext.refl (a : List GCell) : Ext a a := ⟨[], List.Perm.refl _⟩
theorem Ext.trans {a b c : List GCell} (h : Ext a b) (k : Ext b c) : Ext a c := by
  obtain ⟨e, h⟩ := h
  obtain ⟨f, k⟩ := k
  refine ⟨f ++ e, ?_⟩
  rw [List.append_assoc]
  exact k.trans (h.append_left f)
theorem Ext.ins (a : List GCell) (c : GCell) : Ext a (insC a c) := ⟨[c], insC_perm a c⟩
theorem Ext.mem {a b : List GCell} (h : Ext a b) {c : GCell} (hc : c ∈ a) : c ∈ b := by
  obtain ⟨e, h⟩ := h
  exact h.mem_iff.2 (List.mem_append.2 (.inr hc))
theorem Ext.more {s s' : GSched} (hl : s'.length = s.length) (h : Ext s.cells s'.cells) (id : Int) (l : GLink) : More s s' id l := by
  intro t
  obtain ⟨e, h⟩ := h
  unfold slotC
  rw [hl, (h.filter _).length_eq, List.filter_append, List.length_append]
  omega
structure Grid (n : GNet) (s g : GSched) (id : Int) : Prop where
  len : g.length = s.length
  offs : g.offsets = s.offsets
  rising : Rising g.cells
  calm : Calm n g.cells
  at_ : ∀ c ∈ g.cells, placed s c = true
  ext : Ext s.cells g.cells
  old : g.cells.filter (fun c => c.flow != id) = s.cells
theorem insC_filter {l : List GCell} {c : GCell} {p : GCell → Bool} (h : p c = false) : (insC l c).filter p = l.filter p := by
  unfold insC
  rw [List.filter_append, List.filter_cons, h, if_neg (by simp), ← List.filter_append, List.take_append_drop]
theorem offsL_room {n : GNet} {s : GSched} {l : GLink} {slot : Int} {o : Nat} (hg : goodLk n l.from_ l.to_ = true) (h : o ∈ offsL n s l slot) (id : Int) : (o : Int) < s.offsets ∧ RoomC n s.cells ⟨slot, o, l.from_, l.to_, id⟩ := by
  unfold offsL at h
  split at h
  · simp at h
  rename_i hno
  obtain ⟨h1, h2⟩ := List.mem_filter.1 h
  have h1 : o < s.offsets.toNat := by simp [List.mem_range'] at h1; omega
  refine ⟨by omega, hg, fun d hd e => ?_, ?_⟩
  · have hm : d ∈ hereL s.cells slot := List.mem_filter.2 ⟨hd, by simpa using e⟩
    simp only [Bool.not_eq_true, List.any_eq_false] at hno
    have := hno d hm
    rw [touches_comm]
    simpa [touchesL, touches] using this
  · unfold roomAtP at h2
    rw [← h2]
    refine good_perm n ?_
    have e : (hereL s.cells slot).filter (fun c => !(c.offset != (o : Int))) = s.cells.filter (atSame ⟨slot, o, l.from_, l.to_, id⟩) := by
      unfold hereL
      rw [List.filter_filter]
      refine List.filter_congr fun d _ => ?_
      unfold atSame
      simp only [bne, Bool.not_not]
      rw [Bool.and_comm]
    rw [e, List.map_cons, List.map_append]
    exact (List.perm_append_comm (l₁ := [endsC ⟨slot, o, l.from_, l.to_, id⟩])).trans (List.Perm.refl _)
theorem slot_grid {n : GNet} {s g : GSched} {id : Int} {l : GLink} {slot : Int} (hG : Grid n s g id) (hg : goodLk n l.from_ l.to_ = true) (hs : 0 ≤ slot ∧ slot < s.length) :
    Grid n s (slotP n g l id slot).1 id ∧ Ext g.cells (slotP n g l id slot).1.cells ∧ ((slotP n g l id slot).2 = true → ∀ t, Int.tmod t s.length = slot → 1 ≤ (slotC (slotP n g l id slot).1 id l t).length) := by
  have one : ∀ (L : List GCell) (c : GCell), c ∈ L → 1 ≤ L.length := fun L c h => by cases L with | nil => simp at h | cons a b => simp
  unfold slotP
  by_cases hh : g.cells.any (hasC l id slot) = true
  · rw [if_pos hh]
    refine ⟨hG, Ext.refl _, fun _ t ht => ?_⟩
    obtain ⟨c, h1, h2⟩ := List.any_eq_true.1 hh
    unfold hasC at h2
    simp only [Bool.and_eq_true, beq_iff_eq] at h2
    refine one _ c (List.mem_filter.2 ⟨h1, ?_⟩)
    unfold onC
    rw [hG.len, ht]
    simp only [Bool.and_eq_true, beq_iff_eq]
    exact ⟨h2.1.1.1, ⟨h2.2, h2.1.1.2⟩, h2.1.2⟩
  · rw [if_neg hh]
    cases ho : offsL n g l slot with
    | nil => exact ⟨hG, Ext.refl _, fun h => by cases h⟩
    | cons o r =>
      simp only
      obtain ⟨h1, h2⟩ := offsL_room (o := o) hg (by rw [ho]; simp : o ∈ offsL n g l slot) id
      have hc : (⟨slot, o, l.from_, l.to_, id⟩ : GCell) ∉ g.cells := fun hc => hh (List.any_eq_true.2 ⟨_, hc, by simp [hasC]⟩)
      refine ⟨⟨hG.len, hG.offs, insC_rising hG.rising hc, ((calm_cons hG.calm).2 h2).perm (insC_perm _ _).symm, fun c hm => ?_, hG.ext.trans (Ext.ins _ _), ?_⟩, Ext.ins _ _, fun _ t ht => ?_⟩
      · rcases insC_mem.1 hm with rfl | hm
        · have := hG.offs
          unfold placed insI; simp; omega
        · exact hG.at_ c hm
      · rw [insC_filter (by simp)]; exact hG.old
      · refine one _ ⟨slot, o, l.from_, l.to_, id⟩ (List.mem_filter.2 ⟨insC_mem.2 (.inl rfl), ?_⟩)
        simp only
        rw [hG.len, ht]
        simp [onC]
theorem fill_grid {n : GNet} {s : GSched} {id fin : Int} {l : GLink} (hg : goodLk n l.from_ l.to_ = true) (hlen : 1 ≤ s.length) (hf : fin ≤ 1000000) : ∀ (m : Nat) (g : GSched) (left : Nat) (p : Int), Grid n s g id → 0 ≤ p → p ≤ fin → left ≤ 1000000 →
    Grid n s (fillGo n l id fin m g left p).1 id ∧ Ext g.cells (fillGo n l id fin m g left p).1.cells ∧ p ≤ (fillGo n l id fin m g left p).2.2 ∧ (fillGo n l id fin m g left p).2.2 ≤ fin ∧
      (left : Int) ≤ (fillGo n l id fin m g left p).2.1 + (runT (fillGo n l id fin m g left p).1 id l ((fillGo n l id fin m g left p).2.2 - p).toNat p).length
  | 0, g, left, p, hG, h0, hp, hl => by
    simp only [fillGo]
    exact ⟨hG, Ext.refl _, Int.le_refl _, hp, by omega⟩
  | m + 1, g, left, p, hG, h0, hp, hl => by
    rw [fillGo]
    by_cases hc : (decide ((left : Int) > 0) && decide (p < fin)) = true
    · rw [if_pos hc]
      simp only [Bool.and_eq_true, decide_eq_true_eq] at hc
      have hWp : W (p + 1) = p + 1 := Wi (by omega)
      have hWl : W ((left : Int) - 1) = ((left - 1 : Nat) : Int) := by rw [Wi (by omega)]; omega
      have hslot : 0 ≤ Int.tmod p g.length ∧ Int.tmod p g.length < s.length := by
        rw [hG.len, Int.tmod_eq_emod_of_nonneg h0]
        exact ⟨Int.emod_nonneg _ (by omega), Int.emod_lt_of_pos _ (by omega)⟩
      obtain ⟨k1, k2, k3⟩ := slot_grid hG hg hslot
      have hk3 : (slotP n g l id (Int.tmod p g.length)).2 = true → 1 ≤ (slotC (slotP n g l id (Int.tmod p g.length)).1 id l p).length := fun h => k3 h p (by rw [hG.len])
      rw [hWp, hWl]
      generalize slotP n g l id (Int.tmod p g.length) = q at *
      have ite : (if q.2 = true then ((left - 1 : Nat) : Int) else (left : Int)) = ((if q.2 = true then left - 1 else left : Nat) : Int) := by split <;> rfl
      rw [ite]
      obtain ⟨i1, i2, i3, i4, i5⟩ := fill_grid hg hlen hf m q.1 (if q.2 = true then left - 1 else left) (p + 1) k1 (by omega) (by omega) (by split <;> omega)
      generalize fillGo n l id fin m q.1 ((if q.2 = true then left - 1 else left : Nat) : Int) (p + 1) = R at *
      refine ⟨i1, k2.trans i2, by omega, i4, ?_⟩
      rw [show (R.2.2 - p).toNat = (R.2.2 - (p + 1)).toNat + 1 by omega, runT, List.length_append, List.length_map]
      cases hq : q.2 with
      | true =>
        rw [hq] at i5
        simp only [if_true] at i5
        have h1 := hk3 hq
        have h2 := Ext.more (i1.len.trans k1.len.symm) i2 id l p
        omega
      | false =>
        rw [hq] at i5
        simp only [Bool.false_eq_true, if_false] at i5
        omega
    · rw [if_neg hc]
      exact ⟨hG, Ext.refl _, Int.le_refl _, hp, by simp only; omega⟩
/-- The links of a route from a hop on. -/
def linksFrom (n : GNet) (r : List Int) (i m : Nat) : List GLink := (List.range' i m).map fun j => ⟨gd r j, gd r (j + 1), lossLk n (gd r j) (gd r (j + 1))⟩
theorem hopsL_from (n : GNet) (r : List Int) : hopsL n r = linksFrom n r 0 (r.length - 1) := by
  unfold hopsL linksFrom
  rw [List.range_eq_range']
theorem hopL_eq {n : GNet} {r : List Int} {i : Nat} (h : goodLk n (gd r i) (gd r (i + 1)) = true) : hopL n r i = ⟨gd r i, gd r (i + 1), lossLk n (gd r i) (gd r (i + 1))⟩ := by
  have h1 := findLk_is (goodLk_find (n := n) (a := gd r i) (b := gd r (i + 1)) (by rw [h]; rfl)).1
  have e : hopL n r i = ⟨(gi n.links (findLk n (gd r i) (gd r (i + 1)))).from_, (gi n.links (findLk n (gd r i) (gd r (i + 1)))).to_, (gi n.links (findLk n (gd r i) (gd r (i + 1)))).loss⟩ := rfl
  rw [e, h1.1, h1.2]; rfl
theorem lossLk_ok {n : GNet} (hv : netErr n = 0) {a b : Int} (h : goodLk n a b = true) : 0 ≤ lossLk n a b ∧ lossLk n a b ≤ 7 := by
  have h0 := (goodLk_find (n := n) (a := a) (b := b) (by rw [h]; rfl)).1
  exact ((netOk_of hv).at (findLk_lt n a b h0)).loss
theorem rel_grid {n : GNet} (hv : netErr n = 0) {s : GSched} {id fin : Int} {r : List Int} (hr : ∀ i, i + 1 < r.length → goodLk n (gd r i) (gd r (i + 1)) = true) (hlen : 1 ≤ s.length) (hf : fin ≤ 1000000) : ∀ (m i : Nat) (g : GSched) (p : Int), Grid n s g id → 0 ≤ p → p ≤ fin → i + m < r.length →
    Grid n s (relGo n id fin r m i g p).1 id ∧ Ext g.cells (relGo n id fin r m i g p).1.cells ∧ ((relGo n id fin r m i g p).2 = true → Way (relGo n id fin r m i g p).1 id (linksFrom n r i m) p fin)
  | 0, i, g, p, hG, h0, hp, hi => by
    simp only [relGo]
    exact ⟨hG, Ext.refl _, fun _ => hp⟩
  | m + 1, i, g, p, hG, h0, hp, hi => by
    have hg := hr i (by omega)
    have hl := lossLk_ok hv hg
    rw [relGo, hopL_eq hg]
    unfold fillP
    simp only
    have hW : W (lossLk n (gd r i) (gd r (i + 1)) + 1) = ((lossLk n (gd r i) (gd r (i + 1)) + 1).toNat : Int) := by rw [Wi (by omega)]; omega
    rw [hW]
    obtain ⟨k1, k2, k3, k4, k5⟩ := fill_grid (l := ⟨gd r i, gd r (i + 1), lossLk n (gd r i) (gd r (i + 1))⟩) hg hlen hf ((fin - p).toNat + 1) g (lossLk n (gd r i) (gd r (i + 1)) + 1).toNat p hG h0 hp (by omega)
    generalize hR : fillGo n ⟨gd r i, gd r (i + 1), lossLk n (gd r i) (gd r (i + 1))⟩ id fin ((fin - p).toNat + 1) g ((lossLk n (gd r i) (gd r (i + 1)) + 1).toNat : Int) p = R at *
    by_cases hq : R.2.1 > 0
    · rw [if_pos (by simpa using hq)]
      exact ⟨k1, k2, fun h => by cases h⟩
    · rw [if_neg (by simpa using hq)]
      obtain ⟨i1, i2, i3⟩ := rel_grid hv hr hlen hf m (i + 1) R.1 R.2.2 k1 (by omega) k4 (by omega)
      refine ⟨i1, k2.trans i2, fun h => ?_⟩
      have := i3 h
      unfold linksFrom
      rw [List.range'_succ, List.map_cons]
      refine ⟨R.2.2, k3, ?_, this⟩
      have h6 := (Ext.more (i1.len.trans k1.len.symm) i2 id ⟨gd r i, gd r (i + 1), lossLk n (gd r i) (gd r (i + 1))⟩).run (R.2.2 - p).toNat p
      simp only at k5 ⊢
      omega
theorem put_grid {n : GNet} (hv : netErr n = 0) {s : GSched} {f : GFlow} {r : List Int} (hr : ∀ i, i + 1 < r.length → goodLk n (gd r i) (gd r (i + 1)) = true) (hlen : 1 ≤ s.length ∧ s.length ≤ 512) (hper : 1 ≤ f.period ∧ f.period ≤ 512) (hd : 0 ≤ f.deadline ∧ f.deadline ≤ f.period) : ∀ (m : Nat) (g g' : GSched) (p : Int), Grid n s g f.id → 0 ≤ p → p ≤ 2000 → 2 ≤ r.length → putGo n f s.length r m g p = some g' →
    Grid n s g' f.id ∧ Ext g.cells g'.cells ∧ ∀ rel ∈ relsGo f s.length m p, Way g' f.id (hopsL n r) rel (rel + f.deadline)
  | 0, g, g', p, hG, h0, hp, hr2, h => by
    simp only [putGo, Option.some.injEq] at h
    subst h
    exact ⟨hG, Ext.refl _, fun rel hrel => by simp [relsGo] at hrel⟩
  | m + 1, g, g', p, hG, h0, hp, hr2, h => by
    rw [putGo] at h
    rw [relsGo]
    by_cases hlt : p < s.length
    · rw [if_pos (by simpa using hlt)] at h
      rw [if_pos hlt]
      have hWf : W (p + f.deadline) = p + f.deadline := Wi (by omega)
      have hWp : W (p + f.period) = p + f.period := Wi (by omega)
      have hrel : relP n g f r p = relGo n f.id (p + f.deadline) r (r.length - 1) 0 g p := by unfold relP; rw [hWf]
      obtain ⟨k1, k2, k3⟩ := rel_grid hv (fin := p + f.deadline) hr hlen.1 (by omega) (r.length - 1) 0 g p hG h0 (by omega) (by omega)
      rw [← hrel] at k1 k2 k3
      rw [hWp] at h
      generalize relP n g f r p = R at *
      cases hR : R.2 with
      | false => rw [hR] at h; simp at h
      | true =>
        rw [hR] at h
        simp only [Bool.not_true, Bool.false_eq_true, if_false] at h
        obtain ⟨i1, i2, i3⟩ := put_grid hv hr hlen hper hd m R.1 g' (p + f.period) k1 (by omega) (by omega) hr2 h
        refine ⟨i1, k2.trans i2, fun rel hm => ?_⟩
        rcases List.mem_cons.1 hm with rfl | hm
        · rw [hopsL_from]
          exact (k3 hR).more fun l _ => Ext.more (i1.len.trans k1.len.symm) i2 f.id l
        · exact i3 rel hm
    · rw [if_neg (by simpa using hlt)] at h
      simp only [Option.some.injEq] at h
      subst h
      rw [if_neg hlt]
      exact ⟨hG, Ext.refl _, fun rel hrel => by simp at hrel⟩
theorem place_grid {n : GNet} (hv : netErr n = 0) {s : GSched} {f : GFlow} (hlen : 1 ≤ s.length ∧ s.length ≤ 512) (hper : 1 ≤ f.period ∧ f.period ≤ 512) (hd : 0 ≤ f.deadline ∧ f.deadline ≤ f.period) (hph : 0 ≤ f.phase ∧ f.phase ≤ 512) : ∀ (rs : List (List Int)) (g g' : GSched), Grid n s g f.id → (∀ r ∈ rs, 2 ≤ r.length ∧ ∀ i, i + 1 < r.length → goodLk n (gd r i) (gd r (i + 1)) = true) → placeGo n f s.length rs g = some g' →
    Grid n s g' f.id ∧ Ext g.cells g'.cells ∧ ∀ r ∈ rs, ∀ rel ∈ rels f s.length, Way g' f.id (hopsL n r) rel (rel + f.deadline)
  | [], g, g', hG, hrs, h => by
    simp only [placeGo, Option.some.injEq] at h
    subst h
    exact ⟨hG, Ext.refl _, fun r hr => by simp at hr⟩
  | r :: rs, g, g', hG, hrs, h => by
    rw [placeGo] at h
    cases hp : putGo n f s.length r (s.length.toNat + 1) g f.phase with
    | none => rw [hp] at h; cases h
    | some g1 =>
      rw [hp] at h
      simp only at h
      have hr := hrs r (by simp)
      obtain ⟨k1, k2, k3⟩ := put_grid hv hr.2 hlen hper hd _ g g1 f.phase hG hph.1 (by omega) hr.1 hp
      obtain ⟨i1, i2, i3⟩ := place_grid hv hlen hper hd hph rs g1 g' k1 (fun x hx => hrs x (by simp [hx])) h
      refine ⟨i1, k2.trans i2, fun r' hr' rel hrel => ?_⟩
      rcases List.mem_cons.1 hr' with rfl | hr'
      · exact (k3 rel hrel).more fun l _ => Ext.more (i1.len.trans k1.len.symm) i2 f.id l
      · exact i3 r' hr' rel hrel
end Go.Proofs.YtbaajjihhdmdpaaGreatDoor

namespace Go.Proofs.YtbaajjihhdmdpaaGreatDoor
open Go.RowKit
set_option linter.unusedSectionVars false
set_option linter.unusedVariables false
set_option linter.unusedSimpArgs false
set_option linter.unnecessarySimpa false
set_option maxRecDepth 100000
set_option maxHeartbeats 4000000
theorem S99 (a b : List Int) (ha : Cn a) (hb : Cn b) : Sound Tryz.prog 99 [intsV a, intsV b] (.bool (decide (a = b))) := by
  refine ex_intro mixedT T [] Tryz.func99 rfl (by rw [Tryz.ntmps99]; simp) (by kernel_rfl) ?_
  conv => whnf
  repeat' first | (refine LenG.map ?_; conv => whnf) | (refine LenG.go ?_; conv => whnf)
  repeat' first | (refine LenG.map ?_; conv => whnf) | (refine LenG.go ?_; conv => whnf)
  refine Br.mk (fun hq => ?_) (fun hq => ?_) <;> conv => whnf
  · have : a ≠ b := fun e => by subst e; simp at hq
    rw [decide_eq_false this]; exact RetG.one rfl
  have hlen : a.length = b.length := by simp at hq; omega
  refine Lp.go T [] (fun i : Nat => [(0, intsV a), (1, intsV b), (5, i64 i)]) (fun _ => []) (fun m i => m + i = a.length ∧ ∀ j, j < i → gd a j = gd b j) a.length 0 ⟨by simp, fun j h => by omega⟩ [] ?_ ?_
  · (conv => whnf); refine ⟨rfl, ?_, ?_⟩ <;> (conv => whnf) <;> (repeat' apply And.intro) <;> first | exact True.intro | rfl | (conv => rhs; whnf)
  rintro m i ⟨hm, hi⟩
  conv => whnf
  repeat' first | (refine LenG.map ?_; conv => whnf) | (refine LenG.go ?_; conv => whnf)
  refine Br.mk (fun hq => ?_) (fun hq => ?_) <;> conv => whnf
  · have hlt : i < a.length := by simpa using hq
    refine Ix.at (l := a) hlt rfl ?_; conv => whnf
    refine Ix.at (l := b) (by omega) rfl ?_; conv => whnf
    rw [int_dec']
    refine Br.mk (fun hq2 => ?_) (fun hq2 => ?_) <;> conv => whnf
    · have : a ≠ b := fun e => by subst e; simp at hq2
      rw [decide_eq_false this]; exact RetG.one rfl
    · refine ⟨m - 1, i + 1, by omega, ⟨by omega, fun j hj => ?_⟩, ?_⟩
      · by_cases e : j = i
        · subst e; simpa using hq2
        · exact hi j (by omega)
      · (conv => whnf); refine ⟨rfl, ?_, ?_⟩ <;> (conv => whnf) <;> (repeat' apply And.intro) <;> first | exact True.intro | rfl | (conv => rhs; whnf)
        exact incr (by omega)
  · have hge : a.length ≤ i := by simpa using hq
    have : a = b := by
      apply List.ext_getElem hlen
      intro j h1 h2
      have := hi j (by omega)
      simpa [gd, h1, h2] using this
    rw [decide_eq_true this]; exact RetG.one rfl
theorem S98 (a b : List (List Int)) (ha : Cn a) (hb : Cn b) (hra : ∀ r ∈ a, Cn r) (hrb : ∀ r ∈ b, Cn r) : Sound Tryz.prog 98 [rowsV a, rowsV b] (.bool (decide (a = b))) := by
  refine ex_intro mixedT T [] Tryz.func98 rfl (by rw [Tryz.ntmps98]; simp) (by kernel_rfl) ?_
  conv => whnf
  repeat' first | (refine LenG.map ?_; conv => whnf) | (refine LenG.go ?_; conv => whnf)
  repeat' first | (refine LenG.map ?_; conv => whnf) | (refine LenG.go ?_; conv => whnf)
  refine Br.mk (fun hq => ?_) (fun hq => ?_) <;> conv => whnf
  · have : a ≠ b := fun e => by subst e; simp at hq
    rw [decide_eq_false this]; exact RetG.one rfl
  have hlen : a.length = b.length := by simp at hq; omega
  refine Lp.go T [] (fun i : Nat => [(0, rowsV a), (1, rowsV b), (5, i64 i)]) (fun _ => []) (fun m i => m + i = a.length ∧ ∀ j, j < i → gd a j = gd b j) a.length 0 ⟨by simp, fun j h => by omega⟩ [] ?_ ?_
  · (conv => whnf); refine ⟨rfl, ?_, ?_⟩ <;> (conv => whnf) <;> (repeat' apply And.intro) <;> first | exact True.intro | rfl | (conv => rhs; whnf)
  rintro m i ⟨hm, hi⟩
  conv => whnf
  repeat' first | (refine LenG.map ?_; conv => whnf) | (refine LenG.go ?_; conv => whnf)
  refine Br.mk (fun hq => ?_) (fun hq => ?_) <;> conv => whnf
  · have hlt : i < a.length := by simpa using hq
    refine Ix.at (l := a) hlt rfl ?_; conv => whnf
    refine Ix.at (l := b) (by omega) rfl ?_; conv => whnf
    refine FnG.go rfl ?_; conv => whnf
    refine CallG.go (S99 _ _ (hra _ (gd_mem hlt)) (hrb _ (gd_mem (i := i) (by omega)))) ?_; conv => whnf
    refine Br.mk (fun hq2 => ?_) (fun hq2 => ?_) <;> conv => whnf
    · have : a ≠ b := fun e => by subst e; simp at hq2
      rw [decide_eq_false this]; exact RetG.one rfl
    · refine ⟨m - 1, i + 1, by omega, ⟨by omega, fun j hj => ?_⟩, ?_⟩
      · by_cases e : j = i
        · subst e; simpa using hq2
        · exact hi j (by omega)
      · (conv => whnf); refine ⟨rfl, ?_, ?_⟩ <;> (conv => whnf) <;> (repeat' apply And.intro) <;> first | exact True.intro | rfl | (conv => rhs; whnf)
        exact incr (by omega)
  · have hge : a.length ≤ i := by simpa using hq
    have : a = b := by
      apply List.ext_getElem hlen
      intro j h1 h2
      have := hi j (by omega)
      simpa [gd, h1, h2] using this
    rw [decide_eq_true this]; exact RetG.one rfl
theorem any_gd {α : Type} [Inhabited α] {l : List α} {p : α → Bool} {i : Nat} (h : i < l.length) (hp : p (gd l i) = true) : l.any p = true := List.any_eq_true.2 ⟨_, gd_mem h, hp⟩
theorem none_gd {α : Type} [Inhabited α] {l : List α} {p : α → Bool} (h : ∀ j, j < l.length → p (gd l j) = false) : l.any p = false := by
  rw [List.any_eq_false]
  intro x hx
  obtain ⟨i, hi, rfl⟩ := List.getElem_of_mem hx
  have := h i hi
  rw [show gd l i = l[i] by simp [gd, List.getD, hi]] at this
  rw [this]; simp
theorem upto_succ {p : Nat → Prop} {i : Nat} (h : ∀ j, j < i → p j) (k : p i) : ∀ j, j < i + 1 → p j := fun j hj => by
  rcases Nat.lt_succ_iff_lt_or_eq.1 hj with h1 | rfl
  · exact h j h1
  · exact k
def longR (r : List Int) : Bool := decide ((r.length : Int) > 12)
def few37 (n : GNet) (s : GSched) (l : List (List Int)) : Bool := if l.any longR then false else fewNet n && decide ((s.cells.length : Int) ≤ 24) && decide ((l.length : Int) ≤ 3)
theorem S82 (n : GNet) (hn : n.ok) (s : GSched) (hs : Cn s.cells) (l : List (List Int)) (hl : Cn l) : Sound Tryz.prog 82 [n.v, s.v, rowsV l] (.bool (few37 n s l)) := by
  obtain ⟨R, hR⟩ : ∃ R, few37 n s l = R := ⟨_, rfl⟩
  rw [hR]
  unfold few37 at hR
  refine ex_intro mixedT T [] Tryz.func82 rfl (by rw [Tryz.ntmps82]; simp) (by kernel_rfl) ?_
  conv => whnf
  repeat' first | (refine LenG.map ?_; conv => whnf) | (refine LenG.go ?_; conv => whnf)
  refine Lp.go T [.t 3, .t 4] (fun i : Nat => [(2, rowsV l), (3, .op 0 0), (4, .op 1 0), (7, i64 i)]) (fun _ => [.box n.c, .box s.c]) (fun m i => m + i = l.length ∧ ∀ j, j < i → longR (gd l j) = false) l.length 0 ⟨by simp, by simp⟩ [.t 3, .t 4] ?_ ?_
  · (conv => whnf); refine ⟨rfl, ?_, ?_⟩ <;> (conv => whnf) <;> (repeat' apply And.intro) <;> first | exact True.intro | rfl | (conv => rhs; whnf)
  rintro m i ⟨hm, hi⟩
  conv => whnf
  repeat' first | (refine LenG.map ?_; conv => whnf) | (refine LenG.go ?_; conv => whnf)
  refine Br.mk (fun hq => ?_) (fun hq => ?_) <;> conv => whnf
  · have hlt : i < l.length := by simpa using hq
    refine Ix.at (l := l) hlt rfl ?_; conv => whnf
    repeat' first | (refine LenG.map ?_; conv => whnf) | (refine LenG.go ?_; conv => whnf)
    refine Br.mk (fun hq2 => ?_) (fun hq2 => ?_) <;> conv => whnf
    · rw [if_pos (any_gd hlt hq2)] at hR
      rw [← hR]; exact RetG.one rfl
    · refine ⟨m - 1, i + 1, by omega, ⟨by omega, upto_succ hi hq2⟩, ?_⟩
      (conv => whnf); refine ⟨rfl, ?_, ?_⟩ <;> (conv => whnf) <;> (repeat' apply And.intro) <;> first | exact True.intro | rfl | (conv => rhs; whnf)
      exact incr (by omega)
  · have hge : l.length ≤ i := by simpa using hq
    rw [if_neg (by rw [none_gd fun j hj => hi j (by omega)]; simp)] at hR
    rw [← hR]
    clear hR hi hm hq
    repeat' first
      | (refine Br.T ?_; conv => whnf)
      | (refine Br.F ?_; conv => whnf)
      | (refine Br.mk (fun hq => ?_) (fun hq => ?_) <;> conv => whnf)
      | (refine FnG.go rfl ?_; conv => whnf)
      | (refine LenG.map ?_; conv => whnf)
      | (refine LenG.go ?_; conv => whnf)
      | (refine CallG.go (S18 n hn) ?_; conv => whnf)
    all_goals (refine RetG.one ?_; simp only [ret1, *, Bool.true_or, Bool.false_or, Bool.or_true, Bool.or_false, Bool.true_and, Bool.false_and, Bool.and_true, Bool.and_false, Bool.not_true, Bool.not_false, if_true, if_false, Bool.false_eq_true, reduceIte])
def bigReq (n : GNet) (x : GReq) : Bool := !few37 n zeroS x.routes
def few38 (n : GNet) (q : List GReq) (s : GSched) : Bool := if q.any (bigReq n) then false else fewNet n && decide ((q.length : Int) ≤ 4) && decide ((s.cells.length : Int) ≤ 30)
theorem S25 (n : GNet) (hn : n.ok) (q : List GReq) (hql : Cn q) (hx : ∀ x ∈ q, x.ok) (s : GSched) (hs : Cn s.cells) : Sound Tryz.prog 25 [n.v, reqsV q, s.v] (.bool (few38 n q s)) := by
  obtain ⟨R, hR⟩ : ∃ R, few38 n q s = R := ⟨_, rfl⟩
  rw [hR]
  unfold few38 at hR
  refine ex_intro mixedT T [] Tryz.func25 rfl (by rw [Tryz.ntmps25]; simp) (by kernel_rfl) ?_
  conv => whnf
  repeat' first | (refine LenG.map ?_; conv => whnf) | (refine LenG.go ?_; conv => whnf)
  refine Lp.go T [.t 3, .t 5] (fun i : Nat => [(1, reqsV q), (3, .op 0 0), (5, .op 1 0), (7, i64 i)]) (fun _ => [.box n.c, .box s.c]) (fun m i => m + i = q.length ∧ ∀ j, j < i → bigReq n (gd q j) = false) q.length 0 ⟨by simp, by simp⟩ [.t 3, .t 5] ?_ ?_
  · (conv => whnf); refine ⟨rfl, ?_, ?_⟩ <;> (conv => whnf) <;> (repeat' apply And.intro) <;> first | exact True.intro | rfl | (conv => rhs; whnf)
  rintro m i ⟨hm, hi⟩
  conv => whnf
  repeat' first | (refine LenG.map ?_; conv => whnf) | (refine LenG.go ?_; conv => whnf)
  refine Br.mk (fun hq => ?_) (fun hq => ?_) <;> conv => whnf
  · have hlt : i < q.length := by simpa using hq
    have hxo := hx _ (gd_mem hlt)
    refine Ix.at (l := q) hlt rfl ?_; conv => whnf
    refine FnG.go rfl ?_; conv => whnf
    refine CallG.go (S82 n hn zeroS (by decide) (gd q i).routes hxo.routes) ?_; conv => whnf
    refine Br.mk (fun hq2 => ?_) (fun hq2 => ?_) <;> conv => whnf
    · rw [if_pos (any_gd hlt hq2)] at hR
      rw [← hR]; exact RetG.one rfl
    · refine ⟨m - 1, i + 1, by omega, ⟨by omega, upto_succ hi hq2⟩, ?_⟩
      (conv => whnf); refine ⟨rfl, ?_, ?_⟩ <;> (conv => whnf) <;> (repeat' apply And.intro) <;> first | exact True.intro | rfl | (conv => rhs; whnf)
      exact incr (by omega)
  · have hge : q.length ≤ i := by simpa using hq
    rw [if_neg (by rw [none_gd fun j hj => hi j (by omega)]; simp)] at hR
    rw [← hR]
    clear hR hi hm hq
    repeat' first
      | (refine Br.T ?_; conv => whnf)
      | (refine Br.F ?_; conv => whnf)
      | (refine Br.mk (fun hq => ?_) (fun hq => ?_) <;> conv => whnf)
      | (refine FnG.go rfl ?_; conv => whnf)
      | (refine LenG.map ?_; conv => whnf)
      | (refine LenG.go ?_; conv => whnf)
      | (refine CallG.go (S18 n hn) ?_; conv => whnf)
    all_goals (refine RetG.one ?_; simp only [ret1, *, Bool.true_or, Bool.false_or, Bool.or_true, Bool.or_false, Bool.true_and, Bool.false_and, Bool.and_true, Bool.and_false, Bool.not_true, Bool.not_false, if_true, if_false, Bool.false_eq_true, reduceIte])
structure GClaim.ok (c : GClaim) : Prop where
  routes : Cn c.routes
  rows : ∀ r ∈ c.routes, Cn r
  bounds : Cn c.bounds
  worst : Cn c.worst
  slots : Cn c.slots
  srows : ∀ r ∈ c.slots, Cn r
theorem S36 (a b : GClaim) (ha : a.ok) (hb : b.ok) : Sound Tryz.prog 36 [a.v, b.v] (.bool (decide (a = b))) := by
  have hne : ∀ {p : Prop}, (a = b → p) → ¬ p → decide (a = b) = false := fun h k => decide_eq_false fun e => k (h e)
  refine ex_intro mixedT T [] Tryz.func36 rfl (by rw [Tryz.ntmps36]; simp) (by kernel_rfl) ?_
  conv => whnf
  repeat' first | (refine LenG.map ?_; conv => whnf) | (refine LenG.go ?_; conv => whnf)
  repeat' first
    | (refine Br.T ?_; conv => whnf)
    | (refine Br.F ?_; conv => whnf)
    | (refine LenG.map ?_; conv => whnf)
    | (refine LenG.go ?_; conv => whnf)
    | (refine FnG.go rfl ?_; conv => whnf)
    | (refine CallG.go (S98 a.routes b.routes ha.routes hb.routes ha.rows hb.rows) ?_; conv => whnf)
    | (refine CallG.go (S99 a.bounds b.bounds ha.bounds hb.bounds) ?_; conv => whnf)
    | (refine CallG.go (S99 a.worst b.worst ha.worst hb.worst) ?_; conv => whnf)
    | (refine Br.mk (fun hq => ?_) (fun hq => ?_) <;> conv => whnf)
  · rw [hne (p := a.flow = b.flow) (fun e => by rw [e]) (by simpa using hq)]; exact RetG.one rfl
  · rw [hne (p := a.routes = b.routes) (fun e => by rw [e]) (by simpa using hq)]; exact RetG.one rfl
  · rw [hne (p := a.bounds = b.bounds) (fun e => by rw [e]) (by simpa using hq)]; exact RetG.one rfl
  · rw [hne (p := a.worst = b.worst) (fun e => by rw [e]) (by simpa using hq)]; exact RetG.one rfl
  · rw [hne (p := a.slots.length = b.slots.length) (fun e => by rw [e]) (by simp at hq; omega)]; exact RetG.one rfl
  rename_i h1 h2 h3 h4
  have h5 := hq
  clear hq
  have hlen : a.slots.length = b.slots.length := by simp at h5; omega
  have hsl := ha.slots
  refine Lp.go T [.t 2, .t 3] (fun i : Nat => [(2, .op 0 0), (3, .op 1 0), (5, i64 i)]) (fun _ => [.box a.c, .box b.c]) (fun m i => m + i = a.slots.length ∧ ∀ j, j < i → gd a.slots j = gd b.slots j) a.slots.length 0 ⟨by simp, by simp⟩ [.t 2, .t 3] ?_ ?_
  · (conv => whnf); refine ⟨rfl, ?_, ?_⟩ <;> (conv => whnf) <;> (repeat' apply And.intro) <;> first | exact True.intro | rfl | (conv => rhs; whnf)
  rintro m i ⟨hm, hi⟩
  conv => whnf
  repeat' first | (refine LenG.map ?_; conv => whnf) | (refine LenG.go ?_; conv => whnf)
  refine Br.mk (fun hq => ?_) (fun hq => ?_) <;> conv => whnf
  · have hlt : i < a.slots.length := by simpa using hq
    refine Ix.at (l := a.slots) hlt rfl ?_; conv => whnf
    refine Ix.at (l := b.slots) (by omega) rfl ?_; conv => whnf
    refine FnG.go rfl ?_; conv => whnf
    refine CallG.go (S99 (gd a.slots i) (gd b.slots i) (ha.srows _ (gd_mem hlt)) (hb.srows _ (gd_mem (by omega)))) ?_; conv => whnf
    refine Br.mk (fun hq2 => ?_) (fun hq2 => ?_) <;> conv => whnf
    · rw [hne (p := gd a.slots i = gd b.slots i) (fun e => by rw [e]) (by simpa using hq2)]; exact RetG.one rfl
    · refine ⟨m - 1, i + 1, by omega, ⟨by omega, upto_succ hi (by simpa using hq2)⟩, ?_⟩
      (conv => whnf); refine ⟨rfl, ?_, ?_⟩ <;> (conv => whnf) <;> (repeat' apply And.intro) <;> first | exact True.intro | rfl | (conv => rhs; whnf)
      exact incr (by omega)
  · have hge : a.slots.length ≤ i := by simpa using hq
    have hs : a.slots = b.slots := List.ext_getElem hlen fun j k1 k2 => by
      have := hi j (by omega)
      rwa [show gd a.slots j = a.slots[j] by simp [gd, List.getD, k1], show gd b.slots j = b.slots[j] by simp [gd, List.getD, k2]] at this
    have e : a = b := by
      have e1 : a.flow = b.flow := by simpa using h1
      have e2 : a.routes = b.routes := by simpa using h2
      have e3 : a.bounds = b.bounds := by simpa using h3
      have e4 : a.worst = b.worst := by simpa using h4
      cases a; cases b
      simp only at e1 e2 e3 e4 hs
      subst e1 e2 e3 e4 hs; rfl
    rw [decide_eq_true e]; exact RetG.one rfl
/-! ### With -/
theorem snocV2 {α : Type} {f : α → List AV} {l : List α} {x y : α} {t : Nat} : AV.sl (.tag t) ((l ++ [x] ++ [y]).map f) = .sl (.tag t) (l.map f ++ [f x] ++ [f y]) := by simp
theorem snocH2 {α : Type} {f : α → List AV} {l : List α} {x y : α} {e sz : Nat} : HO.live e sz (l ++ [x] ++ [y]).length = .live e sz ((l.map f ++ [f x]).length + [f y].length) := by simp
theorem appOkG {A : List (List AV)} {y : List AV} {sz b : Nat} (hb : b ≤ 1000) (hl : A.length ≤ 100000000) (hy : y.length = sz ∧ y.all isAtom = true) :
    (A.length + [y].length) * b ≤ 140737488355328 ∧ A.length + [y].length ≤ 9223372036854775807 ∧ ∀ z ∈ [y], z.length = sz ∧ z.all isAtom = true := by
  simp only [List.length_cons, List.length_nil]
  refine ⟨?_, by omega, fun z hz => by simp at hz; subst hz; exact hy⟩
  exact Nat.le_trans (Nat.mul_le_mul (show A.length + (0 + 1) ≤ 100000001 by omega) hb) (by decide)
def withGo (x : GReq) : List GReq → Bool → List GReq → List GReq × Bool
  | [], put, out => (out, put)
  | y :: r, put, out => if !put && decide (y.flow.id > x.flow.id) then withGo x r true (out ++ [x] ++ [y]) else withGo x r put (out ++ [y])
def withR (q : List GReq) (x : GReq) : List GReq := if !(withGo x q false []).2 then (withGo x q false []).1 ++ [x] else (withGo x q false []).1
theorem S31 (q : List GReq) (hq : q.length ≤ 1000000) (x : GReq) : Sound Tryz.prog 31 [reqsV q, x.v] (reqsV (withR q x)) := by
  obtain ⟨R, hR⟩ : ∃ R, withGo x q false [] = R := ⟨_, rfl⟩
  have hW : withR q x = if !R.2 then R.1 ++ [x] else R.1 := by unfold withR; rw [hR]
  rw [hW]
  clear hW
  refine ex_intro mixedT T [] Tryz.func31 rfl (by rw [Tryz.ntmps31]; simp) (by kernel_rfl) ?_
  conv => whnf
  repeat' first | (refine LenG.map ?_; conv => whnf) | (refine LenG.go ?_; conv => whnf)
  refine Lp.goZ T [.t 3, .t 5] [.t 5 47] (fun (a : Nat × Bool × List GReq) => [(0, reqsV q), (3, .op 0 0), (5, .sl (.tag 1) (a.2.2.map GReq.c)), (6, .bool a.2.1), (7, i64 a.1)]) (fun a => [.box x.c, .live 47 7 a.2.2.length])
    (fun m a => m + a.1 = q.length ∧ withGo x (q.drop a.1) a.2.1 a.2.2 = R ∧ a.2.2.length ≤ a.1 + (if a.2.1 then 1 else 0)) q.length (0, false, []) ⟨by simp, by simpa using hR, by simp⟩ [.t 3, .t 5] ?_ ?_
  · (conv => whnf); refine ⟨rfl, ?_, ?_⟩ <;> (conv => whnf) <;> (repeat' apply And.intro) <;> first | exact True.intro | rfl | (conv => rhs; whnf)
  rintro m ⟨i, put, out⟩ ⟨hm, hi, hl⟩
  simp only at hm hi hl
  conv => whnf
  repeat' first | (refine LenG.map ?_; conv => whnf) | (refine LenG.go ?_; conv => whnf)
  refine Br.mk (fun hq2 => ?_) (fun hq2 => ?_) <;> conv => whnf
  · have hlt : i < q.length := by simpa using hq2
    rw [drop_gd hlt, withGo] at hi
    have hl1 : out.length ≤ i + 1 := by split at hl <;> omega
    repeat' first
      | (refine Br.T ?_; conv => whnf)
      | (refine Br.F ?_; conv => whnf)
      | (refine Br.mk (fun hq => ?_) (fun hq => ?_) <;> conv => whnf)
      | (refine FnG.go rfl ?_; conv => whnf)
      | (refine LenG.map ?_; conv => whnf)
      | (refine LenG.go ?_; conv => whnf)
      | (refine Ix.at (l := q) hlt rfl ?_; conv => whnf)
      | (refine ⟨appOkG (by decide) (by simp <;> omega) ⟨rfl, rfl⟩, ?_⟩; (conv => whnf); refine ⟨by simp, ?_⟩; conv => whnf)
    · have h1 : put = false := by simpa using (by assumption : (!put) = true)
      subst h1
      have h2 : decide ((gd q i).flow.id > x.flow.id) = true := hq
      rw [h2, if_pos (by decide)] at hi
      refine ⟨m - 1, (i + 1, true, out ++ [x] ++ [gd q i]), by omega, ⟨by simp only; omega, hi, by simp at hl ⊢; omega⟩, ?_⟩
      (conv => whnf); refine ⟨rfl, ?_, ?_⟩ <;> (conv => whnf) <;> (repeat' apply And.intro) <;> first | exact True.intro | rfl | (conv => rhs; whnf)
      · exact snocV2
      · exact incr (by omega)
      · exact snocH2
    all_goals
      have hh : (!put && decide ((gd q i).flow.id > x.flow.id)) = false := by
        first
          | (have h1 : (!put) = false := (by assumption : (!put) = false); rw [h1]; rfl)
          | (have h2 : decide ((gd q i).flow.id > x.flow.id) = false := hq; rw [h2, Bool.and_false])
      rw [hh, if_neg (by decide)] at hi
      refine ⟨m - 1, (i + 1, put, out ++ [gd q i]), by omega, ⟨by simp only; omega, hi, by simp at hl ⊢; omega⟩, ?_⟩
      (conv => whnf); refine ⟨rfl, ?_, ?_⟩ <;> (conv => whnf) <;> (repeat' apply And.intro) <;> first | exact True.intro | rfl | exact snocV | exact incr (by omega) | exact snocH
  · obtain rfl : m = 0 := by
      have : q.length ≤ i := by simpa using hq2
      omega
    rw [List.drop_eq_nil_of_le (by omega), withGo] at hi
    rw [← hi]
    have hl1 : out.length ≤ i + 1 := by split at hl <;> omega
    repeat' first
      | (refine Br.T ?_; conv => whnf)
      | (refine Br.F ?_; conv => whnf)
      | (refine Br.mk (fun hq => ?_) (fun hq => ?_) <;> conv => whnf)
      | (refine FnG.go rfl ?_; conv => whnf)
      | (refine LenG.map ?_; conv => whnf)
      | (refine LenG.go ?_; conv => whnf)
      | (refine ⟨appOk (by decide) (by simp only; omega) ⟨rfl, rfl⟩, ?_⟩; (conv => whnf); refine ⟨by simp, ?_⟩; conv => whnf)
    · rw [show (!put) = true from hq]; exact RetG.one (by show some (AV.sl Fl.no (out.map GReq.c ++ [x.c])) = some (AV.sl Fl.no ((out ++ [x]).map GReq.c)); rw [List.map_append]; rfl)
    · rw [show (!put) = false from hq]; exact RetG.one rfl
end Go.Proofs.YtbaajjihhdmdpaaGreatDoor

namespace Go.Proofs.YtbaajjihhdmdpaaGreatDoor
open Go.RowKit
set_option linter.unusedSectionVars false
set_option linter.unusedVariables false
set_option linter.unusedSimpArgs false
set_option linter.unnecessarySimpa false
set_option maxRecDepth 100000
theorem hops_congr {s s' : GSched} {id fin : Int} (h : ∀ l t, slotC s id l t = slotC s' id l t) : ∀ (ls : List GLink) (p : Int), hops s id fin ls p = hops s' id fin ls p := by
  have hr : ∀ l (m : Nat) (p : Int), runT s id l m p = runT s' id l m p := by
    intro l m
    induction m with
    | zero => intro p; rfl
    | succ m ih => intro p; rw [runT, runT, h, ih]
  intro ls
  induction ls with
  | nil => intro p; rfl
  | cons l ls ih => intro p; rw [hops, hops, hr, ih]
theorem boundF_congr {s s' : GSched} {f : GFlow} (h : ∀ l t, slotC s f.id l t = slotC s' f.id l t) (ls : List GLink) : ∀ (rs : List Int) (b : Int × Int × List Int), boundF s f ls rs b = boundF s' f ls rs b
  | [], b => rfl
  | rel :: rs, b => by
    rw [boundF, boundF, hops_congr h]
    cases hops s' f.id (rel + f.period) ls rel with
    | none => rfl
    | some L => simp only; exact boundF_congr h ls rs _
/-! ### one route -/
theorem late_iff {n : GNet} (hn : n.ok) {s : GSched} {f : GFlow} {r : List Int} (hc : checkW ⟨n, s, f, r, 0⟩ = 0) : lateR n s f r = false ↔ Served s f (hopsL n r) f.deadline := by
  obtain ⟨hw, hz⟩ := way_ok (w := ⟨n, s, f, r, 0⟩) hn (by simp) hc
  have hb := bound_eq hw hz rfl
  have hd : 0 ≤ f.deadline := by
    unfold checkW at hc
    split at hc
    · cases hc
    split at hc
    · cases hc
    split at hc
    · cases hc
    rename_i h3
    have := (flowOk_of (Bool.eq_false_iff.2 h3)).2.2.1
    simp only at this; omega
  rw [served_iff hd]
  unfold lateR routeB
  rw [hc, if_neg (by decide), hb]
  cases hF : boundF s f (hopsL n r) (rels f s.length) (0, 0, []) with
  | none => simp [hF]
  | some b => simp [hF]
theorem route_congr {n : GNet} (hn : n.ok) {s s' : GSched} {f : GFlow} {r : List Int} (hl : s'.length = s.length) (hp : printE s' = printE s) (h : ∀ l t, slotC s f.id l t = slotC s' f.id l t) : routeB ⟨n, s', f, r, 0⟩ = routeB ⟨n, s, f, r, 0⟩ := by
  have hc : checkW ⟨n, s', f, r, 0⟩ = checkW ⟨n, s, f, r, 0⟩ := by unfold checkW; simp only; rw [hl, hp]
  unfold routeB
  rw [hc]
  by_cases h0 : checkW ⟨n, s, f, r, 0⟩ = 0
  · obtain ⟨hw, hz⟩ := way_ok (w := ⟨n, s, f, r, 0⟩) hn (by simp) h0
    obtain ⟨hw', hz'⟩ := way_ok (w := ⟨n, s', f, r, 0⟩) hn (by simp) (hc.trans h0)
    have hb : boundP ⟨n, s', f, r, 0⟩ = boundP ⟨n, s, f, r, 0⟩ := by
      rw [bound_eq hw hz rfl, bound_eq hw' hz' rfl]
      simp only
      rw [hl, boundF_congr h]
    rw [hb]
  · rw [if_pos (by simpa using h0), if_pos (by simpa using h0)]
/-! ### claims -/
theorem claimGo_some {n : GNet} {s : GSched} {f : GFlow} : ∀ (rs : List (List Int)) (c : GClaim), (claimGo n s f rs c).isSome = true ↔ ∀ r ∈ rs, lateR n s f r = false
  | [], c => by simp [claimGo]
  | r :: rs, c => by
    rw [claimGo]
    cases h : lateR n s f r with
    | true => simp [h]
    | false =>
      rw [if_neg (by simp), claimGo_some rs]
      simp [h]
theorem claim_some {n : GNet} {s : GSched} {x : GReq} : (claimP n s x).isSome = true ↔ ∀ r ∈ x.routes, lateR n s x.flow r = false := claimGo_some _ _
theorem claimGo_congr {n : GNet} {s s' : GSched} {f : GFlow} (h : ∀ r, routeB ⟨n, s', f, r, 0⟩ = routeB ⟨n, s, f, r, 0⟩) : ∀ (rs : List (List Int)) (c : GClaim), claimGo n s' f rs c = claimGo n s f rs c
  | [], c => rfl
  | r :: rs, c => by
    rw [claimGo, claimGo]
    unfold lateR
    rw [h]
    split
    · rfl
    · exact claimGo_congr h rs _
theorem makeGo_ok {n : GNet} {s : GSched} : ∀ (l : List GReq) (i : Nat) (out : List GClaim), (∀ y ∈ l, (claimP n s y).isSome = true) → makeGo n s l i out = (out ++ l.map (fun y => (claimP n s y).getD noClaim), -1, 0)
  | [], i, out, _ => by simp [makeGo]
  | x :: r, i, out, h => by
    rw [makeGo]
    have hx := h x (by simp)
    cases hc : claimP n s x with
    | none => rw [hc] at hx; cases hx
    | some c =>
      simp only
      rw [makeGo_ok r (i + 1) _ (fun y hy => h y (by simp [hy]))]
      simp [hc]
theorem makeGo_all {n : GNet} {s : GSched} : ∀ (l : List GReq) (i : Nat) (out : List GClaim), (makeGo n s l i out).2.2 = 0 → ∀ y ∈ l, (claimP n s y).isSome = true
  | [], i, out, _ => by simp
  | x :: r, i, out, h => by
    rw [makeGo] at h
    cases hc : claimP n s x with
    | none => rw [hc] at h; simp at h
    | some c =>
      rw [hc] at h
      simp only at h
      intro y hy
      rcases List.mem_cons.1 hy with rfl | hy
      · rw [hc]; rfl
      · exact makeGo_all r (i + 1) _ h y hy
/-- What a certificate wants. -/
structure Cert (n : GNet) (q : List GReq) (s : GSched) : Prop where
  reqs : (reqsP n q).2 = 0
  valid : ValidS n (flowsOf q) s
  claims : ∀ y ∈ q, (claimP n s y).isSome = true
theorem make_iff (n : GNet) (q : List GReq) (s : GSched) : (makeP n q s).2.2 = 0 ↔ Cert n q s := by
  unfold makeP
  constructor
  · intro h
    split at h
    · rename_i h1; simp only at h; rw [h] at h1; simp at h1
    rename_i h1
    split at h
    · simp at h
    rename_i h2
    exact ⟨by simpa using h1, (sched_iff _ _ _).1 (by simpa using h2), makeGo_all _ _ _ h⟩
  · intro h
    rw [if_neg (by simp [h.reqs]), if_neg (by simp [(sched_iff _ _ _).2 h.valid]), makeGo_ok _ _ _ h.claims]
theorem make_eq {n : GNet} {q : List GReq} {s : GSched} (h : Cert n q s) : makeP n q s = (q.map (fun y => (claimP n s y).getD noClaim), -1, 0) := by
  unfold makeP
  rw [if_neg (by simp [h.reqs]), if_neg (by simp [(sched_iff _ _ _).2 h.valid]), makeGo_ok _ _ _ h.claims]
  simp
theorem serves_iff (n : GNet) (q : List GReq) (s : GSched) : servesP n q s = true ↔ Cert n q s := by
  unfold servesP; rw [beq_iff_eq, make_iff]
theorem reqs_net {n : GNet} {q : List GReq} (h : (reqsP n q).2 = 0) : netErr n = 0 ∧ (flowsP n.nodes (flowsOf q)).2 = 0 ∧ ∀ x ∈ q, routesP n x = 0 := by
  have := reqsP_ok (q := q) (n := n) (by simpa using h)
  exact ⟨this.1, by simpa using this.2.1, this.2.2⟩
theorem route_check {n : GNet} {q : List GReq} {s : GSched} (hr : (reqsP n q).2 = 0) (hf : form s = true) (hm : ∀ f ∈ flowsOf q, Int.tmod s.length f.period = 0) {x : GReq} (hx : x ∈ q) {r : List Int} (hrr : r ∈ x.routes) : checkW ⟨n, s, x.flow, r, 0⟩ = 0 := by
  obtain ⟨h1, h2, h3⟩ := reqs_net hr
  have hxf : x.flow ∈ flowsOf q := List.mem_map.2 ⟨x, hx, rfl⟩
  have hfe := flows_all (nodes := n.nodes) (l := flowsOf q) (by simpa using h2) x.flow hxf
  have hnn : 2 ≤ n.nodes ∧ n.nodes ≤ 32 := (netOk_of h1).nodes
  have hone : (flowsP n.nodes [x.flow]).2 = 0 := by
    unfold flowsP
    rw [if_neg (by simp; omega), if_neg (by simp), firstE_iff]
    intro j _ hj
    obtain rfl : j = 0 := by simp at hj; omega
    unfold flowAt
    have e : gd [x.flow] 0 = x.flow := rfl
    rw [e, hfe]; simp
  unfold checkW
  rw [if_neg (by simp [h1]), if_neg (by simp [printE, hf]), if_neg (by simp [hone]), if_neg (by simp [hm _ hxf])]
  exact (routesP_ok (h3 x hx)).2.2 r hrr
/-! ### the place of a further request -/
theorem flows_rise {nodes : Int} {l : List GFlow} (h : (flowsP nodes l).2 = 0) : l.Pairwise fun a b => a.id < b.id := by
  unfold flowsP at h
  split at h
  · simp at h
  split at h
  · simp at h
  have hz := (firstE_iff _ _).1 h
  have step : ∀ q i, i + q + 1 < l.length → (gd l i).id < (gd l (i + q + 1)).id := by
    have one : ∀ i, i + 1 < l.length → (gd l i).id < (gd l (i + 1)).id := by
      intro i hi
      have := hz (i + 1) (by omega) (by omega)
      unfold flowAt at this
      split at this
      · rename_i h1; rw [this] at h1; simp at h1
      split at this
      · cases this
      · rename_i h2
        simp at h2
        simp only [gd, Nat.add_sub_cancel] at h2 ⊢
        simp at h2 ⊢; omega
    intro q
    induction q with
    | zero => intro i hi; exact one i hi
    | succ q ih =>
      intro i hi
      have h1 := ih i (by omega)
      have h2 := one (i + q + 1) (by omega)
      rw [show i + (q + 1) + 1 = i + q + 1 + 1 by omega]; omega
  refine List.pairwise_iff_getElem.2 fun i j hi hj hij => ?_
  have := step (j - i - 1) i (by omega)
  rwa [show i + (j - i - 1) + 1 = j by omega, gd_at hi, gd_at hj] at this
theorem withGo_put (x : GReq) : ∀ (l out : List GReq), withGo x l true out = (out ++ l, true)
  | [], out => by simp [withGo]
  | y :: r, out => by
    rw [withGo, if_neg (by simp), withGo_put x r]
    simp
theorem withGo_split (x : GReq) : ∀ (a b out : List GReq), (∀ y ∈ a, y.flow.id ≤ x.flow.id) → (∀ y ∈ b, x.flow.id < y.flow.id) →
    (if !(withGo x (a ++ b) false out).2 then (withGo x (a ++ b) false out).1 ++ [x] else (withGo x (a ++ b) false out).1) = out ++ a ++ x :: b
  | [], [], out, _, _ => by simp [withGo]
  | [], y :: b, out, _, hb => by
    have h := hb y (by simp)
    have hd : (!false && decide (y.flow.id > x.flow.id)) = true := by simp; exact h
    have e : withGo x (y :: b) false out = (out ++ [x] ++ [y] ++ b, true) := by rw [withGo, if_pos hd, withGo_put]
    rw [List.nil_append, e]
    simp
  | y :: a, b, out, ha, hb => by
    have h := ha y (by simp)
    have hd : ¬ ((!false && decide (y.flow.id > x.flow.id)) = true) := by simp; exact h
    have e : withGo x (y :: a ++ b) false out = withGo x (a ++ b) false (out ++ [y]) := by rw [List.cons_append, withGo, if_neg hd]
    rw [e, withGo_split x a b (out ++ [y]) (fun z hz => ha z (by simp [hz])) hb]
    simp
theorem with_ins {q : List GReq} {x : GReq} (hq : q.Pairwise fun a b => a.flow.id < b.flow.id) (hx : ∀ y ∈ q, y.flow.id ≠ x.flow.id) : withR q x = insR q x := by
  have hmono : ∀ i j, i < j → j < q.length → cmpReq (gd q j) x < 0 → cmpReq (gd q i) x < 0 := by
    intro i j hij hj h
    have := List.pairwise_iff_getElem.1 hq i j (by omega) hj hij
    unfold cmpReq at *
    rw [cmpI_neg] at *
    rw [gd_at hj] at h
    rw [gd_at (by omega)]
    omega
  obtain ⟨h1, h2, h3⟩ := bs_pos (fun y => cmpReq y x) q hmono
  unfold withR insR
  generalize bsI (fun y => cmpReq y x) q = p at *
  have := withGo_split x (q.take p) (q.drop p) [] (fun y hy => by
    obtain ⟨i, hi, rfl⟩ := List.getElem_of_mem hy
    rw [List.length_take] at hi
    have := h2 i (by omega)
    unfold cmpReq at this
    rw [cmpI_neg, gd_at (by omega)] at this
    rw [List.getElem_take]; omega) (fun y hy => by
    have hm := List.mem_of_mem_drop hy
    obtain ⟨i, hi, rfl⟩ := List.getElem_of_mem hy
    rw [List.length_drop] at hi
    have h4 := h3 (p + i) (by omega) (by omega)
    have h5 := hx _ hm
    unfold cmpReq at h4
    have h6 := (not_congr (cmpI_neg (gd q (p + i)).flow.id x.flow.id)).1 (by omega)
    rw [gd_at (by omega)] at h6
    rw [List.getElem_drop] at h5 ⊢
    omega)
  rw [List.take_append_drop] at this
  simpa using this
theorem ins_mem {q : List GReq} {x y : GReq} : y ∈ insR q x ↔ y = x ∨ y ∈ q := by
  constructor
  · exact insR_mem
  · rintro (rfl | h)
    · exact mem_insR
    · unfold insR
      rw [← List.take_append_drop (bsI (fun z => cmpReq z x) q) q] at h
      rcases List.mem_append.1 h with h | h
      · exact List.mem_append.2 (.inl h)
      · exact List.mem_append.2 (.inr (List.mem_cons_of_mem _ h))
theorem ins_len (q : List GReq) (x : GReq) : (insR q x).length = q.length + 1 := by
  have := bsI_le (fun z => cmpReq z x) q
  unfold insR
  simp only [List.length_append, List.length_take, List.length_cons, List.length_drop]
  omega
theorem hopsL_loss {n : GNet} (hv : netErr n = 0) {r : List Int} (hr : ∀ i, i + 1 < r.length → goodLk n (gd r i) (gd r (i + 1)) = true) : ∀ l ∈ hopsL n r, 0 ≤ l.loss ∧ l.loss ≤ 7 := by
  intro l hl
  unfold hopsL at hl
  obtain ⟨i, hi, rfl⟩ := List.mem_map.1 hl
  have := List.mem_range.1 hi
  exact lossLk_ok hv (hr i (by omega))
theorem route_ok {n : GNet} {a b : Int} {r : List Int} (h : checkR n a b r = 0) : 2 ≤ r.length ∧ r.length ≤ 9 ∧ ∀ i, i + 1 < r.length → goodLk n (gd r i) (gd r (i + 1)) = true := faultP_ok (endsP_zero h).2
theorem slotC_other {s t : GSched} {id xid : Int} (hl : t.length = s.length) (ho : t.cells.filter (fun c => c.flow != xid) = s.cells) (hne : id ≠ xid) (l : GLink) (k : Int) : slotC s id l k = slotC t id l k := by
  unfold slotC
  rw [hl, ← ho, List.filter_filter]
  refine List.filter_congr fun c _ => ?_
  cases h : onC id l c with
  | false => simp
  | true =>
    unfold onC at h
    simp only [Bool.and_eq_true, beq_iff_eq] at h
    have : (c.flow != xid) = true := by simp; omega
    rw [this]; simp
/-- What a request was admitted with. -/
structure Admitted (n : GNet) (q : List GReq) (s : GSched) (x : GReq) (t : GSched) : Prop where
  before : Cert n q s
  after : Cert n (insR q x) t
  fresh : ∀ y ∈ q, y.flow.id ≠ x.flow.id
  len : t.length = s.length
  offs : t.offsets = s.offsets
  ext : Ext s.cells t.cells
  old : t.cells.filter (fun c => c.flow != x.flow.id) = s.cells
  same : ∀ y ∈ q, claimP n t y = claimP n s y
/-- How Admit comes to its answer. -/
structure AdmitIn (n : GNet) (q : List GReq) (s : GSched) (x : GReq) : Prop where
  before : Cert n q s
  fresh : ∀ y ∈ q, y.flow.id ≠ x.flow.id
  reqs : (reqsP n (insR q x)).2 = 0
  per : Int.tmod s.length x.flow.period = 0
theorem admit_in {n : GNet} {q : List GReq} {s : GSched} {x : GReq} (h1 : servesP n q s = true) (h2 : (q.any fun y => y.flow.id == x.flow.id) = false) (h3 : faultyQ n (insR q x) = false) (h4 : (Int.tmod s.length x.flow.period != 0) = false) : AdmitIn n q s x := by
  have hb := (serves_iff n q s).1 h1
  refine ⟨hb, fun y hy e => ?_, by simpa using faulty_ok hb.valid.net h3, by simpa using h4⟩
  have := List.any_eq_false.1 h2 y hy
  simp [e] at this
theorem AdmitIn.grid {n : GNet} {q : List GReq} {s : GSched} {x : GReq} (h : AdmitIn n q s x) : Grid n s s x.flow.id := by
  have hV := h.before.valid
  refine ⟨rfl, rfl, hV.rising, hV.calm, fun c hc => (hV.at_ c hc).1, Ext.refl _, List.filter_eq_self.2 fun c hc => ?_⟩
  obtain ⟨f, hf, e⟩ := (findFl_iff _ _).1 (hV.at_ c hc).2
  unfold flowsOf at hf
  obtain ⟨y, hy, rfl⟩ := List.mem_map.1 hf
  have := h.fresh y hy
  simp; omega
theorem AdmitIn.flow {n : GNet} {q : List GReq} {s : GSched} {x : GReq} (h : AdmitIn n q s x) : (1 ≤ x.flow.period ∧ x.flow.period ≤ 512) ∧ (0 ≤ x.flow.phase ∧ x.flow.phase < x.flow.period) ∧ (1 ≤ x.flow.deadline ∧ x.flow.deadline ≤ x.flow.period) ∧ 0 ≤ x.flow.id ∧ x.flow.id ≤ 255 :=
  flowErr_ok (flows_all (nodes := n.nodes) (l := flowsOf (insR q x)) (by rw [(reqs_net h.reqs).2.1]; rfl) x.flow (List.mem_map.2 ⟨x, mem_insR, rfl⟩))
theorem AdmitIn.route {n : GNet} {q : List GReq} {s : GSched} {x : GReq} (h : AdmitIn n q s x) : ∀ r ∈ x.routes, 2 ≤ r.length ∧ ∀ i, i + 1 < r.length → goodLk n (gd r i) (gd r (i + 1)) = true := fun r hr => by
  have := route_ok ((routesP_ok ((reqs_net h.reqs).2.2 x mem_insR)).2.2 r hr)
  exact ⟨this.1, this.2.2⟩
theorem AdmitIn.sizes {n : GNet} {q : List GReq} {s : GSched} {x : GReq} (h : AdmitIn n q s x) : (1 ≤ s.length ∧ s.length ≤ 512) ∧ 1 ≤ s.offsets ∧ s.offsets ≤ 16 := by
  have := formR_bd (s := s) (by rw [form_eq]; exact h.before.valid.form)
  omega
/-- A grid over a schedule is valid with the further request. -/
theorem AdmitIn.valid {n : GNet} {q : List GReq} {s g : GSched} {x : GReq} (h : AdmitIn n q s x) (hG : Grid n s g x.flow.id) (hc : g.cells.length ≤ 512) : ValidS n (flowsOf (insR q x)) g := by
  have hV := h.before.valid
  refine ⟨hV.net, (reqs_net h.reqs).2.1, ?_, fun f hf => ?_, hc, fun c hm => ?_, hG.rising, hG.calm⟩
  · have := hV.sized
    unfold sized at *
    rw [hG.len, hG.offs]; exact this
  · unfold flowsOf at hf
    obtain ⟨y, hy, rfl⟩ := List.mem_map.1 hf
    rw [hG.len]
    rcases ins_mem.1 hy with rfl | hy
    · exact h.per
    · exact hV.match_ _ (List.mem_map.2 ⟨y, hy, rfl⟩)
  · refine ⟨?_, (findFl_iff _ _).2 ?_⟩
    · have := hG.at_ c hm
      unfold placed at *
      rw [hG.len, hG.offs]; exact this
    · by_cases e : c.flow = x.flow.id
      · exact ⟨x.flow, List.mem_map.2 ⟨x, mem_insR, rfl⟩, e.symm⟩
      · have hs : c ∈ s.cells := by
          rw [← hG.old]
          exact List.mem_filter.2 ⟨hm, by simpa using e⟩
        obtain ⟨f, hf, e2⟩ := (findFl_iff _ _).1 (hV.at_ c hs).2
        unfold flowsOf at hf
        obtain ⟨y, hy, rfl⟩ := List.mem_map.1 hf
        exact ⟨y.flow, List.mem_map.2 ⟨y, ins_mem.2 (.inr hy), rfl⟩, e2⟩
theorem claims_other {n : GNet} (hn : n.ok) {s t : GSched} {xid : Int} (hl : t.length = s.length) (hf : form s = true) (hf' : form t = true) (ho : t.cells.filter (fun c => c.flow != xid) = s.cells) {y : GReq} (hne : y.flow.id ≠ xid) : claimP n t y = claimP n s y :=
  claimGo_congr (fun r => route_congr hn hl (by simp [printE, hf, hf']) (slotC_other hl ho hne)) _ _
theorem admit_law {n : GNet} (hn : n.ok) {q : List GReq} {s : GSched} {x : GReq} (h : (admitP n q s x).2 = 0) : Admitted n q s x (admitP n q s x).1 := by
  unfold admitP at h ⊢
  split at h
  · simp at h
  rename_i h1
  split at h
  · simp at h
  rename_i h2
  split at h
  · simp at h
  rename_i h3
  split at h
  · simp at h
  rename_i h4
  split at h
  · simp at h
  rename_i h5
  split at h
  · simp at h
  rename_i h6
  rw [if_neg h1, if_neg h2, if_neg h3, if_neg h4, if_neg h5, if_neg h6]
  simp only
  have hI := admit_in (n := n) (q := q) (s := s) (x := x) (by simpa using h1) (by simpa using h2) (by simpa using h3) (by simpa using h4)
  have hfl := hI.flow
  have hsz := hI.sizes
  have hV := hI.before.valid
  unfold placeP at h5 h6 ⊢
  cases hp : placeGo n x.flow s.length x.routes s with
  | none => rw [hp] at h5; simp at h5
  | some t =>
    rw [hp] at h6
    simp only at h6 ⊢
    obtain ⟨hG, hE, hW⟩ := place_grid hV.net (f := x.flow) hsz.1 hfl.1 (by omega) (by omega) x.routes s t hI.grid hI.route hp
    have hVt := hI.valid hG (by simp at h6; omega)
    have hsame : ∀ y ∈ q, claimP n t y = claimP n s y := fun y hy => claims_other hn hG.len hV.form hVt.form hG.old (hI.fresh y hy)
    refine ⟨hI.before, ⟨hI.reqs, hVt, fun y hy => ?_⟩, hI.fresh, hG.len, hG.offs, hG.ext, hG.old, hsame⟩
    rcases ins_mem.1 hy with rfl | hy
    · refine claim_some.2 fun r hr => (late_iff hn (route_check hI.reqs hVt.form hVt.match_ mem_insR hr)).2 fun rel hrel => ?_
      rw [hG.len] at hrel
      have hw := hW r hr rel hrel
      obtain ⟨L, hL, hle⟩ := hw.hops (fin := rel + y.flow.period) (by omega) (Int.le_refl _) (fun l hl => (hopsL_loss hV.net (hI.route r hr).2 l hl).1)
      exact ⟨L, hL, by omega⟩
    · rw [hsame y hy]; exact hI.before.claims y hy
theorem admit_none {n : GNet} {q : List GReq} {s : GSched} {x : GReq} (h : (admitP n q s x).2 ≠ 0) : (admitP n q s x).1.cells = [] := by
  unfold admitP at h ⊢
  split
  · rfl
  split
  · rfl
  split
  · rfl
  split
  · rfl
  split
  · rfl
  split
  · rfl
  · rename_i a1 a2 a3 a4 a5 a6
    rw [if_neg a1, if_neg a2, if_neg a3, if_neg a4, if_neg a5, if_neg a6] at h
    exact absurd rfl h
/-- The law's questions, answered. -/
theorem serves_law {n : GNet} (hn : n.ok) {q : List GReq} {s : GSched} {x : GReq} (h : (admitP n q s x).2 = 0) :
    differP s (admitP n q s x).1 = ([], onlyC (admitP n q s x).1 s, 0) ∧ (∀ c ∈ onlyC (admitP n q s x).1 s, c.flow = x.flow.id) ∧ withR q x = insR q x ∧
      makeP n (insR q x) (admitP n q s x).1 = ((insR q x).map (fun y => (claimP n (admitP n q s x).1 y).getD noClaim), -1, 0) ∧ makeP n q s = (q.map (fun y => (claimP n s y).getD noClaim), -1, 0) ∧
      dropP (admitP n q s x).1 x.flow.id = (s, 0) ∧ ∀ c ∈ (makeP n q s).1, c ∈ (makeP n (insR q x) (admitP n q s x).1).1 := by
  have hA := admit_law hn h
  generalize (admitP n q s x).1 = t at *
  have hfs := hA.before.valid.form
  have hft := hA.after.valid.form
  have hm1 := make_eq hA.after
  have hm2 := make_eq hA.before
  refine ⟨?_, fun c hc => ?_, with_ins ?_ hA.fresh, hm1, hm2, ?_, fun c hc => ?_⟩
  · have hless : onlyC s t = [] := by
      unfold onlyC
      refine List.filter_eq_nil_iff.2 fun c hc => ?_
      have : inC t.cells c = true := List.any_eq_true.2 ⟨c, hA.ext.mem hc, by simp⟩
      simp [this]
    unfold differP
    rw [hfs, hft, if_neg (by simp), if_neg (by simp [hA.len, hA.offs]), hless]
  · unfold onlyC at hc
    obtain ⟨h1, h2⟩ := List.mem_filter.1 hc
    by_cases e : c.flow = x.flow.id
    · exact e
    · exfalso
      have hs : c ∈ s.cells := by
        rw [← hA.old]
        exact List.mem_filter.2 ⟨h1, by simpa using e⟩
      have : inC s.cells c = true := List.any_eq_true.2 ⟨c, hs, by simp⟩
      rw [this] at h2; simp at h2
  · have := flows_rise (reqs_net hA.before.reqs).2.1
    unfold flowsOf at this
    exact (List.pairwise_map (f := fun x : GReq => x.flow) (R := fun a b : GFlow => a.id < b.id)).1 this
  · unfold dropP
    rw [printE, hft, if_pos rfl, if_neg (by simp), hA.len, hA.offs]
    have e := hA.old
    simp only [bne] at e
    rw [e]
  · rw [hm2] at hc
    rw [hm1]
    simp only at hc ⊢
    obtain ⟨y, hy, rfl⟩ := List.mem_map.1 hc
    exact List.mem_map.2 ⟨y, ins_mem.2 (.inr hy), by rw [hA.same y hy]⟩
end Go.Proofs.YtbaajjihhdmdpaaGreatDoor

namespace Go.Proofs.YtbaajjihhdmdpaaGreatDoor
open Go.RowKit
set_option linter.unusedSectionVars false
set_option linter.unusedVariables false
set_option linter.unusedSimpArgs false
set_option linter.unnecessarySimpa false
set_option maxRecDepth 100000
set_option maxHeartbeats 4000000
def exN : GNet := ⟨3, [[0, 9, 9], [9, 0, 9], [9, 9, 0]], 1, 1000, [⟨0, 1, 0⟩, ⟨1, 0, 0⟩, ⟨1, 2, 0⟩, ⟨2, 1, 0⟩], [9, 9, 9, 9]⟩
def exQ : List GReq := [⟨⟨5, 0, 1, 3, 0, 3⟩, [[0, 1]]⟩]
def exS : GSched := ⟨3, 1, [⟨0, 0, 0, 1, 5⟩]⟩
def exX : GReq := ⟨⟨6, 1, 2, 3, 0, 3⟩, [[1, 2]]⟩
def exT : GSched := ⟨3, 1, [⟨0, 0, 0, 1, 5⟩, ⟨1, 0, 1, 2, 6⟩]⟩
theorem exN_ok : exN.ok := ⟨by decide, by decide, by decide, by decide⟩
theorem exQ_ok : ∀ x ∈ exQ, x.ok := fun x hx => by
  obtain rfl := List.mem_singleton.1 hx
  exact ⟨by decide, by decide⟩
theorem exX_ok : exX.ok := ⟨by decide, by decide⟩
theorem ex_room : roomP exN exS ⟨1, 2, 0⟩ = ([⟨1, 0, 1, 2, 0⟩, ⟨2, 0, 1, 2, 0⟩], 0) := by decide +kernel
theorem ex_admit : admitP exN exQ exS exX = (exT, 0) := by decide +kernel
theorem ex_drop : dropP exT 5 = (⟨3, 1, [⟨1, 0, 1, 2, 6⟩]⟩, 0) := by decide +kernel
theorem S70 : Sound Tryz.prog 70 [] (.tup [exN.v, reqsV exQ, exS.v]) := by
  refine ex_intro mixedT T [] Tryz.func70 rfl (by rw [Tryz.ntmps70]; simp) (by kernel_rfl) ?_
  conv => whnf
  repeat' first | (refine LenG.map ?_; conv => whnf) | (refine LenG.go ?_; conv => whnf)
  exact RetG.three rfl rfl rfl
theorem S17 : Sound Tryz.prog 17 [] (.bool true) := by
  have h1 := S19 exN exN_ok exS (by decide) ⟨1, 2, 0⟩
  rw [ex_room] at h1
  have h2 := S27 exN exN_ok exQ (by decide) exQ_ok exS (by decide) exX exX_ok
  rw [ex_admit] at h2
  have h3 := S21 exT (by decide) 5
  rw [ex_drop] at h3
  refine ex_intro mixedT T [] Tryz.func17 rfl (by rw [Tryz.ntmps17]; simp) (by kernel_rfl) ?_
  conv => whnf
  repeat' first | (refine LenG.map ?_; conv => whnf) | (refine LenG.go ?_; conv => whnf)
  repeat' first
    | (refine Br.T ?_; conv => whnf)
    | (refine Br.F ?_; conv => whnf)
    | (refine Br.tt (by rfl) ?_; conv => whnf)
    | (refine FnG.go rfl ?_; conv => whnf)
    | (refine LenG.map ?_; conv => whnf)
    | (refine LenG.go ?_; conv => whnf)
    | (refine CallG.go S70 ?_; conv => whnf)
    | (refine CallG.go h1 ?_; conv => whnf)
    | (refine CallG.go h2 ?_; conv => whnf)
    | (refine CallG.go h3 ?_; conv => whnf)
    | (refine Ix.go (by decide) rfl rfl ?_; conv => whnf)
  exact RetG.one rfl
theorem S3 (n : GNet) (hn : n.ok) (s : GSched) (hs : s.cells.length ≤ 100000000) (l : GLink) (flow : Int) : Sound Tryz.prog 3 [n.v, s.v, l.v, i64 flow] (.bool true) := by
  have hsC : Cn s.cells := by show s.cells.length < _; omega
  have h1 := S19 n hn s hsC l
  have h2 := S20 n hn s hsC l
  have h3 := S21 s hs flow
  have h4 := S22 s hsC flow
  rw [room_eq] at h1
  rw [drop_eq] at h3
  have hR : Cn (roomR n s l).1 := by
    show (roomR n s l).1.length < _
    unfold roomR roomRes
    split
    · simp
    split
    · simp
    split
    · simp
    · rename_i h; simp at h; simp only; omega
  have hD : Cn (dropR s flow).1.cells := by
    show (dropR s flow).1.cells.length < _
    unfold dropR
    split
    · simp [zeroS]
    · have := List.length_filter_le (fun c : GCell => c.flow != flow) s.cells
      simp only; omega
  generalize roomR n s l = R at h1 h2 hR
  generalize dropR s flow = D at h3 h4 hD
  have h5 : Sound Tryz.prog 23 [cellsV R.1, cellsV R.1] (.bool true) := by simpa using S23 R.1 R.1 hR
  have h6 : Sound Tryz.prog 24 [D.1.v, D.1.v] (.bool true) := by simpa using S24 D.1 D.1 hD
  refine ex_intro mixedT T [] Tryz.func3 rfl (by rw [Tryz.ntmps3]; simp) (by kernel_rfl) ?_
  conv => whnf
  repeat' first | (refine LenG.map ?_; conv => whnf) | (refine LenG.go ?_; conv => whnf)
  repeat' first
    | (refine Br.T ?_; conv => whnf)
    | (refine Br.F ?_; conv => whnf)
    | (refine Br.tt (by simp only [beq_self_eq_true]) ?_; conv => whnf)
    | (refine Br.mk (fun hq => ?_) (fun hq => ?_) <;> conv => whnf)
    | (refine FnG.go rfl ?_; conv => whnf)
    | (refine LenG.map ?_; conv => whnf)
    | (refine LenG.go ?_; conv => whnf)
    | (refine CallG.go S17 ?_; conv => whnf)
    | (refine CallG.go (S18 n hn) ?_; conv => whnf)
    | (refine CallG.go h1 ?_; conv => whnf)
    | (refine CallG.go h2 ?_; conv => whnf)
    | (refine CallG.go h3 ?_; conv => whnf)
    | (refine CallG.go h4 ?_; conv => whnf)
    | (refine CallG.go h5 ?_; conv => whnf)
    | (refine CallG.go h6 ?_; conv => whnf)
  all_goals first
    | exact RetG.one rfl
    | exact RetG.one (by simp [ret1])
theorem few38_le {n : GNet} {q : List GReq} {s : GSched} (h : few38 n q s = true) : q.length ≤ 4 ∧ s.cells.length ≤ 30 := by
  unfold few38 at h
  split at h
  · simp at h
  · simp at h; omega
/-! ### a certificate's sizes -/
theorem boundF_len {s : GSched} {f : GFlow} {ls : List GLink} : ∀ (rs : List Int) (b b' : Int × Int × List Int), boundF s f ls rs b = some b' → b.2.2.length ≤ needL ls → b'.2.2.length ≤ needL ls
  | [], b, b', h, hb => by simp [boundF] at h; subst h; exact hb
  | rel :: rs, b, b', h, hb => by
    rw [boundF] at h
    cases hh : hops s f.id (rel + f.period) ls rel with
    | none => rw [hh] at h; cases h
    | some L =>
      rw [hh] at h
      refine boundF_len rs _ _ h ?_
      split
      · simp only [List.length_map]; exact Nat.le_of_eq (hops_len _ _ _ hh)
      · exact hb
theorem needL_le : ∀ (ls : List GLink), (∀ l ∈ ls, 0 ≤ l.loss ∧ l.loss ≤ 7) → needL ls ≤ 8 * ls.length
  | [], _ => by simp [needL]
  | l :: ls, h => by
    have h1 := h l (by simp)
    have h2 := needL_le ls fun x hx => h x (by simp [hx])
    simp only [needL, List.map_cons, List.sum_cons, List.length_cons] at h2 ⊢
    omega
theorem routeB_len {n : GNet} (hn : n.ok) (s : GSched) (f : GFlow) (r : List Int) : (routeB ⟨n, s, f, r, 0⟩).2.2.1.length ≤ 100 := by
  unfold routeB
  split
  · simp
  rename_i hc
  obtain ⟨hw, hz⟩ := way_ok (w := ⟨n, s, f, r, 0⟩) hn (by simp) (by simpa using hc)
  split
  · simp
  rw [bound_eq hw hz rfl]
  cases hF : boundF s f (hopsL n r) (rels f s.length) (0, 0, []) with
  | none => simp [hF]
  | some b =>
    simp only [hF]
    have h1 := boundF_len _ _ _ hF (by simp)
    have e := (linksW_eq hw rfl).1
    have h2 := needL_le (hopsL n r) (fun l hl => (linksW_eq hw rfl).2 l (by rw [e]; exact hl))
    have h3 : (hopsL n r).length = r.length - 1 := by simp [hopsL]
    have h4 : r.length ≤ 9 := hw.len
    omega
theorem claimGo_ok {n : GNet} (hn : n.ok) {s : GSched} {f : GFlow} : ∀ (rs : List (List Int)) (c c' : GClaim), claimGo n s f rs c = some c' → (∀ r ∈ rs, Cn r) → (∀ r ∈ c.routes, Cn r) → (∀ r ∈ c.slots, Cn r) →
    c'.routes.length ≤ c.routes.length + rs.length ∧ c'.bounds.length ≤ c.bounds.length + rs.length ∧ c'.worst.length ≤ c.worst.length + rs.length ∧ c'.slots.length ≤ c.slots.length + rs.length ∧ (∀ r ∈ c'.routes, Cn r) ∧ (∀ r ∈ c'.slots, Cn r)
  | [], c, c', h, _, h1, h2 => by simp [claimGo] at h; subst h; exact ⟨by simp, by simp, by simp, by simp, h1, h2⟩
  | r :: rs, c, c', h, hr, h1, h2 => by
    rw [claimGo] at h
    split at h
    · cases h
    have := claimGo_ok hn rs _ _ h (fun x hx => hr x (by simp [hx])) (fun x hx => by
      rcases List.mem_append.1 hx with hx | hx
      · exact h1 x hx
      · rw [List.mem_singleton.1 hx]; exact hr r (by simp)) (fun x hx => by
      rcases List.mem_append.1 hx with hx | hx
      · exact h2 x hx
      · rw [List.mem_singleton.1 hx]
        have := routeB_len hn s f r
        show List.length _ < _
        omega)
    unfold addR at this
    simp only [List.length_append, List.length_cons, List.length_nil] at this ⊢
    exact ⟨by omega, by omega, by omega, by omega, this.2.2.2.2⟩
theorem claim_ok {n : GNet} (hn : n.ok) {s : GSched} {x : GReq} (hx : x.ok) (hl : x.routes.length ≤ 1000000) : ((claimP n s x).getD noClaim).ok := by
  cases h : claimP n s x with
  | none => exact ⟨by decide, by simp [noClaim], by decide, by decide, by decide, by simp [noClaim]⟩
  | some c =>
    have := claimGo_ok hn _ _ _ h hx.rows (by simp) (by simp)
    simp only [List.length_nil] at this
    simp only [Option.getD_some]
    exact ⟨by show c.routes.length < _; omega, this.2.2.2.2.1, by show c.bounds.length < _; omega, by show c.worst.length < _; omega, by show c.slots.length < _; omega, this.2.2.2.2.2⟩
theorem S33 (x : GReq) (c : GCell) : Sound Tryz.prog 33 [c.v, .rp x.c] (.bool (c.flow != x.flow.id)) := by
  refine ex_intro mixedT T [] Tryz.func33 rfl (by rw [Tryz.ntmps33]; simp) (by kernel_rfl) ?_
  conv => whnf
  repeat' first | (refine LenG.map ?_; conv => whnf) | (refine LenG.go ?_; conv => whnf)
  repeat' first
    | (refine Br.T ?_; conv => whnf)
    | (refine Br.F ?_; conv => whnf)
    | (refine Br.mk (fun hq => ?_) (fun hq => ?_) <;> conv => whnf)
    | (refine FnG.go rfl ?_; conv => whnf)
    | (refine LenG.map ?_; conv => whnf)
    | (refine LenG.go ?_; conv => whnf)
  exact RetG.one rfl
theorem S35 (y z : GClaim) (hy : y.ok) (hz : z.ok) : Sound Tryz.prog 35 [z.v, .rp y.c] (.bool (decide (y = z))) := by
  refine ex_intro mixedT T [] Tryz.func35 rfl (by rw [Tryz.ntmps35]; simp) (by kernel_rfl) ?_
  conv => whnf
  repeat' first | (refine LenG.map ?_; conv => whnf) | (refine LenG.go ?_; conv => whnf)
  repeat' first
    | (refine Br.T ?_; conv => whnf)
    | (refine Br.F ?_; conv => whnf)
    | (refine Br.mk (fun hq => ?_) (fun hq => ?_) <;> conv => whnf)
    | (refine FnG.go rfl ?_; conv => whnf)
    | (refine LenG.map ?_; conv => whnf)
    | (refine LenG.go ?_; conv => whnf)
    | (refine CallG.go (S36 y z hy hz) ?_; conv => whnf)
  exact RetG.one rfl
theorem S5 (n : GNet) (hn : n.ok) (q : List GReq) (hq : q.length ≤ 10000000) (ho : ∀ x ∈ q, x.ok) (s : GSched) (hs : s.cells.length ≤ 100000000) (x : GReq) (hx : x.ok) : Sound Tryz.prog 5 [n.v, reqsV q, s.v, x.v] (.bool true) := by
  have hsC : Cn s.cells := by show s.cells.length < _; omega
  have hqx : ∀ y ∈ q ++ [x], y.ok := fun y hy => (List.mem_append.1 hy).elim (ho y) fun h => (List.mem_singleton.1 h) ▸ hx
  obtain ⟨F, hF⟩ : ∃ F, few38 n (q ++ [x]) s = F := ⟨_, rfl⟩
  have c25 := S25 n hn (q ++ [x]) (by show (q ++ [x]).length < _; simp; omega) hqx s hsC
  rw [hF] at c25
  obtain ⟨A, hA⟩ : ∃ A, admitP n q s x = A := ⟨_, rfl⟩
  obtain ⟨D, hD⟩ : ∃ D, onlyC A.1 s = D := ⟨_, rfl⟩
  obtain ⟨C, hC⟩ : ∃ C, makeP n (insR q x) A.1 = C := ⟨_, rfl⟩
  obtain ⟨B, hB⟩ : ∃ B, makeP n q s = B := ⟨_, rfl⟩
  have small : F = true → q.length ≤ 4 ∧ s.cells.length ≤ 30 := fun h => by
    have := few38_le (n := n) (q := q ++ [x]) (s := s) (by rw [hF, h])
    simp at this; omega
  have c27 : F = true → Sound Tryz.prog 27 [n.v, reqsV q, s.v, x.v] (.tup [A.1.v, i64 A.2]) := fun h => by
    rw [← hA]; have := small h; exact S27 n hn q (by omega) ho s (by omega) x hx
  have none : A.2 ≠ 0 → A.1.cells = [] := fun h => by rw [← hA]; exact admit_none (by rw [hA]; exact h)
  have hol : ∀ y ∈ q, F = true → A.2 = 0 → ((claimP n s y).getD noClaim).ok ∧ ((claimP n A.1 y).getD noClaim).ok := fun y hy _ h0 => by
    have hc := admit_law hn (n := n) (q := q) (s := s) (x := x) (by rw [hA]; exact h0)
    have hr := (routesP_ok ((reqs_net hc.before.reqs).2.2 y hy)).2.1
    exact ⟨claim_ok hn (ho y hy) (by omega), claim_ok hn (ho y hy) (by omega)⟩
  have law : F = true → A.2 = 0 → differP s A.1 = ([], D, 0) ∧ (∀ c ∈ D, (c.flow != x.flow.id) = false) ∧ withR q x = insR q x ∧ C.2 = (-1, 0) ∧ B.2 = (-1, 0) ∧ dropP A.1 x.flow.id = (s, 0) ∧ (∀ c ∈ B.1, C.1.any fun z => decide (c = z)) ∧ C.1.length = B.1.length + 1 ∧ B.1.length ≤ 4 ∧ A.1.cells.length ≤ 512 ∧ (∀ y ∈ B.1, y.ok) ∧ (∀ y ∈ C.1, y.ok) := by
    intro hf h0
    have h0' : (admitP n q s x).2 = 0 := by rw [hA]; exact h0
    have hc := admit_law hn h0'
    obtain ⟨e1, e2, e3, e4, e5, e6, e7⟩ := serves_law hn h0'
    have hql := small hf
    rw [hA] at e1 e2 e4 e6 e7 hc
    rw [hD] at e1 e2
    rw [hC] at e4 e7
    rw [hB] at e5 e7
    refine ⟨e1, fun c h => by simp [e2 c h], e3, by rw [e4], by rw [e5], e6, fun c h => List.any_eq_true.2 ⟨c, e7 c h, by simp⟩, ?_, ?_, hc.after.valid.many, fun y hy => ?_, fun y hy => ?_⟩
    · rw [e4, e5]; simp [ins_len]
    · rw [e5]; simp; omega
    · rw [e5] at hy
      obtain ⟨z, hz, rfl⟩ := List.mem_map.1 hy
      exact (hol z hz hf h0).1
    · rw [e4] at hy
      obtain ⟨z, hz, rfl⟩ := List.mem_map.1 hy
      rcases ins_mem.1 hz with rfl | hz
      · exact claim_ok hn hx (by have := (routesP_ok ((reqs_net hc.after.reqs).2.2 z mem_insR)).2.1; omega)
      · exact (hol z hz hf h0).2
  have c29 : F = true → A.2 = 0 → Sound Tryz.prog 29 [s.v, A.1.v] (.tup [cellsV [], cellsV D, i64 0]) := fun hf h0 => by
    have L := law hf h0
    have := S29 s A.1 (by have := small hf; omega) (by omega)
    rw [L.1] at this; exact this
  have c31 : F = true → A.2 = 0 → Sound Tryz.prog 31 [reqsV q, x.v] (reqsV (insR q x)) := fun hf h0 => by
    rw [← (law hf h0).2.2.1]; exact S31 q (by have := small hf; omega) x
  have c30 : F = true → A.2 = 0 → Sound Tryz.prog 30 [n.v, reqsV (insR q x), A.1.v] (.tup [claimsV C.1, i64 (-1), i64 0]) := fun hf h0 => by
    have L := law hf h0
    have := S30 n hn (insR q x) (by rw [ins_len]; have := small hf; omega) (fun y hy => (insR_mem hy).elim (fun e => e ▸ hx) (ho y)) A.1 (by omega)
    rw [hC, L.2.2.2.1] at this; exact this
  have c30b : F = true → A.2 = 0 → Sound Tryz.prog 30 [n.v, reqsV q, s.v] (.tup [claimsV B.1, i64 (-1), i64 0]) := fun hf h0 => by
    have L := law hf h0
    have := S30 n hn q (by have := small hf; omega) ho s (by have := small hf; omega)
    rw [hB, L.2.2.2.2.1] at this; exact this
  have c21 : F = true → A.2 = 0 → Sound Tryz.prog 21 [A.1.v, i64 x.flow.id] (.tup [s.v, i64 0]) := fun hf h0 => by
    have L := law hf h0
    have := S21 A.1 (by omega) x.flow.id
    rw [L.2.2.2.2.2.1] at this; exact this
  have hDl : F = true → A.2 = 0 → D.length ≤ 100000000 := fun hf h0 => by
    rw [← hD]
    exact Nat.le_trans (List.length_filter_le _ _) (by have := (law hf h0).2.2.2.2.2.2.2.2.2.1; omega)
  have c32 : F = true → A.2 = 0 → Sound Tryz.prog 32 [cellsV D, .fn 33 [.rp x.c]] (.bool false) := fun hf h0 => by
    have := S32_1 (g := 33) rfl x.c D (fun c => c.flow != x.flow.id) (fun c _ => S33 x c) (by have := hDl hf h0; omega)
    rwa [show (D.any fun c => c.flow != x.flow.id) = false from by rw [List.any_eq_false]; intro c hc; rw [(law hf h0).2.1 c hc]; simp] at this
  have c24 : Sound Tryz.prog 24 [s.v, s.v] (.bool true) := by simpa using S24 s s hsC
  clear hF hA hD hC hB hDl
  refine ex_intro mixedT T [] Tryz.func5 rfl (by rw [Tryz.ntmps5]; simp) (by kernel_rfl) ?_
  conv => whnf
  repeat' first | (refine LenG.map ?_; conv => whnf) | (refine LenG.go ?_; conv => whnf)
  refine FnG.go rfl ?_; conv => whnf
  refine CallG.go S17 ?_; conv => whnf
  repeat' first | (refine Br.T ?_; conv => whnf) | (refine Br.F ?_; conv => whnf)
  refine FnG.go rfl ?_; conv => whnf
  refine CallG.go (S26o q (by omega)) ?_; conv => whnf
  refine ⟨appOk (by decide) (by omega) ⟨rfl, rfl⟩, ?_⟩; conv => whnf
  refine ⟨by simp, ?_⟩; conv => whnf
  refine FnG.go rfl ?_; conv => whnf
  rw [show reqsV (q ++ [x]) = .sl .no (q.map GReq.c ++ [x.c]) by simp [reqsV]] at c25
  refine CallG.go c25 ?_; conv => whnf
  cases F with
  | false =>
    refine Br.tt rfl ?_; conv => whnf
    exact RetG.one rfl
  | true =>
    refine Br.ff rfl ?_; conv => whnf
    refine FnG.go rfl ?_; conv => whnf
    refine CallG.go (c27 rfl) ?_; conv => whnf
    refine Br.mk (fun g => ?_) (fun g => ?_) <;> conv => whnf
    · refine LenG.map ?_; conv => whnf
      exact RetG.one (by simp [ret1, none (by simpa using g)])
    have h0 : A.2 = 0 := by simpa using g
    have L := law rfl h0
    have l1 := L.2.2.2.2.2.2.1
    have l2 := L.2.2.2.2.2.2.2.1
    have l3 := L.2.2.2.2.2.2.2.2.1
    have l4 := L.2.2.2.2.2.2.2.2.2.2.1
    have l5 := L.2.2.2.2.2.2.2.2.2.2.2
    clear L law
    refine FnG.go rfl ?_; conv => whnf
    refine CallG.go (c29 rfl h0) ?_; conv => whnf
    refine FnG.go rfl ?_; conv => whnf
    refine CallG.go (c31 rfl h0) ?_; conv => whnf
    refine FnG.go rfl ?_; conv => whnf
    refine CallG.go (c30 rfl h0) ?_; conv => whnf
    refine FnG.go rfl ?_; conv => whnf
    refine CallG.go (c30b rfl h0) ?_; conv => whnf
    refine FnG.go rfl ?_; conv => whnf
    refine CallG.go (c21 rfl h0) ?_; conv => whnf
    repeat' first
      | (refine Br.T ?_; conv => whnf)
      | (refine Br.F ?_; conv => whnf)
      | (refine Br.ff (by rfl) ?_; conv => whnf)
      | (refine LenG.map ?_; conv => whnf)
      | (refine FnG.go rfl ?_; conv => whnf)
      | (refine CallG.go (c32 rfl h0) ?_; conv => whnf)
      | (refine CallG.go c24 ?_; conv => whnf)
    refine Lp.go T [] (fun i : Nat => [(14, claimsV C.1), (17, claimsV B.1), (112, claimsV B.1), (113, i64 B.1.length), (114, i64 i)]) (fun _ => []) (fun m i => m + i = B.1.length) B.1.length 0 (by simp) [] ?_ ?_
    · (conv => whnf); refine ⟨rfl, ?_, ?_⟩ <;> (conv => whnf) <;> (repeat' apply And.intro) <;> first | exact True.intro | rfl | (conv => rhs; whnf)
    rintro m i hm
    conv => whnf
    refine Br.mk (fun hq => ?_) (fun hq => ?_) <;> conv => whnf
    · have hlt : i < B.1.length := by simpa using hq
      refine Ix.at (l := B.1) hlt rfl ?_; conv => whnf
      refine FnG.go rfl ?_; conv => whnf
      refine CallG.go (S34_1 (g := 35) rfl (gd B.1 i).c C.1 (fun z => decide (gd B.1 i = z)) (fun z hz => S35 (gd B.1 i) z (l4 _ (gd_mem hlt)) (l5 z hz)) (by omega)) ?_; conv => whnf
      rw [l1 _ (gd_mem hlt)]
      refine Br.ff rfl ?_; conv => whnf
      refine ⟨m - 1, i + 1, by omega, by omega, ?_⟩
      (conv => whnf); refine ⟨rfl, ?_, ?_⟩ <;> (conv => whnf) <;> (repeat' apply And.intro) <;> first | exact True.intro | rfl | (conv => rhs; whnf)
      exact incr (by omega)
    · repeat' first | (refine LenG.map ?_; conv => whnf)
      refine RetG.one ?_
      rw [l2, w64 (by omega)]
      simp [ret1]
end Go.Proofs.YtbaajjihhdmdpaaGreatDoor

namespace Go.Proofs.YtbaajjihhdmdpaaGreatDoor.admitServes
open Go.RowKit Go.ChangeShapes Go.WideShapes Go.Deep
set_option linter.unusedVariables false
set_option linter.unusedSimpArgs false
set_option linter.unnecessarySimpa false
set_option maxRecDepth 100000
set_option maxHeartbeats 4000000
abbrev lay : List (String × DataW Unit) := [("math/bits.deBruijn32tab", Rows.laid_math_bits_deBruijn32tab), ("math/bits.deBruijn64tab", Rows.laid_math_bits_deBruijn64tab), ("internal/strconv.uint64pow10", Rows.laid_internal_strconv_uint64pow10)]
abbrev wit : Array Value := #[.agg #[.int .i64 0, .slice none 0 0, .int .i64 0, .int .i64 0, .slice none 0 0, .slice none 0 0], .slice none 0 0, .agg #[.int .i64 0, .int .i64 0, .slice none 0 0], .agg #[.int .i64 0, .int .i64 0, .int .i64 0, .int .i64 0, .int .i64 0, .int .i64 0, .slice none 0 0]]
theorem laid_met (os : Os) : laidMetH Tryz.prog lay ((World.doorLaid Tryz.prog 24 os).forCall (fun _ _ => 0) ⟨#[], wit, []⟩).memory := by
  rw [MakeChecks.laidMetH_plain _ _ _ (by kernel_rfl)]
  exact laidMet_of_run' 8 (by kernel_rfl) (by kernel_rfl)
def readings {H : Type} : List (DataW H) := [.agg [.lit (.int .i64 0), .nil, .lit (.int .i64 0), .lit (.int .i64 0), .nil, .nil], .nil, .agg [.lit (.int .i64 0), .lit (.int .i64 0), .nil], .agg [.agg [.lit (.int .i64 0), .lit (.int .i64 0), .lit (.int .i64 0), .lit (.int .i64 0), .lit (.int .i64 0), .lit (.int .i64 0)], .nil]]
theorem reads (os : Os) {H : Type} (enc : TypeId × Value → H) : DataW.whole enc Tryz.prog ((World.doorLaid Tryz.prog 24 os).forCall (fun _ _ => 0) ⟨#[], wit, []⟩).memory Tryz.f5.params.toList Rows.admitServesSpec.vars false wit.toList 8 = some (readings, [], []) := by kernel_rfl
theorem contract (H : Type) (enc : TypeId × Value → H) (W : World) (base : Nat) (args : Array Value) (ds gs : List (DataW H)) (before : List MemPlace)
    (hval : ∀ (j : Nat) t v, Tryz.f5.params[j]? = some t → args[j]? = some v → Value.okWide Tryz.prog W .any base t v)
    (hW : DataW.Whole enc Tryz.prog Tryz.f5.params.toList Rows.admitServesSpec.vars false W args.toList ds gs before) (hL : laidMetH Tryz.prog lay W) (hk : Rows.uptoSmall H (ds ++ gs) = true) :
    Calls Tryz.prog 5 args W fun e W' => ∃ v, e = .returned v ∧ Rows.admitServesSpec.post enc Tryz.prog Tryz.f5 false true false false W args v W' := by
  have hW' := hW
  obtain ⟨p, q, hA0, hV, rfl, hfz, hnd⟩ := hW
  have hA : DataW.TrodAll enc Tryz.prog W 0 (fun _ => true) true Tryz.f5.params.toList args.toList ds p := hA0
  rw [Tryz.params5] at hA hval
  obtain ⟨v0, vs0, d0, ds0, p0, q0, hargs, rfl, rfl, h0, r0⟩ := trodAll_cons hA
  obtain ⟨v1, vs1, d1, ds1, p1, q1, rfl, rfl, rfl, h1, r1⟩ := trodAll_cons r0
  obtain ⟨v2, vs2, d2, ds2, p2, q2, rfl, rfl, rfl, h2, r2⟩ := trodAll_cons r1
  obtain ⟨v3, vs3, d3, ds3, p3, q3, rfl, rfl, rfl, h3, r3⟩ := trodAll_cons r2
  obtain ⟨rfl, rfl, rfl⟩ := trodAll_nil r3
  obtain rfl : args = #[v0, v1, v2, v3] := by cases args; simp_all
  obtain ⟨rfl, rfl⟩ := trodVars_none hV
  rw [List.append_nil] at hk
  obtain ⟨n0, k0, b0⟩ := argS Tryz.underlying26 rdNet (hval 0 26 v0 rfl rfl) h0 1048576 (bulk_part hk (by simp))
  obtain ⟨q1, k1, b1, c1⟩ := argL Tryz.underlying42 rdReqs (hval 1 42 v1 rfl rfl) h1 1048576 (bulk_part hk (by simp))
  have o1 : ∀ x ∈ q1, x.ok := fun x hx => req_ok (c1 x hx)
  obtain ⟨s2, k2, b2⟩ := argS Tryz.underlying29 rdSched (hval 2 29 v2 rfl rfl) h2 1048576 (bulk_part hk (by simp))
  obtain ⟨y3, k3, b3⟩ := argS Tryz.underlying47 rdReq (hval 3 47 v3 rfl rfl) h3 1048576 (bulk_part hk (by simp))
  have hc := S5 n0 (net_ok b0) q1 (Nat.le_trans b1 (by decide)) o1 s2 (Nat.le_trans b2 (by decide)) y3 (req_ok b3)
  refine law_calls (vs := [v0, v1, v2, v3]) hc (tab_of hL) rfl (rep_cons k0 (rep_cons k1 (rep_cons k2 (rep_cons k3 rep_nil)))) fun W' hb => ?_
  refine post_law hW' rfl (by kernel_rfl) rfl (fun t ht => ?_) hb
  rw [Tryz.params5] at ht
  have hall : ([26, 42, 29, 47].all fun t => Tryz.prog.readableRec t && decide (t < Tryz.prog.types.size)) = true := by kernel_rfl
  simpa using List.all_eq_true.1 hall t ht
theorem lifted (os : Os) (started : os.Started) (H : Type) (enc : TypeId × Value → H) (F : Stop.Interp) :
    ReturnsInHanded {} Tryz.checked os 5 .any ((Rows.OpenSpec.upto Rows.admitServesSpec).preRow enc Tryz.prog Tryz.f5 Rows.admitServesUptoRow.domain false Rows.admitServesUptoRow.laid) (((Rows.OpenSpec.upto Rows.admitServesSpec).at F).post enc Tryz.prog Tryz.f5 false true false false) := by
  refine returnsInHanded_of_row (C := Tryz.checked) (s := (Rows.OpenSpec.upto Rows.admitServesSpec)) ownKnob0 started (by kernel_rfl) Tryz.func5
    (witness_row_at (enc := enc) (C := Tryz.checked) false (World.doorLaid Tryz.prog 24 os) wit rfl (by kernel_rfl) (by kernel_rfl) (by kernel_rfl)
      (OpenSpec.preRow_of_cond 8 (reads os enc) (by kernel_rfl) (fun k hk => by cases hk; kernel_rfl) (by kernel_rfl) (laid_met os))) ?_
  intro W base args ds gs before hval hW _ hcond _ hL _ _
  exact contract H enc W base args ds gs before hval hW hL (hcond _ rfl)
theorem joined : joinedFacts Tryz.prog 5 Tryz.f5 (Rows.OpenSpec.upto Rows.admitServesSpec).bare Rows.admitServesUptoRow = true := by
  unfold joinedFacts
  simp only [Bool.and_eq_true]
  repeat' apply And.intro
  all_goals as_aux_lemma => kernel_rfl
theorem named : Tryz.prog.funcNamed "hopmesh/hopmeshlaw41.AdmitServes" = some 5 := by kernel_rfl
theorem inst : Func.isInstance Tryz.prog Tryz.f5 Rows.admitServesUptoRow.origin Rows.admitServesUptoRow.targs := of_decide_eq_true (by kernel_rfl)
theorem wrap : Func.isWrapper Tryz.prog Tryz.f5 Rows.admitServesUptoRow.wrapper Rows.admitServesUptoRow.mainSum := by unfold Func.isWrapper; first | (rw [if_pos (by decide +kernel)]; kernel_rfl) | (rw [if_neg (by decide +kernel)]; exact ⟨rfl, rfl⟩)
theorem saidUpto : Rows.AdmitServesUptoSaid :=
  OpenClaim.holds_of_cond 5 Tryz.f5 rfl rfl rfl rfl rfl rfl rfl ⟨rfl, rfl, rfl, rfl, rfl⟩ rfl rfl rfl rfl rfl named Tryz.func5 joined inst wrap
    (fun os started H enc _ F => by rw [OpenClaim.pre_eq_preRow]; exact lifted os started H enc F)
theorem looks0 : false = Tryz.pinned.checked.prog.looks [] := by kernel_rfl
theorem plain (f : FuncId) (fn : Func) (hf : Tryz.pinned.checked.prog.funcNamed "hopmesh/hopmeshlaw41.AdmitServes" = some f) (hfn : Tryz.pinned.checked.prog.funcs[f]? = some fn) :
    false = Tryz.pinned.checked.prog.looks [] ∧ ∀ (j : Nat) t, fn.params[j]? = some t → Tryz.pinned.checked.prog.wantsStandIn t = false := by
  obtain rfl : f = 5 := Option.some.inj (named.symm.trans hf) |>.symm
  obtain rfl : fn = Tryz.f5 := (Option.some.inj (Tryz.func5.symm.trans hfn)).symm
  refine ⟨looks0, fun j t ht => ?_⟩
  rw [Tryz.params5] at ht
  have hm : t ∈ [26, 42, 29, 47] := by simpa using Array.mem_of_getElem? ht
  have hall : ([26, 42, 29, 47].all fun u => !Tryz.prog.wantsStandIn u) = true := by kernel_rfl
  exact (show Tryz.prog.wantsStandIn t = false by simpa using List.all_eq_true.1 hall t hm)
theorem wf : OpenClaim.wfByText (Rows.OpenSpec.upto Rows.admitServesSpec) Rows.admitServesUptoRow = true := by kernel_rfl
theorem goes : false = Rows.admitServesUptoRow.goesBy Tryz.pinned.checked.prog := by kernel_rfl
theorem main0 : Tryz.pinned.checked.prog.mainIs = some (Rows.admitServesUptoCard.stood.harness.1, Rows.admitServesUptoCard.stood.harness.2.toList) := by kernel_rfl
theorem cardUpto : Rows.AdmitServesUptoCardSaid :=
  Claim7.holds_tied_plain_at .later [] _ _ _ _ saidUpto (fun _ h => by cases h) wf (fun _ h => by cases h) admitServesUpto_row_tie rfl ⟨rfl, rfl⟩ main0 rfl plain goes
end Go.Proofs.YtbaajjihhdmdpaaGreatDoor.admitServes
namespace Go.Proofs.YtbaajjihhdmdpaaGreatDoor
theorem admitServes_holds : Rows.AdmitServesUptoCardSaid := admitServes.cardUpto
#print axioms admitServes_holds
end Go.Proofs.YtbaajjihhdmdpaaGreatDoor
