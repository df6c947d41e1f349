/- AdmitFills: for every input of bulk at most 1048576 (the row's own condition) the law returns true and its arguments read as they did. -/
import Derived.Test.YtbaajjihhdmdpaaGreatDoorRa06

namespace Go.Proofs.YtbaajjihhdmdpaaGreatDoor
open Go.RowKit
set_option linter.unusedSectionVars false
set_option linter.unusedVariables false
set_option linter.unusedSimpArgs false
set_option linter.unnecessarySimpa false
set_option maxRecDepth 100000
set_option maxHeartbeats 4000000

theorem firstE_ge {f : Nat → Int} : ∀ (m i : Nat), (firstE f m i).2 ≠ 0 → 0 ≤ (firstE f m i).1
  | 0, i, h => absurd rfl h
  | m + 1, i, h => by
    rw [firstE] at h ⊢
    split
    · simp
    · rename_i h1; rw [if_neg h1] at h; exact firstE_ge m (i + 1) h
theorem flows_all {nodes : Int} {l : List GFlow} (h : ((flowsP nodes l).2 != 0) = false) : ∀ f ∈ l, flowErr nodes f = 0 := by
  unfold flowsP at h
  split at h
  · simp at h
  split at h
  · simp at h
  intro f hf
  obtain ⟨i, hi, rfl⟩ := List.getElem_of_mem hf
  have hz := firstE_ok _ _ (by simpa using h) i (by omega) (by omega)
  have e : gd l i = l[i] := by simp [gd, List.getD, hi]
  unfold flowAt at hz
  rw [e] at hz
  split at hz
  · exact hz
  · rename_i h1; simpa using h1
theorem flowErr_ok {nodes : Int} {f : GFlow} (h : flowErr nodes f = 0) : (1 ≤ f.period ∧ f.period ≤ 512) ∧ (0 ≤ f.phase ∧ f.phase < f.period) ∧ (1 ≤ f.deadline ∧ f.deadline ≤ f.period) ∧ 0 ≤ f.id ∧ f.id ≤ 255 := by
  unfold flowErr at h
  split at h
  · cases h
  split at h
  · cases h
  rename_i h2 h3
  simp only [Bool.or_eq_true, decide_eq_true_eq, not_or] at h2 h3
  omega
theorem faulty_ok {n : GNet} {q : List GReq} (hv : netErr n = 0) (h : faultyQ n q = false) : ((reqsP n q).2 != 0) = false := by
  cases hr : ((reqsP n q).2 != 0) with
  | false => rfl
  | true =>
    exfalso
    unfold faultyQ makeP at h
    rw [if_pos hr] at h
    simp only [Bool.or_eq_false_iff, decide_eq_false_iff_not] at h
    obtain ⟨h1, h2⟩ := h
    have h1 : (reqsP n q).2 = 1 := by simpa using h1
    unfold reqsP at h1 h2 hr
    rw [if_neg (by simp [hv])] at h1 h2 hr
    split at h1
    · rename_i h3
      rw [if_pos h3] at h2
      unfold flowsP at h1 h2
      split at h1
      · cases h1
      split at h1
      · cases h1
      rename_i h4 h5
      rw [if_neg h4, if_neg h5] at h2
      have := firstE_ge _ _ (by rw [h1]; decide : (firstE (flowAt n.nodes (flowsOf q)) (flowsOf q).length 0).2 ≠ 0)
      omega
    · rename_i h3
      rw [if_neg h3] at h2
      have := firstE_ge _ _ (by rw [h1]; decide : (firstE (reqAt n q) q.length 0).2 ≠ 0)
      omega
theorem sched_ok {n : GNet} {l : List GFlow} {s : GSched} (h : ((schedP n l s).2 != 0) = false) : sized s = true ∧ s.cells.length ≤ 512 := by
  unfold schedP at h
  split at h
  · simp at h
  split at h
  · simp at h
  split at h
  · simp at h
  split at h
  · simp at h
  split at h
  · simp at h
  rename_i h1 h2 h3 h4 h5
  refine ⟨by simpa using h3, by simp at h5; omega⟩
theorem serves_ok {n : GNet} {q : List GReq} {s : GSched} (h : servesP n q s = true) : ((reqsP n q).2 != 0) = false ∧ ((schedP n (flowsOf q) s).2 != 0) = false := by
  unfold servesP makeP at h
  split at h
  · rename_i h1
    simp only [beq_iff_eq] at h; rw [h] at h1; simp at h1
  rename_i h1
  split at h
  · simp at h
  rename_i h2
  exact ⟨Bool.eq_false_iff.2 h1, Bool.eq_false_iff.2 h2⟩
theorem mem_insR {q : List GReq} {x : GReq} : x ∈ insR q x := by simp [insR]
theorem insR_mem {q : List GReq} {x y : GReq} (h : y ∈ insR q x) : y = x ∨ y ∈ q := by
  rcases List.mem_append.1 h with h | h
  · exact .inr (List.mem_of_mem_take h)
  · rcases List.mem_cons.1 h with h | h
    · exact .inl h
    · exact .inr (List.mem_of_mem_drop h)
theorem place_ok {n : GNet} (hn : n.ok) {q : List GReq} {s : GSched} {x : GReq} (h1 : servesP n q s = true) (h2 : faultyQ n (insR q x) = false) : PlaceOk n s x := by
  obtain ⟨hr, hs⟩ := serves_ok h1
  obtain ⟨hv, _, _⟩ := reqsP_ok hr
  obtain ⟨_, hf, ho⟩ := reqsP_ok (faulty_ok hv h2)
  obtain ⟨hz, hc⟩ := sched_ok hs
  have hfx := flowErr_ok (flows_all hf x.flow (List.mem_map.2 ⟨x, mem_insR, rfl⟩))
  obtain ⟨r1, r2, r3⟩ := routesP_ok (ho x mem_insR)
  unfold sized at hz
  simp only [Bool.and_eq_true, decide_eq_true_eq] at hz
  refine ⟨hn, hv, by omega, by omega, by omega, hfx.1, by omega, by omega, r2, fun r hrr => ?_, fun r hrr i hi => ?_⟩
  · exact (faultP_ok (endsP_zero (r3 r hrr)).2).2.1
  · exact (goodLk_find (by rw [(faultP_ok (endsP_zero (r3 r hrr)).2).2.2 i hi]; rfl)).1
def admitP (n : GNet) (q : List GReq) (s : GSched) (x : GReq) : GSched × Int :=
  if !servesP n q s then (zeroS, 1) else if q.any (fun y => y.flow.id == x.flow.id) then (zeroS, 6) else if faultyQ n (insR q x) then (zeroS, 1)
  else if Int.tmod s.length x.flow.period != 0 then (zeroS, 11) else if !(placeP n s x).2 then (zeroS, 18) else if decide (((placeP n s x).1.cells.length : Int) > 512) then (zeroS, 8) else ((placeP n s x).1, 0)
theorem S27 (n : GNet) (hn : n.ok) (q : List GReq) (hql : q.length ≤ 900000) (hx : ∀ y ∈ q, y.ok) (s : GSched) (hs : s.cells.length ≤ 1000000) (x : GReq) (hxo : x.ok) :
    Sound Tryz.prog 27 [n.v, reqsV q, s.v, x.v] (.tup [(admitP n q s x).1.v, i64 (admitP n q s x).2]) := by
  have hil : (insR q x).length ≤ 1000000 := by
    have := bsI_le (fun y => cmpReq y x) q
    simp only [insR, List.length_append, List.length_take, List.length_cons, List.length_drop]; omega
  have hio : ∀ y ∈ insR q x, y.ok := fun y hy => (insR_mem hy).elim (fun e => e ▸ hxo) (hx y)
  refine ex_intro mixedT T [] Tryz.func27 rfl (by rw [Tryz.ntmps27]; simp) (by kernel_rfl) ?_
  conv => whnf
  repeat' first | (refine LenG.map ?_; conv => whnf) | (refine LenG.go ?_; conv => whnf)
  refine FnG.go rfl ?_; conv => whnf
  refine CallG.go (S83 n hn q (by omega) hx s hs) ?_; conv => whnf
  refine Br.mk (fun hq1 => ?_) (fun hq1 => ?_) <;> conv => whnf
  · rw [show admitP n q s x = (zeroS, 1) by unfold admitP; rw [if_pos hq1]]; exact RetG.two rfl rfl
  refine FnG.go rfl ?_; conv => whnf
  refine CallG.go (S45_1 rfl x.c q (fun y => y.flow.id == x.flow.id) (fun y _ => S84 x y) (by omega)) ?_; conv => whnf
  refine Br.mk (fun hq2 => ?_) (fun hq2 => ?_) <;> conv => whnf
  · rw [show admitP n q s x = (zeroS, 6) by unfold admitP; rw [hq1, hq2]; rfl]; exact RetG.two rfl rfl
  refine FnG.go rfl ?_; conv => whnf
  refine CallG.go (S86 q (by omega) x) ?_; conv => whnf
  refine FnG.go rfl ?_; conv => whnf
  refine CallG.go (S85 n hn (insR q x) hil hio) ?_; conv => whnf
  refine Br.mk (fun hq3 => ?_) (fun hq3 => ?_) <;> conv => whnf
  · rw [show admitP n q s x = (zeroS, 1) by unfold admitP; rw [hq1, hq2, hq3]; rfl]; exact RetG.two rfl rfl
  have hp := place_ok hn (by simpa using hq1) hq3
  have hper := hp.per
  refine Nd.go (by omega) ?_; conv => whnf
  refine Br.mk (fun hq4 => ?_) (fun hq4 => ?_) <;> conv => whnf
  · rw [show admitP n q s x = (zeroS, 11) by unfold admitP; rw [hq1, hq2, hq3, hq4]; rfl]; exact RetG.two rfl rfl
  refine FnG.go rfl ?_; conv => whnf
  refine CallG.go (S87 n s x hp) ?_; conv => whnf
  refine Br.mk (fun hq5 => ?_) (fun hq5 => ?_) <;> conv => whnf
  · rw [show admitP n q s x = (zeroS, 18) by unfold admitP; rw [hq1, hq2, hq3, hq4, hq5]; rfl]; exact RetG.two rfl rfl
  repeat' first | (refine LenG.map ?_; conv => whnf) | (refine LenG.go ?_; conv => whnf)
  refine Br.mk (fun hq6 => ?_) (fun hq6 => ?_) <;> conv => whnf
  · rw [show admitP n q s x = (zeroS, 8) by unfold admitP; rw [hq1, hq2, hq3, hq4, hq5, hq6]; rfl]; exact RetG.two rfl rfl
  rw [show admitP n q s x = ((placeP n s x).1, 0) by unfold admitP; rw [hq1, hq2, hq3, hq4, hq5, hq6]; rfl]
  refine FnG.go rfl ?_; conv => whnf
  refine CallG.go (S80o (placeP n s x).1.cells (by simp at hq6; omega)) ?_; conv => whnf
  exact RetG.two rfl rfl
end Go.Proofs.YtbaajjihhdmdpaaGreatDoor

namespace Go.Proofs.YtbaajjihhdmdpaaGreatDoor
open Go.RowKit
set_option linter.unusedSectionVars false
set_option linter.unusedVariables false
set_option linter.unusedSimpArgs false
set_option linter.unnecessarySimpa false
set_option maxRecDepth 100000
set_option maxHeartbeats 4000000

def inC (l : List GCell) (x : GCell) : Bool := l.any fun y => decide (x = y)
theorem S179 (t : GSched) (ht : Cn t.cells) (c : GCell) : Sound Tryz.prog 179 [c.v, .rp t.c] (.bool (inC t.cells c)) := by
  refine ex_intro mixedT T [] Tryz.func179 rfl (by rw [Tryz.ntmps179]; simp) (by kernel_rfl) ?_
  conv => whnf
  repeat' first | (refine LenG.map ?_; conv => whnf) | (refine LenG.go ?_; conv => whnf)
  repeat' first
    | (refine Br.T ?_; conv => whnf)
    | (refine Br.F ?_; conv => whnf)
    | (refine Br.mk (fun hq => ?_) (fun hq => ?_) <;> conv => whnf)
    | (refine FnG.go rfl ?_; conv => whnf)
    | (refine LenG.map ?_; conv => whnf)
    | (refine LenG.go ?_; conv => whnf)
    | (refine CallG.go (S50 t.cells ht c) ?_; conv => whnf)
  exact RetG.one rfl
def onlyC (s t : GSched) : List GCell := s.cells.filter fun c => !inC t.cells c
theorem S92 (s t : GSched) (hs : s.cells.length ≤ 1000000) (ht : Cn t.cells) : Sound Tryz.prog 92 [s.v, t.v] (cellsV (onlyC s t)) := by
  refine ex_intro mixedT T [] Tryz.func92 rfl (by rw [Tryz.ntmps92]; simp) (by kernel_rfl) ?_
  conv => whnf
  repeat' first | (refine LenG.map ?_; conv => whnf) | (refine LenG.go ?_; conv => whnf)
  repeat' first
    | (refine Br.T ?_; conv => whnf)
    | (refine Br.F ?_; conv => whnf)
    | (refine Br.mk (fun hq => ?_) (fun hq => ?_) <;> conv => whnf)
    | (refine FnG.go rfl ?_; conv => whnf)
    | (refine LenG.map ?_; conv => whnf)
    | (refine LenG.go ?_; conv => whnf)
    | (refine CallG.go (S80f s.cells (by omega)) ?_; conv => whnf)
  refine SemG.go (Sem.cons (kill := some _) (e := 61) (sz := 5) (xs := s.cells.map GCell.c) (rest := [.tmp 8]) rfl rfl ⟨rfl, rfl⟩ (by kernel_rfl) (by decide) rfl (fnOk rfl) (D79_1 rfl t.c s.cells (inC t.cells) (fun c _ => S179 t ht c) (by omega)) ?_)
  conv => whnf
  exact RetG.one rfl
def differP (s t : GSched) : List GCell × List GCell × Int :=
  if !form s || !form t then ([], [], 1) else if s.length != t.length || s.offsets != t.offsets then ([], [], 11) else (onlyC s t, onlyC t s, 0)
theorem S29 (s t : GSched) (hs : s.cells.length ≤ 1000000) (ht : t.cells.length ≤ 1000000) : Sound Tryz.prog 29 [s.v, t.v] (.tup [cellsV (differP s t).1, cellsV (differP s t).2.1, i64 (differP s t).2.2]) := by
  have h1 : Cn s.cells := by show s.cells.length < _; omega
  have h2 : Cn t.cells := by show t.cells.length < _; omega
  refine ex_intro mixedT T [] Tryz.func29 rfl (by rw [Tryz.ntmps29]; simp) (by kernel_rfl) ?_
  conv => whnf
  repeat' first | (refine LenG.map ?_; conv => whnf) | (refine LenG.go ?_; conv => whnf)
  repeat' first
    | (refine Br.T ?_; conv => whnf)
    | (refine Br.F ?_; conv => whnf)
    | (refine Br.mk (fun hq => ?_) (fun hq => ?_) <;> conv => whnf)
    | (refine FnG.go rfl ?_; conv => whnf)
    | (refine LenG.map ?_; conv => whnf)
    | (refine LenG.go ?_; conv => whnf)
    | (refine CallG.go (S91 s h1) ?_; conv => whnf)
    | (refine CallG.go (S91 t h2) ?_; conv => whnf)
    | (refine CallG.go (S92 s t hs h2) ?_; conv => whnf)
    | (refine CallG.go (S92 t s ht h1) ?_; conv => whnf)
  all_goals (refine RetG.three ?_ ?_ ?_ <;> (delta differP; simp only [*, Bool.true_or, Bool.false_or, Bool.or_true, Bool.or_false, Bool.true_and, Bool.false_and, Bool.and_true, Bool.and_false, Bool.not_true, Bool.not_false, if_true, if_false, Bool.false_eq_true, reduceIte]; try rfl))
def addP (s : GSched) (c : GCell) : GSched × Int :=
  if !form s then (zeroS, 1) else if !formedC s c then (zeroS, 2) else if bsB (fun y => cmpCell y c) s.cells then (zeroS, 6)
  else if (s.cells.length : Int) == 512 then (zeroS, 8) else (⟨s.length, s.offsets, insC s.cells c⟩, 0)
theorem S43 (s : GSched) (hs : s.cells.length ≤ 1000000) (c : GCell) : Sound Tryz.prog 43 [s.v, c.v] (.tup [(addP s c).1.v, i64 (addP s c).2]) := by
  have h1 : Cn s.cells := by show s.cells.length < _; omega
  refine ex_intro mixedT T [cutX 10 6] Tryz.func43 rfl (by rw [Tryz.ntmps43]; simp) (by kernel_rfl) ?_
  conv => whnf
  repeat' first | (refine LenG.map ?_; conv => whnf) | (refine LenG.go ?_; conv => whnf)
  repeat' first
    | (refine Br.T ?_; conv => whnf)
    | (refine Br.F ?_; conv => whnf)
    | (refine Br.mk (fun hq => ?_) (fun hq => ?_) <;> conv => whnf)
    | (refine FnG.go rfl ?_; conv => whnf)
    | (refine LenG.map ?_; conv => whnf)
    | (refine LenG.go ?_; conv => whnf)
    | (refine CallG.go (S91 s h1) ?_; conv => whnf)
    | (refine CallG.go (S108 s c) ?_; conv => whnf)
    | (refine CallG.go (S109 (g := 110) rfl s.cells c (fun y => cmpCell y c) (fun y _ => S110 y c) h1) ?_; conv => whnf)
    | (refine Nd.go (by kernel_rfl) ?_; conv => whnf)
    | (refine CallG.go (S80f s.cells (by omega)) ?_; conv => whnf)
  all_goals try (refine RetG.two ?_ ?_ <;> (delta addP; simp only [*, Bool.true_or, Bool.false_or, Bool.or_true, Bool.or_false, Bool.true_and, Bool.false_and, Bool.and_true, Bool.and_false, Bool.not_true, Bool.not_false, if_true, if_false, Bool.false_eq_true, reduceIte]; rfl); done)
  have hR : addP s c = (⟨s.length, s.offsets, insC s.cells c⟩, 0) := by delta addP; simp only [*, Bool.true_or, Bool.false_or, Bool.or_true, Bool.or_false, Bool.true_and, Bool.false_and, Bool.and_true, Bool.and_false, Bool.not_true, Bool.not_false, if_true, if_false, Bool.false_eq_true, reduceIte]
  rw [hR]
  have hb := bsI_le (fun y => cmpCell y c) s.cells
  have hins : insC s.cells c = s.cells.take (bsI (fun y => cmpCell y c) s.cells) ++ c :: s.cells.drop (bsI (fun y => cmpCell y c) s.cells) := rfl
  rw [hins]
  clear hins hR
  generalize bsI (fun y => cmpCell y c) s.cells = p at *
  refine SemG.go (Sem.cons (kill := some _) (e := 61) (sz := 5) (xs := s.cells.map GCell.c) (rest := [.tmp 36, .tmp 38]) rfl rfl ⟨rfl, rfl⟩ (by kernel_rfl) (by decide) rfl (fnOk rfl) (D111 s.cells p c hb (by omega)) ?_)
  conv => whnf
  exact RetG.two rfl rfl
end Go.Proofs.YtbaajjihhdmdpaaGreatDoor

namespace Go.Proofs.YtbaajjihhdmdpaaGreatDoor
open Go.RowKit
set_option linter.unusedSectionVars false
set_option linter.unusedVariables false
set_option linter.unusedSimpArgs false
set_option linter.unnecessarySimpa false
set_option maxRecDepth 100000

/-- There is room for a cell among cells. -/
structure RoomC (n : GNet) (l : List GCell) (c : GCell) : Prop where
  link : goodLk n c.from_ c.to_ = true
  free : ∀ d ∈ l, d.slot = c.slot → touches c d = false
  good : goodCells n (c :: l.filter (atSame c)) = true

theorem good_same {n : GNet} {a b : List GCell} (h : a.Perm b) : goodCells n a = goodCells n b := good_perm n (h.map _)
theorem apart_perm {a b : List GCell} (h : a.Perm b) : (a.Pairwise fun c d => c.slot = d.slot → touches c d = false) ↔ b.Pairwise fun c d => c.slot = d.slot → touches c d = false :=
  h.pairwise_iff (R := fun c d => c.slot = d.slot → touches c d = false) fun {x y} k e => by rw [touches_comm]; exact k e.symm
theorem Calm.perm {n : GNet} {a b : List GCell} (h : a.Perm b) (k : Calm n a) : Calm n b :=
  ⟨fun c hc => k.link c (h.mem_iff.2 hc), (apart_perm h).1 k.apart, fun c hc => by
    rw [← good_same (h.filter (atSame c))]; exact k.calm c (h.mem_iff.2 hc)⟩
theorem atSame_symm {c d : GCell} (h : atSame c d = true) : atSame d c = true := by
  unfold atSame at *; simp only [Bool.and_eq_true, beq_iff_eq] at *; exact ⟨h.1.symm, h.2.symm⟩
theorem calm_cons {n : GNet} {l : List GCell} {c : GCell} (h : Calm n l) : Calm n (c :: l) ↔ RoomC n l c := by
  constructor
  · intro k
    refine ⟨k.link c (by simp), fun d hd e => (List.pairwise_cons.1 k.apart).1 d hd e.symm, ?_⟩
    have := k.calm c (by simp)
    rwa [List.filter_cons, if_pos (atSame_refl c)] at this
  · intro k
    refine ⟨fun d hd => ?_, List.pairwise_cons.2 ⟨fun d hd e => k.free d hd e.symm, h.apart⟩, fun d hd => ?_⟩
    · rcases List.mem_cons.1 hd with rfl | hd
      · exact k.link
      · exact h.link d hd
    · by_cases hs : atSame d c = true
      · rw [atSame_eq hs, List.filter_cons, if_pos (atSame_refl c)]; exact k.good
      · rw [List.filter_cons, if_neg hs]
        rcases List.mem_cons.1 hd with rfl | hd
        · exact absurd (atSame_refl d) hs
        · exact h.calm d hd

/-! ### room and what Room finds -/
theorem good_cons_eq (n : GNet) (l : List GCell) (c d : GCell) (he : endsC c = endsC d) (hs : atSame c = atSame d) : goodCells n (c :: l.filter (atSame c)) = goodCells n (d :: l.filter (atSame d)) := by
  rw [hs]
  exact good_perm n (by rw [List.map_cons, List.map_cons, he])
theorem touches_ends {c d : GCell} (he : endsC c = endsC d) (x : GCell) : touches c x = touches d x := by
  have h1 : (endsC c).from_ = (endsC d).from_ := by rw [he]
  have h2 : (endsC c).to_ = (endsC d).to_ := by rw [he]
  have h1 : c.from_ = d.from_ := h1
  have h2 : c.to_ = d.to_ := h2
  unfold touches; rw [h1, h2]
theorem fits_iff {n : GNet} {s : GSched} (hs : s.cells.length ≤ 512) {c d : GCell} (hg : goodLk n c.from_ c.to_ = true) (he : endsC c = endsC d) (h1 : c.slot = d.slot) (h2 : c.offset = d.offset) : fitsR n s d = true ↔ RoomC n s.cells c := by
  have hsame : atSame c = atSame d := by funext x; unfold atSame; rw [h1, h2]
  have hln : (s.cells.filter (atSame d)).length ≤ 512 := Nat.le_trans (List.length_filter_le _ _) hs
  have hfit : fitsR n s d = true ↔ s.cells.any (near d) = false ∧ goodCells n (d :: s.cells.filter (atSame d)) = true := by
    unfold fitsR
    rw [fitsGo_eq]
    cases h : s.cells.any (near d) with
    | true => simp
    | false =>
      rw [if_neg (by simp)]
      simp only [true_and]
      rw [← good_eq _ (by simp; omega)]
      rfl
  rw [hfit]
  constructor
  · rintro ⟨k1, k2⟩
    refine ⟨hg, fun x hx e => ?_, by rw [good_cons_eq n _ c d he hsame]; exact k2⟩
    have := List.any_eq_false.1 k1 x hx
    unfold near at this
    rw [touches_ends he, touches_comm]
    have e2 : (x.slot == d.slot) = true := by rw [← h1]; simpa using e
    rw [e2, Bool.true_and] at this
    simpa [touches] using this
  · rintro ⟨_, k2, k3⟩
    refine ⟨?_, by rw [← good_cons_eq n _ c d he hsame]; exact k3⟩
    rw [List.any_eq_false]
    intro x hx
    unfold near
    by_cases e : x.slot = d.slot
    · have := k2 x hx (e.trans h1.symm)
      rw [touches_ends he, touches_comm] at this
      have this : (x.from_ == d.from_ || x.from_ == d.to_ || x.to_ == d.from_ || x.to_ == d.to_) = false := this
      rw [this]; simp
    · have : (x.slot == d.slot) = false := by simpa using e
      rw [this]; simp
theorem mem_roomIn {f : GCell → Bool} {l : GLink} {t O : Nat} {c : GCell} : c ∈ roomIn f l t O ↔ ∃ o, o < O ∧ c = cellAt l t o ∧ f c = true := by
  unfold roomIn
  rw [List.mem_filter, List.mem_map]
  constructor
  · rintro ⟨⟨o, ho, rfl⟩, h⟩; exact ⟨o, List.mem_range.1 ho, rfl, h⟩
  · rintro ⟨o, ho, rfl, h⟩; exact ⟨⟨o, List.mem_range.2 ho, rfl⟩, h⟩
theorem mem_roomUp {f : GCell → Bool} {l : GLink} {O : Nat} {c : GCell} : ∀ {T : Nat}, c ∈ roomUp f l O T ↔ ∃ t o, t < T ∧ o < O ∧ c = cellAt l t o ∧ f c = true
  | 0 => by simp [roomUp]
  | T + 1 => by
    rw [roomUp, List.mem_append, mem_roomUp, mem_roomIn]
    constructor
    · rintro (⟨t, o, h1, h2, h3, h4⟩ | ⟨o, h2, h3, h4⟩)
      · exact ⟨t, o, by omega, h2, h3, h4⟩
      · exact ⟨T, o, by omega, h2, h3, h4⟩
    · rintro ⟨t, o, h1, h2, h3, h4⟩
      by_cases e : t = T
      · subst e; exact .inr ⟨o, h2, h3, h4⟩
      · exact .inl ⟨t, o, by omega, h2, h3, h4⟩

/-! ### a cell laid in its place -/
theorem bs_pos {α : Type} [Inhabited α] (c : α → Int) (l : List α) (hs : ∀ i j, i < j → j < l.length → c (gd l j) < 0 → c (gd l i) < 0) :
    bsI c l ≤ l.length ∧ (∀ j, j < bsI c l → c (gd l j) < 0) ∧ ∀ j, bsI c l ≤ j → j < l.length → 0 ≤ c (gd l j) := by
  obtain ⟨f, hf⟩ : ∃ f : Nat → Bool, f = fun k => decide (c (gd l k) < 0) && decide (k < l.length) := ⟨_, rfl⟩
  have hmono : ∀ i j, i ≤ j → f j = true → f i = true := by
    intro i j hij hj
    rw [hf] at hj ⊢
    simp only [Bool.and_eq_true, decide_eq_true_eq] at hj ⊢
    rcases Nat.lt_or_ge i j with h | h
    · exact ⟨hs i j h hj.2 hj.1, by omega⟩
    · obtain rfl : i = j := by omega
      exact hj
  have hcong : ∀ (q lo hi : Nat), hi - lo ≤ q → hi ≤ l.length → bsGo (fun k => decide (c (gd l k) < 0)) lo hi = bsGo f lo hi := by
    intro q
    induction q with
    | zero => intro lo hi h1 h2; rw [bsGo.eq_def (fun k => decide (c (gd l k) < 0)) lo hi, bsGo.eq_def f lo hi, dif_neg (by omega), dif_neg (by omega)]
    | succ q ih =>
      intro lo hi h1 h2
      rw [bsGo.eq_def (fun k => decide (c (gd l k) < 0)) lo hi, bsGo.eq_def f lo hi]
      split
      · rename_i hlt
        have e : f ((lo + hi) / 2) = decide (c (gd l ((lo + hi) / 2)) < 0) := by rw [hf]; simp; omega
        rw [e, ih _ _ (by omega) h2, ih _ _ (by omega) (by omega)]
      · rfl
  have hr : bsI c l = bsGo f 0 l.length := hcong _ 0 _ (Nat.le_refl _) (Nat.le_refl _)
  obtain ⟨_, h2, h3, h4⟩ := bsGo_spec f hmono _ 0 l.length (Nat.le_refl _) (by omega) (fun j hj => by omega) (.inr trivial)
  rw [← hr] at h2 h3 h4
  rw [hf] at h3 h4
  refine ⟨h2, fun j hj => ?_, fun j h5 h6 => ?_⟩
  · have := h3 j hj
    simp only [Bool.and_eq_true, decide_eq_true_eq] at this
    exact this.1
  · have := h4 j h5 h6
    simp only [Bool.and_eq_false_iff, decide_eq_false_iff_not] at this
    omega
theorem cell_nums {a b : GCell} (h : a.nums = b.nums) : a = b := by
  cases a; cases b
  simp only [GCell.nums, List.cons.injEq, and_true] at h
  obtain ⟨rfl, rfl, rfl, rfl, rfl⟩ := h
  rfl
theorem cmpCell_self (a : GCell) : cmpCell a a = 0 := cmpInts_self _
theorem cmpCell_tot {a b : GCell} (h : ¬ cmpCell a b < 0) (k : ¬ cmpCell b a < 0) : a = b := cell_nums (cmpInts_tot _ _ rfl h k)
theorem cmpCell_asymm {a b : GCell} (h : cmpCell a b < 0) : ¬ cmpCell b a < 0 := fun k => by
  have := cmpCell_trans h k
  rw [cmpCell_self] at this; omega
theorem cmpCell_gt {a b : GCell} (h : 0 ≤ cmpCell a b) (hne : a ≠ b) : cmpCell b a < 0 := by
  by_cases k : cmpCell b a < 0
  · exact k
  · exact absurd (cmpCell_tot (by omega) k) hne
theorem rising_mono {l : List GCell} (hr : Rising l) (c : GCell) : ∀ i j, i < j → j < l.length → cmpCell (gd l j) c < 0 → cmpCell (gd l i) c < 0 := fun i j hij hj h => by
  have := List.pairwise_iff_getElem.1 hr i j (by omega) hj hij
  rw [gd_at hj] at h
  rw [gd_at (by omega)]
  exact cmpCell_trans this h
theorem insC_perm (l : List GCell) (c : GCell) : (insC l c).Perm (c :: l) := by
  unfold insC
  have := List.perm_middle (a := c) (l₁ := l.take (bsI (fun y => cmpCell y c) l)) (l₂ := l.drop (bsI (fun y => cmpCell y c) l))
  rwa [List.take_append_drop] at this
theorem insC_mem {l : List GCell} {c x : GCell} : x ∈ insC l c ↔ x = c ∨ x ∈ l := by
  rw [(insC_perm l c).mem_iff, List.mem_cons]
theorem insC_rising {l : List GCell} (hr : Rising l) {c : GCell} (hc : c ∉ l) : Rising (insC l c) := by
  obtain ⟨h1, h2, h3⟩ := bs_pos (fun y => cmpCell y c) l (rising_mono hr c)
  unfold insC
  generalize bsI (fun y => cmpCell y c) l = p at *
  have hL : ∀ x ∈ l.take p, cmpCell x c < 0 := fun x hx => by
    obtain ⟨i, hi, rfl⟩ := List.getElem_of_mem hx
    rw [List.length_take] at hi
    have := h2 i (by omega)
    rw [gd_at (by omega)] at this
    rwa [List.getElem_take]
  have hR : ∀ x ∈ l.drop p, cmpCell c x < 0 := fun x hx => by
    have hm := List.mem_of_mem_drop hx
    obtain ⟨i, hi, rfl⟩ := List.getElem_of_mem hx
    rw [List.length_drop] at hi
    have := h3 (p + i) (by omega) (by omega)
    rw [gd_at (by omega)] at this
    rw [List.getElem_drop] at hm ⊢
    exact cmpCell_gt this (fun e => hc (e ▸ hm))
  refine List.pairwise_append.2 ⟨hr.sublist (List.take_sublist _ _), List.pairwise_cons.2 ⟨hR, hr.sublist (List.drop_sublist _ _)⟩, fun a ha b hb => ?_⟩
  rcases List.mem_cons.1 hb with rfl | hb
  · exact hL a ha
  · exact cmpCell_trans (hL a ha) (hR b hb)
theorem rising_nodup {l : List GCell} (hr : Rising l) : l.Nodup := List.Pairwise.imp (fun {a b} h e => by subst e; rw [cmpCell_self] at h; omega) hr
theorem cmpInts_zero : ∀ (a b : List Int), a.length = b.length → cmpInts a b = 0 → a = b
  | [], [], _, _ => rfl
  | x :: r, y :: s, h, k => by
    rw [cmpInts] at k
    split at k
    · rename_i h1; rw [k] at h1; simp at h1
    · rename_i h1
      have h2 : cmpI x y = 0 := by simpa using h1
      rw [(cmpI_zero x y).1 h2, cmpInts_zero r s (by simpa using h) k]
theorem cmpCell_zero {a b : GCell} (h : cmpCell a b = 0) : a = b := cell_nums (cmpInts_zero _ _ rfl h)
theorem bsB_mem {l : List GCell} (hr : Rising l) (c : GCell) : bsB (fun y => cmpCell y c) l = true ↔ c ∈ l := by
  obtain ⟨h1, h2, h3⟩ := bs_pos (fun y => cmpCell y c) l (rising_mono hr c)
  unfold bsB
  generalize bsI (fun y => cmpCell y c) l = p at *
  simp only [Bool.and_eq_true, decide_eq_true_eq, beq_iff_eq]
  constructor
  · rintro ⟨hp, h0⟩
    have hp : p < l.length := by omega
    rw [gd_at hp] at h0
    exact cmpCell_zero h0 ▸ List.getElem_mem hp
  · intro hc
    obtain ⟨i, hi, rfl⟩ := List.getElem_of_mem hc
    have hpi : p ≤ i := by
      rcases Nat.lt_or_ge i p with h | h
      · have := h2 i h
        rw [gd_at hi, cmpCell_self] at this; omega
      · exact h
    refine ⟨by omega, ?_⟩
    rcases Nat.lt_or_ge p i with h | h
    · have h4 := List.pairwise_iff_getElem.1 hr p i (by omega) hi h
      have h5 := h3 p (Nat.le_refl _) (by omega)
      rw [gd_at (by omega)] at h5
      omega
    · obtain rfl : p = i := by omega
      rw [gd_at hi, cmpCell_self]
end Go.Proofs.YtbaajjihhdmdpaaGreatDoor

namespace Go.Proofs.YtbaajjihhdmdpaaGreatDoor
open Go.RowKit
set_option linter.unusedSectionVars false
set_option linter.unusedVariables false
set_option linter.unusedSimpArgs false
set_option linter.unnecessarySimpa false
set_option maxRecDepth 100000

theorem allFrom_iff (f : Nat → Bool) : ∀ (m i : Nat), allFrom f m i = true ↔ ∀ j, i ≤ j → j < i + m → f j = true
  | 0, i => by simp [allFrom]; intro j h1 h2; omega
  | m + 1, i => by
    rw [allFrom, Bool.and_eq_true, allFrom_iff f m (i + 1)]
    constructor
    · rintro ⟨h, k⟩ j h1 h2
      by_cases e : j = i
      · subst e; exact h
      · exact k j (by omega) (by omega)
    · intro k; exact ⟨k i (by omega) (by omega), fun j h1 h2 => k j (by omega) (by omega)⟩
theorem form_iff (s : GSched) : form s = true ↔ sized s = true ∧ s.cells.length ≤ 512 ∧ (∀ c ∈ s.cells, formedC s c = true) ∧ Rising s.cells := by
  unfold form
  rw [Bool.and_eq_true, Bool.and_eq_true, allFrom_iff, rising_iff, and_assoc]
  refine and_congr Iff.rfl (and_congr (by simp; omega) ?_)
  have at1 : ∀ i, formAt s i = true ↔ formedC s (gd s.cells i) = true ∧ (0 < i → cmpCell (gd s.cells (i - 1)) (gd s.cells i) < 0) := by
    intro i
    unfold formAt
    generalize gd s.cells i = c
    generalize gd s.cells (i - 1) = b
    generalize cmpCell b c = m
    cases formedC s c <;> by_cases h0 : 0 < i <;> by_cases hm : m < 0 <;> simp [h0, hm] <;> (try omega)
  constructor
  · intro h
    refine ⟨fun c hc => ?_, fun i h0 h1 => ((at1 i).1 (h i (by omega) (by omega))).2 h0⟩
    obtain ⟨i, hi, rfl⟩ := List.getElem_of_mem hc
    have := ((at1 i).1 (h i (by omega) (by omega))).1
    rwa [gd_at hi] at this
  · rintro ⟨h1, h2⟩ i _ hi
    exact (at1 i).2 ⟨h1 _ (gd_mem (by omega)), fun h0 => h2 i h0 (by omega)⟩
theorem findFl_iff (l : List GFlow) (id : Int) : 0 ≤ findFl l id ↔ ∃ f ∈ l, f.id = id := by
  unfold findFl
  rw [idxOf_ge, List.any_eq_true]
  simp
theorem flow_id {nodes : Int} {fl : List GFlow} (h : (flowsP nodes fl).2 = 0) {id : Int} (hf : 0 ≤ findFl fl id) : 0 ≤ id ∧ id ≤ 255 := by
  obtain ⟨f, hm, rfl⟩ := (findFl_iff _ _).1 hf
  exact (flowErr_ok (flows_all (by simpa using h) f hm)).2.2.2
theorem formed_of {n : GNet} (hv : netErr n = 0) {fl : List GFlow} (h : (flowsP n.nodes fl).2 = 0) {s : GSched} {c : GCell} (hp : placed s c = true) (hg : goodLk n c.from_ c.to_ = true) (hf : 0 ≤ findFl fl c.flow) : formedC s c = true := by
  have hn := (netOk_of hv).nodes
  have h1 := goodLk_node (netOk_of hv) hg
  have h2 := flow_id h hf
  unfold isNode at h1
  simp only [Bool.and_eq_true, decide_eq_true_eq] at h1
  unfold formedC
  simp only [Bool.and_eq_true, decide_eq_true_eq]
  exact ⟨⟨⟨hp, by omega⟩, by omega⟩, by omega⟩
theorem ValidS.form {n : GNet} {fl : List GFlow} {s : GSched} (h : ValidS n fl s) : form s = true :=
  (form_iff s).2 ⟨h.sized, h.many, fun c hc => formed_of h.net h.flows (h.at_ c hc).1 (h.calm.link c hc) (h.at_ c hc).2, h.rising⟩
theorem valid_add {n : GNet} {fl : List GFlow} {s : GSched} (h : ValidS n fl s) {c : GCell} (hp : placed s c = true) (hf : 0 ≤ findFl fl c.flow) (hl : s.cells.length + 1 ≤ 512) (hc : c ∉ s.cells) :
    ValidS n fl ⟨s.length, s.offsets, insC s.cells c⟩ ↔ RoomC n s.cells c := by
  rw [← calm_cons h.calm]
  constructor
  · intro k; exact k.calm.perm (insC_perm _ _)
  · intro k
    exact ⟨h.net, h.flows, h.sized, h.match_, by simp only [insC_len]; omega, fun x hx => by
      rcases insC_mem.1 hx with rfl | hx
      · exact ⟨hp, hf⟩
      · exact h.at_ x hx, insC_rising h.rising hc, k.perm (insC_perm _ _).symm⟩

abbrev atFree (s : GSched) (l : GLink) (x y id : Int) : GCell := ⟨Int.tmod x s.length, Int.tmod y s.offsets, l.from_, l.to_, id⟩
theorem roomP_two {n : GNet} {s : GSched} {l : GLink} (hv : netErr n = 0) (hf : form s = true) (hL : s.length ≤ 30) : ((roomP n s l).2 ≠ 0 → (roomP n s l).2 = 7 ∧ (roomP n s l).1 = []) ∧
    ((roomP n s l).2 = 0 → goodLk n l.from_ l.to_ = true ∧ (roomP n s l).1 = roomUp (fitsR n s) l s.offsets.toNat s.length.toNat) := by
  have hb := formR_bd (s := s) (by rw [form_eq]; exact hf)
  have hlen := roomUp_len (fitsR n s) l s.offsets.toNat s.length.toNat
  have h16 : s.length.toNat * s.offsets.toNat ≤ 30 * 16 := Nat.mul_le_mul (by omega) (by omega)
  rw [room_eq]
  unfold roomR roomRes roomOut
  have e1 : (netErr n != 0 || !formR s) = false := by rw [form_eq, hf]; simp [hv]
  rw [e1, if_neg (by simp)]
  cases hg : goodLk n l.from_ l.to_ with
  | false => simp
  | true =>
    rw [if_neg (by simp), if_neg (by simp only [decide_eq_true_eq]; omega)]
    simp
theorem fills_law {n : GNet} {fl : List GFlow} {s : GSched} {l : GLink} {x y id : Int} (hV : ValidS n fl s) (hL : s.length ≤ 30) (hc : s.cells.length ≤ 30) (hx : 0 ≤ x) (hy : 0 ≤ y) (hid : 0 ≤ findFl fl id) (h0 : (roomP n s l).2 = 0) :
    ((addP s (atFree s l x y id)).2 ≠ 0 → inC (roomP n s l).1 (atFree s l x y 0) = false) ∧
      ((addP s (atFree s l x y id)).2 = 0 → inC (roomP n s l).1 (atFree s l x y 0) = ((schedP n fl (addP s (atFree s l x y id)).1).2 == 0)) := by
  have hfo := hV.form
  have hb := formR_bd (s := s) (by rw [form_eq]; exact hfo)
  obtain ⟨hg, hR⟩ := (roomP_two (l := l) hV.net hfo hL).2 h0
  have e1 : Int.tmod x s.length = x % s.length := Int.tmod_eq_emod_of_nonneg hx
  have e2 : Int.tmod y s.offsets = y % s.offsets := Int.tmod_eq_emod_of_nonneg hy
  have b1 : 0 ≤ x % s.length ∧ x % s.length < s.length := ⟨Int.emod_nonneg _ (by omega), Int.emod_lt_of_pos _ (by omega)⟩
  have b2 : 0 ≤ y % s.offsets ∧ y % s.offsets < s.offsets := ⟨Int.emod_nonneg _ (by omega), Int.emod_lt_of_pos _ (by omega)⟩
  unfold atFree
  rw [e1, e2]
  generalize x % s.length = t at *
  generalize y % s.offsets = o at *
  have hpl : placed s ⟨t, o, l.from_, l.to_, id⟩ = true := by unfold placed insI; simp; omega
  have hroom : inC (roomP n s l).1 ⟨t, o, l.from_, l.to_, 0⟩ = true ↔ RoomC n s.cells ⟨t, o, l.from_, l.to_, id⟩ := by
    rw [← fits_iff (c := ⟨t, o, l.from_, l.to_, id⟩) (d := ⟨t, o, l.from_, l.to_, 0⟩) hV.many hg rfl rfl rfl, hR]
    unfold inC
    rw [List.any_eq_true]
    constructor
    · rintro ⟨c, h1, h2⟩
      obtain ⟨t', o', _, _, rfl, h4⟩ := mem_roomUp.1 h1
      rw [of_decide_eq_true h2]; exact h4
    · intro h
      refine ⟨_, mem_roomUp.2 ⟨t.toNat, o.toNat, by omega, by omega, ?_, h⟩, by simp⟩
      unfold cellAt
      rw [show ((t.toNat : Nat) : Int) = t by omega, show ((o.toNat : Nat) : Int) = o by omega]
  have hadd : addP s ⟨t, o, l.from_, l.to_, id⟩ = if bsB (fun y => cmpCell y ⟨t, o, l.from_, l.to_, id⟩) s.cells then (zeroS, 6) else (⟨s.length, s.offsets, insC s.cells ⟨t, o, l.from_, l.to_, id⟩⟩, 0) := by
    unfold addP
    have hfm : formedC s ⟨t, o, l.from_, l.to_, id⟩ = true := formed_of hV.net hV.flows hpl hg hid
    rw [hfo, hfm]
    have h512 : ((s.cells.length : Int) == 512) = false := by simp; omega
    rw [h512]; rfl
  rw [hadd]
  by_cases hin : (⟨t, o, l.from_, l.to_, id⟩ : GCell) ∈ s.cells
  · rw [if_pos ((bsB_mem hV.rising _).2 hin)]
    refine ⟨fun _ => ?_, fun h => by simp at h⟩
    cases hI : inC (roomP n s l).1 ⟨t, o, l.from_, l.to_, 0⟩ with
    | false => rfl
    | true =>
      have := (hroom.1 hI).free _ hin rfl
      simp [touches] at this
  · rw [if_neg (fun h => hin ((bsB_mem hV.rising _).1 h))]
    refine ⟨fun h => absurd rfl h, fun _ => ?_⟩
    rw [Bool.eq_iff_iff, hroom, ← valid_add hV hpl hid (by omega) hin, ← sched_iff, beq_iff_eq]
end Go.Proofs.YtbaajjihhdmdpaaGreatDoor

namespace Go.Proofs.YtbaajjihhdmdpaaGreatDoor
open Go.RowKit
set_option linter.unusedSectionVars false
set_option linter.unusedVariables false
set_option linter.unusedSimpArgs false
set_option linter.unnecessarySimpa false
set_option maxRecDepth 100000
set_option maxHeartbeats 4000000

def exN : GNet := ⟨3, [[0, 9, 9], [9, 0, 9], [9, 9, 0]], 1, 1000, [⟨0, 1, 0⟩, ⟨1, 0, 0⟩, ⟨1, 2, 0⟩, ⟨2, 1, 0⟩], [9, 9, 9, 9]⟩
def exQ : List GReq := [⟨⟨5, 0, 1, 3, 0, 3⟩, [[0, 1]]⟩]
def exS : GSched := ⟨3, 1, [⟨0, 0, 0, 1, 5⟩]⟩
def exX : GReq := ⟨⟨6, 1, 2, 3, 0, 3⟩, [[1, 2]]⟩
def exT : GSched := ⟨3, 1, [⟨0, 0, 0, 1, 5⟩, ⟨1, 0, 1, 2, 6⟩]⟩
theorem exN_ok : exN.ok := ⟨by decide, by decide, by decide, by decide⟩
theorem exQ_ok : ∀ x ∈ exQ, x.ok := fun x hx => by
  obtain rfl := List.mem_singleton.1 hx
  exact ⟨by decide, by decide⟩
theorem exX_ok : exX.ok := ⟨by decide, by decide⟩
theorem ex_room : roomP exN exS ⟨1, 2, 0⟩ = ([⟨1, 0, 1, 2, 0⟩, ⟨2, 0, 1, 2, 0⟩], 0) := by decide +kernel
theorem ex_admit : admitP exN exQ exS exX = (exT, 0) := by decide +kernel
theorem ex_drop : dropP exT 5 = (⟨3, 1, [⟨1, 0, 1, 2, 6⟩]⟩, 0) := by decide +kernel
theorem S70 : Sound Tryz.prog 70 [] (.tup [exN.v, reqsV exQ, exS.v]) := by
  refine ex_intro mixedT T [] Tryz.func70 rfl (by rw [Tryz.ntmps70]; simp) (by kernel_rfl) ?_
  conv => whnf
  repeat' first | (refine LenG.map ?_; conv => whnf) | (refine LenG.go ?_; conv => whnf)
  exact RetG.three rfl rfl rfl
theorem S17 : Sound Tryz.prog 17 [] (.bool true) := by
  have h1 := S19 exN exN_ok exS (by decide) ⟨1, 2, 0⟩
  rw [ex_room] at h1
  have h2 := S27 exN exN_ok exQ (by decide) exQ_ok exS (by decide) exX exX_ok
  rw [ex_admit] at h2
  have h3 := S21 exT (by decide) 5
  rw [ex_drop] at h3
  refine ex_intro mixedT T [] Tryz.func17 rfl (by rw [Tryz.ntmps17]; simp) (by kernel_rfl) ?_
  conv => whnf
  repeat' first | (refine LenG.map ?_; conv => whnf) | (refine LenG.go ?_; conv => whnf)
  repeat' first
    | (refine Br.T ?_; conv => whnf)
    | (refine Br.F ?_; conv => whnf)
    | (refine Br.tt (by rfl) ?_; conv => whnf)
    | (refine FnG.go rfl ?_; conv => whnf)
    | (refine LenG.map ?_; conv => whnf)
    | (refine LenG.go ?_; conv => whnf)
    | (refine CallG.go S70 ?_; conv => whnf)
    | (refine CallG.go h1 ?_; conv => whnf)
    | (refine CallG.go h2 ?_; conv => whnf)
    | (refine CallG.go h3 ?_; conv => whnf)
    | (refine Ix.go (by decide) rfl rfl ?_; conv => whnf)
  exact RetG.one rfl
theorem S3 (n : GNet) (hn : n.ok) (s : GSched) (hs : s.cells.length ≤ 100000000) (l : GLink) (flow : Int) : Sound Tryz.prog 3 [n.v, s.v, l.v, i64 flow] (.bool true) := by
  have hsC : Cn s.cells := by show s.cells.length < _; omega
  have h1 := S19 n hn s hsC l
  have h2 := S20 n hn s hsC l
  have h3 := S21 s hs flow
  have h4 := S22 s hsC flow
  rw [room_eq] at h1
  rw [drop_eq] at h3
  have hR : Cn (roomR n s l).1 := by
    show (roomR n s l).1.length < _
    unfold roomR roomRes
    split
    · simp
    split
    · simp
    split
    · simp
    · rename_i h; simp at h; simp only; omega
  have hD : Cn (dropR s flow).1.cells := by
    show (dropR s flow).1.cells.length < _
    unfold dropR
    split
    · simp [zeroS]
    · have := List.length_filter_le (fun c : GCell => c.flow != flow) s.cells
      simp only; omega
  generalize roomR n s l = R at h1 h2 hR
  generalize dropR s flow = D at h3 h4 hD
  have h5 : Sound Tryz.prog 23 [cellsV R.1, cellsV R.1] (.bool true) := by simpa using S23 R.1 R.1 hR
  have h6 : Sound Tryz.prog 24 [D.1.v, D.1.v] (.bool true) := by simpa using S24 D.1 D.1 hD
  refine ex_intro mixedT T [] Tryz.func3 rfl (by rw [Tryz.ntmps3]; simp) (by kernel_rfl) ?_
  conv => whnf
  repeat' first | (refine LenG.map ?_; conv => whnf) | (refine LenG.go ?_; conv => whnf)
  repeat' first
    | (refine Br.T ?_; conv => whnf)
    | (refine Br.F ?_; conv => whnf)
    | (refine Br.tt (by simp only [beq_self_eq_true]) ?_; conv => whnf)
    | (refine Br.mk (fun hq => ?_) (fun hq => ?_) <;> conv => whnf)
    | (refine FnG.go rfl ?_; conv => whnf)
    | (refine LenG.map ?_; conv => whnf)
    | (refine LenG.go ?_; conv => whnf)
    | (refine CallG.go S17 ?_; conv => whnf)
    | (refine CallG.go (S18 n hn) ?_; conv => whnf)
    | (refine CallG.go h1 ?_; conv => whnf)
    | (refine CallG.go h2 ?_; conv => whnf)
    | (refine CallG.go h3 ?_; conv => whnf)
    | (refine CallG.go h4 ?_; conv => whnf)
    | (refine CallG.go h5 ?_; conv => whnf)
    | (refine CallG.go h6 ?_; conv => whnf)
  all_goals first
    | exact RetG.one rfl
    | exact RetG.one (by simp [ret1])
end Go.Proofs.YtbaajjihhdmdpaaGreatDoor

namespace Go.Proofs.YtbaajjihhdmdpaaGreatDoor
open Go.RowKit
set_option linter.unusedSectionVars false
set_option linter.unusedVariables false
set_option linter.unusedSimpArgs false
set_option linter.unnecessarySimpa false
set_option maxRecDepth 100000
set_option maxHeartbeats 4000000

theorem S99 (a b : List Int) (ha : Cn a) (hb : Cn b) : Sound Tryz.prog 99 [intsV a, intsV b] (.bool (decide (a = b))) := by
  refine ex_intro mixedT T [] Tryz.func99 rfl (by rw [Tryz.ntmps99]; simp) (by kernel_rfl) ?_
  conv => whnf
  repeat' first | (refine LenG.map ?_; conv => whnf) | (refine LenG.go ?_; conv => whnf)
  repeat' first | (refine LenG.map ?_; conv => whnf) | (refine LenG.go ?_; conv => whnf)
  refine Br.mk (fun hq => ?_) (fun hq => ?_) <;> conv => whnf
  · have : a ≠ b := fun e => by subst e; simp at hq
    rw [decide_eq_false this]; exact RetG.one rfl
  have hlen : a.length = b.length := by simp at hq; omega
  refine Lp.go T [] (fun i : Nat => [(0, intsV a), (1, intsV b), (5, i64 i)]) (fun _ => []) (fun m i => m + i = a.length ∧ ∀ j, j < i → gd a j = gd b j) a.length 0 ⟨by simp, fun j h => by omega⟩ [] ?_ ?_
  · (conv => whnf); refine ⟨rfl, ?_, ?_⟩ <;> (conv => whnf) <;> (repeat' apply And.intro) <;> first | exact True.intro | rfl | (conv => rhs; whnf)
  rintro m i ⟨hm, hi⟩
  conv => whnf
  repeat' first | (refine LenG.map ?_; conv => whnf) | (refine LenG.go ?_; conv => whnf)
  refine Br.mk (fun hq => ?_) (fun hq => ?_) <;> conv => whnf
  · have hlt : i < a.length := by simpa using hq
    refine Ix.at (l := a) hlt rfl ?_; conv => whnf
    refine Ix.at (l := b) (by omega) rfl ?_; conv => whnf
    rw [int_dec']
    refine Br.mk (fun hq2 => ?_) (fun hq2 => ?_) <;> conv => whnf
    · have : a ≠ b := fun e => by subst e; simp at hq2
      rw [decide_eq_false this]; exact RetG.one rfl
    · refine ⟨m - 1, i + 1, by omega, ⟨by omega, fun j hj => ?_⟩, ?_⟩
      · by_cases e : j = i
        · subst e; simpa using hq2
        · exact hi j (by omega)
      · (conv => whnf); refine ⟨rfl, ?_, ?_⟩ <;> (conv => whnf) <;> (repeat' apply And.intro) <;> first | exact True.intro | rfl | (conv => rhs; whnf)
        exact incr (by omega)
  · have hge : a.length ≤ i := by simpa using hq
    have : a = b := by
      apply List.ext_getElem hlen
      intro j h1 h2
      have := hi j (by omega)
      simpa [gd, h1, h2] using this
    rw [decide_eq_true this]; exact RetG.one rfl
theorem S98 (a b : List (List Int)) (ha : Cn a) (hb : Cn b) (hra : ∀ r ∈ a, Cn r) (hrb : ∀ r ∈ b, Cn r) : Sound Tryz.prog 98 [rowsV a, rowsV b] (.bool (decide (a = b))) := by
  refine ex_intro mixedT T [] Tryz.func98 rfl (by rw [Tryz.ntmps98]; simp) (by kernel_rfl) ?_
  conv => whnf
  repeat' first | (refine LenG.map ?_; conv => whnf) | (refine LenG.go ?_; conv => whnf)
  repeat' first | (refine LenG.map ?_; conv => whnf) | (refine LenG.go ?_; conv => whnf)
  refine Br.mk (fun hq => ?_) (fun hq => ?_) <;> conv => whnf
  · have : a ≠ b := fun e => by subst e; simp at hq
    rw [decide_eq_false this]; exact RetG.one rfl
  have hlen : a.length = b.length := by simp at hq; omega
  refine Lp.go T [] (fun i : Nat => [(0, rowsV a), (1, rowsV b), (5, i64 i)]) (fun _ => []) (fun m i => m + i = a.length ∧ ∀ j, j < i → gd a j = gd b j) a.length 0 ⟨by simp, fun j h => by omega⟩ [] ?_ ?_
  · (conv => whnf); refine ⟨rfl, ?_, ?_⟩ <;> (conv => whnf) <;> (repeat' apply And.intro) <;> first | exact True.intro | rfl | (conv => rhs; whnf)
  rintro m i ⟨hm, hi⟩
  conv => whnf
  repeat' first | (refine LenG.map ?_; conv => whnf) | (refine LenG.go ?_; conv => whnf)
  refine Br.mk (fun hq => ?_) (fun hq => ?_) <;> conv => whnf
  · have hlt : i < a.length := by simpa using hq
    refine Ix.at (l := a) hlt rfl ?_; conv => whnf
    refine Ix.at (l := b) (by omega) rfl ?_; conv => whnf
    refine FnG.go rfl ?_; conv => whnf
    refine CallG.go (S99 _ _ (hra _ (gd_mem hlt)) (hrb _ (gd_mem (i := i) (by omega)))) ?_; conv => whnf
    refine Br.mk (fun hq2 => ?_) (fun hq2 => ?_) <;> conv => whnf
    · have : a ≠ b := fun e => by subst e; simp at hq2
      rw [decide_eq_false this]; exact RetG.one rfl
    · refine ⟨m - 1, i + 1, by omega, ⟨by omega, fun j hj => ?_⟩, ?_⟩
      · by_cases e : j = i
        · subst e; simpa using hq2
        · exact hi j (by omega)
      · (conv => whnf); refine ⟨rfl, ?_, ?_⟩ <;> (conv => whnf) <;> (repeat' apply And.intro) <;> first | exact True.intro | rfl | (conv => rhs; whnf)
        exact incr (by omega)
  · have hge : a.length ≤ i := by simpa using hq
    have : a = b := by
      apply List.ext_getElem hlen
      intro j h1 h2
      have := hi j (by omega)
      simpa [gd, h1, h2] using this
    rw [decide_eq_true this]; exact RetG.one rfl
def sumGo (n : GNet) (r : List Int) : Nat → Nat → Int → Int
  | 0, _, c => c
  | m + 1, i, c => sumGo n r m (i + 1) (W (W (c + lossLk n (gd r i) (gd r (i + 1))) + 1))
def sumR (n : GNet) (r : List Int) : Int := sumGo n r (r.length - 1) 0 0
theorem S134 (n : GNet) (hn : n.ok) (r : List Int) (hr : Cn r) (hw : ∀ i, i + 1 < r.length → 0 ≤ findLk n (gd r i) (gd r (i + 1))) : Sound Tryz.prog 134 [n.v, intsV r] (i64 (sumR n r)) := by
  obtain ⟨R, hR⟩ : ∃ R, sumR n r = R := ⟨_, rfl⟩
  rw [hR]
  refine ex_intro mixedT T [] Tryz.func134 rfl (by rw [Tryz.ntmps134]; simp) (by kernel_rfl) ?_
  conv => whnf
  repeat' first | (refine LenG.map ?_; conv => whnf) | (refine LenG.go ?_; conv => whnf)
  refine Lp.go T [.t 2] (fun (a : Nat × Int) => [(1, intsV r), (2, .op 0 0), (5, i64 a.2), (6, i64 ((a.1 + 1 : Nat) : Int))]) (fun _ => [.box n.c]) (fun m a => m + a.1 = r.length ∧ R = sumGo n r (r.length - 1 - a.1) a.1 a.2) r.length (0, 0) ⟨by simp, hR.symm⟩ [.t 2] ?_ ?_
  · (conv => whnf); refine ⟨rfl, ?_, ?_⟩ <;> (conv => whnf) <;> (repeat' apply And.intro) <;> first | exact True.intro | rfl | (conv => rhs; whnf)
  rintro m ⟨i, c⟩ ⟨hm, hi⟩
  simp only at hm hi ⊢
  conv => whnf
  repeat' first | (refine LenG.map ?_; conv => whnf) | (refine LenG.go ?_; conv => whnf)
  refine Br.mk (fun hq => ?_) (fun hq => ?_) <;> conv => whnf
  · have hlt : i + 1 < r.length := by have := of_decide_eq_true hq; omega
    rw [show r.length - 1 - i = (r.length - 1 - (i + 1)) + 1 by omega, sumGo] at hi
    refine Ix.pred (l := r) (i := i + 1) (by omega) (by omega) hr rfl ?_; conv => whnf
    refine Ix.at (l := r) hlt rfl ?_; conv => whnf
    refine FnG.go rfl ?_; conv => whnf
    refine CallG.go (S209 n hn _ _ (hw i hlt)) ?_; conv => whnf
    refine ⟨m - 1, (i + 1, W (W (c + lossLk n (gd r i) (gd r (i + 1))) + 1)), by omega, ⟨by simp only; omega, hi⟩, ?_⟩
    (conv => whnf); refine ⟨rfl, ?_, ?_⟩ <;> (conv => whnf) <;> (repeat' apply And.intro) <;> first | exact True.intro | rfl | (conv => rhs; whnf)
    exact incr (by omega)
  · have : r.length ≤ i + 1 := by have := of_decide_eq_false hq; omega
    rw [show r.length - 1 - i = 0 by omega, sumGo] at hi
    rw [hi]; exact RetG.one rfl
end Go.Proofs.YtbaajjihhdmdpaaGreatDoor

namespace Go.Proofs.YtbaajjihhdmdpaaGreatDoor
open Go.RowKit
set_option linter.unusedSectionVars false
set_option linter.unusedVariables false
set_option linter.unusedSimpArgs false
set_option linter.unnecessarySimpa false
set_option maxRecDepth 100000
set_option maxHeartbeats 4000000

theorem any_gd {α : Type} [Inhabited α] {l : List α} {p : α → Bool} {i : Nat} (h : i < l.length) (hp : p (gd l i) = true) : l.any p = true := List.any_eq_true.2 ⟨_, gd_mem h, hp⟩
theorem none_gd {α : Type} [Inhabited α] {l : List α} {p : α → Bool} (h : ∀ j, j < l.length → p (gd l j) = false) : l.any p = false := by
  rw [List.any_eq_false]
  intro x hx
  obtain ⟨i, hi, rfl⟩ := List.getElem_of_mem hx
  have := h i hi
  rw [show gd l i = l[i] by simp [gd, List.getD, hi]] at this
  rw [this]; simp
theorem upto_succ {p : Nat → Prop} {i : Nat} (h : ∀ j, j < i → p j) (k : p i) : ∀ j, j < i + 1 → p j := fun j hj => by
  rcases Nat.lt_succ_iff_lt_or_eq.1 hj with h1 | rfl
  · exact h j h1
  · exact k
def longR (r : List Int) : Bool := decide ((r.length : Int) > 12)
def few37 (n : GNet) (s : GSched) (l : List (List Int)) : Bool := if l.any longR then false else fewNet n && decide ((s.cells.length : Int) ≤ 24) && decide ((l.length : Int) ≤ 3)
theorem S82 (n : GNet) (hn : n.ok) (s : GSched) (hs : Cn s.cells) (l : List (List Int)) (hl : Cn l) : Sound Tryz.prog 82 [n.v, s.v, rowsV l] (.bool (few37 n s l)) := by
  obtain ⟨R, hR⟩ : ∃ R, few37 n s l = R := ⟨_, rfl⟩
  rw [hR]
  unfold few37 at hR
  refine ex_intro mixedT T [] Tryz.func82 rfl (by rw [Tryz.ntmps82]; simp) (by kernel_rfl) ?_
  conv => whnf
  repeat' first | (refine LenG.map ?_; conv => whnf) | (refine LenG.go ?_; conv => whnf)
  refine Lp.go T [.t 3, .t 4] (fun i : Nat => [(2, rowsV l), (3, .op 0 0), (4, .op 1 0), (7, i64 i)]) (fun _ => [.box n.c, .box s.c]) (fun m i => m + i = l.length ∧ ∀ j, j < i → longR (gd l j) = false) l.length 0 ⟨by simp, by simp⟩ [.t 3, .t 4] ?_ ?_
  · (conv => whnf); refine ⟨rfl, ?_, ?_⟩ <;> (conv => whnf) <;> (repeat' apply And.intro) <;> first | exact True.intro | rfl | (conv => rhs; whnf)
  rintro m i ⟨hm, hi⟩
  conv => whnf
  repeat' first | (refine LenG.map ?_; conv => whnf) | (refine LenG.go ?_; conv => whnf)
  refine Br.mk (fun hq => ?_) (fun hq => ?_) <;> conv => whnf
  · have hlt : i < l.length := by simpa using hq
    refine Ix.at (l := l) hlt rfl ?_; conv => whnf
    repeat' first | (refine LenG.map ?_; conv => whnf) | (refine LenG.go ?_; conv => whnf)
    refine Br.mk (fun hq2 => ?_) (fun hq2 => ?_) <;> conv => whnf
    · rw [if_pos (any_gd hlt hq2)] at hR
      rw [← hR]; exact RetG.one rfl
    · refine ⟨m - 1, i + 1, by omega, ⟨by omega, upto_succ hi hq2⟩, ?_⟩
      (conv => whnf); refine ⟨rfl, ?_, ?_⟩ <;> (conv => whnf) <;> (repeat' apply And.intro) <;> first | exact True.intro | rfl | (conv => rhs; whnf)
      exact incr (by omega)
  · have hge : l.length ≤ i := by simpa using hq
    rw [if_neg (by rw [none_gd fun j hj => hi j (by omega)]; simp)] at hR
    rw [← hR]
    clear hR hi hm hq
    repeat' first
      | (refine Br.T ?_; conv => whnf)
      | (refine Br.F ?_; conv => whnf)
      | (refine Br.mk (fun hq => ?_) (fun hq => ?_) <;> conv => whnf)
      | (refine FnG.go rfl ?_; conv => whnf)
      | (refine LenG.map ?_; conv => whnf)
      | (refine LenG.go ?_; conv => whnf)
      | (refine CallG.go (S18 n hn) ?_; conv => whnf)
    all_goals (refine RetG.one ?_; simp only [ret1, *, Bool.true_or, Bool.false_or, Bool.or_true, Bool.or_false, Bool.true_and, Bool.false_and, Bool.and_true, Bool.and_false, Bool.not_true, Bool.not_false, if_true, if_false, Bool.false_eq_true, reduceIte])
def bigReq (n : GNet) (x : GReq) : Bool := !few37 n zeroS x.routes
def few38 (n : GNet) (q : List GReq) (s : GSched) : Bool := if q.any (bigReq n) then false else fewNet n && decide ((q.length : Int) ≤ 4) && decide ((s.cells.length : Int) ≤ 30)
theorem S25 (n : GNet) (hn : n.ok) (q : List GReq) (hql : Cn q) (hx : ∀ x ∈ q, x.ok) (s : GSched) (hs : Cn s.cells) : Sound Tryz.prog 25 [n.v, reqsV q, s.v] (.bool (few38 n q s)) := by
  obtain ⟨R, hR⟩ : ∃ R, few38 n q s = R := ⟨_, rfl⟩
  rw [hR]
  unfold few38 at hR
  refine ex_intro mixedT T [] Tryz.func25 rfl (by rw [Tryz.ntmps25]; simp) (by kernel_rfl) ?_
  conv => whnf
  repeat' first | (refine LenG.map ?_; conv => whnf) | (refine LenG.go ?_; conv => whnf)
  refine Lp.go T [.t 3, .t 5] (fun i : Nat => [(1, reqsV q), (3, .op 0 0), (5, .op 1 0), (7, i64 i)]) (fun _ => [.box n.c, .box s.c]) (fun m i => m + i = q.length ∧ ∀ j, j < i → bigReq n (gd q j) = false) q.length 0 ⟨by simp, by simp⟩ [.t 3, .t 5] ?_ ?_
  · (conv => whnf); refine ⟨rfl, ?_, ?_⟩ <;> (conv => whnf) <;> (repeat' apply And.intro) <;> first | exact True.intro | rfl | (conv => rhs; whnf)
  rintro m i ⟨hm, hi⟩
  conv => whnf
  repeat' first | (refine LenG.map ?_; conv => whnf) | (refine LenG.go ?_; conv => whnf)
  refine Br.mk (fun hq => ?_) (fun hq => ?_) <;> conv => whnf
  · have hlt : i < q.length := by simpa using hq
    have hxo := hx _ (gd_mem hlt)
    refine Ix.at (l := q) hlt rfl ?_; conv => whnf
    refine FnG.go rfl ?_; conv => whnf
    refine CallG.go (S82 n hn zeroS (by decide) (gd q i).routes hxo.routes) ?_; conv => whnf
    refine Br.mk (fun hq2 => ?_) (fun hq2 => ?_) <;> conv => whnf
    · rw [if_pos (any_gd hlt hq2)] at hR
      rw [← hR]; exact RetG.one rfl
    · refine ⟨m - 1, i + 1, by omega, ⟨by omega, upto_succ hi hq2⟩, ?_⟩
      (conv => whnf); refine ⟨rfl, ?_, ?_⟩ <;> (conv => whnf) <;> (repeat' apply And.intro) <;> first | exact True.intro | rfl | (conv => rhs; whnf)
      exact incr (by omega)
  · have hge : q.length ≤ i := by simpa using hq
    rw [if_neg (by rw [none_gd fun j hj => hi j (by omega)]; simp)] at hR
    rw [← hR]
    clear hR hi hm hq
    repeat' first
      | (refine Br.T ?_; conv => whnf)
      | (refine Br.F ?_; conv => whnf)
      | (refine Br.mk (fun hq => ?_) (fun hq => ?_) <;> conv => whnf)
      | (refine FnG.go rfl ?_; conv => whnf)
      | (refine LenG.map ?_; conv => whnf)
      | (refine LenG.go ?_; conv => whnf)
      | (refine CallG.go (S18 n hn) ?_; conv => whnf)
    all_goals (refine RetG.one ?_; simp only [ret1, *, Bool.true_or, Bool.false_or, Bool.or_true, Bool.or_false, Bool.true_and, Bool.false_and, Bool.and_true, Bool.and_false, Bool.not_true, Bool.not_false, if_true, if_false, Bool.false_eq_true, reduceIte])
end Go.Proofs.YtbaajjihhdmdpaaGreatDoor

namespace Go.Proofs.YtbaajjihhdmdpaaGreatDoor
open Go.RowKit
set_option linter.unusedSectionVars false
set_option linter.unusedVariables false
set_option linter.unusedSimpArgs false
set_option linter.unnecessarySimpa false
set_option maxRecDepth 100000
set_option maxHeartbeats 4000000

def twiceQ (r : List Int) (i : Nat) : Bool := (List.range i).any fun k => gd r i == gd r k
def strayR (n : GNet) (r : List Int) (i : Nat) : Bool := !isNode n (gd r i)
def faultR3 (n : GNet) (a b : Int) (r : List Int) : Int :=
  if decide ((r.length : Int) < 2) then 9 else if decide (W ((r.length : Int) - 1) > 8) then 8
  else if (List.range r.length).any (strayR n r) then 2
  else if (gi r 0 != a) || gi r (W ((r.length : Int) - 1)) != b then 11
  else if (List.range r.length).any (twiceQ r) then 6
  else if (List.range (r.length - 1)).any (brokeR n r) then 17 else 0
theorem S224 (n : GNet) (hn : n.ok) (hml : n.margin.length = n.links.length) (a b : Int) (r : List Int) (hr : Cn r) : Sound Tryz.prog 224 [n.v, i64 a, i64 b, intsV r] (i64 (faultR3 n a b r)) := by
  obtain ⟨R, hR⟩ : ∃ R, faultR3 n a b r = R := ⟨_, rfl⟩
  rw [hR]
  unfold faultR3 at hR
  have hrl : r.length < 4611686018427387904 := hr
  have hW : W ((r.length : Int) - 1) = (r.length : Int) - 1 := w64 (by omega)
  refine ex_intro mixedT T [] Tryz.func224 rfl (by rw [Tryz.ntmps224]; simp) (by kernel_rfl) ?_
  conv => whnf
  repeat' first | (refine LenG.map ?_; conv => whnf) | (refine LenG.go ?_; conv => whnf)
  repeat' first | (refine LenG.map ?_; conv => whnf) | (refine LenG.go ?_; conv => whnf)
  refine Br.mk (fun hq1 => ?_) (fun hq1 => ?_) <;> conv => whnf
  · rw [if_pos hq1] at hR; rw [← hR]; exact RetG.one rfl
  rw [if_neg (by rw [hq1]; simp)] at hR
  repeat' first | (refine LenG.map ?_; conv => whnf) | (refine LenG.go ?_; conv => whnf)
  refine Br.mk (fun hq2 => ?_) (fun hq2 => ?_) <;> conv => whnf
  · rw [if_pos hq2] at hR; rw [← hR]; exact RetG.one rfl
  rw [if_neg (by rw [hq2]; simp)] at hR
  have hlo : 2 ≤ r.length := by simp at hq1; omega
  refine Lp.go T [.t 4] (fun i : Nat => [(1, i64 a), (2, i64 b), (3, intsV r), (4, .op 0 0), (9, i64 i)]) (fun _ => [.box n.c]) (fun m i => m + i = r.length ∧ ∀ j, j < i → strayR n r j = false) r.length 0 ⟨by simp, by simp⟩ [.t 4] ?_ ?_
  · (conv => whnf); refine ⟨rfl, ?_, ?_⟩ <;> (conv => whnf) <;> (repeat' apply And.intro) <;> first | exact True.intro | rfl | (conv => rhs; whnf)
  rintro m i ⟨hm, hi⟩
  conv => whnf
  repeat' first | (refine LenG.map ?_; conv => whnf) | (refine LenG.go ?_; conv => whnf)
  refine Br.mk (fun hq => ?_) (fun hq => ?_) <;> conv => whnf
  · have hlt : i < r.length := by simpa using hq
    refine Ix.at (l := r) hlt rfl ?_; conv => whnf
    refine FnG.go rfl ?_; conv => whnf
    refine CallG.go (S282 n _) ?_; conv => whnf
    refine Br.mk (fun hqa => ?_) (fun hqa => ?_) <;> conv => whnf
    · rw [if_pos (any_upTo hlt hqa)] at hR; rw [← hR]; exact RetG.one rfl
    · refine ⟨m - 1, i + 1, by omega, ⟨by omega, fun j hj => ?_⟩, ?_⟩
      · rcases Nat.lt_succ_iff_lt_or_eq.1 hj with h | rfl
        · exact hi j h
        · exact hqa
      (conv => whnf); refine ⟨rfl, ?_, ?_⟩ <;> (conv => whnf) <;> (repeat' apply And.intro) <;> first | exact True.intro | rfl | (conv => rhs; whnf)
      exact incr (by omega)
  have hge : r.length ≤ i := by simpa using hq
  rw [any_none (fun j hj => hi j (by omega)), if_neg (by simp)] at hR
  clear hi hm hq
  refine Ix.int (l := r) (by constructor <;> simp <;> omega) rfl ?_; conv => whnf
  have fin11 : ((gi r 0 != a) || gi r (W ((r.length : Int) - 1)) != b) = true → R = 11 := fun h => by rw [if_pos h] at hR; exact hR.symm
  have rest : ((gi r 0 != a) || gi r (W ((r.length : Int) - 1)) != b) = false → R = if (List.range r.length).any (twiceQ r) then 6 else if (List.range (r.length - 1)).any (brokeR n r) then 17 else 0 := fun h => by rw [if_neg (by rw [h]; simp)] at hR; exact hR.symm
  clear hR
  refine Br.mk (fun hq3 => ?_) (fun hq3 => ?_) <;> conv => whnf
  · repeat' first | (refine Br.T ?_; conv => whnf)
    rw [fin11 (by rw [hq3]; rfl)]; exact RetG.one rfl
  repeat' first | (refine LenG.map ?_; conv => whnf) | (refine LenG.go ?_; conv => whnf)
  refine Ix.int (l := r) (by rw [show IntKind.i64.wrap ((r.length : Int) - 1) = (r.length : Int) - 1 from hW]; omega) rfl ?_; conv => whnf
  refine Br.mk (fun hq4 => ?_) (fun hq4 => ?_) <;> conv => whnf
  · rw [fin11 (by rw [hq3, hq4]; rfl)]; exact RetG.one rfl
  have hR := rest (by rw [hq3, hq4]; rfl)
  clear rest fin11
  refine Lp.go T [.t 4] (fun i : Nat => [(3, intsV r), (4, .op 0 0), (10, i64 i)]) (fun _ => [.box n.c]) (fun m i => m + i = r.length ∧ ∀ j, j < i → twiceQ r j = false) r.length 0 ⟨by simp, by simp⟩ [.t 4] ?_ ?_
  · (conv => whnf); refine ⟨rfl, ?_, ?_⟩ <;> (conv => whnf) <;> (repeat' apply And.intro) <;> first | exact True.intro | rfl | (conv => rhs; whnf)
  rintro m i ⟨hm, hi⟩
  conv => whnf
  repeat' first | (refine LenG.map ?_; conv => whnf) | (refine LenG.go ?_; conv => whnf)
  refine Br.mk (fun hq => ?_) (fun hq => ?_) <;> conv => whnf
  · have hlt : i < r.length := by simpa using hq
    refine Lp.go T [.t 4] (fun k : Nat => [(3, intsV r), (4, .op 0 0), (10, i64 i), (11, i64 k)]) (fun _ => [.box n.c]) (fun m k => m + k = i ∧ ∀ j, j < k → (gd r i == gd r j) = false) i 0 ⟨by simp, by simp⟩ [.t 4] ?_ ?_
    · (conv => whnf); refine ⟨rfl, ?_, ?_⟩ <;> (conv => whnf) <;> (repeat' apply And.intro) <;> first | exact True.intro | rfl | (conv => rhs; whnf)
    rintro m2 k ⟨hm2, hk⟩
    conv => whnf
    refine Br.mk (fun hqa => ?_) (fun hqa => ?_) <;> conv => whnf
    · have hkl : k < i := by simpa using hqa
      refine Ix.at (l := r) hlt rfl ?_; conv => whnf
      refine Ix.at (l := r) (by omega) rfl ?_; conv => whnf
      refine Br.mk (fun hqb => ?_) (fun hqb => ?_) <;> conv => whnf
      · rw [if_pos (any_upTo hlt (any_upTo hkl hqb))] at hR; rw [← hR]; exact RetG.one rfl
      · refine ⟨m2 - 1, k + 1, by omega, ⟨by omega, fun j hj => ?_⟩, ?_⟩
        · rcases Nat.lt_succ_iff_lt_or_eq.1 hj with h | rfl
          · exact hk j h
          · exact hqb
        (conv => whnf); refine ⟨rfl, ?_, ?_⟩ <;> (conv => whnf) <;> (repeat' apply And.intro) <;> first | exact True.intro | rfl | (conv => rhs; whnf)
        exact incr (by omega)
    · have hge : i ≤ k := by simpa using hqa
      refine ⟨m - 1, i + 1, by omega, ⟨by omega, fun j hj => ?_⟩, ?_⟩
      · rcases Nat.lt_succ_iff_lt_or_eq.1 hj with h | rfl
        · exact hi j h
        · exact any_none (fun q hq => hk q (by omega))
      (conv => whnf); refine ⟨rfl, ?_, ?_⟩ <;> (conv => whnf) <;> (repeat' apply And.intro) <;> first | exact True.intro | rfl | (conv => rhs; whnf)
      exact incr (by omega)
  have hge2 : r.length ≤ i := by simpa using hq
  rw [any_none (fun j hj => hi j (by omega)), if_neg (by simp)] at hR
  clear hi hm hq
  refine Lp.go T [.t 4] (fun i : Nat => [(3, intsV r), (4, .op 0 0), (12, i64 ((i + 1 : Nat) : Int))]) (fun _ => [.box n.c]) (fun m i => m + i = r.length ∧ ∀ j, j < i → brokeR n r j = false) r.length 0 ⟨by simp, by simp⟩ [.t 4] ?_ ?_
  · (conv => whnf); refine ⟨rfl, ?_, ?_⟩ <;> (conv => whnf) <;> (repeat' apply And.intro) <;> first | exact True.intro | rfl | (conv => rhs; whnf)
  rintro m i ⟨hm, hi⟩
  conv => whnf
  repeat' first | (refine LenG.map ?_; conv => whnf) | (refine LenG.go ?_; conv => whnf)
  refine Br.mk (fun hq => ?_) (fun hq => ?_) <;> conv => whnf
  · have hlt : i + 1 < r.length := by have := of_decide_eq_true hq; omega
    refine Ix.pred (l := r) (i := i + 1) (by omega) (by omega) hr rfl ?_; conv => whnf
    refine Ix.at (l := r) hlt rfl ?_; conv => whnf
    refine FnG.go rfl ?_; conv => whnf
    refine CallG.go (S77 n hn hml _ _) ?_; conv => whnf
    refine Br.mk (fun hqa => ?_) (fun hqa => ?_) <;> conv => whnf
    · rw [if_pos (any_upTo (i := i) (by omega) hqa)] at hR; rw [← hR]; exact RetG.one rfl
    · refine ⟨m - 1, i + 1, by omega, ⟨by omega, fun j hj => ?_⟩, ?_⟩
      · rcases Nat.lt_succ_iff_lt_or_eq.1 hj with h | rfl
        · exact hi j h
        · exact hqa
      (conv => whnf); refine ⟨rfl, ?_, ?_⟩ <;> (conv => whnf) <;> (repeat' apply And.intro) <;> first | exact True.intro | rfl | (conv => rhs; whnf)
      exact incr (by omega)
  have hge3 : r.length ≤ i + 1 := by have := of_decide_eq_false hq; omega
  rw [any_none (fun j hj => hi j (by omega)), if_neg (by simp)] at hR
  rw [← hR]; exact RetG.one rfl
def checkR3 (n : GNet) (a b : Int) (r : List Int) : Int := if endsR n a b != 0 then endsR n a b else faultR3 n a b r
theorem endsR_ok {n : GNet} {a b : Int} (h : (endsR n a b != 0) = false) : netErr n = 0 := by
  unfold endsR at h
  split at h
  · simp at h
  · simp_all
theorem S147 (n : GNet) (hn : n.ok) (a b : Int) (r : List Int) (hr : Cn r) : Sound Tryz.prog 147 [n.v, i64 a, i64 b, intsV r] (i64 (checkR3 n a b r)) := by
  refine ex_intro mixedT T [] Tryz.func147 rfl (by rw [Tryz.ntmps147]; simp) (by kernel_rfl) ?_
  conv => whnf
  repeat' first | (refine LenG.map ?_; conv => whnf) | (refine LenG.go ?_; conv => whnf)
  repeat' first
    | (refine Br.T ?_; conv => whnf)
    | (refine Br.F ?_; conv => whnf)
    | (refine Br.mk (fun hq => ?_) (fun hq => ?_) <;> conv => whnf)
    | (refine FnG.go rfl ?_; conv => whnf)
    | (refine LenG.map ?_; conv => whnf)
    | (refine LenG.go ?_; conv => whnf)
    | (refine CallG.go (S223 n hn a b) ?_; conv => whnf)
    | (refine CallG.go (S224 n hn (netOk_of (endsR_ok (by assumption))).margin a b r hr) ?_; conv => whnf)
  all_goals (refine RetG.one ?_; delta checkR3; simp only [ret1, *, Bool.true_or, Bool.false_or, Bool.or_true, Bool.or_false, Bool.true_and, Bool.false_and, Bool.and_true, Bool.and_false, Bool.not_true, Bool.not_false, if_true, if_false, Bool.false_eq_true, reduceIte])
end Go.Proofs.YtbaajjihhdmdpaaGreatDoor

namespace Go.Proofs.YtbaajjihhdmdpaaGreatDoor
open Go.RowKit
set_option linter.unusedSectionVars false
set_option linter.unusedVariables false
set_option linter.unusedSimpArgs false
set_option linter.unnecessarySimpa false
set_option maxRecDepth 100000
set_option maxHeartbeats 4000000

theorem S48 (q : List GReq) (hq : q.length ≤ 100000000) : Sound Tryz.prog 48 [reqsV q] (flowsV (flowsOf q)) := by
  refine ex_intro mixedT T [] Tryz.func48 rfl (by rw [Tryz.ntmps48]; simp) (by kernel_rfl) ?_
  conv => whnf
  repeat' first | (refine LenG.map ?_; conv => whnf) | (refine LenG.go ?_; conv => whnf)
  refine Lp.goZ T [.t 3] [.t 3 44] (fun i : Nat => [(0, reqsV q), (3, .sl (.tag 0) ((flowsOf (q.take i)).map GFlow.c)), (4, i64 i)]) (fun i => [.live 44 6 (flowsOf (q.take i)).length]) (fun m i => m + i = q.length) q.length 0 (by simp) [.t 3] ?_ ?_
  · (conv => whnf); refine ⟨rfl, ?_, ?_⟩ <;> (conv => whnf) <;> (repeat' apply And.intro) <;> first | exact True.intro | rfl | (conv => rhs; whnf)
  rintro m i hm
  conv => whnf
  repeat' first | (refine LenG.map ?_; conv => whnf) | (refine LenG.go ?_; conv => whnf)
  refine Br.mk (fun hq => ?_) (fun hq => ?_) <;> conv => whnf
  · have hlt : i < q.length := by simpa using hq
    have htk : flowsOf (q.take (i + 1)) = flowsOf (q.take i) ++ [(gd q i).flow] := by
      unfold flowsOf
      rw [List.take_add_one, gd_get hlt, List.map_append]; rfl
    refine Ix.at (l := q) hlt rfl ?_; conv => whnf
    refine ⟨appOk (by decide) (by simp [flowsOf]; omega) ⟨rfl, rfl⟩, ?_⟩; conv => whnf
    refine ⟨by simp, ?_⟩; conv => whnf
    refine ⟨m - 1, i + 1, by omega, by omega, ?_⟩
    (conv => whnf); refine ⟨rfl, ?_, ?_⟩ <;> (conv => whnf) <;> (repeat' apply And.intro) <;> first | exact True.intro | rfl | (conv => rhs; whnf)
    · rw [htk]; exact snocV
    · exact incr (by omega)
    · rw [htk]; exact snocH
  · have : q.length ≤ i := by simpa using hq
    rw [List.take_of_length_le this]
    exact RetG.one rfl
def routeAt3 (n : GNet) (x : GReq) (i : Nat) : Int := checkR3 n x.flow.from_ x.flow.to_ (gd x.routes i)
def routesR (n : GNet) (x : GReq) : Int :=
  if (x.routes.length : Int) == 0 then 14 else if decide ((x.routes.length : Int) > 2) then 8
  else if scan (routeAt3 n x) x.routes.length 0 != 0 then scan (routeAt3 n x) x.routes.length 0
  else if (x.routes.length : Int) == 2 && decide (gi x.routes 0 = gi x.routes 1) then 6 else 0
def reqAtR (n : GNet) (q : List GReq) (i : Nat) : Int := routesR n (gd q i)
def reqsR (n : GNet) (q : List GReq) : Int × Int :=
  if netErr n != 0 then (-1, 1) else if (flowsR n.nodes (flowsOf q)).2 != 0 then flowsR n.nodes (flowsOf q)
  else firstE (reqAtR n q) q.length 0
theorem S61 (n : GNet) (hn : n.ok) (q : List GReq) (hql : q.length ≤ 100000000) (hx : ∀ x ∈ q, x.ok) : Sound Tryz.prog 61 [n.v, reqsV q] (.tup [i64 (reqsR n q).1, i64 (reqsR n q).2]) := by
  have hfl : Cn (flowsOf q) := by unfold flowsOf; simp; omega
  refine ex_intro mixedT T [] Tryz.func61 rfl (by rw [Tryz.ntmps61]; simp) (by kernel_rfl) ?_
  conv => whnf
  repeat' first | (refine LenG.map ?_; conv => whnf) | (refine LenG.go ?_; conv => whnf)
  repeat' first
    | (refine Br.T ?_; conv => whnf)
    | (refine Br.F ?_; conv => whnf)
    | (refine Br.mk (fun hq => ?_) (fun hq => ?_) <;> conv => whnf)
    | (refine FnG.go rfl ?_; conv => whnf)
    | (refine LenG.map ?_; conv => whnf)
    | (refine LenG.go ?_; conv => whnf)
    | (refine CallG.go (S44 n hn) ?_; conv => whnf)
    | (refine CallG.go (S48 q hql) ?_; conv => whnf)
    | (refine CallG.go (S146 n.nodes (flowsOf q) hfl) ?_; conv => whnf)
  · refine RetG.two ?_ ?_ <;> (delta reqsR; simp only [ret1, *, Bool.true_or, Bool.false_or, Bool.or_true, Bool.or_false, Bool.true_and, Bool.false_and, Bool.and_true, Bool.and_false, Bool.not_true, Bool.not_false, if_true, if_false, Bool.false_eq_true, reduceIte])
  · refine RetG.two ?_ ?_ <;> (delta reqsR; simp only [ret1, *, Bool.true_or, Bool.false_or, Bool.or_true, Bool.or_false, Bool.true_and, Bool.false_and, Bool.and_true, Bool.and_false, Bool.not_true, Bool.not_false, if_true, if_false, Bool.false_eq_true, reduceIte])
  have hR : reqsR n q = firstE (reqAtR n q) q.length 0 := by delta reqsR; simp only [*, Bool.true_or, Bool.false_or, Bool.or_true, Bool.or_false, Bool.true_and, Bool.false_and, Bool.and_true, Bool.and_false, Bool.not_true, Bool.not_false, if_true, if_false, Bool.false_eq_true, reduceIte]
  rw [hR]
  refine Lp.go T [.t 2] (fun i : Nat => [(1, reqsV q), (2, .op 0 0), (8, i64 i)]) (fun _ => [.box n.c]) (fun m i => m + i = q.length ∧ firstE (reqAtR n q) q.length 0 = firstE (reqAtR n q) m i) q.length 0 ⟨by simp, rfl⟩ [.t 2] ?_ ?_
  · (conv => whnf); refine ⟨rfl, ?_, ?_⟩ <;> (conv => whnf) <;> (repeat' apply And.intro) <;> first | exact True.intro | rfl | (conv => rhs; whnf)
  rintro m i ⟨hm, hi⟩
  conv => whnf
  repeat' first | (refine LenG.map ?_; conv => whnf) | (refine LenG.go ?_; conv => whnf)
  refine Br.mk (fun hq => ?_) (fun hq => ?_) <;> conv => whnf
  · have hlt : i < q.length := by simpa using hq
    obtain ⟨m, rfl⟩ : ∃ q, m = q + 1 := ⟨m - 1, by omega⟩
    rw [firstE] at hi
    have hxo := hx _ (gd_mem hlt)
    have hxr := hxo.routes
    refine Ix.at (l := q) hlt rfl ?_; conv => whnf
    obtain ⟨E, hE⟩ : ∃ E, reqAtR n q i = E := ⟨_, rfl⟩
    rw [hE] at hi
    have bad : E ≠ 0 → firstE (reqAtR n q) q.length 0 = ((i : Int), E) := fun h => by rw [hi, if_pos (by simpa using h)]
    have good : E = 0 → firstE (reqAtR n q) q.length 0 = firstE (reqAtR n q) m (i + 1) := fun h => by rw [hi, if_neg (by simp [h])]
    unfold reqAtR routesR at hE
    repeat' first | (refine LenG.map ?_; conv => whnf) | (refine LenG.go ?_; conv => whnf)
    refine Br.mk (fun hq1 => ?_) (fun hq1 => ?_) <;> conv => whnf
    · rw [if_pos hq1] at hE
      rw [bad (by omega), ← hE]; exact RetG.two rfl rfl
    rw [if_neg (by rw [hq1]; simp)] at hE
    repeat' first | (refine LenG.map ?_; conv => whnf) | (refine LenG.go ?_; conv => whnf)
    refine Br.mk (fun hq2 => ?_) (fun hq2 => ?_) <;> conv => whnf
    · rw [if_pos hq2] at hE
      rw [bad (by omega), ← hE]; exact RetG.two rfl rfl
    rw [if_neg (by rw [hq2]; simp)] at hE
    obtain ⟨Z, hZ⟩ : ∃ Z, scan (routeAt3 n (gd q i)) (gd q i).routes.length 0 = Z := ⟨_, rfl⟩
    rw [hZ] at hE
    refine Lp.go T [.t 2] (fun k : Nat => [(1, reqsV q), (2, .op 0 0), (8, i64 i), (9, rowsV (gd q i).routes), (10, i64 k)]) (fun _ => [.box n.c]) (fun m k => m + k = (gd q i).routes.length ∧ Z = scan (routeAt3 n (gd q i)) m k) (gd q i).routes.length 0 ⟨by simp, hZ.symm⟩ [.t 2] ?_ ?_
    · (conv => whnf); refine ⟨rfl, ?_, ?_⟩ <;> (conv => whnf) <;> (repeat' apply And.intro) <;> first | exact True.intro | rfl | (conv => rhs; whnf)
    rintro m2 k ⟨hm2, hk⟩
    conv => whnf
    repeat' first | (refine LenG.map ?_; conv => whnf) | (refine LenG.go ?_; conv => whnf)
    refine Br.mk (fun hqa => ?_) (fun hqa => ?_) <;> conv => whnf
    · have hkl : k < (gd q i).routes.length := by simpa using hqa
      obtain ⟨m2, rfl⟩ : ∃ q, m2 = q + 1 := ⟨m2 - 1, by omega⟩
      rw [scan] at hk
      refine Ix.at (l := q) hlt rfl ?_; conv => whnf
      refine Ix.at (l := q) hlt rfl ?_; conv => whnf
      refine Ix.at (l := (gd q i).routes) hkl rfl ?_; conv => whnf
      refine FnG.go rfl ?_; conv => whnf
      refine CallG.go (S147 n hn _ _ (gd (gd q i).routes k) (hxo.rows _ (gd_mem hkl))) ?_; conv => whnf
      refine Br.mk (fun hqb => ?_) (fun hqb => ?_) <;> conv => whnf
      · have hqb2 : (routeAt3 n (gd q i) k != 0) = true := hqb
        rw [if_pos hqb2] at hk
        have hEk : E = routeAt3 n (gd q i) k := by rw [← hE, if_pos (by rw [hk]; exact hqb2)]; exact hk
        rw [bad (by rw [hEk]; simpa using hqb2), hEk]; exact RetG.two rfl rfl
      · have hqb2 : (routeAt3 n (gd q i) k != 0) = false := hqb
        refine ⟨m2, k + 1, by omega, ⟨by omega, by rw [hk, hqb2]; rfl⟩, ?_⟩
        (conv => whnf); refine ⟨rfl, ?_, ?_⟩ <;> (conv => whnf) <;> (repeat' apply And.intro) <;> first | exact True.intro | rfl | (conv => rhs; whnf)
        exact incr (by omega)
    obtain rfl : m2 = 0 := by
      have : (gd q i).routes.length ≤ k := by simpa using hqa
      omega
    have hZ0 : Z = 0 := hk
    rw [if_neg (by simp [hZ0])] at hE
    repeat' first | (refine LenG.map ?_; conv => whnf) | (refine LenG.go ?_; conv => whnf)
    refine Br.mk (fun hqc => ?_) (fun hqc => ?_) <;> conv => whnf
    · have h2 : (gd q i).routes.length = 2 := by have := eq_of_beq hqc; omega
      refine Ix.int (l := (gd q i).routes) ⟨by decide, by show 0 < (gd q i).routes.length; omega⟩ rfl ?_; conv => whnf
      refine Ix.int (l := (gd q i).routes) ⟨by decide, by show 1 < (gd q i).routes.length; omega⟩ rfl ?_; conv => whnf
      refine FnG.go rfl ?_; conv => whnf
      refine CallG.go (S99 _ _ (hxo.rows _ (gd_mem (i := 0) (by omega))) (hxo.rows _ (gd_mem (i := 1) (by omega)))) ?_; conv => whnf
      refine Br.mk (fun hqd => ?_) (fun hqd => ?_) <;> conv => whnf
      · rw [hqc, hqd] at hE
        have hE : 6 = E := hE
        rw [bad (by omega), ← hE]; exact RetG.two rfl rfl
      · rw [hqc, hqd] at hE
        have hE : 0 = E := hE
        refine ⟨m, i + 1, by omega, ⟨by omega, good hE.symm⟩, ?_⟩
        (conv => whnf); refine ⟨rfl, ?_, ?_⟩ <;> (conv => whnf) <;> (repeat' apply And.intro) <;> first | exact True.intro | rfl | (conv => rhs; whnf)
        exact incr (by omega)
    · repeat' first | (refine Br.F ?_; conv => whnf)
      rw [hqc] at hE
      have hE : 0 = E := hE
      refine ⟨m, i + 1, by omega, ⟨by omega, good hE.symm⟩, ?_⟩
      (conv => whnf); refine ⟨rfl, ?_, ?_⟩ <;> (conv => whnf) <;> (repeat' apply And.intro) <;> first | exact True.intro | rfl | (conv => rhs; whnf)
      exact incr (by omega)
  · obtain rfl : m = 0 := by
      have : q.length ≤ i := by simpa using hq
      omega
    rw [hi]
    exact RetG.two rfl rfl
end Go.Proofs.YtbaajjihhdmdpaaGreatDoor

namespace Go.Proofs.YtbaajjihhdmdpaaGreatDoor
open Go.RowKit
set_option linter.unusedSectionVars false
set_option linter.unusedVariables false
set_option linter.unusedSimpArgs false
set_option linter.unnecessarySimpa false
set_option maxRecDepth 100000
set_option maxHeartbeats 4000000

theorem few38_ok {n : GNet} {q : List GReq} {s : GSched} (h : (!few38 n q s) = false) : q.length ≤ 4 ∧ s.cells.length ≤ 30 := by
  unfold few38 at h
  split at h
  · simp at h
  · simp at h; omega
theorem S9 (n : GNet) (hn : n.ok) (q : List GReq) (hq : q.length ≤ 100000000) (ho : ∀ x ∈ q, x.ok) (s : GSched) (hs : s.cells.length ≤ 100000000) (l : GLink) (x : Int) (hx : 0 ≤ x ∧ x ≤ 255) (y : Int) (hy : 0 ≤ y ∧ y ≤ 255) :
    Sound Tryz.prog 9 [n.v, reqsV q, s.v, l.v, .int .u8 x, .int .u8 y] (.bool true) := by
  have hsC : Cn s.cells := by show s.cells.length < _; omega
  obtain ⟨F, hF⟩ : ∃ F, few38 n q s = F := ⟨_, rfl⟩
  have c25 := S25 n hn q (by show q.length < _; omega) ho s hsC
  rw [hF] at c25
  obtain ⟨K, hK⟩ : ∃ K, schedP n (flowsOf q) s = K := ⟨_, rfl⟩
  obtain ⟨R, hR⟩ : ∃ R, roomP n s l = R := ⟨_, rfl⟩
  have c19 := S19 n hn s hsC l
  rw [hR] at c19
  obtain ⟨A, hA⟩ : ∃ A, addP s (atFree s l x y (gd (flowsOf q) 0).id) = A := ⟨_, rfl⟩
  obtain ⟨b, hb⟩ : ∃ b, inC R.1 (atFree s l x y 0) = b := ⟨_, rfl⟩
  obtain ⟨G, hG⟩ : ∃ G, schedP n (flowsOf q) A.1 = G := ⟨_, rfl⟩
  have hfl : (flowsOf q).length = q.length := by simp [flowsOf]
  have hflC : Cn (flowsOf q) := by show (flowsOf q).length < _; omega
  have two : F = true → decide (s.length > 30) = false → (K.2 != 0) = false → (R.2 ≠ 0 → R.2 = 7 ∧ R.1 = []) ∧ (R.2 = 0 → Cn R.1) := by
    intro g1 g2 g4
    obtain ⟨_, hs30⟩ := few38_ok (n := n) (q := q) (s := s) (by rw [hF, g1]; rfl)
    have hL : s.length ≤ 30 := by simpa using g2
    have hV := (sched_iff n (flowsOf q) s).1 (by rw [hK]; simpa using g4)
    have hb := formR_bd (s := s) (by rw [form_eq]; exact hV.form)
    have hr2 := roomP_two (l := l) hV.net hV.form hL
    rw [hR] at hr2
    refine ⟨hr2.1, fun h => ?_⟩
    show R.1.length < _
    rw [(hr2.2 h).2]
    have := roomUp_len (fitsR n s) l s.offsets.toNat s.length.toNat
    have : s.length.toNat * s.offsets.toNat ≤ 30 * 16 := Nat.mul_le_mul (by omega) (by omega)
    omega
  have law : F = true → decide (s.length > 30) = false → (K.2 != 0) = false → R.2 = 0 → 0 < q.length → (A.2 ≠ 0 → b = false) ∧ (A.2 = 0 → b = (G.2 == 0)) ∧ A.1.cells.length ≤ 1000 ∧ s.length ≠ 0 ∧ s.offsets ≠ 0 := by
    intro g1 g2 g4 g5 g3
    obtain ⟨_, hs30⟩ := few38_ok (n := n) (q := q) (s := s) (by rw [hF, g1]; rfl)
    have hL : s.length ≤ 30 := by simpa using g2
    have hV := (sched_iff n (flowsOf q) s).1 (by rw [hK]; simpa using g4)
    have hbd := formR_bd (s := s) (by rw [form_eq]; exact hV.form)
    have := fills_law (l := l) (x := x) (y := y) (id := (gd (flowsOf q) 0).id) hV hL hs30 hx.1 hy.1 ((findFl_iff _ _).2 ⟨_, gd_mem (i := 0) (by omega), rfl⟩) (by rw [hR]; exact g5)
    rw [hR, hA, hb, hG] at this
    refine ⟨this.1, this.2, ?_, by omega, by omega⟩
    rw [← hA]
    unfold addP
    (repeat' split) <;> simp [zeroS, insC_len] <;> omega
  have small : F = true → s.cells.length ≤ 1000 := fun g1 => by
    obtain ⟨_, hs30⟩ := few38_ok (n := n) (q := q) (s := s) (by rw [hF, g1]; rfl)
    omega
  have c49 : s.cells.length ≤ 1000 → Sound Tryz.prog 49 [n.v, flowsV (flowsOf q), s.v] (.tup [i64 K.1, i64 K.2]) := fun h => by rw [← hK]; exact S49 n hn (flowsOf q) hflC s (by omega)
  have c50 : Cn R.1 → Sound Tryz.prog 50 [cellsV R.1, (atFree s l x y 0).v] (.bool b) := fun h => by rw [← hb]; exact S50 R.1 h _
  have c43 : s.cells.length ≤ 1000 → Sound Tryz.prog 43 [s.v, (atFree s l x y (gd (flowsOf q) 0).id).v] (.tup [A.1.v, i64 A.2]) := fun h => by rw [← hA]; exact S43 s (by omega) _
  have c49b : A.1.cells.length ≤ 1000 → Sound Tryz.prog 49 [n.v, flowsV (flowsOf q), A.1.v] (.tup [i64 G.1, i64 G.2]) := fun h => by rw [← hG]; exact S49 n hn (flowsOf q) hflC A.1 (by omega)
  clear hF hK hR hA hb hG
  have ex : IntKind.i64.wrap x = x := w64 (by omega)
  have ey : IntKind.i64.wrap y = y := w64 (by omega)
  rw [← ex, ← ey] at c50 c43
  refine ex_intro mixedT T [] Tryz.func9 rfl (by rw [Tryz.ntmps9]; simp) (by kernel_rfl) ?_
  conv => whnf
  repeat' first | (refine LenG.map ?_; conv => whnf) | (refine LenG.go ?_; conv => whnf)
  refine FnG.go rfl ?_; conv => whnf
  refine CallG.go S17 ?_; conv => whnf
  repeat' first | (refine Br.T ?_; conv => whnf) | (refine Br.F ?_; conv => whnf)
  refine FnG.go rfl ?_; conv => whnf
  refine CallG.go (S48 q hq) ?_; conv => whnf
  refine FnG.go rfl ?_; conv => whnf
  refine CallG.go c25 ?_; conv => whnf
  cases F with
  | false =>
    refine Br.tt rfl ?_; conv => whnf
    repeat' first | (refine Br.T ?_; conv => whnf) | (refine Br.F ?_; conv => whnf) | (refine LenG.map ?_; conv => whnf)
    exact RetG.one rfl
  | true =>
    refine Br.ff rfl ?_; conv => whnf
    repeat' first | (refine Br.T ?_; conv => whnf) | (refine Br.F ?_; conv => whnf)
    refine Br.mk (fun g2 => ?_) (fun g2 => ?_) <;> conv => whnf
    · repeat' first | (refine Br.T ?_; conv => whnf) | (refine Br.F ?_; conv => whnf) | (refine LenG.map ?_; conv => whnf)
      exact RetG.one rfl
    repeat' first | (refine LenG.map ?_; conv => whnf) | (refine Br.F ?_; conv => whnf)
    refine Br.mk (fun g3 => ?_) (fun g3 => ?_) <;> conv => whnf
    · exact RetG.one rfl
    have hq0 : 0 < q.length := by simp at g3; cases q with | nil => exact absurd rfl g3 | cons a b => simp
    refine FnG.go rfl ?_; conv => whnf
    refine CallG.go (c49 (small rfl)) ?_; conv => whnf
    refine Br.mk (fun g4 => ?_) (fun g4 => ?_) <;> conv => whnf
    · exact RetG.one rfl
    refine FnG.go rfl ?_; conv => whnf
    refine CallG.go c19 ?_; conv => whnf
    refine Br.mk (fun g5 => ?_) (fun g5 => ?_) <;> conv => whnf
    · have e := (two rfl g2 g4).1 (by simpa using g5)
      refine Br.tt (by rw [e.1]; rfl) ?_; conv => whnf
      repeat' first | (refine Br.T ?_; conv => whnf) | (refine LenG.map ?_; conv => whnf)
      exact RetG.one (by simp [ret1, e.2])
    have g5 : R.2 = 0 := by simpa using g5
    have L := law rfl g2 g4 g5 hq0
    refine Nd.go L.2.2.2.1 ?_; conv => whnf
    refine Nd.go L.2.2.2.2 ?_; conv => whnf
    refine FnG.go rfl ?_; conv => whnf
    refine CallG.go (c50 ((two rfl g2 g4).2 g5)) ?_; conv => whnf
    refine Ix.at (l := flowsOf q) (i := 0) (by omega) rfl ?_; conv => whnf
    refine FnG.go rfl ?_; conv => whnf
    refine CallG.go (c43 (small rfl)) ?_; conv => whnf
    refine Br.mk (fun g6 => ?_) (fun g6 => ?_) <;> conv => whnf
    · exact RetG.one (by rw [L.1 (by simpa using g6)]; rfl)
    refine FnG.go rfl ?_; conv => whnf
    refine CallG.go (c49b L.2.2.1) ?_; conv => whnf
    exact RetG.one (by rw [L.2.1 (by simpa using g6)]; simp [ret1])
end Go.Proofs.YtbaajjihhdmdpaaGreatDoor

namespace Go.Proofs.YtbaajjihhdmdpaaGreatDoor.admitFills
open Go.RowKit Go.ChangeShapes Go.WideShapes Go.Deep
set_option linter.unusedVariables false
set_option linter.unusedSimpArgs false
set_option linter.unnecessarySimpa false
set_option maxRecDepth 100000
set_option maxHeartbeats 4000000

abbrev lay : List (String × DataW Unit) := [("math/bits.deBruijn32tab", Rows.laid_math_bits_deBruijn32tab), ("math/bits.deBruijn64tab", Rows.laid_math_bits_deBruijn64tab), ("internal/strconv.uint64pow10", Rows.laid_internal_strconv_uint64pow10)]
abbrev wit : Array Value := #[.agg #[.int .i64 0, .slice none 0 0, .int .i64 0, .int .i64 0, .slice none 0 0, .slice none 0 0], .slice none 0 0, .agg #[.int .i64 0, .int .i64 0, .slice none 0 0], .agg #[.int .i64 0, .int .i64 0, .int .i64 0], .int .u8 0, .int .u8 0]
theorem laid_met (os : Os) : laidMetH Tryz.prog lay ((World.doorLaid Tryz.prog 24 os).forCall (fun _ _ => 0) ⟨#[], wit, []⟩).memory := by
  rw [MakeChecks.laidMetH_plain _ _ _ (by kernel_rfl)]
  exact laidMet_of_run' 8 (by kernel_rfl) (by kernel_rfl)
def readings {H : Type} : List (DataW H) := [.agg [.lit (.int .i64 0), .nil, .lit (.int .i64 0), .lit (.int .i64 0), .nil, .nil], .nil, .agg [.lit (.int .i64 0), .lit (.int .i64 0), .nil], .agg [.lit (.int .i64 0), .lit (.int .i64 0), .lit (.int .i64 0)], .lit (.int .u8 0), .lit (.int .u8 0)]
theorem reads (os : Os) {H : Type} (enc : TypeId × Value → H) : DataW.whole enc Tryz.prog ((World.doorLaid Tryz.prog 24 os).forCall (fun _ _ => 0) ⟨#[], wit, []⟩).memory Tryz.f9.params.toList Rows.admitFillsSpec.vars false wit.toList 8 = some (readings, [], []) := by kernel_rfl

theorem contract (H : Type) (enc : TypeId × Value → H) (W : World) (base : Nat) (args : Array Value) (ds gs : List (DataW H)) (before : List MemPlace)
    (hval : ∀ (j : Nat) t v, Tryz.f9.params[j]? = some t → args[j]? = some v → Value.okWide Tryz.prog W .any base t v)
    (hW : DataW.Whole enc Tryz.prog Tryz.f9.params.toList Rows.admitFillsSpec.vars false W args.toList ds gs before) (hL : laidMetH Tryz.prog lay W) (hk : Rows.uptoSmall H (ds ++ gs) = true) :
    Calls Tryz.prog 9 args W fun e W' => ∃ v, e = .returned v ∧ Rows.admitFillsSpec.post enc Tryz.prog Tryz.f9 false true false false W args v W' := by
  have hW' := hW
  obtain ⟨p, q, hA0, hV, rfl, hfz, hnd⟩ := hW
  have hA : DataW.TrodAll enc Tryz.prog W 0 (fun _ => true) true Tryz.f9.params.toList args.toList ds p := hA0
  rw [Tryz.params9] at hA hval
  obtain ⟨v0, vs0, d0, ds0, p0, q0, hargs, rfl, rfl, h0, r0⟩ := trodAll_cons hA
  obtain ⟨v1, vs1, d1, ds1, p1, q1, rfl, rfl, rfl, h1, r1⟩ := trodAll_cons r0
  obtain ⟨v2, vs2, d2, ds2, p2, q2, rfl, rfl, rfl, h2, r2⟩ := trodAll_cons r1
  obtain ⟨v3, vs3, d3, ds3, p3, q3, rfl, rfl, rfl, h3, r3⟩ := trodAll_cons r2
  obtain ⟨v4, vs4, d4, ds4, p4, q4, rfl, rfl, rfl, h4, r4⟩ := trodAll_cons r3
  obtain ⟨v5, vs5, d5, ds5, p5, q5, rfl, rfl, rfl, h5, r5⟩ := trodAll_cons r4
  obtain ⟨rfl, rfl, rfl⟩ := trodAll_nil r5
  obtain rfl : args = #[v0, v1, v2, v3, v4, v5] := by cases args; simp_all
  obtain ⟨rfl, rfl⟩ := trodVars_none hV
  rw [List.append_nil] at hk
  obtain ⟨n0, k0, b0⟩ := argS Tryz.underlying26 rdNet (hval 0 26 v0 rfl rfl) h0 1048576 (bulk_part hk (by simp))
  obtain ⟨q1, k1, b1, c1⟩ := argL Tryz.underlying42 rdReqs (hval 1 42 v1 rfl rfl) h1 1048576 (bulk_part hk (by simp))
  have o1 : ∀ x ∈ q1, x.ok := fun x hx => req_ok (c1 x hx)
  obtain ⟨s2, k2, b2⟩ := argS Tryz.underlying29 rdSched (hval 2 29 v2 rfl rfl) h2 1048576 (bulk_part hk (by simp))
  obtain ⟨l3, k3, b3⟩ := argS Tryz.underlying31 rdLink (hval 3 31 v3 rfl rfl) h3 1048576 (bulk_part hk (by simp))
  obtain ⟨x4, k4, b4⟩ := argU8 Tryz.underlying5 (hval 4 5 v4 rfl rfl) h4
  obtain ⟨x5, k5, b5⟩ := argU8 Tryz.underlying5 (hval 5 5 v5 rfl rfl) h5
  have hc := S9 n0 (net_ok b0) q1 (Nat.le_trans b1 (by decide)) o1 s2 (Nat.le_trans b2 (by decide)) l3 x4 b4 x5 b5
  refine law_calls (vs := [v0, v1, v2, v3, v4, v5]) hc (tab_of hL) rfl (rep_cons k0 (rep_cons k1 (rep_cons k2 (rep_cons k3 (rep_cons k4 (rep_cons k5 rep_nil)))))) fun W' hb => ?_
  refine post_law hW' rfl (by kernel_rfl) rfl (fun t ht => ?_) hb
  rw [Tryz.params9] at ht
  have hall : ([26, 42, 29, 31, 5, 5].all fun t => Tryz.prog.readableRec t && decide (t < Tryz.prog.types.size)) = true := by kernel_rfl
  simpa using List.all_eq_true.1 hall t ht

theorem lifted (os : Os) (started : os.Started) (H : Type) (enc : TypeId × Value → H) (F : Stop.Interp) :
    ReturnsInHanded {} Tryz.checked os 9 .any ((Rows.OpenSpec.upto Rows.admitFillsSpec).preRow enc Tryz.prog Tryz.f9 Rows.admitFillsUptoRow.domain false Rows.admitFillsUptoRow.laid) (((Rows.OpenSpec.upto Rows.admitFillsSpec).at F).post enc Tryz.prog Tryz.f9 false true false false) := by
  refine returnsInHanded_of_row (C := Tryz.checked) (s := (Rows.OpenSpec.upto Rows.admitFillsSpec)) ownKnob0 started (by kernel_rfl) Tryz.func9
    (witness_row_at (enc := enc) (C := Tryz.checked) false (World.doorLaid Tryz.prog 24 os) wit rfl (by kernel_rfl) (by kernel_rfl) (by kernel_rfl)
      (OpenSpec.preRow_of_cond 8 (reads os enc) (by kernel_rfl) (fun k hk => by cases hk; kernel_rfl) (by kernel_rfl) (laid_met os))) ?_
  intro W base args ds gs before hval hW _ hcond _ hL _ _
  exact contract H enc W base args ds gs before hval hW hL (hcond _ rfl)

theorem joined : joinedFacts Tryz.prog 9 Tryz.f9 (Rows.OpenSpec.upto Rows.admitFillsSpec).bare Rows.admitFillsUptoRow = true := by
  unfold joinedFacts
  simp only [Bool.and_eq_true]
  repeat' apply And.intro
  all_goals as_aux_lemma => kernel_rfl
theorem named : Tryz.prog.funcNamed "hopmesh/hopmeshlaw41.AdmitFills" = some 9 := by kernel_rfl
theorem inst : Func.isInstance Tryz.prog Tryz.f9 Rows.admitFillsUptoRow.origin Rows.admitFillsUptoRow.targs := of_decide_eq_true (by kernel_rfl)
theorem wrap : Func.isWrapper Tryz.prog Tryz.f9 Rows.admitFillsUptoRow.wrapper Rows.admitFillsUptoRow.mainSum := by unfold Func.isWrapper; first | (rw [if_pos (by decide +kernel)]; kernel_rfl) | (rw [if_neg (by decide +kernel)]; exact ⟨rfl, rfl⟩)
theorem saidUpto : Rows.AdmitFillsUptoSaid :=
  OpenClaim.holds_of_cond 9 Tryz.f9 rfl rfl rfl rfl rfl rfl rfl ⟨rfl, rfl, rfl, rfl, rfl⟩ rfl rfl rfl rfl rfl named Tryz.func9 joined inst wrap
    (fun os started H enc _ F => by rw [OpenClaim.pre_eq_preRow]; exact lifted os started H enc F)
theorem looks0 : false = Tryz.pinned.checked.prog.looks [] := by kernel_rfl
theorem plain (f : FuncId) (fn : Func) (hf : Tryz.pinned.checked.prog.funcNamed "hopmesh/hopmeshlaw41.AdmitFills" = some f) (hfn : Tryz.pinned.checked.prog.funcs[f]? = some fn) :
    false = Tryz.pinned.checked.prog.looks [] ∧ ∀ (j : Nat) t, fn.params[j]? = some t → Tryz.pinned.checked.prog.wantsStandIn t = false := by
  obtain rfl : f = 9 := Option.some.inj (named.symm.trans hf) |>.symm
  obtain rfl : fn = Tryz.f9 := (Option.some.inj (Tryz.func9.symm.trans hfn)).symm
  refine ⟨looks0, fun j t ht => ?_⟩
  rw [Tryz.params9] at ht
  have hm : t ∈ [26, 42, 29, 31, 5, 5] := by simpa using Array.mem_of_getElem? ht
  have hall : ([26, 42, 29, 31, 5, 5].all fun u => !Tryz.prog.wantsStandIn u) = true := by kernel_rfl
  exact (show Tryz.prog.wantsStandIn t = false by simpa using List.all_eq_true.1 hall t hm)
theorem wf : OpenClaim.wfByText (Rows.OpenSpec.upto Rows.admitFillsSpec) Rows.admitFillsUptoRow = true := by kernel_rfl
theorem goes : false = Rows.admitFillsUptoRow.goesBy Tryz.pinned.checked.prog := by kernel_rfl
theorem main0 : Tryz.pinned.checked.prog.mainIs = some (Rows.admitFillsUptoCard.stood.harness.1, Rows.admitFillsUptoCard.stood.harness.2.toList) := by kernel_rfl
theorem cardUpto : Rows.AdmitFillsUptoCardSaid :=
  Claim7.holds_tied_plain_at .later [] _ _ _ _ saidUpto (fun _ h => by cases h) wf (fun _ h => by cases h) admitFillsUpto_row_tie rfl ⟨rfl, rfl⟩ main0 rfl plain goes
end Go.Proofs.YtbaajjihhdmdpaaGreatDoor.admitFills
namespace Go.Proofs.YtbaajjihhdmdpaaGreatDoor
theorem admitFills_holds : Rows.AdmitFillsUptoCardSaid := admitFills.cardUpto
#print axioms admitFills_holds
end Go.Proofs.YtbaajjihhdmdpaaGreatDoor
