/- schedule.Print, whatever the schedule; from here on the tape may be wound back. · Room: where there is room for a cell. · Room and Drop. · MADE BY PROGRAM (wip/gen/lib5.py): slices.Index, Contains, Equal by value. · Routes: ends, fault, Check. · Requests: checkRoutes, flows, requests. · From the readings of arguments to the machine's values; what a law's row asks of its contract. · What the program's types read as; the frame of a law's row. · The frame of a law's row, for all laws. · schedule.Check: the cells, the twice, the disturbed. · schedule.disturbed and schedule.Check. · schedule.Check. · MADE BY PROGRAM (wip/gen/lib6.py, from H2): DeleteFunc with two captured boxes. · A way: links, cells, needed. · A way: counts. · A way: release, bound. · bound.Route. · Room and Drop: the program and the reference say the same. · Which cells count for a release: told without the code's order. · A route's bound, told without the code's order. · Ways through a schedule: earlier with more cells. · Valid schedules, told without the code's order. · A certificate's claim. · certificate.Make. · A grid: has, slot. · A grid's release. No condition. -/
import Derived.Test.YtbaajjihhdmdpaaGreatDoorRe05
import Derived.Test.YtbaajjihhdmdpaaGreatDoorRows
import Derived.Deep.Slices
import Derived.Carry
import Derived.ChangeSame
import Derived.WideShapes
import Derived.Lib.LaidTab
import Derived.Test.YtbaajjihhdmdpaaGreatDoorTie
import Derived.ProofKit
import Derived.LaidMore
import Derived.Deep.DeepHandedRow
import Derived.Stop.LaidErr
import Derived.MakeChecks
import Derived.Test.YtbaajjihhdmdpaaGreatDoorCards
import Derived.OpenShut

namespace Go.Proofs.YtbaajjihhdmdpaaGreatDoor
open Go.RowKit
set_option linter.unusedSectionVars false
set_option linter.unusedVariables false
set_option linter.unusedSimpArgs false
set_option linter.unnecessarySimpa false
set_option maxRecDepth 100000
instance loose : Lax := ⟨True⟩
theorem Sound.first {P : Program} {f : FuncId} {args : List AV} {a b : AV} (h : Sound P f args (.tup [a, b])) : Sound P f args (.tup [.bad, b]) := by
  intro S W us hT hS hul hrep
  refine (h S W us hT hS hul hrep).mono ?_
  rintro e W' ⟨u, S', rfl, h1, h2, h3, h4, h5⟩
  refine ⟨u, S', rfl, h1, h2, h3, h4, ?_⟩
  have h5 : Rep S' W' (.tup [a, b]) u := h5
  generalize hq : AV.tup [a, b] = q at h5
  cases h5 with
  | tup cs us hl hr =>
    injection hq with hq
    subst hq
    refine Rep.tup _ us hl fun j x hx => ?_
    cases j with
    | zero => simp at hx; subst hx; exact Rep.any _
    | succ j => exact hr (j + 1) x (by simpa using hx)
  | _ => cases hq
def printE (s : GSched) : Int := if form s then 0 else 1
theorem S72 (s : GSched) (hs : Cn s.cells) : Sound Tryz.prog 72 [s.v] (.tup [.bad, i64 (printE s)]) := by
  cases hf : form s with
  | true =>
    rw [show printE s = 0 by simp [printE, hf]]
    exact print_ok trivial s hs hf
  | false =>
    rw [show printE s = 1 by simp [printE, hf]]
    refine Sound.first (a := .str ⟨#[]⟩) ?_
    refine ex_intro mixedT T [] Tryz.func72 rfl (by rw [Tryz.ntmps72]; simp) (by kernel_rfl) ?_
    conv => whnf
    refine FnG.go rfl ?_; conv => whnf
    refine CallG.go (S91 s hs) ?_; conv => whnf
    rw [hf]
    refine Br.T ?_; conv => whnf
    exact RetG.two rfl rfl
end Go.Proofs.YtbaajjihhdmdpaaGreatDoor

namespace Go.Proofs.YtbaajjihhdmdpaaGreatDoor
open Go.RowKit
set_option linter.unusedSectionVars false
set_option linter.unusedVariables false
set_option linter.unusedSimpArgs false
set_option linter.unnecessarySimpa false
set_option maxRecDepth 100000
set_option maxHeartbeats 4000000
def touchesL (c : GCell) (l : GLink) : Bool := c.from_ == l.from_ || c.from_ == l.to_ || c.to_ == l.from_ || c.to_ == l.to_
theorem S164 (c : GCell) (l : GLink) : Sound Tryz.prog 164 [c.v, l.v] (.bool (touchesL c l)) := by
  refine ex_intro mixedT T [] Tryz.func164 rfl (by rw [Tryz.ntmps164]; simp) (by kernel_rfl) ?_
  conv => whnf
  repeat' first | (refine LenG.map ?_; conv => whnf) | (refine LenG.go ?_; conv => whnf)
  repeat' first
    | (refine Br.T ?_; conv => whnf)
    | (refine Br.F ?_; conv => whnf)
    | (refine Br.mk (fun hq => ?_) (fun hq => ?_) <;> conv => whnf)
    | (refine FnG.go rfl ?_; conv => whnf)
    | (refine LenG.map ?_; conv => whnf)
    | (refine LenG.go ?_; conv => whnf)
  all_goals (refine RetG.one ?_; simp_all [ret1, touchesL])
theorem S165 (c : GCell) (o : Int) : Sound Tryz.prog 165 [c.v, .rp [i64 o]] (.bool (c.offset != o)) := by
  refine ex_intro mixedT T [] Tryz.func165 rfl (by rw [Tryz.ntmps165]; simp) (by kernel_rfl) ?_
  conv => whnf
  repeat' first | (refine LenG.map ?_; conv => whnf) | (refine LenG.go ?_; conv => whnf)
  repeat' first
    | (refine Br.T ?_; conv => whnf)
    | (refine Br.F ?_; conv => whnf)
    | (refine Br.mk (fun hq => ?_) (fun hq => ?_) <;> conv => whnf)
    | (refine FnG.go rfl ?_; conv => whnf)
    | (refine LenG.map ?_; conv => whnf)
    | (refine LenG.go ?_; conv => whnf)
  exact RetG.one rfl
def hereL (l : List GCell) (slot : Int) : List GCell := l.filter fun c => c.slot == slot
def roomAtP (n : GNet) (l : GLink) (here : List GCell) (o : Nat) : Bool := goodCells n ((here.filter fun c => !(c.offset != (o : Int))) ++ [⟨0, 0, l.from_, l.to_, 0⟩])
def offsL (n : GNet) (s : GSched) (l : GLink) (slot : Int) : List Nat := if (hereL s.cells slot).any fun c => touchesL c l then [] else (List.range' 0 s.offsets.toNat).filter (roomAtP n l (hereL s.cells slot))
theorem I163 (n : GNet) (hn : n.ok) (s : GSched) (hs : s.cells.length ≤ 1000000) (ho : s.offsets ≤ 1000000) (l : GLink) (slot : Int) : IterS Tryz.prog 163 [.rp (n.c ++ s.c), .rp [i64 slot], .rp l.c] (natsV (offsL n s l slot)) := by
  refine it_intro mixedT T [cutX 12 14] Tryz.func163 rfl (by rw [Tryz.ntmps163]; simp) (by kernel_rfl) rfl fun y => ?_
  conv => whnf
  repeat' first | (refine LenG.map ?_; conv => whnf) | (refine LenG.go ?_; conv => whnf)
  have fin1 : ∀ c, c ∈ hereL s.cells slot → touchesL c l = true → offsL n s l slot = [] := fun c h1 h2 => by
    unfold offsL; rw [if_pos (List.any_eq_true.2 ⟨c, h1, h2⟩)]
  refine Lp.goTZ T [.t 5] [.t 5 61] (fun (i : Nat) => [(0, .yl y), (1, .rp (n.c ++ s.c)), (2, .rp [i64 slot]), (3, .rp l.c), (5, .sl (.tag 0) ((hereL (s.cells.take i) slot).map GCell.c)), (12, cellsV s.cells), (13, i64 s.cells.length), (14, i64 i)]) (fun _ => []) (fun i => [.live 61 5 (hereL (s.cells.take i) slot).length]) (fun _ => .more y (natsV (offsL n s l slot)))
    (fun m i => m + i = s.cells.length ∧ ∀ c ∈ hereL (s.cells.take i) slot, touchesL c l = false) s.cells.length 0 ⟨by simp, by simp [hereL]⟩ [.t 5] ?_ ?_
  · (conv => whnf); refine ⟨rfl, ?_, ?_, ?_, ?_⟩ <;> (conv => whnf) <;> (repeat' apply And.intro) <;> first | exact True.intro | rfl | (conv => rhs; whnf)
  rintro m i ⟨hm, hi⟩
  conv => whnf
  refine Br.mk (fun hq => ?_) (fun hq => ?_) <;> conv => whnf
  · have hlt : i < s.cells.length := by simpa using hq
    have htk : hereL (s.cells.take (i + 1)) slot = hereL (s.cells.take i) slot ++ if (gd s.cells i).slot == slot then [gd s.cells i] else [] := by
      unfold hereL
      rw [List.take_add_one, gd_get hlt, List.filter_append]
      congr 1
      generalize gd s.cells i = c
      cases h : (c.slot == slot) <;> simp [h]
    have hmem : ∀ c, c ∈ s.cells → (c.slot == slot) = true → c ∈ hereL s.cells slot := fun c h1 h2 => List.mem_filter.2 ⟨h1, h2⟩
    have hln : (hereL (s.cells.take i) slot).length ≤ 1000000 := Nat.le_trans (List.length_filter_le _ _) (by simp; omega)
    repeat' first
      | (refine Br.T ?_; conv => whnf)
      | (refine Br.F ?_; conv => whnf)
      | (refine Br.mk (fun hq => ?_) (fun hq => ?_) <;> conv => whnf)
      | (refine FnG.go rfl ?_; conv => whnf)
      | (refine LenG.map ?_; conv => whnf)
      | (refine LenG.go ?_; conv => whnf)
      | (refine CallG.go (S164 _ _) ?_; conv => whnf)
      | (refine Ix.at (l := s.cells) hlt rfl ?_; conv => whnf)
      | (refine ⟨appOk (by decide) (by omega) ⟨rfl, rfl⟩, ?_⟩; (conv => whnf); refine ⟨by simp, ?_⟩; conv => whnf)
    · have hne : ((gd s.cells i).slot == slot) = false := by simpa using hq
      refine ⟨m - 1, i + 1, by omega, ⟨by omega, by rw [htk, hne]; simpa using hi⟩, ?_⟩
      (conv => whnf); refine ⟨rfl, ?_, ?_, ?_, ?_⟩ <;> (conv => whnf) <;> (repeat' apply And.intro) <;> first | exact True.intro | rfl | (conv => rhs; whnf)
      · rw [htk, hne]; simp
      · exact incr (by omega)
      · rw [htk, hne]; simp
    · have he : ((gd s.cells i).slot == slot) = true := by simp_all
      rw [fin1 _ (hmem _ (gd_mem hlt) he) (by assumption)]
      exact ⟨rfl, fun l' ys e => by injection e with e1; exact e1.symm⟩
    · have he : ((gd s.cells i).slot == slot) = true := by simp_all
      refine ⟨m - 1, i + 1, by omega, ⟨by omega, ?_⟩, ?_⟩
      · rw [htk, he]
        intro c hc
        rcases List.mem_append.1 hc with hc | hc
        · exact hi c hc
        · simp at hc; subst hc; simp_all
      · (conv => whnf); refine ⟨rfl, ?_, ?_, ?_, ?_⟩ <;> (conv => whnf) <;> (repeat' apply And.intro) <;> first | exact True.intro | rfl | (conv => rhs; whnf)
        · rw [htk, he]; exact snocV
        · exact incr (by omega)
        · rw [htk, he]; exact snocH
  · have hge : s.cells.length ≤ i := by simpa using hq
    rw [List.take_of_length_le hge] at *
    have hof : offsL n s l slot = (List.range' 0 s.offsets.toNat).filter (roomAtP n l (hereL s.cells slot)) := by
      unfold offsL
      rw [if_neg]
      intro h
      obtain ⟨c, h1, h2⟩ := List.any_eq_true.1 h
      rw [hi c h1] at h2; cases h2
    rw [hof]
    have hhl : (hereL s.cells slot).length ≤ 1000000 := Nat.le_trans (List.length_filter_le _ _) hs
    refine Lp.goT T [.t 5] (fun (o : Nat) => [(0, .yl y), (1, .rp (n.c ++ s.c)), (2, .rp [i64 slot]), (3, .rp l.c), (5, .sl (.tag 0) ((hereL s.cells slot).map GCell.c)), (32, i64 s.offsets), (33, i64 o)]) (fun _ => []) (fun i => [.live 61 5 (hereL s.cells slot).length]) (fun o => .more y (natsV ((List.range' o (s.offsets.toNat - o)).filter (roomAtP n l (hereL s.cells slot)))))
      (fun m o => m + o = s.offsets.toNat) s.offsets.toNat 0 (by simp) [.t 5] ?_ ?_
    · (conv => whnf); refine ⟨rfl, ?_, ?_, ?_, ?_⟩ <;> (conv => whnf) <;> (repeat' apply And.intro) <;> first | exact True.intro | rfl | (conv => rhs; whnf)
    rintro m o hm
    conv => whnf
    refine Br.mk (fun hq => ?_) (fun hq => ?_) <;> conv => whnf
    · have hlt : (o : Int) < s.offsets := by simpa using hq
      have hr : List.range' o (s.offsets.toNat - o) = o :: List.range' (o + 1) (s.offsets.toNat - (o + 1)) := by
        rw [show s.offsets.toNat - o = (s.offsets.toNat - (o + 1)) + 1 by omega, List.range'_succ]
      rw [hr]
      refine FnG.go rfl ?_; conv => whnf
      refine CallG.go (S80f (hereL s.cells slot) (by omega)) ?_; conv => whnf
      refine SemG.go (Sem.cons (kill := some _) (e := 61) (sz := 5) (xs := (hereL s.cells slot).map GCell.c) (rest := [.tmp 38]) rfl rfl ⟨rfl, rfl⟩ (by kernel_rfl) (by decide) rfl (fnOk rfl) (D79_1 rfl [i64 o] (hereL s.cells slot) (fun c => c.offset != (o : Int)) (fun c _ => S165 c o) (by omega)) ?_)
      conv => whnf
      refine Nd.go (by kernel_rfl) ?_; conv => whnf
      have hfl : (hereL s.cells slot |>.filter fun c => !(c.offset != (o : Int))).length ≤ 1000000 := Nat.le_trans (List.length_filter_le _ _) hhl
      refine ⟨appOk (by decide) (by omega) ⟨rfl, rfl⟩, ?_⟩; conv => whnf
      refine ⟨by simp, ?_⟩; conv => whnf
      refine FnG.go rfl ?_; conv => whnf
      have hg := S166 n hn ((hereL s.cells slot |>.filter fun c => !(c.offset != (o : Int))) ++ [⟨0, 0, l.from_, l.to_, 0⟩]) (by simp; omega)
      rw [show cellsV ((hereL s.cells slot |>.filter fun c => !(c.offset != (o : Int))) ++ [⟨0, 0, l.from_, l.to_, 0⟩]) = .sl .no (((hereL s.cells slot |>.filter fun c => !(c.offset != (o : Int))).map GCell.c) ++ [[i64 0, i64 0, i64 l.from_, i64 l.to_, i64 0]]) by simp [cellsV, GCell.c]] at hg
      refine CallG.go hg ?_; conv => whnf
      have hra : roomAtP n l (hereL s.cells slot) o = goodCells n ((hereL s.cells slot |>.filter fun c => !(c.offset != (o : Int))) ++ [⟨0, 0, l.from_, l.to_, 0⟩]) := rfl
      have next : ∀ b, roomAtP n l (hereL s.cells slot) o = b → (o :: List.range' (o + 1) (s.offsets.toNat - (o + 1))).filter (roomAtP n l (hereL s.cells slot)) = if b then o :: (List.range' (o + 1) (s.offsets.toNat - (o + 1))).filter (roomAtP n l (hereL s.cells slot)) else (List.range' (o + 1) (s.offsets.toNat - (o + 1))).filter (roomAtP n l (hereL s.cells slot)) := fun b hb => by
        subst hb; rw [List.filter_cons]
      refine Br.mk (fun hg => ?_) (fun hg => ?_) <;> conv => whnf
      · repeat' first | (refine Br.T ?_; conv => whnf) | (refine Br.F ?_; conv => whnf)
        refine YG.go (natsV ((List.range' (o + 1) (s.offsets.toNat - (o + 1))).filter (roomAtP n l (hereL s.cells slot)))) (by
          show Yt.more y (natsV ((o :: List.range' (o + 1) (s.offsets.toNat - (o + 1))).filter (roomAtP n l (hereL s.cells slot)))) = _
          rw [next true (hra.trans hg)]; rfl) ?_ ?_ <;> conv => whnf
        · repeat' first | (refine Br.T ?_; conv => whnf) | (refine Br.F ?_; conv => whnf)
          refine ⟨m - 1, o + 1, by omega, by omega, ?_⟩
          (conv => whnf); refine ⟨rfl, ?_, ?_, ?_, ?_⟩ <;> (conv => whnf) <;> (repeat' apply And.intro) <;> first | exact True.intro | rfl | (conv => rhs; whnf)
          exact incr (by omega)
        · repeat' first | (refine Br.T ?_; conv => whnf) | (refine Br.F ?_; conv => whnf)
          exact ⟨trivial, by simp⟩
      · repeat' first | (refine Br.T ?_; conv => whnf) | (refine Br.F ?_; conv => whnf)
        refine ⟨m - 1, o + 1, by omega, by omega, ?_⟩
        (conv => whnf); refine ⟨rfl, ?_, ?_, ?_, ?_⟩ <;> (conv => whnf) <;> (repeat' apply And.intro) <;> first | exact True.intro | rfl | (conv => rhs; whnf)
        · exact incr (by omega)
        · show Yt.more y _ = Yt.more y _
          rw [next false (hra.trans hg)]; rfl
    · have : s.offsets ≤ o := by simpa using hq
      rw [show s.offsets.toNat - o = 0 by omega]
      exact ⟨rfl, fun l' ys e => by injection e with e1; exact e1.symm⟩
theorem S75 (n : GNet) (s : GSched) (l : GLink) (slot : Int) : Sound Tryz.prog 75 [.ag (n.c ++ s.c), l.v, i64 slot] (.fn 163 [.rp (n.c ++ s.c), .rp [i64 slot], .rp l.c]) := by
  refine ex_intro mixedT T [] Tryz.func75 rfl (by rw [Tryz.ntmps75]; simp) (by kernel_rfl) ?_
  conv => whnf
  repeat' first | (refine LenG.map ?_; conv => whnf) | (refine LenG.go ?_; conv => whnf)
  repeat' first
    | (refine Br.T ?_; conv => whnf)
    | (refine Br.F ?_; conv => whnf)
    | (refine Br.mk (fun hq => ?_) (fun hq => ?_) <;> conv => whnf)
    | (refine FnG.go rfl ?_; conv => whnf)
    | (refine LenG.map ?_; conv => whnf)
    | (refine LenG.go ?_; conv => whnf)
  exact RetG.shut (ids := [0, 2, 1]) rfl
theorem S81 (c : GCell) (f : Int) : Sound Tryz.prog 81 [c.v, .rp [i64 f]] (.bool (c.flow == f)) := by
  refine ex_intro mixedT T [] Tryz.func81 rfl (by rw [Tryz.ntmps81]; simp) (by kernel_rfl) ?_
  conv => whnf
  repeat' first | (refine LenG.map ?_; conv => whnf) | (refine LenG.go ?_; conv => whnf)
  repeat' first
    | (refine Br.T ?_; conv => whnf)
    | (refine Br.F ?_; conv => whnf)
    | (refine Br.mk (fun hq => ?_) (fun hq => ?_) <;> conv => whnf)
    | (refine FnG.go rfl ?_; conv => whnf)
    | (refine LenG.map ?_; conv => whnf)
    | (refine LenG.go ?_; conv => whnf)
  exact RetG.one rfl
def dropP (s : GSched) (flow : Int) : GSched × Int := if printE s != 0 then (zeroS, 1) else (⟨s.length, s.offsets, s.cells.filter fun c => !(c.flow == flow)⟩, 0)
theorem S21 (s : GSched) (hs : s.cells.length ≤ 100000000) (flow : Int) : Sound Tryz.prog 21 [s.v, i64 flow] (.tup [(dropP s flow).1.v, i64 (dropP s flow).2]) := by
  have hsC : Cn s.cells := by show s.cells.length < _; omega
  refine ex_intro mixedT T [] Tryz.func21 rfl (by rw [Tryz.ntmps21]; simp) (by kernel_rfl) ?_
  conv => whnf
  repeat' first | (refine LenG.map ?_; conv => whnf) | (refine LenG.go ?_; conv => whnf)
  repeat' first
    | (refine Br.T ?_; conv => whnf)
    | (refine Br.F ?_; conv => whnf)
    | (refine Br.mk (fun hq => ?_) (fun hq => ?_) <;> conv => whnf)
    | (refine FnG.go rfl ?_; conv => whnf)
    | (refine LenG.map ?_; conv => whnf)
    | (refine LenG.go ?_; conv => whnf)
    | (refine CallG.go (S72 s hsC) ?_; conv => whnf)
    | (refine CallG.go (S80f s.cells (by omega)) ?_; conv => whnf)
  · refine RetG.two ?_ ?_ <;> (delta dropP; simp only [*, Bool.true_or, Bool.false_or, Bool.or_true, Bool.or_false, Bool.true_and, Bool.false_and, Bool.and_true, Bool.and_false, Bool.not_true, Bool.not_false, if_true, if_false, Bool.false_eq_true, reduceIte]; rfl)
  · refine SemG.go (Sem.cons (kill := some _) (e := 61) (sz := 5) (xs := s.cells.map GCell.c) (rest := [.tmp 19]) rfl rfl ⟨rfl, rfl⟩ (by kernel_rfl) (by decide) rfl (fnOk rfl) (D79_1 rfl [i64 flow] s.cells (fun c => c.flow == flow) (fun c _ => S81 c flow) (by omega)) ?_)
    conv => whnf
    refine RetG.two ?_ ?_ <;> (delta dropP; simp only [*, Bool.true_or, Bool.false_or, Bool.or_true, Bool.or_false, Bool.true_and, Bool.false_and, Bool.and_true, Bool.and_false, Bool.not_true, Bool.not_false, if_true, if_false, Bool.false_eq_true, reduceIte]; rfl)
def outAt (n : GNet) (s : GSched) (l : GLink) (t : Nat) : List GCell := (offsL n s l t).map (cellAt l t)
def outUp (n : GNet) (s : GSched) (l : GLink) : Nat → List GCell
  | 0 => []
  | t + 1 => outUp n s l t ++ outAt n s l t
def roomP (n : GNet) (s : GSched) (l : GLink) : List GCell × Int :=
  if netErr n != 0 then ([], 1) else if printE s != 0 then ([], 1) else if !goodLk n l.from_ l.to_ then ([], 7)
  else if decide (((outUp n s l s.length.toNat).length : Int) > 1024) then ([], 8) else (outUp n s l s.length.toNat, 0)
theorem outAt_len (n : GNet) (s : GSched) (l : GLink) (t : Nat) : (outAt n s l t).length ≤ s.offsets.toNat := by
  unfold outAt offsL
  split
  · simp
  · rw [List.length_map]
    exact Nat.le_trans (List.length_filter_le _ _) (by simp)
theorem outUp_len (n : GNet) (s : GSched) (l : GLink) : ∀ t, (outUp n s l t).length ≤ t * s.offsets.toNat
  | 0 => by simp [outUp]
  | t + 1 => by
    have := outUp_len n s l t
    have := outAt_len n s l t
    rw [outUp, List.length_append, Nat.add_mul]; omega
theorem printE_ok {s : GSched} (h : (printE s != 0) = false) : FormOk s := form_ok (by
  unfold printE at h
  split at h
  · assumption
  · simp at h)
theorem S19 (n : GNet) (hn : n.ok) (s : GSched) (hs : Cn s.cells) (l : GLink) : Sound Tryz.prog 19 [n.v, s.v, l.v] (.tup [cellsV (roomP n s l).1, i64 (roomP n s l).2]) := by
  refine ex_intro mixedT T [] Tryz.func19 rfl (by rw [Tryz.ntmps19]; simp) (by kernel_rfl) ?_
  conv => whnf
  repeat' first | (refine LenG.map ?_; conv => whnf) | (refine LenG.go ?_; conv => whnf)
  repeat' first
    | (refine Br.T ?_; conv => whnf)
    | (refine Br.F ?_; conv => whnf)
    | (refine Br.mk (fun hq => ?_) (fun hq => ?_) <;> conv => whnf)
    | (refine FnG.go rfl ?_; conv => whnf)
    | (refine LenG.map ?_; conv => whnf)
    | (refine LenG.go ?_; conv => whnf)
    | (refine CallG.go (S71 n hn) ?_; conv => whnf)
    | (refine CallG.go (S72 s hs) ?_; conv => whnf)
    | (refine CallG.go (S74v n hn (by simp_all) _ _) ?_; conv => whnf)
    | (refine CallG.go (S73v n hn (by simp_all) _ _) ?_; conv => whnf)
  · refine RetG.two ?_ ?_ <;> (delta roomP; simp only [*, Bool.true_or, Bool.false_or, Bool.or_true, Bool.or_false, Bool.true_and, Bool.false_and, Bool.and_true, Bool.and_false, Bool.not_true, Bool.not_false, if_true, if_false, Bool.false_eq_true, reduceIte]; rfl)
  · refine RetG.two ?_ ?_ <;> (delta roomP; simp only [*, Bool.true_or, Bool.false_or, Bool.or_true, Bool.or_false, Bool.true_and, Bool.false_and, Bool.and_true, Bool.and_false, Bool.not_true, Bool.not_false, if_true, if_false, Bool.false_eq_true, reduceIte]; rfl)
  · refine RetG.two ?_ ?_ <;> (delta roomP; simp only [*, Bool.true_or, Bool.false_or, Bool.or_true, Bool.or_false, Bool.true_and, Bool.false_and, Bool.and_true, Bool.and_false, Bool.not_true, Bool.not_false, if_true, if_false, Bool.false_eq_true, reduceIte]; rfl)
  have FO := printE_ok (s := s) (by simp_all)
  have hv : netErr n = 0 := by simp_all
  have hbl := FO.len
  have hbo := FO.offs
  have hbc := FO.cells
  obtain ⟨L, hL⟩ : ∃ L : Nat, s.length = L := ⟨s.length.toNat, by omega⟩
  have hR : roomP n s l = if decide (((outUp n s l L).length : Int) > 1024) then ([], 8) else (outUp n s l L, 0) := by
    have e : s.length.toNat = L := by omega
    unfold roomP
    rw [e, if_neg (by simp_all), if_neg (by simp_all), if_neg (by simp_all)]
  rw [hR]
  refine Lp.goZ T [.t 3, .t 4, .t 5, .t 10, .c (.t 10) 0] [.c (.t 10) 0 61] (fun (i : Nat) => [(3, .op 0 0), (4, .op 1 0), (5, .op 2 0), (10, .op 3 0), (33, i64 s.length), (34, i64 i)]) (fun i => [.box n.c, .box s.c, .box l.c, .box [.sl (.tag 4) ((outUp n s l i).map GCell.c)], .live 61 5 (outUp n s l i).length])
    (fun m i => m + i = L) L 0 (by simp) [.t 3, .t 4, .t 5, .t 10, .c (.t 10) 0] ?_ ?_
  · (conv => whnf); refine ⟨rfl, ?_, ?_⟩ <;> (conv => whnf) <;> (repeat' apply And.intro) <;> first | exact True.intro | rfl | (conv => rhs; whnf)
  rintro m i hm
  have hol := outUp_len n s l i
  have hal := outAt_len n s l i
  have hob : i * s.offsets.toNat ≤ 512 * 16 := Nat.mul_le_mul (by omega) (by omega)
  conv => whnf
  refine Br.mk (fun hq => ?_) (fun hq => ?_) <;> conv => whnf
  · have hlt : i < L := by simp at hq; omega
    refine FnG.go rfl ?_; conv => whnf
    refine CallG.go (S75 n s l i) ?_; conv => whnf
    refine RfG.go T rfl rfl (I163 n hn s (by omega) (by omega) l i) (by simp [natsV]) rfl [.t 3, .t 4, .t 5, .t 10, .c (.t 10) 0, .t 11]
      (fun (k : Nat) => [(3, .op 0 0), (4, .op 1 0), (5, .op 2 0), (10, .op 3 0), (11, .op 5 0), (33, i64 s.length), (34, i64 i)]) (fun k => [.box n.c, .box s.c, .box l.c, .box [.sl (.tag 4) ((outUp n s l i ++ (outAt n s l i).take k).map GCell.c)], .live 61 5 (outUp n s l i ++ (outAt n s l i).take k).length, .box [i64 i]]) (fun _ => .off)
      (fun j k => k = j) 0 rfl [.t 3, .t 4, .t 5, .t 10, .c (.t 10) 0, .t 11] ?_ ?_ ?_
    · (conv => whnf); refine ⟨rfl, ?_, ?_, ?_, ?_⟩ <;> (conv => whnf) <;> (repeat' apply And.intro) <;> first | exact True.intro | rfl | (conv => rhs; whnf)
      all_goals (simp; try rfl)
    · rintro j k x rfl hx
      rw [List.getElem?_map] at hx
      obtain ⟨o, ho, rfl⟩ := Option.map_eq_some_iff.1 hx
      have hoa : (outAt n s l i)[k]? = some (cellAt l i o) := by unfold outAt; rw [List.getElem?_map, ho]; rfl
      have htk : (outAt n s l i).take (k + 1) = (outAt n s l i).take k ++ [cellAt l i o] := by rw [List.take_add_one, hoa]; rfl
      have hlen : (outUp n s l i ++ (outAt n s l i).take k).length ≤ 100000 := by
        rw [List.length_append, List.length_take]; omega
      conv => whnf
      refine ⟨appOk (by decide) (by omega) ⟨rfl, rfl⟩, ?_⟩; conv => whnf
      refine ⟨by simp, ?_⟩; conv => whnf
      refine ⟨k + 1, rfl, ?_⟩
      (conv => whnf); refine ⟨rfl, ?_, ?_, ?_, ?_⟩ <;> (conv => whnf) <;> (repeat' apply And.intro) <;> first | exact True.intro | rfl | (conv => rhs; whnf)
      · rw [htk, ← List.append_assoc]; exact congrArg (fun x => HO.box [x]) snocV
      · rw [htk, ← List.append_assoc]; exact snocH
    · rintro k rfl
      rw [show (natsV (offsL n s l i)).length = (outAt n s l i).length by simp [natsV, outAt], List.take_length]
      conv => whnf
      refine ⟨m - 1, i + 1, by omega, by omega, ?_⟩
      (conv => whnf); refine ⟨rfl, ?_, ?_⟩ <;> (conv => whnf) <;> (repeat' apply And.intro) <;> first | exact True.intro | rfl | (conv => rhs; whnf)
      exact incr (by omega)
  · have : L = i := by simp at hq; omega
    subst this
    refine LenG.map ?_; conv => whnf
    refine Br.mk (fun hq2 => ?_) (fun hq2 => ?_) <;> conv => whnf
    · rw [if_pos hq2]; exact RetG.two rfl rfl
    · rw [if_neg (by rw [hq2]; simp)]; exact RetG.two rfl rfl
end Go.Proofs.YtbaajjihhdmdpaaGreatDoor

namespace Go.Proofs.YtbaajjihhdmdpaaGreatDoor
open Go.RowKit
set_option linter.unusedSectionVars false
set_option linter.unusedVariables false
set_option linter.unusedSimpArgs false
set_option linter.unnecessarySimpa false
set_option maxRecDepth 100000
theorem int_dec (x y : Int) : (x == y) = decide (x = y) := by rw [Bool.eq_iff_iff]; simp
theorem int_dec' (x y : Int) : (x != y) = !decide (x = y) := by rw [bne, int_dec]
theorem S318 (l : List Int) (hl : Cn l) (x : Int) : Sound Tryz.prog 318 [.sl .no (l.map (fun x => [i64 x])), i64 x] (i64 (idxOf (fun y => decide (x = y)) l 0)) := by
  refine ex_intro mixedT T [] Tryz.func318 rfl (by rw [Tryz.ntmps318]; simp) (by kernel_rfl) ?_
  conv => whnf
  repeat' first | (refine LenG.map ?_; conv => whnf) | (refine LenG.go ?_; conv => whnf)
  refine Lp.go T [] (fun i : Nat => [(0, .sl .no (l.map (fun x => [i64 x]))), (1, i64 x), (7, i64 l.length), (8, i64 i)]) (fun _ => []) (fun m i => m + i = l.length ∧ idxOf (fun y => decide (x = y)) l 0 = idxOf (fun y => decide (x = y)) (l.drop i) i) l.length 0 ⟨by simp, by simp⟩ [] ?_ ?_
  · (conv => whnf); refine ⟨rfl, ?_, ?_⟩ <;> (conv => whnf) <;> (repeat' apply And.intro) <;> first | exact True.intro | rfl | (conv => rhs; whnf)
  rintro m i ⟨hm, hi⟩
  conv => whnf
  refine Br.mk (fun hq => ?_) (fun hq => ?_) <;> conv => whnf
  · have hlt : i < l.length := by simpa using hq
    rw [idxOf_step _ hlt] at hi
    refine Ix.at (l := l) hlt rfl ?_; conv => whnf
    rw [int_dec]
    refine Br.mk (fun hq2 => ?_) (fun hq2 => ?_) <;> conv => whnf
    · rw [hi, if_pos hq2]; exact RetG.one rfl
    · refine ⟨m - 1, i + 1, by omega, ⟨by omega, by rw [hi, if_neg (by rw [hq2]; simp)]⟩, ?_⟩
      (conv => whnf); refine ⟨rfl, ?_, ?_⟩ <;> (conv => whnf) <;> (repeat' apply And.intro) <;> first | exact True.intro | rfl | (conv => rhs; whnf)
      exact incr (by omega)
  · rw [idxOf_end _ (by simpa using hq)] at hi
    rw [hi]; exact RetG.one rfl
theorem S305 (l : List Int) (hl : Cn l) (x : Int) : Sound Tryz.prog 305 [.sl .no (l.map (fun x => [i64 x])), i64 x] (.bool (l.any fun y => decide (x = y))) := by
  refine ex_intro mixedT T [] Tryz.func305 rfl (by rw [Tryz.ntmps305]; simp) (by kernel_rfl) ?_
  conv => whnf
  repeat' first | (refine LenG.map ?_; conv => whnf) | (refine LenG.go ?_; conv => whnf)
  repeat' first
    | (refine Br.T ?_; conv => whnf)
    | (refine Br.F ?_; conv => whnf)
    | (refine Br.mk (fun hq => ?_) (fun hq => ?_) <;> conv => whnf)
    | (refine FnG.go rfl ?_; conv => whnf)
    | (refine LenG.map ?_; conv => whnf)
    | (refine LenG.go ?_; conv => whnf)
    | (refine CallG.go (S318 l hl x) ?_; conv => whnf)
  refine RetG.one ?_
  simp only [ret1, idxOf_any]
theorem S125 (l : List GCell) (hl : Cn l) (x : GCell) : Sound Tryz.prog 125 [.sl .no (l.map (GCell.c)), x.v] (i64 (idxOf (fun y => decide (x = y)) l 0)) := by
  refine ex_intro mixedT T [] Tryz.func125 rfl (by rw [Tryz.ntmps125]; simp) (by kernel_rfl) ?_
  conv => whnf
  repeat' first | (refine LenG.map ?_; conv => whnf) | (refine LenG.go ?_; conv => whnf)
  refine Lp.go T [.t 3] (fun i : Nat => [(0, .sl .no (l.map (GCell.c))), (3, .op 0 0), (7, i64 l.length), (8, i64 i)]) (fun _ => [.box x.c]) (fun m i => m + i = l.length ∧ idxOf (fun y => decide (x = y)) l 0 = idxOf (fun y => decide (x = y)) (l.drop i) i) l.length 0 ⟨by simp, by simp⟩ [.t 3] ?_ ?_
  · (conv => whnf); refine ⟨rfl, ?_, ?_⟩ <;> (conv => whnf) <;> (repeat' apply And.intro) <;> first | exact True.intro | rfl | (conv => rhs; whnf)
  rintro m i ⟨hm, hi⟩
  conv => whnf
  refine Br.mk (fun hq => ?_) (fun hq => ?_) <;> conv => whnf
  · have hlt : i < l.length := by simpa using hq
    rw [idxOf_step _ hlt] at hi
    refine Ix.at (l := l) hlt rfl ?_; conv => whnf
    rw [cell_ints]
    refine Br.mk (fun hq2 => ?_) (fun hq2 => ?_) <;> conv => whnf
    · rw [hi, if_pos hq2]; exact RetG.one rfl
    · refine ⟨m - 1, i + 1, by omega, ⟨by omega, by rw [hi, if_neg (by rw [hq2]; simp)]⟩, ?_⟩
      (conv => whnf); refine ⟨rfl, ?_, ?_⟩ <;> (conv => whnf) <;> (repeat' apply And.intro) <;> first | exact True.intro | rfl | (conv => rhs; whnf)
      exact incr (by omega)
  · rw [idxOf_end _ (by simpa using hq)] at hi
    rw [hi]; exact RetG.one rfl
theorem S50 (l : List GCell) (hl : Cn l) (x : GCell) : Sound Tryz.prog 50 [.sl .no (l.map (GCell.c)), x.v] (.bool (l.any fun y => decide (x = y))) := by
  refine ex_intro mixedT T [] Tryz.func50 rfl (by rw [Tryz.ntmps50]; simp) (by kernel_rfl) ?_
  conv => whnf
  repeat' first | (refine LenG.map ?_; conv => whnf) | (refine LenG.go ?_; conv => whnf)
  repeat' first
    | (refine Br.T ?_; conv => whnf)
    | (refine Br.F ?_; conv => whnf)
    | (refine Br.mk (fun hq => ?_) (fun hq => ?_) <;> conv => whnf)
    | (refine FnG.go rfl ?_; conv => whnf)
    | (refine LenG.map ?_; conv => whnf)
    | (refine LenG.go ?_; conv => whnf)
    | (refine CallG.go (S125 l hl x) ?_; conv => whnf)
  refine RetG.one ?_
  simp only [ret1, idxOf_any]
theorem S248 (a b : List Int) (ha : Cn a) (hb : Cn b) : Sound Tryz.prog 248 [.sl .no (a.map (fun x => [i64 x])), .sl .no (b.map (fun x => [i64 x]))] (.bool (decide (a = b))) := by
  refine ex_intro mixedT T [] Tryz.func248 rfl (by rw [Tryz.ntmps248]; simp) (by kernel_rfl) ?_
  conv => whnf
  repeat' first | (refine LenG.map ?_; conv => whnf) | (refine LenG.go ?_; conv => whnf)
  refine Br.mk (fun hq => ?_) (fun hq => ?_) <;> conv => whnf
  · have : a ≠ b := fun e => by subst e; simp at hq
    rw [decide_eq_false this]; exact RetG.one rfl
  have hlen : a.length = b.length := by simp at hq; omega
  repeat' first | (refine LenG.map ?_; conv => whnf) | (refine LenG.go ?_; conv => whnf)
  refine Lp.go T [] (fun i : Nat => [(0, .sl .no (a.map (fun x => [i64 x]))), (1, .sl .no (b.map (fun x => [i64 x]))), (12, i64 a.length), (13, i64 i)]) (fun _ => []) (fun m i => m + i = a.length ∧ ∀ j, j < i → gd a j = gd b j) a.length 0 ⟨by simp, fun j h => by omega⟩ [] ?_ ?_
  · (conv => whnf); refine ⟨rfl, ?_, ?_⟩ <;> (conv => whnf) <;> (repeat' apply And.intro) <;> first | exact True.intro | rfl | (conv => rhs; whnf)
  rintro m i ⟨hm, hi⟩
  conv => whnf
  refine Br.mk (fun hq => ?_) (fun hq => ?_) <;> conv => whnf
  · have hlt : i < a.length := by simpa using hq
    refine Ix.at (l := a) hlt rfl ?_; conv => whnf
    refine Ix.at (l := b) (by omega) rfl ?_; conv => whnf
    rw [int_dec']
    refine Br.mk (fun hq2 => ?_) (fun hq2 => ?_) <;> conv => whnf
    · have : a ≠ b := fun e => by subst e; simp at hq2
      rw [decide_eq_false this]; exact RetG.one rfl
    · refine ⟨m - 1, i + 1, by omega, ⟨by omega, fun j hj => ?_⟩, ?_⟩
      · by_cases e : j = i
        · subst e; simpa using hq2
        · exact hi j (by omega)
      · (conv => whnf); refine ⟨rfl, ?_, ?_⟩ <;> (conv => whnf) <;> (repeat' apply And.intro) <;> first | exact True.intro | rfl | (conv => rhs; whnf)
        exact incr (by omega)
  · have hge : a.length ≤ i := by simpa using hq
    have : a = b := by
      apply List.ext_getElem hlen
      intro j h1 h2
      have := hi j (by omega)
      simpa [gd, h1, h2] using this
    rw [decide_eq_true this]; exact RetG.one rfl
end Go.Proofs.YtbaajjihhdmdpaaGreatDoor

namespace Go.Proofs.YtbaajjihhdmdpaaGreatDoor
open Go.RowKit
set_option linter.unusedSectionVars false
set_option linter.unusedVariables false
set_option linter.unusedSimpArgs false
set_option linter.unnecessarySimpa false
set_option maxRecDepth 100000
set_option maxHeartbeats 4000000
theorem S304 (n : GNet) (a : Int) : Sound Tryz.prog 304 [i64 a, .rp n.c] (.bool (decide (a < 0) || decide (a ≥ n.nodes))) := by
  refine ex_intro mixedT T [] Tryz.func304 rfl (by rw [Tryz.ntmps304]; simp) (by kernel_rfl) ?_
  conv => whnf
  repeat' first | (refine LenG.map ?_; conv => whnf) | (refine LenG.go ?_; conv => whnf)
  repeat' first
    | (refine Br.T ?_; conv => whnf)
    | (refine Br.F ?_; conv => whnf)
    | (refine Br.mk (fun hq => ?_) (fun hq => ?_) <;> conv => whnf)
    | (refine FnG.go rfl ?_; conv => whnf)
    | (refine LenG.map ?_; conv => whnf)
    | (refine LenG.go ?_; conv => whnf)
  all_goals (refine RetG.one ?_; simp only [ret1, *, Bool.true_or, Bool.false_or, Bool.or_true, Bool.or_false, Bool.true_and, Bool.false_and, Bool.and_true, Bool.and_false, Bool.not_true, Bool.not_false, if_true, if_false, Bool.false_eq_true, reduceIte])
def endsP (n : GNet) (a b : Int) : Int := if netErr n != 0 then 1 else if decide ((if b < a then b else a) < 0) || decide ((if b > a then b else a) ≥ n.nodes) || a == b then 2 else 0
theorem S267 (n : GNet) (hn : n.ok) (a b : Int) : Sound Tryz.prog 267 [n.v, i64 a, i64 b] (i64 (endsP n a b)) := by
  refine ex_intro mixedT T [] Tryz.func267 rfl (by rw [Tryz.ntmps267]; simp) (by kernel_rfl) ?_
  conv => whnf
  repeat' first | (refine LenG.map ?_; conv => whnf) | (refine LenG.go ?_; conv => whnf)
  repeat' first
    | (refine Br.T ?_; conv => whnf)
    | (refine Br.F ?_; conv => whnf)
    | (refine Br.mk (fun hq => ?_) (fun hq => ?_) <;> conv => whnf)
    | (refine FnG.go rfl ?_; conv => whnf)
    | (refine LenG.map ?_; conv => whnf)
    | (refine LenG.go ?_; conv => whnf)
    | (refine CallG.go (S71 n hn) ?_; conv => whnf)
  all_goals (refine RetG.one ?_; delta endsP; simp only [ret1, *, Bool.true_or, Bool.false_or, Bool.or_true, Bool.or_false, Bool.true_and, Bool.false_and, Bool.and_true, Bool.and_false, Bool.not_true, Bool.not_false, if_true, if_false, Bool.false_eq_true, reduceIte])
def twiceR (r : List Int) (i : Nat) : Bool := (r.take i).any fun y => decide (gd r i = y)
def brokeR (n : GNet) (r : List Int) (i : Nat) : Bool := !goodLk n (gd r i) (gd r (i + 1))
def faultP (n : GNet) (a b : Int) (r : List Int) : Int :=
  if decide ((r.length : Int) < 2) then 9 else if decide ((r.length : Int) > 9) then 8
  else if r.any fun x => decide (x < 0) || decide (x ≥ n.nodes) then 2
  else if (gi r 0 != a) || gi r (W ((r.length : Int) - 1)) != b then 11
  else if (List.range r.length).any (twiceR r) then 6
  else if (List.range (r.length - 1)).any (brokeR n r) then 17 else 0
theorem any_upTo {f : Nat → Bool} {n i : Nat} (hi : i < n) (h : f i = true) : (List.range n).any f = true := List.any_eq_true.2 ⟨i, List.mem_range.2 hi, h⟩
theorem any_none {f : Nat → Bool} {n : Nat} (h : ∀ j, j < n → f j = false) : (List.range n).any f = false := by
  rw [Bool.eq_false_iff]
  intro c
  obtain ⟨j, hj, e⟩ := List.any_eq_true.1 c
  rw [h j (List.mem_range.1 hj)] at e; cases e
theorem S268 (n : GNet) (hn : n.ok) (hv : netErr n = 0) (a b : Int) (r : List Int) (hr : Cn r) : Sound Tryz.prog 268 [n.v, i64 a, i64 b, .sl .no (r.map fun x => [i64 x])] (i64 (faultP n a b r)) := by
  refine ex_intro mixedT T [] Tryz.func268 rfl (by rw [Tryz.ntmps268]; simp) (by kernel_rfl) ?_
  conv => whnf
  repeat' first | (refine LenG.map ?_; conv => whnf) | (refine LenG.go ?_; conv => whnf)
  repeat' first
    | (refine Br.T ?_; conv => whnf)
    | (refine Br.F ?_; conv => whnf)
    | (refine Br.mk (fun hq => ?_) (fun hq => ?_) <;> conv => whnf)
    | (refine FnG.go rfl ?_; conv => whnf)
    | (refine LenG.map ?_; conv => whnf)
    | (refine LenG.go ?_; conv => whnf)
    | (refine CallG.go (S303_1 rfl n.c r (fun x => decide (x < 0) || decide (x ≥ n.nodes)) (fun x _ => S304 n x) (by have : r.length < _ := hr; omega)) ?_; conv => whnf)
    | (refine Ix.int (l := r) (by
      have h0 := of_decide_eq_false ‹decide ((r.length : Int) < 2) = false›
      have h1 := of_decide_eq_false ‹decide ((r.length : Int) > 9) = false›
      first
      | omega
      | (have e : IntKind.i64.wrap ((r.length : Int) - 1) = (r.length : Int) - 1 := w64 (by omega)
         rw [e]; omega)) rfl ?_; conv => whnf)
  all_goals try (refine RetG.one ?_; delta faultP; simp only [ret1, *, Bool.true_or, Bool.false_or, Bool.or_true, Bool.or_false, Bool.true_and, Bool.false_and, Bool.and_true, Bool.and_false, Bool.not_true, Bool.not_false, if_true, if_false, Bool.false_eq_true, reduceIte]; done)
  have hR : faultP n a b r = if (List.range r.length).any (twiceR r) then 6 else if (List.range (r.length - 1)).any (brokeR n r) then 17 else 0 := by
    delta faultP; simp only [*, Bool.true_or, Bool.false_or, Bool.or_true, Bool.or_false, Bool.true_and, Bool.false_and, Bool.and_true, Bool.and_false, Bool.not_true, Bool.not_false, if_true, if_false, Bool.false_eq_true, reduceIte]
  have h0 := of_decide_eq_false ‹decide ((r.length : Int) < 2) = false›
  have h1 := of_decide_eq_false ‹decide ((r.length : Int) > 9) = false›
  rw [hR]
  refine Lp.go T [.t 4] (fun i : Nat => [(3, .sl .no (r.map fun x => [i64 x])), (4, .op 0 0), (41, .sl .no (r.map fun x => [i64 x])), (42, i64 r.length), (43, i64 i)]) (fun _ => [.sealed n.c]) (fun m i => m + i = r.length ∧ ∀ j, j < i → twiceR r j = false) r.length 0 ⟨by simp, by simp⟩ [.t 4] ?_ ?_
  · (conv => whnf); refine ⟨rfl, ?_, ?_⟩ <;> (conv => whnf) <;> (repeat' apply And.intro) <;> first | exact True.intro | rfl | (conv => rhs; whnf)
  rintro m i ⟨hm, hi⟩
  conv => whnf
  refine Br.mk (fun hq => ?_) (fun hq => ?_) <;> conv => whnf
  · have hlt : i < r.length := by simpa using hq
    refine Ix.at (l := r) hlt rfl ?_; conv => whnf
    refine Nd.go (by simp; omega) ?_; conv => whnf
    have hs := S305 (r.take i) (by simp; omega) (gd r i)
    rw [List.map_take] at hs
    refine FnG.go rfl ?_; conv => whnf
    refine CallG.go hs ?_; conv => whnf
    refine Br.mk (fun hq2 => ?_) (fun hq2 => ?_) <;> conv => whnf
    · rw [if_pos (any_upTo hlt hq2)]; exact RetG.one rfl
    · refine ⟨m - 1, i + 1, by omega, ⟨by omega, fun j hj => ?_⟩, ?_⟩
      · rcases Nat.lt_succ_iff_lt_or_eq.1 hj with h | rfl
        · exact hi j h
        · exact hq2
      (conv => whnf); refine ⟨rfl, ?_, ?_⟩ <;> (conv => whnf) <;> (repeat' apply And.intro) <;> first | exact True.intro | rfl | (conv => rhs; whnf)
      exact incr (by omega)
  · have hge : i = r.length := by simp at hq; omega
    subst hge
    rw [any_none hi, if_neg (by simp)]
    refine Nd.go ⟨by simp, by simp; omega, by intro y hy; obtain ⟨x, _, rfl⟩ := List.mem_map.1 hy; rfl⟩ ?_; conv => whnf
    refine LenG.go ?_; conv => whnf
    have hD : ∀ j, gd (r.drop 1) j = gd r (j + 1) := fun j => by unfold gd; simp [Nat.add_comm]
    have hdl : (r.drop 1).length = r.length - 1 := by simp
    refine Lp.go T [.t 4] (fun i : Nat => [(3, .sl .no (r.map fun x => [i64 x])), (4, .op 0 0), (55, .sl .no ((r.drop 1).map fun x => [i64 x])), (56, i64 (r.drop 1).length), (57, i64 i)]) (fun _ => [.sealed n.c]) (fun m i => m + i = r.length - 1 ∧ ∀ j, j < i → brokeR n r j = false) (r.length - 1) 0 ⟨by simp, by simp⟩ [.t 4] ?_ ?_
    · (conv => whnf); refine ⟨rfl, ?_, ?_⟩ <;> (conv => whnf) <;> (repeat' apply And.intro) <;> first | exact True.intro | rfl | (conv => rhs; whnf)
      all_goals (first | rw [List.map_drop]; rfl | simp)
    rintro m i ⟨hm, hi⟩
    conv => whnf
    refine Br.mk (fun hq => ?_) (fun hq => ?_) <;> conv => whnf
    · have hlt : i < r.length - 1 := by rw [← hdl]; simpa using hq
      refine Ix.at (l := r.drop 1) (by rw [hdl]; exact hlt) rfl ?_; conv => whnf
      rw [hD]
      repeat' first
        | (refine Br.T ?_; conv => whnf)
        | (refine Br.F ?_; conv => whnf)
        | (refine Br.mk (fun hq => ?_) (fun hq => ?_) <;> conv => whnf)
        | (refine FnG.go rfl ?_; conv => whnf)
        | (refine LenG.map ?_; conv => whnf)
        | (refine LenG.go ?_; conv => whnf)
        | (refine CallG.go (S74v n hn hv _ _) ?_; conv => whnf)
        | (refine CallG.go (S73v n hn hv _ _) ?_; conv => whnf)
        | (refine Ix.at (l := r) (by omega) rfl ?_; conv => whnf)
      · rw [if_pos (any_upTo hlt (by assumption))]; exact RetG.one rfl
      · refine ⟨m - 1, i + 1, by omega, ⟨by omega, fun j hj => ?_⟩, ?_⟩
        · rcases Nat.lt_succ_iff_lt_or_eq.1 hj with h | rfl
          · exact hi j h
          · assumption
        (conv => whnf); refine ⟨rfl, ?_, ?_⟩ <;> (conv => whnf) <;> (repeat' apply And.intro) <;> first | exact True.intro | rfl | (conv => rhs; whnf)
        exact incr (by omega)
    · have hge : i = r.length - 1 := by simp at hq; omega
      subst hge
      rw [any_none hi, if_neg (by simp)]
      exact RetG.one rfl
def checkR (n : GNet) (a b : Int) (r : List Int) : Int := if endsP n a b != 0 then endsP n a b else faultP n a b r
theorem endsP_ok {n : GNet} {a b : Int} (h : (endsP n a b != 0) = false) : netErr n = 0 := by
  unfold endsP at h
  split at h
  · simp at h
  · simp_all
theorem S194 (n : GNet) (hn : n.ok) (a b : Int) (r : List Int) (hr : Cn r) : Sound Tryz.prog 194 [n.v, i64 a, i64 b, .sl .no (r.map fun x => [i64 x])] (i64 (checkR n a b r)) := by
  refine ex_intro mixedT T [] Tryz.func194 rfl (by rw [Tryz.ntmps194]; simp) (by kernel_rfl) ?_
  conv => whnf
  repeat' first | (refine LenG.map ?_; conv => whnf) | (refine LenG.go ?_; conv => whnf)
  repeat' first
    | (refine Br.T ?_; conv => whnf)
    | (refine Br.F ?_; conv => whnf)
    | (refine Br.mk (fun hq => ?_) (fun hq => ?_) <;> conv => whnf)
    | (refine FnG.go rfl ?_; conv => whnf)
    | (refine LenG.map ?_; conv => whnf)
    | (refine LenG.go ?_; conv => whnf)
    | (refine CallG.go (S267 n hn a b) ?_; conv => whnf)
    | (refine CallG.go (S268 n hn (endsP_ok (by assumption)) a b r hr) ?_; conv => whnf)
  all_goals (refine RetG.one ?_; delta checkR; simp only [ret1, *, Bool.true_or, Bool.false_or, Bool.or_true, Bool.or_false, Bool.true_and, Bool.false_and, Bool.and_true, Bool.and_false, Bool.not_true, Bool.not_false, if_true, if_false, Bool.false_eq_true, reduceIte])
structure GReq.ok (x : GReq) : Prop where
  routes : Cn x.routes
  rows : ∀ r ∈ x.routes, Cn r
def routeAt (n : GNet) (x : GReq) (i : Nat) : Int := checkR n x.flow.from_ x.flow.to_ (gd x.routes i)
def routesP (n : GNet) (x : GReq) : Int :=
  if (x.routes.length : Int) == 0 then 14 else if decide ((x.routes.length : Int) > 2) then 8
  else if scan (routeAt n x) x.routes.length 0 != 0 then scan (routeAt n x) x.routes.length 0
  else if (x.routes.length : Int) == 2 && decide (gi x.routes 0 = gi x.routes 1) then 6 else 0
theorem S180 (n : GNet) (hn : n.ok) (x : GReq) (hx : x.ok) : Sound Tryz.prog 180 [n.v, x.v] (i64 (routesP n x)) := by
  have hr := hx.routes
  refine ex_intro mixedT T [] Tryz.func180 rfl (by rw [Tryz.ntmps180]; simp) (by kernel_rfl) ?_
  conv => whnf
  repeat' first | (refine LenG.map ?_; conv => whnf) | (refine LenG.go ?_; conv => whnf)
  repeat' first
    | (refine Br.T ?_; conv => whnf)
    | (refine Br.F ?_; conv => whnf)
    | (refine Br.mk (fun hq => ?_) (fun hq => ?_) <;> conv => whnf)
    | (refine FnG.go rfl ?_; conv => whnf)
    | (refine LenG.map ?_; conv => whnf)
    | (refine LenG.go ?_; conv => whnf)
  · refine RetG.one ?_; delta routesP; simp only [ret1, *, Bool.true_or, Bool.false_or, Bool.or_true, Bool.or_false, Bool.true_and, Bool.false_and, Bool.and_true, Bool.and_false, Bool.not_true, Bool.not_false, if_true, if_false, Bool.false_eq_true, reduceIte]
  · refine RetG.one ?_; delta routesP; simp only [ret1, *, Bool.true_or, Bool.false_or, Bool.or_true, Bool.or_false, Bool.true_and, Bool.false_and, Bool.and_true, Bool.and_false, Bool.not_true, Bool.not_false, if_true, if_false, Bool.false_eq_true, reduceIte]
  have hR : routesP n x = if scan (routeAt n x) x.routes.length 0 != 0 then scan (routeAt n x) x.routes.length 0
      else if (x.routes.length : Int) == 2 && decide (gi x.routes 0 = gi x.routes 1) then 6 else 0 := by delta routesP; simp only [*, Bool.true_or, Bool.false_or, Bool.or_true, Bool.or_false, Bool.true_and, Bool.false_and, Bool.and_true, Bool.and_false, Bool.not_true, Bool.not_false, if_true, if_false, Bool.false_eq_true, reduceIte]
  rw [hR]
  refine Lp.go T [.t 2, .t 3] (fun i : Nat => [(2, .op 0 0), (3, .op 1 0), (17, rowsV x.routes), (18, i64 x.routes.length), (19, i64 i)]) (fun _ => [.box n.c, .box x.c]) (fun m i => m + i = x.routes.length ∧ scan (routeAt n x) x.routes.length 0 = scan (routeAt n x) m i) x.routes.length 0 ⟨by simp, rfl⟩ [.t 2, .t 3] ?_ ?_
  · (conv => whnf); refine ⟨rfl, ?_, ?_⟩ <;> (conv => whnf) <;> (repeat' apply And.intro) <;> first | exact True.intro | rfl | (conv => rhs; whnf)
  rintro m i ⟨hm, hi⟩
  conv => whnf
  refine Br.mk (fun hq => ?_) (fun hq => ?_) <;> conv => whnf
  · have hlt : i < x.routes.length := by simpa using hq
    obtain ⟨m, rfl⟩ : ∃ q, m = q + 1 := ⟨m - 1, by omega⟩
    rw [scan] at hi
    refine Ix.at (l := x.routes) hlt rfl ?_; conv => whnf
    refine FnG.go rfl ?_; conv => whnf
    refine CallG.go (S194 n hn x.flow.from_ x.flow.to_ (gd x.routes i) (hx.rows _ (gd_mem hlt))) ?_; conv => whnf
    refine Br.mk (fun hq2 => ?_) (fun hq2 => ?_) <;> conv => whnf
    · have hq3 : (routeAt n x i != 0) = true := hq2
      rw [hi, if_pos hq3, if_pos hq3]; exact RetG.one rfl
    · have hq3 : (routeAt n x i != 0) = false := hq2
      refine ⟨m, i + 1, by omega, ⟨by omega, by rw [hi, hq3]; rfl⟩, ?_⟩
      (conv => whnf); refine ⟨rfl, ?_, ?_⟩ <;> (conv => whnf) <;> (repeat' apply And.intro) <;> first | exact True.intro | rfl | (conv => rhs; whnf)
      exact incr (by omega)
  · obtain rfl : m = 0 := by
      have : x.routes.length ≤ i := by simpa using hq
      omega
    rw [hi, scan, if_neg (show ¬ ((0 : Int) != 0) = true by decide)]
    repeat' first | (refine LenG.map ?_; conv => whnf) | (refine LenG.go ?_; conv => whnf)
    repeat' first
      | (refine Br.T ?_; conv => whnf)
      | (refine Br.F ?_; conv => whnf)
      | (refine Br.mk (fun hq => ?_) (fun hq => ?_) <;> conv => whnf)
      | (refine FnG.go rfl ?_; conv => whnf)
      | (refine LenG.map ?_; conv => whnf)
      | (refine LenG.go ?_; conv => whnf)
      | (refine Ix.int (l := x.routes) (by simp_all; omega) rfl ?_; conv => whnf)
    · have h2 : x.routes.length = 2 := by simp at hq; omega
      refine CallG.go (S248 _ _ (hx.rows _ (gd_mem (i := 0) (by omega))) (hx.rows _ (gd_mem (i := 1) (by omega)))) ?_; conv => whnf
      clear h2
      repeat' first
        | (refine Br.T ?_; conv => whnf)
        | (refine Br.F ?_; conv => whnf)
        | (refine Br.mk (fun hq => ?_) (fun hq => ?_) <;> conv => whnf)
        | (refine FnG.go rfl ?_; conv => whnf)
        | (refine LenG.map ?_; conv => whnf)
        | (refine LenG.go ?_; conv => whnf)
      all_goals (refine RetG.one ?_; simp only [ret1, *, Bool.true_or, Bool.false_or, Bool.or_true, Bool.or_false, Bool.true_and, Bool.false_and, Bool.and_true, Bool.and_false, Bool.not_true, Bool.not_false, if_true, if_false, Bool.false_eq_true, reduceIte])
    · refine RetG.one ?_; simp only [ret1, *, Bool.true_or, Bool.false_or, Bool.or_true, Bool.or_false, Bool.true_and, Bool.false_and, Bool.and_true, Bool.and_false, Bool.not_true, Bool.not_false, if_true, if_false, Bool.false_eq_true, reduceIte]
def flowsOf (q : List GReq) : List GFlow := q.map fun x => x.flow
theorem S94 (q : List GReq) (hq : q.length ≤ 100000000) : Sound Tryz.prog 94 [reqsV q] (flowsV (flowsOf q)) := by
  refine ex_intro mixedT T [] Tryz.func94 rfl (by rw [Tryz.ntmps94]; simp) (by kernel_rfl) ?_
  conv => whnf
  repeat' first | (refine LenG.map ?_; conv => whnf) | (refine LenG.go ?_; conv => whnf)
  repeat' first | (refine LenG.map ?_; conv => whnf) | (refine LenG.go ?_; conv => whnf)
  refine Lp.goZ T [.t 3] [.t 3 44] (fun i : Nat => [(3, .sl (.tag 0) ((flowsOf (q.take i)).map GFlow.c)), (6, reqsV q), (7, i64 q.length), (8, i64 i)]) (fun i => [.live 44 6 (flowsOf (q.take i)).length]) (fun m i => m + i = q.length) q.length 0 (by simp) [.t 3] ?_ ?_
  · (conv => whnf); refine ⟨rfl, ?_, ?_⟩ <;> (conv => whnf) <;> (repeat' apply And.intro) <;> first | exact True.intro | rfl | (conv => rhs; whnf)
  rintro m i hm
  conv => whnf
  refine Br.mk (fun hq => ?_) (fun hq => ?_) <;> conv => whnf
  · have hlt : i < q.length := by simpa using hq
    have htk : flowsOf (q.take (i + 1)) = flowsOf (q.take i) ++ [(gd q i).flow] := by
      unfold flowsOf
      rw [List.take_add_one, gd_get hlt, List.map_append]; rfl
    refine Ix.at (l := q) hlt rfl ?_; conv => whnf
    refine ⟨appOk (by decide) (by simp [flowsOf]; omega) ⟨rfl, rfl⟩, ?_⟩; conv => whnf
    refine ⟨by simp, ?_⟩; conv => whnf
    refine ⟨m - 1, i + 1, by omega, by omega, ?_⟩
    (conv => whnf); refine ⟨rfl, ?_, ?_⟩ <;> (conv => whnf) <;> (repeat' apply And.intro) <;> first | exact True.intro | rfl | (conv => rhs; whnf)
    · rw [htk]; exact snocV
    · exact incr (by omega)
    · rw [htk]; exact snocH
  · have : q.length ≤ i := by simpa using hq
    rw [List.take_of_length_le this]
    exact RetG.one rfl
def reqAt (n : GNet) (q : List GReq) (i : Nat) : Int := routesP n (gd q i)
def reqsP (n : GNet) (q : List GReq) : Int × Int :=
  if netErr n != 0 then (-1, 1) else if (flowsP n.nodes (flowsOf q)).2 != 0 then flowsP n.nodes (flowsOf q)
  else firstE (reqAt n q) q.length 0
theorem S93 (n : GNet) (hn : n.ok) (q : List GReq) (hql : q.length ≤ 100000000) (hx : ∀ x ∈ q, x.ok) : Sound Tryz.prog 93 [n.v, reqsV q] (.tup [i64 (reqsP n q).1, i64 (reqsP n q).2]) := by
  have hfl : Cn (flowsOf q) := by unfold flowsOf; simp; omega
  refine ex_intro mixedT T [] Tryz.func93 rfl (by rw [Tryz.ntmps93]; simp) (by kernel_rfl) ?_
  conv => whnf
  repeat' first | (refine LenG.map ?_; conv => whnf) | (refine LenG.go ?_; conv => whnf)
  repeat' first
    | (refine Br.T ?_; conv => whnf)
    | (refine Br.F ?_; conv => whnf)
    | (refine Br.mk (fun hq => ?_) (fun hq => ?_) <;> conv => whnf)
    | (refine FnG.go rfl ?_; conv => whnf)
    | (refine LenG.map ?_; conv => whnf)
    | (refine LenG.go ?_; conv => whnf)
    | (refine CallG.go (S71 n hn) ?_; conv => whnf)
    | (refine CallG.go (S94 q hql) ?_; conv => whnf)
    | (refine CallG.go (S118 n.nodes (flowsOf q) hfl) ?_; conv => whnf)
  · refine RetG.two ?_ ?_ <;> (delta reqsP; simp only [ret1, *, Bool.true_or, Bool.false_or, Bool.or_true, Bool.or_false, Bool.true_and, Bool.false_and, Bool.and_true, Bool.and_false, Bool.not_true, Bool.not_false, if_true, if_false, Bool.false_eq_true, reduceIte])
  · refine RetG.two ?_ ?_ <;> (delta reqsP; simp only [ret1, *, Bool.true_or, Bool.false_or, Bool.or_true, Bool.or_false, Bool.true_and, Bool.false_and, Bool.and_true, Bool.and_false, Bool.not_true, Bool.not_false, if_true, if_false, Bool.false_eq_true, reduceIte])
  have hR : reqsP n q = firstE (reqAt n q) q.length 0 := by delta reqsP; simp only [*, Bool.true_or, Bool.false_or, Bool.or_true, Bool.or_false, Bool.true_and, Bool.false_and, Bool.and_true, Bool.and_false, Bool.not_true, Bool.not_false, if_true, if_false, Bool.false_eq_true, reduceIte]
  rw [hR]
  refine Lp.go T [.t 2] (fun i : Nat => [(2, .op 0 0), (26, reqsV q), (27, i64 q.length), (28, i64 i)]) (fun _ => [.box n.c]) (fun m i => m + i = q.length ∧ firstE (reqAt n q) q.length 0 = firstE (reqAt n q) m i) q.length 0 ⟨by simp, rfl⟩ [.t 2] ?_ ?_
  · (conv => whnf); refine ⟨rfl, ?_, ?_⟩ <;> (conv => whnf) <;> (repeat' apply And.intro) <;> first | exact True.intro | rfl | (conv => rhs; whnf)
  rintro m i ⟨hm, hi⟩
  conv => whnf
  refine Br.mk (fun hq => ?_) (fun hq => ?_) <;> conv => whnf
  · have hlt : i < q.length := by simpa using hq
    obtain ⟨m, rfl⟩ : ∃ q, m = q + 1 := ⟨m - 1, by omega⟩
    rw [firstE] at hi
    refine Ix.at (l := q) hlt rfl ?_; conv => whnf
    refine FnG.go rfl ?_; conv => whnf
    refine CallG.go (S180 n hn (gd q i) (hx _ (gd_mem hlt))) ?_; conv => whnf
    refine Br.mk (fun hq2 => ?_) (fun hq2 => ?_) <;> conv => whnf
    · have hq3 : (reqAt n q i != 0) = true := hq2
      rw [hi, if_pos hq3]; exact RetG.two rfl rfl
    · have hq3 : (reqAt n q i != 0) = false := hq2
      refine ⟨m, i + 1, by omega, ⟨by omega, by rw [hi, hq3]; rfl⟩, ?_⟩
      (conv => whnf); refine ⟨rfl, ?_, ?_⟩ <;> (conv => whnf) <;> (repeat' apply And.intro) <;> first | exact True.intro | rfl | (conv => rhs; whnf)
      exact incr (by omega)
  · obtain rfl : m = 0 := by
      have : q.length ≤ i := by simpa using hq
      omega
    rw [hi]
    exact RetG.two rfl rfl
end Go.Proofs.YtbaajjihhdmdpaaGreatDoor

namespace Go.Proofs.YtbaajjihhdmdpaaGreatDoor
open Go.RowKit Go.ChangeShapes Go.WideShapes Go.Deep
set_option linter.unusedSectionVars false
set_option linter.unusedVariables false
set_option linter.unusedSimpArgs false
set_option linter.unnecessarySimpa false
set_option maxRecDepth 100000
/-! ### bulk -/
theorem bulk_one {H : Type} (d : DataW H) : 1 ≤ Rows.uptoBulk d := by
  cases d with
  | lit l => cases l <;> simp [Rows.uptoBulk]
  | _ => simp [Rows.uptoBulk]
theorem bulk_mem {H : Type} {d : DataW H} : ∀ {l : List (DataW H)}, d ∈ l → Rows.uptoBulk d ≤ Rows.uptoBulkAll l
  | x :: r, h => by
    simp only [Rows.uptoBulkAll]
    rcases List.mem_cons.1 h with rfl | h
    · omega
    · have := bulk_mem h; omega
theorem bulk_len {H : Type} : ∀ (l : List (DataW H)), l.length ≤ Rows.uptoBulkAll l
  | [] => by simp [Rows.uptoBulkAll]
  | x :: r => by
    have := bulk_one x
    have := bulk_len r
    simp only [Rows.uptoBulkAll, List.length_cons]; omega
/-! ### readings -/
def SAll (W : World) (b o : Nat) : Prop := (W.cell? ⟨b, o, none⟩).isSome = true
abbrev Rd := List AV → Nat → Prop
section
variable {H : Type} {enc : TypeId × Value → H} {P : Program} {W : World}
/-- What reads as a type stands for values of the machine. -/
def RD (enc : TypeId × Value → H) (P : Program) (W : World) (t : TypeId) (sz : Nat) (Q : Rd) : Prop :=
  ∀ (fuel : Nat) (cs : List Value) (x : DataW H × List MemPlace), DataW.trod enc P W 0 (fun _ => true) true fuel t cs = some x →
    cs.length = sz ∧ ∃ avs : List AV, avs.length = sz ∧ (∀ j a, avs[j]? = some a → Rep (SAll W) W a (cs.getD j Go.undef)) ∧ ∀ B, Rows.uptoBulk x.1 ≤ B → Q avs B
theorem RD.mono {t : TypeId} {sz : Nat} {Q Q' : Rd} (h : RD enc P W t sz Q) (k : ∀ avs B, Q avs B → Q' avs B) : RD enc P W t sz Q' := by
  intro fuel cs x hx
  obtain ⟨h1, avs, h2, h3, h4⟩ := h fuel cs x hx
  exact ⟨h1, avs, h2, h3, fun B hB => k _ _ (h4 B hB)⟩
def QInt : Rd := fun avs _ => ∃ n : Int, avs = [i64 n] ∧ I64 n
theorem wf_i64 {n : Int} (h : (Lit.int .i64 n).wf = true) : I64 n := by
  simp only [Lit.wf, Bool.and_eq_true, decide_eq_true_eq] at h
  have h1 : IntKind.i64.min = -9223372036854775808 := by decide
  have h2 : IntKind.i64.max = 9223372036854775807 := by decide
  unfold I64
  omega
theorem rd_int {t : TypeId} (ht : P.underlying t = some (.int .i64)) : RD enc P W t 1 QInt := by
  intro fuel cs x hx
  obtain ⟨n, rfl, rfl, hw⟩ := DataW.trod_int ht hx
  refine ⟨rfl, [i64 n], rfl, fun j a ha => ?_, fun B _ => ⟨n, rfl, wf_i64 hw⟩⟩
  cases j with
  | zero => simp at ha; subst ha; exact .int .i64 n
  | succ j => simp at ha
def QSl (Q : Rd) : Rd := fun avs B => ∃ xs : List (List AV), avs = [.sl .no xs] ∧ xs.length ≤ B ∧ ∀ x ∈ xs, Q x B
theorem rd_slice {t e : TypeId} {sz : Nat} {Q : Rd} (ht : P.underlying t = some (.slice e)) (hC : P.cellsOf e = sz) (hp : 0 < sz) (he : RD enc P W e sz Q) : RD enc P W t 1 (QSl Q) := by
  intro fuel cs x hx
  rcases open_slice ht hx with ⟨rfl, rfl⟩ | ⟨a, len, cap, m, n, D, Pl, rfl, hb, hl, hm, hmm, rfl, hi⟩
  · refine ⟨rfl, [.sl .no []], rfl, fun j a ha => ?_, fun B _ => ⟨[], rfl, by simp, by simp⟩⟩
    cases j with
    | zero => simp at ha; subst ha; exact .slE none 0
    | succ j => simp at ha
  obtain rfl : m = cap := by simpa using hmm
  clear hmm
  have each : ∀ i, i < len → ∃ p : List Value × List AV, W.cells? 0 (a.add (i * sz)) sz = some p.1 ∧ p.2.length = sz ∧ (∀ j x, p.2[j]? = some x → Rep (SAll W) W x (p.1.getD j Go.undef)) ∧ ∀ B, Rows.uptoBulk (D i) ≤ B → Q p.2 B := by
    intro i hlt
    obtain ⟨cs', h1, h2⟩ := hi i (by omega)
    obtain ⟨h3, avs, h4, h5, h6⟩ := he _ _ _ h2
    rw [hC] at h1
    exact ⟨(cs', avs), h1, h4, h5, h6⟩
  obtain ⟨f, hf⟩ := choose_lt each
  refine ⟨rfl, [.sl .no ((List.range len).map fun i => (f i).2)], rfl, fun j x hx => ?_, fun B hB => ⟨_, rfl, ?_, ?_⟩⟩
  · cases j with
    | succ j => simp at hx
    | zero =>
      simp at hx; subst hx
      show Rep (SAll W) W _ (.slice (some a) len m)
      by_cases h0 : len = 0
      · subst h0; exact .slE (some a) m
      have c0 := hf 0 (by omega)
      obtain ⟨_, c1, c2⟩ := World.cells?_some c0.1
      have c3 := c2 0 hp
      rw [List.getElem?_eq_getElem (by omega)] at c3
      obtain ⟨b, off, spot⟩ := a
      have hspot : spot = none := by simpa [Addr.add] using World.cell?_spot c3
      subst hspot
      have hlen : ((List.range len).map fun i => (f i).2).length = len := by simp
      have hgx : ∀ i j x, getx ((List.range len).map fun i => (f i).2) i j = some x → i < len ∧ (f i).2[j]? = some x := by
        intro i j x hx
        unfold getx at hx
        rw [List.getElem?_map] at hx
        by_cases hi : i < len
        · rw [List.getElem?_range hi] at hx; exact ⟨hi, by simpa using hx⟩
        · rw [List.getElem?_eq_none (by simp; omega)] at hx; simp at hx
      have := Rep.sl (S := SAll W) (W := W) ((List.range len).map fun i => (f i).2) sz b off m (fun i j => (f i).1.getD j Go.undef) (by rw [hlen]; exact hl)
        (fun e he => by obtain ⟨i, hi, rfl⟩ := List.mem_map.1 he; exact (hf i (List.mem_range.1 hi)).2.1)
        (fun i j x hx => by
          obtain ⟨hi, hj⟩ := hgx i j x hx
          obtain ⟨d1, d2, d3, _⟩ := hf i hi
          obtain ⟨_, e1, e2⟩ := World.cells?_some d1
          have hjs : j < sz := by rw [← d2]; exact (List.getElem?_eq_some_iff.1 hj).1
          have e3 := e2 j hjs
          have e4 : W.cell? ⟨b, off + i * sz + j, none⟩ = some ((f i).1.getD j Go.undef) := by
            have : ((⟨b, off, none⟩ : Addr).add (i * sz)).add j = ⟨b, off + i * sz + j, none⟩ := by rw [Go.WideShapes.add_plain, Go.WideShapes.add_plain]
            rw [this] at e3
            rw [e3, List.getElem?_eq_getElem (by omega)]
            simp [List.getD, e1, hjs]
          exact ⟨by unfold SAll; rw [e4]; rfl, e4⟩)
        (fun i j x hx => by
          obtain ⟨hi, hj⟩ := hgx i j x hx
          exact (hf i hi).2.2.1 j x hj)
      rwa [hlen] at this
  · have : ((List.range len).map D).length ≤ Rows.uptoBulkAll ((List.range len).map D) := bulk_len _
    simp only [Rows.uptoBulk] at hB
    simp at this ⊢; omega
  · intro x hx
    obtain ⟨i, hi, rfl⟩ := List.mem_map.1 hx
    have hi := List.mem_range.1 hi
    refine (hf i hi).2.2.2 B ?_
    have : Rows.uptoBulk (D i) ≤ Rows.uptoBulkAll ((List.range len).map D) := bulk_mem (List.mem_map.2 ⟨i, by simp [hi], rfl⟩)
    simp only [Rows.uptoBulk] at hB
    omega
def Cat : List (Nat × Rd) → Rd
  | [], avs, _ => avs = []
  | q :: qs, avs, B => ∃ a r, avs = a ++ r ∧ a.length = q.1 ∧ q.2 a B ∧ Cat qs r B
def Lays (enc : TypeId × Value → H) (P : Program) (W : World) : List Field → List (Nat × Rd) → Nat → Nat → Prop
  | [], [], o, tot => o = tot
  | f :: fs, q :: qs, o, tot => f.offset = o ∧ P.cellsOf f.type = q.1 ∧ RD enc P W f.type q.1 q.2 ∧ Lays enc P W fs qs (o + q.1) tot
  | _, _, _, _ => False
theorem lays_go {cs : List Value} {tot n : Nat} (hcs : cs.length = tot) : ∀ (fs : List Field) (qs : List (Nat × Rd)) (o : Nat) (xs : List (DataW H × List MemPlace)), Lays enc P W fs qs o tot → xs.length = fs.length →
    (∀ (i : Nat) (f : Field), fs[i]? = some f → DataW.trod enc P W 0 (fun _ => true) true n f.type ((cs.drop f.offset).take (P.cellsOf f.type)) = xs[i]?) →
    o ≤ tot ∧ ∃ avs : List AV, avs.length = tot - o ∧ (∀ j a, avs[j]? = some a → Rep (SAll W) W a (cs.getD (o + j) Go.undef)) ∧ ∀ B, Rows.uptoBulkAll (xs.map (·.1)) ≤ B → Cat qs avs B
  | [], [], o, xs, hl, hx, hf => by
    have : o = tot := hl
    subst this
    exact ⟨Nat.le_refl _, [], by simp, fun j a ha => by simp at ha, fun B _ => rfl⟩
  | f :: fs, q :: qs, o, xs, hl, hx, hf => by
    obtain ⟨h1, h2, h3, h4⟩ := hl
    cases xs with
    | nil => simp at hx
    | cons y xs =>
      have hy := hf 0 f rfl
      simp only [List.getElem?_cons_zero] at hy
      obtain ⟨d1, av1, d2, d3, d4⟩ := h3 _ _ _ hy
      rw [h1, h2] at d1
      obtain ⟨ho, av2, e1, e2, e3⟩ := lays_go hcs fs qs (o + q.1) xs h4 (by simpa using hx) (fun i g hg => by have := hf (i + 1) g (by simpa using hg); simpa using this)
      refine ⟨by omega, av1 ++ av2, by rw [List.length_append, d2, e1]; omega, fun j a ha => ?_, fun B hB => ?_⟩
      · by_cases hj : j < av1.length
        · rw [List.getElem?_append_left hj] at ha
          have := d3 j a ha
          rw [h1, h2] at this
          have e : ((cs.drop o).take q.1).getD j Go.undef = cs.getD (o + j) Go.undef := by
            simp only [List.getD_eq_getElem?_getD]
            rw [List.getElem?_take_of_lt (by omega), List.getElem?_drop]
          rwa [e] at this
        · rw [List.getElem?_append_right (by omega)] at ha
          have := e2 _ a ha
          rwa [show o + q.1 + (j - av1.length) = o + j by omega] at this
      · simp only [List.map_cons, Rows.uptoBulkAll] at hB
        exact ⟨av1, av2, rfl, d2, d4 B (by omega), e3 B (by omega)⟩
  | [], _ :: _, o, xs, hl, _, _ => hl.elim
  | _ :: _, [], o, xs, hl, _, _ => hl.elim
theorem rd_struct {t : TypeId} {fs : Array Field} {qs : List (Nat × Rd)} {tot : Nat} (hs : P.underlying t = some (.struct fs)) (hl : Lays enc P W fs.toList qs 0 tot) (hC : P.cellsOf t = tot) : RD enc P W t tot (Cat qs) := by
  intro fuel cs x hx
  obtain ⟨xs, n, _, rfl, h1, h2, h3⟩ := DataW.trod_struct hs hx
  rw [hC] at h1
  obtain ⟨_, avs, h4, h5, h6⟩ := lays_go (enc := enc) (n := n) h1 fs.toList qs 0 xs hl (by simpa using h2) (fun i f hf => h3 i f (by simpa using hf))
  refine ⟨h1, avs, by simpa using h4, fun j a ha => by have := h5 j a ha; rwa [Nat.zero_add] at this, fun B hB => h6 B ?_⟩
  simp only [Rows.uptoBulk] at hB
  omega
/-- An argument that reads so is what the machine takes. -/
theorem rd_val1 {t : TypeId} {Q : Rd} (h : RD enc P W t 1 Q) {v : Value} {d : DataW H} {ps : List MemPlace} (ht : DataW.Trod enc P W 0 (fun _ => true) true t v d ps) (hv : v.cells = #[v]) :
    ∃ a : AV, Rep (SAll W) W a v ∧ ∀ B, Rows.uptoBulk d ≤ B → Q [a] B := by
  obtain ⟨fuel, hf⟩ := ht
  rw [hv] at hf
  obtain ⟨_, avs, h2, h3, h4⟩ := h _ _ _ hf
  match avs, h2 with
  | [a], _ => exact ⟨a, by have := h3 0 a rfl; simpa using this, h4⟩
theorem rd_valS {t : TypeId} {sz : Nat} {Q : Rd} (h : RD enc P W t sz Q) {cs : Array Value} {d : DataW H} {ps : List MemPlace} (ht : DataW.Trod enc P W 0 (fun _ => true) true t (.agg cs) d ps) :
    ∃ avs : List AV, Rep (SAll W) W (.ag avs) (.agg cs) ∧ ∀ B, Rows.uptoBulk d ≤ B → Q avs B := by
  obtain ⟨fuel, hf⟩ := ht
  have hf : DataW.trod enc P W 0 (fun _ => true) true fuel t cs.toList = some (d, ps) := hf
  obtain ⟨h1, avs, h2, h3, h4⟩ := h _ _ _ hf
  refine ⟨avs, ?_, h4⟩
  have := Rep.ag (S := SAll W) (W := W) avs cs.toList (by omega) h3
  simpa using this
end
theorem list_of {α : Type} (f : α → List AV) (p : α → Prop) : ∀ (xs : List (List AV)), (∀ x ∈ xs, ∃ a, x = f a ∧ p a) → ∃ l : List α, xs = l.map f ∧ ∀ a ∈ l, p a
  | [], _ => ⟨[], rfl, by simp⟩
  | x :: r, h => by
    obtain ⟨a, rfl, ha⟩ := h x (by simp)
    obtain ⟨l, rfl, hl⟩ := list_of f p r fun y hy => h y (by simp [hy])
    exact ⟨a :: l, rfl, fun b hb => (List.mem_cons.1 hb).elim (fun e => e ▸ ha) (hl b)⟩
section
variable {H : Type} {enc : TypeId × Value → H} {W : World}
theorem rdInt : RD enc Tryz.prog W 3 1 QInt := rd_int Tryz.underlying3
def QOf {α : Type} (f : α → List AV) (p : α → Nat → Prop) : Rd := fun avs B => ∃ a, avs = f a ∧ p a B
def QList {α : Type} (f : α → List AV) (p : α → Nat → Prop) : Rd := fun avs B => ∃ l : List α, avs = [.sl .no (l.map f)] ∧ l.length ≤ B ∧ ∀ a ∈ l, p a B
theorem rd_list {α : Type} {f : α → List AV} {p : α → Nat → Prop} {t e : TypeId} {sz : Nat} (ht : Tryz.prog.underlying t = some (.slice e)) (hC : Tryz.prog.cellsOf e = sz) (hp : 0 < sz) (he : RD enc Tryz.prog W e sz (QOf f p)) :
    RD enc Tryz.prog W t 1 (QList f p) :=
  (rd_slice ht hC hp he).mono fun avs B h => by
    obtain ⟨xs, rfl, h1, h2⟩ := h
    obtain ⟨l, rfl, hl⟩ := list_of f (fun a => p a B) xs h2
    exact ⟨l, rfl, by simpa using h1, hl⟩
abbrev PT {α : Type} : α → Nat → Prop := fun _ _ => True
abbrev iC (n : Int) : List AV := [i64 n]
abbrev isC (l : List Int) : List AV := [intsV l]
theorem rdIntC : RD enc Tryz.prog W 3 1 (QOf iC PT) := rdInt.mono fun avs B h => by obtain ⟨n, rfl, _⟩ := h; exact ⟨n, rfl, trivial⟩
abbrev PL {α : Type} : List α → Nat → Prop := fun l B => l.length ≤ B
theorem rdInts : RD enc Tryz.prog W 24 1 (QOf isC PL) := (rd_list Tryz.underlying24 (by kernel_rfl) (by decide) rdIntC).mono fun avs B h => by
  obtain ⟨l, rfl, h1, _⟩ := h; exact ⟨l, rfl, h1⟩
theorem rdRoute : RD enc Tryz.prog W 80 1 (QOf isC PL) := (rd_list Tryz.underlying80 (by kernel_rfl) (by decide) rdIntC).mono fun avs B h => by
  obtain ⟨l, rfl, h1, _⟩ := h; exact ⟨l, rfl, h1⟩
abbrev PR : List (List Int) → Nat → Prop := fun l B => l.length ≤ B ∧ ∀ r ∈ l, r.length ≤ B
abbrev rsC (l : List (List Int)) : List AV := [rowsV l]
theorem rdRows : RD enc Tryz.prog W 22 1 (QOf rsC PR) := (rd_list Tryz.underlying22 (by kernel_rfl) (by decide) rdInts).mono fun avs B h => by
  obtain ⟨l, rfl, h1, h2⟩ := h; exact ⟨l, rfl, h1, h2⟩
theorem rdRoutes : RD enc Tryz.prog W 45 1 (QOf rsC PR) := (rd_list Tryz.underlying45 (by kernel_rfl) (by decide) rdRoute).mono fun avs B h => by
  obtain ⟨l, rfl, h1, h2⟩ := h; exact ⟨l, rfl, h1, h2⟩
theorem rdLink : RD enc Tryz.prog W 31 3 (QOf GLink.c PT) :=
  (rd_struct (qs := [(1, QInt), (1, QInt), (1, QInt)]) Tryz.underlying31 ⟨rfl, by kernel_rfl, rdInt, rfl, by kernel_rfl, rdInt, rfl, by kernel_rfl, rdInt, rfl⟩ (by kernel_rfl)).mono fun avs B h => by
    obtain ⟨_, _, rfl, _, ⟨a, rfl, _⟩, _, _, rfl, _, ⟨b, rfl, _⟩, _, _, rfl, _, ⟨c, rfl, _⟩, rfl⟩ := h
    exact ⟨⟨a, b, c⟩, rfl, trivial⟩
theorem rdLinks : RD enc Tryz.prog W 23 1 (QList GLink.c PT) := rd_list Tryz.underlying23 (by kernel_rfl) (by decide) rdLink
theorem rdCell : RD enc Tryz.prog W 61 5 (QOf GCell.c PT) :=
  (rd_struct (qs := [(1, QInt), (1, QInt), (1, QInt), (1, QInt), (1, QInt)]) Tryz.underlying61 ⟨rfl, by kernel_rfl, rdInt, rfl, by kernel_rfl, rdInt, rfl, by kernel_rfl, rdInt, rfl, by kernel_rfl, rdInt, rfl, by kernel_rfl, rdInt, rfl⟩ (by kernel_rfl)).mono fun avs B h => by
    obtain ⟨_, _, rfl, _, ⟨a, rfl, _⟩, _, _, rfl, _, ⟨b, rfl, _⟩, _, _, rfl, _, ⟨c, rfl, _⟩, _, _, rfl, _, ⟨d, rfl, _⟩, _, _, rfl, _, ⟨e, rfl, _⟩, rfl⟩ := h
    exact ⟨⟨a, b, c, d, e⟩, rfl, trivial⟩
theorem rdCells : RD enc Tryz.prog W 27 1 (QList GCell.c PT) := rd_list Tryz.underlying27 (by kernel_rfl) (by decide) rdCell
theorem rdFlow : RD enc Tryz.prog W 44 6 (QOf GFlow.c PT) :=
  (rd_struct (qs := [(1, QInt), (1, QInt), (1, QInt), (1, QInt), (1, QInt), (1, QInt)]) Tryz.underlying44 ⟨rfl, by kernel_rfl, rdInt, rfl, by kernel_rfl, rdInt, rfl, by kernel_rfl, rdInt, rfl, by kernel_rfl, rdInt, rfl, by kernel_rfl, rdInt, rfl, by kernel_rfl, rdInt, rfl⟩ (by kernel_rfl)).mono fun avs B h => by
    obtain ⟨_, _, rfl, _, ⟨a, rfl, _⟩, _, _, rfl, _, ⟨b, rfl, _⟩, _, _, rfl, _, ⟨c, rfl, _⟩, _, _, rfl, _, ⟨d, rfl, _⟩, _, _, rfl, _, ⟨e, rfl, _⟩, _, _, rfl, _, ⟨f, rfl, _⟩, rfl⟩ := h
    exact ⟨⟨a, b, c, d, e, f⟩, rfl, trivial⟩
abbrev PReq : GReq → Nat → Prop := fun x B => PR x.routes B
theorem rdReq : RD enc Tryz.prog W 47 7 (QOf GReq.c PReq) :=
  (rd_struct (qs := [(6, QOf GFlow.c PT), (1, QOf rsC PR)]) Tryz.underlying47 ⟨rfl, by kernel_rfl, rdFlow, rfl, by kernel_rfl, rdRoutes, rfl⟩ (by kernel_rfl)).mono fun avs B h => by
    obtain ⟨_, _, rfl, _, ⟨f, rfl, _⟩, _, _, rfl, _, ⟨l, rfl, hl⟩, rfl⟩ := h
    exact ⟨⟨f, l⟩, rfl, hl⟩
theorem rdReqs : RD enc Tryz.prog W 42 1 (QList GReq.c PReq) := rd_list Tryz.underlying42 (by kernel_rfl) (by decide) rdReq
abbrev PNet : GNet → Nat → Prop := fun n B => PR n.power B ∧ n.links.length ≤ B ∧ n.margin.length ≤ B
theorem rdNet : RD enc Tryz.prog W 26 6 (QOf GNet.c PNet) :=
  (rd_struct (qs := [(1, QInt), (1, QOf rsC PR), (1, QInt), (1, QInt), (1, QList GLink.c PT), (1, QOf isC PL)]) Tryz.underlying26 ⟨rfl, by kernel_rfl, rdInt, rfl, by kernel_rfl, rdRows, rfl, by kernel_rfl, rdInt, rfl, by kernel_rfl, rdInt, rfl, by kernel_rfl, rdLinks, rfl, by kernel_rfl, rdInts, rfl⟩ (by kernel_rfl)).mono fun avs B h => by
    obtain ⟨_, _, rfl, _, ⟨a, rfl, _⟩, _, _, rfl, _, ⟨b, rfl, hb⟩, _, _, rfl, _, ⟨c, rfl, _⟩, _, _, rfl, _, ⟨d, rfl, _⟩, _, _, rfl, _, ⟨e, rfl, he, _⟩, _, _, rfl, _, ⟨f, rfl, hf⟩, rfl⟩ := h
    exact ⟨⟨a, b, c, d, e, f⟩, rfl, hb, he, hf⟩
abbrev PSched : GSched → Nat → Prop := fun s B => s.cells.length ≤ B
theorem rdSched : RD enc Tryz.prog W 29 3 (QOf GSched.c PSched) :=
  (rd_struct (qs := [(1, QInt), (1, QInt), (1, QList GCell.c PT)]) Tryz.underlying29 ⟨rfl, by kernel_rfl, rdInt, rfl, by kernel_rfl, rdInt, rfl, by kernel_rfl, rdCells, rfl⟩ (by kernel_rfl)).mono fun avs B h => by
    obtain ⟨_, _, rfl, _, ⟨a, rfl, _⟩, _, _, rfl, _, ⟨b, rfl, _⟩, _, _, rfl, _, ⟨l, rfl, hl, _⟩, rfl⟩ := h
    exact ⟨⟨a, b, l⟩, rfl, hl⟩
/-! ### arguments -/
abbrev Read (enc : TypeId × Value → H) (W : World) (t : TypeId) (v : Value) (d : DataW H) (p : List MemPlace) : Prop := DataW.Trod enc Tryz.prog W 0 (fun _ => true) true t v d p
variable {base : Nat} {v : Value} {d : DataW H} {p : List MemPlace}
theorem argS {α : Type} {f : α → List AV} {q : α → Nat → Prop} {t : TypeId} {fs : Array Field} {sz : Nat} (hs : Tryz.prog.underlying t = some (.struct fs)) (hr : RD enc Tryz.prog W t sz (QOf f q)) (hv : Value.okWide Tryz.prog W .any base t v) (h : Read enc W t v d p) :
    ∀ B, Rows.uptoBulk d ≤ B → ∃ a, Rep (SAll W) W (.ag (f a)) v ∧ q a B := by
  obtain ⟨cs, rfl, _⟩ := okWide_struct hs hv
  obtain ⟨avs, h1, h2⟩ := rd_valS hr h
  intro B hB
  obtain ⟨a, rfl, hq⟩ := h2 B hB
  exact ⟨a, h1, hq⟩
theorem argL {α : Type} {f : α → List AV} {q : α → Nat → Prop} {t e : TypeId} (hs : Tryz.prog.underlying t = some (.slice e)) (hr : RD enc Tryz.prog W t 1 (QList f q)) (hv : Value.okWide Tryz.prog W .any base t v) (h : Read enc W t v d p) :
    ∀ B, Rows.uptoBulk d ≤ B → ∃ l : List α, Rep (SAll W) W (.sl .no (l.map f)) v ∧ l.length ≤ B ∧ ∀ a ∈ l, q a B := by
  obtain ⟨a, len, cap, rfl⟩ := okWide_slice hs hv
  obtain ⟨x, h1, h2⟩ := rd_val1 hr h rfl
  intro B hB
  obtain ⟨l, e, h3, h4⟩ := h2 B hB
  obtain rfl : x = _ := List.head_eq_of_cons_eq e
  exact ⟨l, h1, h3, h4⟩
/-! ### the table -/
theorem g0 : Tryz.prog.globalNamed "internal/strconv.uint64pow10" = some 0 := by kernel_rfl
theorem tab_of {W : World} (h : laidMetH Tryz.prog [("math/bits.deBruijn32tab", Rows.laid_math_bits_deBruijn32tab), ("math/bits.deBruijn64tab", Rows.laid_math_bits_deBruijn64tab), ("internal/strconv.uint64pow10", Rows.laid_internal_strconv_uint64pow10)] W) :
    TabB Tryz.prog W.heap.size W := by
  rw [MakeChecks.laidMetH_plain _ _ _ (by kernel_rfl)] at h
  have ht : Lib.TabIs Tryz.prog W "internal/strconv.uint64pow10" .u64 Lib.pow10Tab :=
    Lib.tabIs_of_head (rest := []) g0 (t := 319) (e := 265) (n := 20) (by kernel_rfl) Tryz.underlying319 (by kernel_rfl) (by kernel_rfl) (by kernel_rfl) h.tail.tail
  refine ⟨ht, fun g hg => ?_⟩
  obtain rfl : 0 = g := Option.some.inj (g0.symm.trans hg)
  unfold Lib.TabIs World.var? at ht
  rw [g0] at ht
  simp only [Option.bind_some] at ht
  by_cases h0 : 0 < W.heap.size
  · exact h0
  · rw [Array.getElem?_eq_none (by omega)] at ht
    cases ht
end
theorem ownKnob0 : ownKnob Tryz.prog.godebug = none := by kernel_rfl
theorem laidOut0 : laidOutB Tryz.prog = true := by kernel_rfl
section
variable {H : Type} {enc : TypeId × Value → H} {W W' : World}
theorem trodAll_kept (hb : Go.RowKit.Below W.heap.size W W') {sp : Nat → Bool} : ∀ (ts : List TypeId) (vs : List Value) (ds : List (DataW H)) (p : List MemPlace), (∀ t ∈ ts, Tryz.prog.readableRec t = true ∧ t < Tryz.prog.types.size) →
    DataW.TrodAll enc Tryz.prog W 0 (fun _ => true) true ts vs ds p → (∀ x ∈ p, x.block < W.heap.size) → (∀ x ∈ p, sp x.block = true) → DataW.TrodAll enc Tryz.prog W' 0 sp true ts vs ds p
  | [], vs, ds, p, _, h, _, _ => by
    obtain ⟨rfl, rfl, rfl⟩ := trodAll_nil h
    exact trodAll_mk0
  | t :: ts, vs, ds, p, hr, h, hlt, hsp => by
    obtain ⟨v, vs', d, ds', p1, q1, rfl, rfl, rfl, h1, h2⟩ := trodAll_cons h
    have k1 := hr t (by simp)
    exact trodAll_cons_mk (WideElems.Trod_stays laidOut0 k1.1 k1.2 h1 (fun x hx => hb.same (hlt x (by simp [hx]))) (fun x hx => hsp x (by simp [hx])))
      (trodAll_kept hb ts vs' ds' q1 (fun t ht => hr t (by simp [ht])) h2 (fun x hx => hlt x (by simp [hx])) (fun x hx => hsp x (by simp [hx])))
/-- A law that answered true and turned nothing old has done what its row says. -/
theorem post_law {f : Func} {s : ChangeSpec} {args : Array Value} {ds : List (DataW H)} {p : List MemPlace} (hW : DataW.Whole enc Tryz.prog f.params.toList s.vars false W args.toList ds [] p) (hv : s.vars = []) (hr : f.resultTypes = #[4])
    (hs : s.fn H ds = { results := [.lit (.bool true)], args := ds }) (ht : ∀ t ∈ f.params.toList, Tryz.prog.readableRec t = true ∧ t < Tryz.prog.types.size) (hb : Go.RowKit.Below W.heap.size W W') :
    s.post enc Tryz.prog f false true false false W args (.bool true) W' := by
  have hlt : ∀ x ∈ p, x.block < W.heap.size := fun x hx => hW.lt x hx
  obtain ⟨p1, q1, hA, hV, rfl, _, _⟩ := hW
  rw [hv] at hV
  obtain ⟨_, rfl⟩ := trodVars_none hV
  have e : s.fn H (ds ++ []) = { results := [.lit (.bool true)], args := ds } := by rw [List.append_nil]; exact hs
  refine ⟨ds, [], p1 ++ [], [], p1, [], ⟨p1, [], hA, by rw [hv]; exact rfl, rfl, ?_, fun h => by cases h⟩, ?_, ?_, ?_, ?_, fun h => by cases h⟩
  · assumption
  · rw [e, hr]
    exact trodAll_cons_mk (shut_bool Tryz.underlying4 true) trodAll_mk0
  · rw [e]
    exact trodAll_kept hb _ _ _ _ ht hA (fun x hx => hlt x (by simp [hx])) (fun x hx => by simpa using hlt x (by simp [hx]))
  · rw [e, hv]; exact rfl
  · refine World.keptBut_mono (fun p hp => ⟨hp, .inr (.inl (by simpa using hp))⟩) (hb.frame (· ∈ p1 ++ []))
/-- What a law's contract gives. -/
theorem law_calls {f : FuncId} {fn : Func} {s : ChangeSpec} {avs : List AV} {vs : List Value} (hc : Sound Tryz.prog f avs (.bool true)) (hT : TabB Tryz.prog W.heap.size W) (hl : vs.length = avs.length)
    (hrep : ∀ j x, avs[j]? = some x → Rep (SAll W) W x (vs.getD j Go.undef)) (hpost : ∀ W', Go.RowKit.Below W.heap.size W W' → s.post enc Tryz.prog fn false true false false W vs.toArray (.bool true) W') :
    Calls Tryz.prog f vs.toArray W fun e W' => ∃ v, e = .returned v ∧ s.post enc Tryz.prog fn false true false false W vs.toArray v W' := by
  refine (hc (SAll W) W vs hT (fun b o h => h) hl hrep).mono ?_
  rintro e W' ⟨u, S', rfl, h1, _, _, _, h5⟩
  have h5 : Rep S' W' (.bool true) u := h5
  cases h5
  exact ⟨_, rfl, hpost W' h1.kit⟩
theorem rep_cons {S : Nat → Nat → Prop} {a : AV} {v : Value} {avs : List AV} {vs : List Value} (h : Rep S W a v) (k : ∀ j x, avs[j]? = some x → Rep S W x (vs.getD j Go.undef)) : ∀ j x, (a :: avs)[j]? = some x → Rep S W x ((v :: vs).getD j Go.undef) := by
  intro j x hx
  cases j with
  | zero => simp at hx; subst hx; simpa using h
  | succ j => simpa using k j x (by simpa using hx)
theorem rep_nil {S : Nat → Nat → Prop} : ∀ j x, ([] : List AV)[j]? = some x → Rep S W x (([] : List Value).getD j Go.undef) := by intro j x hx; simp at hx
theorem bulk_part {ds : List (DataW H)} (h : Rows.uptoSmall H ds = true) {d : DataW H} (hd : d ∈ ds) : Rows.uptoBulk d ≤ 1048576 := by
  have h1 : Rows.uptoBulkAll ds ≤ 1048576 := of_decide_eq_true h
  exact Nat.le_trans (bulk_mem hd) h1
end
section
variable {H : Type} {enc : TypeId × Value → H} {W : World} {base : Nat} {v : Value} {d : DataW H} {p : List MemPlace}
end
theorem net_ok {n : GNet} (h : PNet n 1048576) : n.ok :=
  ⟨by have := h.1.1; show n.power.length < _; omega, fun r hr => by have := h.1.2 r hr; show r.length < _; omega, by have := h.2.1; show n.links.length < _; omega, by have := h.2.2; show n.margin.length < _; omega⟩
theorem req_ok {x : GReq} (h : PReq x 1048576) : x.ok := ⟨by have := h.1; show x.routes.length < _; omega, fun r hr => by have := h.2 r hr; show r.length < _; omega⟩
end Go.Proofs.YtbaajjihhdmdpaaGreatDoor

namespace Go.Proofs.YtbaajjihhdmdpaaGreatDoor
open Go.RowKit
set_option linter.unusedSectionVars false
set_option linter.unusedVariables false
set_option linter.unusedSimpArgs false
set_option linter.unnecessarySimpa false
set_option maxRecDepth 100000
set_option maxHeartbeats 4000000
theorem S121 (s : GSched) (f : GFlow) (h : f.period ≠ 0) : Sound Tryz.prog 121 [f.v, .rp s.c] (.bool (Int.tmod s.length f.period != 0)) := by
  refine ex_intro mixedT T [] Tryz.func121 rfl (by rw [Tryz.ntmps121]; simp) (by kernel_rfl) ?_
  conv => whnf
  repeat' first | (refine LenG.map ?_; conv => whnf) | (refine LenG.go ?_; conv => whnf)
  refine Nd.go h ?_; conv => whnf
  repeat' first
    | (refine Br.T ?_; conv => whnf)
    | (refine Br.F ?_; conv => whnf)
    | (refine Br.mk (fun hq => ?_) (fun hq => ?_) <;> conv => whnf)
    | (refine FnG.go rfl ?_; conv => whnf)
    | (refine LenG.map ?_; conv => whnf)
    | (refine LenG.go ?_; conv => whnf)
  exact RetG.one rfl
theorem S273 (n : GNet) (c : GCell) : Sound Tryz.prog 273 [c.v, .rp n.c] (.bool (!isNode n c.from_ || !isNode n c.to_)) := by
  refine ex_intro mixedT T [] Tryz.func273 rfl (by rw [Tryz.ntmps273]; simp) (by kernel_rfl) ?_
  conv => whnf
  repeat' first | (refine LenG.map ?_; conv => whnf) | (refine LenG.go ?_; conv => whnf)
  repeat' first
    | (refine Br.T ?_; conv => whnf)
    | (refine Br.F ?_; conv => whnf)
    | (refine Br.mk (fun hq => ?_) (fun hq => ?_) <;> conv => whnf)
    | (refine FnG.go rfl ?_; conv => whnf)
    | (refine LenG.map ?_; conv => whnf)
    | (refine LenG.go ?_; conv => whnf)
    | (refine CallG.go (S274 n _) ?_; conv => whnf)
  all_goals (refine RetG.one ?_; simp only [ret1, *, Bool.true_or, Bool.false_or, Bool.or_true, Bool.or_false, Bool.true_and, Bool.false_and, Bool.and_true, Bool.and_false, Bool.not_true, Bool.not_false, if_true, if_false, Bool.false_eq_true, reduceIte])
def strange (n : GNet) (c : GCell) : Bool := !isNode n c.from_ || !isNode n c.to_
def distP (n : GNet) (l : List GCell) (i node : Int) : Int :=
  if netErr n != 0 || decide (i < 0) || decide (i ≥ l.length) || !isNode n node || l.any (strange n) then 0 else dist n l i node
theorem S201 (n : GNet) (hn : n.ok) (l : List GCell) (hl : Cn l) (i node : Int) : Sound Tryz.prog 201 [n.v, cellsV l, i64 i, i64 node] (i64 (distP n l i node)) := by
  refine ex_intro mixedT T [] Tryz.func201 rfl (by rw [Tryz.ntmps201]; simp) (by kernel_rfl) ?_
  conv => whnf
  repeat' first | (refine LenG.map ?_; conv => whnf) | (refine LenG.go ?_; conv => whnf)
  repeat' first
    | (refine Br.T ?_; conv => whnf)
    | (refine Br.F ?_; conv => whnf)
    | (refine Br.mk (fun hq => ?_) (fun hq => ?_) <;> conv => whnf)
    | (refine FnG.go rfl ?_; conv => whnf)
    | (refine LenG.map ?_; conv => whnf)
    | (refine LenG.go ?_; conv => whnf)
    | (refine CallG.go (S71 n hn) ?_; conv => whnf)
    | (refine CallG.go (S274 n _) ?_; conv => whnf)
    | (refine CallG.go (S32_1 rfl n.c l (strange n) (fun c _ => S273 n c) hl) ?_; conv => whnf)
    | (refine CallG.go (S275 n hn (netOk_of (by simp_all)) l hl i node (by simp_all)) ?_; conv => whnf)
  all_goals (refine RetG.one ?_; delta distP; simp only [ret1, *, Bool.true_or, Bool.false_or, Bool.or_true, Bool.or_false, Bool.true_and, Bool.false_and, Bool.and_true, Bool.and_false, Bool.not_true, Bool.not_false, if_true, if_false, Bool.false_eq_true, reduceIte])
def cellAtE (n : GNet) (l : List GFlow) (s : GSched) (i : Nat) : Int :=
  if !placed s (gd s.cells i) then 2
  else if !goodLk n (gd s.cells i).from_ (gd s.cells i).to_ || decide (findFl l (gd s.cells i).flow < 0) then 7
  else if decide ((i : Int) > 0) && decide (cmpCell (gd s.cells (i - 1)) (gd s.cells i) ≥ 0) then 5 else 0
def cellsP (n : GNet) (l : List GFlow) (s : GSched) : Int × Int := firstE (cellAtE n l s) s.cells.length 0
theorem S122 (n : GNet) (hn : n.ok) (hv : netErr n = 0) (l : List GFlow) (hl : Cn l) (s : GSched) (hs : Cn s.cells) : Sound Tryz.prog 122 [n.v, flowsV l, s.v] (.tup [i64 (cellsP n l s).1, i64 (cellsP n l s).2]) := by
  refine ex_intro mixedT T [] Tryz.func122 rfl (by rw [Tryz.ntmps122]; simp) (by kernel_rfl) ?_
  conv => whnf
  repeat' first | (refine LenG.map ?_; conv => whnf) | (refine LenG.go ?_; conv => whnf)
  repeat' first | (refine LenG.map ?_; conv => whnf) | (refine LenG.go ?_; conv => whnf)
  refine Lp.go T [.t 3, .t 5] (fun i : Nat => [(1, flowsV l), (3, .op 0 0), (5, .op 1 0), (11, cellsV s.cells), (12, i64 s.cells.length), (13, i64 i)]) (fun _ => [.box n.c, .box s.c]) (fun m i => m + i = s.cells.length ∧ cellsP n l s = firstE (cellAtE n l s) m i) s.cells.length 0 ⟨by simp, rfl⟩ [.t 3, .t 5] ?_ ?_
  · (conv => whnf); refine ⟨rfl, ?_, ?_⟩ <;> (conv => whnf) <;> (repeat' apply And.intro) <;> first | exact True.intro | rfl | (conv => rhs; whnf)
  rintro m i ⟨hm, hi⟩
  conv => whnf
  refine Br.mk (fun hq => ?_) (fun hq => ?_) <;> conv => whnf
  · have hlt : i < s.cells.length := by simpa using hq
    obtain ⟨m, rfl⟩ : ∃ q, m = q + 1 := ⟨m - 1, by omega⟩
    rw [firstE] at hi
    have hAt : cellAtE n l s i = if !placed s (gd s.cells i) then 2
      else if !goodLk n (gd s.cells i).from_ (gd s.cells i).to_ || decide (findFl l (gd s.cells i).flow < 0) then 7
      else if decide ((i : Int) > 0) && decide (cmpCell (gd s.cells (i - 1)) (gd s.cells i) ≥ 0) then 5 else 0 := rfl
    rw [hAt] at hi
    clear hAt
    repeat' first
      | (refine Br.T ?_; conv => whnf)
      | (refine Br.F ?_; conv => whnf)
      | (refine Br.mk (fun hq => ?_) (fun hq => ?_) <;> conv => whnf)
      | (refine FnG.go rfl ?_; conv => whnf)
      | (refine LenG.map ?_; conv => whnf)
      | (refine LenG.go ?_; conv => whnf)
      | (refine CallG.go (S189 s (gd s.cells i)) ?_; conv => whnf)
      | (refine CallG.go (S74v n hn hv _ _) ?_; conv => whnf)
      | (refine CallG.go (S73v n hn hv _ _) ?_; conv => whnf)
      | (refine CallG.go (S198 l hl _) ?_; conv => whnf)
      | (refine CallG.go (S110 _ _) ?_; conv => whnf)
      | (refine Ix.at (l := s.cells) hlt rfl ?_; conv => whnf)
      | (refine Ix.pred (l := s.cells) (by simp_all) hlt hs rfl ?_; conv => whnf)
    all_goals first
      | (refine RetG.two ?_ ?_ <;> (rw [hi]; (try simp only [ret1, *, Bool.true_or, Bool.false_or, Bool.or_true, Bool.or_false, Bool.true_and, Bool.false_and, Bool.and_true, Bool.and_false, Bool.not_true, Bool.not_false, if_true, if_false, Bool.false_eq_true, reduceIte]) <;> (first | rfl | simp_all)); done)
      | (refine ⟨m, i + 1, by omega, ⟨by omega, by rw [hi]; first | (simp only [*, Bool.true_or, Bool.false_or, Bool.or_true, Bool.or_false, Bool.true_and, Bool.false_and, Bool.and_true, Bool.and_false, Bool.not_true, Bool.not_false, if_true, if_false, Bool.false_eq_true, reduceIte] <;> rfl) | simp_all⟩, ?_⟩; (conv => whnf); refine ⟨rfl, ?_, ?_⟩ <;> (conv => whnf) <;> (repeat' apply And.intro) <;> first | exact True.intro | rfl | exact incr (by omega))
  · obtain rfl : m = 0 := by
      have : s.cells.length ≤ i := by simpa using hq
      omega
    rw [hi]
    exact RetG.two rfl rfl
def meetC (c d : GCell) : Bool := c.from_ == d.from_ || c.from_ == d.to_ || c.to_ == d.from_ || c.to_ == d.to_
def twiceC (s : GSched) (i : Nat) : Bool := (inL s (gd s.cells i).slot).any fun k => decide ((k : Int) < (i : Int)) && meetC (gd s.cells i) (gd s.cells k)
theorem inGo_lt (slot : Int) : ∀ (l : List GCell) (i k : Nat), k ∈ inGo slot l i → k < i + l.length
  | [], i, k, h => by simp [inGo] at h
  | c :: r, i, k, h => by
    rw [inGo] at h
    have := inGo_lt slot r (i + 1) k
    split at h
    · rcases List.mem_cons.1 h with rfl | h
      · simp
      · have := this h; simp; omega
    · have := this h; simp; omega
theorem inL_lt {s : GSched} {slot : Int} {k : Nat} (h : k ∈ inL s slot) : k < s.cells.length := by simpa using inGo_lt slot s.cells 0 k h
theorem any_take_step {f : Nat → Bool} {l : List Nat} {k x : Nat} (h : l[k]? = some x) : (l.take (k + 1)).any f = ((l.take k).any f || f x) := by
  rw [List.take_add_one, h]; simp
theorem any_upTo' {f : Nat → Bool} {l : List Nat} {k : Nat} (hk : k ∈ l) (h : f k = true) : l.any f = true := List.any_eq_true.2 ⟨k, hk, h⟩
theorem S123 (s : GSched) (hs : Cn s.cells) (i : Nat) (hi : i < s.cells.length) : Sound Tryz.prog 123 [s.v, i64 i] (.bool (twiceC s i)) := by
  refine ex_intro mixedT T [] Tryz.func123 rfl (by rw [Tryz.ntmps123]; simp) (by kernel_rfl) ?_
  conv => whnf
  repeat' first | (refine LenG.map ?_; conv => whnf) | (refine LenG.go ?_; conv => whnf)
  refine Ix.at (l := s.cells) hi rfl ?_; conv => whnf
  refine FnG.go rfl ?_; conv => whnf
  refine CallG.go (S199 s (gd s.cells i).slot) ?_; conv => whnf
  refine RfG.go T rfl rfl (I272 s _ hs) (by simp [natsV]) rfl [.t 2, .t 3, .t 4, .t 5]
    (fun (_ : Unit) => [(2, .op 0 0), (3, .op 1 0), (4, .op 2 0), (5, .op 3 0)]) (fun _ => [.box s.c, .box [i64 i], .box [.bool false], .box (gd s.cells i).c]) (fun _ => .off)
    (fun j _ => ((inL s (gd s.cells i).slot).take j).any (fun k => decide ((k : Int) < (i : Int)) && meetC (gd s.cells i) (gd s.cells k)) = false) () (by simp) [.t 2, .t 3, .t 4, .t 5] ?_ ?_ ?_
  · (conv => whnf); refine ⟨rfl, ?_, ?_, ?_, ?_⟩ <;> (conv => whnf) <;> (repeat' apply And.intro) <;> first | exact True.intro | rfl | (conv => rhs; whnf)
  · rintro j _ x hI hx
    rw [List.getElem?_map] at hx
    obtain ⟨k, hk, rfl⟩ := Option.map_eq_some_iff.1 hx
    have hkm := List.mem_of_getElem? hk
    have hstep := any_take_step (f := fun k => decide ((k : Int) < (i : Int)) && meetC (gd s.cells i) (gd s.cells k)) hk
    rw [hI] at hstep
    conv => whnf
    refine Ix.at (l := s.cells) (inL_lt hkm) rfl ?_; conv => whnf
    repeat' first
      | (refine Br.T ?_; conv => whnf)
      | (refine Br.F ?_; conv => whnf)
      | (refine Br.mk (fun hq => ?_) (fun hq => ?_) <;> conv => whnf)
      | (refine FnG.go rfl ?_; conv => whnf)
      | (refine LenG.map ?_; conv => whnf)
      | (refine LenG.go ?_; conv => whnf)
    all_goals try (rw [any_upTo' hkm (by simp only [meetC, *, Bool.true_or, Bool.false_or, Bool.or_true, Bool.or_false, Bool.true_and, Bool.false_and, Bool.and_true, Bool.and_false, Bool.not_true, Bool.not_false, if_true, if_false, Bool.false_eq_true, reduceIte]; rfl)]; exact RetG.one rfl)
    all_goals first
      | (rw [twiceC, any_upTo' hkm (by simp only [meetC, *, Bool.true_or, Bool.false_or, Bool.or_true, Bool.or_false, Bool.true_and, Bool.false_and, Bool.and_true, Bool.and_false, Bool.not_true, Bool.not_false, if_true, if_false, Bool.false_eq_true, reduceIte])]; exact RetG.one rfl)
      | skip
    all_goals (refine ⟨(), by rw [hstep]; simp only [meetC, *, Bool.true_or, Bool.false_or, Bool.or_true, Bool.or_false, Bool.true_and, Bool.false_and, Bool.and_true, Bool.and_false, Bool.not_true, Bool.not_false, if_true, if_false, Bool.false_eq_true, reduceIte], ?_⟩)
    all_goals
      (conv => whnf); refine ⟨rfl, ?_, ?_, ?_, ?_⟩ <;> (conv => whnf) <;> (repeat' apply And.intro) <;> first | exact True.intro | rfl | (conv => rhs; whnf)
  · rintro _ hI
    rw [show (natsV (inL s (gd s.cells i).slot)).length = (inL s (gd s.cells i).slot).length by simp [natsV], List.take_length] at hI
    conv => whnf
    rw [twiceC, hI]
    exact RetG.one rfl
/-- The cells at one place with cell i, and where cell i is among them. -/
def grp1 (s : GSched) (i : Nat) (a : List GCell × Int) (k : Nat) : List GCell × Int :=
  if (gd s.cells k).offset != (gd s.cells i).offset then a else (a.1 ++ [gd s.cells k], if (k : Int) == (i : Int) then (a.1.length : Int) else a.2)
def grpK (s : GSched) (i : Nat) (ks : List Nat) : List GCell × Int := ks.foldl (grp1 s i) ([], 0)
def grp (s : GSched) (i : Nat) : List GCell × Int := grpK s i (inL s (gd s.cells i).slot)
theorem grpK_step {s : GSched} {i : Nat} {ks : List Nat} {j k : Nat} (h : ks[j]? = some k) : grpK s i (ks.take (j + 1)) = grp1 s i (grpK s i (ks.take j)) k := by
  rw [List.take_add_one, h, grpK, List.foldl_append]; rfl
theorem grpK_len (s : GSched) (i : Nat) : ∀ (ks : List Nat) (a : List GCell × Int), (ks.foldl (grp1 s i) a).1.length ≤ a.1.length + ks.length
  | [], a => by simp
  | k :: r, a => by
    have := grpK_len s i r (grp1 s i a k)
    have h2 : (grp1 s i a k).1.length ≤ a.1.length + 1 := by
      unfold grp1; split <;> simp
    simp only [List.foldl_cons, List.length_cons]; omega
theorem grpK_at (s : GSched) (i : Nat) : ∀ (ks : List Nat) (a : List GCell × Int), (0 ≤ a.2 ∧ a.2 < a.1.length) ∨ i ∈ ks ∧ 0 ≤ a.2 → 0 ≤ (ks.foldl (grp1 s i) a).2 ∧ (ks.foldl (grp1 s i) a).2 < (ks.foldl (grp1 s i) a).1.length
  | [], a, h => by simpa using h
  | k :: r, a, h => by
    simp only [List.foldl_cons]
    refine grpK_at s i r _ ?_
    unfold grp1
    by_cases ho : ((gd s.cells k).offset != (gd s.cells i).offset) = true
    · rw [if_pos ho]
      rcases h with h | ⟨h, h0⟩
      · exact .inl h
      · rcases List.mem_cons.1 h with rfl | h
        · simp at ho
        · exact .inr ⟨h, h0⟩
    · rw [if_neg ho]
      by_cases hk : ((k : Int) == (i : Int)) = true
      · rw [if_pos hk]; exact .inl (by simp; omega)
      · rw [if_neg hk]
        rcases h with h | ⟨h, h0⟩
        · exact .inl (by simp; omega)
        · rcases List.mem_cons.1 h with rfl | h
          · simp at hk
          · exact .inr ⟨h, h0⟩
theorem grp_at {s : GSched} {i : Nat} (h : i ∈ inL s (gd s.cells i).slot) : 0 ≤ (grp s i).2 ∧ (grp s i).2 < (grp s i).1.length := grpK_at s i _ _ (.inr ⟨h, by simp⟩)
theorem inGo_mem (slot : Int) : ∀ (l : List GCell) (j i : Nat), i < l.length → (gd l i).slot = slot → j + i ∈ inGo slot l j
  | [], j, i, h, _ => by simp at h
  | c :: r, j, 0, h, e => by
    have e : c.slot = slot := e
    rw [inGo, if_pos (by simp [e])]; simp
  | c :: r, j, i + 1, h, e => by
    have := inGo_mem slot r (j + 1) i (by simpa using h) (by simpa [gd] using e)
    rw [show j + (i + 1) = j + 1 + i by omega, inGo]
    split
    · exact List.mem_cons_of_mem _ this
    · exact this
theorem inL_self {s : GSched} {i : Nat} (h : i < s.cells.length) : i ∈ inL s (gd s.cells i).slot := by
  have := inGo_mem _ s.cells 0 i h rfl
  rwa [Nat.zero_add] at this
theorem grpK_mem (s : GSched) (i : Nat) : ∀ (ks : List Nat) (a : List GCell × Int), ∀ c ∈ (ks.foldl (grp1 s i) a).1, c ∈ a.1 ∨ ∃ k ∈ ks, c = gd s.cells k
  | [], a, c, h => .inl h
  | k :: r, a, c, h => by
    rcases grpK_mem s i r _ c h with h | ⟨q, h, e⟩
    · unfold grp1 at h
      split at h
      · exact .inl h
      · rcases List.mem_append.1 h with h | h
        · exact .inl h
        · exact .inr ⟨k, by simp, by simpa using h⟩
    · exact .inr ⟨q, by simp [h], e⟩
def hearsP (n : GNet) (s d : Int) : Bool := netErr n == 0 && inI s 0 8796093022208 && inI d 0 8796093022208 && heard n s d
def distbP (n : GNet) (s : GSched) (i : Nat) : Bool :=
  let l := (grp s i).1; let p := (grp s i).2; let c := gi l p
  !hearsP n (gi n.margin (findLk n c.from_ c.to_)) (distP n l p c.to_) || !hearsP n (gi n.margin (findLk n c.to_ c.from_)) (distP n l p c.from_)
theorem S200h (n : GNet) (hn : n.ok) (s d : Int) : Sound Tryz.prog 200 [n.v, i64 s, i64 d] (.bool (hearsP n s d)) := S200 n hn s d
theorem S124 (n : GNet) (hn : n.ok) (hv : netErr n = 0) (s : GSched) (hs : s.cells.length ≤ 1000000) (i : Nat) (hi : i < s.cells.length) (hg : ∀ c ∈ s.cells, goodLk n c.from_ c.to_ = true) :
    Sound Tryz.prog 124 [n.v, s.v, i64 i] (.bool (distbP n s i)) := by
  have hinl : (inL s (gd s.cells i).slot).length ≤ s.cells.length := by
    have : ∀ (l : List GCell) (j : Nat), (inGo (gd s.cells i).slot l j).length ≤ l.length := by
      intro l
      induction l with
      | nil => intro j; simp [inGo]
      | cons c r ih =>
        intro j
        have := ih (j + 1)
        rw [inGo]; split
        · rw [List.length_cons, List.length_cons]; omega
        · rw [List.length_cons]; omega
    exact this _ _
  refine ex_intro mixedT T [] Tryz.func124 rfl (by rw [Tryz.ntmps124]; simp) (by kernel_rfl) ?_
  conv => whnf
  repeat' first | (refine LenG.map ?_; conv => whnf) | (refine LenG.go ?_; conv => whnf)
  refine Ix.at (l := s.cells) hi rfl ?_; conv => whnf
  refine FnG.go rfl ?_; conv => whnf
  refine CallG.go (S199 s (gd s.cells i).slot) ?_; conv => whnf
  refine RfG.goZ T rfl rfl (I272 s _ (by omega)) (by simp [natsV]) rfl [.t 3, .t 4, .t 5, .t 7, .t 8, .c (.t 7) 0] [.c (.t 7) 0 61]
    (fun (_ : Nat) => [(3, .op 0 0), (4, .op 1 0), (5, .op 2 0), (7, .op 3 0), (8, .op 4 0)]) (fun j => [.box n.c, .box s.c, .box [i64 i], .box [.sl (.tag 5) ((grpK s i ((inL s (gd s.cells i).slot).take j)).1.map GCell.c)], .box [i64 (grpK s i ((inL s (gd s.cells i).slot).take j)).2], .live 61 5 (grpK s i ((inL s (gd s.cells i).slot).take j)).1.length]) (fun _ => .off)
    (fun j k => k = j) 0 rfl [.t 3, .t 4, .t 5, .t 7, .t 8, .c (.t 7) 0] ?_ ?_ ?_
  · (conv => whnf); refine ⟨rfl, ?_, ?_, ?_, ?_⟩ <;> (conv => whnf) <;> (repeat' apply And.intro) <;> first | exact True.intro | rfl | (conv => rhs; whnf)
  · rintro _ j x rfl hx
    rw [List.getElem?_map] at hx
    obtain ⟨k, hk, rfl⟩ := Option.map_eq_some_iff.1 hx
    have hkm := List.mem_of_getElem? hk
    have hkl := inL_lt hkm
    have hst := grpK_step (s := s) (i := i) hk
    have hln := grpK_len s i ((inL s (gd s.cells i).slot).take j) ([], 0)
    generalize hA : grpK s i ((inL s (gd s.cells i).slot).take j) = A at *
    have hln : A.1.length ≤ 1000000 := by
      have : A.1.length ≤ ([] : List GCell).length + ((inL s (gd s.cells i).slot).take j).length := by rw [← hA]; exact hln
      rw [List.length_take, List.length_nil] at this; omega
    conv => whnf
    have g1 : ((gd s.cells k).offset != (gd s.cells i).offset) = true → grp1 s i A k = A := fun h => by unfold grp1; rw [if_pos h]
    have g2 : ((gd s.cells k).offset != (gd s.cells i).offset) = false → grp1 s i A k = (A.1 ++ [gd s.cells k], if (k : Int) == (i : Int) then (A.1.length : Int) else A.2) := fun h => by unfold grp1; rw [if_neg (by rw [h]; simp)]
    repeat' first
      | (refine Br.T ?_; conv => whnf)
      | (refine Br.F ?_; conv => whnf)
      | (refine Br.mk (fun hq => ?_) (fun hq => ?_) <;> conv => whnf)
      | (refine FnG.go rfl ?_; conv => whnf)
      | (refine LenG.map ?_; conv => whnf)
      | (refine LenG.go ?_; conv => whnf)
      | (refine Ix.at (l := s.cells) hkl rfl ?_; conv => whnf)
      | (refine Ix.at (l := s.cells) hi rfl ?_; conv => whnf)
      | (refine ⟨appOk (by decide) (by omega) ⟨rfl, rfl⟩, ?_⟩; (conv => whnf); refine ⟨by simp, ?_⟩; conv => whnf)
    · refine ⟨j + 1, rfl, ?_⟩
      rw [hst, g1 (by assumption)]
      (conv => whnf); refine ⟨rfl, ?_, ?_, ?_, ?_⟩ <;> (conv => whnf) <;> (repeat' apply And.intro) <;> first | exact True.intro | rfl | (conv => rhs; whnf)
    · refine ⟨j + 1, rfl, ?_⟩
      rw [hst, g2 (by assumption), if_pos (by assumption)]
      (conv => whnf); refine ⟨rfl, ?_, ?_, ?_, ?_⟩ <;> (conv => whnf) <;> (repeat' apply And.intro) <;> first | exact True.intro | rfl | (conv => rhs; whnf)
      · exact congrArg (fun x => HO.box [x]) snocV
      · exact snocH
    · refine ⟨j + 1, rfl, ?_⟩
      rw [hst, g2 (by assumption), if_neg (by simp_all)]
      (conv => whnf); refine ⟨rfl, ?_, ?_, ?_, ?_⟩ <;> (conv => whnf) <;> (repeat' apply And.intro) <;> first | exact True.intro | rfl | (conv => rhs; whnf)
      · exact congrArg (fun x => HO.box [x]) snocV
      · exact snocH
  · rintro _ rfl
    rw [show (natsV (inL s (gd s.cells i).slot)).length = (inL s (gd s.cells i).slot).length by simp [natsV], List.take_length]
    have hat := grp_at (inL_self hi)
    have hc : goodLk n (gi (grp s i).1 (grp s i).2).from_ (gi (grp s i).1 (grp s i).2).to_ = true := by
      have hm : gi (grp s i).1 (grp s i).2 ∈ (grp s i).1 := gd_mem (by omega)
      rcases grpK_mem s i _ _ _ hm with h | ⟨k, hk, e⟩
      · simp at h
      · rw [e]; exact hg _ (gd_mem (inL_lt hk))
    have hln : (grp s i).1.length ≤ 1000000 := by
      have := grpK_len s i (inL s (gd s.cells i).slot) ([], 0)
      have h2 : (grp s i).1.length ≤ ([] : List GCell).length + (inL s (gd s.cells i).slot).length := this
      rw [List.length_nil] at h2; omega
    have hD : distbP n s i = (!hearsP n (gi n.margin (findLk n (gi (grp s i).1 (grp s i).2).from_ (gi (grp s i).1 (grp s i).2).to_)) (distP n (grp s i).1 (grp s i).2 (gi (grp s i).1 (grp s i).2).to_) || !hearsP n (gi n.margin (findLk n (gi (grp s i).1 (grp s i).2).to_ (gi (grp s i).1 (grp s i).2).from_)) (distP n (grp s i).1 (grp s i).2 (gi (grp s i).1 (grp s i).2).from_)) := rfl
    rw [hD, show grpK s i (inL s (gd s.cells i).slot) = grp s i from rfl]
    generalize grp s i = A at *
    clear hD
    conv => whnf
    refine Ix.int (l := A.1) (by omega) rfl ?_; conv => whnf
    generalize gi A.1 A.2 = c at *
    have f1 := goodLk_find (by rw [hc]; rfl)
    have f2 := findLk_lt n c.from_ c.to_
    have f3 := findLk_lt n c.to_ c.from_
    have hml : n.margin.length = n.links.length := (netOk_of hv).margin
    repeat' first
      | (refine Br.T ?_; conv => whnf)
      | (refine Br.F ?_; conv => whnf)
      | (refine Br.mk (fun hq => ?_) (fun hq => ?_) <;> conv => whnf)
      | (refine FnG.go rfl ?_; conv => whnf)
      | (refine LenG.map ?_; conv => whnf)
      | (refine LenG.go ?_; conv => whnf)
      | (refine CallG.go (S74v n hn hv _ _) ?_; conv => whnf)
      | (refine CallG.go (S201 n hn A.1 (by omega) _ _) ?_; conv => whnf)
      | (refine CallG.go (S200h n hn _ _) ?_; conv => whnf)
      | (refine Ix.int (l := n.margin) (by omega) rfl ?_; conv => whnf)
    all_goals (refine RetG.one ?_; simp only [ret1, *, Bool.true_or, Bool.false_or, Bool.or_true, Bool.or_false, Bool.true_and, Bool.false_and, Bool.and_true, Bool.and_false, Bool.not_true, Bool.not_false, if_true, if_false, Bool.false_eq_true, reduceIte])
theorem firstE_ok {f : Nat → Int} : ∀ (m i : Nat), (firstE f m i).2 = 0 → ∀ j, i ≤ j → j < i + m → f j = 0
  | 0, i, _, j, h1, h2 => by omega
  | m + 1, i, h, j, h1, h2 => by
    rw [firstE] at h
    by_cases hz : f i = 0
    · rw [if_neg (by simp [hz])] at h
      by_cases hj : j = i
      · subst hj; exact hz
      · exact firstE_ok m (i + 1) h j (by omega) (by omega)
    · rw [if_pos (by simpa using hz)] at h
      exact absurd h hz
theorem flowsP_ok {nodes : Int} {l : List GFlow} (h : ((flowsP nodes l).2 != 0) = false) : (∀ f ∈ l, f.period ≠ 0) ∧ l.length ≤ 16 := by
  unfold flowsP at h
  split at h
  · simp at h
  split at h
  · simp at h
  · rename_i h2
    refine ⟨fun f hf e => ?_, by simp at h2; omega⟩
    obtain ⟨i, hi, rfl⟩ := List.getElem_of_mem hf
    have hz := firstE_ok _ _ (by simpa using h) i (by omega) (by omega)
    have hge : gd l i = l[i] := by simp [gd, List.getD, hi]
    rw [← hge] at e
    unfold flowAt flowErr at hz
    rw [e] at hz
    revert hz
    simp
def mism (s : GSched) (f : GFlow) : Bool := Int.tmod s.length f.period != 0
def whereP (f : Nat → Bool) : Nat → Nat → Option Nat
  | 0, _ => none
  | m + 1, i => if f i then some i else whereP f m (i + 1)
def schedP (n : GNet) (l : List GFlow) (s : GSched) : Int × Int :=
  if netErr n != 0 then (-1, 1) else if (flowsP n.nodes l).2 != 0 then (-1, 1)
  else if !sized s then (-1, 2) else if l.any (mism s) then (-1, 11) else if decide ((s.cells.length : Int) > 512) then (-1, 8)
  else if (cellsP n l s).2 != 0 then cellsP n l s
  else match whereP (twiceC s) s.cells.length 0 with
    | some i => ((i : Int), 6)
    | none => match whereP (distbP n s) s.cells.length 0 with
      | some i => ((i : Int), 16)
      | none => (-1, 0)
theorem S49 (n : GNet) (hn : n.ok) (l : List GFlow) (hl : Cn l) (s : GSched) (hs : s.cells.length ≤ 1000000) : Sound Tryz.prog 49 [n.v, flowsV l, s.v] (.tup [i64 (schedP n l s).1, i64 (schedP n l s).2]) := by
  have hsC : Cn s.cells := by show s.cells.length < _; omega
  refine ex_intro mixedT T [] Tryz.func49 rfl (by rw [Tryz.ntmps49]; simp) (by kernel_rfl) ?_
  conv => whnf
  repeat' first | (refine LenG.map ?_; conv => whnf) | (refine LenG.go ?_; conv => whnf)
  repeat' first
    | (refine Br.T ?_; conv => whnf)
    | (refine Br.F ?_; conv => whnf)
    | (refine Br.mk (fun hq => ?_) (fun hq => ?_) <;> conv => whnf)
    | (refine FnG.go rfl ?_; conv => whnf)
    | (refine LenG.map ?_; conv => whnf)
    | (refine LenG.go ?_; conv => whnf)
    | (refine CallG.go (S71 n hn) ?_; conv => whnf)
    | (refine CallG.go (S118 n.nodes l hl) ?_; conv => whnf)
    | (refine CallG.go (S119 s) ?_; conv => whnf)
    | (refine CallG.go (S120_1 rfl s.c l (mism s) (fun f hf => S121 s f ((flowsP_ok (by assumption)).1 f hf)) (by have : l.length < _ := hl; omega)) ?_; conv => whnf)
    | (refine CallG.go (S122 n hn (by simp_all) l hl s hsC) ?_; conv => whnf)
  all_goals try (refine RetG.two ?_ ?_ <;> (delta schedP; simp only [ret1, *, Bool.true_or, Bool.false_or, Bool.or_true, Bool.or_false, Bool.true_and, Bool.false_and, Bool.and_true, Bool.and_false, Bool.not_true, Bool.not_false, if_true, if_false, Bool.false_eq_true, reduceIte]); done)
  have hv : netErr n = 0 := by simp_all
  have hok := firstE_ok (f := cellAtE n l s) s.cells.length 0 (by
    have h : ((cellsP n l s).2 != 0) = false := by assumption
    have h2 : (cellsP n l s).2 = 0 := by simpa using h
    exact h2)
  have hg : ∀ c ∈ s.cells, goodLk n c.from_ c.to_ = true := fun c hc => by
    obtain ⟨i, hi, rfl⟩ := List.getElem_of_mem hc
    have hz := hok i (by omega) (by omega)
    have hge : gd s.cells i = s.cells[i] := by simp [gd, List.getD, hi]
    rw [← hge]
    unfold cellAtE at hz
    split at hz
    · cases hz
    split at hz
    · cases hz
    · simp_all
  have hR : schedP n l s = match whereP (twiceC s) s.cells.length 0 with
    | some i => ((i : Int), 6)
    | none => match whereP (distbP n s) s.cells.length 0 with
      | some i => ((i : Int), 16)
      | none => (-1, 0) := by
    have h1 : (netErr n != 0) = false := by assumption
    have h2 : ((flowsP n.nodes l).2 != 0) = false := by assumption
    have h3 : (!sized s) = false := by assumption
    have h4 : l.any (mism s) = false := by assumption
    have h5 : decide ((s.cells.length : Int) > 512) = false := by assumption
    have h6 : ((cellsP n l s).2 != 0) = false := by assumption
    unfold schedP
    rw [h1, h2, h3, h4, h5, h6]; rfl
  rw [hR]
  clear hR
  refine Lp.go T [.t 3, .t 5] (fun i : Nat => [(3, .op 0 0), (5, .op 1 0), (52, i64 s.cells.length), (53, i64 i)]) (fun _ => [.box n.c, .sealed s.c]) (fun m i => m + i = s.cells.length ∧ whereP (twiceC s) s.cells.length 0 = whereP (twiceC s) m i) s.cells.length 0 ⟨by simp, rfl⟩ [.t 3, .t 5] ?_ ?_
  · (conv => whnf); refine ⟨rfl, ?_, ?_⟩ <;> (conv => whnf) <;> (repeat' apply And.intro) <;> first | exact True.intro | rfl | (conv => rhs; whnf)
  rintro m i ⟨hm, hi⟩
  conv => whnf
  refine Br.mk (fun hq => ?_) (fun hq => ?_) <;> conv => whnf
  · have hlt : i < s.cells.length := by simpa using hq
    obtain ⟨m, rfl⟩ : ∃ q, m = q + 1 := ⟨m - 1, by omega⟩
    rw [whereP] at hi
    refine FnG.go rfl ?_; conv => whnf
    refine CallG.go (S123 s hsC i hlt) ?_; conv => whnf
    refine Br.mk (fun hq2 => ?_) (fun hq2 => ?_) <;> conv => whnf
    · rw [hi, if_pos hq2]; exact RetG.two rfl rfl
    · refine ⟨m, i + 1, by omega, ⟨by omega, by rw [hi, if_neg (by rw [hq2]; simp)]⟩, ?_⟩
      (conv => whnf); refine ⟨rfl, ?_, ?_⟩ <;> (conv => whnf) <;> (repeat' apply And.intro) <;> first | exact True.intro | rfl | (conv => rhs; whnf)
      exact incr (by omega)
  · obtain rfl : m = 0 := by
      have : s.cells.length ≤ i := by simpa using hq
      omega
    rw [hi]
    clear hi hm hq
    repeat' first | (refine LenG.map ?_; conv => whnf) | (refine LenG.go ?_; conv => whnf)
    refine Lp.go T [.t 3, .t 5] (fun i : Nat => [(3, .op 0 0), (5, .op 1 0), (63, i64 s.cells.length), (64, i64 i)]) (fun _ => [.box n.c, .sealed s.c]) (fun m i => m + i = s.cells.length ∧ whereP (distbP n s) s.cells.length 0 = whereP (distbP n s) m i) s.cells.length 0 ⟨by simp, rfl⟩ [.t 3, .t 5] ?_ ?_
    · (conv => whnf); refine ⟨rfl, ?_, ?_⟩ <;> (conv => whnf) <;> (repeat' apply And.intro) <;> first | exact True.intro | rfl | (conv => rhs; whnf)
    rintro m i ⟨hm, hi⟩
    conv => whnf
    refine Br.mk (fun hq => ?_) (fun hq => ?_) <;> conv => whnf
    · have hlt : i < s.cells.length := by simpa using hq
      obtain ⟨m, rfl⟩ : ∃ q, m = q + 1 := ⟨m - 1, by omega⟩
      rw [whereP] at hi
      refine FnG.go rfl ?_; conv => whnf
      refine CallG.go (S124 n hn hv s hs i hlt hg) ?_; conv => whnf
      refine Br.mk (fun hq2 => ?_) (fun hq2 => ?_) <;> conv => whnf
      · rw [hi, if_pos hq2]; exact RetG.two rfl rfl
      · refine ⟨m, i + 1, by omega, ⟨by omega, by rw [hi, if_neg (by rw [hq2]; simp)]⟩, ?_⟩
        (conv => whnf); refine ⟨rfl, ?_, ?_⟩ <;> (conv => whnf) <;> (repeat' apply And.intro) <;> first | exact True.intro | rfl | (conv => rhs; whnf)
        exact incr (by omega)
    · obtain rfl : m = 0 := by
        have : s.cells.length ≤ i := by simpa using hq
        omega
      rw [hi]
      exact RetG.two rfl rfl
end Go.Proofs.YtbaajjihhdmdpaaGreatDoor

namespace Go.Proofs.YtbaajjihhdmdpaaGreatDoor
open Go.RowKit
set_option linter.unusedSectionVars false
set_option linter.unusedVariables false
set_option linter.unusedSimpArgs false
set_option linter.unnecessarySimpa false
set_option maxRecDepth 100000
theorem D79_2 {g : Nat} (hg : tb.fn g = true) (c0 c1 : List AV) (l : List GCell) (p : GCell → Bool) (hp : ∀ x ∈ l, Sound Tryz.prog g [x.v, .rp c0, .rp c1] (.bool (p x))) (hl : l.length < 4611686018427387904) :
    SoundC Tryz.prog 79 61 5 (l.map GCell.c) [.fn g [.rp c0, .rp c1]] ((l.filter fun x => !p x).map GCell.c) := by
  refine exC_intro mixedT T [] Tryz.func79 rfl (by rw [Tryz.ntmps79]; simp) (by kernel_rfl) (fun h0 => ?_) (fun cap hc hle hm hrows => ?_)
  · obtain rfl : l = [] := by simpa using h0
    conv => whnf
    refine FnG.go rfl ?_; conv => whnf
    refine CallG.go (S96_2 hg c0 c1 [] p (by simp) (by simp)) ?_; conv => whnf
    refine Br.T ?_; conv => whnf
    exact ⟨_, rfl, rfl, rfl⟩
  · conv => whnf
    generalize hN : (l.map GCell.c).length = N at *
    have hNl : N = l.length := by rw [← hN]; simp
    have hRl : ∀ x ∈ l.map GCell.c ++ padR N cap 5, x.length = 5 := fun x hx => (List.mem_append.1 hx).elim (cells_rows l x) (padR_len x)
    have hRlen : (l.map GCell.c ++ padR N cap 5).length = cap := by simp [padR]; omega
    refine SemG.go (Sem.lend (xs := l.map GCell.c) (rest := [.tmp 9]) rfl rfl rfl rfl hRl (by omega) (by rw [List.drop_zero, ← hN, List.take_left]) (cells_pure l) rfl (by simp) (fnOk rfl) (S96_2 hg c0 c1 l p hp hl) rfl ?_); conv => whnf
    have hgetc : ∀ (R : List (List AV)) (j : Nat), j < l.length → (R.drop j).take (N - j) = (l.drop j).map GCell.c → R[j]? = some (gd l j).c := fun R j hj he => by
      have h1 := congrArg (fun x => x[0]?) he
      simp only [List.getElem?_take, List.getElem?_map, List.getElem?_drop, Nat.add_zero] at h1
      rw [if_pos (by omega), gd_get hj] at h1
      exact h1
    have hstepc : ∀ (R : List (List AV)) (j : Nat), j < l.length → (R.drop j).take (N - j) = (l.drop j).map GCell.c → (R.drop (j + 1)).take (N - (j + 1)) = (l.drop (j + 1)).map GCell.c := fun R j hj he => by
      have h1 := congrArg (fun x => x.drop 1) he
      simp only [List.drop_take, List.drop_drop, ← List.map_drop] at h1
      rw [show N - (j + 1) = N - j - 1 by omega]
      exact h1
    rcases idxOf_cases p l 0 with ⟨h1, h2⟩ | ⟨k, hk, h1, h2⟩
    · rw [h1, h2]
      refine Br.T ?_; conv => whnf
      refine ⟨_, rfl, _, rfl, hRlen, hRl, rfl, by omega, hm, ?_, ?_⟩
      · rw [← hN, List.take_left]; exact fun x hx y hy => (cells_pure l x hx y hy).1
      · rw [← hN, List.take_left, List.map_map]; rfl
    · rw [h1, Nat.zero_add]
      refine Br.mk (fun hq => ?_) (fun hq => ?_) <;> conv => whnf
      · exact absurd hq (by simp)
      · refine Lp.go T [.t 0] (fun (a : Nat × Nat × List (List AV)) => [(0, .ms 0 0 N cap 5), (1, .fn g [.rp c0, .rp c1]), (5, i64 a.1), (6, i64 a.2.1)]) (fun a => [.box a.2.2.flatten])
          (fun m a => m + a.2.1 = N ∧ a.1 ≤ a.2.1 ∧ a.2.2.length = cap ∧ (∀ x ∈ a.2.2, x.length = 5) ∧ CloR a.2.2 ∧ a.2.2.take a.1 = ((l.take a.2.1).filter fun x => !p x).map GCell.c ∧ (a.2.2.drop a.2.1).take (N - a.2.1) = (l.drop a.2.1).map GCell.c)
          (N - (k + 1)) (k, k + 1, l.map GCell.c ++ padR N cap 5) ⟨by simp; omega, by simp, hRlen, hRl, (CloR.cells l).app (CloR.pad _ _ _), ?_, ?_⟩ [.t 0] ?_ ?_
        · show (l.map GCell.c ++ padR N cap 5).take k = _
          rw [h2, List.take_append_of_le_length (by simp; omega), List.map_take]
        · show ((l.map GCell.c ++ padR N cap 5).drop (k + 1)).take (N - (k + 1)) = _
          rw [List.drop_append_of_le_length (by simp; omega), ← List.map_drop, List.take_append_of_le_length (by simp; omega), List.take_of_length_le (by simp; omega)]
        · (conv => whnf); refine ⟨rfl, ?_, ?_⟩ <;> (conv => whnf) <;> (repeat' apply And.intro) <;> first | exact True.intro | rfl | (conv => rhs; whnf)
          · exact incr (by omega)
          · exact ((CloR.cells l).app (CloR.pad _ _ _)).box _
        rintro m ⟨i, j, R⟩ ⟨hmj, hij, hRc, hR5, hRo, hRi, hRj⟩
        simp only at hmj hij hRc hR5 hRo hRi hRj ⊢
        conv => whnf
        refine SemG.go (Sem.lenMs ((T.ti 27).el 61 rfl) rfl ?_); conv => whnf
        refine Br.mk (fun hq => ?_) (fun hq => ?_) <;> conv => whnf
        · have hlt : j < l.length := by have : j < N := by simpa using hq
                                        omega
          refine Nd.go ⟨by omega, by simpa using hq⟩ ?_; conv => whnf
          refine LdR.row hR5 (by rw [Nat.zero_add]; rfl) (hgetc R j hlt hRj) (by conv => whnf) ?_; conv => whnf
          refine FnG.go hg ?_; conv => whnf
          refine CallG.go (hp _ (gd_mem hlt)) ?_; conv => whnf
          have htk : ((l.take (j + 1)).filter fun x => !p x) = ((l.take j).filter fun x => !p x) ++ if p (gd l j) then [] else [gd l j] := by
            rw [List.take_add_one, gd_get hlt, List.filter_append]
            congr 1
            generalize gd l j = y
            cases hpj : p y <;> simp [hpj]
          have hil : (R.take i).length = i := by simp; omega
          refine Br.mk (fun hp' => ?_) (fun hp' => ?_) <;> conv => whnf
          · have hpf : p (gd l j) = false := by simpa using hp'
            refine Nd.go ⟨by omega, by omega⟩ ?_; conv => whnf
            refine SemG.go (Sem.storeMp (r := i) (cs := (gd l j).c) (by kernel_rfl) rfl rfl rfl rfl rfl hR5 rfl (by simp) (by omega) ?_); conv => whnf
            refine ⟨m - 1, (i + 1, j + 1, R.set i (gd l j).c), by omega, ⟨by simp; omega, by simp; omega, by simpa using hRc, ?_, hRo.set (cell_clo _) _, ?_, ?_⟩, ?_⟩
            · intro x hx
              rcases List.mem_or_eq_of_mem_set hx with hx | rfl
              · exact hR5 x hx
              · rfl
            · show (R.set i (gd l j).c).take (i + 1) = _
              rw [htk, hpf, List.map_append, ← hRi, List.take_add_one, List.getElem?_set_self (by omega), List.take_set_of_le (Nat.le_refl _)]
              simp
            · show ((R.set i (gd l j).c).drop (j + 1)).take (N - (j + 1)) = _
              rw [List.drop_set_of_lt (by omega)]
              exact hstepc R j hlt hRj
            · (conv => whnf); refine ⟨rfl, ?_, ?_⟩ <;> (conv => whnf) <;> (repeat' apply And.intro) <;> first | exact True.intro | rfl | (conv => rhs; whnf)
              · exact incr (by omega)
              · exact incr (by omega)
              · exact (hRo.set (cell_clo _) _).box _
          · have hpf : p (gd l j) = true := by simpa using hp'
            refine ⟨m - 1, (i, j + 1, R), by omega, ⟨by simp; omega, by simp; omega, hRc, hR5, hRo, ?_, hstepc R j hlt hRj⟩, ?_⟩
            · show R.take i = _
              rw [htk, hpf, hRi]; simp
            · (conv => whnf); refine ⟨rfl, ?_, ?_⟩ <;> (conv => whnf) <;> (repeat' apply And.intro) <;> first | exact True.intro | rfl | (conv => rhs; whnf)
              · exact incr (by omega)
              · exact hRo.box _
        · obtain rfl : N = j := by have : N ≤ j := by simpa using hq
                                   omega
          have htl : l.take N = l := List.take_of_length_le (by omega)
          refine Nd.go ⟨by omega, by omega⟩ ?_; conv => whnf
          refine SemG.go (Sem.clear (R := R) ((T.ti 27).el 61 rfl) (ti_zero_len T (rfl : (tb.ti 61).zero = some _)) rfl rfl rfl hR5 (by simp; omega) ?_); conv => whnf
          refine Nd.go ⟨by omega, by omega⟩ ?_; conv => whnf
          rw [htl] at hRi
          have hi' : (i : Int).toNat = i := Int.toNat_natCast i
          have htR : ∀ Z2 : List (List AV), (R.take i ++ Z2).take i = R.take i := fun Z2 => by
            rw [List.take_append_of_le_length (by simp; omega), List.take_of_length_le (by simp; omega)]
          refine ⟨_, rfl, _, rfl, ?_, ?_, rfl, by omega, hm, ?_, ?_⟩ <;> simp only [Nat.zero_add, hi']
          · simp; omega
          · intro x hx
            rcases List.mem_append.1 hx with hx | hx
            · rcases List.mem_append.1 hx with hx | hx
              · exact hR5 x (List.mem_of_mem_take hx)
              · rw [List.eq_of_mem_replicate hx]; rfl
            · exact hR5 x (List.mem_of_mem_drop hx)
          · rw [List.append_assoc, htR, hRi]
            exact fun x hx y hy => (cells_pure _ x hx y hy).1
          · rw [List.append_assoc, htR, hRi, List.map_map]; rfl
end Go.Proofs.YtbaajjihhdmdpaaGreatDoor

namespace Go.Proofs.YtbaajjihhdmdpaaGreatDoor
open Go.RowKit
set_option linter.unusedSectionVars false
set_option linter.unusedVariables false
set_option linter.unusedSimpArgs false
set_option linter.unnecessarySimpa false
set_option maxRecDepth 100000
set_option maxHeartbeats 4000000
structure GWay where
  n : GNet
  s : GSched
  f : GFlow
  r : List Int
  more : Int
def GWay.c (w : GWay) : List AV := w.n.c ++ w.s.c ++ w.f.c ++ [intsV w.r, i64 w.more]
def GWay.v (w : GWay) : AV := .ag w.c
structure GWay.ok (w : GWay) : Prop where
  net : w.n.ok
  chk : netErr w.n = 0
  len : w.r.length ≤ 9
  way : ∀ i, i + 1 < w.r.length → 0 ≤ findLk w.n (gd w.r i) (gd w.r (i + 1))
def linkAt (w : GWay) (i : Nat) : GLink := let l := gi w.n.links (findLk w.n (gd w.r i) (gd w.r (i + 1))); ⟨l.from_, l.to_, W (l.loss + w.more)⟩
def linksW (w : GWay) : List GLink := (List.range (w.r.length - 1)).map (linkAt w)
abbrev lnksV (l : List GLink) : List (List AV) := l.map fun x => [x.v]
theorem I293 (w : GWay) (hw : w.ok) : IterS Tryz.prog 293 [.rp w.c] (lnksV (linksW w)) := by
  have hlen := hw.len
  refine it_intro mixedT T [] Tryz.func293 rfl (by rw [Tryz.ntmps293]; simp) (by kernel_rfl) rfl fun y => ?_
  conv => whnf
  refine Lp.goT T [] (fun i : Nat => [(0, .yl y), (1, .rp w.c), (3, i64 ((i + 1 : Nat) : Int))]) (fun _ => []) (fun _ => []) (fun i => .more y (lnksV ((linksW w).drop i))) (fun m i => m + i = w.r.length) w.r.length 0 (by simp) [] ?_ ?_
  · (conv => whnf); refine ⟨rfl, ?_, ?_, ?_, ?_⟩ <;> (conv => whnf) <;> (repeat' apply And.intro) <;> first | exact True.intro | rfl | (conv => rhs; whnf)
  rintro m i hm
  conv => whnf
  repeat' first | (refine LenG.map ?_; conv => whnf) | (refine LenG.go ?_; conv => whnf)
  refine Br.mk (fun hq => ?_) (fun hq => ?_) <;> conv => whnf
  · have hlt : i + 1 < w.r.length := by have := of_decide_eq_true hq; omega
    have hfl := hw.way i hlt
    have hfb := findLk_lt w.n (gd w.r i) (gd w.r (i + 1)) hfl
    have hd : (linksW w).drop i = linkAt w i :: (linksW w).drop (i + 1) := by
      have hl : i < (linksW w).length := by simp [linksW]; omega
      rw [List.drop_eq_getElem_cons hl]; simp [linksW]
    rw [hd]
    repeat' first
      | (refine Br.T ?_; conv => whnf)
      | (refine Br.F ?_; conv => whnf)
      | (refine Br.mk (fun hq => ?_) (fun hq => ?_) <;> conv => whnf)
      | (refine FnG.go rfl ?_; conv => whnf)
      | (refine LenG.map ?_; conv => whnf)
      | (refine LenG.go ?_; conv => whnf)
      | (refine CallG.go (S74v w.n hw.net hw.chk _ _) ?_; conv => whnf)
      | (refine Ix.pred (l := w.r) (i := i + 1) (by omega) (by omega) (by show w.r.length < _; omega) rfl ?_; conv => whnf)
      | (refine Ix.at (l := w.r) hlt rfl ?_; conv => whnf)
      | (refine Ix.int (l := w.n.links) ⟨hfl, hfb⟩ rfl ?_; conv => whnf)
      | (refine YG.go _ rfl ?_ ?_ <;> conv => whnf)
    · refine ⟨m - 1, i + 1, by omega, by omega, ?_⟩
      (conv => whnf); refine ⟨rfl, ?_, ?_, ?_, ?_⟩ <;> (conv => whnf) <;> (repeat' apply And.intro) <;> first | exact True.intro | rfl | (conv => rhs; whnf)
      exact incr (by omega)
    · exact ⟨trivial, by simp⟩
  · have : w.r.length ≤ i + 1 := by have := of_decide_eq_false hq; omega
    rw [List.drop_eq_nil_of_le (by simp [linksW]; omega)]
    exact ⟨rfl, fun l' ys e => by injection e with e1; exact e1.symm⟩
theorem S250 (w : GWay) : Sound Tryz.prog 250 [w.v] (.fn 293 [.rp w.c]) := by
  refine ex_intro mixedT T [] Tryz.func250 rfl (by rw [Tryz.ntmps250]; simp) (by kernel_rfl) ?_
  conv => whnf
  repeat' first | (refine LenG.map ?_; conv => whnf) | (refine LenG.go ?_; conv => whnf)
  repeat' first
    | (refine Br.T ?_; conv => whnf)
    | (refine Br.F ?_; conv => whnf)
    | (refine Br.mk (fun hq => ?_) (fun hq => ?_) <;> conv => whnf)
    | (refine FnG.go rfl ?_; conv => whnf)
    | (refine LenG.map ?_; conv => whnf)
    | (refine LenG.go ?_; conv => whnf)
  exact RetG.shut (ids := [0]) rfl
theorem S294 (w : GWay) (l : GLink) (c : GCell) : Sound Tryz.prog 294 [c.v, .rp w.c, .rp l.c] (.bool (c.flow != w.f.id || c.from_ != l.from_ || c.to_ != l.to_)) := by
  refine ex_intro mixedT T [] Tryz.func294 rfl (by rw [Tryz.ntmps294]; simp) (by kernel_rfl) ?_
  conv => whnf
  repeat' first | (refine LenG.map ?_; conv => whnf) | (refine LenG.go ?_; conv => whnf)
  repeat' first
    | (refine Br.T ?_; conv => whnf)
    | (refine Br.F ?_; conv => whnf)
    | (refine Br.mk (fun hq => ?_) (fun hq => ?_) <;> conv => whnf)
    | (refine FnG.go rfl ?_; conv => whnf)
    | (refine LenG.map ?_; conv => whnf)
    | (refine LenG.go ?_; conv => whnf)
  all_goals (refine RetG.one ?_; simp only [ret1, *, Bool.true_or, Bool.false_or, Bool.or_true, Bool.or_false, Bool.true_and, Bool.false_and, Bool.and_true, Bool.and_false, Bool.not_true, Bool.not_false, if_true, if_false, Bool.false_eq_true, reduceIte])
def notOn (w : GWay) (l : GLink) (c : GCell) : Bool := c.flow != w.f.id || c.from_ != l.from_ || c.to_ != l.to_
def cellsW (w : GWay) (l : GLink) : List GCell := w.s.cells.filter fun c => !notOn w l c
theorem S251 (w : GWay) (l : GLink) (hs : w.s.cells.length ≤ 100000000) : Sound Tryz.prog 251 [w.v, l.v] (cellsV (cellsW w l)) := by
  refine ex_intro mixedT T [] Tryz.func251 rfl (by rw [Tryz.ntmps251]; simp) (by kernel_rfl) ?_
  conv => whnf
  repeat' first | (refine LenG.map ?_; conv => whnf) | (refine LenG.go ?_; conv => whnf)
  repeat' first
    | (refine Br.T ?_; conv => whnf)
    | (refine Br.F ?_; conv => whnf)
    | (refine Br.mk (fun hq => ?_) (fun hq => ?_) <;> conv => whnf)
    | (refine FnG.go rfl ?_; conv => whnf)
    | (refine LenG.map ?_; conv => whnf)
    | (refine LenG.go ?_; conv => whnf)
    | (refine CallG.go (S80f w.s.cells (by omega)) ?_; conv => whnf)
  refine SemG.go (Sem.cons (kill := some _) (e := 61) (sz := 5) (xs := w.s.cells.map GCell.c) (rest := [.tmp 9]) rfl rfl ⟨rfl, rfl⟩ (by kernel_rfl) (by decide) rfl (fnOk rfl) (D79_2 rfl w.c l.c w.s.cells (notOn w l) (fun c _ => S294 w l c) (by omega)) ?_)
  conv => whnf
  exact RetG.one rfl
def need1 (n : Int) (l : GLink) : Int := W (n + W (l.loss + 1))
def needW (w : GWay) : Int := (linksW w).foldl need1 0
theorem S269 (w : GWay) (hw : w.ok) : Sound Tryz.prog 269 [w.v] (i64 (needW w)) := by
  refine ex_intro mixedT T [] Tryz.func269 rfl (by rw [Tryz.ntmps269]; simp) (by kernel_rfl) ?_
  conv => whnf
  repeat' first | (refine LenG.map ?_; conv => whnf) | (refine LenG.go ?_; conv => whnf)
  refine FnG.go rfl ?_; conv => whnf
  refine CallG.go (S250 w) ?_; conv => whnf
  refine RfG.go T rfl rfl (I293 w hw) (by simp [lnksV]) rfl [.t 1, .t 3]
    (fun (_ : Nat) => [(1, .op 0 0), (3, .op 1 0)]) (fun j => [.box w.c, .box [i64 (((linksW w).take j).foldl need1 0)]]) (fun _ => .off)
    (fun j k => k = j) 0 rfl [.t 1, .t 3] ?_ ?_ ?_
  · (conv => whnf); refine ⟨rfl, ?_, ?_, ?_, ?_⟩ <;> (conv => whnf) <;> (repeat' apply And.intro) <;> first | exact True.intro | rfl | (conv => rhs; whnf)
  · rintro _ j x rfl hx
    rw [List.getElem?_map] at hx
    obtain ⟨l, hl, rfl⟩ := Option.map_eq_some_iff.1 hx
    have hst : ((linksW w).take (j + 1)).foldl need1 0 = need1 (((linksW w).take j).foldl need1 0) l := by
      rw [List.take_add_one, hl, List.foldl_append]; rfl
    conv => whnf
    refine ⟨j + 1, rfl, ?_⟩
    rw [hst]
    (conv => whnf); refine ⟨rfl, ?_, ?_, ?_, ?_⟩ <;> (conv => whnf) <;> (repeat' apply And.intro) <;> first | exact True.intro | rfl | (conv => rhs; whnf)
  · rintro _ rfl
    rw [show (lnksV (linksW w)).length = (linksW w).length by simp [lnksV], List.take_length]
    conv => whnf
    exact RetG.one rfl
/-- The cells of a link that a slot brings: what is yielded, then what k says. -/
def cellsGo (len slot : Int) (k : Int → Int → List (GCell × Int)) : List GCell → Int → Int → List (GCell × Int)
  | [], left, p => k left p
  | c :: cs, left, p => if c.slot != Int.tmod slot len || left == 0 then cellsGo len slot k cs left p else (c, slot) :: cellsGo len slot k cs (W (left - 1)) (W (slot + 1))
def slotsGo (len fin : Int) (cells : List GCell) (k : Int → List (GCell × Int)) : Nat → Int → Int → Int → List (GCell × Int)
  | 0, _, _, _ => []
  | m + 1, left, slot, p => if decide (left > 0) then (if decide (slot ≥ fin) then [] else cellsGo len slot (fun left p => slotsGo len fin cells k m left (W (slot + 1)) p) cells left p) else k p
def linksGo (w : GWay) (fin : Int) : List GLink → Int → List (GCell × Int)
  | [], _ => []
  | l :: ls, p => slotsGo w.s.length fin (cellsW w l) (linksGo w fin ls) ((fin - p).toNat + 1) (W (l.loss + 1)) p p
def countsW (w : GWay) (rel : Int) : List (GCell × Int) := linksGo w (W (rel + w.f.period)) (linksW w) rel
abbrev pairsV (l : List (GCell × Int)) : List (List AV) := l.map fun x => [x.1.v, i64 x.2]
theorem cellsW_len (w : GWay) (l : GLink) : (cellsW w l).length ≤ w.s.cells.length := List.length_filter_le _ _
theorem I249 (w : GWay) (hw : w.ok) (hs : w.s.cells.length ≤ 100000000) (hl : w.s.length ≠ 0) (rel : Int) (hr : 0 ≤ rel ∧ rel ≤ 1000000) (hp : 0 ≤ w.f.period ∧ w.f.period ≤ 1000000) :
    IterS Tryz.prog 249 [.rp [i64 rel], .rp w.c] (pairsV (countsW w rel)) := by
  refine it_intro mixedT T [1] Tryz.func249 rfl (by rw [Tryz.ntmps249]; simp) (by kernel_rfl) rfl fun y => ?_
  conv => whnf
  refine Nd.go (by unfold noClash; kernel_rfl) ?_; conv => whnf
  generalize hfin : W (rel + w.f.period) = fin
  have hfin2 : fin = rel + w.f.period := by rw [← hfin]; exact w64 (by omega)
  refine FnG.go rfl ?_; conv => whnf
  refine CallG.go (S250 w) ?_; conv => whnf
  refine RfG.go T rfl rfl (I293 w hw) (by simp [lnksV]) rfl [.t 3, .t 4, .t 5]
    (fun (a : Nat × Int) => [(1, .rp [i64 rel]), (2, .rp w.c), (3, .op 0 0), (4, .op 1 0), (5, .op 2 0)]) (fun a => [.box [.yl y], .box [i64 a.2], .box [i64 fin]]) (fun a => .more y (pairsV (linksGo w fin ((linksW w).drop a.1) a.2)))
    (fun j a => a.1 = j ∧ rel ≤ a.2 ∧ a.2 ≤ fin) (0, rel) ⟨rfl, by simp, by simp; omega⟩ [.t 3, .t 4, .t 5] ?_ ?_ ?_
  · (conv => whnf); refine ⟨rfl, ?_, ?_, ?_, ?_⟩ <;> (conv => whnf) <;> (repeat' apply And.intro) <;> first | exact True.intro | rfl | (conv => rhs; whnf)
    · rw [← hfin]; rfl
    · rw [← hfin]; rfl
  · rintro _ ⟨j, p⟩ x ⟨rfl, h1, h2⟩ hx
    simp only at h1 h2
    rw [List.getElem?_map] at hx
    obtain ⟨l, hl, rfl⟩ := Option.map_eq_some_iff.1 hx
    conv => whnf
    refine FnG.go rfl ?_; conv => whnf
    refine CallG.go (S251 w l hs) ?_; conv => whnf
    have hd : linksGo w fin ((linksW w).drop j) p = slotsGo w.s.length fin (cellsW w l) (linksGo w fin ((linksW w).drop (j + 1))) ((fin - p).toNat + 1) (W (l.loss + 1)) p p := by
      have hj : j < (linksW w).length := by
        rcases Nat.lt_or_ge j (linksW w).length with h | h
        · exact h
        · rw [List.getElem?_eq_none h] at hl; cases hl
      have e : (linksW w)[j] = l := by rw [List.getElem?_eq_getElem hj] at hl; injection hl
      rw [List.drop_eq_getElem_cons hj, e]; rfl
    have hcl := cellsW_len w l
    generalize hK : linksGo w fin ((linksW w).drop (j + 1)) = K at *
    refine Lp.goT T [.t 3, .t 4, .t 5] (fun (a : Nat × Int × Int × Int) => [(1, .rp [i64 rel]), (2, .rp w.c), (3, .op 0 0), (4, .op 1 0), (5, .op 2 0), (7, i64 a.2.1), (8, cellsV (cellsW w l)), (9, i64 a.2.2.1)]) (fun _ => [(1, .rp [i64 rel]), (2, .rp w.c), (3, .op 0 0), (4, .op 1 0), (5, .op 2 0)]) (fun a => [.box [.yl y], .box [i64 a.2.2.2], .box [i64 fin]])
      (fun a => .more y (pairsV (slotsGo w.s.length fin (cellsW w l) K a.1 a.2.1 a.2.2.1 a.2.2.2)))
      (fun m a => a.1 = m ∧ a.2.2.1 + m = fin + 1 ∧ a.2.2.1 ≤ fin ∧ rel ≤ a.2.2.1 ∧ rel ≤ a.2.2.2 ∧ a.2.2.2 ≤ fin) ((fin - p).toNat + 1) ((fin - p).toNat + 1, W (l.loss + 1), p, p) ⟨rfl, by simp; omega, by simp; omega, by simp; omega, by simp; omega, by simp; omega⟩ [.t 3, .t 4, .t 5] ?_ ?_
    · (conv => whnf); refine ⟨rfl, ?_, ?_, ?_, ?_⟩ <;> (conv => whnf) <;> (repeat' apply And.intro) <;> first | exact True.intro | rfl | (conv => rhs; whnf)
      exact congrArg (fun x => Yt.more y (pairsV x)) hd.symm
    rintro _ ⟨m, left, slot, p'⟩ ⟨rfl, hm, hs1, hs2, hp1, hp2⟩
    simp only at hm hs1 hs2 hp1 hp2 ⊢
    obtain ⟨m, rfl⟩ : ∃ q, m = q + 1 := ⟨m - 1, by omega⟩
    have hs3 : W (slot + 1) = slot + 1 := w64 (by omega)
    rw [slotsGo]
    conv => whnf
    refine Br.mk (fun hq => ?_) (fun hq => ?_) <;> conv => whnf
    · rw [if_pos hq]
      refine Br.mk (fun hq2 => ?_) (fun hq2 => ?_) <;> conv => whnf
      · rw [if_pos hq2]
        exact ⟨rfl, fun l' ys e => by injection e with e1; exact e1.symm⟩
      · rw [if_neg (by rw [hq2]; simp)]
        have hs4 : slot < fin := by simpa using hq2
        repeat' first | (refine LenG.map ?_; conv => whnf) | (refine LenG.go ?_; conv => whnf)
        generalize hK2 : (fun left p => slotsGo w.s.length fin (cellsW w l) K m left (W (slot + 1)) p) = K2
        refine Lp.goT T [.t 3, .t 4, .t 5] (fun (a : Nat × Int × Int) => [(1, .rp [i64 rel]), (2, .rp w.c), (3, .op 0 0), (4, .op 1 0), (5, .op 2 0), (7, i64 a.2.1), (8, cellsV (cellsW w l)), (9, i64 slot), (35, cellsV (cellsW w l)), (36, i64 (cellsW w l).length), (37, i64 a.1)]) (fun _ => [(1, .rp [i64 rel]), (2, .rp w.c), (3, .op 0 0), (4, .op 1 0), (5, .op 2 0)]) (fun a => [.box [.yl y], .box [i64 a.2.2], .box [i64 fin]])
          (fun a => .more y (pairsV (cellsGo w.s.length slot K2 ((cellsW w l).drop a.1) a.2.1 a.2.2)))
          (fun k a => k + a.1 = (cellsW w l).length ∧ rel ≤ a.2.2 ∧ a.2.2 ≤ fin) (cellsW w l).length (0, left, p') ⟨by simp, hp1, hp2⟩ [.t 3, .t 4, .t 5] ?_ ?_
        · (conv => whnf); refine ⟨rfl, ?_, ?_, ?_, ?_⟩ <;> (conv => whnf) <;> (repeat' apply And.intro) <;> first | exact True.intro | rfl | (conv => rhs; whnf)
        rintro k ⟨i, left, p'⟩ ⟨hk, hp1, hp2⟩
        simp only at hk hp1 hp2 ⊢
        conv => whnf
        refine Br.mk (fun hq3 => ?_) (fun hq3 => ?_) <;> conv => whnf
        · have hlt : i < (cellsW w l).length := by simpa using hq3
          have hdr : (cellsW w l).drop i = gd (cellsW w l) i :: (cellsW w l).drop (i + 1) := by
            rw [List.drop_eq_getElem_cons hlt]; simp [gd, List.getD, hlt]
          rw [hdr, cellsGo]
          generalize hcc : gd (cellsW w l) i = c at *
          refine Ix.at (l := cellsW w l) hlt rfl ?_; rw [hcc]; conv => whnf
          refine Nd.go (by assumption) ?_; conv => whnf
          refine Br.mk (fun hq4 => ?_) (fun hq4 => ?_) <;> conv => whnf
          · refine Br.T ?_; conv => whnf
            rw [if_pos (by rw [hq4]; rfl)]
            refine ⟨k - 1, (i + 1, left, p'), by omega, ⟨by simp only; omega, hp1, hp2⟩, ?_⟩
            (conv => whnf); refine ⟨rfl, ?_, ?_, ?_, ?_⟩ <;> (conv => whnf) <;> (repeat' apply And.intro) <;> first | exact True.intro | rfl | (conv => rhs; whnf)
            exact incr (by omega)
          · refine Br.mk (fun hq5 => ?_) (fun hq5 => ?_) <;> conv => whnf
            · rw [if_pos (by rw [hq4, hq5]; rfl)]
              refine ⟨k - 1, (i + 1, left, p'), by omega, ⟨by simp only; omega, hp1, hp2⟩, ?_⟩
              (conv => whnf); refine ⟨rfl, ?_, ?_, ?_, ?_⟩ <;> (conv => whnf) <;> (repeat' apply And.intro) <;> first | exact True.intro | rfl | (conv => rhs; whnf)
              exact incr (by omega)
            · rw [if_neg (by rw [hq4, hq5]; simp)]
              refine YG.go _ rfl ?_ ?_ <;> conv => whnf
              · repeat' first | (refine Br.T ?_; conv => whnf) | (refine Br.F ?_; conv => whnf)
                refine ⟨k - 1, (i + 1, W (left - 1), W (slot + 1)), by omega, ⟨by simp only; omega, by simp only [hs3]; omega, by simp only [hs3]; omega⟩, ?_⟩
                (conv => whnf); refine ⟨rfl, ?_, ?_, ?_, ?_⟩ <;> (conv => whnf) <;> (repeat' apply And.intro) <;> first | exact True.intro | rfl | (conv => rhs; whnf)
                exact incr (by omega)
              · repeat' first | (refine Br.T ?_; conv => whnf) | (refine Br.F ?_; conv => whnf)
                exact ⟨trivial, by simp⟩
        · have : (cellsW w l).length ≤ i := by simpa using hq3
          rw [List.drop_eq_nil_of_le this, cellsGo, ← hK2]
          refine ⟨m, (m, left, W (slot + 1), p'), by omega, ⟨rfl, by simp only [hs3]; omega, by simp only [hs3]; omega, by simp only [hs3]; omega, hp1, hp2⟩, ?_⟩
          (conv => whnf); refine ⟨rfl, ?_, ?_, ?_, ?_⟩ <;> (conv => whnf) <;> (repeat' apply And.intro) <;> first | exact True.intro | rfl | (conv => rhs; whnf)
    · rw [if_neg (by rw [hq]; simp)]
      refine ⟨(j + 1, p'), ⟨rfl, hp1, hp2⟩, ?_⟩
      (conv => whnf); refine ⟨rfl, ?_, ?_, ?_, ?_⟩ <;> (conv => whnf) <;> (repeat' apply And.intro) <;> first | exact True.intro | rfl | (conv => rhs; whnf)
      exact congrArg (fun x => Yt.more y (pairsV x)) (congrFun hK p')
  · rintro ⟨j, p⟩ ⟨rfl, h1, h2⟩
    rw [show (lnksV (linksW w)).length = (linksW w).length by simp [lnksV], List.drop_eq_nil_of_le (by simp)]
    conv => whnf
    exact ⟨rfl, fun l' ys e => by injection e with e1; exact e1.symm⟩
theorem cellsGo_len {len slot rel : Int} {k : Int → Int → List (GCell × Int)} {B : Nat} (h1 : rel ≤ W (slot + 1)) (hk : ∀ left p, rel ≤ p → (k left p).length ≤ B) : ∀ (cs : List GCell) (left p : Int), rel ≤ p → (cellsGo len slot k cs left p).length ≤ cs.length + B
  | [], left, p, hp => by rw [cellsGo]; have := hk left p hp; simp; exact this
  | c :: cs, left, p, hp => by
    rw [cellsGo]
    split
    · have := cellsGo_len (len := len) h1 hk cs left p hp
      rw [List.length_cons]; omega
    · have := cellsGo_len (len := len) h1 hk cs (W (left - 1)) (W (slot + 1)) h1
      rw [List.length_cons, List.length_cons]; omega
theorem slotsGo_len {len fin rel : Int} {cells : List GCell} {k : Int → List (GCell × Int)} {B : Nat} (hf : fin ≤ 2000000) (hr : 0 ≤ rel) (hk : ∀ p, rel ≤ p → (k p).length ≤ B) : ∀ (m : Nat) (left slot p : Int), rel ≤ slot → rel ≤ p → (slotsGo len fin cells k m left slot p).length ≤ m * cells.length + B
  | 0, left, slot, p, h1, h2 => by simp [slotsGo]
  | m + 1, left, slot, p, h1, h2 => by
    rw [slotsGo]
    split
    · split
      · simp
      · rename_i h3
        have h3 : slot < fin := by simpa using h3
        have hW : W (slot + 1) = slot + 1 := w64 (by omega)
        have := cellsGo_len (len := len) (slot := slot) (rel := rel) (k := fun left p => slotsGo len fin cells k m left (W (slot + 1)) p) (B := m * cells.length + B) (by omega) (fun left p hp => slotsGo_len hf hr hk m left (W (slot + 1)) p (by omega) hp) cells left p h2
        rw [Nat.add_mul]; omega
    · have := hk p h2
      omega
theorem linksGo_len {w : GWay} {fin rel : Int} (hf : fin ≤ 2000000) (hr : 0 ≤ rel) : ∀ (ls : List GLink) (p : Int), rel ≤ p → (linksGo w fin ls p).length ≤ ls.length * (((fin - rel).toNat + 1) * w.s.cells.length)
  | [], p, _ => by simp [linksGo]
  | l :: ls, p, hp => by
    rw [linksGo]
    have h1 := slotsGo_len (len := w.s.length) (cells := cellsW w l) (k := linksGo w fin ls) hf hr (fun p hp => linksGo_len (w := w) hf hr ls p hp) ((fin - p).toNat + 1) (W (l.loss + 1)) p p hp hp
    have h2 : ((fin - p).toNat + 1) * (cellsW w l).length ≤ ((fin - rel).toNat + 1) * w.s.cells.length := Nat.mul_le_mul (by omega) (cellsW_len w l)
    rw [List.length_cons, Nat.add_mul]
    omega
theorem countsW_len (w : GWay) (rel : Int) (hl : w.r.length ≤ 9) (hr : 0 ≤ rel ∧ rel ≤ 1000000) (hp : 0 ≤ w.f.period ∧ w.f.period ≤ 512) (hs : w.s.cells.length ≤ 512) : (countsW w rel).length ≤ 3000000 := by
  have e : W (rel + w.f.period) = rel + w.f.period := w64 (by omega)
  have h1 := linksGo_len (w := w) (fin := W (rel + w.f.period)) (rel := rel) (by omega) hr.1 (linksW w) rel (by omega)
  have h2 : (linksW w).length ≤ 8 := by simp [linksW]; omega
  have h3 : (linksW w).length * (((W (rel + w.f.period) - rel).toNat + 1) * w.s.cells.length) ≤ 8 * (513 * 512) := Nat.mul_le_mul h2 (Nat.mul_le_mul (by omega) hs)
  exact Nat.le_trans h1 (by omega)
theorem S182 (w : GWay) (rel : Int) : Sound Tryz.prog 182 [w.v, i64 rel] (.fn 249 [.rp [i64 rel], .rp w.c]) := by
  refine ex_intro mixedT T [] Tryz.func182 rfl (by rw [Tryz.ntmps182]; simp) (by kernel_rfl) ?_
  conv => whnf
  repeat' first | (refine LenG.map ?_; conv => whnf) | (refine LenG.go ?_; conv => whnf)
  repeat' first
    | (refine Br.T ?_; conv => whnf)
    | (refine Br.F ?_; conv => whnf)
    | (refine Br.mk (fun hq => ?_) (fun hq => ?_) <;> conv => whnf)
    | (refine FnG.go rfl ?_; conv => whnf)
    | (refine LenG.map ?_; conv => whnf)
    | (refine LenG.go ?_; conv => whnf)
  exact RetG.shut (ids := [1, 0]) rfl
def outW (w : GWay) (rel : Int) : List Int := (countsW w rel).map fun x => W (x.2 - rel)
def releaseP (w : GWay) (rel : Int) : Int × List Int × Bool :=
  if decide (((outW w rel).length : Int) < needW w) then (0, [], false) else (W (gi (outW w rel) (W (((outW w rel).length : Int) - 1)) + 1), outW w rel, true)
theorem S195 (w : GWay) (hw : w.ok) (hs : w.s.cells.length ≤ 512) (hl : w.s.length ≠ 0) (rel : Int) (hr : 0 ≤ rel ∧ rel ≤ 1000000) (hp : 0 ≤ w.f.period ∧ w.f.period ≤ 512) (hn : 1 ≤ needW w) :
    Sound Tryz.prog 195 [w.v, i64 rel] (.tup [i64 (releaseP w rel).1, intsV (releaseP w rel).2.1, .bool (releaseP w rel).2.2]) := by
  have hcl := countsW_len w rel hw.len hr hp hs
  have hol : (outW w rel).length ≤ 3000000 := by unfold outW; rw [List.length_map]; exact hcl
  refine ex_intro mixedT T [] Tryz.func195 rfl (by rw [Tryz.ntmps195]; simp) (by kernel_rfl) ?_
  conv => whnf
  repeat' first | (refine LenG.map ?_; conv => whnf) | (refine LenG.go ?_; conv => whnf)
  refine FnG.go rfl ?_; conv => whnf
  refine CallG.go (S182 w rel) ?_; conv => whnf
  refine RfG.goZ T rfl rfl (I249 w hw (by omega) hl rel hr (by omega)) (by rintro x hx; obtain ⟨c, _, rfl⟩ := List.mem_map.1 hx; rfl) rfl [.t 2, .t 3, .t 7, .c (.t 7) 0] [.c (.t 7) 0 3]
    (fun (_ : Nat) => [(2, .op 0 0), (3, .op 1 0), (7, .op 2 0)]) (fun j => [.box w.c, .box [i64 rel], .box [.sl (.tag 3) (((outW w rel).take j).map fun x => [i64 x])], .live 3 1 ((outW w rel).take j).length]) (fun _ => .off)
    (fun j k => k = j) 0 rfl [.t 2, .t 3, .t 7, .c (.t 7) 0] ?_ ?_ ?_
  · (conv => whnf); refine ⟨rfl, ?_, ?_, ?_, ?_⟩ <;> (conv => whnf) <;> (repeat' apply And.intro) <;> first | exact True.intro | rfl | (conv => rhs; whnf)
  · rintro _ j x rfl hx
    rw [List.getElem?_map] at hx
    obtain ⟨c, hc, rfl⟩ := Option.map_eq_some_iff.1 hx
    have hst : (outW w rel).take (j + 1) = (outW w rel).take j ++ [W (c.2 - rel)] := by
      rw [List.take_add_one]; unfold outW; rw [List.getElem?_map, hc]; rfl
    have htl : ((outW w rel).take j).length ≤ 3000000 := by rw [List.length_take]; omega
    conv => whnf
    refine ⟨appOk (by decide) (by omega) ⟨rfl, rfl⟩, ?_⟩; conv => whnf
    refine ⟨by simp, ?_⟩; conv => whnf
    refine ⟨j + 1, rfl, ?_⟩
    rw [hst]
    (conv => whnf); refine ⟨rfl, ?_, ?_, ?_, ?_⟩ <;> (conv => whnf) <;> (repeat' apply And.intro) <;> first | exact True.intro | rfl | (conv => rhs; whnf)
    · exact congrArg (fun x => HO.box [x]) snocV
    · exact snocH
  · rintro _ rfl
    rw [show (pairsV (countsW w rel)).length = (outW w rel).length by simp [pairsV, outW], List.take_length]
    conv => whnf
    repeat' first | (refine LenG.map ?_; conv => whnf) | (refine LenG.go ?_; conv => whnf)
    refine FnG.go rfl ?_; conv => whnf
    refine CallG.go (S269 w hw) ?_; conv => whnf
    refine Br.mk (fun hq => ?_) (fun hq => ?_) <;> conv => whnf
    · have hR : releaseP w rel = (0, [], false) := by unfold releaseP; rw [if_pos hq]
      rw [hR]
      exact RetG.three rfl rfl rfl
    · have hR : releaseP w rel = (W (gi (outW w rel) (W (((outW w rel).length : Int) - 1)) + 1), outW w rel, true) := by unfold releaseP; rw [if_neg (by rw [hq]; simp)]
      rw [hR]
      have hge : needW w ≤ (outW w rel).length := by simpa using hq
      repeat' first | (refine LenG.map ?_; conv => whnf) | (refine LenG.go ?_; conv => whnf)
      refine Ix.int (l := outW w rel) (by rw [w64 (by omega)]; omega) rfl ?_; conv => whnf
      exact RetG.three rfl rfl rfl
/-- The worst of the releases: worst, at, slots; none: a release is late. -/
def boundGo (w : GWay) : Nat → Int → Int × Int × List Int → Option (Int × Int × List Int)
  | 0, _, b => some b
  | m + 1, rel, b => if decide (rel < w.s.length) then (if !(releaseP w rel).2.2 then none else boundGo w m (W (rel + w.f.period)) (if decide ((releaseP w rel).1 > b.1) then ((releaseP w rel).1, rel, (releaseP w rel).2.1) else b)) else some b
def boundP (w : GWay) : Int × Int × List Int × Bool := match boundGo w (w.s.length.toNat + 1) w.f.phase (0, 0, []) with
  | some b => (b.1, b.2.1, b.2.2, true)
  | none => (0, 0, [], false)
theorem RetG.four {P : Program} {h : AHeap} {v w x y r s q u : AV} (e : ret1 v = some r) (e' : ret1 w = some s) (e'' : ret1 x = some q) (e3 : ret1 y = some u) : RetG P h [v, w, x, y] (.tup [r, s, q, u]) := ⟨by simp [retL, e, e', e'', e3]⟩
structure GWay.sized (w : GWay) : Prop where
  cells : w.s.cells.length ≤ 512
  len : 1 ≤ w.s.length ∧ w.s.length ≤ 512
  per : 1 ≤ w.f.period ∧ w.f.period ≤ 512
  pha : 0 ≤ w.f.phase ∧ w.f.phase ≤ 512
  need : 1 ≤ needW w
theorem S117 (w : GWay) (hw : w.ok) (hz : w.sized) : Sound Tryz.prog 117 [w.v] (.tup [i64 (boundP w).1, i64 (boundP w).2.1, intsV (boundP w).2.2.1, .bool (boundP w).2.2.2]) := by
  have h1 := hz.len
  have h2 := hz.per
  have h3 := hz.pha
  obtain ⟨R, hR⟩ : ∃ R, boundGo w (w.s.length.toNat + 1) w.f.phase (0, 0, []) = R := ⟨_, rfl⟩
  refine ex_intro mixedT T [] Tryz.func117 rfl (by rw [Tryz.ntmps117]; simp) (by kernel_rfl) ?_
  conv => whnf
  repeat' first | (refine LenG.map ?_; conv => whnf) | (refine LenG.go ?_; conv => whnf)
  refine Lp.go T [.t 1] (fun (a : (Nat × Int × Int × Int × List Int) × Fl) => [(1, .op 0 0), (6, i64 a.1.2.2.1), (7, i64 a.1.2.2.2.1), (8, .sl a.2 (a.1.2.2.2.2.map fun x => [i64 x])), (9, i64 a.1.2.1)]) (fun _ => [.box w.c])
    (fun m a => a.1.1 = m ∧ R = boundGo w a.1.1 a.1.2.1 a.1.2.2 ∧ 0 ≤ a.1.2.1 ∧ a.1.2.1 ≤ 100000 ∧ w.s.length + 1 ≤ a.1.2.1 + m ∧ (a.2 = .no ∨ a.2 = .zero ∧ a.1.2.2.2.2 = [])) (w.s.length.toNat + 1) ((w.s.length.toNat + 1, w.f.phase, 0, 0, []), .zero) ⟨rfl, hR.symm, by simp; omega, by simp; omega, by simp; omega, .inr ⟨rfl, rfl⟩⟩ [.t 1] ?_ ?_
  · (conv => whnf); refine ⟨rfl, ?_, ?_⟩ <;> (conv => whnf) <;> (repeat' apply And.intro) <;> first | exact True.intro | rfl | (conv => rhs; whnf)
  rintro _ ⟨⟨m, rel, b1, b2, b3⟩, fl⟩ ⟨rfl, hb, hr1, hr2, hr3, hfl⟩
  simp only at hb hr1 hr2 hr3 hfl ⊢
  conv => whnf
  refine Br.mk (fun hq => ?_) (fun hq => ?_) <;> conv => whnf
  · have hlt : rel < w.s.length := by simpa using hq
    obtain ⟨m, rfl⟩ : ∃ q, m = q + 1 := ⟨m - 1, by omega⟩
    rw [boundGo, if_pos hq] at hb
    refine FnG.go rfl ?_; conv => whnf
    refine CallG.go (S195 w hw hz.cells (by omega) rel ⟨hr1, by omega⟩ ⟨by omega, h2.2⟩ hz.need) ?_; conv => whnf
    have hW : W (rel + w.f.period) = rel + w.f.period := w64 (by omega)
    refine Br.mk (fun hq2 => ?_) (fun hq2 => ?_) <;> conv => whnf
    · rw [if_pos hq2] at hb
      have hP : boundP w = (0, 0, [], false) := by unfold boundP; rw [hR, hb]
      rw [hP]
      exact RetG.four rfl rfl rfl rfl
    · rw [if_neg (by rw [hq2]; simp)] at hb
      refine Br.mk (fun hq3 => ?_) (fun hq3 => ?_) <;> conv => whnf
      · rw [if_pos hq3] at hb
        refine ⟨m, ((m, W (rel + w.f.period), (releaseP w rel).1, rel, (releaseP w rel).2.1), .no), by omega, ⟨rfl, hb, by simp only [hW]; omega, by simp only [hW]; omega, by simp only [hW]; omega, .inl rfl⟩, ?_⟩
        (conv => whnf); refine ⟨rfl, ?_, ?_⟩ <;> (conv => whnf) <;> (repeat' apply And.intro) <;> first | exact True.intro | rfl | (conv => rhs; whnf)
      · rw [if_neg (by rw [hq3]; simp)] at hb
        rcases hfl with rfl | ⟨rfl, rfl⟩
        · refine ⟨m, ((m, W (rel + w.f.period), b1, b2, b3), .no), by omega, ⟨rfl, hb, by simp only [hW]; omega, by simp only [hW]; omega, by simp only [hW]; omega, .inl rfl⟩, ?_⟩
          (conv => whnf); refine ⟨rfl, ?_, ?_⟩ <;> (conv => whnf) <;> (repeat' apply And.intro) <;> first | exact True.intro | rfl | (conv => rhs; whnf)
        · refine ⟨m, ((m, W (rel + w.f.period), b1, b2, []), .zero), by omega, ⟨rfl, hb, by simp only [hW]; omega, by simp only [hW]; omega, by simp only [hW]; omega, .inr ⟨rfl, rfl⟩⟩, ?_⟩
          (conv => whnf); refine ⟨rfl, ?_, ?_⟩ <;> (conv => whnf) <;> (repeat' apply And.intro) <;> first | exact True.intro | rfl | (conv => rhs; whnf)
  · have hP : boundP w = (b1, b2, b3, true) := by
      unfold boundP; rw [hR, hb]
      cases m with
      | zero => rfl
      | succ m => rw [boundGo, if_neg (by rw [hq]; simp)]
    rw [hP]
    rcases hfl with rfl | ⟨rfl, rfl⟩ <;> exact RetG.four rfl rfl rfl rfl
def checkW (w : GWay) : Int :=
  if netErr w.n != 0 then 1 else if printE w.s != 0 then 1 else if (flowsP w.n.nodes [w.f]).2 != 0 then 1
  else if Int.tmod w.s.length w.f.period != 0 then 11 else checkR w.n w.f.from_ w.f.to_ w.r
theorem S116 (w : GWay) (hn : w.n.ok) (hs : Cn w.s.cells) (hr : Cn w.r) : Sound Tryz.prog 116 [w.v] (i64 (checkW w)) := by
  refine ex_intro mixedT T [] Tryz.func116 rfl (by rw [Tryz.ntmps116]; simp) (by kernel_rfl) ?_
  conv => whnf
  repeat' first | (refine LenG.map ?_; conv => whnf) | (refine LenG.go ?_; conv => whnf)
  repeat' first
    | (refine Br.T ?_; conv => whnf)
    | (refine Br.F ?_; conv => whnf)
    | (refine Br.mk (fun hq => ?_) (fun hq => ?_) <;> conv => whnf)
    | (refine FnG.go rfl ?_; conv => whnf)
    | (refine LenG.map ?_; conv => whnf)
    | (refine LenG.go ?_; conv => whnf)
    | (refine CallG.go (S71 w.n hn) ?_; conv => whnf)
    | (refine CallG.go (S72 w.s hs) ?_; conv => whnf)
    | (refine CallG.go (S118 w.n.nodes [w.f] (by show 1 < _; omega)) ?_; conv => whnf)
    | (refine CallG.go (S194 w.n hn _ _ w.r hr) ?_; conv => whnf)
    | (refine Nd.go ((flowsP_ok (by assumption)).1 w.f (by simp)) ?_; conv => whnf)
  all_goals (refine RetG.one ?_; delta checkW; simp only [ret1, *, Bool.true_or, Bool.false_or, Bool.or_true, Bool.or_false, Bool.true_and, Bool.false_and, Bool.and_true, Bool.and_false, Bool.not_true, Bool.not_false, if_true, if_false, Bool.false_eq_true, reduceIte])
theorem any_false {f : Nat → Bool} {n : Nat} (h : (List.range n).any f = false) : ∀ i, i < n → f i = false := fun i hi => by
  cases e : f i with
  | false => rfl
  | true => rw [any_upTo hi e] at h; cases h
theorem faultP_ok {n : GNet} {a b : Int} {r : List Int} (h : faultP n a b r = 0) : 2 ≤ r.length ∧ r.length ≤ 9 ∧ ∀ i, i + 1 < r.length → goodLk n (gd r i) (gd r (i + 1)) = true := by
  unfold faultP at h
  split at h
  · cases h
  split at h
  · cases h
  split at h
  · cases h
  split at h
  · cases h
  split at h
  · cases h
  split at h
  · cases h
  rename_i h1 h2 h3 h4 h5 h6
  have h7 := any_false (Bool.eq_false_iff.2 h6)
  simp at h1 h2
  refine ⟨by omega, by omega, fun i hi => ?_⟩
  have := h7 i (by omega)
  unfold brokeR at this
  simpa using this
theorem endsP_zero {n : GNet} {a b : Int} {r : List Int} (h : checkR n a b r = 0) : netErr n = 0 ∧ faultP n a b r = 0 := by
  unfold checkR at h
  split at h
  · rename_i h1; rw [h] at h1; cases h1
  · rename_i h1; exact ⟨endsP_ok (Bool.eq_false_iff.2 h1), h⟩
theorem flowOk_of {nodes : Int} {f : GFlow} (h : ((flowsP nodes [f]).2 != 0) = false) : (1 ≤ f.period ∧ f.period ≤ 512) ∧ (0 ≤ f.phase ∧ f.phase < f.period) ∧ (1 ≤ f.deadline ∧ f.deadline ≤ f.period) ∧ 0 ≤ f.id ∧ f.id ≤ 255 := by
  unfold flowsP at h
  split at h
  · simp at h
  split at h
  · simp at h
  have hz := firstE_ok _ _ (by simpa using h) 0 (by omega) (by simp)
  unfold flowAt at hz
  have e : gd [f] 0 = f := rfl
  rw [e] at hz
  split at hz
  · rename_i h1; rw [hz] at h1; cases h1
  rename_i h1
  have h1 : flowErr nodes f = 0 := by simpa using h1
  unfold flowErr at h1
  split at h1
  · cases h1
  split at h1
  · cases h1
  rename_i h2 h3
  simp only [Bool.or_eq_true, decide_eq_true_eq, not_or] at h2 h3
  omega
theorem lossOk {n : GNet} (h : NetOk n) {i : Nat} (hi : i < n.links.length) : 0 ≤ (gd n.links i).loss ∧ (gd n.links i).loss ≤ 7 := by
  have := h.link i hi
  unfold linkErrAt linkErr at this
  split at this
  · cases this
  rename_i h1
  simp only [Bool.or_eq_true, decide_eq_true_eq, not_or] at h1
  omega
theorem need_ge : ∀ (l : List GLink) (a : Int), 0 ≤ a → a + l.length * 2000000 ≤ 1000000000 → (∀ x ∈ l, 0 ≤ x.loss ∧ x.loss ≤ 1000000) → a + l.length ≤ l.foldl need1 a
  | [], a, _, _, _ => by simp
  | x :: r, a, h0, h1, h2 => by
    have hx := h2 x (by simp)
    have e1 : W (x.loss + 1) = x.loss + 1 := w64 (by omega)
    rw [List.length_cons] at h1
    have e2 : need1 a x = a + (x.loss + 1) := by unfold need1; rw [e1]; exact w64 (by omega)
    rw [List.foldl_cons, e2]
    have := need_ge r (a + (x.loss + 1)) (by omega) (by omega) (fun y hy => h2 y (by simp [hy]))
    rw [List.length_cons]; omega
theorem way_ok {w : GWay} (hn : w.n.ok) (hm : 0 ≤ w.more ∧ w.more ≤ 900000) (h : checkW w = 0) : w.ok ∧ w.sized := by
  unfold checkW at h
  split at h
  · cases h
  split at h
  · cases h
  split at h
  · cases h
  split at h
  · cases h
  rename_i h1 h2 h3 h4
  obtain ⟨hv, hf⟩ := endsP_zero h
  obtain ⟨f1, f2, f3⟩ := faultP_ok hf
  have FO := printE_ok (Bool.eq_false_iff.2 h2)
  have fl := flowOk_of (Bool.eq_false_iff.2 h3)
  have hok : w.ok := ⟨hn, hv, f2, fun i hi => (goodLk_find (by rw [f3 i hi]; rfl)).1⟩
  refine ⟨hok, ⟨?_, ?_, fl.1, ?_, ?_⟩⟩
  · have := FO.cells; omega
  · have := FO.len; omega
  · omega
  · have hl : (linksW w).length = w.r.length - 1 := by simp [linksW]
    have := need_ge (linksW w) 0 (by omega) (by omega) (fun x hx => by
      obtain ⟨i, hi, rfl⟩ := List.mem_map.1 hx
      have hi : i < w.r.length - 1 := List.mem_range.1 hi
      have g1 := hok.way i (by omega)
      have g2 := findLk_lt w.n _ _ g1
      have g3 := lossOk (netOk_of hv) g2
      have g4 : (linkAt w i).loss = W ((gi w.n.links (findLk w.n (gd w.r i) (gd w.r (i + 1)))).loss + w.more) := rfl
      have g5 : gi w.n.links (findLk w.n (gd w.r i) (gd w.r (i + 1))) = gd w.n.links (findLk w.n (gd w.r i) (gd w.r (i + 1))).toNat := rfl
      rw [g4, g5, show W (_ + w.more) = _ from w64 (by omega)]
      omega)
    unfold needW
    omega
def routeB (w : GWay) : Int × Int × List Int × Int :=
  if checkW w != 0 then (0, 0, [], checkW w) else if !(boundP w).2.2.2 then (0, 0, [], 15) else ((boundP w).1, (boundP w).2.1, (boundP w).2.2.1, 0)
theorem S47 (n : GNet) (hn : n.ok) (s : GSched) (hs : Cn s.cells) (f : GFlow) (r : List Int) (hr : Cn r) : Sound Tryz.prog 47 [n.v, s.v, f.v, .sl .no (r.map fun x => [i64 x])] (.tup [i64 (routeB ⟨n, s, f, r, 0⟩).1, i64 (routeB ⟨n, s, f, r, 0⟩).2.1, intsV (routeB ⟨n, s, f, r, 0⟩).2.2.1, i64 (routeB ⟨n, s, f, r, 0⟩).2.2.2]) := by
  refine ex_intro mixedT T [] Tryz.func47 rfl (by rw [Tryz.ntmps47]; simp) (by kernel_rfl) ?_
  conv => whnf
  repeat' first | (refine LenG.map ?_; conv => whnf) | (refine LenG.go ?_; conv => whnf)
  refine FnG.go rfl ?_; conv => whnf
  refine CallG.go (S116 ⟨n, s, f, r, 0⟩ hn hs hr) ?_; conv => whnf
  refine Br.mk (fun hq => ?_) (fun hq => ?_) <;> conv => whnf
  · have hR : routeB ⟨n, s, f, r, 0⟩ = (0, 0, [], checkW ⟨n, s, f, r, 0⟩) := by unfold routeB; rw [if_pos hq]
    rw [hR]
    exact RetG.four rfl rfl rfl rfl
  · obtain ⟨hw, hz⟩ := way_ok (w := ⟨n, s, f, r, 0⟩) hn (by simp) (by simpa using hq)
    refine FnG.go rfl ?_; conv => whnf
    refine CallG.go (S117 ⟨n, s, f, r, 0⟩ hw hz) ?_; conv => whnf
    refine Br.mk (fun hq2 => ?_) (fun hq2 => ?_) <;> conv => whnf
    · have hR : routeB ⟨n, s, f, r, 0⟩ = (0, 0, [], 15) := by unfold routeB; rw [if_neg (by rw [hq]; simp), if_pos hq2]
      rw [hR]
      exact RetG.four rfl rfl rfl rfl
    · have hR : routeB ⟨n, s, f, r, 0⟩ = ((boundP ⟨n, s, f, r, 0⟩).1, (boundP ⟨n, s, f, r, 0⟩).2.1, (boundP ⟨n, s, f, r, 0⟩).2.2.1, 0) := by unfold routeB; rw [if_neg (by rw [hq]; simp), if_neg (by rw [hq2]; simp)]
      rw [hR]
      exact RetG.four rfl rfl rfl rfl
end Go.Proofs.YtbaajjihhdmdpaaGreatDoor

namespace Go.Proofs.YtbaajjihhdmdpaaGreatDoor
open Go.RowKit
set_option linter.unusedSectionVars false
set_option linter.unusedVariables false
set_option linter.unusedSimpArgs false
set_option linter.unnecessarySimpa false
set_option maxRecDepth 100000
/-! ### good cells: whatever their order and their places -/
def endsC (c : GCell) : GCell := ⟨0, 0, c.from_, c.to_, 0⟩
def dist2 (n : GNet) (node s : Int) (c : GCell) : Int := dist1 n node (dist1 n node s c.from_) c.to_
def distE (n : GNet) (node : Int) (r : List GCell) : Int := r.foldl (dist2 n node) 0
/-- A cell's fault among others. -/
def badE (n : GNet) (c : GCell) (r : List GCell) : Bool :=
  !goodLk n c.from_ c.to_ || r.any (touches c) || !hearsB n (gi n.margin (findLk n c.from_ c.to_)) (distE n c.to_ r) || !hearsB n (gi n.margin (findLk n c.to_ c.from_)) (distE n c.from_ r)
theorem touchGo_past (c : GCell) (i : Nat) : ∀ (l : List GCell) (q : Nat), i < q → touchGo c i l q = l.any (touches c)
  | [], q, h => rfl
  | d :: r, q, h => by
    have hb : ((q : Int) != (i : Int)) = true := by simp; omega
    rw [touchGo, touchGo_past c i r (q + 1) (by omega), hb, List.any_cons, Bool.true_and]
theorem touchGo_erase (c : GCell) (i : Nat) : ∀ (l : List GCell) (q : Nat), q ≤ i → touchGo c i l q = (l.eraseIdx (i - q)).any (touches c)
  | [], q, h => rfl
  | d :: r, q, h => by
    rw [touchGo]
    by_cases e : q = i
    · subst e
      rw [touchGo_past c q r (q + 1) (by omega), Nat.sub_self]
      simp
    · have hb : ((q : Int) != (i : Int)) = true := by simp; omega
      rw [touchGo_erase c i r (q + 1) (by omega), hb, show i - q = (i - (q + 1)) + 1 by omega, List.eraseIdx_cons_succ, List.any_cons, Bool.true_and]
theorem distGo_past (n : GNet) (i : Nat) (node : Int) : ∀ (l : List GCell) (q : Nat) (s : Int), i < q → distGo n i node l q s = l.foldl (dist2 n node) s
  | [], q, s, h => rfl
  | d :: r, q, s, h => by
    have hb : ((q : Int) == (i : Int)) = false := by simp; omega
    rw [distGo, if_neg (by rw [hb]; simp), distGo_past n i node r (q + 1) _ (by omega)]; rfl
theorem distGo_erase (n : GNet) (i : Nat) (node : Int) : ∀ (l : List GCell) (q : Nat) (s : Int), q ≤ i → distGo n i node l q s = (l.eraseIdx (i - q)).foldl (dist2 n node) s
  | [], q, s, h => rfl
  | d :: r, q, s, h => by
    rw [distGo]
    by_cases e : q = i
    · subst e
      rw [if_pos (by simp), distGo_past n q node r (q + 1) _ (by omega), Nat.sub_self]
      rfl
    · have hb : ((q : Int) == (i : Int)) = false := by simp; omega
      rw [if_neg (by rw [hb]; simp), distGo_erase n i node r (q + 1) _ (by omega), show i - q = (i - (q + 1)) + 1 by omega, List.eraseIdx_cons_succ]
      rfl
theorem faulty_badE (n : GNet) (l : List GCell) (i : Nat) : faultyP n l i = badE n (gd l i) (l.eraseIdx i) := by
  unfold faultyP badE dist distE
  rw [touchGo_erase _ i l 0 (by omega), distGo_erase n i _ l 0 _ (by omega), distGo_erase n i _ l 0 _ (by omega)]
  rfl
theorem W_comm (s a b : Int) : W (W (s + a) + b) = W (W (s + b) + a) := by
  unfold W; simp only [IntKind.wrap_i64]; omega
theorem dist1_comm (n : GNet) (node s a b : Int) : dist1 n node (dist1 n node s a) b = dist1 n node (dist1 n node s b) a := by
  unfold dist1
  cases isNode n a <;> cases isNode n b <;> simp [W_comm]
theorem dist2_comm (n : GNet) (node s : Int) (c d : GCell) : dist2 n node (dist2 n node s c) d = dist2 n node (dist2 n node s d) c := by
  unfold dist2
  rw [dist1_comm n node _ c.to_ d.from_, dist1_comm n node _ c.from_ d.from_, dist1_comm n node _ c.to_ d.to_, dist1_comm n node _ c.from_ d.to_]
theorem fold2_perm (n : GNet) (node : Int) {a b : List GCell} (h : a.Perm b) : ∀ s, a.foldl (dist2 n node) s = b.foldl (dist2 n node) s := by
  induction h with
  | nil => intro s; rfl
  | cons x _ ih => intro s; exact ih _
  | swap x y l => intro s; simp only [List.foldl_cons]; rw [dist2_comm]
  | trans _ _ h1 h2 => intro s; exact (h1 s).trans (h2 s)
theorem any_perm {α : Type} (p : α → Bool) {a b : List α} (h : a.Perm b) : a.any p = b.any p := by
  rw [Bool.eq_iff_iff, List.any_eq_true, List.any_eq_true]
  constructor
  · rintro ⟨x, h1, h2⟩; exact ⟨x, h.mem_iff.1 h1, h2⟩
  · rintro ⟨x, h1, h2⟩; exact ⟨x, h.mem_iff.2 h1, h2⟩
theorem badE_perm (n : GNet) (c : GCell) {a b : List GCell} (h : a.Perm b) : badE n c a = badE n c b := by
  unfold badE distE
  rw [any_perm _ h, fold2_perm n _ h, fold2_perm n _ h]
theorem badE_ends (n : GNet) (c : GCell) (r : List GCell) : badE n (endsC c) (r.map endsC) = badE n c r := by
  unfold badE distE
  rw [List.any_map, List.foldl_map, List.foldl_map]
  rfl
theorem eraseIdx_perm {α : Type} [Inhabited α] : ∀ (l : List α) (i : Nat), i < l.length → l.Perm (gd l i :: l.eraseIdx i)
  | [], i, h => by simp at h
  | x :: r, 0, h => List.Perm.refl _
  | x :: r, i + 1, h => by
    have ih := eraseIdx_perm r i (by simpa using h)
    rw [List.eraseIdx_cons_succ]
    exact (ih.cons x).trans (List.Perm.swap _ _ _)
theorem good_iff (n : GNet) (l : List GCell) : goodCells n l = true ↔ netErr n = 0 ∧ ∀ c r, l.Perm (c :: r) → badE n c r = false := by
  unfold goodCells
  rw [Bool.and_eq_true, beq_iff_eq, Bool.not_eq_true']
  refine and_congr Iff.rfl ?_
  constructor
  · intro h c r hp
    have hm : c ∈ l := hp.mem_iff.2 (by simp)
    obtain ⟨i, hi, rfl⟩ := List.getElem_of_mem hm
    have e : gd l i = l[i] := by simp [gd, List.getD, hi]
    have h2 : faultyP n l i = false := by
      cases hf : faultyP n l i with
      | false => rfl
      | true =>
        have : (List.range' 0 l.length).any (faultyP n l) = true := List.any_eq_true.2 ⟨i, by simp [List.mem_range']; omega, hf⟩
        rw [h] at this; cases this
    rw [faulty_badE, e] at h2
    rw [← h2]
    refine (badE_perm n _ ?_).symm
    have hp2 := eraseIdx_perm l i hi
    rw [e] at hp2
    exact List.Perm.cons_inv (hp2.symm.trans hp)
  · intro h
    cases hc : (List.range' 0 l.length).any (faultyP n l) with
    | false => rfl
    | true =>
      obtain ⟨i, h1, h2⟩ := List.any_eq_true.1 hc
      have hi : i < l.length := by simp [List.mem_range'] at h1; omega
      rw [faulty_badE, h _ _ (eraseIdx_perm l i hi)] at h2
      cases h2
theorem eraseIdx_mapE : ∀ (l : List GCell) (i : Nat), (l.map endsC).eraseIdx i = (l.eraseIdx i).map endsC
  | [], i => rfl
  | x :: r, 0 => rfl
  | x :: r, i + 1 => by
    rw [List.map_cons, List.eraseIdx_cons_succ, List.eraseIdx_cons_succ, List.map_cons, eraseIdx_mapE r i]
theorem good_ends (n : GNet) (l : List GCell) : goodCells n (l.map endsC) = goodCells n l := by
  unfold goodCells
  rw [List.length_map]
  congr 2
  rw [Bool.eq_iff_iff, List.any_eq_true, List.any_eq_true]
  have key : ∀ i ∈ List.range' 0 l.length, faultyP n (l.map endsC) i = faultyP n l i := by
    intro i hi
    have hi : i < l.length := by simp [List.mem_range'] at hi; omega
    rw [faulty_badE, faulty_badE, eraseIdx_mapE l i, show gd (l.map endsC) i = endsC (gd l i) by simp [gd, List.getD, hi]]
    exact badE_ends n _ _
  constructor
  · rintro ⟨i, h1, h2⟩; exact ⟨i, h1, by rw [← key i h1]; exact h2⟩
  · rintro ⟨i, h1, h2⟩; exact ⟨i, h1, by rw [key i h1]; exact h2⟩
theorem good_perm (n : GNet) {a b : List GCell} (h : (a.map endsC).Perm (b.map endsC)) : goodCells n a = goodCells n b := by
  rw [← good_ends n a, ← good_ends n b, Bool.eq_iff_iff, good_iff, good_iff]
  constructor
  · rintro ⟨h1, h2⟩; exact ⟨h1, fun c r hp => h2 c r (h.trans hp)⟩
  · rintro ⟨h1, h2⟩; exact ⟨h1, fun c r hp => h2 c r (h.symm.trans hp)⟩
/-! ### Room -/
theorem fitsGo_eq (c : GCell) : ∀ (l acc : List GCell), fitsGo c l acc = if l.any (near c) then none else some (acc ++ l.filter (atSame c))
  | [], acc => by simp [fitsGo]
  | d :: r, acc => by
    rw [fitsGo, List.any_cons]
    cases h : near c d with
    | true => simp
    | false =>
      rw [if_neg (by simp), fitsGo_eq c r, Bool.false_or, List.filter_cons]
      cases h2 : atSame c d <;> simp
theorem near_here (l : GLink) (t o : Nat) (L : List GCell) : L.any (near (cellAt l t o)) = (hereL L t).any fun c => touchesL c l := by
  rw [Bool.eq_iff_iff, List.any_eq_true, List.any_eq_true]
  unfold hereL near touchesL cellAt
  constructor
  · rintro ⟨d, h1, h2⟩
    simp only [Bool.and_eq_true] at h2
    exact ⟨d, List.mem_filter.2 ⟨h1, h2.1⟩, h2.2⟩
  · rintro ⟨d, h1, h2⟩
    have := List.mem_filter.1 h1
    exact ⟨d, this.1, by simp only [Bool.and_eq_true]; exact ⟨this.2, h2⟩⟩
theorem atSame_here (l : GLink) (t o : Nat) (L : List GCell) : L.filter (atSame (cellAt l t o)) = (hereL L t).filter fun c => !(c.offset != (o : Int)) := by
  unfold hereL
  rw [List.filter_filter]
  refine List.filter_congr fun d _ => ?_
  unfold atSame cellAt
  simp only [bne, Bool.not_not]
  rw [Bool.and_comm]
theorem fits_room (n : GNet) (s : GSched) (hs : s.cells.length ≤ 512) (l : GLink) (t o : Nat) (h : ((hereL s.cells t).any fun c => touchesL c l) = false) : fitsR n s (cellAt l t o) = roomAtP n l (hereL s.cells t) o := by
  unfold fitsR roomAtP
  rw [fitsGo_eq, near_here, h, if_neg (by simp)]
  simp only
  rw [atSame_here, ← good_eq _ (by
    have h1 := List.length_filter_le (fun c : GCell => !(c.offset != (o : Int))) (hereL s.cells t)
    have h2 := List.length_filter_le (fun c : GCell => c.slot == (t : Int)) s.cells
    have h3 : (hereL s.cells t).length ≤ s.cells.length := h2
    simp only [List.length_append, List.length_cons, List.length_nil]; omega)]
  refine good_perm n ?_
  rw [List.map_append, List.map_append]
  exact List.perm_append_comm
theorem fits_none (n : GNet) (s : GSched) (l : GLink) (t o : Nat) (h : ((hereL s.cells t).any fun c => touchesL c l) = true) : fitsR n s (cellAt l t o) = false := by
  unfold fitsR
  rw [fitsGo_eq, near_here, h, if_pos rfl]
theorem outAt_eq (n : GNet) (s : GSched) (hs : s.cells.length ≤ 512) (l : GLink) (t : Nat) : outAt n s l t = roomIn (fitsR n s) l t s.offsets.toNat := by
  unfold outAt roomIn offsL
  rw [List.filter_map]
  cases h : (hereL s.cells t).any fun c => touchesL c l with
  | true =>
    rw [if_pos rfl, List.filter_eq_nil_iff.2 (fun o _ => by simp [fits_none n s l t o h])]
  | false =>
    rw [if_neg (by simp), List.range_eq_range']
    congr 1
    refine List.filter_congr fun o _ => ?_
    exact (fits_room n s hs l t o h).symm
theorem outUp_eq (n : GNet) (s : GSched) (hs : s.cells.length ≤ 512) (l : GLink) : ∀ t, outUp n s l t = roomUp (fitsR n s) l s.offsets.toNat t
  | 0 => rfl
  | t + 1 => by rw [outUp, roomUp, outUp_eq n s hs l t, outAt_eq n s hs l t]
theorem printE_form (s : GSched) : (printE s != 0) = !formR s := by
  rw [form_eq]; unfold printE
  cases form s <;> rfl
theorem room_eq (n : GNet) (s : GSched) (l : GLink) : roomP n s l = roomR n s l := by
  unfold roomP roomR roomRes
  rw [printE_form]
  cases h1 : (netErr n != 0) with
  | true => simp
  | false =>
    cases h2 : formR s with
    | false => simp
    | true =>
      simp only [Bool.not_true, Bool.or_false, Bool.false_eq_true, if_false]
      rw [outUp_eq n s (formR_bd h2).2.2.2.2 l]
      rfl
theorem drop_eq (s : GSched) (flow : Int) : dropP s flow = dropR s flow := by
  unfold dropP dropR
  rw [printE_form]; rfl
/-- The cells of a flow on a link in a slot of a run. -/
def onC (id : Int) (l : GLink) (c : GCell) : Bool := c.flow == id && c.from_ == l.from_ && c.to_ == l.to_
def slotC (s : GSched) (id : Int) (l : GLink) (t : Int) : List GCell := s.cells.filter fun c => c.slot == Int.tmod t s.length && onC id l c
def runT (s : GSched) (id : Int) (l : GLink) : Nat → Int → List (GCell × Int)
  | 0, _ => []
  | m + 1, p => (slotC s id l p).map (fun c => (c, p)) ++ runT s id l m (p + 1)
def lastS (p : Int) (L : List (GCell × Int)) : Int := match L.getLast? with
  | some x => x.2 + 1
  | none => p
/-- The cells that count, with their slots, link for link; none if there are not enough. -/
def hops (s : GSched) (id fin : Int) : List GLink → Int → Option (List (GCell × Int))
  | [], _ => some []
  | l :: ls, p => if (l.loss + 1).toNat ≤ (runT s id l (fin - p).toNat p).length then
      (hops s id fin ls (lastS p ((runT s id l (fin - p).toNat p).take (l.loss + 1).toNat))).map fun r => (runT s id l (fin - p).toNat p).take (l.loss + 1).toNat ++ r
    else none
theorem cells_slot (w : GWay) (l : GLink) (t : Int) : (cellsW w l).filter (fun c => c.slot == Int.tmod t w.s.length) = slotC w.s w.f.id l t := by
  unfold cellsW slotC
  rw [List.filter_filter]
  refine List.filter_congr fun c _ => ?_
  unfold notOn onC
  simp only [bne, Bool.not_or, Bool.not_not, Bool.and_assoc]
theorem cellsGo_eq (len slot : Int) (hs : W (slot + 1) = slot + 1) (k : Int → Int → List (GCell × Int)) : ∀ (cs : List GCell) (left : Nat) (p : Int), left ≤ 1000000 →
    cellsGo len slot k cs left p = ((cs.filter fun c => c.slot == Int.tmod slot len).map fun c => (c, slot)).take left ++
      k (((left - (cs.filter fun c => c.slot == Int.tmod slot len).length : Nat)) : Int) (if left = 0 ∨ (cs.filter fun c => c.slot == Int.tmod slot len) = [] then p else slot + 1)
  | [], left, p, h => by simp [cellsGo]
  | c :: cs, left, p, h => by
    rw [cellsGo]
    by_cases hc : (c.slot == Int.tmod slot len) = true
    · have hb : (c.slot != Int.tmod slot len) = false := by simp [bne, hc]
      rw [hb, Bool.false_or, List.filter_cons, if_pos hc]
      cases left with
      | zero =>
        rw [if_pos (by rfl), cellsGo_eq len slot hs k cs 0 p (by omega)]
        simp
      | succ n =>
        have h0 : (((n + 1 : Nat) : Int) == 0) = false := by simp; omega
        have hW : W (((n + 1 : Nat) : Int) - 1) = (n : Int) := by rw [Wi (by omega)]; omega
        rw [if_neg (by rw [h0]; simp), hW, hs, cellsGo_eq len slot hs k cs n (slot + 1) (by omega)]
        simp only [List.map_cons, List.take_succ_cons, List.cons_append, List.length_cons, Nat.add_sub_add_right, ite_self]
        simp
    · have hb : (c.slot != Int.tmod slot len) = true := by simp [bne, hc]
      rw [hb, Bool.true_or, if_pos rfl, List.filter_cons, if_neg hc]
      exact cellsGo_eq len slot hs k cs left p h
theorem take_app_len {α : Type} {a b : List α} {n : Nat} (h : a.length ≤ n) : (a ++ b).take n = a ++ b.take (n - a.length) := by
  rw [List.take_append, List.take_of_length_le h]
theorem take_app_lt {α : Type} {a b : List α} {n : Nat} (h : n ≤ a.length) : (a ++ b).take n = a.take n := by
  rw [List.take_append, Nat.sub_eq_zero_of_le h]; simp
theorem lastS_append (p : Int) (a b : List (GCell × Int)) : lastS p (a ++ b) = lastS (lastS p a) b := by
  unfold lastS
  rw [List.getLast?_append]
  cases h : b.getLast? with
  | some x => simp
  | none => simp
theorem lastS_map (p t : Int) (l : List GCell) : lastS p (l.map fun c => (c, t)) = if l = [] then p else t + 1 := by
  unfold lastS
  rw [List.getLast?_map]
  cases h : l.getLast? with
  | none => have : l = [] := List.getLast?_eq_none_iff.1 h; simp [this]
  | some x =>
    have : l ≠ [] := fun e => by rw [e] at h; cases h
    simp [this]
theorem slotsGo_eq (w : GWay) (l : GLink) (fin : Int) (hf : -1000000 ≤ fin ∧ fin ≤ 10000000) (k : Int → List (GCell × Int)) : ∀ (m : Nat) (left : Nat) (slot p : Int), (fin - slot).toNat < m → slot ≤ fin → -1000000 ≤ slot → left ≤ 1000000 →
    slotsGo w.s.length fin (cellsW w l) k m left slot p =
      (runT w.s w.f.id l (fin - slot).toNat slot).take left ++ if left ≤ (runT w.s w.f.id l (fin - slot).toNat slot).length then k (lastS p ((runT w.s w.f.id l (fin - slot).toNat slot).take left)) else []
  | 0, left, slot, p, h, _, _, _ => by omega
  | m + 1, left, slot, p, hm, hsf, hsl, hl => by
    rw [slotsGo]
    by_cases h0 : left = 0
    · subst h0
      rw [if_neg (by simp)]
      simp [lastS]
    rw [if_pos (by simp; omega)]
    by_cases he : slot = fin
    · rw [if_pos (by simp; omega), show (fin - slot).toNat = 0 by omega]
      rw [runT, if_neg (by simp; omega)]
      simp
    rw [if_neg (by simp; omega)]
    have hW : W (slot + 1) = slot + 1 := w64 (by omega)
    rw [cellsGo_eq _ _ hW _ _ _ _ hl, cells_slot, hW]
    rw [show (fin - slot).toNat = (fin - (slot + 1)).toNat + 1 by omega, runT]
    generalize hC : slotC w.s w.f.id l slot = C
    have ih := slotsGo_eq w l fin hf k m (left - C.length) (slot + 1) (if left = 0 ∨ C = [] then p else slot + 1) (by omega) (by omega) (by omega) (by omega)
    rw [ih]
    generalize runT w.s w.f.id l (fin - (slot + 1)).toNat (slot + 1) = R
    have hml : (C.map fun c => (c, slot)).length = C.length := by simp
    by_cases hlt : C.length ≤ left
    · have hA : ((C.map fun c => (c, slot)) ++ R).take left = (C.map fun c => (c, slot)) ++ R.take (left - C.length) := by rw [take_app_len (by rw [hml]; exact hlt), hml]
      have hB : (C.map fun c => (c, slot)).take left = C.map fun c => (c, slot) := List.take_of_length_le (by rw [hml]; exact hlt)
      have hP : (if left = 0 ∨ C = [] then p else slot + 1) = if C = [] then p else slot + 1 := by simp [h0]
      rw [hA, hB, List.length_append, hml, List.append_assoc, lastS_append, lastS_map, hP]
      congr 2
      by_cases hR : left - C.length ≤ R.length
      · rw [if_pos hR, if_pos (Nat.sub_le_iff_le_add'.1 hR)]
      · rw [if_neg hR, if_neg (fun e => hR (Nat.sub_le_iff_le_add'.2 e))]
    · have hA : ((C.map fun c => (c, slot)) ++ R).take left = (C.map fun c => (c, slot)).take left := take_app_lt (by rw [hml]; omega)
      have hCn : C ≠ [] := fun e => by rw [e] at hlt; simp at hlt
      have ht : C.take left ≠ [] := by
        intro e
        have := congrArg List.length e
        rw [List.length_take] at this
        simp only [List.length_nil] at this; omega
      have hP : (if left = 0 ∨ C = [] then p else slot + 1) = slot + 1 := by simp [h0, hCn]
      have hL : lastS p ((C.map fun c => (c, slot)).take left) = slot + 1 := by rw [← List.map_take, lastS_map, if_neg ht]
      have h1 : left ≤ C.length + R.length := by omega
      rw [hA, List.length_append, hml, hL, hP, show left - C.length = 0 by omega, List.take_zero, if_pos (Nat.zero_le _), if_pos h1]
      rfl
theorem runT_slots (s : GSched) (id : Int) (l : GLink) : ∀ (m : Nat) (p : Int) (x : GCell × Int), x ∈ runT s id l m p → p ≤ x.2 ∧ x.2 < p + m ∧ x.1 ∈ slotC s id l x.2
  | 0, p, x, h => by simp [runT] at h
  | m + 1, p, x, h => by
    rw [runT, List.mem_append] at h
    rcases h with h | h
    · obtain ⟨c, hc, rfl⟩ := List.mem_map.1 h
      exact ⟨by simp, by simp; omega, hc⟩
    · have := runT_slots s id l m (p + 1) x h
      exact ⟨by omega, by omega, this.2.2⟩
theorem lastS_in {p fin : Int} (h : p ≤ fin) {L : List (GCell × Int)} (hL : ∀ x ∈ L, p ≤ x.2 ∧ x.2 < fin) : p ≤ lastS p L ∧ lastS p L ≤ fin := by
  unfold lastS
  cases hx : L.getLast? with
  | none => simp; exact h
  | some x =>
    have := hL x (List.mem_of_getLast? hx)
    simp; omega
theorem lastS_run {s : GSched} {id : Int} {l : GLink} {p fin : Int} (h : p ≤ fin) (k : Nat) : p ≤ lastS p ((runT s id l (fin - p).toNat p).take k) ∧ lastS p ((runT s id l (fin - p).toNat p).take k) ≤ fin :=
  lastS_in h fun x hx => by
    have := runT_slots s id l _ p x (List.mem_of_mem_take hx)
    omega
def needL (ls : List GLink) : Nat := (ls.map fun l => (l.loss + 1).toNat).sum
theorem hops_len {s : GSched} {id fin : Int} : ∀ (ls : List GLink) (p : Int) (L : List (GCell × Int)), hops s id fin ls p = some L → L.length = needL ls
  | [], p, L, h => by simp [hops] at h; subst h; rfl
  | l :: ls, p, L, h => by
    rw [hops] at h
    split at h
    · rename_i hk
      obtain ⟨r, hr, rfl⟩ := Option.map_eq_some_iff.1 h
      have := hops_len ls _ r hr
      rw [List.length_append, List.length_take, this, needL, needL]
      simp; omega
    · cases h
theorem linksGo_eq (w : GWay) (fin : Int) (hf : -1000000 ≤ fin ∧ fin ≤ 10000000) : ∀ (ls : List GLink) (p : Int), (∀ l ∈ ls, 0 ≤ l.loss ∧ l.loss ≤ 1000) → p ≤ fin → -1000000 ≤ p →
    match hops w.s w.f.id fin ls p with
    | some L => linksGo w fin ls p = L
    | none => (linksGo w fin ls p).length < needL ls
  | [], p, _, _, _ => by simp [hops, linksGo]
  | l :: ls, p, hls, hp, hp0 => by
    have h1 := hls l (by simp)
    have hW : W (l.loss + 1) = ((l.loss + 1).toNat : Int) := by rw [Wi (by omega)]; omega
    rw [linksGo, hW, slotsGo_eq w l fin hf _ _ _ p p (by omega) hp hp0 (by omega), hops]
    have hb := lastS_run (s := w.s) (id := w.f.id) (l := l) hp (l.loss + 1).toNat
    generalize runT w.s w.f.id l (fin - p).toNat p = T at *
    by_cases hk : (l.loss + 1).toNat ≤ T.length
    · rw [if_pos hk, if_pos hk]
      have ih := linksGo_eq w fin hf ls (lastS p (T.take (l.loss + 1).toNat)) (fun x hx => hls x (by simp [hx])) hb.2 (by omega)
      cases hh : hops w.s w.f.id fin ls (lastS p (T.take (l.loss + 1).toNat)) with
      | some L => rw [hh] at ih; simp only at ih; simp only [Option.map_some]; rw [ih]
      | none =>
        rw [hh] at ih; simp only at ih; simp only [Option.map_none]
        rw [List.length_append, List.length_take, needL]
        simp only [List.map_cons, List.sum_cons]
        unfold needL at ih; omega
    · rw [if_neg hk, if_neg hk]
      simp only [List.append_nil, List.length_take]
      rw [needL]; simp; omega
/-- The links of a route. -/
def hopsL (n : GNet) (r : List Int) : List GLink := (List.range (r.length - 1)).map fun i => ⟨gd r i, gd r (i + 1), lossLk n (gd r i) (gd r (i + 1))⟩
/-- The releases of a run. -/
def relsGo (f : GFlow) (len : Int) : Nat → Int → List Int
  | 0, _ => []
  | m + 1, rel => if rel < len then rel :: relsGo f len m (rel + f.period) else []
def rels (f : GFlow) (len : Int) : List Int := relsGo f len (len.toNat + 1) f.phase
def boundF (s : GSched) (f : GFlow) (ls : List GLink) : List Int → Int × Int × List Int → Option (Int × Int × List Int)
  | [], b => some b
  | rel :: r, b => match hops s f.id (rel + f.period) ls rel with
    | none => none
    | some L => boundF s f ls r (if lastS rel L - rel > b.1 then (lastS rel L - rel, rel, L.map fun x => x.2 - rel) else b)
theorem linkAt_eq {w : GWay} (hw : w.ok) (hm : w.more = 0) {i : Nat} (hi : i + 1 < w.r.length) : linkAt w i = ⟨gd w.r i, gd w.r (i + 1), lossLk w.n (gd w.r i) (gd w.r (i + 1))⟩ ∧ 0 ≤ (linkAt w i).loss ∧ (linkAt w i).loss ≤ 7 := by
  have h0 := hw.way i hi
  have h1 := findLk_is h0
  have h2 := findLk_lt w.n _ _ h0
  have h3 := ((netOk_of hw.chk).at h2).loss
  have e : linkAt w i = ⟨(gi w.n.links (findLk w.n (gd w.r i) (gd w.r (i + 1)))).from_, (gi w.n.links (findLk w.n (gd w.r i) (gd w.r (i + 1)))).to_, W ((gi w.n.links (findLk w.n (gd w.r i) (gd w.r (i + 1)))).loss + w.more)⟩ := rfl
  have h4 : 0 ≤ (gi w.n.links (findLk w.n (gd w.r i) (gd w.r (i + 1)))).loss ∧ (gi w.n.links (findLk w.n (gd w.r i) (gd w.r (i + 1)))).loss ≤ 7 := h3
  rw [e, h1.1, h1.2, hm, Int.add_zero, Wi (by omega)]
  exact ⟨rfl, h4⟩
theorem linksW_eq {w : GWay} (hw : w.ok) (hm : w.more = 0) : linksW w = hopsL w.n w.r ∧ ∀ l ∈ linksW w, 0 ≤ l.loss ∧ l.loss ≤ 7 := by
  constructor
  · unfold linksW hopsL
    refine List.map_congr_left fun i hi => ?_
    have := List.mem_range.1 hi
    exact (linkAt_eq hw hm (by omega)).1
  · intro l hl
    unfold linksW at hl
    obtain ⟨i, hi, rfl⟩ := List.mem_map.1 hl
    have := List.mem_range.1 hi
    exact (linkAt_eq hw hm (by omega)).2
theorem need_go : ∀ (ls : List GLink) (a : Nat), (∀ l ∈ ls, 0 ≤ l.loss ∧ l.loss ≤ 7) → a + 8 * ls.length ≤ 1000000 → ls.foldl need1 (a : Int) = ((a + needL ls : Nat) : Int)
  | [], a, _, _ => by simp [needL]
  | l :: ls, a, h, hl => by
    have h1 := h l (by simp)
    simp only [List.length_cons] at hl
    have e : need1 (a : Int) l = ((a + (l.loss + 1).toNat : Nat) : Int) := by
      unfold need1
      rw [Wi (n := l.loss + 1) (by omega), Wi (by omega)]; omega
    rw [List.foldl_cons, e, need_go ls _ (fun x hx => h x (by simp [hx])) (by omega)]
    simp only [needL, List.map_cons, List.sum_cons]; omega
theorem needW_eq {w : GWay} (hw : w.ok) (hm : w.more = 0) : needW w = (needL (linksW w) : Int) := by
  have hl : (linksW w).length ≤ 8 := by have := hw.len; simp [linksW]; omega
  have := need_go (linksW w) 0 (linksW_eq hw hm).2 (by omega)
  simpa [needW] using this
theorem hops_in {s : GSched} {id fin : Int} : ∀ (ls : List GLink) (p : Int) (L : List (GCell × Int)), hops s id fin ls p = some L → p ≤ fin → (∀ x ∈ L, p ≤ x.2 ∧ x.2 < fin) ∧ p ≤ lastS p L ∧ lastS p L ≤ fin
  | [], p, L, h, hp => by simp [hops] at h; subst h; simp [lastS]; exact hp
  | l :: ls, p, L, h, hp => by
    rw [hops] at h
    split at h
    · rename_i hk
      obtain ⟨r, hr, rfl⟩ := Option.map_eq_some_iff.1 h
      have hb := lastS_run (s := s) (id := id) (l := l) hp (l.loss + 1).toNat
      have ih := hops_in ls _ r hr hb.2
      have hx : ∀ x ∈ (runT s id l (fin - p).toNat p).take (l.loss + 1).toNat ++ r, p ≤ x.2 ∧ x.2 < fin := by
        intro x hx
        rcases List.mem_append.1 hx with hx | hx
        · have := runT_slots s id l _ p x (List.mem_of_mem_take hx)
          omega
        · have := ih.1 x hx
          omega
      refine ⟨hx, ?_⟩
      rw [lastS_append]
      omega
    · cases h
theorem lastS_getD {p : Int} {L : List (GCell × Int)} (hL : L ≠ []) (rel : Int) (hb : ∀ x ∈ L, rel ≤ x.2 ∧ x.2 < rel + 1000) : (L.map fun x => W (x.2 - rel)) = L.map (fun x => x.2 - rel) ∧
    W (gi (L.map fun x => x.2 - rel) (W (((L.map fun x => x.2 - rel).length : Int) - 1)) + 1) = lastS p L - rel ∨ L.length > 1000000 := by
  by_cases hbig : L.length > 1000000
  · exact .inr hbig
  left
  have h1 : (L.map fun x => W (x.2 - rel)) = L.map (fun x => x.2 - rel) := List.map_congr_left fun x hx => Wi (by have := hb x hx; omega)
  refine ⟨h1, ?_⟩
  have hpos : 0 < L.length := by cases L with | nil => exact absurd rfl hL | cons a b => simp
  have hlast : L.getLast? = some (L[L.length - 1]) := by rw [List.getLast?_eq_getElem?]; simp [hpos]
  have e : lastS p L = (L[L.length - 1]).2 + 1 := by unfold lastS; rw [hlast]
  have hm := hb _ (List.getElem_mem (l := L) (n := L.length - 1) (by omega))
  rw [e, List.length_map, Wi (n := (L.length : Int) - 1) (by omega)]
  have e2 : gi (L.map fun x => x.2 - rel) ((L.length : Int) - 1) = (L[L.length - 1]).2 - rel := by
    have : ((L.length : Int) - 1).toNat = L.length - 1 := by omega
    simp only [gi, List.getD, this, List.getElem?_map]
    rw [List.getElem?_eq_getElem (by omega)]; rfl
  rw [e2, Wi (by omega)]; omega
theorem release_eq {w : GWay} (hw : w.ok) (hz : w.sized) (hm : w.more = 0) {rel : Int} (hr : 0 ≤ rel ∧ rel ≤ 1000000) :
    releaseP w rel = match hops w.s w.f.id (rel + w.f.period) (hopsL w.n w.r) rel with
      | some L => (lastS rel L - rel, L.map (fun x => x.2 - rel), true)
      | none => (0, [], false) := by
  have hp := hz.per
  have e : W (rel + w.f.period) = rel + w.f.period := Wi (by omega)
  have hls := (linksW_eq hw hm).2
  have hlg := linksGo_eq w (rel + w.f.period) (by omega) (linksW w) rel (fun l hl => by have := hls l hl; omega) (by omega) (by omega)
  rw [← (linksW_eq hw hm).1]
  have hneed := needW_eq hw hm
  have hn1 := hz.need
  have hc : countsW w rel = linksGo w (rel + w.f.period) (linksW w) rel := by unfold countsW; rw [e]
  have hol : (outW w rel).length = (linksGo w (rel + w.f.period) (linksW w) rel).length := by unfold outW; rw [List.length_map, hc]
  unfold releaseP
  cases hh : hops w.s w.f.id (rel + w.f.period) (linksW w) rel with
  | none =>
    rw [hh] at hlg
    simp only at hlg
    rw [if_pos (by simp only [decide_eq_true_eq]; omega)]
  | some L =>
    rw [hh] at hlg
    simp only at hlg
    have hlen := hops_len _ _ _ hh
    have hin := hops_in _ _ _ hh (by omega)
    have hll : (linksW w).length ≤ 8 := by have := hw.len; simp [linksW]; omega
    have hnl : needL (linksW w) ≤ 1000000 := by
      have := need_go (linksW w) 0 hls (by omega)
      have key : ∀ ls : List GLink, (∀ l ∈ ls, 0 ≤ l.loss ∧ l.loss ≤ 7) → needL ls ≤ 8 * ls.length := by
        intro ls
        induction ls with
        | nil => intro _; simp [needL]
        | cons l ls ih =>
          intro h
          have h1 := h l (by simp)
          have h2 := ih fun x hx => h x (by simp [hx])
          simp only [needL, List.map_cons, List.sum_cons, List.length_cons] at h2 ⊢
          omega
      have := key _ hls
      omega
    have hlL : (linksGo w (rel + w.f.period) (linksW w) rel).length = L.length := by rw [hlg]
    rw [if_neg (by simp only [decide_eq_true_eq]; omega)]
    have hne : L ≠ [] := fun e => by subst e; simp at hlen; omega
    rcases lastS_getD (p := rel) hne rel (fun x hx => by have := hin.1 x hx; omega) with ⟨h1, h2⟩ | h
    · have ho : outW w rel = L.map fun x => x.2 - rel := by unfold outW; rw [hc, hlg]; exact h1
      rw [ho]
      exact Prod.ext h2 rfl
    · omega
theorem bound_go {w : GWay} (hw : w.ok) (hz : w.sized) (hm : w.more = 0) : ∀ (m : Nat) (rel : Int) (b : Int × Int × List Int), 0 ≤ rel → rel ≤ 10000 → boundGo w m rel b = boundF w.s w.f (hopsL w.n w.r) (relsGo w.f w.s.length m rel) b
  | 0, rel, b, _, _ => rfl
  | m + 1, rel, b, h0, h1 => by
    have hp := hz.per
    have hl := hz.len
    rw [boundGo, relsGo]
    by_cases hlt : rel < w.s.length
    · rw [if_pos (by simpa using hlt), if_pos hlt, boundF, release_eq hw hz hm ⟨h0, by omega⟩]
      cases hh : hops w.s w.f.id (rel + w.f.period) (hopsL w.n w.r) rel with
      | none => simp
      | some L =>
        simp only [Bool.not_true, Bool.false_eq_true, if_false]
        rw [show W (rel + w.f.period) = rel + w.f.period from Wi (by omega), bound_go hw hz hm m _ _ (by omega) (by omega)]
        simp only [decide_eq_true_eq]
    · rw [if_neg (by simpa using hlt), if_neg hlt, boundF]
theorem bound_eq {w : GWay} (hw : w.ok) (hz : w.sized) (hm : w.more = 0) : boundP w = match boundF w.s w.f (hopsL w.n w.r) (rels w.f w.s.length) (0, 0, []) with
    | some b => (b.1, b.2.1, b.2.2, true)
    | none => (0, 0, [], false) := by
  have hp := hz.pha
  unfold boundP rels
  have e := bound_go hw hz hm (w.s.length.toNat + 1) w.f.phase (0, 0, []) (by omega) (by omega)
  generalize boundF w.s w.f (hopsL w.n w.r) (relsGo w.f w.s.length (w.s.length.toNat + 1) w.f.phase) (0, 0, []) = o at e ⊢
  generalize boundGo w (w.s.length.toNat + 1) w.f.phase (0, 0, []) = a at e ⊢
  subst e
  cases a <;> rfl
theorem runT_add (s : GSched) (id : Int) (l : GLink) : ∀ (a b : Nat) (p : Int), runT s id l (a + b) p = runT s id l a p ++ runT s id l b (p + a)
  | 0, b, p => by simp [runT]
  | a + 1, b, p => by
    rw [show a + 1 + b = (a + b) + 1 by omega, runT, runT, runT_add s id l a b (p + 1), List.append_assoc, show p + 1 + (a : Int) = p + ((a + 1 : Nat) : Int) by omega]
theorem lastS_mem {p : Int} {L : List (GCell × Int)} (h : L ≠ []) : ∃ x ∈ L, lastS p L = x.2 + 1 := by
  unfold lastS
  cases hx : L.getLast? with
  | none => exact absurd (List.getLast?_eq_none_iff.1 hx) h
  | some x => exact ⟨x, List.mem_of_getLast? hx, rfl⟩
theorem lastS_le {s : GSched} {id : Int} {l : GLink} {p : Int} {m M k : Nat} (hM : m ≤ M) (h1 : 1 ≤ k) (hk : k ≤ (runT s id l m p).length) : lastS p ((runT s id l M p).take k) ≤ p + m := by
  obtain ⟨b, rfl⟩ : ∃ b, M = m + b := ⟨M - m, by omega⟩
  rw [runT_add, take_app_lt hk]
  have hne : (runT s id l m p).take k ≠ [] := by
    intro e
    have := congrArg List.length e
    rw [List.length_take] at this
    simp only [List.length_nil] at this; omega
  obtain ⟨x, hx, e⟩ := lastS_mem (p := p) hne
  have := runT_slots s id l m p x (List.mem_of_mem_take hx)
  omega
theorem lastS_gt {s : GSched} {id : Int} {l : GLink} {p : Int} {m M k : Nat} (hM : m ≤ M) (h1 : (runT s id l m p).length < k) (hk : k ≤ (runT s id l M p).length) : p + m < lastS p ((runT s id l M p).take k) := by
  obtain ⟨b, rfl⟩ : ∃ b, M = m + b := ⟨M - m, by omega⟩
  rw [runT_add, List.length_append] at hk
  rw [runT_add, take_app_len (Nat.le_of_lt h1), lastS_append]
  have hne : (runT s id l b (p + m)).take (k - (runT s id l m p).length) ≠ [] := by
    intro e
    have := congrArg List.length e
    rw [List.length_take] at this
    simp only [List.length_nil] at this; omega
  obtain ⟨x, hx, e⟩ := lastS_mem (p := lastS p (runT s id l m p)) hne
  have := runT_slots s id l b (p + m) x (List.mem_of_mem_take hx)
  omega
/-- From p on, link for link, there are cells enough; the last one stands ahead of e. -/
def Way (s : GSched) (id : Int) : List GLink → Int → Int → Prop
  | [], p, e => p ≤ e
  | l :: ls, p, e => ∃ a, p ≤ a ∧ (l.loss + 1).toNat ≤ (runT s id l (a - p).toNat p).length ∧ Way s id ls a e
theorem Way.le {s : GSched} {id : Int} : ∀ {ls : List GLink} {p e : Int}, Way s id ls p e → p ≤ e
  | [], p, e, h => h
  | l :: ls, p, e, ⟨a, h1, _, h3⟩ => Int.le_trans h1 h3.le
theorem Way.hops {s : GSched} {id fin : Int} : ∀ {ls : List GLink} {p p0 e : Int}, Way s id ls p e → e ≤ fin → p0 ≤ p → (∀ l ∈ ls, 0 ≤ l.loss) → ∃ L, hops s id fin ls p0 = some L ∧ lastS p0 L ≤ e
  | [], p, p0, e, h, _, hp, _ => ⟨[], rfl, by
    have h : p ≤ e := h
    simp [lastS]; omega⟩
  | l :: ls, p, p0, e, ⟨a, h1, h2, h3⟩, he, hp, hl => by
    have ha := h3.le
    have h0 := hl l (by simp)
    have h4 : (l.loss + 1).toNat ≤ (runT s id l (a - p0).toNat p0).length := by
      rw [show (a - p0).toNat = (p - p0).toNat + (a - p).toNat by omega, runT_add, List.length_append, show p0 + ((p - p0).toNat : Int) = p by omega]
      omega
    have h5 : (l.loss + 1).toNat ≤ (runT s id l (fin - p0).toNat p0).length := by
      rw [show (fin - p0).toNat = (a - p0).toNat + (fin - a).toNat by omega, runT_add, List.length_append]
      omega
    have h6 := lastS_le (s := s) (id := id) (l := l) (p := p0) (show (a - p0).toNat ≤ (fin - p0).toNat by omega) (by omega : 1 ≤ (l.loss + 1).toNat) h4
    obtain ⟨L, hL, hle⟩ := h3.hops he (show lastS p0 ((runT s id l (fin - p0).toNat p0).take (l.loss + 1).toNat) ≤ a by omega) (fun x hx => hl x (by simp [hx]))
    refine ⟨(runT s id l (fin - p0).toNat p0).take (l.loss + 1).toNat ++ L, ?_, by rw [lastS_append]; exact hle⟩
    rw [Go.Proofs.YtbaajjihhdmdpaaGreatDoor.hops, if_pos h5, hL]; rfl
theorem hops_way {s : GSched} {id fin : Int} : ∀ {ls : List GLink} {p : Int} {L : List (GCell × Int)}, hops s id fin ls p = some L → p ≤ fin → Way s id ls p (lastS p L)
  | [], p, L, h, _ => by simp [hops] at h; subst h; exact Int.le_refl _
  | l :: ls, p, L, h, hp => by
    rw [hops] at h
    split at h
    · rename_i hk
      obtain ⟨r, hr, rfl⟩ := Option.map_eq_some_iff.1 h
      have hb := lastS_run (s := s) (id := id) (l := l) hp (l.loss + 1).toNat
      refine ⟨lastS p ((runT s id l (fin - p).toNat p).take (l.loss + 1).toNat), hb.1, ?_, ?_⟩
      · rcases Nat.lt_or_ge (runT s id l (lastS p ((runT s id l (fin - p).toNat p).take (l.loss + 1).toNat) - p).toNat p).length (l.loss + 1).toNat with hlt | hge
        · have := lastS_gt (m := (lastS p ((runT s id l (fin - p).toNat p).take (l.loss + 1).toNat) - p).toNat) (by omega) hlt hk
          omega
        · exact hge
      · rw [lastS_append]
        exact hops_way hr hb.2
    · cases h
/-- Where each slot has at least as many cells, the way stands. -/
def More (s s' : GSched) (id : Int) (l : GLink) : Prop := ∀ t, (slotC s id l t).length ≤ (slotC s' id l t).length
theorem More.run {s s' : GSched} {id : Int} {l : GLink} (h : More s s' id l) : ∀ (m : Nat) (p : Int), (runT s id l m p).length ≤ (runT s' id l m p).length
  | 0, p => by simp [runT]
  | m + 1, p => by
    have := More.run h m (p + 1)
    have := h p
    simp only [runT, List.length_append, List.length_map]; omega
theorem Way.more {s s' : GSched} {id : Int} : ∀ {ls : List GLink} {p e : Int}, (∀ l ∈ ls, More s s' id l) → Way s id ls p e → Way s' id ls p e
  | [], p, e, _, h => h
  | l :: ls, p, e, hm, ⟨a, h1, h2, h3⟩ => ⟨a, h1, Nat.le_trans h2 ((hm l (by simp)).run _ _), h3.more fun x hx => hm x (by simp [hx])⟩
/-! ### bounds -/
/-- A route is served: each release has its cells, in time. -/
def Served (s : GSched) (f : GFlow) (ls : List GLink) (D : Int) : Prop := ∀ rel ∈ rels f s.length, ∃ L, hops s f.id (rel + f.period) ls rel = some L ∧ lastS rel L - rel ≤ D
theorem boundF_some {s : GSched} {f : GFlow} {ls : List GLink} : ∀ (rs : List Int) (b : Int × Int × List Int), (∃ b', boundF s f ls rs b = some b') ↔ ∀ rel ∈ rs, ∃ L, hops s f.id (rel + f.period) ls rel = some L
  | [], b => by simp [boundF]
  | rel :: rs, b => by
    rw [boundF]
    cases h : hops s f.id (rel + f.period) ls rel with
    | none =>
      simp only [List.mem_cons]
      constructor
      · rintro ⟨_, h2⟩; cases h2
      · intro k; obtain ⟨L, hL⟩ := k rel (.inl rfl); rw [h] at hL; cases hL
    | some L =>
      simp only
      rw [boundF_some rs]
      constructor
      · intro k r hr
        rcases List.mem_cons.1 hr with rfl | hr
        · exact ⟨L, h⟩
        · exact k r hr
      · intro k r hr; exact k r (by simp [hr])
theorem boundF_le {s : GSched} {f : GFlow} {ls : List GLink} {D : Int} : ∀ (rs : List Int) (b b' : Int × Int × List Int), boundF s f ls rs b = some b' → (b'.1 ≤ D ↔ b.1 ≤ D ∧ ∀ rel ∈ rs, ∀ L, hops s f.id (rel + f.period) ls rel = some L → lastS rel L - rel ≤ D)
  | [], b, b', h => by simp [boundF] at h; subst h; simp
  | rel :: rs, b, b', h => by
    rw [boundF] at h
    cases hh : hops s f.id (rel + f.period) ls rel with
    | none => rw [hh] at h; cases h
    | some L =>
      rw [hh] at h
      simp only at h
      rw [boundF_le rs _ _ h]
      constructor
      · rintro ⟨h1, h2⟩
        have h3 : b.1 ≤ D ∧ lastS rel L - rel ≤ D := by
          split at h1
          · simp only at h1; omega
          · omega
        refine ⟨h3.1, fun r hr L' hL' => ?_⟩
        rcases List.mem_cons.1 hr with rfl | hr
        · rw [hh] at hL'; injection hL' with e; subst e; exact h3.2
        · exact h2 r hr L' hL'
      · rintro ⟨h1, h2⟩
        refine ⟨?_, fun r hr L' hL' => h2 r (by simp [hr]) L' hL'⟩
        have := h2 rel (by simp) L hh
        split <;> omega
theorem served_iff {s : GSched} {f : GFlow} {ls : List GLink} {D : Int} (hD : 0 ≤ D) : Served s f ls D ↔ ∃ b, boundF s f ls (rels f s.length) (0, 0, []) = some b ∧ b.1 ≤ D := by
  constructor
  · intro h
    obtain ⟨b, hb⟩ := (boundF_some (rels f s.length) (0, 0, [])).2 fun rel hr => by obtain ⟨L, hL, _⟩ := h rel hr; exact ⟨L, hL⟩
    refine ⟨b, hb, (boundF_le _ _ _ hb).2 ⟨hD, fun rel hr L hL => ?_⟩⟩
    obtain ⟨L', hL', h2⟩ := h rel hr
    rw [hL] at hL'; injection hL' with e; subst e; exact h2
  · rintro ⟨b, hb, hD⟩ rel hr
    obtain ⟨L, hL⟩ := (boundF_some _ _).1 ⟨b, hb⟩ rel hr
    exact ⟨L, hL, ((boundF_le _ _ _ hb).1 hD).2 rel hr L hL⟩
/-- No two cells of a slot share a node, all links are good, and what shares a place can be heard. -/
structure Calm (n : GNet) (l : List GCell) : Prop where
  link : ∀ c ∈ l, goodLk n c.from_ c.to_ = true
  apart : l.Pairwise fun c d => c.slot = d.slot → touches c d = false
  calm : ∀ c ∈ l, goodCells n (l.filter (atSame c)) = true
abbrev Rising (l : List GCell) : Prop := l.Pairwise fun c d => cmpCell c d < 0
structure ValidS (n : GNet) (fl : List GFlow) (s : GSched) : Prop where
  net : netErr n = 0
  flows : (flowsP n.nodes fl).2 = 0
  sized : sized s = true
  match_ : ∀ f ∈ fl, Int.tmod s.length f.period = 0
  many : s.cells.length ≤ 512
  at_ : ∀ c ∈ s.cells, placed s c = true ∧ 0 ≤ findFl fl c.flow
  rising : Rising s.cells
  calm : Calm n s.cells
theorem touches_comm (a b : GCell) : touches a b = touches b a := by
  rw [touches_eq]; rfl
theorem cmpCell_trans {a b c : GCell} (h : cmpCell a b < 0) (k : cmpCell b c < 0) : cmpCell a c < 0 := cmpInts_trans a.nums b.nums c.nums rfl rfl h k
theorem whereP_none {f : Nat → Bool} : ∀ (m i : Nat), whereP f m i = none ↔ ∀ j, i ≤ j → j < i + m → f j = false
  | 0, i => by simp [whereP]; intro j h1 h2; omega
  | m + 1, i => by
    rw [whereP]
    by_cases h : f i = true
    · rw [if_pos h]
      simp only [reduceCtorEq, false_iff]
      intro k
      have := k i (by omega) (by omega)
      rw [h] at this; cases this
    · rw [if_neg h, whereP_none m (i + 1)]
      constructor
      · intro k j h1 h2
        by_cases e : j = i
        · subst e; simpa using h
        · exact k j (by omega) (by omega)
      · intro k j h1 h2; exact k j (by omega) (by omega)
theorem firstE_iff {f : Nat → Int} : ∀ (m i : Nat), (firstE f m i).2 = 0 ↔ ∀ j, i ≤ j → j < i + m → f j = 0
  | 0, i => by simp [firstE]; intro j h1 h2; omega
  | m + 1, i => by
    rw [firstE]
    by_cases h : f i = 0
    · rw [if_neg (by simp [h]), firstE_iff m (i + 1)]
      constructor
      · intro k j h1 h2
        by_cases e : j = i
        · subst e; exact h
        · exact k j (by omega) (by omega)
      · intro k j h1 h2; exact k j (by omega) (by omega)
    · rw [if_pos (by simpa using h)]
      constructor
      · intro k; exact absurd k h
      · intro k; exact k i (by omega) (by omega)
theorem gd_at {α : Type} [Inhabited α] {l : List α} {i : Nat} (h : i < l.length) : gd l i = l[i] := by simp [gd, List.getD, h]
/-! ### the order -/
theorem rising_iff (l : List GCell) : Rising l ↔ ∀ i, 0 < i → i < l.length → cmpCell (gd l (i - 1)) (gd l i) < 0 := by
  constructor
  · intro h i h0 h1
    have := List.pairwise_iff_getElem.1 h (i - 1) i (by omega) h1 (by omega)
    rwa [gd_at (by omega), gd_at h1]
  · intro h
    have step : ∀ q i, i + q + 1 < l.length → cmpCell (gd l i) (gd l (i + q + 1)) < 0 := by
      intro q
      induction q with
      | zero => intro i hi; have := h (i + 1) (by omega) hi; simpa using this
      | succ q ih =>
        intro i hi
        have h1 := ih i (by omega)
        have h2 := h (i + q + 1 + 1) (by omega) hi
        rw [show i + q + 1 + 1 - 1 = i + q + 1 by omega] at h2
        exact cmpCell_trans h1 h2
    refine List.pairwise_iff_getElem.2 fun i j hi hj hij => ?_
    have := step (j - i - 1) i (by omega)
    rwa [show i + (j - i - 1) + 1 = j by omega, gd_at hi, gd_at hj] at this
/-! ### cells that share a node in a slot -/
theorem inGo_iff (slot : Int) : ∀ (l : List GCell) (j k : Nat), k ∈ inGo slot l j ↔ j ≤ k ∧ k - j < l.length ∧ (gd l (k - j)).slot = slot
  | [], j, k => by simp [inGo]
  | c :: r, j, k => by
    have ih := inGo_iff slot r (j + 1) k
    have e : ∀ h : j < k, gd (c :: r) (k - j) = gd r (k - (j + 1)) := fun h => by
      rw [show k - j = k - (j + 1) + 1 by omega]; rfl
    rw [inGo]
    by_cases hc : (c.slot == slot) = true
    · rw [if_pos hc, List.mem_cons, ih]
      have hc2 : c.slot = slot := by simpa using hc
      constructor
      · rintro (rfl | ⟨h1, h2, h3⟩)
        · refine ⟨by omega, by simp, ?_⟩
          rw [Nat.sub_self]; exact hc2
        · exact ⟨by omega, by simp; omega, by rw [e (by omega)]; exact h3⟩
      · rintro ⟨h1, h2, h3⟩
        by_cases hk : k = j
        · exact .inl hk
        · rw [e (by omega)] at h3
          exact .inr ⟨by omega, by simp at h2; omega, h3⟩
    · rw [if_neg hc, ih]
      have hc2 : c.slot ≠ slot := by simpa using hc
      constructor
      · rintro ⟨h1, h2, h3⟩
        exact ⟨by omega, by simp; omega, by rw [e (by omega)]; exact h3⟩
      · rintro ⟨h1, h2, h3⟩
        have hk : k ≠ j := fun hk => by
          subst hk; rw [Nat.sub_self] at h3; exact hc2 h3
        rw [e (by omega)] at h3
        exact ⟨by omega, by simp at h2; omega, h3⟩
theorem inL_iff (s : GSched) (slot : Int) (k : Nat) : k ∈ inL s slot ↔ k < s.cells.length ∧ (gd s.cells k).slot = slot := by
  unfold inL
  rw [inGo_iff]
  simp
theorem twice_iff (s : GSched) : (∀ i, i < s.cells.length → twiceC s i = false) ↔ s.cells.Pairwise fun c d => c.slot = d.slot → touches c d = false := by
  rw [List.pairwise_iff_getElem]
  constructor
  · intro h i j hi hj hij he
    have hj2 := h j hj
    unfold twiceC at hj2
    rw [List.any_eq_false] at hj2
    have := hj2 i ((inL_iff _ _ _).2 ⟨hi, by rw [gd_at hi, gd_at hj]; exact he⟩)
    rw [gd_at hi, gd_at hj] at this
    have hb : decide ((i : Int) < (j : Int)) = true := by simp; omega
    rw [hb, Bool.true_and] at this
    rw [touches_comm]
    simpa [meetC, touches] using this
  · intro h i hi
    unfold twiceC
    rw [List.any_eq_false]
    intro k hk
    obtain ⟨h1, h2⟩ := (inL_iff _ _ _).1 hk
    by_cases hlt : k < i
    · have := h k i h1 hi hlt (by rw [← gd_at h1, ← gd_at hi]; exact h2)
      rw [← gd_at h1, ← gd_at hi, touches_comm] at this
      have this : meetC (gd s.cells i) (gd s.cells k) = false := this
      rw [this]; simp
    · have : decide ((k : Int) < (i : Int)) = false := by simp; omega
      rw [this]; simp
/-! ### what shares a place -/
theorem grp_go (s : GSched) (i : Nat) (hi : i < s.cells.length) : ∀ (l : List GCell) (j : Nat) (a : List GCell × Int), s.cells.drop j = l → (i < j → 0 ≤ a.2 ∧ a.2.toNat < a.1.length ∧ gi a.1 a.2 = gd s.cells i) → 0 ≤ a.2 →
    ((inGo (gd s.cells i).slot l j).foldl (grp1 s i) a).1 = a.1 ++ l.filter (atSame (gd s.cells i)) ∧
      (i < j ∨ j ≤ i → 0 ≤ ((inGo (gd s.cells i).slot l j).foldl (grp1 s i) a).2 ∧ ((inGo (gd s.cells i).slot l j).foldl (grp1 s i) a).2.toNat < ((inGo (gd s.cells i).slot l j).foldl (grp1 s i) a).1.length ∧
        gi ((inGo (gd s.cells i).slot l j).foldl (grp1 s i) a).1 ((inGo (gd s.cells i).slot l j).foldl (grp1 s i) a).2 = gd s.cells i)
  | [], j, a, hd, ha, h0 => by
    have hlen : s.cells.length ≤ j := List.drop_eq_nil_iff.1 hd
    refine ⟨by simp [inGo], fun _ => ?_⟩
    simpa [inGo] using ha (by omega)
  | c :: r, j, a, hd, ha, h0 => by
    have hj : j < s.cells.length := by
      have := congrArg List.length hd
      simp at this; omega
    have hc : gd s.cells j = c := by
      rw [drop_gd hj] at hd; exact (List.cons.inj hd).1
    have hr : s.cells.drop (j + 1) = r := by
      rw [drop_gd hj] at hd; exact (List.cons.inj hd).2
    rw [inGo]
    by_cases hs : (c.slot == (gd s.cells i).slot) = true
    · rw [if_pos hs, List.foldl_cons, List.filter_cons]
      have hg : grp1 s i a j = if c.offset != (gd s.cells i).offset then a else (a.1 ++ [c], if (j : Int) == (i : Int) then (a.1.length : Int) else a.2) := by
        unfold grp1; rw [hc]
      by_cases ho : (c.offset != (gd s.cells i).offset) = true
      · have hat : atSame (gd s.cells i) c = false := by
          unfold atSame; rw [hs]; simpa [bne] using ho
        rw [hg, if_pos ho, hat, if_neg (by simp)]
        have hne : i ≠ j := fun e => by subst e; rw [hc] at ho; simp at ho
        have := grp_go s i hi r (j + 1) a hr (fun h => ha (by omega)) h0
        exact ⟨this.1, fun _ => this.2 (by omega)⟩
      · have hat : atSame (gd s.cells i) c = true := by
          unfold atSame; rw [hs]; simpa [bne] using ho
        rw [hg, if_neg ho, hat, if_pos rfl]
        have key : i < j + 1 → 0 ≤ (if (j : Int) == (i : Int) then (a.1.length : Int) else a.2) ∧ (if (j : Int) == (i : Int) then (a.1.length : Int) else a.2).toNat < (a.1 ++ [c]).length ∧ gi (a.1 ++ [c]) (if (j : Int) == (i : Int) then (a.1.length : Int) else a.2) = gd s.cells i := by
          intro h
          by_cases e : j = i
          · subst e
            have hk : (if (j : Int) == (j : Int) then (a.1.length : Int) else a.2) = (a.1.length : Int) := by simp
            rw [hk]
            refine ⟨by omega, by simp, ?_⟩
            rw [hc]; simp [gi, List.getD]
          · have hk : (if (j : Int) == (i : Int) then (a.1.length : Int) else a.2) = a.2 := by rw [if_neg (by simp; omega)]
            rw [hk]
            obtain ⟨h1, h2, h3⟩ := ha (by omega)
            refine ⟨h1, by simp; omega, ?_⟩
            rw [← h3]
            simp [gi, List.getD, List.getElem?_append_left h2]
        have := grp_go s i hi r (j + 1) (a.1 ++ [c], if (j : Int) == (i : Int) then (a.1.length : Int) else a.2) hr key (by simp only; split <;> omega)
        refine ⟨?_, fun _ => this.2 (by omega)⟩
        rw [this.1]; simp
    · rw [if_neg hs, List.filter_cons]
      have hat : atSame (gd s.cells i) c = false := by
        unfold atSame; simp only [Bool.not_eq_true] at hs; rw [hs]; rfl
      rw [hat, if_neg (by simp)]
      have hne : i ≠ j := fun e => by subst e; rw [hc] at hs; simp at hs
      have := grp_go s i hi r (j + 1) a hr (fun h => ha (by omega)) h0
      exact ⟨this.1, fun _ => this.2 (by omega)⟩
theorem grp_eq (s : GSched) {i : Nat} (hi : i < s.cells.length) : (grp s i).1 = s.cells.filter (atSame (gd s.cells i)) ∧ 0 ≤ (grp s i).2 ∧ (grp s i).2.toNat < (grp s i).1.length ∧ gi (grp s i).1 (grp s i).2 = gd s.cells i := by
  have := grp_go s i hi s.cells 0 ([], 0) (by simp) (by omega) (by simp)
  unfold grp grpK inL
  refine ⟨by rw [this.1]; simp, this.2 (by omega)⟩
theorem atSame_refl (c : GCell) : atSame c c = true := by simp [atSame]
theorem atSame_eq {c d : GCell} (h : atSame c d = true) : atSame c = atSame d := by
  funext x
  unfold atSame at *
  simp only [Bool.and_eq_true, beq_iff_eq] at h
  rw [h.1, h.2]
theorem dist_erase (n : GNet) (l : List GCell) (p : Nat) (node : Int) : dist n l p node = distE n node (l.eraseIdx p) := distGo_erase n p node l 0 0 (Nat.zero_le _)
theorem goodLk_node {n : GNet} (h : NetOk n) {a b : Int} (hg : goodLk n a b = true) : isNode n a = true ∧ isNode n b = true := by
  have := h.node (goodLk_find (n := n) (a := a) (b := b) (by rw [hg]; rfl)).1
  simpa using this
/-- A cell's rest at its place: what Check asks of it. -/
theorem distb_bad {n : GNet} (hv : netErr n = 0) {s : GSched} (hg : ∀ c ∈ s.cells, goodLk n c.from_ c.to_ = true) (ha : s.cells.Pairwise fun c d => c.slot = d.slot → touches c d = false) {i : Nat} (hi : i < s.cells.length) :
    ∃ r, (s.cells.filter (atSame (gd s.cells i))).Perm (gd s.cells i :: r) ∧ distbP n s i = badE n (gd s.cells i) r := by
  obtain ⟨h1, h2, h3, h4⟩ := grp_eq s hi
  have hN := netOk_of hv
  refine ⟨(grp s i).1.eraseIdx (grp s i).2.toNat, ?_, ?_⟩
  · have := eraseIdx_perm (grp s i).1 (grp s i).2.toNat h3
    rw [show gd (grp s i).1 (grp s i).2.toNat = gd s.cells i from h4] at this
    rw [← h1]; exact this
  · have hp := eraseIdx_perm (grp s i).1 (grp s i).2.toNat h3
    rw [show gd (grp s i).1 (grp s i).2.toNat = gd s.cells i from h4] at hp
    generalize hr : (grp s i).1.eraseIdx (grp s i).2.toNat = r at hp
    have hmem : ∀ c ∈ (grp s i).1, c ∈ s.cells := fun c hc => by rw [h1] at hc; exact (List.mem_filter.1 hc).1
    have hgi := hg _ (gd_mem hi)
    have hno : r.any (touches (gd s.cells i)) = false := by
      rw [List.any_eq_false]
      intro d hd
      have hf : ((grp s i).1).Pairwise fun c d => c.slot = d.slot → touches c d = false := by rw [h1]; exact ha.filter _
      have hsym : ∀ {x y : GCell}, (x.slot = y.slot → touches x y = false) → (y.slot = x.slot → touches y x = false) := fun h e => by rw [touches_comm]; exact h e.symm
      have hf2 := (hp.pairwise_iff (R := fun c d => c.slot = d.slot → touches c d = false) hsym).1 hf
      have hm : d ∈ (grp s i).1 := hp.mem_iff.2 (by simp [hd])
      rw [h1] at hm
      have hsame := (List.mem_filter.1 hm).2
      have hslot : (gd s.cells i).slot = d.slot := by
        unfold atSame at hsame; simp only [Bool.and_eq_true, beq_iff_eq] at hsame; exact hsame.1.symm
      rw [(List.pairwise_cons.1 hf2).1 d hd hslot]; simp
    have hstr : (grp s i).1.any (strange n) = false := by
      rw [List.any_eq_false]
      intro c hc
      have := goodLk_node hN (hg c (hmem c hc))
      simp [strange, this.1, this.2]
    have hni := goodLk_node hN hgi
    have hd : ∀ node, isNode n node = true → distP n (grp s i).1 (grp s i).2 node = distE n node r := by
      intro node hnode
      have e2 : ((grp s i).2.toNat : Int) = (grp s i).2 := by omega
      unfold distP
      rw [if_neg (by simp [hv, hnode, hstr]; omega), ← hr, ← dist_erase, e2]
    unfold distbP badE
    simp only
    rw [h4, hd _ hni.1, hd _ hni.2, hgi, hno]
    simp only [Bool.not_true, Bool.false_or]
    rfl
theorem calm_iff {n : GNet} (hv : netErr n = 0) {s : GSched} (hg : ∀ c ∈ s.cells, goodLk n c.from_ c.to_ = true) (ha : s.cells.Pairwise fun c d => c.slot = d.slot → touches c d = false) :
    (∀ i, i < s.cells.length → distbP n s i = false) ↔ ∀ c ∈ s.cells, goodCells n (s.cells.filter (atSame c)) = true := by
  constructor
  · intro h c hc
    refine (good_iff _ _).2 ⟨hv, fun d r hp => ?_⟩
    have hd : d ∈ s.cells.filter (atSame c) := hp.mem_iff.2 (by simp)
    obtain ⟨hd1, hd2⟩ := List.mem_filter.1 hd
    obtain ⟨i, hi, rfl⟩ := List.getElem_of_mem hd1
    obtain ⟨r', hp', e⟩ := distb_bad hv hg ha hi
    rw [gd_at hi] at hp' e
    rw [← atSame_eq hd2] at hp'
    rw [badE_perm n _ (List.Perm.cons_inv (hp.symm.trans hp')), ← e]
    exact h i hi
  · intro h i hi
    obtain ⟨r, hp, e⟩ := distb_bad hv hg ha hi
    rw [e]
    exact ((good_iff _ _).1 (h _ (gd_mem hi))).2 _ _ hp
theorem cells_iff (n : GNet) (fl : List GFlow) (s : GSched) : (cellsP n fl s).2 = 0 ↔ (∀ c ∈ s.cells, placed s c = true ∧ goodLk n c.from_ c.to_ = true ∧ 0 ≤ findFl fl c.flow) ∧ Rising s.cells := by
  unfold cellsP
  rw [firstE_iff, rising_iff]
  have at0 : ∀ i, cellAtE n fl s i = 0 ↔ (placed s (gd s.cells i) = true ∧ goodLk n (gd s.cells i).from_ (gd s.cells i).to_ = true ∧ 0 ≤ findFl fl (gd s.cells i).flow) ∧ (0 < i → cmpCell (gd s.cells (i - 1)) (gd s.cells i) < 0) := by
    intro i
    unfold cellAtE
    generalize gd s.cells i = c
    generalize gd s.cells (i - 1) = b
    generalize findFl fl c.flow = q
    generalize cmpCell b c = m
    cases placed s c <;> cases goodLk n c.from_ c.to_ <;> by_cases hq : q < 0 <;> by_cases h0 : 0 < i <;> by_cases hm : m < 0 <;> simp [hq, h0, hm] <;> (try omega)
  constructor
  · intro h
    refine ⟨fun c hc => ?_, fun i h0 h1 => ((at0 i).1 (h i (by omega) (by omega))).2 h0⟩
    obtain ⟨i, hi, rfl⟩ := List.getElem_of_mem hc
    have := ((at0 i).1 (h i (by omega) (by omega))).1
    rwa [gd_at hi] at this
  · rintro ⟨h1, h2⟩ i _ hi
    exact (at0 i).2 ⟨h1 _ (gd_mem (by omega)), fun h0 => h2 i h0 (by omega)⟩
theorem sched_iff (n : GNet) (fl : List GFlow) (s : GSched) : (schedP n fl s).2 = 0 ↔ ValidS n fl s := by
  constructor
  · intro h
    unfold schedP at h
    split at h
    · simp at h
    rename_i h1
    split at h
    · simp at h
    rename_i h2
    split at h
    · simp at h
    rename_i h3
    split at h
    · simp at h
    rename_i h4
    split at h
    · simp at h
    rename_i h5
    split at h
    · rename_i h6; simp [h] at h6
    rename_i h6
    have hv : netErr n = 0 := by simpa using h1
    obtain ⟨hc, hr⟩ := (cells_iff n fl s).1 (by simpa using h6)
    split at h
    · simp at h
    rename_i h7
    have ha := (twice_iff s).1 fun i hi => (whereP_none _ _).1 h7 i (by omega) (by omega)
    split at h
    · simp at h
    rename_i h8
    have hg : ∀ c ∈ s.cells, goodLk n c.from_ c.to_ = true := fun c hc' => (hc c hc').2.1
    refine ⟨hv, by simpa using h2, by simpa using h3, fun f hf => ?_, by simp at h5; omega, fun c hc' => ⟨(hc c hc').1, (hc c hc').2.2⟩, hr, hg, ha, ?_⟩
    · simp only [Bool.not_eq_true, List.any_eq_false] at h4
      have := h4 f hf
      unfold mism at this
      simpa using this
    · exact (calm_iff hv hg ha).1 fun i hi => (whereP_none _ _).1 h8 i (by omega) (by omega)
  · intro h
    have h6 := (cells_iff n fl s).2 ⟨fun c hc => ⟨(h.at_ c hc).1, h.calm.link c hc, (h.at_ c hc).2⟩, h.rising⟩
    have h7 : whereP (twiceC s) s.cells.length 0 = none := (whereP_none _ _).2 fun i _ hi => (twice_iff s).2 h.calm.apart i (by omega)
    have h8 : whereP (distbP n s) s.cells.length 0 = none := (whereP_none _ _).2 fun i _ hi => (calm_iff h.net h.calm.link h.calm.apart).2 h.calm.calm i (by omega)
    have h4 : fl.any (mism s) = false := by
      rw [List.any_eq_false]
      intro f hf
      unfold mism
      simp [h.match_ f hf]
    have h5 : ¬ (decide ((s.cells.length : Int) > 512) = true) := by have := h.many; simp; omega
    unfold schedP
    rw [if_neg (by simp [h.net]), if_neg (by simp [h.flows]), if_neg (by simp [h.sized]), if_neg (by simp [h4]), if_neg h5, if_neg (by simp [h6]), h7]
    simp only
    rw [h8]
end Go.Proofs.YtbaajjihhdmdpaaGreatDoor

namespace Go.Proofs.YtbaajjihhdmdpaaGreatDoor
open Go.RowKit
set_option linter.unusedSectionVars false
set_option linter.unusedVariables false
set_option linter.unusedSimpArgs false
set_option linter.unnecessarySimpa false
set_option maxRecDepth 100000
set_option maxHeartbeats 4000000
theorem S181n (l : List Int) (hl : l.length * 8 ≤ 140737488355328) : Sound Tryz.prog 181 [.sl .no (l.map (fun x => [i64 x]))] (.sl .no (l.map (fun x => [i64 x]))) := by
  refine ex_intro mixedT T [] Tryz.func181 rfl (by rw [Tryz.ntmps181]; simp) (by kernel_rfl) ?_
  conv => whnf
  repeat' first | (refine LenG.map ?_; conv => whnf) | (refine LenG.go ?_; conv => whnf)
  refine SemG.go (Sem.nil ((T.ti 80).el 3 rfl) rfl (fun hne => ?_) (fun he b => ?_)) <;> conv => whnf
  · refine Br.F ?_; conv => whnf
    refine ⟨⟨by rw [show (tb.ti 3).bytes = 8 from rfl]; simp; omega, by simp; omega, fun y hy => by obtain ⟨x, _, rfl⟩ := List.mem_map.1 hy; exact ⟨rfl, rfl⟩⟩, ?_⟩; conv => whnf
    exact RetG.one rfl
  · obtain rfl : l = [] := by simpa using he
    refine Br.mk (fun hq => ?_) (fun hq => ?_) <;> conv => whnf
    · exact RetG.one rfl
    · refine ⟨⟨by rw [show (tb.ti 3).bytes = 8 from rfl]; simp, by simp, fun y hy => by obtain ⟨x, _, rfl⟩ := List.mem_map.1 hy; exact ⟨rfl, rfl⟩⟩, ?_⟩; conv => whnf
      exact RetG.one rfl
def addR (c : GClaim) (r : List Int) (b : Int × Int × List Int × Int) : GClaim := ⟨c.flow, c.routes ++ [r], c.bounds ++ [b.1], c.worst ++ [b.2.1], c.slots ++ [b.2.2.1]⟩
def lateR (n : GNet) (s : GSched) (f : GFlow) (r : List Int) : Bool := (routeB ⟨n, s, f, r, 0⟩).2.2.2 != 0 || decide ((routeB ⟨n, s, f, r, 0⟩).1 > f.deadline)
def claimGo (n : GNet) (s : GSched) (f : GFlow) : List (List Int) → GClaim → Option GClaim
  | [], c => some c
  | r :: rs, c => if lateR n s f r then none else claimGo n s f rs (addR c r (routeB ⟨n, s, f, r, 0⟩))
def claimP (n : GNet) (s : GSched) (x : GReq) : Option GClaim := claimGo n s x.flow x.routes ⟨x.flow.id, [], [], [], []⟩
def noClaim : GClaim := ⟨0, [], [], [], []⟩
theorem box5 {a b b' c c' d d' e e' : AV} (h1 : b = b') (h2 : c = c') (h3 : d = d') (h4 : e = e') : HO.box [a, b, c, d, e] = HO.box [a, b', c', d', e'] := by rw [h1, h2, h3, h4]
theorem S95 (n : GNet) (hn : n.ok) (s : GSched) (hs : Cn s.cells) (x : GReq) (hx : x.ok) (hxl : x.routes.length ≤ 1000) :
    Sound Tryz.prog 95 [n.v, s.v, x.v] (.tup [((claimP n s x).getD noClaim).v, .bool (claimP n s x).isSome]) := by
  obtain ⟨R, hR⟩ : ∃ R, claimP n s x = R := ⟨_, rfl⟩
  rw [hR]
  refine ex_intro mixedT T [] Tryz.func95 rfl (by rw [Tryz.ntmps95]; simp) (by kernel_rfl) ?_
  conv => whnf
  repeat' first | (refine LenG.map ?_; conv => whnf) | (refine LenG.go ?_; conv => whnf)
  repeat' first | (refine LenG.map ?_; conv => whnf) | (refine LenG.go ?_; conv => whnf)
  refine Lp.goZ T [.t 3, .t 4, .t 5, .t 6, .t 8, .c (.t 8) 1, .c (.t 8) 2, .c (.t 8) 3, .c (.t 8) 4] [.c (.t 8) 1 80, .c (.t 8) 2 3, .c (.t 8) 3 3, .c (.t 8) 4 24]
    (fun (a : Nat × GClaim) => [(3, .op 0 0), (4, .op 1 0), (5, .op 2 0), (6, .op 3 0), (8, .op 4 0), (20, rowsV x.routes), (21, i64 x.routes.length), (22, i64 a.1)])
    (fun a => [.box n.c, .box s.c, .box x.c, .box [i64 0, .sl .zero [], .sl .zero [], .sl .zero [], .sl .zero []], .box [i64 a.2.flow, .sl (.tag 5) (a.2.routes.map fun r => [intsV r]), .sl (.tag 6) (a.2.bounds.map fun r => [i64 r]), .sl (.tag 7) (a.2.worst.map fun r => [i64 r]), .sl (.tag 8) (a.2.slots.map fun r => [intsV r])], .live 80 1 a.2.routes.length, .live 3 1 a.2.bounds.length, .live 3 1 a.2.worst.length, .live 24 1 a.2.slots.length])
    (fun m a => m + a.1 = x.routes.length ∧ R = claimGo n s x.flow (x.routes.drop a.1) a.2 ∧ a.2.routes.length = a.1 ∧ a.2.bounds.length = a.1 ∧ a.2.worst.length = a.1 ∧ a.2.slots.length = a.1) x.routes.length (0, ⟨x.flow.id, [], [], [], []⟩) ⟨by simp, by rw [← hR]; rfl, rfl, rfl, rfl, rfl⟩ [.t 3, .t 4, .t 5, .t 6, .t 8, .c (.t 8) 1, .c (.t 8) 2, .c (.t 8) 3, .c (.t 8) 4] ?_ ?_
  · (conv => whnf); refine ⟨rfl, ?_, ?_⟩ <;> (conv => whnf) <;> (repeat' apply And.intro) <;> first | exact True.intro | rfl | (conv => rhs; whnf)
  rintro m ⟨i, c⟩ ⟨hm, hi, h1, h2, h3, h4⟩
  simp only at hm hi h1 h2 h3 h4 ⊢
  conv => whnf
  refine Br.mk (fun hq => ?_) (fun hq => ?_) <;> conv => whnf
  · have hlt : i < x.routes.length := by simpa using hq
    have hd : x.routes.drop i = gd x.routes i :: x.routes.drop (i + 1) := by
      rw [List.drop_eq_getElem_cons hlt]; simp [gd, List.getD, hlt]
    rw [hd, claimGo] at hi
    have hrow := hx.rows _ (gd_mem hlt)
    refine Ix.at (l := x.routes) hlt rfl ?_; conv => whnf
    generalize gd x.routes i = r at *
    refine FnG.go rfl ?_; conv => whnf
    refine CallG.go (S47 n hn s hs x.flow r hrow) ?_; conv => whnf
    have hlate : lateR n s x.flow r = ((routeB ⟨n, s, x.flow, r, 0⟩).2.2.2 != 0 || decide ((routeB ⟨n, s, x.flow, r, 0⟩).1 > x.flow.deadline)) := rfl
    rw [hlate] at hi
    clear hlate
    have hrl : (routeB ⟨n, s, x.flow, r, 0⟩).2.2.2 = 0 → r.length * 8 ≤ 140737488355328 := fun h => by
      have hc : checkW ⟨n, s, x.flow, r, 0⟩ = 0 := by
        unfold routeB at h
        split at h
        · exact h
        · rename_i h1; simpa using h1
      have := (way_ok (w := ⟨n, s, x.flow, r, 0⟩) hn (by simp) hc).1.len
      simp only at this
      omega
    generalize routeB ⟨n, s, x.flow, r, 0⟩ = b at *
    obtain ⟨b1, b2, b3, b4⟩ := b
    refine Br.mk (fun hq2 => ?_) (fun hq2 => ?_) <;> conv => whnf
    · rw [if_pos (by rw [hq2]; rfl)] at hi
      subst hi
      refine Br.T ?_; conv => whnf
      exact RetG.two rfl rfl
    · refine Br.mk (fun hq3 => ?_) (fun hq3 => ?_) <;> conv => whnf
      · rw [if_pos (by rw [hq2, hq3]; rfl)] at hi
        subst hi
        exact RetG.two rfl rfl
      · rw [if_neg (by rw [hq2, hq3]; simp)] at hi
        refine FnG.go rfl ?_; conv => whnf
        refine CallG.go (S181n r (hrl (by simpa using hq2))) ?_; conv => whnf
        iterate 4
          refine ⟨appOk (by decide) (by omega) ⟨rfl, rfl⟩, ?_⟩; conv => whnf
          refine ⟨by simp, ?_⟩; conv => whnf
        refine ⟨m - 1, (i + 1, addR c r (b1, b2, b3, b4)), by omega, ⟨by simp only; omega, hi, by simp [addR, h1], by simp [addR, h2], by simp [addR, h3], by simp [addR, h4]⟩, ?_⟩
        (conv => whnf); refine ⟨rfl, ?_, ?_⟩ <;> (conv => whnf) <;> (repeat' apply And.intro) <;> first | exact True.intro | rfl | (conv => rhs; whnf)
        · exact incr (by omega)
        · exact box5 snocV snocV snocV snocV
        all_goals exact snocH
  · have : x.routes.length ≤ i := by simpa using hq
    rw [List.drop_eq_nil_of_le this, claimGo] at hi
    subst hi
    exact RetG.two rfl rfl
theorem routesP_ok {n : GNet} {x : GReq} (h : routesP n x = 0) : 1 ≤ x.routes.length ∧ x.routes.length ≤ 2 ∧ ∀ r ∈ x.routes, checkR n x.flow.from_ x.flow.to_ r = 0 := by
  unfold routesP at h
  split at h
  · cases h
  split at h
  · cases h
  split at h
  · rename_i h1; rw [h] at h1; cases h1
  rename_i h1 h2 h3
  have h3 : scan (routeAt n x) x.routes.length 0 = 0 := by simpa using h3
  have h3 := (scan_zero _ _).1 h3
  simp at h2
  refine ⟨?_, by omega, fun r hr => ?_⟩
  · rcases Nat.eq_zero_or_pos x.routes.length with h0 | h0
    · rw [h0] at h1; simp at h1
    · exact h0
  · obtain ⟨i, hi, rfl⟩ := List.getElem_of_mem hr
    have := h3 i (by omega) (by omega)
    have e : gd x.routes i = x.routes[i] := by simp [gd, List.getD, hi]
    unfold routeAt at this
    rw [e] at this; exact this
theorem reqsP_ok {n : GNet} {q : List GReq} (h : ((reqsP n q).2 != 0) = false) : netErr n = 0 ∧ ((flowsP n.nodes (flowsOf q)).2 != 0) = false ∧ ∀ x ∈ q, routesP n x = 0 := by
  unfold reqsP at h
  split at h
  · simp at h
  split at h
  · rename_i h1; rw [h1] at h; cases h
  rename_i h1 h2
  refine ⟨by simpa using h1, by simpa using h2, fun x hx => ?_⟩
  obtain ⟨i, hi, rfl⟩ := List.getElem_of_mem hx
  have hz := firstE_ok _ _ (by simpa using h) i (by omega) (by omega)
  have e : gd q i = q[i] := by simp [gd, List.getD, hi]
  unfold reqAt at hz
  rw [e] at hz; exact hz
def makeGo (n : GNet) (s : GSched) : List GReq → Nat → List GClaim → List GClaim × Int × Int
  | [], _, out => (out, -1, 0)
  | x :: r, i, out => match claimP n s x with
    | none => ([], (i : Int), 15)
    | some c => makeGo n s r (i + 1) (out ++ [c])
def makeP (n : GNet) (q : List GReq) (s : GSched) : List GClaim × Int × Int :=
  if (reqsP n q).2 != 0 then ([], (reqsP n q).1, (reqsP n q).2) else if (schedP n (flowsOf q) s).2 != 0 then ([], -1, 1) else makeGo n s q 0 []
theorem S30 (n : GNet) (hn : n.ok) (q : List GReq) (hql : q.length ≤ 1000000) (hx : ∀ x ∈ q, x.ok) (s : GSched) (hs : s.cells.length ≤ 1000000) :
    Sound Tryz.prog 30 [n.v, reqsV q, s.v] (.tup [claimsV (makeP n q s).1, i64 (makeP n q s).2.1, i64 (makeP n q s).2.2]) := by
  have hfl : Cn (flowsOf q) := by unfold flowsOf; simp; omega
  have hsC : Cn s.cells := by show s.cells.length < _; omega
  refine ex_intro mixedT T [] Tryz.func30 rfl (by rw [Tryz.ntmps30]; simp) (by kernel_rfl) ?_
  conv => whnf
  repeat' first | (refine LenG.map ?_; conv => whnf) | (refine LenG.go ?_; conv => whnf)
  refine FnG.go rfl ?_; conv => whnf
  refine CallG.go (S93 n hn q (by omega) hx) ?_; conv => whnf
  refine Br.mk (fun hq => ?_) (fun hq => ?_) <;> conv => whnf
  · have hR : makeP n q s = ([], (reqsP n q).1, (reqsP n q).2) := by unfold makeP; rw [if_pos hq]
    rw [hR]; exact RetG.three rfl rfl rfl
  obtain ⟨hv, hf, hro⟩ := reqsP_ok hq
  refine FnG.go rfl ?_; conv => whnf
  refine CallG.go (S94 q (by omega)) ?_; conv => whnf
  refine FnG.go rfl ?_; conv => whnf
  refine CallG.go (S49 n hn (flowsOf q) hfl s hs) ?_; conv => whnf
  refine Br.mk (fun hq2 => ?_) (fun hq2 => ?_) <;> conv => whnf
  · have hR : makeP n q s = ([], -1, 1) := by unfold makeP; rw [if_neg (by rw [hq]; simp), if_pos hq2]
    rw [hR]; exact RetG.three rfl rfl rfl
  have hR : makeP n q s = makeGo n s q 0 [] := by unfold makeP; rw [if_neg (by rw [hq]; simp), if_neg (by rw [hq2]; simp)]
  rw [hR]
  clear hR
  generalize hRR : makeGo n s q 0 [] = R
  repeat' first | (refine LenG.map ?_; conv => whnf) | (refine LenG.go ?_; conv => whnf)
  refine Lp.goZ T [.t 3, .t 5, .t 13] [.t 13 64] (fun (a : Nat × List GClaim) => [(3, .op 0 0), (5, .op 1 0), (13, .sl (.tag 2) (a.2.map GClaim.c)), (38, reqsV q), (39, i64 q.length), (40, i64 a.1)]) (fun a => [.box n.c, .box s.c, .live 64 5 a.2.length])
    (fun m a => m + a.1 = q.length ∧ R = makeGo n s (q.drop a.1) a.1 a.2 ∧ a.2.length = a.1) q.length (0, []) ⟨by simp, hRR.symm, rfl⟩ [.t 3, .t 5, .t 13] ?_ ?_
  · (conv => whnf); refine ⟨rfl, ?_, ?_⟩ <;> (conv => whnf) <;> (repeat' apply And.intro) <;> first | exact True.intro | rfl | (conv => rhs; whnf)
  rintro m ⟨i, out⟩ ⟨hm, hi, ho⟩
  simp only at hm hi ho ⊢
  conv => whnf
  refine Br.mk (fun hq => ?_) (fun hq => ?_) <;> conv => whnf
  · have hlt : i < q.length := by simpa using hq
    have hd : q.drop i = gd q i :: q.drop (i + 1) := by
      rw [List.drop_eq_getElem_cons hlt]; simp [gd, List.getD, hlt]
    rw [hd, makeGo] at hi
    have hxo := hx _ (gd_mem hlt)
    have hxr := routesP_ok (hro _ (gd_mem hlt))
    refine Ix.at (l := q) hlt rfl ?_; conv => whnf
    generalize gd q i = x at *
    refine FnG.go rfl ?_; conv => whnf
    refine CallG.go (S95 n hn s hsC x hxo (by omega)) ?_; conv => whnf
    cases hc : claimP n s x with
    | none =>
      rw [hc] at hi
      refine Br.T ?_; conv => whnf
      rw [hi]
      exact RetG.three rfl rfl rfl
    | some c =>
      rw [hc] at hi
      refine Br.F ?_; conv => whnf
      refine ⟨appOk (by decide) (by omega) ⟨rfl, rfl⟩, ?_⟩; conv => whnf
      refine ⟨by simp, ?_⟩; conv => whnf
      refine ⟨m - 1, (i + 1, out ++ [c]), by omega, ⟨by simp only; omega, hi, by simp [ho]⟩, ?_⟩
      (conv => whnf); refine ⟨rfl, ?_, ?_⟩ <;> (conv => whnf) <;> (repeat' apply And.intro) <;> first | exact True.intro | rfl | (conv => rhs; whnf)
      · exact snocV
      · exact incr (by omega)
      · exact snocH
  · have : q.length ≤ i := by simpa using hq
    rw [List.drop_eq_nil_of_le this, makeGo] at hi
    rw [hi]
    exact RetG.three rfl rfl rfl
def hasC (l : GLink) (id slot : Int) (c : GCell) : Bool := c.slot == slot && c.from_ == l.from_ && c.to_ == l.to_ && c.flow == id
theorem S313 (l : GLink) (id slot : Int) (c : GCell) : Sound Tryz.prog 313 [c.v, .rp [i64 slot], .rp l.c, .rp [i64 id]] (.bool (hasC l id slot c)) := by
  refine ex_intro mixedT T [] Tryz.func313 rfl (by rw [Tryz.ntmps313]; simp) (by kernel_rfl) ?_
  conv => whnf
  repeat' first | (refine LenG.map ?_; conv => whnf) | (refine LenG.go ?_; conv => whnf)
  repeat' first
    | (refine Br.T ?_; conv => whnf)
    | (refine Br.F ?_; conv => whnf)
    | (refine Br.mk (fun hq => ?_) (fun hq => ?_) <;> conv => whnf)
    | (refine FnG.go rfl ?_; conv => whnf)
    | (refine LenG.map ?_; conv => whnf)
    | (refine LenG.go ?_; conv => whnf)
  all_goals (refine RetG.one ?_; simp only [ret1, hasC, *, Bool.true_or, Bool.false_or, Bool.or_true, Bool.or_false, Bool.true_and, Bool.false_and, Bool.and_true, Bool.and_false, Bool.not_true, Bool.not_false, if_true, if_false, Bool.false_eq_true, reduceIte])
theorem S290 (n : GNet) (s : GSched) (hs : Cn s.cells) (l : GLink) (id slot : Int) : Sound Tryz.prog 290 [.ag (n.c ++ s.c), l.v, i64 id, i64 slot] (.bool (s.cells.any (hasC l id slot))) := by
  refine ex_intro mixedT T [] Tryz.func290 rfl (by rw [Tryz.ntmps290]; simp) (by kernel_rfl) ?_
  conv => whnf
  repeat' first | (refine LenG.map ?_; conv => whnf) | (refine LenG.go ?_; conv => whnf)
  repeat' first
    | (refine Br.T ?_; conv => whnf)
    | (refine Br.F ?_; conv => whnf)
    | (refine Br.mk (fun hq => ?_) (fun hq => ?_) <;> conv => whnf)
    | (refine FnG.go rfl ?_; conv => whnf)
    | (refine LenG.map ?_; conv => whnf)
    | (refine LenG.go ?_; conv => whnf)
    | (refine CallG.go (S32_3 rfl [i64 slot] l.c [i64 id] s.cells (hasC l id slot) (fun c _ => S313 l id slot c) hs) ?_; conv => whnf)
  exact RetG.one rfl
theorem bsGo_le (f : Nat → Bool) (lo hi : Nat) (h : lo ≤ hi) : bsGo f lo hi ≤ hi := by
  fun_induction bsGo f lo hi with
  | case1 lo hi h1 h2 ih => exact ih (by omega)
  | case2 lo hi h1 h2 ih => have := ih (by omega); omega
  | case3 lo hi h1 => omega
theorem bsI_le {α : Type} [Inhabited α] (c : α → Int) (l : List α) : bsI c l ≤ l.length := bsGo_le _ _ _ (Nat.zero_le _)
def insC (l : List GCell) (c : GCell) : List GCell := l.take (bsI (fun y => cmpCell y c) l) ++ c :: l.drop (bsI (fun y => cmpCell y c) l)
def slotP (n : GNet) (s : GSched) (l : GLink) (id slot : Int) : GSched × Bool :=
  if s.cells.any (hasC l id slot) then (s, true) else match offsL n s l slot with
    | [] => (s, false)
    | o :: _ => (⟨s.length, s.offsets, insC s.cells ⟨slot, o, l.from_, l.to_, id⟩⟩, true)
theorem S244 (n : GNet) (hn : n.ok) (s : GSched) (hs : s.cells.length ≤ 1000000) (ho : s.offsets ≤ 1000000) (l : GLink) (id slot : Int) :
    Sound Tryz.prog 244 [.ag (n.c ++ s.c), l.v, i64 id, i64 slot] (.tup [.ag (n.c ++ (slotP n s l id slot).1.c), .bool (slotP n s l id slot).2]) := by
  have hsC : Cn s.cells := by show s.cells.length < _; omega
  refine ex_intro mixedT T [cutX 7 7] Tryz.func244 rfl (by rw [Tryz.ntmps244]; simp) (by kernel_rfl) ?_
  conv => whnf
  repeat' first | (refine LenG.map ?_; conv => whnf) | (refine LenG.go ?_; conv => whnf)
  refine FnG.go rfl ?_; conv => whnf
  refine CallG.go (S290 n s hsC l id slot) ?_; conv => whnf
  refine Br.mk (fun hq => ?_) (fun hq => ?_) <;> conv => whnf
  · have hR : slotP n s l id slot = (s, true) := by unfold slotP; rw [if_pos hq]
    rw [hR]; exact RetG.two rfl rfl
  have hR : slotP n s l id slot = match offsL n s l slot with
    | [] => (s, false)
    | o :: _ => (⟨s.length, s.offsets, insC s.cells ⟨slot, o, l.from_, l.to_, id⟩⟩, true) := by unfold slotP; rw [if_neg (by rw [hq]; simp)]
  rw [hR]
  clear hR
  refine FnG.go rfl ?_; conv => whnf
  refine CallG.go (S75 n s l slot) ?_; conv => whnf
  refine RfG.go T rfl rfl (I163 n hn s hs ho l slot) (by simp [natsV]) rfl [.t 4, .t 5, .t 6, .t 7, .t 8, .t 9]
    (fun (_ : Unit) => [(4, .op 0 0), (5, .op 1 0), (6, .op 2 0), (7, .op 3 0), (8, .op 4 0), (9, .op 5 0)])
    (fun _ => [.box (n.c ++ s.c), .box l.c, .box [i64 id], .box [i64 slot], .box [i64 0, .sl .zero [], i64 0, i64 0, .sl .zero [], .sl .zero [], i64 0, i64 0, .sl .zero []], .box [.bool false]]) (fun _ => .off)
    (fun j _ => j = 0) () rfl [.t 4, .t 5, .t 6, .t 7, .t 8, .t 9] ?_ ?_ ?_
  · (conv => whnf); refine ⟨rfl, ?_, ?_, ?_, ?_⟩ <;> (conv => whnf) <;> (repeat' apply And.intro) <;> first | exact True.intro | rfl | (conv => rhs; whnf)
  · rintro _ _ x rfl hx
    rw [List.getElem?_map] at hx
    obtain ⟨o, hoo, rfl⟩ := Option.map_eq_some_iff.1 hx
    cases he : offsL n s l slot with
    | nil => rw [he] at hoo; cases hoo
    | cons o' r =>
      rw [he] at hoo
      obtain rfl : o' = o := by simpa using hoo
      conv => whnf
      refine FnG.go rfl ?_; conv => whnf
      refine CallG.go (S109 (g := 102) rfl s.cells ⟨slot, o', l.from_, l.to_, id⟩ (fun y => cmpCell y ⟨slot, o', l.from_, l.to_, id⟩) (fun y _ => S102 y _) hsC) ?_; conv => whnf
      refine Nd.go (by kernel_rfl) ?_; conv => whnf
      refine FnG.go rfl ?_; conv => whnf
      refine CallG.go (S80f s.cells (by omega)) ?_; conv => whnf
      have hb := bsI_le (fun y => cmpCell y ⟨slot, o', l.from_, l.to_, id⟩) s.cells
      have hins : insC s.cells ⟨slot, o', l.from_, l.to_, id⟩ = s.cells.take (bsI (fun y => cmpCell y ⟨slot, o', l.from_, l.to_, id⟩) s.cells) ++ ⟨slot, o', l.from_, l.to_, id⟩ :: s.cells.drop (bsI (fun y => cmpCell y ⟨slot, o', l.from_, l.to_, id⟩) s.cells) := rfl
      simp only [hins]
      generalize bsI (fun y => cmpCell y ⟨slot, o', l.from_, l.to_, id⟩) s.cells = p at *
      refine SemG.go (Sem.cons (kill := some _) (e := 61) (sz := 5) (xs := s.cells.map GCell.c) (rest := [.tmp 45, .tmp 47]) rfl rfl ⟨rfl, rfl⟩ (by kernel_rfl) (by decide) rfl (fnOk rfl) (D111 s.cells p ⟨slot, o', l.from_, l.to_, id⟩ hb (by omega)) ?_)
      conv => whnf
      exact RetG.two rfl rfl
  · rintro _ h0
    have he : offsL n s l slot = [] := by simpa [natsV] using h0
    rw [he]
    conv => whnf
    exact RetG.two rfl rfl
theorem insC_len (l : List GCell) (c : GCell) : (insC l c).length = l.length + 1 := by
  have := bsI_le (fun y => cmpCell y c) l
  simp only [insC, List.length_append, List.length_take, List.length_cons, List.length_drop]
  omega
theorem slotP_len (n : GNet) (s : GSched) (l : GLink) (id slot : Int) : (slotP n s l id slot).1.length = s.length ∧ (slotP n s l id slot).1.offsets = s.offsets ∧ (slotP n s l id slot).1.cells.length ≤ s.cells.length + 1 := by
  unfold slotP
  split
  · exact ⟨rfl, rfl, Nat.le_succ _⟩
  · split
    · exact ⟨rfl, rfl, Nat.le_succ _⟩
    · exact ⟨rfl, rfl, Nat.le_of_eq (insC_len _ _)⟩
/-- The slots of a link, from at on: what is placed, what is left, where it ends. -/
def fillGo (n : GNet) (l : GLink) (id fin : Int) : Nat → GSched → Int → Int → GSched × Int × Int
  | 0, s, left, p => (s, left, p)
  | m + 1, s, left, p => if decide (left > 0) && decide (p < fin) then
      fillGo n l id fin m (slotP n s l id (Int.tmod p s.length)).1 (if (slotP n s l id (Int.tmod p s.length)).2 then W (left - 1) else left) (W (p + 1))
    else (s, left, p)
def fillP (n : GNet) (l : GLink) (id fin : Int) (s : GSched) (p : Int) : GSched × Int × Int := fillGo n l id fin ((fin - p).toNat + 1) s (W (l.loss + 1)) p
def hopL (n : GNet) (r : List Int) (i : Nat) : GLink := gi n.links (findLk n (gd r i) (gd r (i + 1)))
/-- The hops from i on. -/
def relGo (n : GNet) (id fin : Int) (r : List Int) : Nat → Nat → GSched → Int → GSched × Bool
  | 0, _, s, _ => (s, true)
  | m + 1, i, s, p => let q := fillP n (hopL n r i) id fin s p
    if decide (q.2.1 > 0) then (q.1, false) else relGo n id fin r m (i + 1) q.1 q.2.2
def relP (n : GNet) (s : GSched) (f : GFlow) (r : List Int) (p : Int) : GSched × Bool := relGo n f.id (W (p + f.deadline)) r (r.length - 1) 0 s p
theorem fillGo_len (n : GNet) (l : GLink) (id fin : Int) (hf : fin ≤ 1000000) : ∀ (m : Nat) (s : GSched) (left p : Int), 0 ≤ p → p ≤ fin → (fillGo n l id fin m s left p).1.length = s.length ∧ (fillGo n l id fin m s left p).1.offsets = s.offsets ∧ p ≤ (fillGo n l id fin m s left p).2.2 ∧ (fillGo n l id fin m s left p).2.2 ≤ fin ∧
    ((fillGo n l id fin m s left p).1.cells.length : Int) ≤ s.cells.length + ((fillGo n l id fin m s left p).2.2 - p)
  | 0, s, left, p, h0, h1 => ⟨rfl, rfl, by simp [fillGo], h1, by simp [fillGo]⟩
  | m + 1, s, left, p, h0, h1 => by
    rw [fillGo]
    split
    · rename_i h
      have h2 : p < fin := by simp at h; exact h.2
      have hW : W (p + 1) = p + 1 := w64 (by omega)
      rw [hW]
      obtain ⟨e1, e2, e3⟩ := slotP_len n s l id (Int.tmod p s.length)
      obtain ⟨f1, f2, f3, f4, f5⟩ := fillGo_len n l id fin hf m (slotP n s l id (Int.tmod p s.length)).1 (if (slotP n s l id (Int.tmod p s.length)).2 then W (left - 1) else left) (p + 1) (by omega) (by omega)
      exact ⟨f1.trans e1, f2.trans e2, by omega, f4, by omega⟩
    · exact ⟨rfl, rfl, by simp, h1, by simp⟩
theorem S176 (n : GNet) (hn : n.ok) (hv : netErr n = 0) (s : GSched) (hs : s.cells.length ≤ 900000) (hl : s.length ≠ 0) (ho : s.offsets ≤ 1000000) (f : GFlow) (hd : 0 ≤ f.deadline ∧ f.deadline ≤ 10000) (r : List Int) (hr : r.length ≤ 9)
    (hw : ∀ i, i + 1 < r.length → 0 ≤ findLk n (gd r i) (gd r (i + 1))) (p : Int) (hp : 0 ≤ p ∧ p ≤ 100000) :
    Sound Tryz.prog 176 [.ag (n.c ++ s.c), f.v, .sl .no (r.map fun x => [i64 x]), i64 p] (.tup [.ag (n.c ++ (relP n s f r p).1.c), .bool (relP n s f r p).2]) := by
  obtain ⟨R, hR⟩ : ∃ R, relP n s f r p = R := ⟨_, rfl⟩
  rw [hR]
  obtain ⟨fin, hfin⟩ : ∃ fin, W (p + f.deadline) = fin := ⟨_, rfl⟩
  have hfin2 : fin = p + f.deadline := by rw [← hfin]; exact w64 (by omega)
  unfold relP at hR
  rw [hfin] at hR
  refine ex_intro mixedT T [] Tryz.func176 rfl (by rw [Tryz.ntmps176]; simp) (by kernel_rfl) ?_
  conv => whnf
  repeat' first | (refine LenG.map ?_; conv => whnf) | (refine LenG.go ?_; conv => whnf)
  refine Lp.go T [.t 4, .t 5, .t 8] (fun (a : Nat × GSched × Int) => [(2, .sl .no (r.map fun x => [i64 x])), (3, i64 a.2.2), (4, .op 0 0), (5, .op 1 0), (8, .op 2 0), (10, i64 fin), (11, i64 ((a.1 + 1 : Nat) : Int))])
    (fun a => [.box (n.c ++ a.2.1.c), .box f.c, .box [i64 0, .sl .zero [], i64 0, i64 0, .sl .zero [], .sl .zero [], i64 0, i64 0, .sl .zero []]])
    (fun m a => m + a.1 = r.length ∧ R = relGo n f.id fin r (r.length - 1 - a.1) a.1 a.2.1 a.2.2 ∧ a.2.1.length = s.length ∧ a.2.1.offsets = s.offsets ∧ p ≤ a.2.2 ∧ a.2.2 ≤ fin ∧ (a.2.1.cells.length : Int) ≤ s.cells.length + (a.2.2 - p)) r.length (0, s, p) ⟨by simp, hR.symm, rfl, rfl, by simp, by simp; omega, by simp⟩ [.t 4, .t 5, .t 8] ?_ ?_
  · (conv => whnf); refine ⟨rfl, ?_, ?_⟩ <;> (conv => whnf) <;> (repeat' apply And.intro) <;> first | exact True.intro | rfl | (conv => rhs; whnf)
    all_goals (rw [← hfin]; try rfl)
  rintro m ⟨i, s', p'⟩ ⟨hm, hi, hl2, ho2, hp1, hp2, hc⟩
  simp only at hm hi hl2 ho2 hp1 hp2 hc ⊢
  conv => whnf
  repeat' first | (refine LenG.map ?_; conv => whnf) | (refine LenG.go ?_; conv => whnf)
  refine Br.mk (fun hq => ?_) (fun hq => ?_) <;> conv => whnf
  · have hlt : i + 1 < r.length := by have := of_decide_eq_true hq; omega
    have hfl := hw i hlt
    have hfb := findLk_lt n (gd r i) (gd r (i + 1)) hfl
    rw [show r.length - 1 - i = (r.length - 1 - (i + 1)) + 1 by omega, relGo] at hi
    refine Ix.pred (l := r) (i := i + 1) (by omega) (by omega) (by show r.length < _; omega) rfl ?_; conv => whnf
    refine Ix.at (l := r) hlt rfl ?_; conv => whnf
    refine FnG.go rfl ?_; conv => whnf
    refine CallG.go (S74v n hn hv _ _) ?_; conv => whnf
    refine Ix.int (l := n.links) ⟨hfl, hfb⟩ rfl ?_; conv => whnf
    obtain ⟨L, hL⟩ : ∃ L, hopL n r i = L := ⟨_, rfl⟩
    rw [hL] at hi
    obtain ⟨Q, hQ⟩ : ∃ Q, fillP n L f.id fin s' p' = Q := ⟨_, rfl⟩
    rw [hQ] at hi
    unfold fillP at hQ
    refine Lp.go T [.t 4, .t 5, .t 8, .t 12] (fun (a : Nat × GSched × Int × Int) => [(2, .sl .no (r.map fun x => [i64 x])), (3, i64 a.2.2.2), (4, .op 0 0), (5, .op 1 0), (8, .op 2 0), (10, i64 fin), (11, i64 ((i + 1 : Nat) : Int)), (12, .op 3 0), (13, i64 a.2.2.1)])
      (fun a => [.box (n.c ++ a.2.1.c), .box f.c, .box [i64 0, .sl .zero [], i64 0, i64 0, .sl .zero [], .sl .zero [], i64 0, i64 0, .sl .zero []], .box L.c])
      (fun m a => a.1 = m ∧ Q = fillGo n L f.id fin a.1 a.2.1 a.2.2.1 a.2.2.2 ∧ a.2.2.2 + m = fin + 1 ∧ a.2.1.length = s.length ∧ a.2.1.offsets = s.offsets ∧ p ≤ a.2.2.2 ∧ a.2.2.2 ≤ fin ∧ (a.2.1.cells.length : Int) ≤ s.cells.length + (a.2.2.2 - p)) ((fin - p').toNat + 1) ((fin - p').toNat + 1, s', W (L.loss + 1), p') ⟨rfl, hQ.symm, by simp; omega, hl2, ho2, hp1, hp2, hc⟩ [.t 4, .t 5, .t 8, .t 12] ?_ ?_
    · (conv => whnf); refine ⟨rfl, ?_, ?_⟩ <;> (conv => whnf) <;> (repeat' apply And.intro) <;> first | exact True.intro | rfl | (conv => rhs; whnf)
      all_goals (rw [← hL]; try rfl)
    rintro _ ⟨k, s2, left, p2⟩ ⟨rfl, hq2, hk, hl3, ho3, hp3, hp4, hc2⟩
    simp only at hq2 hk hl3 ho3 hp3 hp4 hc2 ⊢
    obtain ⟨k, rfl⟩ : ∃ q, k = q + 1 := ⟨k - 1, by omega⟩
    rw [fillGo] at hq2
    have hW : W (p2 + 1) = p2 + 1 := w64 (by omega)
    conv => whnf
    have fin1 : (decide (left > 0) && decide (p2 < fin)) = false → Q = (s2, left, p2) := fun h => by rw [hq2, if_neg (by rw [h]; simp)]
    have done : decide (left > 0) = true → Q = (s2, left, p2) → R = (s2, false) := fun h1 h2 => by rw [hi, h2]; simp only; rw [if_pos h1]
    have more : decide (left > 0) = false → Q = (s2, left, p2) → R = relGo n f.id fin r (r.length - 1 - (i + 1)) (i + 1) s2 p2 := fun h1 h2 => by rw [hi, h2]; simp only; rw [if_neg (by rw [h1]; simp)]
    refine Br.mk (fun hqa => ?_) (fun hqa => ?_) <;> conv => whnf
    · refine Br.mk (fun hqb => ?_) (fun hqb => ?_) <;> conv => whnf
      · rw [if_pos (by rw [hqa, hqb]; rfl)] at hq2
        have hlt2 : p2 < fin := by simpa using hqb
        refine Nd.go (by rw [hl3]; exact hl) ?_; conv => whnf
        refine FnG.go rfl ?_; conv => whnf
        refine CallG.go (S244 n hn s2 (by omega) (by omega) L f.id (Int.tmod p2 s2.length)) ?_; conv => whnf
        obtain ⟨e1, e2, e3⟩ := slotP_len n s2 L f.id (Int.tmod p2 s2.length)
        generalize slotP n s2 L f.id (Int.tmod p2 s2.length) = S at *
        obtain ⟨s3, b⟩ := S
        simp only at e1 e2 e3 hq2
        refine Br.mk (fun hqc => ?_) (fun hqc => ?_) <;> conv => whnf
        · have hqc : b = true := hqc
          subst hqc
          refine ⟨k, (k, s3, W (left - 1), W (p2 + 1)), by omega, ⟨rfl, hq2, by simp only [hW]; omega, by simp only; omega, by simp only; omega, by simp only [hW]; omega, by simp only [hW]; omega, by simp only [hW]; omega⟩, ?_⟩
          (conv => whnf); refine ⟨rfl, ?_, ?_⟩ <;> (conv => whnf) <;> (repeat' apply And.intro) <;> first | exact True.intro | rfl | (conv => rhs; whnf)
        · have hqc : b = false := hqc
          subst hqc
          refine ⟨k, (k, s3, left, W (p2 + 1)), by omega, ⟨rfl, hq2, by simp only [hW]; omega, by simp only; omega, by simp only; omega, by simp only [hW]; omega, by simp only [hW]; omega, by simp only [hW]; omega⟩, ?_⟩
          (conv => whnf); refine ⟨rfl, ?_, ?_⟩ <;> (conv => whnf) <;> (repeat' apply And.intro) <;> first | exact True.intro | rfl | (conv => rhs; whnf)
      · have h2 := fin1 (by rw [hqa, hqb]; rfl)
        refine Br.mk (fun hqd => ?_) (fun hqd => ?_) <;> conv => whnf
        · rw [done hqa h2]
          exact RetG.two rfl rfl
        · rw [hqa] at hqd; cases hqd
    · have h2 := fin1 (by rw [hqa]; rfl)
      repeat' first | (refine Br.T ?_; conv => whnf) | (refine Br.F ?_; conv => whnf)
      refine Br.mk (fun hqd => ?_) (fun hqd => ?_) <;> conv => whnf
      · rw [hqa] at hqd; cases hqd
      · refine ⟨m - 1, (i + 1, s2, p2), by omega, ⟨by simp only; omega, more hqa h2, hl3, ho3, hp3, hp4, hc2⟩, ?_⟩
        (conv => whnf); refine ⟨rfl, ?_, ?_⟩ <;> (conv => whnf) <;> (repeat' apply And.intro) <;> first | exact True.intro | rfl | (conv => rhs; whnf)
        exact incr (by omega)
  · have : r.length ≤ i + 1 := by have := of_decide_eq_false hq; omega
    rw [show r.length - 1 - i = 0 by omega, relGo] at hi
    rw [hi]
    exact RetG.two rfl rfl
end Go.Proofs.YtbaajjihhdmdpaaGreatDoor
