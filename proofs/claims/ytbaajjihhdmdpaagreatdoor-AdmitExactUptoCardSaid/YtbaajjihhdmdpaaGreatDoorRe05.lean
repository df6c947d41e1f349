/- A slice into an own box is lent for a call. · slices.DeleteFunc on an own slice of cells. · slices.Compact on own slices. · slices.SortFunc on own slices, by the kit's contract. · The program's orders; its lists sorted. · slices.Insert on own slices. · MADE BY PROGRAM (wip/gen/lib4.py): slices.Insert on own slices of requests. No condition. -/
import Derived.Test.YtbaajjihhdmdpaaGreatDoorRe04
import Derived.Shelf.SlSortCmp.NoneTotal
import Derived.Shelf.SlGeneric
import Derived.Ground.SlsfProg

namespace Go.Proofs.YtbaajjihhdmdpaaGreatDoor
open Go.RowKit
set_option linter.unusedVariables false
set_option linter.unusedSimpArgs false
set_option linter.unnecessarySimpa false
set_option linter.unusedSectionVars false
variable [Lax]
/-- Values that lean on no memory. -/
def scalV : AV → Bool
  | .int _ _ => true
  | .bool _ => true
  | _ => false
theorem scalV_rep {S S' : Nat → Nat → Prop} {W W' : World} {r : AV} {u : Value} (hs : scalV r = true) (hr : Rep S W r u) : Rep S' W' r u := by
  cases hr <;> first | exact Rep.int _ _ | exact Rep.bool _ | cases hs
section
variable {P : Program} {C : Ctx} {h : AHeap} {W : World} {B : Nat}
variable {i : Nat} {o : Oper} {a : Act} {t : Nat → AV} {next : Act → World → Prop} {Q : Exit → Act → World → Prop} {K : AV → AHeap → Prop}
theorem Sem.lend {f x : Operand} {rest : List Operand} {args : Array Operand} {ts : Array TypeId} {g : FuncId} {id lo n c sz : Nat} {R xs : List (List AV)} {az : List AV} {ids : List Nat} {r : AV}
    (hf : evA t f = .fn g []) (ha : args.toList = x :: rest) (hx : evA t x = .ms id lo n c sz) (hb : h id = .box R.flatten) (hR : ∀ r ∈ R, r.length = sz) (hle : lo + n ≤ R.length) (hxs : (R.drop lo).take n = xs) (hpure : ∀ row ∈ xs, ∀ y ∈ row, pure0 y = true ∧ forget0 y = y)
    (hp : passAll h (rest.map (evA t)) = some (az, ids)) (hid : id ∉ ids) (hfun : ∃ fn c, P.funcs[g]? = some fn ∧ fn.body = some c ∧ fn.name ≠ "runtime.NumGoroutine") (hs : Sound P g (.sl .no xs :: az) r) (hsc : scalV r = true)
    (hK : sealAll ids h fun h' => K r h') : SemOp P i t h (.call { callee := .value f, args := args, argTypes := ts }) K := by
  refine ⟨fun c e => (by cases e), fun o a C W B next Q hop I hρ hi hn => ?_⟩
  have hK := sealAll_sound ids h _ hK
  change K r (sealH h ids) at hK
  obtain ⟨I1, l1⟩ := I.close ids
  obtain ⟨q, us, tyb, e1, hq, hnc, g1, g2, g3, g4⟩ := ms_read I hρ hx hb hR
  have hRs : ∀ r ∈ xs, r.length = sz := fun r hr => by rw [← hxs] at hr; exact hR r (List.mem_of_mem_drop (List.mem_of_mem_take hr))
  have hl : xs.length = n := by rw [← hxs]; simp; omega
  have ef : a.eval f = .func (.func g) #[] #[] := by
    have := evA_rep hρ f
    rw [hf] at this
    obtain ⟨us, h1, h2, _⟩ := this
    have : us = [] := List.eq_nil_of_length_eq_zero h2
    subst this; exact h1
  obtain ⟨fn, cd, hfn, hbody, hname⟩ := hfun
  have hvals : ∀ j x, (rest.map (evA t))[j]? = some x → RepT C W h x ((rest.map a.eval).getD j Go.undef) := by
    intro j x hx
    rw [List.getElem?_map] at hx
    obtain ⟨y, hy, rfl⟩ := Option.map_eq_some_iff.1 hx
    rw [List.getD_eq_getElem?_getD, List.getElem?_map, hy]
    exact evA_rep hρ y
  obtain ⟨hlen, hrep⟩ := passAll_rep I (S' := sealS C h ids) (fun _ _ hs => .inl hs) _ az ids _ hvals hp (fun id hid cs hk => sealS_peek I hid hk)
  -- the memory with the lent part closed
  have hsub : ∀ b o, sealS C h ids b o → (fun b o => sealS C h ids b o ∨ (b = C.ι id ∧ o < us.length)) b o := fun b o hs => .inl hs
  have hhas : ∀ b o, (fun b o => sealS C h ids b o ∨ (b = C.ι id ∧ o < us.length)) b o → (W.cell? ⟨b, o, none⟩).isSome = true := by
    rintro b o (hs | ⟨rfl, ho⟩)
    · exact I1.has b o hs
    · rw [cell_of_row W _ _ _ _ _ g1]; simp [ho]
  have hsl : Rep (fun b o => sealS C h ids b o ∨ (b = C.ι id ∧ o < us.length)) W (.sl .no xs) (a.eval x) := by
    rw [e1]
    by_cases hn0 : n = 0
    · subst hn0
      have : xs = [] := List.eq_nil_of_length_eq_zero hl
      subst this
      exact .slE _ _
    · have hq' := hq (by omega)
      subst hq'
      have key : Rep (fun b o => sealS C h ids b o ∨ (b = C.ι id ∧ o < us.length)) W (.sl .no xs) (.slice (some ⟨C.ι id, lo * sz, none⟩) xs.length c) := by
        have hpos : ∀ i j x, getx xs i j = some x → lo * sz + i * sz + j < us.length ∧ R.flatten[lo * sz + i * sz + j]? = some x ∧ pure0 x = true ∧ forget0 x = x := fun i j x hx => by
          obtain ⟨hi, hj⟩ := getx_lt hRs hx
          have hfl : xs.flatten[i * sz + j]? = some x := by
            unfold getx at hx
            obtain ⟨row, hr1, hr2⟩ := Option.bind_eq_some_iff.1 hx
            have hl := hRs row (List.mem_of_getElem? hr1)
            have := rows_row hRs hr1
            have h5 : ((xs.flatten.drop (i * sz)).take row.length)[j]? = some x := by rw [this]; exact hr2
            rw [List.getElem?_take, hl, if_pos hj, List.getElem?_drop] at h5
            exact h5
          have hlt : i * sz + j < n * sz := by rw [← hl]; exact flat_lt hi hj
          have e2 : xs.flatten = (R.flatten.drop (lo * sz)).take (n * sz) := by
            rw [rows_drop lo hR, rows_take n (fun r hr => hR r (List.mem_of_mem_drop hr)), hxs]
          rw [e2, List.getElem?_take, if_pos hlt, List.getElem?_drop, ← Nat.add_assoc] at hfl
          have hrow : ∃ row ∈ xs, x ∈ row := by
            unfold getx at hx
            obtain ⟨row, hr1, hr2⟩ := Option.bind_eq_some_iff.1 hx
            exact ⟨row, List.mem_of_getElem? hr1, List.mem_of_getElem? hr2⟩
          obtain ⟨row, hm, hy⟩ := hrow
          refine ⟨?_, hfl, hpure row hm x hy⟩
          have := (List.getElem?_eq_some_iff.1 hfl).1
          rw [rows_len hR] at this
          rw [g2]; exact this
        refine .sl _ sz (C.ι id) (lo * sz) c (fun i j => us.getD (lo * sz + i * sz + j) Go.undef) (by rw [hl]; exact hnc) hRs (fun i j x hx => ?_) (fun i j x hx => ?_)
        · obtain ⟨h5, h6, _⟩ := hpos i j x hx
          refine ⟨.inr ⟨rfl, h5⟩, ?_⟩
          rw [cell_of_row W _ _ _ _ _ g1]
          simp [List.getD, List.getElem?_eq_getElem h5]
        · obtain ⟨h5, h6, h7, h8⟩ := hpos i j x hx
          have h9 := (g4 _ x h6).pure h7
          rw [h8] at h9
          exact h9.mono (fun _ _ hs => .inl (.inl hs)) (fun _ _ _ => rfl)
      rwa [hl] at key
  have hne : (fn.name == "runtime.NumGoroutine") = false := by simpa using hname
  have harr2 : #[] ++ args.map a.eval ++ #[] = (a.eval x :: rest.map a.eval).toArray := by
    rw [Array.empty_append]
    apply Array.ext'
    rw [← List.map_cons, ← ha]; simp
  have harr : args.map a.eval ++ #[] = (a.eval x :: rest.map a.eval).toArray := by
    rw [← harr2, Array.empty_append]
  have hrun : (execOp a.eval o).run P W = .ok (.enter g (a.eval x :: rest.map a.eval).toArray) W := by
    simp only [execOp, hop, resolve, ef, Deferred.ofValue, Sem.run_bind, Sem.run_pure, Result.andThen_ok, invoke, callFunc, run_program, hfn, hne]
    try simp only [harr2, harr]
    simp [hbody]
  unfold Oper.wp
  rw [hrun]
  refine (hs _ W (a.eval x :: rest.map a.eval) (I.tb.mono I.base) hhas (by simp at hlen ⊢; omega) (fun j y hj => ?_)).mono ?_
  · cases j with
    | zero => simp at hj; subst hj; exact hsl
    | succ j =>
      have := hrep j y (by simpa using hj)
      exact this.mono hsub (fun _ _ _ => rfl)
  rintro en W' ⟨u', S', rfl, hB, hS, hnw, hh, hr⟩
  have hr' : Rep S' W' r u' := by
    cases r with
    | int k m => exact hr
    | bool b => exact hr
    | _ => cases hsc
  obtain ⟨I2, l2⟩ := I1.grow (W' := W') (sealS C h ids) (fun b hb => hB.block b hb) hB.size (fun _ _ hs => hs) (fun _ _ hs => .inl hs) (fun b o hs => by
    rw [cell_of_heap (hB.block b (cell_lt (I1.has b o hs)))]; exact I1.has b o hs)
  have hr2 : RepT { C with S := sealS C h ids } W' (sealH h ids) r u' := RepT.of_rep (scalV_rep hsc hr')
  exact hn _ _ u' W' _ hK hr2 I2 (l1.trans l2) (hB.mono I.base) (fun k hk h0' => sealH_none h0')
end
end Go.Proofs.YtbaajjihhdmdpaaGreatDoor

namespace Go.Proofs.YtbaajjihhdmdpaaGreatDoor
open Go.RowKit
set_option linter.unusedSectionVars false
set_option linter.unusedVariables false
set_option linter.unusedSimpArgs false
set_option linter.unnecessarySimpa false
set_option maxRecDepth 100000
variable [Lax]
theorem cells_rows (l : List GCell) : ∀ x ∈ l.map GCell.c, x.length = 5 := fun x hx => by obtain ⟨y, _, rfl⟩ := List.mem_map.1 hx; rfl
theorem cells_pure (l : List GCell) : ∀ row ∈ l.map GCell.c, ∀ y ∈ row, pure0 y = true ∧ forget0 y = y := fun row hr y hy => by
  obtain ⟨x, _, rfl⟩ := List.mem_map.1 hr
  simp [GCell.c] at hy
  rcases hy with rfl | rfl | rfl | rfl | rfl <;> exact ⟨rfl, rfl⟩
theorem fnOk {g : Nat} (h : tb.fn g = true) : ∃ fn c, Tryz.prog.funcs[g]? = some fn ∧ fn.body = some c ∧ fn.name ≠ "runtime.NumGoroutine" := T.fn g h
/-- Cells that no renaming of boxes turns. -/
def CloR (R : List (List AV)) : Prop := ∀ row ∈ R, ∀ y ∈ row, ∀ g, ren0 g y = y
theorem CloR.map {R : List (List AV)} (h : CloR R) (g : Nat → Option Nat) : R.flatten.map (ren0 g) = R.flatten := by
  have : ∀ x ∈ R.flatten, ren0 g x = id x := fun x hx => by
    obtain ⟨r, hr, hx⟩ := List.mem_flatten.1 hx
    exact h r hr x hx g
  rw [List.map_congr_left this, List.map_id]
theorem CloR.box {R : List (List AV)} (h : CloR R) (g : Nat → Option Nat) : HO.box R.flatten = HO.box (R.flatten.map (ren0 g)) := by rw [h.map]
theorem CloR.app {R R' : List (List AV)} (h : CloR R) (h' : CloR R') : CloR (R ++ R') := fun row hr => (List.mem_append.1 hr).elim (h row) (h' row)
theorem CloR.set {R : List (List AV)} (h : CloR R) {x : List AV} (hx : ∀ y ∈ x, ∀ g, ren0 g y = y) (i : Nat) : CloR (R.set i x) := fun row hr => by
  rcases List.mem_or_eq_of_mem_set hr with hr | rfl
  · exact h row hr
  · exact hx
theorem CloR.pad (n c sz : Nat) : CloR (padR n c sz) := fun row hr y hy g => by
  rw [List.eq_of_mem_replicate hr] at hy
  rw [List.eq_of_mem_replicate hy]; rfl
theorem cell_clo (x : GCell) : ∀ y ∈ x.c, ∀ g, ren0 g y = y := fun y hy g => by
  simp [GCell.c] at hy
  rcases hy with rfl | rfl | rfl | rfl | rfl <;> rfl
theorem CloR.cells (l : List GCell) : CloR (l.map GCell.c) := fun row hr y hy g => by
  obtain ⟨x, _, rfl⟩ := List.mem_map.1 hr
  exact cell_clo x y hy g
theorem idxOf_cases {α : Type} (p : α → Bool) : ∀ (l : List α) (s : Nat), (idxOf p l s = -1 ∧ (l.filter fun x => !p x) = l) ∨ ∃ k, k < l.length ∧ idxOf p l s = ((s + k : Nat) : Int) ∧ ((l.take (k + 1)).filter fun x => !p x) = l.take k
  | [], s => .inl ⟨rfl, rfl⟩
  | x :: r, s => by
    cases hp : p x with
    | true => exact .inr ⟨0, by simp, by simp [idxOf, hp], by simp [hp]⟩
    | false =>
      rcases idxOf_cases p r (s + 1) with ⟨h1, h2⟩ | ⟨k, h1, h2, h3⟩
      · exact .inl ⟨by simp [idxOf, hp, h1], by simp [hp, h2]⟩
      · refine .inr ⟨k + 1, by simp; omega, by simp only [idxOf, hp]; simp [h2]; omega, ?_⟩
        rw [List.take_succ_cons, List.take_succ_cons, List.filter_cons]
        simp only [hp, Bool.not_false, if_true]
        rw [h3]
theorem D79_1 {g : Nat} (hg : tb.fn g = true) (c0 : List AV) (l : List GCell) (p : GCell → Bool) (hp : ∀ x ∈ l, Sound Tryz.prog g [x.v, .rp c0] (.bool (p x))) (hl : l.length < 4611686018427387904) :
    SoundC Tryz.prog 79 61 5 (l.map GCell.c) [.fn g [.rp c0]] ((l.filter fun x => !p x).map GCell.c) := by
  refine exC_intro mixedT T [] Tryz.func79 rfl (by rw [Tryz.ntmps79]; simp) (by kernel_rfl) (fun h0 => ?_) (fun cap hc hle hm hrows => ?_)
  · obtain rfl : l = [] := by simpa using h0
    conv => whnf
    refine FnG.go rfl ?_; conv => whnf
    refine CallG.go (S96_1 hg c0 [] p (by simp) (by simp)) ?_; conv => whnf
    refine Br.T ?_; conv => whnf
    exact ⟨_, rfl, rfl, rfl⟩
  · conv => whnf
    generalize hN : (l.map GCell.c).length = N at *
    have hNl : N = l.length := by rw [← hN]; simp
    have hRl : ∀ x ∈ l.map GCell.c ++ padR N cap 5, x.length = 5 := fun x hx => (List.mem_append.1 hx).elim (cells_rows l x) (padR_len x)
    have hRlen : (l.map GCell.c ++ padR N cap 5).length = cap := by simp [padR]; omega
    refine SemG.go (Sem.lend (xs := l.map GCell.c) (rest := [.tmp 9]) rfl rfl rfl rfl hRl (by omega) (by rw [List.drop_zero, ← hN, List.take_left]) (cells_pure l) rfl (by simp) (fnOk rfl) (S96_1 hg c0 l p hp hl) rfl ?_); conv => whnf
    have hgetc : ∀ (R : List (List AV)) (j : Nat), j < l.length → (R.drop j).take (N - j) = (l.drop j).map GCell.c → R[j]? = some (gd l j).c := fun R j hj he => by
      have h1 := congrArg (fun x => x[0]?) he
      simp only [List.getElem?_take, List.getElem?_map, List.getElem?_drop, Nat.add_zero] at h1
      rw [if_pos (by omega), gd_get hj] at h1
      exact h1
    have hstepc : ∀ (R : List (List AV)) (j : Nat), j < l.length → (R.drop j).take (N - j) = (l.drop j).map GCell.c → (R.drop (j + 1)).take (N - (j + 1)) = (l.drop (j + 1)).map GCell.c := fun R j hj he => by
      have h1 := congrArg (fun x => x.drop 1) he
      simp only [List.drop_take, List.drop_drop, ← List.map_drop] at h1
      rw [show N - (j + 1) = N - j - 1 by omega]
      exact h1
    rcases idxOf_cases p l 0 with ⟨h1, h2⟩ | ⟨k, hk, h1, h2⟩
    · rw [h1, h2]
      refine Br.T ?_; conv => whnf
      refine ⟨_, rfl, _, rfl, hRlen, hRl, rfl, by omega, hm, ?_, ?_⟩
      · rw [← hN, List.take_left]; exact fun x hx y hy => (cells_pure l x hx y hy).1
      · rw [← hN, List.take_left, List.map_map]; rfl
    · rw [h1, Nat.zero_add]
      refine Br.mk (fun hq => ?_) (fun hq => ?_) <;> conv => whnf
      · exact absurd hq (by simp)
      · refine Lp.go T [.t 0] (fun (a : Nat × Nat × List (List AV)) => [(0, .ms 0 0 N cap 5), (1, .fn g [.rp c0]), (5, i64 a.1), (6, i64 a.2.1)]) (fun a => [.box a.2.2.flatten])
          (fun m a => m + a.2.1 = N ∧ a.1 ≤ a.2.1 ∧ a.2.2.length = cap ∧ (∀ x ∈ a.2.2, x.length = 5) ∧ CloR a.2.2 ∧ a.2.2.take a.1 = ((l.take a.2.1).filter fun x => !p x).map GCell.c ∧ (a.2.2.drop a.2.1).take (N - a.2.1) = (l.drop a.2.1).map GCell.c)
          (N - (k + 1)) (k, k + 1, l.map GCell.c ++ padR N cap 5) ⟨by simp; omega, by simp, hRlen, hRl, (CloR.cells l).app (CloR.pad _ _ _), ?_, ?_⟩ [.t 0] ?_ ?_
        · show (l.map GCell.c ++ padR N cap 5).take k = _
          rw [h2, List.take_append_of_le_length (by simp; omega), List.map_take]
        · show ((l.map GCell.c ++ padR N cap 5).drop (k + 1)).take (N - (k + 1)) = _
          rw [List.drop_append_of_le_length (by simp; omega), ← List.map_drop, List.take_append_of_le_length (by simp; omega), List.take_of_length_le (by simp; omega)]
        · (conv => whnf); refine ⟨rfl, ?_, ?_⟩ <;> (conv => whnf) <;> (repeat' apply And.intro) <;> first | exact True.intro | rfl | (conv => rhs; whnf)
          · exact incr (by omega)
          · exact ((CloR.cells l).app (CloR.pad _ _ _)).box _
        rintro m ⟨i, j, R⟩ ⟨hmj, hij, hRc, hR5, hRo, hRi, hRj⟩
        simp only at hmj hij hRc hR5 hRo hRi hRj ⊢
        conv => whnf
        refine SemG.go (Sem.lenMs ((T.ti 27).el 61 rfl) rfl ?_); conv => whnf
        refine Br.mk (fun hq => ?_) (fun hq => ?_) <;> conv => whnf
        · have hlt : j < l.length := by have : j < N := by simpa using hq
                                        omega
          refine Nd.go ⟨by omega, by simpa using hq⟩ ?_; conv => whnf
          refine LdR.row hR5 (by rw [Nat.zero_add]; rfl) (hgetc R j hlt hRj) (by conv => whnf) ?_; conv => whnf
          refine FnG.go hg ?_; conv => whnf
          refine CallG.go (hp _ (gd_mem hlt)) ?_; conv => whnf
          have htk : ((l.take (j + 1)).filter fun x => !p x) = ((l.take j).filter fun x => !p x) ++ if p (gd l j) then [] else [gd l j] := by
            rw [List.take_add_one, gd_get hlt, List.filter_append]
            congr 1
            generalize gd l j = y
            cases hpj : p y <;> simp [hpj]
          have hil : (R.take i).length = i := by simp; omega
          refine Br.mk (fun hp' => ?_) (fun hp' => ?_) <;> conv => whnf
          · have hpf : p (gd l j) = false := by simpa using hp'
            refine Nd.go ⟨by omega, by omega⟩ ?_; conv => whnf
            refine SemG.go (Sem.storeMp (r := i) (cs := (gd l j).c) (by kernel_rfl) rfl rfl rfl rfl rfl hR5 rfl (by simp) (by omega) ?_); conv => whnf
            refine ⟨m - 1, (i + 1, j + 1, R.set i (gd l j).c), by omega, ⟨by simp; omega, by simp; omega, by simpa using hRc, ?_, hRo.set (cell_clo _) _, ?_, ?_⟩, ?_⟩
            · intro x hx
              rcases List.mem_or_eq_of_mem_set hx with hx | rfl
              · exact hR5 x hx
              · rfl
            · show (R.set i (gd l j).c).take (i + 1) = _
              rw [htk, hpf, List.map_append, ← hRi, List.take_add_one, List.getElem?_set_self (by omega), List.take_set_of_le (Nat.le_refl _)]
              simp
            · show ((R.set i (gd l j).c).drop (j + 1)).take (N - (j + 1)) = _
              rw [List.drop_set_of_lt (by omega)]
              exact hstepc R j hlt hRj
            · (conv => whnf); refine ⟨rfl, ?_, ?_⟩ <;> (conv => whnf) <;> (repeat' apply And.intro) <;> first | exact True.intro | rfl | (conv => rhs; whnf)
              · exact incr (by omega)
              · exact incr (by omega)
              · exact (hRo.set (cell_clo _) _).box _
          · have hpf : p (gd l j) = true := by simpa using hp'
            refine ⟨m - 1, (i, j + 1, R), by omega, ⟨by simp; omega, by simp; omega, hRc, hR5, hRo, ?_, hstepc R j hlt hRj⟩, ?_⟩
            · show R.take i = _
              rw [htk, hpf, hRi]; simp
            · (conv => whnf); refine ⟨rfl, ?_, ?_⟩ <;> (conv => whnf) <;> (repeat' apply And.intro) <;> first | exact True.intro | rfl | (conv => rhs; whnf)
              · exact incr (by omega)
              · exact hRo.box _
        · obtain rfl : N = j := by have : N ≤ j := by simpa using hq
                                   omega
          have htl : l.take N = l := List.take_of_length_le (by omega)
          refine Nd.go ⟨by omega, by omega⟩ ?_; conv => whnf
          refine SemG.go (Sem.clear (R := R) ((T.ti 27).el 61 rfl) (ti_zero_len T (rfl : (tb.ti 61).zero = some _)) rfl rfl rfl hR5 (by simp; omega) ?_); conv => whnf
          refine Nd.go ⟨by omega, by omega⟩ ?_; conv => whnf
          rw [htl] at hRi
          have hi' : (i : Int).toNat = i := Int.toNat_natCast i
          have htR : ∀ Z2 : List (List AV), (R.take i ++ Z2).take i = R.take i := fun Z2 => by
            rw [List.take_append_of_le_length (by simp; omega), List.take_of_length_le (by simp; omega)]
          refine ⟨_, rfl, _, rfl, ?_, ?_, rfl, by omega, hm, ?_, ?_⟩ <;> simp only [Nat.zero_add, hi']
          · simp; omega
          · intro x hx
            rcases List.mem_append.1 hx with hx | hx
            · rcases List.mem_append.1 hx with hx | hx
              · exact hR5 x (List.mem_of_mem_take hx)
              · rw [List.eq_of_mem_replicate hx]; rfl
            · exact hR5 x (List.mem_of_mem_drop hx)
          · rw [List.append_assoc, htR, hRi]
            exact fun x hx y hy => (cells_pure _ x hx y hy).1
          · rw [List.append_assoc, htR, hRi, List.map_map]; rfl
end Go.Proofs.YtbaajjihhdmdpaaGreatDoor

namespace Go.Proofs.YtbaajjihhdmdpaaGreatDoor
open Go.RowKit
set_option linter.unusedSectionVars false
set_option linter.unusedVariables false
set_option linter.unusedSimpArgs false
set_option linter.unnecessarySimpa false
set_option maxRecDepth 100000
set_option maxHeartbeats 4000000
variable [Lax]
theorem cell_ints (x y : GCell) : ([x.slot, x.offset, x.from_, x.to_, x.flow] == [y.slot, y.offset, y.from_, y.to_, y.flow]) = decide (x = y) := by
  cases x; cases y
  simp only [GCell.mk.injEq]
  rw [Bool.eq_iff_iff]
  simp
end Go.Proofs.YtbaajjihhdmdpaaGreatDoor

namespace Go.Proofs.YtbaajjihhdmdpaaGreatDoor
open Go.RowKit
set_option linter.unusedSectionVars false
set_option linter.unusedVariables false
set_option linter.unusedSimpArgs false
set_option linter.unnecessarySimpa false
set_option maxRecDepth 100000
section
open Go.Shelf
end
variable [Lax]
end Go.Proofs.YtbaajjihhdmdpaaGreatDoor

namespace Go.Proofs.YtbaajjihhdmdpaaGreatDoor
open Go.RowKit
set_option linter.unusedVariables false
set_option linter.unusedSimpArgs false
set_option linter.unnecessarySimpa false
set_option linter.unusedSectionVars false
set_option maxRecDepth 100000
variable [Lax]
theorem cmpI_neg (a b : Int) : cmpI a b < 0 ↔ a < b := by unfold cmpI; (repeat' split) <;> constructor <;> omega
theorem cmpI_zero (a b : Int) : cmpI a b = 0 ↔ a = b := by unfold cmpI; (repeat' split) <;> constructor <;> omega
theorem cmpInts_cons (x y : Int) (r s : List Int) : cmpInts (x :: r) (y :: s) < 0 ↔ x < y ∨ (x = y ∧ cmpInts r s < 0) := by
  rw [cmpInts]
  by_cases h : cmpI x y = 0
  · rw [if_neg (by simp [h])]
    have := (cmpI_zero x y).1 h
    subst this; simp
  · rw [if_pos (by simp [h]), cmpI_neg]
    have : x ≠ y := fun e => h ((cmpI_zero x y).2 e)
    constructor
    · exact .inl
    · rintro (h1 | ⟨h1, _⟩)
      · exact h1
      · exact absurd h1 this
theorem cmpInts_trans : ∀ (a b c : List Int), a.length = b.length → b.length = c.length → cmpInts a b < 0 → cmpInts b c < 0 → cmpInts a c < 0
  | [], [], _, _, _, h, _ => by simp [cmpInts] at h
  | x :: a, y :: b, z :: c, h1, h2, h3, h4 => by
    rw [cmpInts_cons] at h3 h4 ⊢
    rcases h3 with h3 | ⟨rfl, h3⟩
    · rcases h4 with h4 | ⟨rfl, h4⟩
      · left; omega
      · left; omega
    · rcases h4 with h4 | ⟨rfl, h4⟩
      · left; omega
      · exact .inr ⟨rfl, cmpInts_trans a b c (by simpa using h1) (by simpa using h2) h3 h4⟩
  | [], _ :: _, _, h, _, _, _ => by simp at h
  | _ :: _, [], _, h, _, _, _ => by simp at h
  | _ :: _, _ :: _, [], _, h, _, _ => by simp at h
theorem cmpInts_tot : ∀ (a b : List Int), a.length = b.length → ¬ cmpInts a b < 0 → ¬ cmpInts b a < 0 → a = b
  | [], [], _, _, _ => rfl
  | x :: a, y :: b, h, h1, h2 => by
    rw [cmpInts_cons] at h1 h2
    have e : x = y := by
      have := fun h => h1 (.inl h)
      have := fun h => h2 (.inl h)
      omega
    subst e
    rw [cmpInts_tot a b (by simpa using h) (fun h => h1 (.inr ⟨rfl, h⟩)) (fun h => h2 (.inr ⟨rfl, h⟩))]
  | [], _ :: _, h, _, _ => by simp at h
  | _ :: _, [], h, _, _ => by simp at h
theorem orI_ints : ∀ (a b : List Int), a.length = b.length → orI (List.zipWith cmpI a b) = cmpInts a b
  | [], [], _ => rfl
  | x :: a, y :: b, h => by
    rw [List.zipWith_cons_cons, orI, cmpInts, orI_ints a b (by simpa using h)]
    by_cases h : cmpI x y = 0 <;> simp [h]
  | [], _ :: _, h => by simp at h
  | _ :: _, [], h => by simp at h
theorem S102 (a b : GCell) : Sound Tryz.prog 102 [a.v, b.v] (i64 (cmpCell a b)) := by
  refine ex_intro mixedT T [] Tryz.func102 rfl (by rw [Tryz.ntmps102]; simp) (by kernel_rfl) ?_
  conv => whnf
  repeat' first | (refine LenG.map ?_; conv => whnf) | (refine LenG.go ?_; conv => whnf)
  repeat' first
    | (refine Br.T ?_; conv => whnf)
    | (refine Br.F ?_; conv => whnf)
    | (refine Br.mk (fun hq => ?_) (fun hq => ?_) <;> conv => whnf)
    | (refine FnG.go rfl ?_; conv => whnf)
    | (refine LenG.map ?_; conv => whnf)
    | (refine LenG.go ?_; conv => whnf)
    | (refine CallG.go (S174 _ _) ?_; conv => whnf)
    | (refine CallG.go (S186 [_, _, _, _, _] (by simp)) ?_; conv => whnf)
  all_goals (refine RetG.one ?_; exact congrArg (fun x => some (i64 x)) (orI_ints a.nums b.nums rfl))
end Go.Proofs.YtbaajjihhdmdpaaGreatDoor

namespace Go.Proofs.YtbaajjihhdmdpaaGreatDoor
open Go.RowKit
set_option linter.unusedSectionVars false
set_option linter.unusedVariables false
set_option linter.unusedSimpArgs false
set_option linter.unnecessarySimpa false
set_option maxRecDepth 100000
set_option maxHeartbeats 4000000
variable [Lax]
theorem retMs {h : AHeap} {id n c : Nat} {R : List (List AV)} {L : List GCell} (hb : h id = .box R.flatten) (hc : R.length = c) (hr : ∀ x ∈ R, x.length = 5) (hn : n ≤ c) (hm : c ≤ maxLen) (ht : R.take n = L.map GCell.c) : RetCG Tryz.prog h 61 5 (L.map GCell.c) [.ms id 0 n c 5] :=
  ⟨_, rfl, R, hb, hc, hr, rfl, hn, hm, by rw [ht]; exact fun x hx y hy => (cells_pure L x hx y hy).1, by rw [ht, List.map_map]; rfl⟩
theorem D111 (l : List GCell) (i : Nat) (x : GCell) (hi : i ≤ l.length) (hl : (l.length + 1) * 40 ≤ 140737488355328) :
    SoundC Tryz.prog 111 61 5 (l.map GCell.c) [i64 i, cellsV [x]] ((l.take i ++ x :: l.drop i).map GCell.c) := by
  have hat : ∀ y ∈ [x.c], y.length = 5 ∧ y.all isAtom = true := fun y hy => by simp at hy; subst hy; exact ⟨rfl, rfl⟩
  refine exC_intro mixedT T [cutX 11 8, cutX 15 8] Tryz.func111 rfl (by rw [Tryz.ntmps111]; simp) (by kernel_rfl) (fun h0 => ?_) (fun cap hc hle hm hrows => ?_)
  · obtain rfl : l = [] := by simpa using h0
    obtain rfl : i = 0 := by simpa using hi
    conv => whnf
    refine Nd.go ⟨by omega, by simp, by simp⟩ ?_; conv => whnf
    refine LenG.go ?_; conv => whnf
    refine Br.F ?_; conv => whnf
    refine LenG.go ?_; conv => whnf
    refine Br.T ?_; conv => whnf
    refine ⟨⟨by rw [show (tb.ti 61).bytes = 40 from rfl]; simp, by simp, hat⟩, ?_⟩; conv => whnf
    exact ⟨_, rfl, rfl, rfl⟩
  · conv => whnf
    generalize hN : (l.map GCell.c).length = N at *
    have hNl : N = l.length := by rw [← hN]; simp
    have hRl : ∀ x ∈ l.map GCell.c ++ padR N cap 5, x.length = 5 := fun x hx => (List.mem_append.1 hx).elim (cells_rows l x) (padR_len x)
    have hRlen : (l.map GCell.c ++ padR N cap 5).length = cap := by simp [padR]; omega
    have hRt : (l.map GCell.c ++ padR N cap 5).take N = l.map GCell.c := by rw [← hN, List.take_left]
    generalize l.map GCell.c ++ padR N cap 5 = R at hRl hRlen hRt ⊢
    have hmx : cap ≤ 9223372036854775807 := hm
    have hx5 : ∀ r ∈ [x.c], r.length = 5 := fun r hr => (hat r hr).1
    have app5 : ∀ {A A' : List (List AV)}, (∀ r ∈ A, r.length = 5) → (∀ r ∈ A', r.length = 5) → ∀ r ∈ A ++ A', r.length = 5 := fun h h' r hr => (List.mem_append.1 hr).elim (h r) (h' r)
    have tk5 : ∀ {A : List (List AV)} {n : Nat}, (∀ r ∈ A, r.length = 5) → ∀ r ∈ A.take n, r.length = 5 := fun h r hr => h r (List.mem_of_mem_take hr)
    have dr5 : ∀ {A : List (List AV)} {n : Nat}, (∀ r ∈ A, r.length = 5) → ∀ r ∈ A.drop n, r.length = 5 := fun h r hr => h r (List.mem_of_mem_drop hr)
    have bad5 : ∀ {n : Nat}, ∀ r ∈ List.replicate n (List.replicate 5 AV.bad), r.length = 5 := fun r hr => by rw [List.eq_of_mem_replicate hr]; rfl
    have hx1 : [x.c].length = 1 := rfl
    refine Nd.go ⟨by omega, by omega⟩ ?_; conv => whnf
    refine LenG.go ?_; conv => whnf
    refine Br.F ?_; conv => whnf
    refine SemG.go (Sem.lenMs ((T.ti 27).el 61 rfl) rfl ?_); conv => whnf
    have e1 : IntKind.i64.wrap ((N : Int) + 1) = ((N + 1 : Nat) : Int) := by rw [w64 (by omega)]; rfl
    refine Br.mk (fun hq => ?_) (fun hq => ?_) <;> conv => whnf
    · have hiN : i = N := by have : (i : Int) = N := by simpa using hq
                             omega
      refine SemG.go (Sem.appMs (src := [x.c]) (R := R) ((T.ti 27).el 61 rfl) (by kernel_rfl : 5 = Tryz.prog.cellsOf 61) (by decide) (by kernel_rfl) rfl rfl hRl hRlen (.inl ⟨_, rfl, fun r hr => (hat r hr).1⟩) (fun r hr => (hat r hr).2) (by simp) (by rw [show Tryz.prog.bytesOf 61 = 40 by kernel_rfl]; simp; omega) (by simp; omega) (fun hroom => ?_) (fun hg cap' hc1 hc2 => ?_)) <;> conv => whnf
      · subst hiN
        rw [hx1] at hroom
        refine retMs rfl (by simp only [List.length_append, List.length_take, List.length_drop, List.length_replicate, List.length_cons, List.length_nil, List.length_map, hRlen]; omega) (app5 (app5 (tk5 hRl) hx5) (dr5 hRl)) hroom hm ?_
        rw [List.take_append_of_le_length (by simp only [List.length_append, List.length_take, List.length_drop, List.length_replicate, List.length_cons, List.length_nil, List.length_map, hRlen]; omega), List.take_of_length_le (by simp only [List.length_append, List.length_take, List.length_drop, List.length_replicate, List.length_cons, List.length_nil, List.length_map, hRlen]; omega), hRt, List.take_of_length_le (by omega), List.drop_eq_nil_of_le (by omega)]
        simp
      · subst hiN
        rw [hx1] at hg hc1
        refine retMs rfl (by simp only [List.length_append, List.length_take, List.length_drop, List.length_replicate, List.length_cons, List.length_nil, List.length_map, hRlen]; omega) (app5 (app5 (tk5 hRl) hx5) bad5) hc1 hc2 ?_
        rw [List.take_append_of_le_length (by simp only [List.length_append, List.length_take, List.length_drop, List.length_replicate, List.length_cons, List.length_nil, List.length_map, hRlen]; omega), List.take_of_length_le (by simp only [List.length_append, List.length_take, List.length_drop, List.length_replicate, List.length_cons, List.length_nil, List.length_map, hRlen]; omega), hRt, List.take_of_length_le (by omega), List.drop_eq_nil_of_le (by omega)]
        simp
    · have hiN : i < N := by have : ¬ (i : Int) = N := by simpa using hq
                             omega
      have e3 : IntKind.i64.wrap ((i : Int) + ((List.map (fun x => GCell.c x) [x]).length : Int)) = ((i + 1 : Nat) : Int) := by rw [show ((i : Int) + ((List.map (fun x => GCell.c x) [x]).length : Int)) = (i : Int) + 1 from rfl, w64 (by omega)]; rfl
      have e4 : IntKind.i64.wrap ((N : Int) + ((List.map (fun x => GCell.c x) [x]).length : Int)) = ((N + 1 : Nat) : Int) := e1
      have hmid : (R.drop i).take (N - i) = (l.drop i).map GCell.c := by rw [← List.drop_take, hRt, List.map_drop]
      have hmt : ((l.drop i).map GCell.c).take (N - i) = (l.drop i).map GCell.c := List.take_of_length_le (by simp; omega)
      have hfst : R.take i = (l.take i).map GCell.c := by
        have := congrArg (List.take i) hRt
        rw [List.take_take, Nat.min_eq_left (by omega)] at this
        rw [this, List.map_take]
      have hsrcat : ∀ r ∈ (R.drop i).take (N - i), r.all isAtom = true := by
        rw [hmid]; intro r hr
        obtain ⟨y, _, rfl⟩ := List.mem_map.1 hr
        rfl
      refine SemG.go (Sem.capMs ((T.ti 27).el 61 rfl) rfl ?_); conv => whnf
      rw [e4]
      refine Br.mk (fun hq2 => ?_) (fun hq2 => ?_) <;> conv => whnf
      · have hg : cap < N + 1 := by have := of_decide_eq_true hq2; omega
        refine Nd.go ⟨by omega, by omega⟩ ?_; conv => whnf
        refine SemG.go (Sem.appZ (k := .i64) (m := N + 1 - i) (n := i) (R := R) (kn := .i64) ((T.ti 27).el 61 rfl) (by kernel_rfl) (by kernel_rfl : 5 = Tryz.prog.cellsOf 61) (by decide) (by kernel_rfl) rfl rfl hRl hRlen ?_ (by omega) (by omega) (by rw [show Tryz.prog.bytesOf 61 = 40 by kernel_rfl]; omega) (by omega) (fun cap' hc1 hc2 => ?_))
        · show AV.int _ (IntKind.i64.wrap (IntKind.i64.wrap ((N : Int) + 1) - (i : Int))) = _
          rw [e1, w64 (by omega)]
          congr 1; omega
        have hc1' : N + 1 ≤ cap' := by omega
        rw [show i + (N + 1 - i) = N + 1 by omega]
        have hcx : cap' ≤ 9223372036854775807 := hc2
        conv => whnf
        refine Nd.go ⟨by omega, by omega⟩ ?_; conv => whnf
        have hR1 : ∀ r ∈ R.take i ++ List.replicate (cap' - i) (List.replicate 5 AV.bad), r.length = 5 := app5 (tk5 hRl) bad5
        have hR1l : (R.take i ++ List.replicate (cap' - i) (List.replicate 5 AV.bad)).length = cap' := by simp only [List.length_append, List.length_take, List.length_drop, List.length_replicate, List.length_cons, List.length_nil, List.length_map, hRlen]; omega
        obtain ⟨R1, hR1e⟩ : ∃ R1, R1 = R.take i ++ List.replicate (cap' - i) (List.replicate 5 AV.bad) := ⟨_, rfl⟩
        rw [← hR1e] at hR1 hR1l
        obtain ⟨R2, hR2⟩ : ∃ R2, R1.take i ++ [x.c].take 1 ++ R1.drop (i + 1) = R2 := ⟨_, rfl⟩
        have hR1t : R1.take i = R.take i := by rw [hR1e, List.take_append_of_le_length (by simp only [List.length_append, List.length_take, List.length_drop, List.length_replicate, List.length_cons, List.length_nil, List.length_map, hRlen]; omega), List.take_of_length_le (by simp only [List.length_append, List.length_take, List.length_drop, List.length_replicate, List.length_cons, List.length_nil, List.length_map, hRlen]; omega)]
        have hR2l : R2.length = cap' := by rw [← hR2]; simp only [List.length_append, List.length_take, List.length_drop, List.length_replicate, List.length_cons, List.length_nil, List.length_map, hRlen, hR1l]; omega
        have hR25 : ∀ r ∈ R2, r.length = 5 := by rw [← hR2]; exact app5 (app5 (tk5 hR1) (tk5 hx5)) (dr5 hR1)
        have hR2t : R2.take (i + 1) = R.take i ++ [x.c] := by
          rw [← hR2, hR1t, List.take_append_of_le_length (by simp only [List.length_append, List.length_take, List.length_drop, List.length_replicate, List.length_cons, List.length_nil, List.length_map, hRlen]; omega), List.take_of_length_le (by simp only [List.length_append, List.length_take, List.length_drop, List.length_replicate, List.length_cons, List.length_nil, List.length_map, hRlen]; omega)]
          rfl
        simp only [Int.toNat_natCast, Nat.zero_add]
        refine SemG.go (Sem.copy' (lo := i) (n := N + 1 - i) (c := cap' - i) (m := 1) (R := R1) (R2 := R2) (src := [x.c]) ((T.ti 27).el 61 rfl) (by kernel_rfl : 5 = Tryz.prog.cellsOf 61) rfl (by rw [hR1e]; rfl) hR1 (by omega) (.inl ⟨_, rfl, hx5⟩) (fun r hr => (hat r (List.mem_of_mem_take hr)).2) (by rw [hx1]; omega) hR2 ?_)
        conv => whnf
        refine Nd.go (by kernel_rfl) ?_; conv => whnf
        rw [e3]
        refine Nd.go ⟨by omega, by omega⟩ ?_; conv => whnf
        refine Nd.go ⟨by omega, by omega⟩ ?_; conv => whnf
        obtain ⟨R3, hR3⟩ : ∃ R3, R2.take (i + 1) ++ ((R.drop i).take (N - i)).take (N - i) ++ R2.drop (i + 1 + (N - i)) = R3 := ⟨_, rfl⟩
        have hsl : ((R.drop i).take (N - i)).length = N - i := by simp only [List.length_append, List.length_take, List.length_drop, List.length_replicate, List.length_cons, List.length_nil, List.length_map, hRlen]; omega
        have hR3l : R3.length = cap' := by rw [← hR3]; simp only [List.length_append, List.length_take, List.length_drop, List.length_replicate, List.length_cons, List.length_nil, List.length_map, hRlen, hR2l]; omega
        have hR35 : ∀ r ∈ R3, r.length = 5 := by rw [← hR3]; exact app5 (app5 (tk5 hR25) (tk5 (tk5 (dr5 hRl)))) (dr5 hR25)
        simp only [Int.toNat_natCast, Nat.zero_add]
        refine SemG.go (Sem.copy' (lo := i + 1) (n := N + 1 - (i + 1)) (c := cap' - (i + 1)) (m := N - i) (R := R2) (R2 := R3) (src := (R.drop i).take (N - i)) ((T.ti 27).el 61 rfl) (by kernel_rfl : 5 = Tryz.prog.cellsOf 61) rfl rfl hR25 (by omega) (.inr ⟨0, i, N - i, cap - i, R, rfl, rfl, hRl, by omega, rfl⟩) (fun r hr => hsrcat r (List.mem_of_mem_take hr)) (by rw [hsl]; omega) hR3 ?_)
        conv => whnf
        refine retMs (R := R3) rfl hR3l hR35 hc1' hc2 ?_
        rw [← hR3, List.take_append_of_le_length (by simp only [List.length_append, List.length_take, List.length_drop, List.length_replicate, List.length_cons, List.length_nil, List.length_map, hRlen, hR2l]; omega), List.take_of_length_le (by simp only [List.length_append, List.length_take, List.length_drop, List.length_replicate, List.length_cons, List.length_nil, List.length_map, hRlen, hR2l]; omega), hR2t, hmid, hfst, hmt]
        rw [List.map_append, List.map_cons, List.append_assoc]; rfl
      · have hg : N + 1 ≤ cap := by have := of_decide_eq_false hq2; omega
        rw [e4]
        refine Nd.go ⟨by omega, by omega⟩ ?_; conv => whnf
        rw [e3]
        refine Nd.go ⟨by omega, by omega⟩ ?_; conv => whnf
        simp only [Int.toNat_natCast, Nat.zero_add]
        refine SemG.go (Sem.overlaps (ty := 27) (tR := 4) (ys := [x.c]) (R := R) rfl Tryz.func192 (by kernel_rfl) (by kernel_rfl) (by kernel_rfl) (by kernel_rfl) ((T.ti 27).el 61 rfl) rfl (by simp) (fun r hr => by simp at hr; subst hr; simp [GCell.c]) rfl rfl hRl ?_); conv => whnf
        refine Br.T ?_; conv => whnf
        refine Nd.go (by kernel_rfl) ?_; conv => whnf
        rw [e3]
        refine Nd.go ⟨by omega, by omega⟩ ?_; conv => whnf
        refine Nd.go ⟨by omega, by omega⟩ ?_; conv => whnf
        have hmid2 : ((R.drop i).take (N + 1 - i)).take (N - i) = (l.drop i).map GCell.c := by rw [List.take_take, Nat.min_eq_left (by omega)]; exact hmid
        obtain ⟨R2, hR2⟩ : ∃ R2, R.take (i + 1) ++ ((R.drop i).take (N + 1 - i)).take (N - i) ++ R.drop (i + 1 + (N - i)) = R2 := ⟨_, rfl⟩
        have hR2l : R2.length = cap := by rw [← hR2]; simp only [List.length_append, List.length_take, List.length_drop, List.length_replicate, List.length_cons, List.length_nil, List.length_map, hRlen]; omega
        have hR25 : ∀ r ∈ R2, r.length = 5 := by rw [← hR2]; exact app5 (app5 (tk5 hRl) (tk5 (tk5 (dr5 hRl)))) (dr5 hRl)
        simp only [Int.toNat_natCast, Nat.zero_add]
        refine SemG.go (Sem.copy' (lo := i + 1) (n := N + 1 - (i + 1)) (c := cap - (i + 1)) (m := N - i) (R := R) (R2 := R2) (src := (R.drop i).take (N + 1 - i)) ((T.ti 27).el 61 rfl) (by kernel_rfl : 5 = Tryz.prog.cellsOf 61) rfl rfl hRl (by omega) (.inr ⟨0, i, N + 1 - i, cap - i, R, rfl, rfl, hRl, by omega, rfl⟩) (fun r hr => by
          rw [hmid2] at hr
          obtain ⟨y, _, rfl⟩ := List.mem_map.1 hr
          rfl) (by simp only [List.length_append, List.length_take, List.length_drop, List.length_replicate, List.length_cons, List.length_nil, List.length_map, hRlen]; omega) hR2 ?_)
        conv => whnf
        refine Nd.go ⟨by omega, by omega⟩ ?_; conv => whnf
        obtain ⟨R3, hR3⟩ : ∃ R3, R2.take i ++ [x.c].take 1 ++ R2.drop (i + 1) = R3 := ⟨_, rfl⟩
        have hR3l : R3.length = cap := by rw [← hR3]; simp only [List.length_append, List.length_take, List.length_drop, List.length_replicate, List.length_cons, List.length_nil, List.length_map, hRlen, hR2l]; omega
        have hR35 : ∀ r ∈ R3, r.length = 5 := by rw [← hR3]; exact app5 (app5 (tk5 hR25) (tk5 hx5)) (dr5 hR25)
        simp only [Int.toNat_natCast, Nat.zero_add]
        refine SemG.go (Sem.copy' (lo := i) (n := N + 1 - i) (c := cap - i) (m := 1) (R := R2) (R2 := R3) (src := [x.c]) ((T.ti 27).el 61 rfl) (by kernel_rfl : 5 = Tryz.prog.cellsOf 61) rfl rfl hR25 (by omega) (.inl ⟨_, rfl, hx5⟩) (fun r hr => (hat r (List.mem_of_mem_take hr)).2) (by rw [hx1]; omega) hR3 ?_)
        conv => whnf
        refine retMs (R := R3) rfl hR3l hR35 hg hm ?_
        have h1 : R2.take i = R.take i := by
          rw [← hR2, List.append_assoc, List.take_append_of_le_length (by simp only [List.length_append, List.length_take, List.length_drop, List.length_replicate, List.length_cons, List.length_nil, List.length_map, hRlen]; omega), List.take_take, Nat.min_eq_left (by omega)]
        have h2 : R2.drop (i + 1) = (l.drop i).map GCell.c ++ R.drop (i + 1 + (N - i)) := by
          rw [← hR2, hmid2, List.append_assoc]
          have : (R.take (i + 1)).length = i + 1 := by simp only [List.length_append, List.length_take, List.length_drop, List.length_replicate, List.length_cons, List.length_nil, List.length_map, hRlen]; omega
          exact List.drop_left' this
        rw [← hR3, h1, h2, ← List.append_assoc, List.take_append_of_le_length (by simp only [List.length_append, List.length_take, List.length_drop, List.length_replicate, List.length_cons, List.length_nil, List.length_map, hRlen]; omega), List.take_of_length_le (by simp only [List.length_append, List.length_take, List.length_drop, List.length_replicate, List.length_cons, List.length_nil, List.length_map, hRlen]; omega), hfst]
        rw [List.map_append, List.map_cons, List.append_assoc]; rfl
theorem reqs_rows (l : List GReq) : ∀ x ∈ l.map GReq.c, x.length = 7 := fun x hx => by obtain ⟨y, _, rfl⟩ := List.mem_map.1 hx; rfl
theorem reqs_pure (l : List GReq) : ∀ row ∈ l.map GReq.c, ∀ y ∈ row, pure0 y = true ∧ forget0 y = y := fun row hr y hy => by
  obtain ⟨x, _, rfl⟩ := List.mem_map.1 hr
  simp [GReq.c] at hy
  rcases hy with rfl | rfl | rfl | rfl | rfl | rfl | rfl <;> exact ⟨rfl, rfl⟩
theorem retMsR {h : AHeap} {id n c : Nat} {R : List (List AV)} {L : List GReq} (hb : h id = .box R.flatten) (hc : R.length = c) (hr : ∀ x ∈ R, x.length = 7) (hn : n ≤ c) (hm : c ≤ maxLen) (ht : R.take n = L.map GReq.c) : RetCG Tryz.prog h 47 7 (L.map GReq.c) [.ms id 0 n c 7] :=
  ⟨_, rfl, R, hb, hc, hr, rfl, hn, hm, by rw [ht]; exact fun x hx y hy => (reqs_pure L x hx y hy).1, by rw [ht, List.map_map]; rfl⟩
theorem D175 (l : List GReq) (i : Nat) (x : GReq) (hi : i ≤ l.length) (hl : (l.length + 1) * 72 ≤ 140737488355328) :
    SoundC Tryz.prog 175 47 7 (l.map GReq.c) [i64 i, reqsV [x]] ((l.take i ++ x :: l.drop i).map GReq.c) := by
  have hat : ∀ y ∈ [x.c], y.length = 7 ∧ y.all isAtom = true := fun y hy => by simp at hy; subst hy; exact ⟨rfl, rfl⟩
  refine exC_intro mixedT T [cutX 11 8, cutX 15 8] Tryz.func175 rfl (by rw [Tryz.ntmps175]; simp) (by kernel_rfl) (fun h0 => ?_) (fun cap hc hle hm hrows => ?_)
  · obtain rfl : l = [] := by simpa using h0
    obtain rfl : i = 0 := by simpa using hi
    conv => whnf
    refine Nd.go ⟨by omega, by simp, by simp⟩ ?_; conv => whnf
    refine LenG.go ?_; conv => whnf
    refine Br.F ?_; conv => whnf
    refine LenG.go ?_; conv => whnf
    refine Br.T ?_; conv => whnf
    refine ⟨⟨by rw [show (tb.ti 47).bytes = 72 from rfl]; simp, by simp, hat⟩, ?_⟩; conv => whnf
    exact ⟨_, rfl, rfl, rfl⟩
  · conv => whnf
    generalize hN : (l.map GReq.c).length = N at *
    have hNl : N = l.length := by rw [← hN]; simp
    have hRl : ∀ x ∈ l.map GReq.c ++ padR N cap 7, x.length = 7 := fun x hx => (List.mem_append.1 hx).elim (reqs_rows l x) (padR_len x)
    have hRlen : (l.map GReq.c ++ padR N cap 7).length = cap := by simp [padR]; omega
    have hRt : (l.map GReq.c ++ padR N cap 7).take N = l.map GReq.c := by rw [← hN, List.take_left]
    generalize l.map GReq.c ++ padR N cap 7 = R at hRl hRlen hRt ⊢
    have hmx : cap ≤ 9223372036854775807 := hm
    have hx5 : ∀ r ∈ [x.c], r.length = 7 := fun r hr => (hat r hr).1
    have app5 : ∀ {A A' : List (List AV)}, (∀ r ∈ A, r.length = 7) → (∀ r ∈ A', r.length = 7) → ∀ r ∈ A ++ A', r.length = 7 := fun h h' r hr => (List.mem_append.1 hr).elim (h r) (h' r)
    have tk5 : ∀ {A : List (List AV)} {n : Nat}, (∀ r ∈ A, r.length = 7) → ∀ r ∈ A.take n, r.length = 7 := fun h r hr => h r (List.mem_of_mem_take hr)
    have dr5 : ∀ {A : List (List AV)} {n : Nat}, (∀ r ∈ A, r.length = 7) → ∀ r ∈ A.drop n, r.length = 7 := fun h r hr => h r (List.mem_of_mem_drop hr)
    have bad5 : ∀ {n : Nat}, ∀ r ∈ List.replicate n (List.replicate 7 AV.bad), r.length = 7 := fun r hr => by rw [List.eq_of_mem_replicate hr]; rfl
    have hx1 : [x.c].length = 1 := rfl
    refine Nd.go ⟨by omega, by omega⟩ ?_; conv => whnf
    refine LenG.go ?_; conv => whnf
    refine Br.F ?_; conv => whnf
    refine SemG.go (Sem.lenMs ((T.ti 42).el 47 rfl) rfl ?_); conv => whnf
    have e1 : IntKind.i64.wrap ((N : Int) + 1) = ((N + 1 : Nat) : Int) := by rw [w64 (by omega)]; rfl
    refine Br.mk (fun hq => ?_) (fun hq => ?_) <;> conv => whnf
    · have hiN : i = N := by have : (i : Int) = N := by simpa using hq
                             omega
      refine SemG.go (Sem.appMs (src := [x.c]) (R := R) ((T.ti 42).el 47 rfl) (by kernel_rfl : 7 = Tryz.prog.cellsOf 47) (by decide) (by kernel_rfl) rfl rfl hRl hRlen (.inl ⟨_, rfl, fun r hr => (hat r hr).1⟩) (fun r hr => (hat r hr).2) (by simp) (by rw [show Tryz.prog.bytesOf 47 = 72 by kernel_rfl]; simp; omega) (by simp; omega) (fun hroom => ?_) (fun hg cap' hc1 hc2 => ?_)) <;> conv => whnf
      · subst hiN
        rw [hx1] at hroom
        refine retMsR rfl (by simp only [List.length_append, List.length_take, List.length_drop, List.length_replicate, List.length_cons, List.length_nil, List.length_map, hRlen]; omega) (app5 (app5 (tk5 hRl) hx5) (dr5 hRl)) hroom hm ?_
        rw [List.take_append_of_le_length (by simp only [List.length_append, List.length_take, List.length_drop, List.length_replicate, List.length_cons, List.length_nil, List.length_map, hRlen]; omega), List.take_of_length_le (by simp only [List.length_append, List.length_take, List.length_drop, List.length_replicate, List.length_cons, List.length_nil, List.length_map, hRlen]; omega), hRt, List.take_of_length_le (by omega), List.drop_eq_nil_of_le (by omega)]
        simp
      · subst hiN
        rw [hx1] at hg hc1
        refine retMsR rfl (by simp only [List.length_append, List.length_take, List.length_drop, List.length_replicate, List.length_cons, List.length_nil, List.length_map, hRlen]; omega) (app5 (app5 (tk5 hRl) hx5) bad5) hc1 hc2 ?_
        rw [List.take_append_of_le_length (by simp only [List.length_append, List.length_take, List.length_drop, List.length_replicate, List.length_cons, List.length_nil, List.length_map, hRlen]; omega), List.take_of_length_le (by simp only [List.length_append, List.length_take, List.length_drop, List.length_replicate, List.length_cons, List.length_nil, List.length_map, hRlen]; omega), hRt, List.take_of_length_le (by omega), List.drop_eq_nil_of_le (by omega)]
        simp
    · have hiN : i < N := by have : ¬ (i : Int) = N := by simpa using hq
                             omega
      have e3 : IntKind.i64.wrap ((i : Int) + ((List.map (fun x => GReq.c x) [x]).length : Int)) = ((i + 1 : Nat) : Int) := by rw [show ((i : Int) + ((List.map (fun x => GReq.c x) [x]).length : Int)) = (i : Int) + 1 from rfl, w64 (by omega)]; rfl
      have e4 : IntKind.i64.wrap ((N : Int) + ((List.map (fun x => GReq.c x) [x]).length : Int)) = ((N + 1 : Nat) : Int) := e1
      have hmid : (R.drop i).take (N - i) = (l.drop i).map GReq.c := by rw [← List.drop_take, hRt, List.map_drop]
      have hmt : ((l.drop i).map GReq.c).take (N - i) = (l.drop i).map GReq.c := List.take_of_length_le (by simp; omega)
      have hfst : R.take i = (l.take i).map GReq.c := by
        have := congrArg (List.take i) hRt
        rw [List.take_take, Nat.min_eq_left (by omega)] at this
        rw [this, List.map_take]
      have hsrcat : ∀ r ∈ (R.drop i).take (N - i), r.all isAtom = true := by
        rw [hmid]; intro r hr
        obtain ⟨y, _, rfl⟩ := List.mem_map.1 hr
        rfl
      refine SemG.go (Sem.capMs ((T.ti 42).el 47 rfl) rfl ?_); conv => whnf
      rw [e4]
      refine Br.mk (fun hq2 => ?_) (fun hq2 => ?_) <;> conv => whnf
      · have hg : cap < N + 1 := by have := of_decide_eq_true hq2; omega
        refine Nd.go ⟨by omega, by omega⟩ ?_; conv => whnf
        refine SemG.go (Sem.appZ (k := .i64) (m := N + 1 - i) (n := i) (R := R) (kn := .i64) ((T.ti 42).el 47 rfl) (by kernel_rfl) (by kernel_rfl : 7 = Tryz.prog.cellsOf 47) (by decide) (by kernel_rfl) rfl rfl hRl hRlen ?_ (by omega) (by omega) (by rw [show Tryz.prog.bytesOf 47 = 72 by kernel_rfl]; omega) (by omega) (fun cap' hc1 hc2 => ?_))
        · show AV.int _ (IntKind.i64.wrap (IntKind.i64.wrap ((N : Int) + 1) - (i : Int))) = _
          rw [e1, w64 (by omega)]
          congr 1; omega
        have hc1' : N + 1 ≤ cap' := by omega
        rw [show i + (N + 1 - i) = N + 1 by omega]
        have hcx : cap' ≤ 9223372036854775807 := hc2
        conv => whnf
        refine Nd.go ⟨by omega, by omega⟩ ?_; conv => whnf
        have hR1 : ∀ r ∈ R.take i ++ List.replicate (cap' - i) (List.replicate 7 AV.bad), r.length = 7 := app5 (tk5 hRl) bad5
        have hR1l : (R.take i ++ List.replicate (cap' - i) (List.replicate 7 AV.bad)).length = cap' := by simp only [List.length_append, List.length_take, List.length_drop, List.length_replicate, List.length_cons, List.length_nil, List.length_map, hRlen]; omega
        obtain ⟨R1, hR1e⟩ : ∃ R1, R1 = R.take i ++ List.replicate (cap' - i) (List.replicate 7 AV.bad) := ⟨_, rfl⟩
        rw [← hR1e] at hR1 hR1l
        obtain ⟨R2, hR2⟩ : ∃ R2, R1.take i ++ [x.c].take 1 ++ R1.drop (i + 1) = R2 := ⟨_, rfl⟩
        have hR1t : R1.take i = R.take i := by rw [hR1e, List.take_append_of_le_length (by simp only [List.length_append, List.length_take, List.length_drop, List.length_replicate, List.length_cons, List.length_nil, List.length_map, hRlen]; omega), List.take_of_length_le (by simp only [List.length_append, List.length_take, List.length_drop, List.length_replicate, List.length_cons, List.length_nil, List.length_map, hRlen]; omega)]
        have hR2l : R2.length = cap' := by rw [← hR2]; simp only [List.length_append, List.length_take, List.length_drop, List.length_replicate, List.length_cons, List.length_nil, List.length_map, hRlen, hR1l]; omega
        have hR25 : ∀ r ∈ R2, r.length = 7 := by rw [← hR2]; exact app5 (app5 (tk5 hR1) (tk5 hx5)) (dr5 hR1)
        have hR2t : R2.take (i + 1) = R.take i ++ [x.c] := by
          rw [← hR2, hR1t, List.take_append_of_le_length (by simp only [List.length_append, List.length_take, List.length_drop, List.length_replicate, List.length_cons, List.length_nil, List.length_map, hRlen]; omega), List.take_of_length_le (by simp only [List.length_append, List.length_take, List.length_drop, List.length_replicate, List.length_cons, List.length_nil, List.length_map, hRlen]; omega)]
          rfl
        simp only [Int.toNat_natCast, Nat.zero_add]
        refine SemG.go (Sem.copy' (lo := i) (n := N + 1 - i) (c := cap' - i) (m := 1) (R := R1) (R2 := R2) (src := [x.c]) ((T.ti 42).el 47 rfl) (by kernel_rfl : 7 = Tryz.prog.cellsOf 47) rfl (by rw [hR1e]; rfl) hR1 (by omega) (.inl ⟨_, rfl, hx5⟩) (fun r hr => (hat r (List.mem_of_mem_take hr)).2) (by rw [hx1]; omega) hR2 ?_)
        conv => whnf
        refine Nd.go (by kernel_rfl) ?_; conv => whnf
        rw [e3]
        refine Nd.go ⟨by omega, by omega⟩ ?_; conv => whnf
        refine Nd.go ⟨by omega, by omega⟩ ?_; conv => whnf
        obtain ⟨R3, hR3⟩ : ∃ R3, R2.take (i + 1) ++ ((R.drop i).take (N - i)).take (N - i) ++ R2.drop (i + 1 + (N - i)) = R3 := ⟨_, rfl⟩
        have hsl : ((R.drop i).take (N - i)).length = N - i := by simp only [List.length_append, List.length_take, List.length_drop, List.length_replicate, List.length_cons, List.length_nil, List.length_map, hRlen]; omega
        have hR3l : R3.length = cap' := by rw [← hR3]; simp only [List.length_append, List.length_take, List.length_drop, List.length_replicate, List.length_cons, List.length_nil, List.length_map, hRlen, hR2l]; omega
        have hR35 : ∀ r ∈ R3, r.length = 7 := by rw [← hR3]; exact app5 (app5 (tk5 hR25) (tk5 (tk5 (dr5 hRl)))) (dr5 hR25)
        simp only [Int.toNat_natCast, Nat.zero_add]
        refine SemG.go (Sem.copy' (lo := i + 1) (n := N + 1 - (i + 1)) (c := cap' - (i + 1)) (m := N - i) (R := R2) (R2 := R3) (src := (R.drop i).take (N - i)) ((T.ti 42).el 47 rfl) (by kernel_rfl : 7 = Tryz.prog.cellsOf 47) rfl rfl hR25 (by omega) (.inr ⟨0, i, N - i, cap - i, R, rfl, rfl, hRl, by omega, rfl⟩) (fun r hr => hsrcat r (List.mem_of_mem_take hr)) (by rw [hsl]; omega) hR3 ?_)
        conv => whnf
        refine retMsR (R := R3) rfl hR3l hR35 hc1' hc2 ?_
        rw [← hR3, List.take_append_of_le_length (by simp only [List.length_append, List.length_take, List.length_drop, List.length_replicate, List.length_cons, List.length_nil, List.length_map, hRlen, hR2l]; omega), List.take_of_length_le (by simp only [List.length_append, List.length_take, List.length_drop, List.length_replicate, List.length_cons, List.length_nil, List.length_map, hRlen, hR2l]; omega), hR2t, hmid, hfst, hmt]
        rw [List.map_append, List.map_cons, List.append_assoc]; rfl
      · have hg : N + 1 ≤ cap := by have := of_decide_eq_false hq2; omega
        rw [e4]
        refine Nd.go ⟨by omega, by omega⟩ ?_; conv => whnf
        rw [e3]
        refine Nd.go ⟨by omega, by omega⟩ ?_; conv => whnf
        simp only [Int.toNat_natCast, Nat.zero_add]
        refine SemG.go (Sem.overlaps (ty := 42) (tR := 4) (ys := [x.c]) (R := R) rfl Tryz.func242 (by kernel_rfl) (by kernel_rfl) (by kernel_rfl) (by kernel_rfl) ((T.ti 42).el 47 rfl) rfl (by simp) (fun r hr => by simp at hr; subst hr; simp [GReq.c]) rfl rfl hRl ?_); conv => whnf
        refine Br.T ?_; conv => whnf
        refine Nd.go (by kernel_rfl) ?_; conv => whnf
        rw [e3]
        refine Nd.go ⟨by omega, by omega⟩ ?_; conv => whnf
        refine Nd.go ⟨by omega, by omega⟩ ?_; conv => whnf
        have hmid2 : ((R.drop i).take (N + 1 - i)).take (N - i) = (l.drop i).map GReq.c := by rw [List.take_take, Nat.min_eq_left (by omega)]; exact hmid
        obtain ⟨R2, hR2⟩ : ∃ R2, R.take (i + 1) ++ ((R.drop i).take (N + 1 - i)).take (N - i) ++ R.drop (i + 1 + (N - i)) = R2 := ⟨_, rfl⟩
        have hR2l : R2.length = cap := by rw [← hR2]; simp only [List.length_append, List.length_take, List.length_drop, List.length_replicate, List.length_cons, List.length_nil, List.length_map, hRlen]; omega
        have hR25 : ∀ r ∈ R2, r.length = 7 := by rw [← hR2]; exact app5 (app5 (tk5 hRl) (tk5 (tk5 (dr5 hRl)))) (dr5 hRl)
        simp only [Int.toNat_natCast, Nat.zero_add]
        refine SemG.go (Sem.copy' (lo := i + 1) (n := N + 1 - (i + 1)) (c := cap - (i + 1)) (m := N - i) (R := R) (R2 := R2) (src := (R.drop i).take (N + 1 - i)) ((T.ti 42).el 47 rfl) (by kernel_rfl : 7 = Tryz.prog.cellsOf 47) rfl rfl hRl (by omega) (.inr ⟨0, i, N + 1 - i, cap - i, R, rfl, rfl, hRl, by omega, rfl⟩) (fun r hr => by
          rw [hmid2] at hr
          obtain ⟨y, _, rfl⟩ := List.mem_map.1 hr
          rfl) (by simp only [List.length_append, List.length_take, List.length_drop, List.length_replicate, List.length_cons, List.length_nil, List.length_map, hRlen]; omega) hR2 ?_)
        conv => whnf
        refine Nd.go ⟨by omega, by omega⟩ ?_; conv => whnf
        obtain ⟨R3, hR3⟩ : ∃ R3, R2.take i ++ [x.c].take 1 ++ R2.drop (i + 1) = R3 := ⟨_, rfl⟩
        have hR3l : R3.length = cap := by rw [← hR3]; simp only [List.length_append, List.length_take, List.length_drop, List.length_replicate, List.length_cons, List.length_nil, List.length_map, hRlen, hR2l]; omega
        have hR35 : ∀ r ∈ R3, r.length = 7 := by rw [← hR3]; exact app5 (app5 (tk5 hR25) (tk5 hx5)) (dr5 hR25)
        simp only [Int.toNat_natCast, Nat.zero_add]
        refine SemG.go (Sem.copy' (lo := i) (n := N + 1 - i) (c := cap - i) (m := 1) (R := R2) (R2 := R3) (src := [x.c]) ((T.ti 42).el 47 rfl) (by kernel_rfl : 7 = Tryz.prog.cellsOf 47) rfl rfl hR25 (by omega) (.inl ⟨_, rfl, hx5⟩) (fun r hr => (hat r (List.mem_of_mem_take hr)).2) (by rw [hx1]; omega) hR3 ?_)
        conv => whnf
        refine retMsR (R := R3) rfl hR3l hR35 hg hm ?_
        have h1 : R2.take i = R.take i := by
          rw [← hR2, List.append_assoc, List.take_append_of_le_length (by simp only [List.length_append, List.length_take, List.length_drop, List.length_replicate, List.length_cons, List.length_nil, List.length_map, hRlen]; omega), List.take_take, Nat.min_eq_left (by omega)]
        have h2 : R2.drop (i + 1) = (l.drop i).map GReq.c ++ R.drop (i + 1 + (N - i)) := by
          rw [← hR2, hmid2, List.append_assoc]
          have : (R.take (i + 1)).length = i + 1 := by simp only [List.length_append, List.length_take, List.length_drop, List.length_replicate, List.length_cons, List.length_nil, List.length_map, hRlen]; omega
          exact List.drop_left' this
        rw [← hR3, h1, h2, ← List.append_assoc, List.take_append_of_le_length (by simp only [List.length_append, List.length_take, List.length_drop, List.length_replicate, List.length_cons, List.length_nil, List.length_map, hRlen]; omega), List.take_of_length_le (by simp only [List.length_append, List.length_take, List.length_drop, List.length_replicate, List.length_cons, List.length_nil, List.length_map, hRlen]; omega), hfst]
        rw [List.map_append, List.map_cons, List.append_assoc]; rfl
end Go.Proofs.YtbaajjihhdmdpaaGreatDoor
