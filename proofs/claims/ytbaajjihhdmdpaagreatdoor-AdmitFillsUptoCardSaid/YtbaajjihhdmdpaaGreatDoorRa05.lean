/- Calls that take a slice of the machine's own over, or turn it in place. · MADE BY PROGRAM (wip/gen/lib2.py): library functions on slices of the machine's own: Clone. · A slice into an own box is lent for a call. · slices.DeleteFunc on an own slice of cells. · slices.Compact on own slices. · slices.SortFunc on own slices, by the kit's contract. · The program's orders; its lists sorted. · slices.Insert on own slices. · MADE BY PROGRAM (wip/gen/lib4.py): slices.Insert on own slices of requests. No condition. -/
import Derived.Test.YtbaajjihhdmdpaaGreatDoorRa04
import Derived.Shelf.SlSortCmp.NoneTotal
import Derived.Shelf.SlGeneric
import Derived.Ground.SlsfProg

namespace Go.Proofs.YtbaajjihhdmdpaaGreatDoor
open Go.RowKit
set_option linter.unusedVariables false
set_option linter.unusedSimpArgs false
set_option linter.unnecessarySimpa false
set_option linter.unusedSectionVars false
variable [Lax]

/-- Called with a slice nothing of which is closed, and these values, the function gives nothing back; the slice holds other elements then; but for its block it turns nothing that was there. -/
def SoundM (P : Program) (f : FuncId) (e : TypeId) (sz : Nat) (xs : List (List AV)) (az : List AV) (ys : List (List AV)) : Prop :=
  ∀ (S : Nat → Nat → Prop) (W : World) (B : Nat) (u : Value) (us : List Value), TabB P B W → (∀ b o, S b o → (W.cell? ⟨b, o, none⟩).isSome = true) → B ≤ W.heap.size → FreshV P S W B e sz xs u → us.length = az.length →
    (∀ j x, az[j]? = some x → Rep S W x (us.getD j Go.undef)) →
    Calls P f (u :: us).toArray W fun en W' => ∃ (S' : Nat → Nat → Prop), en = .returned (.tuple #[]) ∧ Keeps (fun k => k < W.heap.size ∧ ownBlk u ≠ some k) B S W S' W' ∧ FreshV P S' W' B e sz ys u

section
variable {P : Program} {C : Ctx} {h : AHeap} {W : World} {B : Nat}

theorem Inv.turn (I : Inv P C h W B) {t : Nat} {e : TypeId} {sz : Nat} {xs ys : List (List AV)} (ht : h t = .fresh e sz xs) {S' : Nat → Nat → Prop} {W' : World} (hk : Keeps (fun k => k < W.heap.size ∧ ownBlk (C.θ t) ≠ some k) B C.S W S' W') (hf : FreshV P S' W' B e sz ys (C.θ t)) :
    Inv P { C with S := S' } (upd h t (.fresh e sz ys)) W' B ∧ Le C h W { C with S := S' } (upd h t (.fresh e sz ys)) W' := by
  have hot : ∀ b, ownBlk (C.θ t) = some b → (h t).ownBlock C t = some b := fun b hb => by rw [ht]; exact hb
  have hK : ∀ id b, id ≠ t → (h id).ownBlock C id = some b → b < W.heap.size ∧ ownBlk (C.θ t) ≠ some b := fun id b hid hb => ⟨(I.own_lt hb).2, fun e => hid (I.apart id t b hb (hot b e))⟩
  have hKT : ∀ b, C.T b → b < W.heap.size ∧ ownBlk (C.θ t) ≠ some b := fun b hb => ⟨(I.tn b hb).1, fun e => (I.tn b hb).2 t (hot b e)⟩
  have ho : ∀ id b, (upd h t (.fresh e sz ys) id).ownBlock { C with S := S' } id = some b → (h id).ownBlock C id = some b := fun id b hb => by
    by_cases e1 : id = t
    · subst e1; rw [upd_self] at hb; exact hot b hb
    · rw [upd_ne _ e1] at hb
      cases hh : h id <;> rw [hh] at hb <;> exact hb
  have l : Le C h W { C with S := S' } (upd h t (.fresh e sz ys)) W' := by
    refine ⟨hk.clS, hk.clW, fun k => ?_, fun _ _ => rfl, fun _ _ => rfl, rfl, rfl, rfl, fun b hb => hk.keep b (hKT b hb), fun b o hs => (hk.nb b o hs).imp id fun hq htb => hq.1 (hKT b htb)⟩
    by_cases e : k = t
    · subst e; rw [upd_self, ht]; exact ⟨rfl, rfl⟩
    · rw [upd_ne _ e]; exact HOle.refl _
  have ne : ∀ {k : Nat} {ob : HO}, (∀ zs, ob ≠ .fresh e sz zs) → upd h t (.fresh e sz ys) k = ob → k ≠ t ∧ h k = ob := fun {k ob} hob hq => by
    by_cases e : k = t
    · subst e; rw [upd_self] at hq; exact absurd hq.symm (hob _)
    · rw [upd_ne _ e] at hq; exact ⟨e, hq⟩
  refine ⟨⟨hk.has, Nat.le_trans I.base hk.below.size, fun id cs hp => ?_, fun id cs hp q hs => ?_, fun id cs hp q hq => ?_, fun t' e' sz' n ht' => ?_, fun i j b hi hj => I.apart i j b (ho i b hi) (ho j b hj), fun b q hs => (hk.nb b q hs).elim (I.news b q) fun hq => .inr hq.2,
    fun b hb => ⟨Nat.lt_of_lt_of_le (I.tn b hb).1 hk.below.size, fun id hid => (I.tn b hb).2 id (ho id b hid)⟩, I.mn, fun b q hs => hk.clS _ _ (I.ss b q hs), I.tb.keep fun b hb _ => hk.below.block b hb, fun t' e' sz' xs' ht' => ?_⟩, l⟩
  · have hid : id ≠ t := fun e1 => by subst e1; rw [upd_self] at hp; cases hp
    rw [upd_ne _ hid] at hp
    obtain ⟨us, ty, h1, h2, h3, h4⟩ := I.box id cs hp
    have hob : (h id).ownBlock C id = some (C.ι id) := by cases hh : h id <;> rw [hh] at hp <;> simp_all [HO.peek, HO.ownBlock]
    exact ⟨us, ty, by rw [hk.keep _ (hK id _ hid hob)]; exact h1, h2, h3, fun j x hx => (h4 j x hx).le l⟩
  · obtain ⟨hid, hp⟩ := ne (by simp) hp
    rcases hk.nb _ _ hs with h1 | h1
    · exact I.unsealed id cs hp q h1
    · exact h1.1 (hK id _ hid (by rw [hp]; rfl))
  · obtain ⟨hid, hp⟩ := ne (by simp) hp
    exact hk.clS _ _ (I.isSealed id cs hp q hq)
  · obtain ⟨hid, hp⟩ := ne (by simp) ht'
    refine ⟨(I.live t' e' sz' n hp).1, (I.live t' e' sz' n hp).2.keep (fun g _ hv => hk.keep g (hK t' g hid (by rw [hp]; exact hv))) (fun g hv q hs => ?_)⟩
    rcases hk.nb _ _ hs with h1 | h1
    · exact h1
    · exact absurd (hK t' g hid (by rw [hp]; exact hv)) h1.1
  · by_cases e1 : t' = t
    · subst e1
      rw [upd_self] at ht'
      cases ht'
      exact hf
    · rw [upd_ne _ e1] at ht'
      refine (I.fr t' e' sz' xs' ht').keep (fun g _ hv => hk.keep g (hK t' g e1 (by rw [ht']; exact hv))) hk.clS hk.clW (fun g hv q hs => ?_)
      rcases hk.nb _ _ hs with h1 | h1
      · exact h1
      · exact absurd (hK t' g e1 (by rw [ht']; exact hv)) h1.1

variable {i : Nat} {o : Oper} {a : Act} {t : Nat → AV} {next : Act → World → Prop} {Q : Exit → Act → World → Prop} {K : AV → AHeap → Prop}

theorem sealH_fresh {ids : List Nat} {tg : Nat} {e : TypeId} {sz : Nat} {xs : List (List AV)} (hb : h tg = .fresh e sz xs) : sealH h ids tg = .fresh e sz xs := by
  unfold sealH
  split
  · rw [hb]; rfl
  · exact hb
theorem sealH_none {ids : List Nat} {k : Nat} (hb : h k = .none) : sealH h ids k = .none := by
  unfold sealH
  split
  · rw [hb]; rfl
  · exact hb
theorem killF_none {kill : Option Nat} {k : Nat} (hb : h k = .none) (hk : ∀ tg, kill = some tg → h tg ≠ .none) : killF h kill k = .none := by
  cases kill with
  | none => exact hb
  | some tg =>
    show upd h tg .dead k = .none
    rw [upd_ne _ (fun e => by subst e; exact hk _ rfl hb)]; exact hb

/-- What a call with an own slice comes to: the other arguments are closed. -/
theorem call_pre (I : Inv P C h W B) (hρ : ∀ n, RepT C W h (t n) (a.tmps.getD n Go.undef)) {f x : Operand} {rest : List Operand} {args : Array Operand} {ts : Array TypeId} {g : FuncId} {e : TypeId} {sz : Nat} {kill : Option Nat} {xs : List (List AV)} {az : List AV} {ids : List Nat}
    (hop : o.op = .call { callee := .value f, args := args, argTypes := ts }) (hf : evA t f = .fn g []) (ha : args.toList = x :: rest) (hsz : sz = P.cellsOf e) (h0 : 0 < sz) (hx : ownF t h x e sz kill xs)
    (hp : passAll h (rest.map (evA t)) = some (az, ids)) (hfun : ∃ fn c, P.funcs[g]? = some fn ∧ fn.body = some c ∧ fn.name ≠ "runtime.NumGoroutine") :
    ∃ (u : Value) (us : List Value), (execOp a.eval o).run P W = .ok (.enter g (u :: us).toArray) W ∧ Inv P { C with S := sealS C h ids } (sealH h ids) W B ∧ Le C h W { C with S := sealS C h ids } (sealH h ids) W ∧ u = a.eval x ∧
      us.length = az.length ∧ (∀ j x, az[j]? = some x → Rep (sealS C h ids) W x (us.getD j Go.undef)) ∧ ownF t (sealH h ids) x e sz kill xs ∧ FreshV P (sealS C h ids) W B e sz xs u ∧ ∀ g, ownBlk u = some g → (∀ id, (killF (sealH h ids) kill id).ownBlock C id ≠ some g) ∧ ¬ C.T g := by
  obtain ⟨I1, l1⟩ := I.close ids
  have ef : a.eval f = .func (.func g) #[] #[] := by
    have := evA_rep hρ f
    rw [hf] at this
    obtain ⟨us, h1, h2, _⟩ := this
    have : us = [] := List.eq_nil_of_length_eq_zero h2
    subst this; exact h1
  obtain ⟨fn, c, hfn, hbody, hname⟩ := hfun
  have hvals : ∀ j x, (rest.map (evA t))[j]? = some x → RepT C W h x ((rest.map a.eval).getD j Go.undef) := by
    intro j x hx
    rw [List.getElem?_map] at hx
    obtain ⟨y, hy, rfl⟩ := Option.map_eq_some_iff.1 hx
    rw [List.getD_eq_getElem?_getD, List.getElem?_map, hy]
    exact evA_rep hρ y
  obtain ⟨hlen, hrep⟩ := passAll_rep I (S' := sealS C h ids) (fun _ _ hs => .inl hs) _ az ids _ hvals hp (fun id hid cs hk => sealS_peek I hid hk)
  have hx1 : ownF t (sealH h ids) x e sz kill xs := by
    cases kill with
    | none => exact hx
    | some tg => exact ⟨hx.1, sealH_fresh hx.2⟩
  obtain ⟨hf1, hfree⟩ := ownF_val (a := a) I1 (fun n => (hρ n).le l1) hsz h0 hx1
  refine ⟨a.eval x, rest.map a.eval, ?_, I1, l1, rfl, by simp at hlen ⊢; omega, hrep, hx1, hf1, hfree⟩
  have hne : (fn.name == "runtime.NumGoroutine") = false := by simpa using hname
  have harr : args.map a.eval ++ #[] = (a.eval x :: rest.map a.eval).toArray := by
    apply Array.ext'
    rw [← List.map_cons, ← ha]; simp
  have harr2 : #[] ++ args.map a.eval ++ #[] = (a.eval x :: rest.map a.eval).toArray := by rw [Array.empty_append, harr]
  simp only [execOp, hop, resolve, ef, Deferred.ofValue, Sem.run_bind, Sem.run_pure, Result.andThen_ok, invoke, callFunc, run_program, hfn, hne]
  try simp only [harr2, harr]
  simp [hbody]

theorem Sem.cons {f x : Operand} {rest : List Operand} {args : Array Operand} {ts : Array TypeId} {g : FuncId} {e : TypeId} {sz : Nat} {kill : Option Nat} {xs r : List (List AV)} {az : List AV} {ids : List Nat}
    (hf : evA t f = .fn g []) (ha : args.toList = x :: rest) (hx : ownF t h x e sz kill xs) (hsz : sz = P.cellsOf e) (h0 : 0 < sz)
    (hp : passAll h (rest.map (evA t)) = some (az, ids)) (hfun : ∃ fn c, P.funcs[g]? = some fn ∧ fn.body = some c ∧ fn.name ≠ "runtime.NumGoroutine") (hs : SoundC P g e sz xs az r)
    (hK : sealAll ids h fun h' => K (.sl (.tag i) r) (upd (killF h' kill) i (.live e sz r.length))) : SemOp P i t h (.call { callee := .value f, args := args, argTypes := ts }) K := by
  refine ⟨fun c e => (by cases e), fun o a C W B next Q hop I hρ hi hn => ?_⟩
  have hK := sealAll_sound ids h _ hK
  change K (.sl (.tag i) r) (upd (killF (sealH h ids) kill) i (.live e sz r.length)) at hK
  obtain ⟨u, us, hrun, I1, l1, rfl, hlen, hrep, hx1, hf1, hfree⟩ := call_pre I hρ hop hf ha hsz h0 hx hp hfun
  obtain ⟨I2, l2⟩ := I1.giveO hx1
  have hkn : ∀ tg, kill = some tg → h tg ≠ .none := fun tg e1 => by subst e1; rw [hx.2]; simp
  have hkn1 : ∀ tg, kill = some tg → sealH h ids tg ≠ .none := fun tg e1 => by subst e1; rw [hx1.2]; simp
  unfold Oper.wp
  rw [hrun]
  refine (hs _ W B _ us I.tb I1.has I1.base hf1 hlen hrep).mono ?_
  rintro en W' ⟨u', S', rfl, hk, hret, hown⟩
  have hKo : ∀ id b, (killF (sealH h ids) kill id).ownBlock C id = some b → b < W.heap.size ∧ ownBlk (a.eval x) ≠ some b := fun id b hb => ⟨(I2.own_lt (id := id) hb).2, fun e1 => (hfree b e1).1 id hb⟩
  have hKT : ∀ b, C.T b → b < W.heap.size ∧ ownBlk (a.eval x) ≠ some b := fun b hb => ⟨(I.tn b hb).1, fun e1 => (hfree b e1).2 hb⟩
  obtain ⟨I3, l3⟩ := I2.other (C' := { C with S := S' }) (W' := W') ⟨fun b hb _ => hk.below.block b hb, hk.below.size, fun id b hb => hk.keep b (hKo id b hb), hk.clS, hk.clW, hk.has, fun b o hs => (hk.nb b o hs).imp id fun hq id hb => hq.1 (hKo id b hb), rfl, rfl, fun b o hs => (hk.nb b o hs).imp id And.right, rfl,
    fun b hb => ⟨Nat.lt_of_lt_of_le (I2.tn b hb).1 hk.below.size, (I2.tn b hb).2⟩, I2.mn⟩
  have L3 : Le { C with S := sealS C h ids } (killF (sealH h ids) kill) W { C with S := S' } (killF (sealH h ids) kill) W' :=
    ⟨l3.clS, l3.clW, l3.mem, fun _ _ => rfl, fun _ _ => rfl, rfl, rfl, rfl, fun b hb => hk.keep b (hKT b hb), fun b o hs => (hk.nb b o hs).imp id fun hq hb => hq.1 (hKT b hb)⟩
  have hi3 : killF (sealH h ids) kill i = .none := killF_none (sealH_none hi) hkn1
  obtain ⟨C4, I4, l4, hr4⟩ := I3.adoptIn hi3 (r := .sl (.own e sz) r) (u := u') hret (fun g' hg' => .inl (by
    rcases hown g' hg' with h1 | h1
    · exact hfree g' h1
    · refine ⟨fun id hid => ?_, fun ht => ?_⟩
      · have := (I2.own_lt (id := id) (b := g') hid).2
        omega
      · have := (I.tn g' ht).1
        omega))
  exact hn _ _ u' W' C4 hK hr4 I4 ((((l1.trans l2).trans L3)).trans l4) (hk.below) (fun id hid h0' => by
    show upd (killF (sealH h ids) kill) i _ id = .none
    rw [upd_ne _ hid]
    exact killF_none (sealH_none h0') hkn1)

theorem Sem.turn {f x : Operand} {rest : List Operand} {args : Array Operand} {ts : Array TypeId} {g : FuncId} {e : TypeId} {sz tg : Nat} {xs ys : List (List AV)} {az : List AV} {ids : List Nat}
    (hf : evA t f = .fn g []) (ha : args.toList = x :: rest) (hx : evA t x = .fs tg) (hh : h tg = .fresh e sz xs) (hsz : sz = P.cellsOf e) (h0 : 0 < sz)
    (hp : passAll h (rest.map (evA t)) = some (az, ids)) (hfun : ∃ fn c, P.funcs[g]? = some fn ∧ fn.body = some c ∧ fn.name ≠ "runtime.NumGoroutine") (hs : SoundM P g e sz xs az ys)
    (hK : sealAll ids h fun h' => K (.tup []) (upd h' tg (.fresh e sz ys))) : SemOp P i t h (.call { callee := .value f, args := args, argTypes := ts }) K := by
  refine ⟨fun c e => (by cases e), fun o a C W B next Q hop I hρ hi hn => ?_⟩
  have hK := sealAll_sound ids h _ hK
  change K (.tup []) (upd (sealH h ids) tg (.fresh e sz ys)) at hK
  obtain ⟨u, us, hrun, I1, l1, rfl, hlen, hrep, hx1, hf1, hfree⟩ := call_pre (kill := some tg) I hρ hop hf ha hsz h0 ⟨hx, hh⟩ hp hfun
  have eu : a.eval x = C.θ tg := by
    have := evA_rep hρ x
    rw [hx] at this
    exact this.2.1
  unfold Oper.wp
  rw [hrun]
  refine (hs _ W B _ us I.tb I1.has I1.base hf1 hlen hrep).mono ?_
  rintro en W' ⟨S', rfl, hk, hret⟩
  rw [eu] at hk hret
  obtain ⟨I2, l2⟩ := I1.turn (sealH_fresh hh) hk hret
  exact hn _ _ _ W' _ hK (RepT.of_rep (Rep.tup [] [] rfl fun j x hx => by simp at hx)) I2 (l1.trans l2) hk.below (fun id hid h0' => by
    rw [upd_ne _ (fun e1 => by subst e1; rw [hh] at h0'; cases h0')]
    exact sealH_none h0')

theorem Sem.lenFs {ty e : TypeId} {x : Operand} {tg sz : Nat} {xs : List (List AV)} (he : sliceElem P ty = some e) (hx : evA t x = .fs tg) (hh : h tg = .fresh e sz xs) (hK : K (.int .i64 xs.length) h) : SemOp P i t h (.call { callee := .builtin .len, args := #[x], argTypes := #[ty] }) K := by
  refine ⟨fun c e => (by cases e), fun o a C W B next Q ho I hr hi hn => ?_⟩
  have eu : a.eval x = C.θ tg := by
    have := evA_rep hr x
    rw [hx] at this
    exact this.2.1
  have hf := I.fr tg e sz xs hh
  rw [← eu] at hf
  have e1 : ∃ A c, a.eval x = .slice A xs.length c := by
    rcases hf.ex with ⟨rfl, A, e1⟩ | ⟨b, c, us, ty', e1, _⟩
    · exact ⟨A, 0, e1⟩
    · exact ⟨_, c, e1⟩
  obtain ⟨A, c, e1⟩ := e1
  refine wp_value (u := .int .i64 xs.length) (W' := W) ?_ (hn _ h _ W C hK (Rep.int _ _) I (.refl _ _ _) (.refl _ _) (fun _ _ hq => hq))
  simp [execOp, ho, resolve, invoke, builtin, Builtin.len_, e1, run_underlying (sliceElem_spec he).1, goInt]

theorem run_overlaps_own {P : Program} (w : World) (tS tR e : TypeId) (ht : P.underlying tS = some (.slice e)) (hs : (P.info? e).isSome = true)
    (a b : Addr) (la ca lb cb : Nat) (hne : a.block ≠ b.block) (us ub : Array Value) (tA tB : TypeId) (fz : Nat × Nat) (ha : w.heap[a.block]? = some (.cells us tA fz)) (hus : 0 < us.size) (hb : w.heap[b.block]? = some (.cells ub tB (0, 0))) :
    (Extern.SlicesOverlaps.overlaps #[tS, tS] #[tR] #[.slice (some a) la ca, .slice (some b) lb cb]).run P w = .ok (.bool false) w := by
  have hnb : (a.block != b.block) = true := by simpa using hne
  have hnb' : (a.block == b.block) = false := by simpa using hne
  have hsa : w.shape? a.block = some (tA, us.size) := by simp [World.shape?, ha]
  have hsb : w.shape? b.block = some (tB, ub.size) := by simp [World.shape?, hb]
  have hfb : w.frozen? b = false := by simp [World.frozen?, hb]
  have hfe : w.frozen? { block := b.block, off := ub.size } = false := by simp [World.frozen?, hb]
  obtain ⟨k, hk⟩ : ∃ k, us.size = k + 1 := ⟨us.size - 1, by omega⟩
  rw [hk] at hsa
  change Sem.run P (α := Value) (do
    let some t := (#[tS, tS] : Array TypeId)[0]? | stuck "slices.overlaps: no parameter types"
    let .slice elem ← underlying t | stuck "slices.overlaps: slice type expected"
    let size ← sizeOf elem
    match (some a : Option Addr), (some b : Option Addr) with
    | some a, some b =>
      if la = 0 ∨ lb = 0 ∨ size = 0 then pure (Value.bool false)
      else if a.block != b.block && (← frozen a) && (← frozen b) then unsupported .addressObserved
      else do
        if a.block != b.block then do
          noView a; noView b
          if ← mayBeOne a b then return Value.bool ((← choose (.extern "sameAddr.stringBytes" 2)) == 1)
        pure (Value.bool (a.block == b.block && a.off < b.off + lb * size && b.off < a.off + la * size))
    | _, _ => pure (Value.bool false)) w = _
  have hz := run_sizeOf' (P := P) (w := w) hs
  by_cases h0 : la = 0 ∨ lb = 0 ∨ P.cellsOf e = 0
  · simp [run_underlying ht, hz, h0]
  · cases h1 : w.frozen? a <;> cases h2 : w.frozen? { block := a.block, off := k + 1 } <;>
      simp [run_underlying ht, hz, h0, hnb, hnb', frozen, noView, viewAt, mayBeOne, stringish, shape, Sem.run, hsa, hsb, hfb, hfe, h1, h2]

theorem Sem.overlaps {f x y : Operand} {g ty tR e : TypeId} {ts : Array TypeId} {id lo n c sz : Nat} {R ys : List (List AV)} {fl : Fl} {fn : Func} (hf : evA t f = .fn g []) (hfn : P.funcs[g]? = some fn) (hname : (fn.name == "runtime.NumGoroutine") = false) (hb : fn.body.isNone = true) (hnx : Extern.findNext fn = none)
    (hfi : Extern.find fn = some (Extern.SlicesOverlaps.overlaps #[ty, ty] #[tR])) (he : sliceElem P ty = some e) (hx : evA t x = .sl fl ys) (hne : ys ≠ []) (hw : ∀ r ∈ ys, r ≠ []) (hy : evA t y = .ms id lo n c sz) (hbx : h id = .box R.flatten) (hR : ∀ r ∈ R, r.length = sz) (hK : K (.bool false) h) :
    SemOp P i t h (.call { callee := .value f, args := #[x, y], argTypes := ts }) K := by
  refine ⟨fun c e => (by cases e), fun o a C W B next Q hop I hρ hi hn => ?_⟩
  obtain ⟨hu, hs⟩ := sliceElem_spec he
  have ef : a.eval f = .func (.func g) #[] #[] := by
    have := evA_rep hρ f
    rw [hf] at this
    obtain ⟨us, h1, h2, _⟩ := this
    have : us = [] := List.eq_nil_of_length_eq_zero h2
    subst this; exact h1
  obtain ⟨q, us, tyb, e2, _, _, g1, _, _, _⟩ := ms_read I hρ hy hbx hR
  obtain ⟨A, cc, e1, h1⟩ := rep_sl (ev_slice I hρ hx)
  obtain ⟨b, off, sz', uf, rfl, _, h3, h4, _⟩ := h1 hne
  have hl0 : 0 < ys.length := List.length_pos_iff.2 hne
  obtain ⟨x0, hx0⟩ : ∃ x0, getx ys 0 0 = some x0 := by
    refine getx_some h3 hl0 ?_
    have hm := List.getElem_mem hl0
    rw [← h3 _ hm]
    exact List.length_pos_iff.2 (hw _ hm)
  obtain ⟨hS, hcell⟩ := h4 0 0 x0 hx0
  have hbne : b ≠ C.ι id := fun e3 => I.unsealed id _ hbx _ (e3 ▸ hS)
  obtain ⟨va, ta, fz, ha, hva⟩ : ∃ (va : Array Value) (ta : TypeId) (fz : Nat × Nat), W.heap[b]? = some (.cells va ta fz) ∧ 0 < va.size := by
    have hc := hcell
    unfold World.cell? at hc
    simp only at hc
    split at hc
    · rename_i va ta fz hh
      refine ⟨va, ta, fz, hh, ?_⟩
      have := (Array.getElem?_eq_some_iff.1 hc).1
      omega
    all_goals cases hc
  refine wp_value (u := .bool false) (W' := W) ?_ (hn _ h _ W C hK (Rep.bool _) I (.refl _ _ _) (.refl _ _) (fun _ _ hq => hq))
  have hov := run_overlaps_own (P := P) W ty tR e hu hs ⟨b, off, none⟩ ⟨C.ι id, q, none⟩ ys.length cc n c hbne va us.toArray ta tyb fz ha hva g1
  simp only [execOp, hop, resolve, ef, Deferred.ofValue, Sem.run_bind, Sem.run_pure, Result.andThen_ok, invoke]
  have harr : #[] ++ #[x, y].map a.eval ++ #[] = #[.slice (some ⟨b, off, none⟩) ys.length cc, .slice (some ⟨C.ι id, q, none⟩) n c] := by simp [e1, e2]
  rw [harr]
  show Sem.run P (callFunc g _) W = _
  rw [run_callFunc_extern hfn hname hb hnx hfi, hov]
  rfl
end
end Go.Proofs.YtbaajjihhdmdpaaGreatDoor

namespace Go.Proofs.YtbaajjihhdmdpaaGreatDoor
open Go.RowKit
set_option linter.unusedSectionVars false
set_option linter.unusedVariables false
set_option linter.unusedSimpArgs false
set_option linter.unnecessarySimpa false
set_option maxRecDepth 100000
variable [Lax]

theorem S80o (l : List GCell) (hl : l.length * 40 ≤ 140737488355328) : Sound Tryz.prog 80 [.sl .no (l.map (GCell.c))] (.sl (.own 61 5) (l.map (GCell.c))) := by
  refine ex_intro mixedT T [] Tryz.func80 rfl (by rw [Tryz.ntmps80]; simp) (by kernel_rfl) ?_
  conv => whnf
  repeat' first | (refine LenG.map ?_; conv => whnf) | (refine LenG.go ?_; conv => whnf)
  refine SemG.go (Sem.nil ((T.ti 27).el 61 rfl) rfl (fun hne => ?_) (fun he b => ?_)) <;> conv => whnf
  · refine Br.F ?_; conv => whnf
    refine ⟨⟨by rw [show (tb.ti 61).bytes = 40 from rfl]; simp; omega, by simp; omega, fun y hy => by obtain ⟨x, _, rfl⟩ := List.mem_map.1 hy; exact ⟨rfl, rfl⟩⟩, ?_⟩; conv => whnf
    refine RetG.own ?_ (List.nil_append _); (conv => lhs; whnf); simp; rfl
  · obtain rfl : l = [] := by simpa using he
    refine Br.mk (fun hq => ?_) (fun hq => ?_) <;> conv => whnf
    · exact RetG.own0 (by kernel_rfl)
    · refine ⟨⟨by rw [show (tb.ti 61).bytes = 40 from rfl]; simp, by simp, fun y hy => by obtain ⟨x, _, rfl⟩ := List.mem_map.1 hy; exact ⟨rfl, rfl⟩⟩, ?_⟩; conv => whnf
      refine RetG.own ?_ (List.nil_append _); (conv => lhs; whnf); simp; rfl

theorem S80f (l : List GCell) (hl : l.length * 40 ≤ 140737488355328) : Sound Tryz.prog 80 [.sl .no (l.map (GCell.c))] (.sl (.fown 61 5) (l.map (GCell.c))) := by
  refine ex_intro mixedT T [appX 3] Tryz.func80 rfl (by rw [Tryz.ntmps80]; simp) (by kernel_rfl) ?_
  conv => whnf
  repeat' first | (refine LenG.map ?_; conv => whnf) | (refine LenG.go ?_; conv => whnf)
  refine SemG.go (Sem.nil ((T.ti 27).el 61 rfl) rfl (fun hne => ?_) (fun he b => ?_)) <;> conv => whnf
  · refine Br.F ?_; conv => whnf
    refine SemG.go (Sem.appF (kill := none) ((T.ti 27).el 61 rfl) ⟨rfl, rfl⟩ rfl (by kernel_rfl : 5 = Tryz.prog.cellsOf 61) (by decide) (by kernel_rfl) (by rw [show Tryz.prog.bytesOf 61 = 40 by kernel_rfl]; simp; omega) (by simp; omega) (fun y hy => by obtain ⟨x, _, rfl⟩ := List.mem_map.1 hy; exact ⟨rfl, rfl⟩) ?_); conv => whnf
    exact RetG.fs rfl
  · obtain rfl : l = [] := by simpa using he
    refine Br.mk (fun hq => ?_) (fun hq => ?_) <;> conv => whnf
    · exact RetG.fs0 (by kernel_rfl) (by decide)
    · refine SemG.go (Sem.appF (kill := none) ((T.ti 27).el 61 rfl) ⟨rfl, rfl⟩ rfl (by kernel_rfl : 5 = Tryz.prog.cellsOf 61) (by decide) (by kernel_rfl) (by rw [show Tryz.prog.bytesOf 61 = 40 by kernel_rfl]; simp) (by simp) (fun y hy => by obtain ⟨x, _, rfl⟩ := List.mem_map.1 hy; exact ⟨rfl, rfl⟩) ?_); conv => whnf
      exact RetG.fs rfl

theorem S26o (l : List GReq) (hl : l.length * 72 ≤ 140737488355328) : Sound Tryz.prog 26 [.sl .no (l.map (GReq.c))] (.sl (.own 47 7) (l.map (GReq.c))) := by
  refine ex_intro mixedT T [] Tryz.func26 rfl (by rw [Tryz.ntmps26]; simp) (by kernel_rfl) ?_
  conv => whnf
  repeat' first | (refine LenG.map ?_; conv => whnf) | (refine LenG.go ?_; conv => whnf)
  refine SemG.go (Sem.nil ((T.ti 42).el 47 rfl) rfl (fun hne => ?_) (fun he b => ?_)) <;> conv => whnf
  · refine Br.F ?_; conv => whnf
    refine ⟨⟨by rw [show (tb.ti 47).bytes = 72 from rfl]; simp; omega, by simp; omega, fun y hy => by obtain ⟨x, _, rfl⟩ := List.mem_map.1 hy; exact ⟨rfl, rfl⟩⟩, ?_⟩; conv => whnf
    refine RetG.own ?_ (List.nil_append _); (conv => lhs; whnf); simp; rfl
  · obtain rfl : l = [] := by simpa using he
    refine Br.mk (fun hq => ?_) (fun hq => ?_) <;> conv => whnf
    · exact RetG.own0 (by kernel_rfl)
    · refine ⟨⟨by rw [show (tb.ti 47).bytes = 72 from rfl]; simp, by simp, fun y hy => by obtain ⟨x, _, rfl⟩ := List.mem_map.1 hy; exact ⟨rfl, rfl⟩⟩, ?_⟩; conv => whnf
      refine RetG.own ?_ (List.nil_append _); (conv => lhs; whnf); simp; rfl

theorem S26f (l : List GReq) (hl : l.length * 72 ≤ 140737488355328) : Sound Tryz.prog 26 [.sl .no (l.map (GReq.c))] (.sl (.fown 47 7) (l.map (GReq.c))) := by
  refine ex_intro mixedT T [appX 3] Tryz.func26 rfl (by rw [Tryz.ntmps26]; simp) (by kernel_rfl) ?_
  conv => whnf
  repeat' first | (refine LenG.map ?_; conv => whnf) | (refine LenG.go ?_; conv => whnf)
  refine SemG.go (Sem.nil ((T.ti 42).el 47 rfl) rfl (fun hne => ?_) (fun he b => ?_)) <;> conv => whnf
  · refine Br.F ?_; conv => whnf
    refine SemG.go (Sem.appF (kill := none) ((T.ti 42).el 47 rfl) ⟨rfl, rfl⟩ rfl (by kernel_rfl : 7 = Tryz.prog.cellsOf 47) (by decide) (by kernel_rfl) (by rw [show Tryz.prog.bytesOf 47 = 72 by kernel_rfl]; simp; omega) (by simp; omega) (fun y hy => by obtain ⟨x, _, rfl⟩ := List.mem_map.1 hy; exact ⟨rfl, rfl⟩) ?_); conv => whnf
    exact RetG.fs rfl
  · obtain rfl : l = [] := by simpa using he
    refine Br.mk (fun hq => ?_) (fun hq => ?_) <;> conv => whnf
    · exact RetG.fs0 (by kernel_rfl) (by decide)
    · refine SemG.go (Sem.appF (kill := none) ((T.ti 42).el 47 rfl) ⟨rfl, rfl⟩ rfl (by kernel_rfl : 7 = Tryz.prog.cellsOf 47) (by decide) (by kernel_rfl) (by rw [show Tryz.prog.bytesOf 47 = 72 by kernel_rfl]; simp) (by simp) (fun y hy => by obtain ⟨x, _, rfl⟩ := List.mem_map.1 hy; exact ⟨rfl, rfl⟩) ?_); conv => whnf
      exact RetG.fs rfl

theorem S208o (l : List GLink) (hl : l.length * 24 ≤ 140737488355328) : Sound Tryz.prog 208 [.sl .no (l.map (GLink.c))] (.sl (.own 31 3) (l.map (GLink.c))) := by
  refine ex_intro mixedT T [] Tryz.func208 rfl (by rw [Tryz.ntmps208]; simp) (by kernel_rfl) ?_
  conv => whnf
  repeat' first | (refine LenG.map ?_; conv => whnf) | (refine LenG.go ?_; conv => whnf)
  refine SemG.go (Sem.nil ((T.ti 23).el 31 rfl) rfl (fun hne => ?_) (fun he b => ?_)) <;> conv => whnf
  · refine Br.F ?_; conv => whnf
    refine ⟨⟨by rw [show (tb.ti 31).bytes = 24 from rfl]; simp; omega, by simp; omega, fun y hy => by obtain ⟨x, _, rfl⟩ := List.mem_map.1 hy; exact ⟨rfl, rfl⟩⟩, ?_⟩; conv => whnf
    refine RetG.own ?_ (List.nil_append _); (conv => lhs; whnf); simp; rfl
  · obtain rfl : l = [] := by simpa using he
    refine Br.mk (fun hq => ?_) (fun hq => ?_) <;> conv => whnf
    · exact RetG.own0 (by kernel_rfl)
    · refine ⟨⟨by rw [show (tb.ti 31).bytes = 24 from rfl]; simp, by simp, fun y hy => by obtain ⟨x, _, rfl⟩ := List.mem_map.1 hy; exact ⟨rfl, rfl⟩⟩, ?_⟩; conv => whnf
      refine RetG.own ?_ (List.nil_append _); (conv => lhs; whnf); simp; rfl

theorem S208f (l : List GLink) (hl : l.length * 24 ≤ 140737488355328) : Sound Tryz.prog 208 [.sl .no (l.map (GLink.c))] (.sl (.fown 31 3) (l.map (GLink.c))) := by
  refine ex_intro mixedT T [appX 3] Tryz.func208 rfl (by rw [Tryz.ntmps208]; simp) (by kernel_rfl) ?_
  conv => whnf
  repeat' first | (refine LenG.map ?_; conv => whnf) | (refine LenG.go ?_; conv => whnf)
  refine SemG.go (Sem.nil ((T.ti 23).el 31 rfl) rfl (fun hne => ?_) (fun he b => ?_)) <;> conv => whnf
  · refine Br.F ?_; conv => whnf
    refine SemG.go (Sem.appF (kill := none) ((T.ti 23).el 31 rfl) ⟨rfl, rfl⟩ rfl (by kernel_rfl : 3 = Tryz.prog.cellsOf 31) (by decide) (by kernel_rfl) (by rw [show Tryz.prog.bytesOf 31 = 24 by kernel_rfl]; simp; omega) (by simp; omega) (fun y hy => by obtain ⟨x, _, rfl⟩ := List.mem_map.1 hy; exact ⟨rfl, rfl⟩) ?_); conv => whnf
    exact RetG.fs rfl
  · obtain rfl : l = [] := by simpa using he
    refine Br.mk (fun hq => ?_) (fun hq => ?_) <;> conv => whnf
    · exact RetG.fs0 (by kernel_rfl) (by decide)
    · refine SemG.go (Sem.appF (kill := none) ((T.ti 23).el 31 rfl) ⟨rfl, rfl⟩ rfl (by kernel_rfl : 3 = Tryz.prog.cellsOf 31) (by decide) (by kernel_rfl) (by rw [show Tryz.prog.bytesOf 31 = 24 by kernel_rfl]; simp) (by simp) (fun y hy => by obtain ⟨x, _, rfl⟩ := List.mem_map.1 hy; exact ⟨rfl, rfl⟩) ?_); conv => whnf
      exact RetG.fs rfl

theorem S181o (l : List Int) (hl : l.length * 8 ≤ 140737488355328) : Sound Tryz.prog 181 [.sl .no (l.map (fun x => [i64 x]))] (.sl (.own 3 1) (l.map (fun x => [i64 x]))) := by
  refine ex_intro mixedT T [] Tryz.func181 rfl (by rw [Tryz.ntmps181]; simp) (by kernel_rfl) ?_
  conv => whnf
  repeat' first | (refine LenG.map ?_; conv => whnf) | (refine LenG.go ?_; conv => whnf)
  refine SemG.go (Sem.nil ((T.ti 80).el 3 rfl) rfl (fun hne => ?_) (fun he b => ?_)) <;> conv => whnf
  · refine Br.F ?_; conv => whnf
    refine ⟨⟨by rw [show (tb.ti 3).bytes = 8 from rfl]; simp; omega, by simp; omega, fun y hy => by obtain ⟨x, _, rfl⟩ := List.mem_map.1 hy; exact ⟨rfl, rfl⟩⟩, ?_⟩; conv => whnf
    refine RetG.own ?_ (List.nil_append _); (conv => lhs; whnf); simp; rfl
  · obtain rfl : l = [] := by simpa using he
    refine Br.mk (fun hq => ?_) (fun hq => ?_) <;> conv => whnf
    · exact RetG.own0 (by kernel_rfl)
    · refine ⟨⟨by rw [show (tb.ti 3).bytes = 8 from rfl]; simp, by simp, fun y hy => by obtain ⟨x, _, rfl⟩ := List.mem_map.1 hy; exact ⟨rfl, rfl⟩⟩, ?_⟩; conv => whnf
      refine RetG.own ?_ (List.nil_append _); (conv => lhs; whnf); simp; rfl

theorem S181f (l : List Int) (hl : l.length * 8 ≤ 140737488355328) : Sound Tryz.prog 181 [.sl .no (l.map (fun x => [i64 x]))] (.sl (.fown 3 1) (l.map (fun x => [i64 x]))) := by
  refine ex_intro mixedT T [appX 3] Tryz.func181 rfl (by rw [Tryz.ntmps181]; simp) (by kernel_rfl) ?_
  conv => whnf
  repeat' first | (refine LenG.map ?_; conv => whnf) | (refine LenG.go ?_; conv => whnf)
  refine SemG.go (Sem.nil ((T.ti 80).el 3 rfl) rfl (fun hne => ?_) (fun he b => ?_)) <;> conv => whnf
  · refine Br.F ?_; conv => whnf
    refine SemG.go (Sem.appF (kill := none) ((T.ti 80).el 3 rfl) ⟨rfl, rfl⟩ rfl (by kernel_rfl : 1 = Tryz.prog.cellsOf 3) (by decide) (by kernel_rfl) (by rw [show Tryz.prog.bytesOf 3 = 8 by kernel_rfl]; simp; omega) (by simp; omega) (fun y hy => by obtain ⟨x, _, rfl⟩ := List.mem_map.1 hy; exact ⟨rfl, rfl⟩) ?_); conv => whnf
    exact RetG.fs rfl
  · obtain rfl : l = [] := by simpa using he
    refine Br.mk (fun hq => ?_) (fun hq => ?_) <;> conv => whnf
    · exact RetG.fs0 (by kernel_rfl) (by decide)
    · refine SemG.go (Sem.appF (kill := none) ((T.ti 80).el 3 rfl) ⟨rfl, rfl⟩ rfl (by kernel_rfl : 1 = Tryz.prog.cellsOf 3) (by decide) (by kernel_rfl) (by rw [show Tryz.prog.bytesOf 3 = 8 by kernel_rfl]; simp) (by simp) (fun y hy => by obtain ⟨x, _, rfl⟩ := List.mem_map.1 hy; exact ⟨rfl, rfl⟩) ?_); conv => whnf
      exact RetG.fs rfl

end Go.Proofs.YtbaajjihhdmdpaaGreatDoor

namespace Go.Proofs.YtbaajjihhdmdpaaGreatDoor
open Go.RowKit
set_option linter.unusedVariables false
set_option linter.unusedSimpArgs false
set_option linter.unnecessarySimpa false
set_option linter.unusedSectionVars false
variable [Lax]

/-- Values that lean on no memory. -/
def scalV : AV → Bool
  | .int _ _ => true
  | .bool _ => true
  | _ => false
theorem scalV_rep {S S' : Nat → Nat → Prop} {W W' : World} {r : AV} {u : Value} (hs : scalV r = true) (hr : Rep S W r u) : Rep S' W' r u := by
  cases hr <;> first | exact Rep.int _ _ | exact Rep.bool _ | cases hs

section
variable {P : Program} {C : Ctx} {h : AHeap} {W : World} {B : Nat}
variable {i : Nat} {o : Oper} {a : Act} {t : Nat → AV} {next : Act → World → Prop} {Q : Exit → Act → World → Prop} {K : AV → AHeap → Prop}

theorem Sem.lend {f x : Operand} {rest : List Operand} {args : Array Operand} {ts : Array TypeId} {g : FuncId} {id lo n c sz : Nat} {R xs : List (List AV)} {az : List AV} {ids : List Nat} {r : AV}
    (hf : evA t f = .fn g []) (ha : args.toList = x :: rest) (hx : evA t x = .ms id lo n c sz) (hb : h id = .box R.flatten) (hR : ∀ r ∈ R, r.length = sz) (hle : lo + n ≤ R.length) (hxs : (R.drop lo).take n = xs) (hpure : ∀ row ∈ xs, ∀ y ∈ row, pure0 y = true ∧ forget0 y = y)
    (hp : passAll h (rest.map (evA t)) = some (az, ids)) (hid : id ∉ ids) (hfun : ∃ fn c, P.funcs[g]? = some fn ∧ fn.body = some c ∧ fn.name ≠ "runtime.NumGoroutine") (hs : Sound P g (.sl .no xs :: az) r) (hsc : scalV r = true)
    (hK : sealAll ids h fun h' => K r h') : SemOp P i t h (.call { callee := .value f, args := args, argTypes := ts }) K := by
  refine ⟨fun c e => (by cases e), fun o a C W B next Q hop I hρ hi hn => ?_⟩
  have hK := sealAll_sound ids h _ hK
  change K r (sealH h ids) at hK
  obtain ⟨I1, l1⟩ := I.close ids
  obtain ⟨q, us, tyb, e1, hq, hnc, g1, g2, g3, g4⟩ := ms_read I hρ hx hb hR
  have hRs : ∀ r ∈ xs, r.length = sz := fun r hr => by rw [← hxs] at hr; exact hR r (List.mem_of_mem_drop (List.mem_of_mem_take hr))
  have hl : xs.length = n := by rw [← hxs]; simp; omega
  have ef : a.eval f = .func (.func g) #[] #[] := by
    have := evA_rep hρ f
    rw [hf] at this
    obtain ⟨us, h1, h2, _⟩ := this
    have : us = [] := List.eq_nil_of_length_eq_zero h2
    subst this; exact h1
  obtain ⟨fn, cd, hfn, hbody, hname⟩ := hfun
  have hvals : ∀ j x, (rest.map (evA t))[j]? = some x → RepT C W h x ((rest.map a.eval).getD j Go.undef) := by
    intro j x hx
    rw [List.getElem?_map] at hx
    obtain ⟨y, hy, rfl⟩ := Option.map_eq_some_iff.1 hx
    rw [List.getD_eq_getElem?_getD, List.getElem?_map, hy]
    exact evA_rep hρ y
  obtain ⟨hlen, hrep⟩ := passAll_rep I (S' := sealS C h ids) (fun _ _ hs => .inl hs) _ az ids _ hvals hp (fun id hid cs hk => sealS_peek I hid hk)
  -- the memory with the lent part closed
  have hsub : ∀ b o, sealS C h ids b o → (fun b o => sealS C h ids b o ∨ (b = C.ι id ∧ o < us.length)) b o := fun b o hs => .inl hs
  have hhas : ∀ b o, (fun b o => sealS C h ids b o ∨ (b = C.ι id ∧ o < us.length)) b o → (W.cell? ⟨b, o, none⟩).isSome = true := by
    rintro b o (hs | ⟨rfl, ho⟩)
    · exact I1.has b o hs
    · rw [cell_of_row W _ _ _ _ _ g1]; simp [ho]
  have hsl : Rep (fun b o => sealS C h ids b o ∨ (b = C.ι id ∧ o < us.length)) W (.sl .no xs) (a.eval x) := by
    rw [e1]
    by_cases hn0 : n = 0
    · subst hn0
      have : xs = [] := List.eq_nil_of_length_eq_zero hl
      subst this
      exact .slE _ _
    · have hq' := hq (by omega)
      subst hq'
      have key : Rep (fun b o => sealS C h ids b o ∨ (b = C.ι id ∧ o < us.length)) W (.sl .no xs) (.slice (some ⟨C.ι id, lo * sz, none⟩) xs.length c) := by
        have hpos : ∀ i j x, getx xs i j = some x → lo * sz + i * sz + j < us.length ∧ R.flatten[lo * sz + i * sz + j]? = some x ∧ pure0 x = true ∧ forget0 x = x := fun i j x hx => by
          obtain ⟨hi, hj⟩ := getx_lt hRs hx
          have hfl : xs.flatten[i * sz + j]? = some x := by
            unfold getx at hx
            obtain ⟨row, hr1, hr2⟩ := Option.bind_eq_some_iff.1 hx
            have hl := hRs row (List.mem_of_getElem? hr1)
            have := rows_row hRs hr1
            have h5 : ((xs.flatten.drop (i * sz)).take row.length)[j]? = some x := by rw [this]; exact hr2
            rw [List.getElem?_take, hl, if_pos hj, List.getElem?_drop] at h5
            exact h5
          have hlt : i * sz + j < n * sz := by rw [← hl]; exact flat_lt hi hj
          have e2 : xs.flatten = (R.flatten.drop (lo * sz)).take (n * sz) := by
            rw [rows_drop lo hR, rows_take n (fun r hr => hR r (List.mem_of_mem_drop hr)), hxs]
          rw [e2, List.getElem?_take, if_pos hlt, List.getElem?_drop, ← Nat.add_assoc] at hfl
          have hrow : ∃ row ∈ xs, x ∈ row := by
            unfold getx at hx
            obtain ⟨row, hr1, hr2⟩ := Option.bind_eq_some_iff.1 hx
            exact ⟨row, List.mem_of_getElem? hr1, List.mem_of_getElem? hr2⟩
          obtain ⟨row, hm, hy⟩ := hrow
          refine ⟨?_, hfl, hpure row hm x hy⟩
          have := (List.getElem?_eq_some_iff.1 hfl).1
          rw [rows_len hR] at this
          rw [g2]; exact this
        refine .sl _ sz (C.ι id) (lo * sz) c (fun i j => us.getD (lo * sz + i * sz + j) Go.undef) (by rw [hl]; exact hnc) hRs (fun i j x hx => ?_) (fun i j x hx => ?_)
        · obtain ⟨h5, h6, _⟩ := hpos i j x hx
          refine ⟨.inr ⟨rfl, h5⟩, ?_⟩
          rw [cell_of_row W _ _ _ _ _ g1]
          simp [List.getD, List.getElem?_eq_getElem h5]
        · obtain ⟨h5, h6, h7, h8⟩ := hpos i j x hx
          have h9 := (g4 _ x h6).pure h7
          rw [h8] at h9
          exact h9.mono (fun _ _ hs => .inl (.inl hs)) (fun _ _ _ => rfl)
      rwa [hl] at key
  have hne : (fn.name == "runtime.NumGoroutine") = false := by simpa using hname
  have harr2 : #[] ++ args.map a.eval ++ #[] = (a.eval x :: rest.map a.eval).toArray := by
    rw [Array.empty_append]
    apply Array.ext'
    rw [← List.map_cons, ← ha]; simp
  have harr : args.map a.eval ++ #[] = (a.eval x :: rest.map a.eval).toArray := by
    rw [← harr2, Array.empty_append]
  have hrun : (execOp a.eval o).run P W = .ok (.enter g (a.eval x :: rest.map a.eval).toArray) W := by
    simp only [execOp, hop, resolve, ef, Deferred.ofValue, Sem.run_bind, Sem.run_pure, Result.andThen_ok, invoke, callFunc, run_program, hfn, hne]
    try simp only [harr2, harr]
    simp [hbody]
  unfold Oper.wp
  rw [hrun]
  refine (hs _ W (a.eval x :: rest.map a.eval) (I.tb.mono I.base) hhas (by simp at hlen ⊢; omega) (fun j y hj => ?_)).mono ?_
  · cases j with
    | zero => simp at hj; subst hj; exact hsl
    | succ j =>
      have := hrep j y (by simpa using hj)
      exact this.mono hsub (fun _ _ _ => rfl)
  rintro en W' ⟨u', S', rfl, hB, hS, hnw, hh, hr⟩
  have hr' : Rep S' W' r u' := by
    cases r with
    | int k m => exact hr
    | bool b => exact hr
    | _ => cases hsc
  obtain ⟨I2, l2⟩ := I1.grow (W' := W') (sealS C h ids) (fun b hb => hB.block b hb) hB.size (fun _ _ hs => hs) (fun _ _ hs => .inl hs) (fun b o hs => by
    rw [cell_of_heap (hB.block b (cell_lt (I1.has b o hs)))]; exact I1.has b o hs)
  have hr2 : RepT { C with S := sealS C h ids } W' (sealH h ids) r u' := RepT.of_rep (scalV_rep hsc hr')
  exact hn _ _ u' W' _ hK hr2 I2 (l1.trans l2) (hB.mono I.base) (fun k hk h0' => sealH_none h0')
end
end Go.Proofs.YtbaajjihhdmdpaaGreatDoor

namespace Go.Proofs.YtbaajjihhdmdpaaGreatDoor
open Go.RowKit
set_option linter.unusedSectionVars false
set_option linter.unusedVariables false
set_option linter.unusedSimpArgs false
set_option linter.unnecessarySimpa false
set_option maxRecDepth 100000
variable [Lax]

theorem cells_rows (l : List GCell) : ∀ x ∈ l.map GCell.c, x.length = 5 := fun x hx => by obtain ⟨y, _, rfl⟩ := List.mem_map.1 hx; rfl
theorem cells_pure (l : List GCell) : ∀ row ∈ l.map GCell.c, ∀ y ∈ row, pure0 y = true ∧ forget0 y = y := fun row hr y hy => by
  obtain ⟨x, _, rfl⟩ := List.mem_map.1 hr
  simp [GCell.c] at hy
  rcases hy with rfl | rfl | rfl | rfl | rfl <;> exact ⟨rfl, rfl⟩
theorem fnOk {g : Nat} (h : tb.fn g = true) : ∃ fn c, Tryz.prog.funcs[g]? = some fn ∧ fn.body = some c ∧ fn.name ≠ "runtime.NumGoroutine" := T.fn g h

/-- Cells that no renaming of boxes turns. -/
def CloR (R : List (List AV)) : Prop := ∀ row ∈ R, ∀ y ∈ row, ∀ g, ren0 g y = y
theorem CloR.map {R : List (List AV)} (h : CloR R) (g : Nat → Option Nat) : R.flatten.map (ren0 g) = R.flatten := by
  have : ∀ x ∈ R.flatten, ren0 g x = id x := fun x hx => by
    obtain ⟨r, hr, hx⟩ := List.mem_flatten.1 hx
    exact h r hr x hx g
  rw [List.map_congr_left this, List.map_id]
theorem CloR.box {R : List (List AV)} (h : CloR R) (g : Nat → Option Nat) : HO.box R.flatten = HO.box (R.flatten.map (ren0 g)) := by rw [h.map]
theorem CloR.app {R R' : List (List AV)} (h : CloR R) (h' : CloR R') : CloR (R ++ R') := fun row hr => (List.mem_append.1 hr).elim (h row) (h' row)
theorem CloR.set {R : List (List AV)} (h : CloR R) {x : List AV} (hx : ∀ y ∈ x, ∀ g, ren0 g y = y) (i : Nat) : CloR (R.set i x) := fun row hr => by
  rcases List.mem_or_eq_of_mem_set hr with hr | rfl
  · exact h row hr
  · exact hx
theorem CloR.pad (n c sz : Nat) : CloR (padR n c sz) := fun row hr y hy g => by
  rw [List.eq_of_mem_replicate hr] at hy
  rw [List.eq_of_mem_replicate hy]; rfl
theorem cell_clo (x : GCell) : ∀ y ∈ x.c, ∀ g, ren0 g y = y := fun y hy g => by
  simp [GCell.c] at hy
  rcases hy with rfl | rfl | rfl | rfl | rfl <;> rfl
theorem CloR.cells (l : List GCell) : CloR (l.map GCell.c) := fun row hr y hy g => by
  obtain ⟨x, _, rfl⟩ := List.mem_map.1 hr
  exact cell_clo x y hy g

theorem idxOf_cases {α : Type} (p : α → Bool) : ∀ (l : List α) (s : Nat), (idxOf p l s = -1 ∧ (l.filter fun x => !p x) = l) ∨ ∃ k, k < l.length ∧ idxOf p l s = ((s + k : Nat) : Int) ∧ ((l.take (k + 1)).filter fun x => !p x) = l.take k
  | [], s => .inl ⟨rfl, rfl⟩
  | x :: r, s => by
    cases hp : p x with
    | true => exact .inr ⟨0, by simp, by simp [idxOf, hp], by simp [hp]⟩
    | false =>
      rcases idxOf_cases p r (s + 1) with ⟨h1, h2⟩ | ⟨k, h1, h2, h3⟩
      · exact .inl ⟨by simp [idxOf, hp, h1], by simp [hp, h2]⟩
      · refine .inr ⟨k + 1, by simp; omega, by simp only [idxOf, hp]; simp [h2]; omega, ?_⟩
        rw [List.take_succ_cons, List.take_succ_cons, List.filter_cons]
        simp only [hp, Bool.not_false, if_true]
        rw [h3]

theorem D79_1 {g : Nat} (hg : tb.fn g = true) (c0 : List AV) (l : List GCell) (p : GCell → Bool) (hp : ∀ x ∈ l, Sound Tryz.prog g [x.v, .rp c0] (.bool (p x))) (hl : l.length < 4611686018427387904) :
    SoundC Tryz.prog 79 61 5 (l.map GCell.c) [.fn g [.rp c0]] ((l.filter fun x => !p x).map GCell.c) := by
  refine exC_intro mixedT T [] Tryz.func79 rfl (by rw [Tryz.ntmps79]; simp) (by kernel_rfl) (fun h0 => ?_) (fun cap hc hle hm hrows => ?_)
  · obtain rfl : l = [] := by simpa using h0
    conv => whnf
    refine FnG.go rfl ?_; conv => whnf
    refine CallG.go (S96_1 hg c0 [] p (by simp) (by simp)) ?_; conv => whnf
    refine Br.T ?_; conv => whnf
    exact ⟨_, rfl, rfl, rfl⟩
  · conv => whnf
    generalize hN : (l.map GCell.c).length = N at *
    have hNl : N = l.length := by rw [← hN]; simp
    have hRl : ∀ x ∈ l.map GCell.c ++ padR N cap 5, x.length = 5 := fun x hx => (List.mem_append.1 hx).elim (cells_rows l x) (padR_len x)
    have hRlen : (l.map GCell.c ++ padR N cap 5).length = cap := by simp [padR]; omega
    refine SemG.go (Sem.lend (xs := l.map GCell.c) (rest := [.tmp 9]) rfl rfl rfl rfl hRl (by omega) (by rw [List.drop_zero, ← hN, List.take_left]) (cells_pure l) rfl (by simp) (fnOk rfl) (S96_1 hg c0 l p hp hl) rfl ?_); conv => whnf
    have hgetc : ∀ (R : List (List AV)) (j : Nat), j < l.length → (R.drop j).take (N - j) = (l.drop j).map GCell.c → R[j]? = some (gd l j).c := fun R j hj he => by
      have h1 := congrArg (fun x => x[0]?) he
      simp only [List.getElem?_take, List.getElem?_map, List.getElem?_drop, Nat.add_zero] at h1
      rw [if_pos (by omega), gd_get hj] at h1
      exact h1
    have hstepc : ∀ (R : List (List AV)) (j : Nat), j < l.length → (R.drop j).take (N - j) = (l.drop j).map GCell.c → (R.drop (j + 1)).take (N - (j + 1)) = (l.drop (j + 1)).map GCell.c := fun R j hj he => by
      have h1 := congrArg (fun x => x.drop 1) he
      simp only [List.drop_take, List.drop_drop, ← List.map_drop] at h1
      rw [show N - (j + 1) = N - j - 1 by omega]
      exact h1
    rcases idxOf_cases p l 0 with ⟨h1, h2⟩ | ⟨k, hk, h1, h2⟩
    · rw [h1, h2]
      refine Br.T ?_; conv => whnf
      refine ⟨_, rfl, _, rfl, hRlen, hRl, rfl, by omega, hm, ?_, ?_⟩
      · rw [← hN, List.take_left]; exact fun x hx y hy => (cells_pure l x hx y hy).1
      · rw [← hN, List.take_left, List.map_map]; rfl
    · rw [h1, Nat.zero_add]
      refine Br.mk (fun hq => ?_) (fun hq => ?_) <;> conv => whnf
      · exact absurd hq (by simp)
      · refine Lp.go T [.t 0] (fun (a : Nat × Nat × List (List AV)) => [(0, .ms 0 0 N cap 5), (1, .fn g [.rp c0]), (5, i64 a.1), (6, i64 a.2.1)]) (fun a => [.box a.2.2.flatten])
          (fun m a => m + a.2.1 = N ∧ a.1 ≤ a.2.1 ∧ a.2.2.length = cap ∧ (∀ x ∈ a.2.2, x.length = 5) ∧ CloR a.2.2 ∧ a.2.2.take a.1 = ((l.take a.2.1).filter fun x => !p x).map GCell.c ∧ (a.2.2.drop a.2.1).take (N - a.2.1) = (l.drop a.2.1).map GCell.c)
          (N - (k + 1)) (k, k + 1, l.map GCell.c ++ padR N cap 5) ⟨by simp; omega, by simp, hRlen, hRl, (CloR.cells l).app (CloR.pad _ _ _), ?_, ?_⟩ [.t 0] ?_ ?_
        · show (l.map GCell.c ++ padR N cap 5).take k = _
          rw [h2, List.take_append_of_le_length (by simp; omega), List.map_take]
        · show ((l.map GCell.c ++ padR N cap 5).drop (k + 1)).take (N - (k + 1)) = _
          rw [List.drop_append_of_le_length (by simp; omega), ← List.map_drop, List.take_append_of_le_length (by simp; omega), List.take_of_length_le (by simp; omega)]
        · (conv => whnf); refine ⟨rfl, ?_, ?_⟩ <;> (conv => whnf) <;> (repeat' apply And.intro) <;> first | exact True.intro | rfl | (conv => rhs; whnf)
          · exact incr (by omega)
          · exact ((CloR.cells l).app (CloR.pad _ _ _)).box _
        rintro m ⟨i, j, R⟩ ⟨hmj, hij, hRc, hR5, hRo, hRi, hRj⟩
        simp only at hmj hij hRc hR5 hRo hRi hRj ⊢
        conv => whnf
        refine SemG.go (Sem.lenMs ((T.ti 27).el 61 rfl) rfl ?_); conv => whnf
        refine Br.mk (fun hq => ?_) (fun hq => ?_) <;> conv => whnf
        · have hlt : j < l.length := by have : j < N := by simpa using hq
                                        omega
          refine Nd.go ⟨by omega, by simpa using hq⟩ ?_; conv => whnf
          refine LdR.row hR5 (by rw [Nat.zero_add]; rfl) (hgetc R j hlt hRj) (by conv => whnf) ?_; conv => whnf
          refine FnG.go hg ?_; conv => whnf
          refine CallG.go (hp _ (gd_mem hlt)) ?_; conv => whnf
          have htk : ((l.take (j + 1)).filter fun x => !p x) = ((l.take j).filter fun x => !p x) ++ if p (gd l j) then [] else [gd l j] := by
            rw [List.take_add_one, gd_get hlt, List.filter_append]
            congr 1
            generalize gd l j = y
            cases hpj : p y <;> simp [hpj]
          have hil : (R.take i).length = i := by simp; omega
          refine Br.mk (fun hp' => ?_) (fun hp' => ?_) <;> conv => whnf
          · have hpf : p (gd l j) = false := by simpa using hp'
            refine Nd.go ⟨by omega, by omega⟩ ?_; conv => whnf
            refine SemG.go (Sem.storeMp (r := i) (cs := (gd l j).c) (by kernel_rfl) rfl rfl rfl rfl rfl hR5 rfl (by simp) (by omega) ?_); conv => whnf
            refine ⟨m - 1, (i + 1, j + 1, R.set i (gd l j).c), by omega, ⟨by simp; omega, by simp; omega, by simpa using hRc, ?_, hRo.set (cell_clo _) _, ?_, ?_⟩, ?_⟩
            · intro x hx
              rcases List.mem_or_eq_of_mem_set hx with hx | rfl
              · exact hR5 x hx
              · rfl
            · show (R.set i (gd l j).c).take (i + 1) = _
              rw [htk, hpf, List.map_append, ← hRi, List.take_add_one, List.getElem?_set_self (by omega), List.take_set_of_le (Nat.le_refl _)]
              simp
            · show ((R.set i (gd l j).c).drop (j + 1)).take (N - (j + 1)) = _
              rw [List.drop_set_of_lt (by omega)]
              exact hstepc R j hlt hRj
            · (conv => whnf); refine ⟨rfl, ?_, ?_⟩ <;> (conv => whnf) <;> (repeat' apply And.intro) <;> first | exact True.intro | rfl | (conv => rhs; whnf)
              · exact incr (by omega)
              · exact incr (by omega)
              · exact (hRo.set (cell_clo _) _).box _
          · have hpf : p (gd l j) = true := by simpa using hp'
            refine ⟨m - 1, (i, j + 1, R), by omega, ⟨by simp; omega, by simp; omega, hRc, hR5, hRo, ?_, hstepc R j hlt hRj⟩, ?_⟩
            · show R.take i = _
              rw [htk, hpf, hRi]; simp
            · (conv => whnf); refine ⟨rfl, ?_, ?_⟩ <;> (conv => whnf) <;> (repeat' apply And.intro) <;> first | exact True.intro | rfl | (conv => rhs; whnf)
              · exact incr (by omega)
              · exact hRo.box _
        · obtain rfl : N = j := by have : N ≤ j := by simpa using hq
                                   omega
          have htl : l.take N = l := List.take_of_length_le (by omega)
          refine Nd.go ⟨by omega, by omega⟩ ?_; conv => whnf
          refine SemG.go (Sem.clear (R := R) ((T.ti 27).el 61 rfl) (ti_zero_len T (rfl : (tb.ti 61).zero = some _)) rfl rfl rfl hR5 (by simp; omega) ?_); conv => whnf
          refine Nd.go ⟨by omega, by omega⟩ ?_; conv => whnf
          rw [htl] at hRi
          have hi' : (i : Int).toNat = i := Int.toNat_natCast i
          have htR : ∀ Z2 : List (List AV), (R.take i ++ Z2).take i = R.take i := fun Z2 => by
            rw [List.take_append_of_le_length (by simp; omega), List.take_of_length_le (by simp; omega)]
          refine ⟨_, rfl, _, rfl, ?_, ?_, rfl, by omega, hm, ?_, ?_⟩ <;> simp only [Nat.zero_add, hi']
          · simp; omega
          · intro x hx
            rcases List.mem_append.1 hx with hx | hx
            · rcases List.mem_append.1 hx with hx | hx
              · exact hR5 x (List.mem_of_mem_take hx)
              · rw [List.eq_of_mem_replicate hx]; rfl
            · exact hR5 x (List.mem_of_mem_drop hx)
          · rw [List.append_assoc, htR, hRi]
            exact fun x hx y hy => (cells_pure _ x hx y hy).1
          · rw [List.append_assoc, htR, hRi, List.map_map]; rfl
end Go.Proofs.YtbaajjihhdmdpaaGreatDoor

namespace Go.Proofs.YtbaajjihhdmdpaaGreatDoor
open Go.RowKit
set_option linter.unusedSectionVars false
set_option linter.unusedVariables false
set_option linter.unusedSimpArgs false
set_option linter.unnecessarySimpa false
set_option maxRecDepth 100000
set_option maxHeartbeats 4000000
variable [Lax]

/-- Of neighbours that are the same one is kept. -/
def cpt {α : Type} [Inhabited α] [DecidableEq α] (l : List α) : Nat → List α
  | 0 => []
  | n + 1 => cpt l n ++ if n ≠ 0 ∧ gd l n = gd l (n - 1) then [] else [gd l n]
theorem cpt_len {α : Type} [Inhabited α] [DecidableEq α] (l : List α) : ∀ n, (cpt l n).length ≤ n
  | 0 => Nat.le_refl _
  | n + 1 => by
    have := cpt_len l n
    rw [cpt, List.length_append]
    split <;> simp <;> omega
theorem cpt_id {α : Type} [Inhabited α] [DecidableEq α] (l : List α) : ∀ n, n ≤ l.length → (∀ i, 0 < i → i < n → gd l i ≠ gd l (i - 1)) → cpt l n = l.take n
  | 0, _, _ => rfl
  | n + 1, hn, h => by
    rw [cpt, cpt_id l n (by omega) (fun i h1 h2 => h i h1 (by omega)), List.take_add_one, gd_get (by omega)]
    rw [if_neg]
    · rfl
    · rintro ⟨h1, h2⟩; exact h n (by omega) (by omega) h2

theorem cell_ints (x y : GCell) : ([x.slot, x.offset, x.from_, x.to_, x.flow] == [y.slot, y.offset, y.from_, y.to_, y.flow]) = decide (x = y) := by
  cases x; cases y
  simp only [GCell.mk.injEq]
  rw [Bool.eq_iff_iff]
  simp

theorem cell_ints' (x y : GCell) : ([x.slot, x.offset, x.from_, x.to_, x.flow] != [y.slot, y.offset, y.from_, y.to_, y.flow]) = !decide (x = y) := by rw [bne, cell_ints]

theorem D103 (l : List GCell) (hl : l.length < 4611686018427387904) : SoundC Tryz.prog 103 61 5 (l.map GCell.c) [] ((cpt l l.length).map GCell.c) := by
  refine exC_intro mixedT T [] Tryz.func103 rfl (by rw [Tryz.ntmps103]; simp) (by kernel_rfl) (fun h0 => ?_) (fun cap hc hle hm hrows => ?_)
  · obtain rfl : l = [] := by simpa using h0
    conv => whnf
    refine LenG.go ?_; conv => whnf
    refine Br.T ?_; conv => whnf
    exact ⟨_, rfl, rfl, rfl⟩
  · conv => whnf
    generalize hN : (l.map GCell.c).length = N at *
    have hNl : N = l.length := by rw [← hN]; simp
    have hRl : ∀ x ∈ l.map GCell.c ++ padR N cap 5, x.length = 5 := fun x hx => (List.mem_append.1 hx).elim (cells_rows l x) (padR_len x)
    have hRlen : (l.map GCell.c ++ padR N cap 5).length = cap := by simp [padR]; omega
    have hRt : (l.map GCell.c ++ padR N cap 5).take N = l.map GCell.c := by rw [← hN, List.take_left]
    have hRc : CloR (l.map GCell.c ++ padR N cap 5) := (CloR.cells l).app (CloR.pad _ _ _)
    generalize l.map GCell.c ++ padR N cap 5 = R at hRl hRlen hRt hRc ⊢
    refine SemG.go (Sem.lenMs ((T.ti 27).el 61 rfl) rfl ?_); conv => whnf
    refine Br.mk (fun hq => ?_) (fun hq => ?_) <;> conv => whnf
    · have : N < 2 := by have := of_decide_eq_true hq; omega
      have hid : cpt l l.length = l := by rw [cpt_id l l.length (Nat.le_refl _) (fun i h1 h2 => by omega), List.take_length]
      rw [hid]
      exact ⟨_, rfl, R, rfl, hRlen, hRl, rfl, hle, hm, by rw [hRt]; exact fun x hx y hy => (cells_pure l x hx y hy).1, by rw [hRt, List.map_map]; rfl⟩
    have hN2 : 2 ≤ N := by have := of_decide_eq_false hq; omega
    have hget : ∀ (R' : List (List AV)) (s j : Nat), s ≤ j → j < N → (R'.drop s).take (N - s) = (l.drop s).map GCell.c → R'[j]? = some (gd l j).c := fun R' s j hsj hj he => by
      have h1 := congrArg (fun x => x[j - s]?) he
      simp only [List.getElem?_take, List.getElem?_map, List.getElem?_drop] at h1
      have e := gd_get (l := l) (i := j) (by omega)
      rw [if_pos (by omega), show s + (j - s) = j by omega, e] at h1
      exact h1
    refine Lp.go T [.t 0] (fun k : Nat => [(0, .ms 0 0 N cap 5), (3, i64 k)]) (fun _ => [.box R.flatten]) (fun m k => m + k = N ∧ 1 ≤ k ∧ ∀ i, 0 < i → i < k → gd l i ≠ gd l (i - 1)) (N - 1) 1 ⟨by omega, Nat.le_refl _, fun i h1 h2 => by omega⟩ [.t 0] ?_ ?_
    · (conv => whnf); refine ⟨rfl, ?_, ?_⟩ <;> (conv => whnf) <;> (repeat' apply And.intro) <;> first | exact True.intro | rfl | exact hRc.box _
    rintro m k ⟨hmk, hk1, hne⟩
    conv => whnf
    refine SemG.go (Sem.lenMs ((T.ti 27).el 61 rfl) rfl ?_); conv => whnf
    refine Br.mk (fun hq2 => ?_) (fun hq2 => ?_) <;> conv => whnf
    rotate_left
    · have hkN : k = N := by have := of_decide_eq_false hq2; omega
      subst hkN
      have hid : cpt l l.length = l := by rw [cpt_id l l.length (Nat.le_refl _) (fun i h1 h2 => hne i h1 (by omega)), List.take_length]
      rw [hid]
      exact ⟨_, rfl, R, rfl, hRlen, hRl, rfl, hle, hm, by rw [hRt]; exact fun x hx y hy => (cells_pure l x hx y hy).1, by rw [hRt, List.map_map]; rfl⟩
    have hkN : k < N := by have := of_decide_eq_true hq2; omega
    have hR0 : (R.drop 0).take (N - 0) = (l.drop 0).map GCell.c := by simpa using hRt
    refine Nd.go ⟨by omega, by omega⟩ ?_; conv => whnf
    refine LdR.row hRl (by rw [Nat.zero_add]; rfl) (hget R 0 k (by omega) hkN hR0) (by conv => whnf) ?_; conv => whnf
    have ep : ∀ q : Nat, 1 ≤ q → q ≤ N → IntKind.i64.wrap ((q : Int) - 1) = ((q - 1 : Nat) : Int) := fun q h1 h2 => by rw [w64 (by omega)]; omega
    rw [ep k hk1 (by omega)]
    refine Nd.go ⟨by omega, by omega⟩ ?_; conv => whnf
    refine LdR.row hRl (by rw [Nat.zero_add]; rfl) (hget R 0 (k - 1) (by omega) (by omega) hR0) (by conv => whnf) ?_; conv => whnf
    rw [cell_ints]
    refine Br.mk (fun hq3 => ?_) (fun hq3 => ?_) <;> conv => whnf
    · have heq : gd l k = gd l (k - 1) := of_decide_eq_true hq3
      refine Nd.go ⟨by omega, by omega⟩ ?_; conv => whnf
      have hc0 : cpt l k = l.take k := cpt_id l k (by omega) hne
      refine Lp.go T [.t 0] (fun (a : Nat × Nat × List (List AV)) => [(0, .ms 0 0 N cap 5), (3, i64 a.1), (4, .ms 0 (0 + k) (N - k) (cap - k) 5), (5, i64 a.2.1)]) (fun a => [.box a.2.2.flatten])
        (fun m a => m + (k + a.2.1) = N ∧ 1 ≤ a.2.1 ∧ a.1 + 1 ≤ k + a.2.1 ∧ a.2.2.length = cap ∧ (∀ x ∈ a.2.2, x.length = 5) ∧ CloR a.2.2 ∧ a.2.2.take a.1 = (cpt l (k + a.2.1)).map GCell.c ∧ (a.2.2.drop (k + a.2.1 - 1)).take (N - (k + a.2.1 - 1)) = (l.drop (k + a.2.1 - 1)).map GCell.c)
        (N - (k + 1)) (k, 1, R) ⟨by show N - (k + 1) + (k + 1) = N; omega, Nat.le_refl _, Nat.le_refl _, hRlen, hRl, hRc, ?_, ?_⟩ [.t 0] ?_ ?_
      · show R.take k = (cpt l (k + 1)).map GCell.c
        rw [cpt, if_pos ⟨by omega, heq⟩, List.append_nil, hc0, List.map_take, ← hRt, List.take_take, Nat.min_eq_left (by omega)]
      · show (R.drop (k + 1 - 1)).take (N - (k + 1 - 1)) = (l.drop (k + 1 - 1)).map GCell.c
        rw [← List.drop_take, hRt, List.map_drop]
      · (conv => whnf); refine ⟨rfl, ?_, ?_⟩ <;> (conv => whnf) <;> (repeat' apply And.intro) <;> first | exact True.intro | rfl | exact hRc.box _
      rintro m2 ⟨w, q, R'⟩ ⟨hm2, hq1, hwq, hR'c, hR'5, hR'o, hR't, hR'd⟩
      simp only at hm2 hq1 hwq hR'c hR'5 hR'o hR't hR'd ⊢
      conv => whnf
      refine SemG.go (Sem.lenMs ((T.ti 27).el 61 rfl) rfl ?_); conv => whnf
      refine Br.mk (fun hq4 => ?_) (fun hq4 => ?_) <;> conv => whnf
      · have hqN : q < N - k := by have := of_decide_eq_true hq4; omega
        refine Nd.go ⟨by omega, by omega⟩ ?_; conv => whnf
        refine LdR.row hR'5 (by rw [Nat.zero_add]; rfl) (hget R' (k + q - 1) (k + q) (by omega) (by omega) hR'd) (by conv => whnf) ?_; conv => whnf
        rw [ep q hq1 (by omega)]
        refine Nd.go ⟨by omega, by omega⟩ ?_; conv => whnf
        refine LdR.row (r := k + (q - 1)) hR'5 (by rw [Nat.zero_add]; rfl) (hget R' (k + q - 1) (k + (q - 1)) (by omega) (by omega) hR'd) (by conv => whnf) ?_; conv => whnf
        rw [cell_ints', show k + (q - 1) = k + q - 1 by omega]
        have hnx : (R'.drop (k + (q + 1) - 1)).take (N - (k + (q + 1) - 1)) = (l.drop (k + (q + 1) - 1)).map GCell.c := by
          have h1 := congrArg (fun x => x.drop 1) hR'd
          simp only [List.drop_take, List.drop_drop, ← List.map_drop] at h1
          rw [show k + (q + 1) - 1 = k + q - 1 + 1 by omega, show N - (k + q - 1 + 1) = N - (k + q - 1) - 1 by omega]
          exact h1
        have hwl : (cpt l (k + q)).length = w := by
          have := congrArg List.length hR't
          simp at this; omega
        refine Br.mk (fun hq5 => ?_) (fun hq5 => ?_) <;> conv => whnf
        · have hd : gd l (k + q) ≠ gd l (k + q - 1) := by simpa using hq5
          refine Nd.go ⟨by omega, by omega⟩ ?_; conv => whnf
          refine LdR.row hR'5 (by rw [Nat.zero_add]; rfl) (hget R' (k + q - 1) (k + q) (by omega) (by omega) hR'd) (by conv => whnf) ?_; conv => whnf
          refine Nd.go ⟨by omega, by omega⟩ ?_; conv => whnf
          refine SemG.go (Sem.storeMp (r := w) (cs := (gd l (k + q)).c) (by kernel_rfl) rfl rfl rfl rfl rfl hR'5 rfl (by simp) (by omega) ?_); conv => whnf
          refine ⟨m2 - 1, (w + 1, q + 1, R'.set w (gd l (k + q)).c), by omega, ⟨by simp; omega, by simp, by simp; omega, by simpa using hR'c, ?_, hR'o.set (cell_clo _) _, ?_, ?_⟩, ?_⟩
          · intro x hx
            rcases List.mem_or_eq_of_mem_set hx with hx | rfl
            · exact hR'5 x hx
            · rfl
          · show (R'.set w (gd l (k + q)).c).take (w + 1) = (cpt l (k + (q + 1))).map GCell.c
            rw [show k + (q + 1) = k + q + 1 by omega, cpt, if_neg (by rintro ⟨_, h⟩; exact hd h), List.map_append, ← hR't, List.take_add_one, List.getElem?_set_self (by omega), List.take_set_of_le (Nat.le_refl _)]
            rfl
          · show ((R'.set w (gd l (k + q)).c).drop (k + (q + 1) - 1)).take (N - (k + (q + 1) - 1)) = _
            rw [List.drop_set_of_lt (by omega)]
            exact hnx
          · (conv => whnf); refine ⟨rfl, ?_, ?_⟩ <;> (conv => whnf) <;> (repeat' apply And.intro) <;> first | exact True.intro | rfl | exact incr (by omega) | exact (hR'o.set (cell_clo _) _).box _
        · have hd : gd l (k + q) = gd l (k + q - 1) := by simpa using hq5
          refine ⟨m2 - 1, (w, q + 1, R'), by omega, ⟨by simp; omega, by simp, by simp; omega, hR'c, hR'5, hR'o, ?_, hnx⟩, ?_⟩
          · show R'.take w = (cpt l (k + (q + 1))).map GCell.c
            rw [show k + (q + 1) = k + q + 1 by omega, cpt, if_pos ⟨by omega, hd⟩, List.append_nil, hR't]
          · (conv => whnf); refine ⟨rfl, ?_, ?_⟩ <;> (conv => whnf) <;> (repeat' apply And.intro) <;> first | exact True.intro | rfl | exact incr (by omega) | exact hR'o.box _
      · have hqN : k + q = N := by have := of_decide_eq_false hq4; omega
        rw [hqN] at hR't
        have hwN : w ≤ N := by omega
        refine Nd.go ⟨by omega, by omega⟩ ?_; conv => whnf
        refine SemG.go (Sem.clear (R := R') ((T.ti 27).el 61 rfl) (ti_zero_len T (rfl : (tb.ti 61).zero = some _)) rfl rfl rfl hR'5 (by simp; omega) ?_); conv => whnf
        refine Nd.go ⟨by omega, by omega⟩ ?_; conv => whnf
        have hi' : (w : Int).toNat = w := Int.toNat_natCast w
        have htR : ∀ Z2 : List (List AV), (R'.take w ++ Z2).take w = R'.take w := fun Z2 => by
          rw [List.take_append_of_le_length (by simp; omega), List.take_of_length_le (by simp; omega)]
        refine ⟨_, rfl, _, rfl, ?_, ?_, rfl, by omega, hm, ?_, ?_⟩ <;> simp only [Nat.zero_add, hi']
        · simp; omega
        · intro x hx
          rcases List.mem_append.1 hx with hx | hx
          · rcases List.mem_append.1 hx with hx | hx
            · exact hR'5 x (List.mem_of_mem_take hx)
            · rw [List.eq_of_mem_replicate hx]; rfl
          · exact hR'5 x (List.mem_of_mem_drop hx)
        · rw [List.append_assoc, htR, hR't]
          exact fun x hx y hy => (cells_pure _ x hx y hy).1
        · rw [List.append_assoc, htR, hR't, List.map_map, hNl]; rfl
    · refine ⟨m - 1, k + 1, by omega, ⟨by omega, by omega, fun i h1 h2 => ?_⟩, ?_⟩
      · by_cases e : i = k
        · subst e; exact of_decide_eq_false hq3
        · exact hne i h1 (by omega)
      · (conv => whnf); refine ⟨rfl, ?_, ?_⟩ <;> (conv => whnf) <;> (repeat' apply And.intro) <;> first | exact True.intro | rfl | exact incr (by omega) | exact hRc.box _
end Go.Proofs.YtbaajjihhdmdpaaGreatDoor

namespace Go.Proofs.YtbaajjihhdmdpaaGreatDoor
open Go.RowKit
set_option linter.unusedSectionVars false
set_option linter.unusedVariables false
set_option linter.unusedSimpArgs false
set_option linter.unnecessarySimpa false
set_option maxRecDepth 100000

section
open Go.Shelf
def Tryz.sortC_ren : Go.Shelf.Ren := ⟨fun | 6 => 101 | 15 => 185 | 14 => 184 | 28 => 260 | 29 => 261 | 20 => 252 | 21 => 253 | 22 => 254 | 23 => 255 | 24 => 256 | 25 => 257 | 26 => 258 | 27 => 259 | 46 => 295 | 47 => 296 | 48 => 297 | 49 => 298 | 50 => 299 | 57 => 316 | n => n, fun | 22 => 27 | 24 => 61 | 25 => 135 | 3 => 3 | 39 => 208 | 0 => 0 | 53 => 263 | 55 => 265 | 4 => 4 | 46 => 257 | 45 => 256 | 50 => 138 | 5 => 5 | 9 => 9 | 66 => 283 | 70 => 287 | 76 => 301 | 77 => 302 | n => n, fun | n => n⟩
theorem Tryz.sortC : Go.Proofs.SlLaysF0.n6 Tryz.prog Tryz.sortC_ren := {
  mixed := by kernel_rfl,
  f6 := ⟨Tryz.f101.name, by decide, Tryz.func101.trans (congrArg some (by kernel_rfl))⟩,
  f14 := ⟨Tryz.f184.name, by decide, Tryz.func184.trans (congrArg some (by kernel_rfl))⟩,
  f15 := Tryz.func185.trans (congrArg some (by kernel_rfl)),
  f20 := ⟨Tryz.f252.name, by decide, Tryz.func252.trans (congrArg some (by kernel_rfl))⟩,
  f21 := ⟨Tryz.f253.name, by decide, Tryz.func253.trans (congrArg some (by kernel_rfl))⟩,
  f22 := ⟨Tryz.f254.name, by decide, Tryz.func254.trans (congrArg some (by kernel_rfl))⟩,
  f23 := ⟨Tryz.f255.name, by decide, Tryz.func255.trans (congrArg some (by kernel_rfl))⟩,
  f24 := ⟨Tryz.f256.name, by decide, Tryz.func256.trans (congrArg some (by kernel_rfl))⟩,
  f25 := ⟨Tryz.f257.name, by decide, Tryz.func257.trans (congrArg some (by kernel_rfl))⟩,
  f26 := ⟨Tryz.f258.name, by decide, Tryz.func258.trans (congrArg some (by kernel_rfl))⟩,
  f27 := ⟨Tryz.f259.name, by decide, Tryz.func259.trans (congrArg some (by kernel_rfl))⟩,
  f28 := Tryz.func260.trans (congrArg some (by kernel_rfl)),
  f29 := Tryz.func261.trans (congrArg some (by kernel_rfl)),
  f46 := ⟨Tryz.f295.name, by decide, Tryz.func295.trans (congrArg some (by kernel_rfl))⟩,
  f47 := Tryz.func296.trans (congrArg some (by kernel_rfl)),
  f48 := Tryz.func297.trans (congrArg some (by kernel_rfl)),
  f49 := ⟨Tryz.f298.name, by decide, Tryz.func298.trans (congrArg some (by kernel_rfl))⟩,
  f50 := ⟨Tryz.f299.name, by decide, Tryz.func299.trans (congrArg some (by kernel_rfl))⟩,
  f57 := ⟨Tryz.f316.name, by decide, Tryz.func316.trans (congrArg some (by kernel_rfl))⟩,
  t0 := Tryz.underlying0,
  a0 := Tryz.isAgg0,
  z0 := Tryz.sizeOf0,
  v0 := Tryz.zeroValue0,
  t3 := Tryz.underlying3,
  a3 := Tryz.isAgg3,
  z3 := Tryz.sizeOf3,
  v3 := Tryz.zeroValue3,
  t4 := Tryz.underlying4,
  a4 := Tryz.isAgg4,
  z4 := Tryz.sizeOf4,
  v4 := Tryz.zeroValue4,
  t5 := Tryz.underlying5,
  a5 := Tryz.isAgg5,
  z5 := Tryz.sizeOf5,
  v5 := Tryz.zeroValue5,
  t9 := Tryz.underlying9,
  a9 := Tryz.isAgg9,
  z9 := Tryz.sizeOf9,
  v9 := Tryz.zeroValue9,
  t22 := Tryz.underlying27,
  a22 := Tryz.isAgg27,
  z22 := Tryz.sizeOf27,
  v22 := Tryz.zeroValue27,
  t25 := Tryz.underlying135,
  a25 := Tryz.isAgg135,
  z25 := Tryz.sizeOf135,
  v25 := Tryz.zeroValue135,
  t39 := Tryz.underlying208,
  a39 := Tryz.isAgg208,
  z39 := Tryz.sizeOf208,
  v39 := Tryz.zeroValue208,
  t45 := Tryz.underlying256,
  a45 := Tryz.isAgg256,
  z45 := Tryz.sizeOf256,
  v45 := Tryz.zeroValue256,
  t46 := Tryz.underlying257,
  a46 := Tryz.isAgg257,
  z46 := Tryz.sizeOf257,
  v46 := Tryz.zeroValue257,
  t50 := Tryz.underlying138,
  a50 := Tryz.isAgg138,
  z50 := Tryz.sizeOf138,
  v50 := Tryz.zeroValue138,
  t53 := Tryz.underlying263,
  a53 := Tryz.isAgg263,
  z53 := Tryz.sizeOf263,
  v53 := Tryz.zeroValue263,
  t55 := Tryz.underlying265,
  a55 := Tryz.isAgg265,
  z55 := Tryz.sizeOf265,
  v55 := Tryz.zeroValue265,
  t66 := Tryz.underlying283,
  a66 := Tryz.isAgg283,
  z66 := Tryz.sizeOf283,
  v66 := Tryz.zeroValue283,
  t70 := Tryz.underlying287,
  a70 := Tryz.isAgg287,
  z70 := Tryz.sizeOf287,
  v70 := Tryz.zeroValue287,
  t76 := Tryz.underlying301,
  a76 := Tryz.isAgg301,
  z76 := Tryz.sizeOf301,
  v76 := Tryz.zeroValue301,
  t77 := Tryz.underlying302,
  a77 := Tryz.isAgg302,
  z77 := Tryz.sizeOf302,
  v77 := Tryz.zeroValue302 }
def Tryz.sortL_ren : Go.Shelf.Ren := ⟨fun | 6 => 276 | 15 => 185 | 14 => 306 | 28 => 260 | 29 => 261 | 20 => 319 | 21 => 320 | 22 => 321 | 23 => 322 | 24 => 323 | 25 => 324 | 26 => 325 | 27 => 326 | 46 => 332 | 47 => 296 | 48 => 297 | 49 => 333 | 50 => 334 | 57 => 339 | n => n, fun | 22 => 23 | 24 => 31 | 25 => 230 | 3 => 3 | 39 => 208 | 0 => 0 | 53 => 263 | 55 => 265 | 4 => 4 | 46 => 257 | 45 => 256 | 50 => 138 | 5 => 5 | 9 => 9 | 66 => 283 | 70 => 287 | 76 => 301 | 77 => 302 | n => n, fun | n => n⟩
theorem Tryz.sortL : Go.Proofs.SlLaysF0.n6 Tryz.prog Tryz.sortL_ren := {
  mixed := by kernel_rfl,
  f6 := ⟨Tryz.f276.name, by decide, Tryz.func276.trans (congrArg some (by kernel_rfl))⟩,
  f14 := ⟨Tryz.f306.name, by decide, Tryz.func306.trans (congrArg some (by kernel_rfl))⟩,
  f15 := Tryz.func185.trans (congrArg some (by kernel_rfl)),
  f20 := ⟨Tryz.f319.name, by decide, Tryz.func319.trans (congrArg some (by kernel_rfl))⟩,
  f21 := ⟨Tryz.f320.name, by decide, Tryz.func320.trans (congrArg some (by kernel_rfl))⟩,
  f22 := ⟨Tryz.f321.name, by decide, Tryz.func321.trans (congrArg some (by kernel_rfl))⟩,
  f23 := ⟨Tryz.f322.name, by decide, Tryz.func322.trans (congrArg some (by kernel_rfl))⟩,
  f24 := ⟨Tryz.f323.name, by decide, Tryz.func323.trans (congrArg some (by kernel_rfl))⟩,
  f25 := ⟨Tryz.f324.name, by decide, Tryz.func324.trans (congrArg some (by kernel_rfl))⟩,
  f26 := ⟨Tryz.f325.name, by decide, Tryz.func325.trans (congrArg some (by kernel_rfl))⟩,
  f27 := ⟨Tryz.f326.name, by decide, Tryz.func326.trans (congrArg some (by kernel_rfl))⟩,
  f28 := Tryz.func260.trans (congrArg some (by kernel_rfl)),
  f29 := Tryz.func261.trans (congrArg some (by kernel_rfl)),
  f46 := ⟨Tryz.f332.name, by decide, Tryz.func332.trans (congrArg some (by kernel_rfl))⟩,
  f47 := Tryz.func296.trans (congrArg some (by kernel_rfl)),
  f48 := Tryz.func297.trans (congrArg some (by kernel_rfl)),
  f49 := ⟨Tryz.f333.name, by decide, Tryz.func333.trans (congrArg some (by kernel_rfl))⟩,
  f50 := ⟨Tryz.f334.name, by decide, Tryz.func334.trans (congrArg some (by kernel_rfl))⟩,
  f57 := ⟨Tryz.f339.name, by decide, Tryz.func339.trans (congrArg some (by kernel_rfl))⟩,
  t0 := Tryz.underlying0,
  a0 := Tryz.isAgg0,
  z0 := Tryz.sizeOf0,
  v0 := Tryz.zeroValue0,
  t3 := Tryz.underlying3,
  a3 := Tryz.isAgg3,
  z3 := Tryz.sizeOf3,
  v3 := Tryz.zeroValue3,
  t4 := Tryz.underlying4,
  a4 := Tryz.isAgg4,
  z4 := Tryz.sizeOf4,
  v4 := Tryz.zeroValue4,
  t5 := Tryz.underlying5,
  a5 := Tryz.isAgg5,
  z5 := Tryz.sizeOf5,
  v5 := Tryz.zeroValue5,
  t9 := Tryz.underlying9,
  a9 := Tryz.isAgg9,
  z9 := Tryz.sizeOf9,
  v9 := Tryz.zeroValue9,
  t22 := Tryz.underlying23,
  a22 := Tryz.isAgg23,
  z22 := Tryz.sizeOf23,
  v22 := Tryz.zeroValue23,
  t25 := Tryz.underlying230,
  a25 := Tryz.isAgg230,
  z25 := Tryz.sizeOf230,
  v25 := Tryz.zeroValue230,
  t39 := Tryz.underlying208,
  a39 := Tryz.isAgg208,
  z39 := Tryz.sizeOf208,
  v39 := Tryz.zeroValue208,
  t45 := Tryz.underlying256,
  a45 := Tryz.isAgg256,
  z45 := Tryz.sizeOf256,
  v45 := Tryz.zeroValue256,
  t46 := Tryz.underlying257,
  a46 := Tryz.isAgg257,
  z46 := Tryz.sizeOf257,
  v46 := Tryz.zeroValue257,
  t50 := Tryz.underlying138,
  a50 := Tryz.isAgg138,
  z50 := Tryz.sizeOf138,
  v50 := Tryz.zeroValue138,
  t53 := Tryz.underlying263,
  a53 := Tryz.isAgg263,
  z53 := Tryz.sizeOf263,
  v53 := Tryz.zeroValue263,
  t55 := Tryz.underlying265,
  a55 := Tryz.isAgg265,
  z55 := Tryz.sizeOf265,
  v55 := Tryz.zeroValue265,
  t66 := Tryz.underlying283,
  a66 := Tryz.isAgg283,
  z66 := Tryz.sizeOf283,
  v66 := Tryz.zeroValue283,
  t70 := Tryz.underlying287,
  a70 := Tryz.isAgg287,
  z70 := Tryz.sizeOf287,
  v70 := Tryz.zeroValue287,
  t76 := Tryz.underlying301,
  a76 := Tryz.isAgg301,
  z76 := Tryz.sizeOf301,
  v76 := Tryz.zeroValue301,
  t77 := Tryz.underlying302,
  a77 := Tryz.isAgg302,
  z77 := Tryz.sizeOf302,
  v77 := Tryz.zeroValue302 }
end

/-- The tape is not wound back. -/
abbrev strict : Lax := ⟨False⟩

theorem below_grow {W W' : World} (h : @Below strict W.heap.size W W') : ∃ q os, W' = Sort.grow (W.drewN q) os := by
  letI := strict
  have hd : W.drawn ≤ W'.drawn := h.drawn.resolve_left (fun h => h)
  refine ⟨W'.drawn - W.drawn, W'.heap.extract W.heap.size W'.heap.size, ?_⟩
  have hh : W'.heap = W.heap ++ W'.heap.extract W.heap.size W'.heap.size := by
    apply Array.ext_getElem?
    intro i
    rw [Array.getElem?_append]
    split
    · rename_i hi; exact h.block i hi
    · rename_i hi
      rw [Array.getElem?_extract]
      by_cases hlt : i < W'.heap.size
      · have : W.heap.size + (i - W.heap.size) = i := by omega
        rw [this]; simp; omega
      · rw [Array.getElem?_eq_none (by omega)]
        simp; omega
  cases W'; cases W
  simp only [Sort.grow, World.drewN, World.mk.injEq] at *
  refine ⟨hh, h.tape, ?_, h.os, h.output⟩
  omega

variable [Lax]

abbrev encN {α : Type} (nums : α → List Int) (x : α) : List Value := (nums x).map (Value.int .i64)
abbrev cellN {α : Type} (nums : α → List Int) (x : α) : List AV := (nums x).map (fun n => i64 n)

theorem int_rep {S : Nat → Nat → Prop} {W : World} {n : Int} {v : Value} (h : Rep S W (i64 n) v) : v = .int .i64 n := by cases h; rfl

theorem sortWorld_at {α : Type} [Inhabited α] {enc : α → List Value} {k : Nat} {W : World} {b m : Nat} {d : Array α} {os : Array Obj} {us : Array Value} {ty : TypeId} (hb : W.heap[b]? = some (.cells us ty (0, 0))) :
    (sortWorldK enc k W b 0 m d os).heap[b]? = some (.cells (Sort.putCells id 0 (Sort.flatK enc k d) us) ty (0, 0)) ∧ (∀ q, q < W.heap.size → q ≠ b → (sortWorldK enc k W b 0 m d os).heap[q]? = W.heap[q]?) ∧ W.heap.size ≤ (sortWorldK enc k W b 0 m d os).heap.size := by
  have hlt : b < W.heap.size := (Array.getElem?_eq_some_iff.1 hb).1
  have hsz : (Sort.putRowK enc k (Sort.ahead W m) b 0 d).heap.size = W.heap.size := by simp [Sort.putRowK, Sort.ahead]
  refine ⟨?_, fun q hq hne => ?_, ?_⟩
  · show ((Sort.putRowK enc k (Sort.ahead W m) b 0 d).heap ++ os)[b]? = _
    rw [Array.getElem?_append, if_pos (by omega)]
    show (W.heap.modify b _)[b]? = _
    rw [Array.getElem?_modify, if_pos rfl, hb]; rfl
  · show ((Sort.putRowK enc k (Sort.ahead W m) b 0 d).heap ++ os)[q]? = _
    rw [Array.getElem?_append, if_pos (by omega)]
    show (W.heap.modify b _)[q]? = _
    rw [Array.getElem?_modify, if_neg (Ne.symm hne)]
  · show _ ≤ ((Sort.putRowK enc k (Sort.ahead W m) b 0 d).heap ++ os).size
    simp; omega

theorem sortM {P : Program} {ρ : Go.Shelf.Ren} {α : Type} [Inhabited α] (L : SlLaysF0.n6 P ρ) {k e : Nat} (aE : ∀ w, (isAgg (ρ.t 24)).run P w = .ok true w) (zE : ∀ w, (Go.sizeOf (ρ.t 24)).run P w = .ok k w) (hke : k = P.cellsOf e) (nums : α → List Int) (hk : ∀ x, (nums x).length = k) (hk0 : 0 < k)
    (cf : α → α → Int) (hO : Sort.SWO (ltOf cf)) (hT : ∀ x y, (ltOf cf) x y = false → (ltOf cf) y x = false → x = y) {g : Nat} (eg : ∀ args w, (callFunc g args).run P w = .ok (.enter g args) w)
    (hs : ∀ x y, @Sound strict P g [.ag (cellN nums x), .ag (cellN nums y)] (i64 (cf x y))) (l : List α) (hl : l.length < 4611686018427387904) :
    SoundM P (ρ.f 6) e k (l.map (cellN nums)) [.fn g []] ((l.mergeSort fun x y => !(ltOf cf) y x).map (cellN nums)) := by
  intro S W B u us hTab hS hB hF hul hrep
  obtain ⟨v, rfl⟩ : ∃ v, us = [v] := by
    cases us with
    | nil => simp at hul
    | cons v us => cases us with
      | nil => exact ⟨v, rfl⟩
      | cons _ _ => simp at hul
  have hv : v = .func (.func g) #[] #[] := by
    have := hrep 0 _ rfl
    simp only [List.getD_cons_zero] at this
    generalize hq : AV.fn g [] = q at this
    cases this with
    | fn f caps us hl _ =>
      injection hq with h1 h2
      subst h1; subst h2
      have : us = [] := List.eq_nil_of_length_eq_zero hl
      subst this; rfl
    | _ => cases hq
  subst hv
  have hrow : ∀ (l : List α), ∀ x ∈ l.map (cellN nums), x.length = k := fun l x hx => by
    obtain ⟨y, _, rfl⟩ := List.mem_map.1 hx
    simp [hk]
  rcases hF.ex with ⟨h0, A, rfl⟩ | ⟨b, c, vs, ty, rfl, hBb, hh, hvs, hlc, hc0, hcm, hnS, hcells⟩
  · obtain rfl : l = [] := by simpa using h0
    refine (AnyF.slices_SortFunc_none L A 0 (.func (.func g) #[] #[]) W).mono ?_
    rintro en W' ⟨rfl, rfl⟩
    exact ⟨S, rfl, .refl hS, by simpa using hF⟩
  · rw [List.length_map] at hlc hF ⊢
    have hlk : l.length * k ≤ vs.size := by rw [hvs]; exact Nat.mul_le_mul_right _ hlc
    have hhold : Sort.HoldsK (encN nums) k W b 0 l.toArray := by
      intro j hj
      simp only [Sort.size_flatK, List.size_toArray] at hj
      have hjk : j / k < l.length := (Nat.div_lt_iff_lt_mul hk0).2 hj
      have hjm : j % k < k := Nat.mod_lt _ hk0
      refine ⟨?_, by simp [World.frozen?, hh]⟩
      rw [cell_of_row W _ _ _ _ _ hh, Nat.zero_add, Sort.get_flatK _ _ _ _ (by simpa using hj)]
      have hx : getx (l.map (cellN nums)) (j / k) (j % k) = some (i64 ((nums l[j / k])[j % k]'(by rw [hk]; exact hjm))) := by
        unfold getx
        rw [List.getElem?_map, List.getElem?_eq_getElem hjk]
        simp [hk, hjm]
      have := int_rep (hcells _ _ _ hx)
      rw [show j / k * k + j % k = j by rw [Nat.mul_comm]; exact Nat.div_add_mod j k, Array.getD_eq_getD_getElem?, Array.getElem?_eq_getElem (by omega)] at this
      simp only [Option.getD_some] at this
      rw [Array.getElem?_eq_getElem (by omega), this]
      simp [hjk, hk, hjm]
    have hcmp : CmpLays P g #[] (encN nums) k cf b 0 l.toArray.size W := by
      intro m os dk hdk x y
      obtain ⟨w1, w2, w3⟩ := sortWorld_at (enc := encN nums) (k := k) (m := m) (d := dk) (os := os) hh
      have hTb : TabB P (sortWorldK (encN nums) k W b 0 m dk os).heap.size (sortWorldK (encN nums) k W b 0 m dk os) :=
        (hTab.keep fun q hq _ => w2 q (by omega) (by omega)).mono (by omega)
      refine (hs x y (fun _ _ => False) (sortWorldK (encN nums) k W b 0 m dk os) [.agg (encN nums x).toArray, .agg (encN nums y).toArray] hTb (fun _ _ h => h.elim) rfl (fun j z hz => ?_)).mono ?_
      · have ag : ∀ x : α, Rep (fun _ _ => False) (sortWorldK (encN nums) k W b 0 m dk os) (.ag (cellN nums x)) (.agg (encN nums x).toArray) := fun x => by
          refine .ag _ (encN nums x) (by simp) fun j z hz => ?_
          rw [List.getElem?_map] at hz
          obtain ⟨n, hn, rfl⟩ := Option.map_eq_some_iff.1 hz
          rw [List.getD_eq_getElem?_getD, List.getElem?_map, hn]
          exact Rep.int _ _
        cases j with
        | zero => simp at hz; subst hz; exact ag x
        | succ j => cases j with
          | zero => simp at hz; subst hz; exact ag y
          | succ j => simp at hz
      · rintro en W' ⟨u', S', rfl, hBl, _, _, _, hr⟩
        have hu : u' = .int .i64 (cf x y) := int_rep hr
        subst hu
        exact ⟨rfl, below_grow hBl⟩
    have hob : ownBlk (.slice (some ⟨b, 0, none⟩) l.length c) = some b := by
      cases c with
      | zero => omega
      | succ c => rfl
    have hmain := AnyQ.slices_SortFunc_total L k aE zE (encN nums) (fun x => by simp [hk]) (fun x v hv => by
      obtain ⟨n, _, rfl⟩ := List.mem_map.1 hv; rfl) cf hO g #[] b 0 c l.toArray W eg hcmp hhold (by have := (Array.getElem?_eq_some_iff.1 hh).1; exact this) (by simpa using hl) hT
    refine Calls.mono (by simpa using hmain) ?_
    rintro en W' ⟨rfl, n, os, rfl⟩
    obtain ⟨ls, hls⟩ : ∃ ls : List α, ls = l.mergeSort fun x y => !(ltOf cf) y x := ⟨_, rfl⟩
    have hlen : ls.length = l.length := by rw [hls]; exact List.length_mergeSort _
    have e1 : (l.toArray.toList.mergeSort fun x y => !(ltOf cf) y x).toArray = ls.toArray := by rw [hls]
    rw [show (fun x y => !ltOf cf y x) = fun x y => !(ltOf cf) y x from rfl] at *
    simp only [e1]
    rw [← hls]
    obtain ⟨w1, w2, w3⟩ := sortWorld_at (enc := encN nums) (k := k) (m := n) (d := ls.toArray) (os := os) hh
    have hne : ∀ {q : Nat}, (q < W.heap.size ∧ ownBlk (.slice (some ⟨b, 0, none⟩) l.length c) ≠ some q) → q < W.heap.size ∧ q ≠ b := fun {q} h => ⟨h.1, fun e => h.2 (by rw [hob, e])⟩
    refine ⟨S, by first | rfl | trivial, ⟨⟨rfl, rfl, rfl, w3, fun q hq => w2 q (by omega) (by omega), ?_⟩, fun q hq => w2 q (hne hq).1 (hne hq).2, fun _ _ h => h, fun q o hs => ?_, fun _ _ h => .inl h, fun q o hs => ?_⟩, hke, hk0, hrow ls, .inr ⟨b, c, _, ty, by rw [List.length_map, hlen], hBb, w1, ?_, by rw [List.length_map, hlen]; exact hlc, hc0, hcm, hnS, ?_⟩⟩
    · right
      show W.drawn ≤ (Sort.putRowK (encN nums) k (Sort.ahead W n) b 0 ls.toArray).drawn
      show W.drawn ≤ W.drawn + n
      omega
    · have hq := cell_lt (hS q o hs)
      exact cell_of_heap (w2 q hq fun e => hnS o (e ▸ hs))
    · have hq := cell_lt (hS q o hs)
      rw [cell_of_heap (w2 q hq fun e => hnS o (e ▸ hs))]; exact hS q o hs
    · simp [Sort.putCells, hvs]
    · intro i j x hx
      obtain ⟨hi, hj⟩ := getx_lt (hrow ls) hx
      rw [List.length_map] at hi
      have hlt : i * k + j < ls.length * k := flat_lt hi hj
      have hx' : x = i64 ((nums ls[i])[j]'(by rw [hk]; exact hj)) := by
        unfold getx at hx
        rw [List.getElem?_map, List.getElem?_eq_getElem hi] at hx
        simp [hk, hj] at hx
        exact hx.symm
      subst hx'
      have hval : (Sort.putCells id 0 (Sort.flatK (encN nums) k ls.toArray) vs).getD (i * k + j) Go.undef = .int .i64 ((nums ls[i])[j]'(by rw [hk]; exact hj)) := by
        rw [Array.getD_eq_getD_getElem?]
        unfold Sort.putCells
        rw [Array.getElem?_mapIdx, Array.getElem?_eq_getElem (by rw [hlen] at hlt; omega)]
        simp only [Option.map_some, Option.getD_some]
        rw [if_pos ⟨Nat.zero_le _, by simpa using hlt⟩, Nat.sub_zero, Sort.get_flatK _ _ _ _ (by simpa using hlt)]
        rw [(flat_idx hj).1, (flat_idx hj).2]
        simp [hi, hk, hj]
      rw [hval]
      exact Rep.int _ _
end Go.Proofs.YtbaajjihhdmdpaaGreatDoor

namespace Go.Proofs.YtbaajjihhdmdpaaGreatDoor
open Go.RowKit
set_option linter.unusedVariables false
set_option linter.unusedSimpArgs false
set_option linter.unnecessarySimpa false
set_option linter.unusedSectionVars false
set_option maxRecDepth 100000
variable [Lax]

theorem cmpI_neg (a b : Int) : cmpI a b < 0 ↔ a < b := by unfold cmpI; (repeat' split) <;> constructor <;> omega
theorem cmpI_zero (a b : Int) : cmpI a b = 0 ↔ a = b := by unfold cmpI; (repeat' split) <;> constructor <;> omega
theorem cmpI_pos (a b : Int) : 0 < cmpI a b ↔ b < a := by unfold cmpI; (repeat' split) <;> constructor <;> omega

theorem cmpInts_cons (x y : Int) (r s : List Int) : cmpInts (x :: r) (y :: s) < 0 ↔ x < y ∨ (x = y ∧ cmpInts r s < 0) := by
  rw [cmpInts]
  by_cases h : cmpI x y = 0
  · rw [if_neg (by simp [h])]
    have := (cmpI_zero x y).1 h
    subst this; simp
  · rw [if_pos (by simp [h]), cmpI_neg]
    have : x ≠ y := fun e => h ((cmpI_zero x y).2 e)
    constructor
    · exact .inl
    · rintro (h1 | ⟨h1, _⟩)
      · exact h1
      · exact absurd h1 this
theorem cmpInts_self : ∀ (l : List Int), cmpInts l l = 0
  | [] => rfl
  | x :: r => by rw [cmpInts, if_neg (by simp [(cmpI_zero x x).2 rfl]), cmpInts_self r]
theorem cmpInts_trans : ∀ (a b c : List Int), a.length = b.length → b.length = c.length → cmpInts a b < 0 → cmpInts b c < 0 → cmpInts a c < 0
  | [], [], _, _, _, h, _ => by simp [cmpInts] at h
  | x :: a, y :: b, z :: c, h1, h2, h3, h4 => by
    rw [cmpInts_cons] at h3 h4 ⊢
    rcases h3 with h3 | ⟨rfl, h3⟩
    · rcases h4 with h4 | ⟨rfl, h4⟩
      · left; omega
      · left; omega
    · rcases h4 with h4 | ⟨rfl, h4⟩
      · left; omega
      · exact .inr ⟨rfl, cmpInts_trans a b c (by simpa using h1) (by simpa using h2) h3 h4⟩
  | [], _ :: _, _, h, _, _, _ => by simp at h
  | _ :: _, [], _, h, _, _, _ => by simp at h
  | _ :: _, _ :: _, [], _, h, _, _ => by simp at h
theorem cmpInts_tot : ∀ (a b : List Int), a.length = b.length → ¬ cmpInts a b < 0 → ¬ cmpInts b a < 0 → a = b
  | [], [], _, _, _ => rfl
  | x :: a, y :: b, h, h1, h2 => by
    rw [cmpInts_cons] at h1 h2
    have e : x = y := by
      have := fun h => h1 (.inl h)
      have := fun h => h2 (.inl h)
      omega
    subst e
    rw [cmpInts_tot a b (by simpa using h) (fun h => h1 (.inr ⟨rfl, h⟩)) (fun h => h2 (.inr ⟨rfl, h⟩))]
  | [], _ :: _, h, _, _ => by simp at h
  | _ :: _, [], h, _, _ => by simp at h

/-- An order by lists of numbers of one length. -/
theorem swoN {α : Type} (nums : α → List Int) {k : Nat} (hk : ∀ x, (nums x).length = k) (hinj : ∀ x y, nums x = nums y → x = y) : Sort.SWO (ltOf fun x y => cmpInts (nums x) (nums y)) ∧ ∀ x y, (ltOf fun x y => cmpInts (nums x) (nums y)) x y = false → (ltOf fun x y => cmpInts (nums x) (nums y)) y x = false → x = y := by
  have tot : ∀ x y, (ltOf fun x y => cmpInts (nums x) (nums y)) x y = false → (ltOf fun x y => cmpInts (nums x) (nums y)) y x = false → x = y := fun x y h1 h2 => by
    simp only [ltOf, decide_eq_false_iff_not] at h1 h2
    exact hinj x y (cmpInts_tot _ _ (by rw [hk, hk]) h1 h2)
  refine ⟨⟨fun x => ?_, fun x y z h1 h2 => ?_, fun x y z h1 h2 => ?_⟩, tot⟩
  · simp [ltOf, cmpInts_self]
  · simp only [ltOf, decide_eq_true_eq] at h1 h2 ⊢
    exact cmpInts_trans _ _ _ (by rw [hk, hk]) (by rw [hk, hk]) h1 h2
  · cases h3 : (ltOf fun x y => cmpInts (nums x) (nums y)) x z with
    | false => rfl
    | true =>
      exfalso
      by_cases h4 : (ltOf fun x y => cmpInts (nums x) (nums y)) z y = true
      · have : (ltOf fun x y => cmpInts (nums x) (nums y)) x y = true := by
          simp only [ltOf, decide_eq_true_eq] at h3 h4 ⊢
          exact cmpInts_trans _ _ _ (by rw [hk, hk]) (by rw [hk, hk]) h3 h4
        rw [this] at h1; cases h1
      · have := tot y z h2 (by simpa using h4)
        subst this
        rw [h3] at h1; cases h1

theorem orI_ints : ∀ (a b : List Int), a.length = b.length → orI (List.zipWith cmpI a b) = cmpInts a b
  | [], [], _ => rfl
  | x :: a, y :: b, h => by
    rw [List.zipWith_cons_cons, orI, cmpInts, orI_ints a b (by simpa using h)]
    by_cases h : cmpI x y = 0 <;> simp [h]
  | [], _ :: _, h => by simp at h
  | _ :: _, [], h => by simp at h

theorem S102 (a b : GCell) : Sound Tryz.prog 102 [a.v, b.v] (i64 (cmpCell a b)) := by
  refine ex_intro mixedT T [] Tryz.func102 rfl (by rw [Tryz.ntmps102]; simp) (by kernel_rfl) ?_
  conv => whnf
  repeat' first | (refine LenG.map ?_; conv => whnf) | (refine LenG.go ?_; conv => whnf)
  repeat' first
    | (refine Br.T ?_; conv => whnf)
    | (refine Br.F ?_; conv => whnf)
    | (refine Br.mk (fun hq => ?_) (fun hq => ?_) <;> conv => whnf)
    | (refine FnG.go rfl ?_; conv => whnf)
    | (refine LenG.map ?_; conv => whnf)
    | (refine LenG.go ?_; conv => whnf)
    | (refine CallG.go (S174 _ _) ?_; conv => whnf)
    | (refine CallG.go (S186 [_, _, _, _, _] (by simp)) ?_; conv => whnf)
  all_goals (refine RetG.one ?_; exact congrArg (fun x => some (i64 x)) (orI_ints a.nums b.nums rfl))
def GLink.nums2 (l : GLink) : List Int := [l.from_, l.to_]
def cmpL (a b : GLink) : Int := cmpInts a.nums2 b.nums2
theorem S215 (a b : GLink) : Sound Tryz.prog 215 [a.v, b.v] (i64 (cmpL a b)) := by
  refine ex_intro mixedT T [] Tryz.func215 rfl (by rw [Tryz.ntmps215]; simp) (by kernel_rfl) ?_
  conv => whnf
  repeat' first | (refine LenG.map ?_; conv => whnf) | (refine LenG.go ?_; conv => whnf)
  repeat' first
    | (refine Br.T ?_; conv => whnf)
    | (refine Br.F ?_; conv => whnf)
    | (refine Br.mk (fun hq => ?_) (fun hq => ?_) <;> conv => whnf)
    | (refine FnG.go rfl ?_; conv => whnf)
    | (refine LenG.map ?_; conv => whnf)
    | (refine LenG.go ?_; conv => whnf)
    | (refine CallG.go (S174 _ _) ?_; conv => whnf)
    | (refine CallG.go (S186 [_, _] (by simp)) ?_; conv => whnf)
  all_goals (refine RetG.one ?_; exact congrArg (fun x => some (i64 x)) (orI_ints a.nums2 b.nums2 rfl))

theorem swoC : Sort.SWO (ltOf cmpCell) ∧ ∀ x y, (ltOf cmpCell) x y = false → (ltOf cmpCell) y x = false → x = y :=
  swoN GCell.nums (k := 5) (fun _ => rfl) fun x y h => by cases x; cases y; simpa [GCell.nums] using h

def sortC (l : List GCell) : List GCell := l.mergeSort fun x y => !(ltOf cmpCell) y x
theorem M101 (l : List GCell) (hl : l.length < 4611686018427387904) : SoundM Tryz.prog 101 61 5 (l.map GCell.c) [.fn 102 []] ((sortC l).map GCell.c) := by
  exact sortM Tryz.sortC (k := 5) (e := 61) Tryz.isAgg61 Tryz.sizeOf61 (by kernel_rfl) GCell.nums (fun _ => rfl) (by decide) cmpCell swoC.1 swoC.2 (enters_of Tryz.func102 (by kernel_rfl) rfl) (fun x y => @S102 strict x y) l hl
end Go.Proofs.YtbaajjihhdmdpaaGreatDoor

namespace Go.Proofs.YtbaajjihhdmdpaaGreatDoor
open Go.RowKit
set_option linter.unusedSectionVars false
set_option linter.unusedVariables false
set_option linter.unusedSimpArgs false
set_option linter.unnecessarySimpa false
set_option maxRecDepth 100000
set_option maxHeartbeats 4000000
variable [Lax]

theorem retMs {h : AHeap} {id n c : Nat} {R : List (List AV)} {L : List GCell} (hb : h id = .box R.flatten) (hc : R.length = c) (hr : ∀ x ∈ R, x.length = 5) (hn : n ≤ c) (hm : c ≤ maxLen) (ht : R.take n = L.map GCell.c) : RetCG Tryz.prog h 61 5 (L.map GCell.c) [.ms id 0 n c 5] :=
  ⟨_, rfl, R, hb, hc, hr, rfl, hn, hm, by rw [ht]; exact fun x hx y hy => (cells_pure L x hx y hy).1, by rw [ht, List.map_map]; rfl⟩


theorem D111 (l : List GCell) (i : Nat) (x : GCell) (hi : i ≤ l.length) (hl : (l.length + 1) * 40 ≤ 140737488355328) :
    SoundC Tryz.prog 111 61 5 (l.map GCell.c) [i64 i, cellsV [x]] ((l.take i ++ x :: l.drop i).map GCell.c) := by
  have hat : ∀ y ∈ [x.c], y.length = 5 ∧ y.all isAtom = true := fun y hy => by simp at hy; subst hy; exact ⟨rfl, rfl⟩
  refine exC_intro mixedT T [cutX 11 8, cutX 15 8] Tryz.func111 rfl (by rw [Tryz.ntmps111]; simp) (by kernel_rfl) (fun h0 => ?_) (fun cap hc hle hm hrows => ?_)
  · obtain rfl : l = [] := by simpa using h0
    obtain rfl : i = 0 := by simpa using hi
    conv => whnf
    refine Nd.go ⟨by omega, by simp, by simp⟩ ?_; conv => whnf
    refine LenG.go ?_; conv => whnf
    refine Br.F ?_; conv => whnf
    refine LenG.go ?_; conv => whnf
    refine Br.T ?_; conv => whnf
    refine ⟨⟨by rw [show (tb.ti 61).bytes = 40 from rfl]; simp, by simp, hat⟩, ?_⟩; conv => whnf
    exact ⟨_, rfl, rfl, rfl⟩
  · conv => whnf
    generalize hN : (l.map GCell.c).length = N at *
    have hNl : N = l.length := by rw [← hN]; simp
    have hRl : ∀ x ∈ l.map GCell.c ++ padR N cap 5, x.length = 5 := fun x hx => (List.mem_append.1 hx).elim (cells_rows l x) (padR_len x)
    have hRlen : (l.map GCell.c ++ padR N cap 5).length = cap := by simp [padR]; omega
    have hRt : (l.map GCell.c ++ padR N cap 5).take N = l.map GCell.c := by rw [← hN, List.take_left]
    generalize l.map GCell.c ++ padR N cap 5 = R at hRl hRlen hRt ⊢
    have hmx : cap ≤ 9223372036854775807 := hm
    have hx5 : ∀ r ∈ [x.c], r.length = 5 := fun r hr => (hat r hr).1
    have app5 : ∀ {A A' : List (List AV)}, (∀ r ∈ A, r.length = 5) → (∀ r ∈ A', r.length = 5) → ∀ r ∈ A ++ A', r.length = 5 := fun h h' r hr => (List.mem_append.1 hr).elim (h r) (h' r)
    have tk5 : ∀ {A : List (List AV)} {n : Nat}, (∀ r ∈ A, r.length = 5) → ∀ r ∈ A.take n, r.length = 5 := fun h r hr => h r (List.mem_of_mem_take hr)
    have dr5 : ∀ {A : List (List AV)} {n : Nat}, (∀ r ∈ A, r.length = 5) → ∀ r ∈ A.drop n, r.length = 5 := fun h r hr => h r (List.mem_of_mem_drop hr)
    have bad5 : ∀ {n : Nat}, ∀ r ∈ List.replicate n (List.replicate 5 AV.bad), r.length = 5 := fun r hr => by rw [List.eq_of_mem_replicate hr]; rfl
    have hx1 : [x.c].length = 1 := rfl
    refine Nd.go ⟨by omega, by omega⟩ ?_; conv => whnf
    refine LenG.go ?_; conv => whnf
    refine Br.F ?_; conv => whnf
    refine SemG.go (Sem.lenMs ((T.ti 27).el 61 rfl) rfl ?_); conv => whnf
    have e1 : IntKind.i64.wrap ((N : Int) + 1) = ((N + 1 : Nat) : Int) := by rw [w64 (by omega)]; rfl
    refine Br.mk (fun hq => ?_) (fun hq => ?_) <;> conv => whnf
    · have hiN : i = N := by have : (i : Int) = N := by simpa using hq
                             omega
      refine SemG.go (Sem.appMs (src := [x.c]) (R := R) ((T.ti 27).el 61 rfl) (by kernel_rfl : 5 = Tryz.prog.cellsOf 61) (by decide) (by kernel_rfl) rfl rfl hRl hRlen (.inl ⟨_, rfl, fun r hr => (hat r hr).1⟩) (fun r hr => (hat r hr).2) (by simp) (by rw [show Tryz.prog.bytesOf 61 = 40 by kernel_rfl]; simp; omega) (by simp; omega) (fun hroom => ?_) (fun hg cap' hc1 hc2 => ?_)) <;> conv => whnf
      · subst hiN
        rw [hx1] at hroom
        refine retMs rfl (by simp only [List.length_append, List.length_take, List.length_drop, List.length_replicate, List.length_cons, List.length_nil, List.length_map, hRlen]; omega) (app5 (app5 (tk5 hRl) hx5) (dr5 hRl)) hroom hm ?_
        rw [List.take_append_of_le_length (by simp only [List.length_append, List.length_take, List.length_drop, List.length_replicate, List.length_cons, List.length_nil, List.length_map, hRlen]; omega), List.take_of_length_le (by simp only [List.length_append, List.length_take, List.length_drop, List.length_replicate, List.length_cons, List.length_nil, List.length_map, hRlen]; omega), hRt, List.take_of_length_le (by omega), List.drop_eq_nil_of_le (by omega)]
        simp
      · subst hiN
        rw [hx1] at hg hc1
        refine retMs rfl (by simp only [List.length_append, List.length_take, List.length_drop, List.length_replicate, List.length_cons, List.length_nil, List.length_map, hRlen]; omega) (app5 (app5 (tk5 hRl) hx5) bad5) hc1 hc2 ?_
        rw [List.take_append_of_le_length (by simp only [List.length_append, List.length_take, List.length_drop, List.length_replicate, List.length_cons, List.length_nil, List.length_map, hRlen]; omega), List.take_of_length_le (by simp only [List.length_append, List.length_take, List.length_drop, List.length_replicate, List.length_cons, List.length_nil, List.length_map, hRlen]; omega), hRt, List.take_of_length_le (by omega), List.drop_eq_nil_of_le (by omega)]
        simp
    · have hiN : i < N := by have : ¬ (i : Int) = N := by simpa using hq
                             omega
      have e3 : IntKind.i64.wrap ((i : Int) + ((List.map (fun x => GCell.c x) [x]).length : Int)) = ((i + 1 : Nat) : Int) := by rw [show ((i : Int) + ((List.map (fun x => GCell.c x) [x]).length : Int)) = (i : Int) + 1 from rfl, w64 (by omega)]; rfl
      have e4 : IntKind.i64.wrap ((N : Int) + ((List.map (fun x => GCell.c x) [x]).length : Int)) = ((N + 1 : Nat) : Int) := e1
      have hmid : (R.drop i).take (N - i) = (l.drop i).map GCell.c := by rw [← List.drop_take, hRt, List.map_drop]
      have hmt : ((l.drop i).map GCell.c).take (N - i) = (l.drop i).map GCell.c := List.take_of_length_le (by simp; omega)
      have hfst : R.take i = (l.take i).map GCell.c := by
        have := congrArg (List.take i) hRt
        rw [List.take_take, Nat.min_eq_left (by omega)] at this
        rw [this, List.map_take]
      have hsrcat : ∀ r ∈ (R.drop i).take (N - i), r.all isAtom = true := by
        rw [hmid]; intro r hr
        obtain ⟨y, _, rfl⟩ := List.mem_map.1 hr
        rfl
      refine SemG.go (Sem.capMs ((T.ti 27).el 61 rfl) rfl ?_); conv => whnf
      rw [e4]
      refine Br.mk (fun hq2 => ?_) (fun hq2 => ?_) <;> conv => whnf
      · have hg : cap < N + 1 := by have := of_decide_eq_true hq2; omega
        refine Nd.go ⟨by omega, by omega⟩ ?_; conv => whnf
        refine SemG.go (Sem.appZ (k := .i64) (m := N + 1 - i) (n := i) (R := R) (kn := .i64) ((T.ti 27).el 61 rfl) (by kernel_rfl) (by kernel_rfl : 5 = Tryz.prog.cellsOf 61) (by decide) (by kernel_rfl) rfl rfl hRl hRlen ?_ (by omega) (by omega) (by rw [show Tryz.prog.bytesOf 61 = 40 by kernel_rfl]; omega) (by omega) (fun cap' hc1 hc2 => ?_))
        · show AV.int _ (IntKind.i64.wrap (IntKind.i64.wrap ((N : Int) + 1) - (i : Int))) = _
          rw [e1, w64 (by omega)]
          congr 1; omega
        have hc1' : N + 1 ≤ cap' := by omega
        rw [show i + (N + 1 - i) = N + 1 by omega]
        have hcx : cap' ≤ 9223372036854775807 := hc2
        conv => whnf
        refine Nd.go ⟨by omega, by omega⟩ ?_; conv => whnf
        have hR1 : ∀ r ∈ R.take i ++ List.replicate (cap' - i) (List.replicate 5 AV.bad), r.length = 5 := app5 (tk5 hRl) bad5
        have hR1l : (R.take i ++ List.replicate (cap' - i) (List.replicate 5 AV.bad)).length = cap' := by simp only [List.length_append, List.length_take, List.length_drop, List.length_replicate, List.length_cons, List.length_nil, List.length_map, hRlen]; omega
        obtain ⟨R1, hR1e⟩ : ∃ R1, R1 = R.take i ++ List.replicate (cap' - i) (List.replicate 5 AV.bad) := ⟨_, rfl⟩
        rw [← hR1e] at hR1 hR1l
        obtain ⟨R2, hR2⟩ : ∃ R2, R1.take i ++ [x.c].take 1 ++ R1.drop (i + 1) = R2 := ⟨_, rfl⟩
        have hR1t : R1.take i = R.take i := by rw [hR1e, List.take_append_of_le_length (by simp only [List.length_append, List.length_take, List.length_drop, List.length_replicate, List.length_cons, List.length_nil, List.length_map, hRlen]; omega), List.take_of_length_le (by simp only [List.length_append, List.length_take, List.length_drop, List.length_replicate, List.length_cons, List.length_nil, List.length_map, hRlen]; omega)]
        have hR2l : R2.length = cap' := by rw [← hR2]; simp only [List.length_append, List.length_take, List.length_drop, List.length_replicate, List.length_cons, List.length_nil, List.length_map, hRlen, hR1l]; omega
        have hR25 : ∀ r ∈ R2, r.length = 5 := by rw [← hR2]; exact app5 (app5 (tk5 hR1) (tk5 hx5)) (dr5 hR1)
        have hR2t : R2.take (i + 1) = R.take i ++ [x.c] := by
          rw [← hR2, hR1t, List.take_append_of_le_length (by simp only [List.length_append, List.length_take, List.length_drop, List.length_replicate, List.length_cons, List.length_nil, List.length_map, hRlen]; omega), List.take_of_length_le (by simp only [List.length_append, List.length_take, List.length_drop, List.length_replicate, List.length_cons, List.length_nil, List.length_map, hRlen]; omega)]
          rfl
        simp only [Int.toNat_natCast, Nat.zero_add]
        refine SemG.go (Sem.copy' (lo := i) (n := N + 1 - i) (c := cap' - i) (m := 1) (R := R1) (R2 := R2) (src := [x.c]) ((T.ti 27).el 61 rfl) (by kernel_rfl : 5 = Tryz.prog.cellsOf 61) rfl (by rw [hR1e]; rfl) hR1 (by omega) (.inl ⟨_, rfl, hx5⟩) (fun r hr => (hat r (List.mem_of_mem_take hr)).2) (by rw [hx1]; omega) hR2 ?_)
        conv => whnf
        refine Nd.go (by kernel_rfl) ?_; conv => whnf
        rw [e3]
        refine Nd.go ⟨by omega, by omega⟩ ?_; conv => whnf
        refine Nd.go ⟨by omega, by omega⟩ ?_; conv => whnf
        obtain ⟨R3, hR3⟩ : ∃ R3, R2.take (i + 1) ++ ((R.drop i).take (N - i)).take (N - i) ++ R2.drop (i + 1 + (N - i)) = R3 := ⟨_, rfl⟩
        have hsl : ((R.drop i).take (N - i)).length = N - i := by simp only [List.length_append, List.length_take, List.length_drop, List.length_replicate, List.length_cons, List.length_nil, List.length_map, hRlen]; omega
        have hR3l : R3.length = cap' := by rw [← hR3]; simp only [List.length_append, List.length_take, List.length_drop, List.length_replicate, List.length_cons, List.length_nil, List.length_map, hRlen, hR2l]; omega
        have hR35 : ∀ r ∈ R3, r.length = 5 := by rw [← hR3]; exact app5 (app5 (tk5 hR25) (tk5 (tk5 (dr5 hRl)))) (dr5 hR25)
        simp only [Int.toNat_natCast, Nat.zero_add]
        refine SemG.go (Sem.copy' (lo := i + 1) (n := N + 1 - (i + 1)) (c := cap' - (i + 1)) (m := N - i) (R := R2) (R2 := R3) (src := (R.drop i).take (N - i)) ((T.ti 27).el 61 rfl) (by kernel_rfl : 5 = Tryz.prog.cellsOf 61) rfl rfl hR25 (by omega) (.inr ⟨0, i, N - i, cap - i, R, rfl, rfl, hRl, by omega, rfl⟩) (fun r hr => hsrcat r (List.mem_of_mem_take hr)) (by rw [hsl]; omega) hR3 ?_)
        conv => whnf
        refine retMs (R := R3) rfl hR3l hR35 hc1' hc2 ?_
        rw [← hR3, List.take_append_of_le_length (by simp only [List.length_append, List.length_take, List.length_drop, List.length_replicate, List.length_cons, List.length_nil, List.length_map, hRlen, hR2l]; omega), List.take_of_length_le (by simp only [List.length_append, List.length_take, List.length_drop, List.length_replicate, List.length_cons, List.length_nil, List.length_map, hRlen, hR2l]; omega), hR2t, hmid, hfst, hmt]
        rw [List.map_append, List.map_cons, List.append_assoc]; rfl
      · have hg : N + 1 ≤ cap := by have := of_decide_eq_false hq2; omega
        rw [e4]
        refine Nd.go ⟨by omega, by omega⟩ ?_; conv => whnf
        rw [e3]
        refine Nd.go ⟨by omega, by omega⟩ ?_; conv => whnf
        simp only [Int.toNat_natCast, Nat.zero_add]
        refine SemG.go (Sem.overlaps (ty := 27) (tR := 4) (ys := [x.c]) (R := R) rfl Tryz.func192 (by kernel_rfl) (by kernel_rfl) (by kernel_rfl) (by kernel_rfl) ((T.ti 27).el 61 rfl) rfl (by simp) (fun r hr => by simp at hr; subst hr; simp [GCell.c]) rfl rfl hRl ?_); conv => whnf
        refine Br.T ?_; conv => whnf
        refine Nd.go (by kernel_rfl) ?_; conv => whnf
        rw [e3]
        refine Nd.go ⟨by omega, by omega⟩ ?_; conv => whnf
        refine Nd.go ⟨by omega, by omega⟩ ?_; conv => whnf
        have hmid2 : ((R.drop i).take (N + 1 - i)).take (N - i) = (l.drop i).map GCell.c := by rw [List.take_take, Nat.min_eq_left (by omega)]; exact hmid
        obtain ⟨R2, hR2⟩ : ∃ R2, R.take (i + 1) ++ ((R.drop i).take (N + 1 - i)).take (N - i) ++ R.drop (i + 1 + (N - i)) = R2 := ⟨_, rfl⟩
        have hR2l : R2.length = cap := by rw [← hR2]; simp only [List.length_append, List.length_take, List.length_drop, List.length_replicate, List.length_cons, List.length_nil, List.length_map, hRlen]; omega
        have hR25 : ∀ r ∈ R2, r.length = 5 := by rw [← hR2]; exact app5 (app5 (tk5 hRl) (tk5 (tk5 (dr5 hRl)))) (dr5 hRl)
        simp only [Int.toNat_natCast, Nat.zero_add]
        refine SemG.go (Sem.copy' (lo := i + 1) (n := N + 1 - (i + 1)) (c := cap - (i + 1)) (m := N - i) (R := R) (R2 := R2) (src := (R.drop i).take (N + 1 - i)) ((T.ti 27).el 61 rfl) (by kernel_rfl : 5 = Tryz.prog.cellsOf 61) rfl rfl hRl (by omega) (.inr ⟨0, i, N + 1 - i, cap - i, R, rfl, rfl, hRl, by omega, rfl⟩) (fun r hr => by
          rw [hmid2] at hr
          obtain ⟨y, _, rfl⟩ := List.mem_map.1 hr
          rfl) (by simp only [List.length_append, List.length_take, List.length_drop, List.length_replicate, List.length_cons, List.length_nil, List.length_map, hRlen]; omega) hR2 ?_)
        conv => whnf
        refine Nd.go ⟨by omega, by omega⟩ ?_; conv => whnf
        obtain ⟨R3, hR3⟩ : ∃ R3, R2.take i ++ [x.c].take 1 ++ R2.drop (i + 1) = R3 := ⟨_, rfl⟩
        have hR3l : R3.length = cap := by rw [← hR3]; simp only [List.length_append, List.length_take, List.length_drop, List.length_replicate, List.length_cons, List.length_nil, List.length_map, hRlen, hR2l]; omega
        have hR35 : ∀ r ∈ R3, r.length = 5 := by rw [← hR3]; exact app5 (app5 (tk5 hR25) (tk5 hx5)) (dr5 hR25)
        simp only [Int.toNat_natCast, Nat.zero_add]
        refine SemG.go (Sem.copy' (lo := i) (n := N + 1 - i) (c := cap - i) (m := 1) (R := R2) (R2 := R3) (src := [x.c]) ((T.ti 27).el 61 rfl) (by kernel_rfl : 5 = Tryz.prog.cellsOf 61) rfl rfl hR25 (by omega) (.inl ⟨_, rfl, hx5⟩) (fun r hr => (hat r (List.mem_of_mem_take hr)).2) (by rw [hx1]; omega) hR3 ?_)
        conv => whnf
        refine retMs (R := R3) rfl hR3l hR35 hg hm ?_
        have h1 : R2.take i = R.take i := by
          rw [← hR2, List.append_assoc, List.take_append_of_le_length (by simp only [List.length_append, List.length_take, List.length_drop, List.length_replicate, List.length_cons, List.length_nil, List.length_map, hRlen]; omega), List.take_take, Nat.min_eq_left (by omega)]
        have h2 : R2.drop (i + 1) = (l.drop i).map GCell.c ++ R.drop (i + 1 + (N - i)) := by
          rw [← hR2, hmid2, List.append_assoc]
          have : (R.take (i + 1)).length = i + 1 := by simp only [List.length_append, List.length_take, List.length_drop, List.length_replicate, List.length_cons, List.length_nil, List.length_map, hRlen]; omega
          exact List.drop_left' this
        rw [← hR3, h1, h2, ← List.append_assoc, List.take_append_of_le_length (by simp only [List.length_append, List.length_take, List.length_drop, List.length_replicate, List.length_cons, List.length_nil, List.length_map, hRlen]; omega), List.take_of_length_le (by simp only [List.length_append, List.length_take, List.length_drop, List.length_replicate, List.length_cons, List.length_nil, List.length_map, hRlen]; omega), hfst]
        rw [List.map_append, List.map_cons, List.append_assoc]; rfl
end Go.Proofs.YtbaajjihhdmdpaaGreatDoor

namespace Go.Proofs.YtbaajjihhdmdpaaGreatDoor
open Go.RowKit
set_option linter.unusedSectionVars false
set_option linter.unusedVariables false
set_option linter.unusedSimpArgs false
set_option linter.unnecessarySimpa false
set_option maxRecDepth 100000
set_option maxHeartbeats 4000000
variable [Lax]

theorem reqs_rows (l : List GReq) : ∀ x ∈ l.map GReq.c, x.length = 7 := fun x hx => by obtain ⟨y, _, rfl⟩ := List.mem_map.1 hx; rfl
theorem reqs_pure (l : List GReq) : ∀ row ∈ l.map GReq.c, ∀ y ∈ row, pure0 y = true ∧ forget0 y = y := fun row hr y hy => by
  obtain ⟨x, _, rfl⟩ := List.mem_map.1 hr
  simp [GReq.c] at hy
  rcases hy with rfl | rfl | rfl | rfl | rfl | rfl | rfl <;> exact ⟨rfl, rfl⟩
theorem retMsR {h : AHeap} {id n c : Nat} {R : List (List AV)} {L : List GReq} (hb : h id = .box R.flatten) (hc : R.length = c) (hr : ∀ x ∈ R, x.length = 7) (hn : n ≤ c) (hm : c ≤ maxLen) (ht : R.take n = L.map GReq.c) : RetCG Tryz.prog h 47 7 (L.map GReq.c) [.ms id 0 n c 7] :=
  ⟨_, rfl, R, hb, hc, hr, rfl, hn, hm, by rw [ht]; exact fun x hx y hy => (reqs_pure L x hx y hy).1, by rw [ht, List.map_map]; rfl⟩


theorem D175 (l : List GReq) (i : Nat) (x : GReq) (hi : i ≤ l.length) (hl : (l.length + 1) * 72 ≤ 140737488355328) :
    SoundC Tryz.prog 175 47 7 (l.map GReq.c) [i64 i, reqsV [x]] ((l.take i ++ x :: l.drop i).map GReq.c) := by
  have hat : ∀ y ∈ [x.c], y.length = 7 ∧ y.all isAtom = true := fun y hy => by simp at hy; subst hy; exact ⟨rfl, rfl⟩
  refine exC_intro mixedT T [cutX 11 8, cutX 15 8] Tryz.func175 rfl (by rw [Tryz.ntmps175]; simp) (by kernel_rfl) (fun h0 => ?_) (fun cap hc hle hm hrows => ?_)
  · obtain rfl : l = [] := by simpa using h0
    obtain rfl : i = 0 := by simpa using hi
    conv => whnf
    refine Nd.go ⟨by omega, by simp, by simp⟩ ?_; conv => whnf
    refine LenG.go ?_; conv => whnf
    refine Br.F ?_; conv => whnf
    refine LenG.go ?_; conv => whnf
    refine Br.T ?_; conv => whnf
    refine ⟨⟨by rw [show (tb.ti 47).bytes = 72 from rfl]; simp, by simp, hat⟩, ?_⟩; conv => whnf
    exact ⟨_, rfl, rfl, rfl⟩
  · conv => whnf
    generalize hN : (l.map GReq.c).length = N at *
    have hNl : N = l.length := by rw [← hN]; simp
    have hRl : ∀ x ∈ l.map GReq.c ++ padR N cap 7, x.length = 7 := fun x hx => (List.mem_append.1 hx).elim (reqs_rows l x) (padR_len x)
    have hRlen : (l.map GReq.c ++ padR N cap 7).length = cap := by simp [padR]; omega
    have hRt : (l.map GReq.c ++ padR N cap 7).take N = l.map GReq.c := by rw [← hN, List.take_left]
    generalize l.map GReq.c ++ padR N cap 7 = R at hRl hRlen hRt ⊢
    have hmx : cap ≤ 9223372036854775807 := hm
    have hx5 : ∀ r ∈ [x.c], r.length = 7 := fun r hr => (hat r hr).1
    have app5 : ∀ {A A' : List (List AV)}, (∀ r ∈ A, r.length = 7) → (∀ r ∈ A', r.length = 7) → ∀ r ∈ A ++ A', r.length = 7 := fun h h' r hr => (List.mem_append.1 hr).elim (h r) (h' r)
    have tk5 : ∀ {A : List (List AV)} {n : Nat}, (∀ r ∈ A, r.length = 7) → ∀ r ∈ A.take n, r.length = 7 := fun h r hr => h r (List.mem_of_mem_take hr)
    have dr5 : ∀ {A : List (List AV)} {n : Nat}, (∀ r ∈ A, r.length = 7) → ∀ r ∈ A.drop n, r.length = 7 := fun h r hr => h r (List.mem_of_mem_drop hr)
    have bad5 : ∀ {n : Nat}, ∀ r ∈ List.replicate n (List.replicate 7 AV.bad), r.length = 7 := fun r hr => by rw [List.eq_of_mem_replicate hr]; rfl
    have hx1 : [x.c].length = 1 := rfl
    refine Nd.go ⟨by omega, by omega⟩ ?_; conv => whnf
    refine LenG.go ?_; conv => whnf
    refine Br.F ?_; conv => whnf
    refine SemG.go (Sem.lenMs ((T.ti 42).el 47 rfl) rfl ?_); conv => whnf
    have e1 : IntKind.i64.wrap ((N : Int) + 1) = ((N + 1 : Nat) : Int) := by rw [w64 (by omega)]; rfl
    refine Br.mk (fun hq => ?_) (fun hq => ?_) <;> conv => whnf
    · have hiN : i = N := by have : (i : Int) = N := by simpa using hq
                             omega
      refine SemG.go (Sem.appMs (src := [x.c]) (R := R) ((T.ti 42).el 47 rfl) (by kernel_rfl : 7 = Tryz.prog.cellsOf 47) (by decide) (by kernel_rfl) rfl rfl hRl hRlen (.inl ⟨_, rfl, fun r hr => (hat r hr).1⟩) (fun r hr => (hat r hr).2) (by simp) (by rw [show Tryz.prog.bytesOf 47 = 72 by kernel_rfl]; simp; omega) (by simp; omega) (fun hroom => ?_) (fun hg cap' hc1 hc2 => ?_)) <;> conv => whnf
      · subst hiN
        rw [hx1] at hroom
        refine retMsR rfl (by simp only [List.length_append, List.length_take, List.length_drop, List.length_replicate, List.length_cons, List.length_nil, List.length_map, hRlen]; omega) (app5 (app5 (tk5 hRl) hx5) (dr5 hRl)) hroom hm ?_
        rw [List.take_append_of_le_length (by simp only [List.length_append, List.length_take, List.length_drop, List.length_replicate, List.length_cons, List.length_nil, List.length_map, hRlen]; omega), List.take_of_length_le (by simp only [List.length_append, List.length_take, List.length_drop, List.length_replicate, List.length_cons, List.length_nil, List.length_map, hRlen]; omega), hRt, List.take_of_length_le (by omega), List.drop_eq_nil_of_le (by omega)]
        simp
      · subst hiN
        rw [hx1] at hg hc1
        refine retMsR rfl (by simp only [List.length_append, List.length_take, List.length_drop, List.length_replicate, List.length_cons, List.length_nil, List.length_map, hRlen]; omega) (app5 (app5 (tk5 hRl) hx5) bad5) hc1 hc2 ?_
        rw [List.take_append_of_le_length (by simp only [List.length_append, List.length_take, List.length_drop, List.length_replicate, List.length_cons, List.length_nil, List.length_map, hRlen]; omega), List.take_of_length_le (by simp only [List.length_append, List.length_take, List.length_drop, List.length_replicate, List.length_cons, List.length_nil, List.length_map, hRlen]; omega), hRt, List.take_of_length_le (by omega), List.drop_eq_nil_of_le (by omega)]
        simp
    · have hiN : i < N := by have : ¬ (i : Int) = N := by simpa using hq
                             omega
      have e3 : IntKind.i64.wrap ((i : Int) + ((List.map (fun x => GReq.c x) [x]).length : Int)) = ((i + 1 : Nat) : Int) := by rw [show ((i : Int) + ((List.map (fun x => GReq.c x) [x]).length : Int)) = (i : Int) + 1 from rfl, w64 (by omega)]; rfl
      have e4 : IntKind.i64.wrap ((N : Int) + ((List.map (fun x => GReq.c x) [x]).length : Int)) = ((N + 1 : Nat) : Int) := e1
      have hmid : (R.drop i).take (N - i) = (l.drop i).map GReq.c := by rw [← List.drop_take, hRt, List.map_drop]
      have hmt : ((l.drop i).map GReq.c).take (N - i) = (l.drop i).map GReq.c := List.take_of_length_le (by simp; omega)
      have hfst : R.take i = (l.take i).map GReq.c := by
        have := congrArg (List.take i) hRt
        rw [List.take_take, Nat.min_eq_left (by omega)] at this
        rw [this, List.map_take]
      have hsrcat : ∀ r ∈ (R.drop i).take (N - i), r.all isAtom = true := by
        rw [hmid]; intro r hr
        obtain ⟨y, _, rfl⟩ := List.mem_map.1 hr
        rfl
      refine SemG.go (Sem.capMs ((T.ti 42).el 47 rfl) rfl ?_); conv => whnf
      rw [e4]
      refine Br.mk (fun hq2 => ?_) (fun hq2 => ?_) <;> conv => whnf
      · have hg : cap < N + 1 := by have := of_decide_eq_true hq2; omega
        refine Nd.go ⟨by omega, by omega⟩ ?_; conv => whnf
        refine SemG.go (Sem.appZ (k := .i64) (m := N + 1 - i) (n := i) (R := R) (kn := .i64) ((T.ti 42).el 47 rfl) (by kernel_rfl) (by kernel_rfl : 7 = Tryz.prog.cellsOf 47) (by decide) (by kernel_rfl) rfl rfl hRl hRlen ?_ (by omega) (by omega) (by rw [show Tryz.prog.bytesOf 47 = 72 by kernel_rfl]; omega) (by omega) (fun cap' hc1 hc2 => ?_))
        · show AV.int _ (IntKind.i64.wrap (IntKind.i64.wrap ((N : Int) + 1) - (i : Int))) = _
          rw [e1, w64 (by omega)]
          congr 1; omega
        have hc1' : N + 1 ≤ cap' := by omega
        rw [show i + (N + 1 - i) = N + 1 by omega]
        have hcx : cap' ≤ 9223372036854775807 := hc2
        conv => whnf
        refine Nd.go ⟨by omega, by omega⟩ ?_; conv => whnf
        have hR1 : ∀ r ∈ R.take i ++ List.replicate (cap' - i) (List.replicate 7 AV.bad), r.length = 7 := app5 (tk5 hRl) bad5
        have hR1l : (R.take i ++ List.replicate (cap' - i) (List.replicate 7 AV.bad)).length = cap' := by simp only [List.length_append, List.length_take, List.length_drop, List.length_replicate, List.length_cons, List.length_nil, List.length_map, hRlen]; omega
        obtain ⟨R1, hR1e⟩ : ∃ R1, R1 = R.take i ++ List.replicate (cap' - i) (List.replicate 7 AV.bad) := ⟨_, rfl⟩
        rw [← hR1e] at hR1 hR1l
        obtain ⟨R2, hR2⟩ : ∃ R2, R1.take i ++ [x.c].take 1 ++ R1.drop (i + 1) = R2 := ⟨_, rfl⟩
        have hR1t : R1.take i = R.take i := by rw [hR1e, List.take_append_of_le_length (by simp only [List.length_append, List.length_take, List.length_drop, List.length_replicate, List.length_cons, List.length_nil, List.length_map, hRlen]; omega), List.take_of_length_le (by simp only [List.length_append, List.length_take, List.length_drop, List.length_replicate, List.length_cons, List.length_nil, List.length_map, hRlen]; omega)]
        have hR2l : R2.length = cap' := by rw [← hR2]; simp only [List.length_append, List.length_take, List.length_drop, List.length_replicate, List.length_cons, List.length_nil, List.length_map, hRlen, hR1l]; omega
        have hR25 : ∀ r ∈ R2, r.length = 7 := by rw [← hR2]; exact app5 (app5 (tk5 hR1) (tk5 hx5)) (dr5 hR1)
        have hR2t : R2.take (i + 1) = R.take i ++ [x.c] := by
          rw [← hR2, hR1t, List.take_append_of_le_length (by simp only [List.length_append, List.length_take, List.length_drop, List.length_replicate, List.length_cons, List.length_nil, List.length_map, hRlen]; omega), List.take_of_length_le (by simp only [List.length_append, List.length_take, List.length_drop, List.length_replicate, List.length_cons, List.length_nil, List.length_map, hRlen]; omega)]
          rfl
        simp only [Int.toNat_natCast, Nat.zero_add]
        refine SemG.go (Sem.copy' (lo := i) (n := N + 1 - i) (c := cap' - i) (m := 1) (R := R1) (R2 := R2) (src := [x.c]) ((T.ti 42).el 47 rfl) (by kernel_rfl : 7 = Tryz.prog.cellsOf 47) rfl (by rw [hR1e]; rfl) hR1 (by omega) (.inl ⟨_, rfl, hx5⟩) (fun r hr => (hat r (List.mem_of_mem_take hr)).2) (by rw [hx1]; omega) hR2 ?_)
        conv => whnf
        refine Nd.go (by kernel_rfl) ?_; conv => whnf
        rw [e3]
        refine Nd.go ⟨by omega, by omega⟩ ?_; conv => whnf
        refine Nd.go ⟨by omega, by omega⟩ ?_; conv => whnf
        obtain ⟨R3, hR3⟩ : ∃ R3, R2.take (i + 1) ++ ((R.drop i).take (N - i)).take (N - i) ++ R2.drop (i + 1 + (N - i)) = R3 := ⟨_, rfl⟩
        have hsl : ((R.drop i).take (N - i)).length = N - i := by simp only [List.length_append, List.length_take, List.length_drop, List.length_replicate, List.length_cons, List.length_nil, List.length_map, hRlen]; omega
        have hR3l : R3.length = cap' := by rw [← hR3]; simp only [List.length_append, List.length_take, List.length_drop, List.length_replicate, List.length_cons, List.length_nil, List.length_map, hRlen, hR2l]; omega
        have hR35 : ∀ r ∈ R3, r.length = 7 := by rw [← hR3]; exact app5 (app5 (tk5 hR25) (tk5 (tk5 (dr5 hRl)))) (dr5 hR25)
        simp only [Int.toNat_natCast, Nat.zero_add]
        refine SemG.go (Sem.copy' (lo := i + 1) (n := N + 1 - (i + 1)) (c := cap' - (i + 1)) (m := N - i) (R := R2) (R2 := R3) (src := (R.drop i).take (N - i)) ((T.ti 42).el 47 rfl) (by kernel_rfl : 7 = Tryz.prog.cellsOf 47) rfl rfl hR25 (by omega) (.inr ⟨0, i, N - i, cap - i, R, rfl, rfl, hRl, by omega, rfl⟩) (fun r hr => hsrcat r (List.mem_of_mem_take hr)) (by rw [hsl]; omega) hR3 ?_)
        conv => whnf
        refine retMsR (R := R3) rfl hR3l hR35 hc1' hc2 ?_
        rw [← hR3, List.take_append_of_le_length (by simp only [List.length_append, List.length_take, List.length_drop, List.length_replicate, List.length_cons, List.length_nil, List.length_map, hRlen, hR2l]; omega), List.take_of_length_le (by simp only [List.length_append, List.length_take, List.length_drop, List.length_replicate, List.length_cons, List.length_nil, List.length_map, hRlen, hR2l]; omega), hR2t, hmid, hfst, hmt]
        rw [List.map_append, List.map_cons, List.append_assoc]; rfl
      · have hg : N + 1 ≤ cap := by have := of_decide_eq_false hq2; omega
        rw [e4]
        refine Nd.go ⟨by omega, by omega⟩ ?_; conv => whnf
        rw [e3]
        refine Nd.go ⟨by omega, by omega⟩ ?_; conv => whnf
        simp only [Int.toNat_natCast, Nat.zero_add]
        refine SemG.go (Sem.overlaps (ty := 42) (tR := 4) (ys := [x.c]) (R := R) rfl Tryz.func242 (by kernel_rfl) (by kernel_rfl) (by kernel_rfl) (by kernel_rfl) ((T.ti 42).el 47 rfl) rfl (by simp) (fun r hr => by simp at hr; subst hr; simp [GReq.c]) rfl rfl hRl ?_); conv => whnf
        refine Br.T ?_; conv => whnf
        refine Nd.go (by kernel_rfl) ?_; conv => whnf
        rw [e3]
        refine Nd.go ⟨by omega, by omega⟩ ?_; conv => whnf
        refine Nd.go ⟨by omega, by omega⟩ ?_; conv => whnf
        have hmid2 : ((R.drop i).take (N + 1 - i)).take (N - i) = (l.drop i).map GReq.c := by rw [List.take_take, Nat.min_eq_left (by omega)]; exact hmid
        obtain ⟨R2, hR2⟩ : ∃ R2, R.take (i + 1) ++ ((R.drop i).take (N + 1 - i)).take (N - i) ++ R.drop (i + 1 + (N - i)) = R2 := ⟨_, rfl⟩
        have hR2l : R2.length = cap := by rw [← hR2]; simp only [List.length_append, List.length_take, List.length_drop, List.length_replicate, List.length_cons, List.length_nil, List.length_map, hRlen]; omega
        have hR25 : ∀ r ∈ R2, r.length = 7 := by rw [← hR2]; exact app5 (app5 (tk5 hRl) (tk5 (tk5 (dr5 hRl)))) (dr5 hRl)
        simp only [Int.toNat_natCast, Nat.zero_add]
        refine SemG.go (Sem.copy' (lo := i + 1) (n := N + 1 - (i + 1)) (c := cap - (i + 1)) (m := N - i) (R := R) (R2 := R2) (src := (R.drop i).take (N + 1 - i)) ((T.ti 42).el 47 rfl) (by kernel_rfl : 7 = Tryz.prog.cellsOf 47) rfl rfl hRl (by omega) (.inr ⟨0, i, N + 1 - i, cap - i, R, rfl, rfl, hRl, by omega, rfl⟩) (fun r hr => by
          rw [hmid2] at hr
          obtain ⟨y, _, rfl⟩ := List.mem_map.1 hr
          rfl) (by simp only [List.length_append, List.length_take, List.length_drop, List.length_replicate, List.length_cons, List.length_nil, List.length_map, hRlen]; omega) hR2 ?_)
        conv => whnf
        refine Nd.go ⟨by omega, by omega⟩ ?_; conv => whnf
        obtain ⟨R3, hR3⟩ : ∃ R3, R2.take i ++ [x.c].take 1 ++ R2.drop (i + 1) = R3 := ⟨_, rfl⟩
        have hR3l : R3.length = cap := by rw [← hR3]; simp only [List.length_append, List.length_take, List.length_drop, List.length_replicate, List.length_cons, List.length_nil, List.length_map, hRlen, hR2l]; omega
        have hR35 : ∀ r ∈ R3, r.length = 7 := by rw [← hR3]; exact app5 (app5 (tk5 hR25) (tk5 hx5)) (dr5 hR25)
        simp only [Int.toNat_natCast, Nat.zero_add]
        refine SemG.go (Sem.copy' (lo := i) (n := N + 1 - i) (c := cap - i) (m := 1) (R := R2) (R2 := R3) (src := [x.c]) ((T.ti 42).el 47 rfl) (by kernel_rfl : 7 = Tryz.prog.cellsOf 47) rfl rfl hR25 (by omega) (.inl ⟨_, rfl, hx5⟩) (fun r hr => (hat r (List.mem_of_mem_take hr)).2) (by rw [hx1]; omega) hR3 ?_)
        conv => whnf
        refine retMsR (R := R3) rfl hR3l hR35 hg hm ?_
        have h1 : R2.take i = R.take i := by
          rw [← hR2, List.append_assoc, List.take_append_of_le_length (by simp only [List.length_append, List.length_take, List.length_drop, List.length_replicate, List.length_cons, List.length_nil, List.length_map, hRlen]; omega), List.take_take, Nat.min_eq_left (by omega)]
        have h2 : R2.drop (i + 1) = (l.drop i).map GReq.c ++ R.drop (i + 1 + (N - i)) := by
          rw [← hR2, hmid2, List.append_assoc]
          have : (R.take (i + 1)).length = i + 1 := by simp only [List.length_append, List.length_take, List.length_drop, List.length_replicate, List.length_cons, List.length_nil, List.length_map, hRlen]; omega
          exact List.drop_left' this
        rw [← hR3, h1, h2, ← List.append_assoc, List.take_append_of_le_length (by simp only [List.length_append, List.length_take, List.length_drop, List.length_replicate, List.length_cons, List.length_nil, List.length_map, hRlen]; omega), List.take_of_length_le (by simp only [List.length_append, List.length_take, List.length_drop, List.length_replicate, List.length_cons, List.length_nil, List.length_map, hRlen]; omega), hfst]
        rw [List.map_append, List.map_cons, List.append_assoc]; rfl
end Go.Proofs.YtbaajjihhdmdpaaGreatDoor
