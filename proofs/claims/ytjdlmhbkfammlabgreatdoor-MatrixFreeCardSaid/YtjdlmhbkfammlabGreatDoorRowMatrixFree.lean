/- The row of the law MatrixFree: for every list of numbers the call returns true, and the list reads as it did. Conditions: none but the row's own cells. -/
import Derived.Test.YtjdlmhbkfammlabGreatDoorSeatf
import Derived.ProofKit
import Derived.LaidMore
import Derived.OpenShut
import Derived.ChangeOld
import Derived.Below
import Derived.Carry
import Derived.WalkKit
import Derived.SizedLaws
import Derived.Test.YtjdlmhbkfammlabGreatDoorRows
import Derived.Test.YtjdlmhbkfammlabGreatDoorTie
import Derived.Test.YtjdlmhbkfammlabGreatDoorCards
import Derived.Stop.Joined
import Derived.ChangeSame
import Derived.JoinedOf
import Derived.RowKitTokens
/-! from the shadow to a row -/
namespace Go.Sh
set_option linter.unusedVariables false
open Go.ChangeShapes Go.WideShapes Go.ChangeAt Go.RowKit
/-- all cells that are there -/
def cm (w : World) : Cm := fun b o => match w.cell? ⟨b, o, none⟩ with
  | some u => if u.oneCell' = true then some u else none
  | none => none
theorem cm_holds (w : World) : Holds (cm w) w := by
  intro b o u h
  unfold cm at h
  split at h
  · rename_i u' hu
    split at h
    · rename_i h1; injection h with h; subst h; exact ⟨hu, h1⟩
    · cases h
  · cases h
theorem cm_some {w : World} {b o : Nat} {u : Value} (h : w.cell? ⟨b, o, none⟩ = some u) (h1 : u.oneCell' = true) : cm w b o = some u := by
  unfold cm; rw [h]; simp only [h1, if_true]
def Nothing : CRel := fun _ _ _ _ _ => False
theorem calls_true {P : Program} {TT : TypeId → Option TI} {G : Gl} (hmix : P.follows .mixedOrders = true) (hTT : ∀ t ti, TT t = some ti → TI.of P t = some ti) {f : FuncId} {args : List AV} (h : Gives (ACall P TT G Nothing) f args (.bool true)) (w : World) (vals : Array Value)
    (hG : ∀ g row, G g = some row → Rep0 (cm w) (.ep row) (.pointer (some ⟨g, 0, none⟩))) (hl : vals.size = args.length) (ha : ∀ i x, args[i]? = some x → Rep0 (cm w) x (vals.getD i undef) ∧ ∀ n e rows, x ≠ .sl (.id n e) rows) :
    Calls P f vals w fun e w' => e = .returned (.bool true) ∧ Below w.heap.size w w' := by
  obtain ⟨st', h⟩ := h
  obtain ⟨_, hc⟩ := ACall.sound hmix hTT (X := Nothing) (fun _ _ _ _ _ h => h.elim) h
  refine (hc w (cm w) (fun _ => none) vals (cm_holds w) hG (fun v hv => absurd hv (by simp)) (fun v cs hv => absurd hv (by simp)) (fun _ _ _ h => by cases h) (fun _ _ => rfl) hl (fun i x hx => ⟨.v0 (ha i x hx).1, (ha i x hx).2⟩)).mono ?_
  rintro e w' ⟨v, C', ρ', rfl, hos, ht, ho, hs, hb, _, _, _, _, _, hr⟩
  rw [hr.bool0]
  exact ⟨rfl, hos, ht, ho, hs, fun k hk => hb k hk (fun v hv => absurd hv (by simp))⟩
/-- a row of numbers that came in -/
theorem rep_ints {w : World} {a : Addr} {len cap : Nat} {zs : List Int} (hl : len ≤ cap) (hm : cap ≤ maxLen) (hz : zs.length = cap) (hc : ∀ i, i < zs.length → w.cell? (a.add i) = some (.int .i64 (zs.getD i 0))) :
    Rep0 (cm w) (.sl .no ((zs.take len).map fun x => [.int .i64 x])) (.slice (some a) len cap) := by
  cases len with
  | zero => exact .nil .no _ _ (fun h => by cases h) (fun _ _ => trivial)
  | succ n =>
    have h0 := hc 0 (by omega)
    have hsp : a.spot = none := by
      cases hs : a.spot with
      | none => rfl
      | some s =>
        have e0 : a.add 0 = a := by simp [Addr.add]
        rw [e0] at h0
        unfold World.cell? at h0
        split at h0
        · simp [hs] at h0
        · cases h0
    obtain ⟨b, off, spot⟩ := a
    simp only at hsp
    subst hsp
    have hlen : ((zs.take (n + 1)).map fun x => [AV.int .i64 x]).length = n + 1 := by simp; omega
    have := Rep0.sl (C := cm w) .no ((zs.take (n + 1)).map fun x => [AV.int .i64 x]) b off cap 1 (fun i _ => .int .i64 (zs.getD i 0)) (by rw [hlen]; exact hl) hm (fun h => by cases h) ?_ ?_
    · rw [hlen] at this; exact this
    · intro i row hi
      rw [List.getElem?_map] at hi
      obtain ⟨x, hx, rfl⟩ := Option.map_eq_some_iff.1 hi
      have hil := (List.getElem?_eq_some_iff.1 hx).1
      simp at hil
      refine ⟨rfl, fun j hj => ?_⟩
      obtain rfl : j = 0 := by omega
      have := hc i (by omega)
      rw [add_eq] at this
      rw [Nat.mul_one, Nat.add_zero]
      exact cm_some this rfl
    · intro i row j x hi hj
      rw [List.getElem?_map] at hi
      obtain ⟨y, hy, rfl⟩ := Option.map_eq_some_iff.1 hi
      cases j with
      | zero =>
        simp at hj; subst hj
        have hil := (List.getElem?_eq_some_iff.1 hy).1
        simp at hil
        rw [List.getElem?_take, if_pos (show i < n + 1 by omega)] at hy
        have e1 : zs.getD i 0 = y := by simp [List.getD, hy]
        show Rep0 _ _ (Value.int .i64 (zs.getD i 0))
        rw [e1]; exact .int .i64 y
      | succ j => simp at hj
/-- an array of numbers that a variable holds -/
theorem rep_glob {w : World} {g : Nat} {L : List Int} (h : ∀ i, i < L.length → w.cell? ⟨g, i, none⟩ = some (.int .i64 (L.getD i 0))) : Rep0 (cm w) (.ep (L.map (AV.int .i64))) (.pointer (some ⟨g, 0, none⟩)) := by
  refine .ep _ g 0 (fun j => .int .i64 (L.getD j 0)) (fun j hj => ?_) (fun j x hx => ?_)
  · rw [Nat.zero_add]; exact cm_some (h j (by simpa using hj)) rfl
  · rw [List.getElem?_map] at hx
    obtain ⟨y, hy, rfl⟩ := Option.map_eq_some_iff.1 hx
    have : L.getD j 0 = y := by simp [List.getD, hy]
    show Rep0 _ _ (Value.int .i64 (L.getD j 0))
    rw [this]; exact .int .i64 y
def litsL {H : Type} (L : List Int) : DataW H := .agg (L.map fun x => .lit (.int .i64 x))
theorem trod_ints {H : Type} {enc : TypeId × Value → H} {P : Program} {w : World} {base : Nat} {spare : Nat → Bool} {held : Bool} {fuel : Nat} {t e n : Nat} {L : List Int} {cs : List Value} {ps : List MemPlace} (ht : P.underlying t = some (.array n e)) (he : P.underlying e = some (.int .i64)) (hce : P.cellsOf e = 1)
    (h : DataW.trod enc P w base spare held fuel t cs = some (litsL L, ps)) : ∀ i, i < L.length → cs[i]? = some (.int .i64 (L.getD i 0)) := by
  obtain ⟨xs, m1, rfl, hx1, hlen, hn3, hel⟩ := DataW.trod_array ht h
  intro i hi
  simp only [litsL, Prod.mk.injEq, DataW.agg.injEq] at hx1
  have hxl : L.length = xs.length := by have := congrArg List.length hx1.1; simpa using this
  have hin : i < n := by omega
  have hxi : xs[i]? = some xs[i] := List.getElem?_eq_getElem (by omega)
  obtain ⟨k, e1, e2, _⟩ := DataW.trod_int he ((hel i hin).trans hxi)
  have hk : (L.map fun x => (DataW.lit (.int .i64 x) : DataW H))[i]? = (xs.map Prod.fst)[i]? := by rw [hx1.1]
  rw [List.getElem?_map, List.getElem?_map, hxi, e2] at hk
  have hLi : L[i]? = some L[i] := List.getElem?_eq_getElem hi
  rw [hLi] at hk
  simp at hk
  rw [hce, Nat.mul_one] at e1
  have e3 : (List.take 1 (List.drop i cs))[0]? = some (.int .i64 k) := by rw [e1]; rfl
  rw [List.getElem?_take, if_pos (by decide), List.getElem?_drop, Nat.add_zero] at e3
  have e4 : L.getD i 0 = k := by simp [List.getD, hLi, hk]
  rw [e3, e4]
end Go.Sh
namespace Go.Proofs.YtjdlmhbkfammlabGreatDoor.matrixFree
open Go Go.Sh Go.ChangeShapes Go.WideShapes Go.ChangeAt Go.RowKit
set_option linter.unusedVariables false
theorem own : ownKnob Tryz.prog.godebug = none := by kernel_rfl
theorem laidOut : laidOutB Tryz.prog = true := by kernel_rfl
abbrev laidL {H : Type} : List (String × DataW H) := [("proofprograms/tree.arities", Rows.laid_proofprograms_tree_arities)]
theorem door_met (os : Os) (args : Array Value) : laidMetH Tryz.prog laidL ((World.doorLaid Tryz.prog 400 os).forCall (fun _ _ => 0) ⟨#[], args, []⟩).memory :=
  laidMetH_of_parts3 (fuel := 8) (laidMet_of_run' 8 (by kernel_rfl) (by kernel_rfl)) (by kernel_rfl) (by kernel_rfl)
def L0 : List Int := [0, 0, 1, 2, 0, 1, 3, 0, 2, 3, 2, 1, 1, 0]
theorem g0 : Tryz.prog.globalNamed "proofprograms/tree.arities" = some 0 := by kernel_rfl
theorem t0 : (Tryz.prog.globals[0]?).map (·.type) = some 205 := by kernel_rfl
theorem of_laid {W : World} (h : laidMetH Tryz.prog laidL W) : (∀ i, i < L0.length → W.cell? ⟨0, i, none⟩ = some (.int .i64 (L0.getD i 0))) := by
  rw [MakeChecks.laidMetH_plain _ _ _ (by kernel_rfl)] at h
  obtain ⟨ps, ⟨g0', t0', cs0, f0, p0, q0, hg0, ht0, hv0, hd0, _, _⟩, _, _⟩ := h
  obtain rfl := Option.some.inj (g0.symm.trans hg0)
  obtain rfl := Option.some.inj (t0.symm.trans ht0)
  exact fun i hi => by
    have := trod_ints (L := L0) Tryz.underlying205 Tryz.underlying3 (by kernel_rfl) hd0 i hi
    rw [World.var?_cell g0 hv0 i, ← Array.getElem?_toList]; exact this
theorem glob {W : World} (h : laidMetH Tryz.prog laidL W) : ∀ g row, G0 g = some row → Rep0 (cm W) (.ep row) (.pointer (some ⟨g, 0, none⟩)) := by
  intro g row hg
  have h1 := of_laid h
  match g, hg with
  | 0, hg =>
    obtain rfl := Option.some.inj hg
    exact rep_glob (L := L0) h1
  | _ + 1, hg => cases hg
set_option maxRecDepth 100000 in
theorem lifted (os : Os) (started : os.Started) (H : Type) (enc : TypeId × Value → H) :
    ReturnsInHanded {} Tryz.checked os 9 .any (fun w args => (Rows.matrixFreeSpec.pre enc Tryz.prog Tryz.f9 [] false w args ∧ laidMetH Tryz.prog laidL w) ∧ sizedMet enc Tryz.prog Tryz.f9 (OpenSpec.ofChange Rows.matrixFreeSpec) false w args)
      (Rows.matrixFreeSpec.post enc Tryz.prog Tryz.f9 false true false false) := by
  refine returnsInHanded_of_change_and (C := Tryz.checked) (X := fun w _ => laidMetH Tryz.prog laidL w) (fun _ _ _ hh h => h.of_heap hh) own started (by kernel_rfl) Tryz.func9
    (ChangeSpec.witness_shaped (enc := enc) (C := Tryz.checked) (os := os) (X := fun w _ => laidMetH Tryz.prog laidL w) false (World.doorLaid Tryz.prog 400 os) #[.slice none 0 0] 8 rfl (World.shaped_of_RefB (by kernel_rfl) (by kernel_rfl)) (by kernel_rfl) (by kernel_rfl) (by kernel_rfl) (door_met os _)) ?_
  intro W base args ds gs before hval0 hW _ _ hL _
  have hval : ∀ (j : Nat) t v, Tryz.f9.params[j]? = some t → args[j]? = some v → Value.okWide Tryz.prog W .any base t v := hval0
  have hW' := hW
  obtain ⟨p, q, hA0, hV, rfl, hfz, hnd⟩ := hW
  have hA : DataW.TrodAll enc Tryz.prog W 0 (fun _ => true) true Tryz.f9.params.toList args.toList ds p := hA0
  rw [Tryz.params9] at hA hval
  obtain ⟨v0, d0, rfl, rfl, h0⟩ := trodAll_one hA
  obtain ⟨rfl, rfl⟩ := trodVars_none hV
  obtain ⟨a0, len0, cap0, rfl⟩ := okWide_slice Tryz.underlying22 (hval 0 22 v0 rfl rfl)
  have k0 := h0
  have lt0 : ∀ x ∈ p, x.block < W.heap.size := by obtain ⟨m, hm⟩ := k0; exact DataW.trod_lt m _ _ _ hm
  obtain ⟨l, hl⟩ : ∃ l : List Int, Rep0 (cm W) (.sl .no (ints l)) (.slice a0 len0 cap0) := by
    obtain ⟨fuel, hf⟩ := h0
    rcases open_ints Tryz.underlying22 Tryz.underlying3 (by kernel_rfl) hf with ⟨hcs, _⟩ | ⟨x, l, c, zs, hcs, _, hl, hm, hz, _, hcell, hwz⟩
    · simp [Value.cells] at hcs
      obtain ⟨rfl, rfl, rfl⟩ := hcs
      exact ⟨[], .nil .no none 0 (fun h => by cases h) (fun _ _ => trivial)⟩
    · simp [Value.cells] at hcs
      obtain ⟨rfl, rfl, rfl⟩ := hcs
      exact ⟨zs.take len0, rep_ints hl hm (by simpa using hz) hcell⟩
  clear hA0 hval0
  simp only [List.append_nil] at hW'
  refine (calls_true mixed TT_ok (matrixFree_W (X := Nothing) l) W #[.slice a0 len0 cap0] (glob hL) rfl (fun i x hx => ?_)).mono fun e W' ⟨he, bel⟩ => ?_
  · cases i with
    | zero => simp at hx; subst hx; exact ⟨hl, fun _ _ _ h => by cases h⟩
    | succ i => simp at hx
  · subst he
    exact ⟨_, rfl, _, _, _, [], _, [], hW', trodAll_mk1 (shut_bool Tryz.underlying4 _), trodAll_cons_mk (Below.trod laidOut (by kernel_rfl) (of_decide_eq_true (by kernel_rfl)) k0 bel lt0) trodAll_mk0, rfl, bel.frame _, fun h => by cases h⟩
theorem over : Rows.matrixFreeRow.holds Tryz.pinned (OpenSpec.ofChange Rows.matrixFreeSpec) :=
  OpenClaim.holds_of_wide 9 Tryz.f9 rfl rfl rfl rfl rfl rfl rfl ⟨rfl, rfl, rfl, rfl, rfl⟩ rfl rfl rfl rfl rfl (by kernel_rfl) Tryz.func9 (by kernel_rfl)
    (of_decide_eq_true (by kernel_rfl)) (by unfold Func.isWrapper; first | (rw [if_pos (by decide +kernel)]; kernel_rfl) | (rw [if_neg (by decide +kernel)]; exact ⟨rfl, rfl⟩))
    (fun os started H enc _ => lifted os started H enc)
theorem card : Rows.MatrixFreeCardSaid :=
  Claim7.holds_tied_plain_at .later [] [.data] true (true, "c62a318e6ef182235b178dfb79a87a40538878d003ea7f81ce7fe82efea8d768") false
    over (fun _ h => by cases h) (by kernel_rfl) (fun _ h => by cases h) matrixFree_row_tie rfl ⟨rfl, rfl⟩ (by kernel_rfl) rfl
    (fun f fn hf hfn => by
      obtain rfl : f = 9 := Option.some.inj ((show Tryz.prog.funcNamed "proofprograms/proofprogramslaw29.MatrixFree" = some 9 by kernel_rfl).symm.trans hf) |>.symm
      obtain rfl : fn = Tryz.f9 := (Option.some.inj (Tryz.func9.symm.trans hfn)).symm
      exact ⟨by kernel_rfl, fun j t ht => by
        rw [Tryz.params9] at ht
        have hm : t ∈ [22] := by simpa using Array.mem_of_getElem? ht
        have hall : ([22].all fun u => !Tryz.prog.wantsStandIn u) = true := by kernel_rfl
        exact (show Tryz.prog.wantsStandIn t = false by simpa using List.all_eq_true.1 hall t hm)⟩)
    (by kernel_rfl)
end Go.Proofs.YtjdlmhbkfammlabGreatDoor.matrixFree
namespace Go.Proofs.YtjdlmhbkfammlabGreatDoor
theorem matrixFree_holds : Rows.MatrixFreeCardSaid := matrixFree.card
end Go.Proofs.YtjdlmhbkfammlabGreatDoor
