/- A part of the proof: walks of the functions. -/
import Derived.Test.YtjdlmhbkfammlabGreatDoorShb
import Derived.Test.YtjdlmhbkfammlabGreatDoorProg
namespace Go.Proofs.YtjdlmhbkfammlabGreatDoor
open Go Go.Sh
def tab : List (Nat × TI) := [
  (2, ⟨1, 8, false, [.int .i64 0], none, none, [], some (IntKind.i64), false⟩),
  (3, ⟨1, 8, false, [.int .i64 0], none, none, [], some (IntKind.i64), false⟩),
  (4, ⟨1, 1, false, [.bool false], none, none, [], none, true⟩),
  (6, ⟨1, 1, false, [.int .u8 0], none, none, [], some (IntKind.u8), false⟩),
  (8, ⟨4, 24, true, [.int .i64 0, .int .i64 0, .bool false, .int .u8 0], none, none, [(2, 0), (3, 1), (4, 2), (6, 3)], none, false⟩),
  (9, ⟨1, 16, false, [.bad], none, none, [], none, false⟩),
  (10, ⟨1, 16, false, [.bad], none, none, [], none, false⟩),
  (11, ⟨1, 16, false, [.bad], none, none, [], none, false⟩),
  (12, ⟨1, 8, false, [.int .u64 0], none, none, [], some (IntKind.u64), false⟩),
  (14, ⟨2, 24, true, [.bad, .int .u64 0], none, none, [(9, 0), (12, 1)], none, false⟩),
  (15, ⟨1, 8, false, [.bad], none, none, [], none, false⟩),
  (16, ⟨1, 8, false, [.bad], none, none, [], none, false⟩),
  (17, ⟨1, 8, false, [.bad], none, none, [], none, false⟩),
  (19, ⟨1, 8, true, [.bad], none, none, [(17, 0)], none, false⟩),
  (22, ⟨1, 24, false, [.sl .full []], some 3, none, [], none, false⟩),
  (23, ⟨1, 24, false, [.sl .full []], some 25, none, [], none, false⟩),
  (25, ⟨4, 64, true, [.int .i64 0, .int .i64 0, .sl .full [], .sl .full []], none, none, [(3, 0), (3, 1), (22, 2), (23, 3)], none, false⟩),
  (26, ⟨1, 24, false, [.sl .full []], some 28, none, [], none, false⟩),
  (28, ⟨2, 32, true, [.int .i64 0, .sl .full []], none, none, [(3, 0), (26, 1)], none, false⟩),
  (29, ⟨1, 24, false, [.sl .full []], some 31, none, [], none, false⟩),
  (31, ⟨5, 72, true, [.int .i64 0, .int .i64 0, .int .i64 0, .sl .full [], .sl .full []], none, none, [(3, 0), (3, 1), (28, 2), (29, 4)], none, false⟩),
  (36, ⟨1, 8, false, [.bad], none, none, [], none, false⟩),
  (41, ⟨1, 8, false, [.int .i64 0], none, none, [], some (IntKind.i64), false⟩),
  (49, ⟨1, 8, false, [.bad], none, none, [], none, false⟩),
  (58, ⟨1, 24, false, [.sl .full []], some 60, none, [], none, false⟩),
  (60, ⟨5, 88, true, [.int .i64 0, .int .i64 0, .sl .full [], .sl .full [], .sl .full []], none, none, [(3, 0), (28, 1), (29, 3), (58, 4)], none, false⟩),
  (62, ⟨1, 8, true, [.int .i64 0], none, none, [(3, 0)], none, false⟩),
  (70, ⟨15, 216, true, [.int .i64 0, .int .i64 0, .int .i64 0, .sl .full [], .sl .full [], .int .i64 0, .int .i64 0, .int .i64 0, .sl .full [], .sl .full [], .int .i64 0, .int .i64 0, .int .i64 0, .sl .full [], .sl .full []], none, some (3, 31), [], none, false⟩),
  (72, ⟨1, 24, false, [.sl .full []], some 70, none, [], none, false⟩),
  (100, ⟨2, 32, true, [.sl .full [], .int .i64 0], none, none, [(22, 0), (3, 1)], none, false⟩),
  (143, ⟨1, 8, false, [.bad], none, none, [], none, false⟩),
  (144, ⟨1, 8, false, [.bad], none, none, [], none, false⟩),
  (146, ⟨1, 8, false, [.bad], none, none, [], none, false⟩),
  (156, ⟨1, 8, false, [.bad], none, none, [], none, false⟩),
  (170, ⟨1, 8, false, [.bad], none, none, [], none, false⟩),
  (172, ⟨3, 24, true, [.int .i64 0, .int .i64 0, .bool false], none, none, [(3, 0), (3, 1), (4, 2)], none, false⟩),
  (173, ⟨1, 24, false, [.sl .full []], some 175, none, [], none, false⟩),
  (175, ⟨9, 152, true, [.int .i64 0, .sl .full [], .sl .full [], .int .i64 0, .int .i64 0, .int .i64 0, .sl .full [], .sl .full [], .sl .full []], none, none, [(3, 0), (22, 1), (173, 2), (31, 3), (173, 8)], none, false⟩),
  (185, ⟨4, 64, true, [.int .i64 0, .sl .full [], .int .i64 0, .sl .full []], none, none, [(28, 0), (28, 2)], none, false⟩),
  (194, ⟨1, 8, false, [.bad], none, none, [], none, false⟩),
  (203, ⟨1, 24, false, [.sl .full []], some 185, none, [], none, false⟩),
  (205, ⟨14, 112, true, [.int .i64 0, .int .i64 0, .int .i64 0, .int .i64 0, .int .i64 0, .int .i64 0, .int .i64 0, .int .i64 0, .int .i64 0, .int .i64 0, .int .i64 0, .int .i64 0, .int .i64 0, .int .i64 0], none, some (14, 3), [], none, false⟩),
  (206, ⟨4, 64, true, [.int .i64 0, .sl .full [], .int .i64 0, .sl .full []], none, some (2, 28), [], none, false⟩),
  (216, ⟨1, 1, false, [.int .u8 0], none, none, [], some (IntKind.u8), false⟩)]
abbrev TT : TypeId → Option TI := tabFind tab
theorem ti2 : TI.of Tryz.prog 2 = some ⟨1, 8, false, [.int .i64 0], none, none, [], some (IntKind.i64), false⟩ := by kernel_rfl
theorem ti3 : TI.of Tryz.prog 3 = some ⟨1, 8, false, [.int .i64 0], none, none, [], some (IntKind.i64), false⟩ := by kernel_rfl
theorem ti4 : TI.of Tryz.prog 4 = some ⟨1, 1, false, [.bool false], none, none, [], none, true⟩ := by kernel_rfl
theorem ti6 : TI.of Tryz.prog 6 = some ⟨1, 1, false, [.int .u8 0], none, none, [], some (IntKind.u8), false⟩ := by kernel_rfl
theorem ti8 : TI.of Tryz.prog 8 = some ⟨4, 24, true, [.int .i64 0, .int .i64 0, .bool false, .int .u8 0], none, none, [(2, 0), (3, 1), (4, 2), (6, 3)], none, false⟩ := by kernel_rfl
theorem ti9 : TI.of Tryz.prog 9 = some ⟨1, 16, false, [.bad], none, none, [], none, false⟩ := by kernel_rfl
theorem ti10 : TI.of Tryz.prog 10 = some ⟨1, 16, false, [.bad], none, none, [], none, false⟩ := by kernel_rfl
theorem ti11 : TI.of Tryz.prog 11 = some ⟨1, 16, false, [.bad], none, none, [], none, false⟩ := by kernel_rfl
theorem ti12 : TI.of Tryz.prog 12 = some ⟨1, 8, false, [.int .u64 0], none, none, [], some (IntKind.u64), false⟩ := by kernel_rfl
theorem ti14 : TI.of Tryz.prog 14 = some ⟨2, 24, true, [.bad, .int .u64 0], none, none, [(9, 0), (12, 1)], none, false⟩ := by kernel_rfl
theorem ti15 : TI.of Tryz.prog 15 = some ⟨1, 8, false, [.bad], none, none, [], none, false⟩ := by kernel_rfl
theorem ti16 : TI.of Tryz.prog 16 = some ⟨1, 8, false, [.bad], none, none, [], none, false⟩ := by kernel_rfl
theorem ti17 : TI.of Tryz.prog 17 = some ⟨1, 8, false, [.bad], none, none, [], none, false⟩ := by kernel_rfl
theorem ti19 : TI.of Tryz.prog 19 = some ⟨1, 8, true, [.bad], none, none, [(17, 0)], none, false⟩ := by kernel_rfl
theorem ti22 : TI.of Tryz.prog 22 = some ⟨1, 24, false, [.sl .full []], some 3, none, [], none, false⟩ := by kernel_rfl
theorem ti23 : TI.of Tryz.prog 23 = some ⟨1, 24, false, [.sl .full []], some 25, none, [], none, false⟩ := by kernel_rfl
theorem ti25 : TI.of Tryz.prog 25 = some ⟨4, 64, true, [.int .i64 0, .int .i64 0, .sl .full [], .sl .full []], none, none, [(3, 0), (3, 1), (22, 2), (23, 3)], none, false⟩ := by kernel_rfl
theorem ti26 : TI.of Tryz.prog 26 = some ⟨1, 24, false, [.sl .full []], some 28, none, [], none, false⟩ := by kernel_rfl
theorem ti28 : TI.of Tryz.prog 28 = some ⟨2, 32, true, [.int .i64 0, .sl .full []], none, none, [(3, 0), (26, 1)], none, false⟩ := by kernel_rfl
theorem ti29 : TI.of Tryz.prog 29 = some ⟨1, 24, false, [.sl .full []], some 31, none, [], none, false⟩ := by kernel_rfl
theorem ti31 : TI.of Tryz.prog 31 = some ⟨5, 72, true, [.int .i64 0, .int .i64 0, .int .i64 0, .sl .full [], .sl .full []], none, none, [(3, 0), (3, 1), (28, 2), (29, 4)], none, false⟩ := by kernel_rfl
theorem ti36 : TI.of Tryz.prog 36 = some ⟨1, 8, false, [.bad], none, none, [], none, false⟩ := by kernel_rfl
theorem ti41 : TI.of Tryz.prog 41 = some ⟨1, 8, false, [.int .i64 0], none, none, [], some (IntKind.i64), false⟩ := by kernel_rfl
theorem ti49 : TI.of Tryz.prog 49 = some ⟨1, 8, false, [.bad], none, none, [], none, false⟩ := by kernel_rfl
theorem ti58 : TI.of Tryz.prog 58 = some ⟨1, 24, false, [.sl .full []], some 60, none, [], none, false⟩ := by kernel_rfl
theorem ti60 : TI.of Tryz.prog 60 = some ⟨5, 88, true, [.int .i64 0, .int .i64 0, .sl .full [], .sl .full [], .sl .full []], none, none, [(3, 0), (28, 1), (29, 3), (58, 4)], none, false⟩ := by kernel_rfl
theorem ti62 : TI.of Tryz.prog 62 = some ⟨1, 8, true, [.int .i64 0], none, none, [(3, 0)], none, false⟩ := by kernel_rfl
theorem ti70 : TI.of Tryz.prog 70 = some ⟨15, 216, true, [.int .i64 0, .int .i64 0, .int .i64 0, .sl .full [], .sl .full [], .int .i64 0, .int .i64 0, .int .i64 0, .sl .full [], .sl .full [], .int .i64 0, .int .i64 0, .int .i64 0, .sl .full [], .sl .full []], none, some (3, 31), [], none, false⟩ := by kernel_rfl
theorem ti72 : TI.of Tryz.prog 72 = some ⟨1, 24, false, [.sl .full []], some 70, none, [], none, false⟩ := by kernel_rfl
theorem ti100 : TI.of Tryz.prog 100 = some ⟨2, 32, true, [.sl .full [], .int .i64 0], none, none, [(22, 0), (3, 1)], none, false⟩ := by kernel_rfl
theorem ti143 : TI.of Tryz.prog 143 = some ⟨1, 8, false, [.bad], none, none, [], none, false⟩ := by kernel_rfl
theorem ti144 : TI.of Tryz.prog 144 = some ⟨1, 8, false, [.bad], none, none, [], none, false⟩ := by kernel_rfl
theorem ti146 : TI.of Tryz.prog 146 = some ⟨1, 8, false, [.bad], none, none, [], none, false⟩ := by kernel_rfl
theorem ti156 : TI.of Tryz.prog 156 = some ⟨1, 8, false, [.bad], none, none, [], none, false⟩ := by kernel_rfl
theorem ti170 : TI.of Tryz.prog 170 = some ⟨1, 8, false, [.bad], none, none, [], none, false⟩ := by kernel_rfl
theorem ti172 : TI.of Tryz.prog 172 = some ⟨3, 24, true, [.int .i64 0, .int .i64 0, .bool false], none, none, [(3, 0), (3, 1), (4, 2)], none, false⟩ := by kernel_rfl
theorem ti173 : TI.of Tryz.prog 173 = some ⟨1, 24, false, [.sl .full []], some 175, none, [], none, false⟩ := by kernel_rfl
theorem ti175 : TI.of Tryz.prog 175 = some ⟨9, 152, true, [.int .i64 0, .sl .full [], .sl .full [], .int .i64 0, .int .i64 0, .int .i64 0, .sl .full [], .sl .full [], .sl .full []], none, none, [(3, 0), (22, 1), (173, 2), (31, 3), (173, 8)], none, false⟩ := by kernel_rfl
theorem ti185 : TI.of Tryz.prog 185 = some ⟨4, 64, true, [.int .i64 0, .sl .full [], .int .i64 0, .sl .full []], none, none, [(28, 0), (28, 2)], none, false⟩ := by kernel_rfl
theorem ti194 : TI.of Tryz.prog 194 = some ⟨1, 8, false, [.bad], none, none, [], none, false⟩ := by kernel_rfl
theorem ti203 : TI.of Tryz.prog 203 = some ⟨1, 24, false, [.sl .full []], some 185, none, [], none, false⟩ := by kernel_rfl
theorem ti205 : TI.of Tryz.prog 205 = some ⟨14, 112, true, [.int .i64 0, .int .i64 0, .int .i64 0, .int .i64 0, .int .i64 0, .int .i64 0, .int .i64 0, .int .i64 0, .int .i64 0, .int .i64 0, .int .i64 0, .int .i64 0, .int .i64 0, .int .i64 0], none, some (14, 3), [], none, false⟩ := by kernel_rfl
theorem ti206 : TI.of Tryz.prog 206 = some ⟨4, 64, true, [.int .i64 0, .sl .full [], .int .i64 0, .sl .full []], none, some (2, 28), [], none, false⟩ := by kernel_rfl
theorem ti216 : TI.of Tryz.prog 216 = some ⟨1, 1, false, [.int .u8 0], none, none, [], some (IntKind.u8), false⟩ := by kernel_rfl
theorem TT_ok : ∀ t ti, TT t = some ti → TI.of Tryz.prog t = some ti :=
  tabFind_ok _ tab ⟨ti2, ti3, ti4, ti6, ti8, ti9, ti10, ti11, ti12, ti14, ti15, ti16, ti17, ti19, ti22, ti23, ti25, ti26, ti28, ti29, ti31, ti36, ti41, ti49, ti58, ti60, ti62, ti70, ti72, ti100, ti143, ti144, ti146, ti156, ti170, ti172, ti173, ti175, ti185, ti194, ti203, ti205, ti206, ti216, trivial⟩
theorem mixed : Tryz.prog.follows .mixedOrders = true := by kernel_rfl
end Go.Proofs.YtjdlmhbkfammlabGreatDoor
namespace Go.Proofs.YtjdlmhbkfammlabGreatDoor
open Go Go.Sh
set_option linter.unusedVariables false
set_option linter.unusedSimpArgs false
set_option maxHeartbeats 4000000
variable {X : CRel}
abbrev G0 : Gl 
  | 0 => some [.int .i64 0, .int .i64 0, .int .i64 1, .int .i64 2, .int .i64 0, .int .i64 1, .int .i64 3, .int .i64 0, .int .i64 2, .int .i64 3, .int .i64 2, .int .i64 1, .int .i64 1, .int .i64 0]
  | _ => none
abbrev AC (X : CRel) : CRel := ACall Tryz.prog TT G0 X
theorem few_W (rows : List (List AV)) : Gives (AC X) 12 [.sl .no rows] (.bool (decide ((rows.length : Int) ≤ 500))) := by
  refine givesW (fn := Tryz.f12) Tryz.func12 rfl rfl rfl ?_
  refine W.seq (W.region rfl (WO.steps 1 rfl (WO.nil ?_)))
  refine W.seq (W.region rfl (WO.steps 4 rfl (WO.nil ?_)))
  exact W.ret (.ret [_] rfl rfl)
theorem mod_W (n k : Int) (hk : 0 < k) (h1 : k ≤ 1000) : Gives (AC X) 33 [.int .i64 n, .int .i64 k] (.int .i64 (IntKind.i64.wrap (n.tmod k + k) |>.tmod k)) := by
  have hk0 : ¬ k = 0 := by omega
  refine givesW (fn := Tryz.f33) Tryz.func33 rfl rfl rfl ?_
  refine W.seq (W.region rfl (WO.steps 1 rfl (WO.nil ?_)))
  refine W.seq (W.region rfl (WO.steps 2 rfl (WO.pure (.int .i64 (n.tmod k)) rfl rfl rfl ?_ (WO.steps 3 rfl (WO.pure (.int .i64 (IntKind.i64.wrap (n.tmod k + k) |>.tmod k)) rfl rfl rfl ?_ (WO.steps 1 rfl (WO.nil ?_)))))))
  · show (if k = 0 then none else some (AV.int .i64 (n.tmod k))) = _
    rw [if_neg hk0]
  · show (if k = 0 then none else some (AV.int .i64 (IntKind.i64.wrap (n.tmod k + k) |>.tmod k))) = _
    rw [if_neg hk0]
  · exact W.ret (.ret [_] rfl rfl)
theorem next_W (l : List Int) (i : Nat) (n : Int) (hi : i ≤ l.length) (hl : l.length ≤ 1000) (hn : 0 < n) (hn2 : n ≤ 1000) : Draws (AC X) l 18 [.int .i64 n] i (.int .i64 (nextV l i n)) (nextI l i) := by
  suffices h : ∃ rs st', AC X 18 [.vp 0 0, .int .i64 n] (deck l i) (resOf rs) st' ∧ (rs = [.int .i64 (nextV l i n)] ∧ st'[0]? = (deck l (nextI l i))[0]?) by
    obtain ⟨rs, st', h1, rfl, h2⟩ := h; exact ⟨st', h1, h2⟩
  refine callW (fn := Tryz.f18) Tryz.func18 rfl rfl rfl ?_
  refine W.seq (W.region rfl (WO.steps 1 rfl (WO.nil ?_)))
  refine W.seq (W.seq (W.draw 14 [] rfl (by decide +kernel) rfl (WD.steps 2 rfl ?_)))
  have h1 : decide (n < 1) = false := by simp; omega
  rw [h1]
  refine WD.steps 12 rfl (WD.nil (WO.nil (W.cond rfl ?_ ?_)))
  · intro hb
    have hb : decide ((i : Int) ≥ ((ints l).length : Int)) = true := hb
    rw [ints_len] at hb
    have hil : i = l.length := by simp at hb; omega
    subst hil
    refine W.seq (W.region rfl (WO.steps 1 rfl (WO.nil ?_)))
    refine W.ret (.ret [.int .i64 0] rfl ⟨?_, ?_⟩)
    · simp [nextV]
    · show (deck l l.length)[0]? = _
      simp [deck, nextI]
  · intro hb
    have hb : decide ((i : Int) ≥ ((ints l).length : Int)) = false := hb
    rw [ints_len] at hb
    have hil : i < l.length := by simp at hb; omega
    have hx : l[i]? = some l[i] := List.getElem?_eq_getElem hil
    refine W.skip ?_
    refine W.seq (W.draw 11 [] rfl (by decide +kernel) rfl (WD.steps 8 rfl (WD.index (row := [.int .i64 l[i]]) (Int.natCast_nonneg i) ?_ rfl rfl rfl rfl rfl rfl rfl rfl rfl rfl (WD.steps 2 rfl (WD.nil (WO.nil ?_))))))
    · rw [Int.toNat_natCast]; exact ints_get hx
    · refine W.seq (W.region rfl (WO.steps 8 rfl (WO.nil ?_)))
      refine W.seq (W.region rfl (WO.steps 2 rfl (WO.gives (mod_W l[i] n hn hn2) rfl rfl rfl rfl rfl rfl rfl rfl rfl (WO.steps 1 rfl (WO.nil ?_)))))
      refine W.ret (.ret [.int .i64 (IntKind.i64.wrap (l[i].tmod n + n) |>.tmod n)] rfl ⟨?_, ?_⟩)
      · simp [nextV, hx]
      · show some (some [AV.sl .no (ints l), .int .i64 (IntKind.i64.wrap ((i : Int) + 1))]) = some (some [AV.sl .no (ints l), .int .i64 ((min (i + 1) l.length : Nat) : Int)])
        rw [wrap_id (by omega) (by omega), Nat.min_eq_left (by omega)]; rfl
/-- a new deck -/
theorem new_W (l : List Int) : ∃ st', AC X 15 [.sl .no (ints l)] [] (.vp 0 0) st' ∧ st'[0]? = (deck l 0)[0]? := by
  suffices h : ∃ rs st', AC X 15 [.sl .no (ints l)] [] (resOf rs) st' ∧ (rs = [.vp 0 0] ∧ st'[0]? = (deck l 0)[0]?) by
    obtain ⟨rs, st', h1, rfl, h2⟩ := h; exact ⟨st', h1, h2⟩
  refine callW (fn := Tryz.f15) Tryz.func15 rfl rfl rfl ?_
  refine W.seq (W.region rfl (WO.steps 1 rfl (WO.nil ?_)))
  refine W.seq (W.region rfl (WO.steps 4 rfl (WO.nil ?_)))
  exact W.ret (.ret [.vp 0 0] rfl ⟨rfl, rfl⟩)
/-! types -/
theorem nat_W : Gives (AC X) 80 [] (.agg (cY .nat)) := by
  refine givesW (fn := Tryz.f80) Tryz.func80 rfl rfl rfl ?_
  refine W.seq (W.region rfl (WO.steps 1 rfl (WO.nil ?_)))
  refine W.seq (W.region rfl (WO.steps 2 rfl (WO.nil ?_)))
  exact W.ret (.ret [_] rfl rfl)
theorem list_W : Gives (AC X) 81 [] (.agg (cY .list)) := by
  refine givesW (fn := Tryz.f81) Tryz.func81 rfl rfl rfl ?_
  refine W.seq (W.region rfl (WO.steps 1 rfl (WO.nil ?_)))
  refine W.seq (W.region rfl (WO.steps 2 rfl (WO.nil ?_)))
  exact W.ret (.ret [_] rfl rfl)
theorem unit_W : Gives (AC X) 82 [] (.agg (cY .unit)) := by
  refine givesW (fn := Tryz.f82) Tryz.func82 rfl rfl rfl ?_
  refine W.seq (W.region rfl (WO.steps 1 rfl (WO.nil ?_)))
  refine W.seq (W.region rfl (WO.steps 2 rfl (WO.nil ?_)))
  exact W.ret (.ret [_] rfl rfl)
end Go.Proofs.YtjdlmhbkfammlabGreatDoor
namespace Go.Proofs.YtjdlmhbkfammlabGreatDoor
open Go Go.Sh
set_option linter.unusedVariables false
set_option linter.unusedSimpArgs false
set_option maxHeartbeats 4000000
variable {X : CRel}
/-! copies of types -/
noncomputable abbrev loopCopyY : Code := codeAt ((Tryz.f164).body.getD .skip) [1, 1, 0, 1, 0, 0]
abbrev eY : Nat := 28
theorem copyY_loop {Q : AX → Fr → Prop} (c0 : List AV) (k0 : Int) (r0 : List (List AV)) (h0 : c0 = [.int .i64 k0, .sl .no r0]) (all : List Y) (hn : all.length ≤ 1000000) : ∀ (ys pre : List Y) (b : Nat → AV), all = pre ++ ys → (∀ a ∈ ys, Gives (AC X) 164 [.agg (cY a)] (.agg (cY a))) →
    (∀ b, Q (.exit 0) (Fr.at b [(1, .vp 0 0), (2, .vp 1 0), (3, gat eY (all.map cY))] [some c0, some [.int .i64 0, .sl .full []]] (gatN (all.map cY)))) →
    W TT G0 (AC X) 23 0 (.loop loopCopyY) Q (Fr.at b [(1, .vp 0 0), (2, .vp 1 0), (3, gat eY (pre.map cY)), (7, .sl .no (all.map cY)), (8, .int .i64 all.length), (9, .int .i64 pre.length)] [some c0, some [.int .i64 0, .sl .full []]] (gatN (pre.map cY)))
  | [], pre, b, he, _, hQ => by
    subst h0
    rw [List.append_nil] at he; subst he
    refine W.loop (W.seq (W.region rfl (WO.steps 1 rfl (WO.nil (W.seq (W.cond rfl (fun h => ?_) (fun _ => W.exit ?_)))))))
    · have h : decide ((all.length : Int) < (all.length : Int)) = true := h
      simp at h
    · exact Fr.at_intro [(1, .vp 0 0), (2, .vp 1 0), (3, gat eY (all.map cY))] _ _ ⟨rfl, rfl, rfl, trivial⟩ rfl rfl hQ
  | a :: ys, pre, b, he, hg, hQ => by
    subst h0
    have hlen : pre.length < all.length := by rw [he]; simp
    have hix : (all.map cY)[((pre.length : Nat) : Int).toNat]? = some (cY a) := by
      rw [Int.toNat_natCast, he]; simp
    have hwr : IntKind.i64.wrap ((pre.length : Int) + 1) = ((pre ++ [a]).length : Int) := by
      rw [wrap_id (by omega) (by omega)]; simp
    refine W.loop (W.seq (W.region rfl (WO.steps 1 rfl (WO.nil (W.seq (W.cond rfl (fun _ => W.skip ?_) (fun h => ?_)))))))
    · refine W.seq (W.block (W.seq (W.region rfl (WO.index (row := cY a) (Int.natCast_nonneg _) hix rfl rfl rfl rfl rfl rfl rfl rfl rfl rfl (WO.steps 3 rfl (WO.nil ?_))))))
      have hrec := copyY_loop (Q := Q) [.int .i64 k0, .sl .no r0] k0 r0 rfl all hn ys (pre ++ [a])
      cases pre with
      | nil =>
        refine W.region rfl (WO.steps 2 rfl (WO.gives (hg a (by simp)) rfl rfl rfl rfl rfl rfl rfl rfl rfl (WO.steps 1 rfl (WO.appendF (by simp) (Lens.nil _) (Lens.cons rfl (Lens.nil _)) (by simp) (by simp) rfl rfl rfl rfl rfl rfl rfl rfl rfl rfl (WO.steps 1 rfl (WO.nil ?_))))))
        refine W.region rfl (WO.steps 2 rfl (WO.nil ?_))
        refine W.tidy 2 1 [(1, 0)] rfl rfl ?_
        refine W.at [(1, .vp 0 0), (2, .vp 1 0), (3, gat eY ([a].map cY)), (7, .sl .no (all.map cY)), (8, .int .i64 all.length), (9, .int .i64 ([a].length : Nat))] _ _ ⟨rfl, rfl, rfl, rfl, rfl, ?_, trivial⟩ rfl rfl (fun b => ?_)
        · show AV.int .i64 (IntKind.i64.wrap (0 + 1)) = _
          rfl
        · exact hrec b he (fun x hx => hg x (by simp [hx])) hQ
      | cons p pre =>
        refine W.region rfl (WO.steps 2 rfl (WO.gives (hg a (by simp)) rfl rfl rfl rfl rfl rfl rfl rfl rfl (WO.steps 1 rfl (WO.appendI (by simp) (Lens.cons rfl (Lens.nil _)) ?_ ?_ rfl rfl rfl rfl rfl rfl rfl rfl rfl rfl (WO.steps 1 rfl (WO.nil ?_))))))
        · have : ((p :: pre).map cY).length ≤ 1000000 := by simp at hlen ⊢; omega
          show (((p :: pre).map cY).length + 1) * 32 ≤ _
          omega
        · have : ((p :: pre).map cY).length ≤ 1000000 := by simp at hlen ⊢; omega
          show ((p :: pre).map cY).length + 1 ≤ _
          omega
        · refine W.region rfl (WO.steps 2 rfl (WO.nil ?_))
          refine W.tidy 2 1 [(2, 0)] rfl rfl ?_
          refine W.at [(1, .vp 0 0), (2, .vp 1 0), (3, gat eY ((p :: pre ++ [a]).map cY)), (7, .sl .no (all.map cY)), (8, .int .i64 all.length), (9, .int .i64 ((p :: pre ++ [a]).length : Nat))] _ _ ⟨rfl, rfl, ?_, rfl, rfl, ?_, trivial⟩ rfl rfl (fun b => ?_)
          · show AV.sl (.id 0 eY) ((p :: pre).map cY ++ [cY a]) = AV.sl (.id 0 eY) ((p :: pre ++ [a]).map cY)
            rw [List.map_append]; rfl
          · show AV.int .i64 (IntKind.i64.wrap (((p :: pre).length : Int) + 1)) = _
            rw [hwr]
          · exact hrec b (by simpa using he) (fun x hx => hg x (by simp [hx])) hQ
    · have h : decide ((pre.length : Int) < (all.length : Int)) = false := h
      simp at h; omega

theorem copyK_W (k : Int) (ys : List Y) (hl : ys.length ≤ 1000000) (ih : ∀ a ∈ ys, Gives (AC X) 164 [.agg (cY a)] (.agg (cY a))) : Gives (AC X) 164 [.agg [.int .i64 k, .sl .no (ys.map cY)]] (.agg [.int .i64 k, .sl .no (ys.map cY)]) := by
  refine givesW (fn := Tryz.f164) Tryz.func164 rfl rfl rfl ?_
  refine W.seq (W.region rfl (WO.steps 2 rfl (WO.nil ?_)))
  refine W.seq (W.region rfl (WO.steps 1 rfl (WO.nil ?_)))
  refine W.seq (W.seq (W.region rfl (WO.steps 4 rfl (WO.nil ?_))))
  refine W.block (W.at [(1, .vp 0 0), (2, .vp 1 0), (3, gat eY (([] : List Y).map cY)), (7, .sl .no (ys.map cY)), (8, .int .i64 ys.length), (9, .int .i64 (([] : List Y).length : Nat))] [some [.int .i64 k, .sl .no (ys.map cY)], some [.int .i64 0, .sl .full []]] 0 ⟨rfl, rfl, rfl, rfl, ?_, rfl, trivial⟩ rfl rfl (fun b => ?_))
  · show AV.int .i64 ((ys.map cY).length : Nat) = _
    rw [List.length_map]
  · refine copyY_loop _ k _ rfl ys hl ys [] b rfl ih (fun b => ?_)
    obtain ⟨o, ho⟩ := gat_sl eY (ys.map cY)
    rw [ho]
    cases o <;>
    · refine W.seq (W.region rfl (WO.steps 5 rfl (WO.nil ?_)))
      exact W.ret (.ret [_] rfl rfl)
theorem copyY_W (t : Y) : Gives (AC X) 164 [.agg (cY t)] (.agg (cY t)) := by
  induction t using Y.ind with
  | h t ih =>
    show Gives (AC X) _ [.agg [.int .i64 (kY t), .sl .no (rY t)]] (.agg [.int .i64 (kY t), .sl .no (rY t)])
    rw [rY_args]
    exact copyK_W (kY t) t.args (Nat.le_trans t.args_len (by decide)) ih
theorem copyTy_W (t : T) : Gives (AC X) 164 [.agg [.int .i64 (tkT t), .sl .no (trT t)]] (.agg [.int .i64 (tkT t), .sl .no (trT t)]) := by
  rw [trT_args]
  refine copyK_W (tkT t) t.tyArgs ?_ (fun a _ => copyY_W a)
  cases t <;> simp [T.tyArgs] <;> exact Nat.le_trans (Y.args_len _) (by decide)
theorem two_W (a b : Y) : Gives (AC X) 83 [.agg (cY a), .agg (cY b)] (.agg (cY (.pair a b))) := by
  refine givesW (fn := Tryz.f83) Tryz.func83 rfl rfl rfl ?_
  refine W.seq (W.region rfl (WO.steps 3 rfl (WO.nil ?_)))
  refine W.seq (W.draw 6 [] rfl (by decide +kernel) rfl (WD.steps 1 rfl (WD.gives (copyY_W a) rfl rfl rfl rfl rfl rfl rfl rfl rfl (WD.steps 1 rfl (WD.gives (copyY_W b) rfl rfl rfl rfl rfl rfl rfl rfl rfl (WD.steps 2 rfl (WD.nil (WO.steps 1 rfl (WO.nil ?_)))))))))
  exact W.ret (.ret [_] rfl rfl)
theorem fun_W (a b : Y) : Gives (AC X) 101 [.agg (cY a), .agg (cY b)] (.agg (cY (.fn a b))) := by
  refine givesW (fn := Tryz.f101) Tryz.func101 rfl rfl rfl ?_
  refine W.seq (W.region rfl (WO.steps 3 rfl (WO.nil ?_)))
  refine W.seq (W.draw 6 [] rfl (by decide +kernel) rfl (WD.steps 1 rfl (WD.gives (copyY_W a) rfl rfl rfl rfl rfl rfl rfl rfl rfl (WD.steps 1 rfl (WD.gives (copyY_W b) rfl rfl rfl rfl rfl rfl rfl rfl rfl (WD.steps 2 rfl (WD.nil (WO.steps 1 rfl (WO.nil ?_)))))))))
  exact W.ret (.ret [_] rfl rfl)
/-! copies of terms -/
noncomputable abbrev loopCopyT : Code := codeAt ((Tryz.f148).body.getD .skip) [1, 1, 0, 1, 0, 0]
abbrev eT : Nat := 31
theorem copyT_loop {Q : AX → Fr → Prop} (k0 i0 j0 : Int) (t0 r0 : List (List AV)) (all : List T) (hn : all.length ≤ 1000000) : ∀ (ys pre : List T) (b : Nat → AV), all = pre ++ ys → (∀ a ∈ ys, Gives (AC X) 148 [.agg (cT a)] (.agg (cT a))) →
    (∀ b, Q (.exit 0) (Fr.at b [(1, .vp 0 0), (2, .vp 1 0), (3, gat eT (all.map cT))] [some (row k0 i0 j0 t0 r0), some z37] (gatN (all.map cT)))) →
    W TT G0 (AC X) 28 0 (.loop loopCopyT) Q (Fr.at b [(1, .vp 0 0), (2, .vp 1 0), (3, gat eT (pre.map cT)), (7, .sl .no (all.map cT)), (8, .int .i64 all.length), (9, .int .i64 pre.length)] [some (row k0 i0 j0 t0 r0), some z37] (gatN (pre.map cT)))
  | [], pre, b, he, _, hQ => by
    rw [List.append_nil] at he; subst he
    refine W.loop (W.seq (W.region rfl (WO.steps 1 rfl (WO.nil (W.seq (W.cond rfl (fun h => ?_) (fun _ => W.exit ?_)))))))
    · have h : decide ((all.length : Int) < (all.length : Int)) = true := h
      simp at h
    · exact Fr.at_intro [(1, .vp 0 0), (2, .vp 1 0), (3, gat eT (all.map cT))] _ _ ⟨rfl, rfl, rfl, trivial⟩ rfl rfl hQ
  | a :: ys, pre, b, he, hg, hQ => by
    have hlen : pre.length < all.length := by rw [he]; simp
    have hix : (all.map cT)[((pre.length : Nat) : Int).toNat]? = some (cT a) := by
      rw [Int.toNat_natCast, he]; simp
    have hwr : IntKind.i64.wrap ((pre.length : Int) + 1) = ((pre ++ [a]).length : Int) := by
      rw [wrap_id (by omega) (by omega)]; simp
    refine W.loop (W.seq (W.region rfl (WO.steps 1 rfl (WO.nil (W.seq (W.cond rfl (fun _ => W.skip ?_) (fun h => ?_)))))))
    · refine W.seq (W.block (W.seq (W.region rfl (WO.index (row := cT a) (Int.natCast_nonneg _) hix rfl rfl rfl rfl rfl rfl rfl rfl rfl rfl (WO.steps 3 rfl (WO.nil ?_))))))
      have hrec := copyT_loop (Q := Q) k0 i0 j0 t0 r0 all hn ys (pre ++ [a])
      cases pre with
      | nil =>
        refine W.region rfl (WO.steps 2 rfl (WO.gives (hg a (by simp)) rfl rfl rfl rfl rfl rfl rfl rfl rfl (WO.steps 1 rfl (WO.appendF (by simp) (Lens.nil _) (Lens.cons rfl (Lens.nil _)) (by simp) (by simp) rfl rfl rfl rfl rfl rfl rfl rfl rfl rfl (WO.steps 1 rfl (WO.nil ?_))))))
        refine W.region rfl (WO.steps 2 rfl (WO.nil ?_))
        refine W.tidy 2 1 [(1, 0)] rfl rfl ?_
        refine W.at [(1, .vp 0 0), (2, .vp 1 0), (3, gat eT ([a].map cT)), (7, .sl .no (all.map cT)), (8, .int .i64 all.length), (9, .int .i64 ([a].length : Nat))] _ _ ⟨rfl, rfl, rfl, rfl, rfl, rfl, trivial⟩ rfl rfl (fun b => ?_)
        exact hrec b he (fun x hx => hg x (by simp [hx])) hQ
      | cons p pre =>
        have hb1 : ((p :: pre).map cT).length ≤ 1000000 := by simp at hlen ⊢; omega
        refine W.region rfl (WO.steps 2 rfl (WO.gives (hg a (by simp)) rfl rfl rfl rfl rfl rfl rfl rfl rfl (WO.steps 1 rfl (WO.appendI (by simp) (Lens.cons rfl (Lens.nil _)) (show (((p :: pre).map cT).length + 1) * 72 ≤ _ by omega) (show ((p :: pre).map cT).length + 1 ≤ _ by omega) rfl rfl rfl rfl rfl rfl rfl rfl rfl rfl (WO.steps 1 rfl (WO.nil ?_))))))
        refine W.region rfl (WO.steps 2 rfl (WO.nil ?_))
        refine W.tidy 2 1 [(2, 0)] rfl rfl ?_
        refine W.at [(1, .vp 0 0), (2, .vp 1 0), (3, gat eT ((p :: pre ++ [a]).map cT)), (7, .sl .no (all.map cT)), (8, .int .i64 all.length), (9, .int .i64 ((p :: pre ++ [a]).length : Nat))] _ _ ⟨rfl, rfl, ?_, rfl, rfl, ?_, trivial⟩ rfl rfl (fun b => ?_)
        · show AV.sl (.id 0 eT) ((p :: pre).map cT ++ [cT a]) = AV.sl (.id 0 eT) ((p :: pre ++ [a]).map cT)
          rw [List.map_append]; rfl
        · show AV.int .i64 (IntKind.i64.wrap (((p :: pre).length : Int) + 1)) = _
          rw [hwr]
        · exact hrec b (by simpa using he) (fun x hx => hg x (by simp [hx])) hQ
    · have h : decide ((pre.length : Int) < (all.length : Int)) = false := h
      simp at h; omega
theorem copyT_W (t : T) : Gives (AC X) 148 [.agg (cT t)] (.agg (cT t)) := by
  induction t using T.ind with
  | h t ih =>
    have hty := copyTy_W (X := X) t
    show Gives (AC X) _ [.agg [.int .i64 (kT t), .int .i64 (iT t), .int .i64 (tkT t), .sl .no (trT t), .sl .no (rT t)]] (.agg [.int .i64 (kT t), .int .i64 (iT t), .int .i64 (tkT t), .sl .no (trT t), .sl .no (rT t)])
    rw [rT_args]
    refine givesW (fn := Tryz.f148) Tryz.func148 rfl rfl rfl ?_
    refine W.seq (W.region rfl (WO.steps 2 rfl (WO.nil ?_)))
    refine W.seq (W.region rfl (WO.steps 1 rfl (WO.nil ?_)))
    refine W.seq (W.seq (W.region rfl (WO.steps 4 rfl (WO.nil ?_))))
    refine W.block (W.at [(1, .vp 0 0), (2, .vp 1 0), (3, gat eT (([] : List T).map cT)), (7, .sl .no (t.args.map cT)), (8, .int .i64 t.args.length), (9, .int .i64 (([] : List T).length : Nat))] [some (row (kT t) (iT t) (tkT t) (trT t) (t.args.map cT)), some z37] 0 ⟨rfl, rfl, rfl, rfl, ?_, rfl, trivial⟩ rfl rfl (fun b => ?_))
    · show AV.int .i64 ((t.args.map cT).length : Nat) = _
      rw [List.length_map]
    · refine copyT_loop _ _ _ _ _ t.args (Nat.le_trans t.args_len (by decide)) t.args [] b rfl ih (fun b => ?_)
      obtain ⟨o, ho⟩ := gat_sl eT (t.args.map cT)
      rw [ho]
      cases o <;>
      · refine W.seq (W.draw 9 [] rfl (by decide +kernel) rfl (WD.steps 6 rfl (WD.gives hty rfl rfl rfl rfl rfl rfl rfl rfl rfl (WD.steps 2 rfl (WD.nil (WO.steps 1 rfl (WO.nil ?_)))))))
        exact W.ret (.ret [_] rfl rfl)
/-! nodes of terms -/
theorem var_W (i : Nat) : Gives (AC X) 97 [.int .i64 i] (.agg (cT (.vr i))) := by
  refine givesW (fn := Tryz.f97) Tryz.func97 rfl rfl rfl ?_
  refine W.seq (W.region rfl (WO.steps 1 rfl (WO.nil ?_)))
  refine W.seq (W.region rfl (WO.steps 3 rfl (WO.nil ?_)))
  exact W.ret (.ret [_] rfl rfl)
noncomputable abbrev loopN : Code := codeAt ((Tryz.f77).body.getD .skip) [1, 1, 0, 1, 0, 0]
theorem n_loop {Q : AX → Fr → Prop} (k : Int) (all : List T) (hn : all.length ≤ 1000000) : ∀ (ys pre : List T) (b : Nat → AV), all = pre ++ ys →
    (∀ b, Q (.exit 0) (Fr.at b [(0, .int .i64 k), (4, .vp 0 0), (5, gat eT (all.map cT))] [some z37] (gatN (all.map cT)))) →
    W TT G0 (AC X) 23 0 (.loop loopN) Q (Fr.at b [(0, .int .i64 k), (4, .vp 0 0), (5, gat eT (pre.map cT)), (8, .sl .no (all.map cT)), (9, .int .i64 all.length), (10, .int .i64 pre.length)] [some z37] (gatN (pre.map cT)))
  | [], pre, b, he, hQ => by
    rw [List.append_nil] at he; subst he
    refine W.loop (W.seq (W.region rfl (WO.steps 1 rfl (WO.nil (W.seq (W.cond rfl (fun h => ?_) (fun _ => W.exit ?_)))))))
    · have h : decide ((all.length : Int) < (all.length : Int)) = true := h
      simp at h
    · exact Fr.at_intro [(0, .int .i64 k), (4, .vp 0 0), (5, gat eT (all.map cT))] _ _ ⟨rfl, rfl, rfl, trivial⟩ rfl rfl hQ
  | a :: ys, pre, b, he, hQ => by
    have hlen : pre.length < all.length := by rw [he]; simp
    have hix : (all.map cT)[((pre.length : Nat) : Int).toNat]? = some (cT a) := by
      rw [Int.toNat_natCast, he]; simp
    have hwr : IntKind.i64.wrap ((pre.length : Int) + 1) = ((pre ++ [a]).length : Int) := by
      rw [wrap_id (by omega) (by omega)]; simp
    refine W.loop (W.seq (W.region rfl (WO.steps 1 rfl (WO.nil (W.seq (W.cond rfl (fun _ => W.skip ?_) (fun h => ?_)))))))
    · refine W.seq (W.block (W.seq (W.region rfl (WO.index (row := cT a) (Int.natCast_nonneg _) hix rfl rfl rfl rfl rfl rfl rfl rfl rfl rfl (WO.steps 3 rfl (WO.nil ?_))))))
      have hrec := n_loop (Q := Q) k all hn ys (pre ++ [a])
      cases pre with
      | nil =>
        refine W.region rfl (WO.steps 2 rfl (WO.gives (copyT_W a) rfl rfl rfl rfl rfl rfl rfl rfl rfl (WO.steps 1 rfl (WO.appendF (by simp) (Lens.nil _) (Lens.cons rfl (Lens.nil _)) (by simp) (by simp) rfl rfl rfl rfl rfl rfl rfl rfl rfl rfl (WO.steps 1 rfl (WO.nil ?_))))))
        refine W.region rfl (WO.steps 2 rfl (WO.nil ?_))
        refine W.tidy 1 1 [(1, 0)] rfl rfl ?_
        refine W.at [(0, .int .i64 k), (4, .vp 0 0), (5, gat eT ([a].map cT)), (8, .sl .no (all.map cT)), (9, .int .i64 all.length), (10, .int .i64 ([a].length : Nat))] _ _ ⟨rfl, rfl, rfl, rfl, rfl, rfl, trivial⟩ rfl rfl (fun b => ?_)
        exact hrec b he hQ
      | cons p pre =>
        have hb1 : ((p :: pre).map cT).length ≤ 1000000 := by simp at hlen ⊢; omega
        refine W.region rfl (WO.steps 2 rfl (WO.gives (copyT_W a) rfl rfl rfl rfl rfl rfl rfl rfl rfl (WO.steps 1 rfl (WO.appendI (by simp) (Lens.cons rfl (Lens.nil _)) (show (((p :: pre).map cT).length + 1) * 72 ≤ _ by omega) (show ((p :: pre).map cT).length + 1 ≤ _ by omega) rfl rfl rfl rfl rfl rfl rfl rfl rfl rfl (WO.steps 1 rfl (WO.nil ?_))))))
        refine W.region rfl (WO.steps 2 rfl (WO.nil ?_))
        refine W.tidy 1 1 [(2, 0)] rfl rfl ?_
        refine W.at [(0, .int .i64 k), (4, .vp 0 0), (5, gat eT ((p :: pre ++ [a]).map cT)), (8, .sl .no (all.map cT)), (9, .int .i64 all.length), (10, .int .i64 ((p :: pre ++ [a]).length : Nat))] _ _ ⟨rfl, rfl, ?_, rfl, rfl, ?_, trivial⟩ rfl rfl (fun b => ?_)
        · show AV.sl (.id 0 eT) ((p :: pre).map cT ++ [cT a]) = AV.sl (.id 0 eT) ((p :: pre ++ [a]).map cT)
          rw [List.map_append]; rfl
        · show AV.int .i64 (IntKind.i64.wrap (((p :: pre).length : Int) + 1)) = _
          rw [hwr]
        · exact hrec b (by simpa using he) hQ
    · have h : decide ((pre.length : Int) < (all.length : Int)) = false := h
      simp at h; omega
/-- a node without a type -/
theorem n_W (k : Int) (ys : List T) (hl : ys.length ≤ 1000000) : Gives (AC X) 77 [.int .i64 k, .sl .no (ys.map cT)] (.agg (row k 0 0 [] (ys.map cT))) := by
  refine givesW (fn := Tryz.f77) Tryz.func77 rfl rfl rfl ?_
  refine W.seq (W.region rfl (WO.steps 1 rfl (WO.nil ?_)))
  refine W.seq (W.region rfl (WO.steps 1 rfl (WO.nil ?_)))
  refine W.seq (W.seq (W.region rfl (WO.steps 3 rfl (WO.nil ?_))))
  refine W.block (W.at [(0, .int .i64 k), (4, .vp 0 0), (5, gat eT (([] : List T).map cT)), (8, .sl .no (ys.map cT)), (9, .int .i64 ys.length), (10, .int .i64 (([] : List T).length : Nat))] [some z37] 0 ⟨rfl, rfl, rfl, rfl, ?_, rfl, trivial⟩ rfl rfl (fun b => ?_))
  · show AV.int .i64 ((ys.map cT).length : Nat) = _
    rw [List.length_map]
  · refine n_loop k ys hl ys [] b rfl (fun b => ?_)
    obtain ⟨o, ho⟩ := gat_sl eT (ys.map cT)
    rw [ho]
    cases o <;>
    · refine W.seq (W.region rfl (WO.steps 4 rfl (WO.nil ?_)))
      exact W.ret (.ret [_] rfl rfl)
/-- a node with a type -/
theorem t_W (k : Int) (s : Y) (ys : List T) (hl : ys.length ≤ 1000000) : Gives (AC X) 98 [.int .i64 k, .agg (cY s), .sl .no (ys.map cT)] (.agg (row k 0 (kY s) (rY s) (ys.map cT))) := by
  refine givesW (fn := Tryz.f98) Tryz.func98 rfl rfl rfl ?_
  refine W.seq (W.region rfl (WO.steps 2 rfl (WO.nil ?_)))
  refine W.seq (W.region rfl (WO.steps 2 rfl (WO.gives (n_W k ys hl) rfl rfl rfl rfl rfl rfl rfl rfl rfl (WO.steps 2 rfl (WO.nil ?_)))))
  refine W.seq (W.region rfl (WO.steps 1 rfl (WO.gives (copyY_W s) rfl rfl rfl rfl rfl rfl rfl rfl rfl (WO.steps 2 rfl (WO.nil ?_)))))
  refine W.seq (W.region rfl (WO.steps 2 rfl (WO.nil ?_)))
  exact W.ret (.ret [_] rfl rfl)
end Go.Proofs.YtjdlmhbkfammlabGreatDoor
namespace Go.Proofs.YtjdlmhbkfammlabGreatDoor
open Go Go.Sh
set_option linter.unusedVariables false
set_option linter.unusedSimpArgs false
set_option maxHeartbeats 4000000
variable {X : CRel}
/-! types out of a deck -/
def tyB : Nat → Nat
  | 0 => 1
  | n + 1 => 1 + tyB n + tyB n
theorem tyB_pos : ∀ n, 1 ≤ tyB n
  | 0 => by decide
  | n + 1 => by unfold tyB; omega
theorem type_W (l : List Int) (hl : l.length ≤ 1000) : ∀ (n : Nat), n ≤ 100 → ∀ i, i ≤ l.length → ∃ (t : Y) (j : Nat), Draws (AC X) l 30 [.int .i64 n] i (.agg (cY t)) j ∧ i ≤ j ∧ j ≤ l.length ∧ t.size ≤ tyB n := by
  intro n
  induction n with
  | zero =>
    intro hn i hi
    suffices h : ∃ rs st', AC X 30 [.vp 0 0, .int .i64 (0 : Nat)] (deck l i) (resOf rs) st' ∧ (∃ (t : Y) (j : Nat), rs = [.agg (cY t)] ∧ st'[0]? = (deck l j)[0]? ∧ i ≤ j ∧ j ≤ l.length ∧ t.size ≤ tyB 0) by
      obtain ⟨rs, st', h1, t, j, rfl, h2, h3⟩ := h; exact ⟨t, j, ⟨st', h1, h2⟩, h3⟩
    refine callW (fn := Tryz.f30) Tryz.func30 rfl rfl rfl ?_
    refine W.seq (W.region rfl (WO.go rfl (WO.nil ?_)))
    have hnx := next_W (X := X) l i 7 hi hl (by decide) (by decide)
    have hv := nextV_lt l i 7 (by decide) (by decide)
    have hj : i ≤ nextI l i ∧ nextI l i ≤ l.length := by unfold nextI; omega
    generalize nextV l i 7 = v at hnx hv
    generalize nextI l i = j at hnx hj
    refine W.seq (W.seq (W.region rfl (WO.go rfl (WO.draws hnx rfl rfl rfl rfl rfl rfl rfl rfl rfl rfl rfl (WO.go rfl (WO.nil ?_))))))
    have hv7 : v = 0 ∨ v = 1 ∨ v = 2 ∨ v = 3 ∨ v = 4 ∨ v = 5 ∨ v = 6 := by omega
    rcases hv7 with rfl | rfl | rfl | rfl | rfl | rfl | rfl
    · repeat (first | refine W.condT rfl ?_ | refine W.condF rfl ?_ | refine W.seq ?_ | refine W.block ?_ | refine W.skip ?_ | refine W.region rfl (WO.go rfl (WO.nil ?_)))
      refine W.region rfl (WO.go rfl (WO.gives nat_W rfl rfl rfl rfl rfl rfl rfl rfl rfl (WO.go rfl (WO.nil (W.ret (.ret [_] rfl ⟨.nat, j, rfl, rfl, hj.1, hj.2, tyB_pos _⟩))))))
    · repeat (first | refine W.condT rfl ?_ | refine W.condF rfl ?_ | refine W.seq ?_ | refine W.block ?_ | refine W.skip ?_ | refine W.region rfl (WO.go rfl (WO.nil ?_)))
      refine W.region rfl (WO.go rfl (WO.gives nat_W rfl rfl rfl rfl rfl rfl rfl rfl rfl (WO.go rfl (WO.nil (W.ret (.ret [_] rfl ⟨.nat, j, rfl, rfl, hj.1, hj.2, tyB_pos _⟩))))))
    · repeat (first | refine W.condT rfl ?_ | refine W.condF rfl ?_ | refine W.seq ?_ | refine W.block ?_ | refine W.skip ?_ | refine W.region rfl (WO.go rfl (WO.nil ?_)))
      refine W.region rfl (WO.go rfl (WO.gives nat_W rfl rfl rfl rfl rfl rfl rfl rfl rfl (WO.go rfl (WO.nil (W.ret (.ret [_] rfl ⟨.nat, j, rfl, rfl, hj.1, hj.2, tyB_pos _⟩))))))
    · repeat (first | refine W.condT rfl ?_ | refine W.condF rfl ?_ | refine W.seq ?_ | refine W.block ?_ | refine W.skip ?_ | refine W.region rfl (WO.go rfl (WO.nil ?_)))
      refine W.region rfl (WO.go rfl (WO.gives list_W rfl rfl rfl rfl rfl rfl rfl rfl rfl (WO.go rfl (WO.nil (W.ret (.ret [_] rfl ⟨.list, j, rfl, rfl, hj.1, hj.2, tyB_pos _⟩))))))
    · repeat (first | refine W.condT rfl ?_ | refine W.condF rfl ?_ | refine W.seq ?_ | refine W.block ?_ | refine W.skip ?_ | refine W.region rfl (WO.go rfl (WO.nil ?_)))
      refine W.region rfl (WO.go rfl (WO.gives unit_W rfl rfl rfl rfl rfl rfl rfl rfl rfl (WO.go rfl (WO.nil (W.ret (.ret [_] rfl ⟨.unit, j, rfl, rfl, hj.1, hj.2, tyB_pos _⟩))))))
    · repeat (first | refine W.condT rfl ?_ | refine W.condF rfl ?_ | refine W.seq ?_ | refine W.block ?_ | refine W.skip ?_ | refine W.region rfl (WO.go rfl (WO.nil ?_)))
      refine W.region rfl (WO.go rfl (WO.gives nat_W rfl rfl rfl rfl rfl rfl rfl rfl rfl (WO.go rfl (WO.nil (W.ret (.ret [_] rfl ⟨.nat, j, rfl, rfl, hj.1, hj.2, tyB_pos _⟩))))))
    · repeat (first | refine W.condT rfl ?_ | refine W.condF rfl ?_ | refine W.seq ?_ | refine W.block ?_ | refine W.skip ?_ | refine W.region rfl (WO.go rfl (WO.nil ?_)))
      refine W.region rfl (WO.go rfl (WO.gives nat_W rfl rfl rfl rfl rfl rfl rfl rfl rfl (WO.go rfl (WO.nil (W.ret (.ret [_] rfl ⟨.nat, j, rfl, rfl, hj.1, hj.2, tyB_pos _⟩))))))
  | succ n ih =>
    intro hn i hi
    suffices h : ∃ rs st', AC X 30 [.vp 0 0, .int .i64 (n + 1 : Nat)] (deck l i) (resOf rs) st' ∧ (∃ (t : Y) (j : Nat), rs = [.agg (cY t)] ∧ st'[0]? = (deck l j)[0]? ∧ i ≤ j ∧ j ≤ l.length ∧ t.size ≤ tyB (n + 1)) by
      obtain ⟨rs, st', h1, t, j, rfl, h2, h3⟩ := h; exact ⟨t, j, ⟨st', h1, h2⟩, h3⟩
    refine callW (fn := Tryz.f30) Tryz.func30 rfl rfl rfl ?_
    refine W.seq (W.region rfl (WO.go rfl (WO.nil ?_)))
    have hnx := next_W (X := X) l i 7 hi hl (by decide) (by decide)
    have hv := nextV_lt l i 7 (by decide) (by decide)
    have hj : i ≤ nextI l i ∧ nextI l i ≤ l.length := by unfold nextI; omega
    generalize nextV l i 7 = v at hnx hv
    generalize nextI l i = j at hnx hj
    refine W.seq (W.seq (W.region rfl (WO.go rfl (WO.draws hnx rfl rfl rfl rfl rfl rfl rfl rfl rfl rfl rfl (WO.go rfl (WO.nil ?_))))))
    have hv7 : v = 0 ∨ v = 1 ∨ v = 2 ∨ v = 3 ∨ v = 4 ∨ v = 5 ∨ v = 6 := by omega
    rcases hv7 with rfl | rfl | rfl | rfl | rfl | rfl | rfl
    · repeat (first | refine W.condT rfl ?_ | refine W.condF rfl ?_ | refine W.seq ?_ | refine W.block ?_ | refine W.skip ?_ | refine W.region rfl (WO.go rfl (WO.nil ?_)))
      refine W.region rfl (WO.go rfl (WO.gives nat_W rfl rfl rfl rfl rfl rfl rfl rfl rfl (WO.go rfl (WO.nil (W.ret (.ret [_] rfl ⟨.nat, j, rfl, rfl, hj.1, hj.2, tyB_pos _⟩))))))
    · repeat (first | refine W.condT rfl ?_ | refine W.condF rfl ?_ | refine W.seq ?_ | refine W.block ?_ | refine W.skip ?_ | refine W.region rfl (WO.go rfl (WO.nil ?_)))
      refine W.region rfl (WO.go rfl (WO.gives nat_W rfl rfl rfl rfl rfl rfl rfl rfl rfl (WO.go rfl (WO.nil (W.ret (.ret [_] rfl ⟨.nat, j, rfl, rfl, hj.1, hj.2, tyB_pos _⟩))))))
    · repeat (first | refine W.condT rfl ?_ | refine W.condF rfl ?_ | refine W.seq ?_ | refine W.block ?_ | refine W.skip ?_ | refine W.region rfl (WO.go rfl (WO.nil ?_)))
      refine W.region rfl (WO.go rfl (WO.gives nat_W rfl rfl rfl rfl rfl rfl rfl rfl rfl (WO.go rfl (WO.nil (W.ret (.ret [_] rfl ⟨.nat, j, rfl, rfl, hj.1, hj.2, tyB_pos _⟩))))))
    · repeat (first | refine W.condT rfl ?_ | refine W.condF rfl ?_ | refine W.seq ?_ | refine W.block ?_ | refine W.skip ?_ | refine W.region rfl (WO.go rfl (WO.nil ?_)))
      refine W.region rfl (WO.go rfl (WO.gives list_W rfl rfl rfl rfl rfl rfl rfl rfl rfl (WO.go rfl (WO.nil (W.ret (.ret [_] rfl ⟨.list, j, rfl, rfl, hj.1, hj.2, tyB_pos _⟩))))))
    · repeat (first | refine W.condT rfl ?_ | refine W.condF rfl ?_ | refine W.seq ?_ | refine W.block ?_ | refine W.skip ?_ | refine W.region rfl (WO.go rfl (WO.nil ?_)))
      refine W.region rfl (WO.go rfl (WO.gives unit_W rfl rfl rfl rfl rfl rfl rfl rfl rfl (WO.go rfl (WO.nil (W.ret (.ret [_] rfl ⟨.unit, j, rfl, rfl, hj.1, hj.2, tyB_pos _⟩))))))
    · repeat (first | refine W.condT rfl ?_ | refine W.condF rfl ?_ | refine W.seq ?_ | refine W.block ?_ | refine W.skip ?_ | refine W.region rfl (WO.go rfl (WO.nil ?_)))
      refine W.cond rfl (fun _ => ?_) (fun h => ?_)
      · obtain ⟨t1, j1, hd1, h11, h12, h13⟩ := ih (by omega) j hj.2
        obtain ⟨t2, j2, hd2, h21, h22, h23⟩ := ih (by omega) j1 h12
        have hw : IntKind.i64.wrap (((n + 1 : Nat) : Int) - 1) = (n : Int) := by rw [wrap_id (by omega) (by omega)]; omega
        refine W.seq (W.region rfl (WO.go rfl (WO.draws hd1 rfl rfl rfl rfl rfl rfl rfl rfl ?_ rfl rfl (WO.go rfl (WO.draws hd2 rfl rfl rfl rfl rfl rfl rfl rfl ?_ rfl rfl (WO.gives (two_W t1 t2) rfl rfl rfl rfl rfl rfl rfl rfl rfl (WO.go rfl (WO.nil (W.ret (.ret [_] rfl ⟨.pair t1 t2, j2, rfl, rfl, by omega, h22, ?_⟩)))))))))) 
        · show [AV.int .i64 (IntKind.i64.wrap (((n + 1 : Nat) : Int) - 1))] = _
          rw [hw]
        · show [AV.int .i64 (IntKind.i64.wrap (((n + 1 : Nat) : Int) - 1))] = _
          rw [hw]
        · show 1 + t1.size + t2.size ≤ 1 + tyB n + tyB n
          omega
      · have h : decide (((n + 1 : Nat) : Int) > 0) = false := h
        simp at h <;> omega
    · repeat (first | refine W.condT rfl ?_ | refine W.condF rfl ?_ | refine W.seq ?_ | refine W.block ?_ | refine W.skip ?_ | refine W.region rfl (WO.go rfl (WO.nil ?_)))
      refine W.cond rfl (fun _ => ?_) (fun h => ?_)
      · obtain ⟨t1, j1, hd1, h11, h12, h13⟩ := ih (by omega) j hj.2
        obtain ⟨t2, j2, hd2, h21, h22, h23⟩ := ih (by omega) j1 h12
        have hw : IntKind.i64.wrap (((n + 1 : Nat) : Int) - 1) = (n : Int) := by rw [wrap_id (by omega) (by omega)]; omega
        refine W.seq (W.region rfl (WO.go rfl (WO.draws hd1 rfl rfl rfl rfl rfl rfl rfl rfl ?_ rfl rfl (WO.go rfl (WO.draws hd2 rfl rfl rfl rfl rfl rfl rfl rfl ?_ rfl rfl (WO.gives (fun_W t1 t2) rfl rfl rfl rfl rfl rfl rfl rfl rfl (WO.go rfl (WO.nil (W.ret (.ret [_] rfl ⟨.fn t1 t2, j2, rfl, rfl, by omega, h22, ?_⟩)))))))))) 
        · show [AV.int .i64 (IntKind.i64.wrap (((n + 1 : Nat) : Int) - 1))] = _
          rw [hw]
        · show [AV.int .i64 (IntKind.i64.wrap (((n + 1 : Nat) : Int) - 1))] = _
          rw [hw]
        · show 1 + t1.size + t2.size ≤ 1 + tyB n + tyB n
          omega
      · have h : decide (((n + 1 : Nat) : Int) > 0) = false := h
        simp at h <;> omega
end Go.Proofs.YtjdlmhbkfammlabGreatDoor
namespace Go.Proofs.YtjdlmhbkfammlabGreatDoor
open Go Go.Sh
set_option linter.unusedVariables false
set_option linter.unusedSimpArgs false
set_option maxHeartbeats 4000000
variable {X : CRel}
/-! closed terms -/
theorem ze_W : Gives (AC X) 77 [.int .i64 4, .sl .no []] (.agg (cT .ze)) := n_W 4 [] (by decide)
theorem lam_W (b : T) : Gives (AC X) 113 [.agg (cT b)] (.agg (cT (.lm .nat b))) := by
  refine givesW (fn := Tryz.f113) Tryz.func113 rfl rfl rfl ?_
  refine W.seq (W.region rfl (WO.go rfl (WO.nil ?_)))
  refine W.seq (W.draw 4 [] rfl (by decide +kernel) rfl (WD.gives nat_W rfl rfl rfl rfl rfl rfl rfl rfl rfl (WD.go rfl (WD.gives (t_W 2 .nat [b] (by simp)) rfl rfl rfl rfl rfl rfl rfl rfl rfl (WD.nil (WO.go rfl (WO.nil ?_)))))))
  exact W.ret (.ret [_] rfl rfl)
theorem rec_W (b f n : T) : Gives (AC X) 114 [.agg (cT b), .agg (cT f), .agg (cT n)] (.agg (cT (.rc .nat b f n))) := by
  refine givesW (fn := Tryz.f114) Tryz.func114 rfl rfl rfl ?_
  refine W.seq (W.region rfl (WO.go rfl (WO.nil ?_)))
  refine W.seq (W.draw 6 [] rfl (by decide +kernel) rfl (WD.gives nat_W rfl rfl rfl rfl rfl rfl rfl rfl rfl (WD.go rfl (WD.gives (t_W 6 .nat [b, f, n] (by simp)) rfl rfl rfl rfl rfl rfl rfl rfl rfl (WD.nil (WO.go rfl (WO.nil ?_)))))))
  exact W.ret (.ret [_] rfl rfl)
theorem var0_W (i : Nat) : Gives (AC X) 97 [.int .i64 ((i : Nat) : Int)] (.agg (cT (.vr i))) := var_W i
def predT : T := .lm .nat (.rc .nat .ze (.lm .nat (.lm .nat (.vr 1))) (.vr 0))
theorem pred_W : Gives (AC X) 37 [] (.agg (cT predT)) := by
  refine givesW (fn := Tryz.f37) Tryz.func37 rfl rfl rfl ?_
  refine W.seq (W.region rfl (WO.go rfl (WO.nil ?_)))
  refine W.seq (W.region rfl (WO.gives ze_W rfl rfl rfl rfl rfl rfl rfl rfl rfl (WO.gives (var_W 1) rfl rfl rfl rfl rfl rfl rfl rfl rfl (WO.gives (lam_W (.vr 1)) rfl rfl rfl rfl rfl rfl rfl rfl rfl (WO.gives (lam_W (.lm .nat (.vr 1))) rfl rfl rfl rfl rfl rfl rfl rfl rfl
    (WO.gives (var_W 0) rfl rfl rfl rfl rfl rfl rfl rfl rfl (WO.gives (rec_W .ze (.lm .nat (.lm .nat (.vr 1))) (.vr 0)) rfl rfl rfl rfl rfl rfl rfl rfl rfl (WO.gives (lam_W (.rc .nat .ze (.lm .nat (.lm .nat (.vr 1))) (.vr 0))) rfl rfl rfl rfl rfl rfl rfl rfl rfl (WO.go rfl (WO.nil ?_))))))))))
  exact W.ret (.ret [_] rfl rfl)
def plusT : T := .lm .nat (.lm .nat (.rc .nat (.vr 1) (.lm .nat (.lm .nat (.su (.vr 0)))) (.vr 0)))
theorem plus_W : Gives (AC X) 39 [] (.agg (cT plusT)) := by
  refine givesW (fn := Tryz.f39) Tryz.func39 rfl rfl rfl ?_
  refine W.seq (W.region rfl (WO.go rfl (WO.nil ?_)))
  have hsu : Gives (AC X) 77 [.int .i64 5, .sl .no [cT (.vr 0)]] (.agg (cT (.su (.vr 0)))) := n_W 5 [.vr 0] (by simp)
  refine W.seq (W.region rfl (WO.gives (var_W 1) rfl rfl rfl rfl rfl rfl rfl rfl rfl (WO.gives (var_W 0) rfl rfl rfl rfl rfl rfl rfl rfl rfl (WO.go rfl (WO.gives hsu rfl rfl rfl rfl rfl rfl rfl rfl rfl (WO.gives (lam_W (.su (.vr 0))) rfl rfl rfl rfl rfl rfl rfl rfl rfl (WO.gives (lam_W (.lm .nat (.su (.vr 0)))) rfl rfl rfl rfl rfl rfl rfl rfl rfl (WO.gives (var_W 0) rfl rfl rfl rfl rfl rfl rfl rfl rfl (WO.gives (rec_W (.vr 1) (.lm .nat (.lm .nat (.su (.vr 0)))) (.vr 0)) rfl rfl rfl rfl rfl rfl rfl rfl rfl (WO.gives (lam_W (.rc .nat (.vr 1) (.lm .nat (.lm .nat (.su (.vr 0)))) (.vr 0))) rfl rfl rfl rfl rfl rfl rfl rfl rfl (WO.gives (lam_W (.lm .nat (.rc .nat (.vr 1) (.lm .nat (.lm .nat (.su (.vr 0)))) (.vr 0)))) rfl rfl rfl rfl rfl rfl rfl rfl rfl (WO.go rfl (WO.nil ?_)))))))))))))
  exact W.ret (.ret [_] rfl rfl)
def subT : T := .lm .nat (.lm .nat (.rc .nat (.vr 1) (.lm .nat (.lm .nat (.ap predT (.vr 0)))) (.vr 0)))
theorem sub_W : Gives (AC X) 43 [] (.agg (cT subT)) := by
  refine givesW (fn := Tryz.f43) Tryz.func43 rfl rfl rfl ?_
  refine W.seq (W.region rfl (WO.go rfl (WO.nil ?_)))
  have hap : Gives (AC X) 77 [.int .i64 3, .sl .no [cT predT, cT (.vr 0)]] (.agg (cT (.ap predT (.vr 0)))) := n_W 3 [predT, .vr 0] (by simp)
  refine W.seq (W.region rfl (WO.gives (var_W 1) rfl rfl rfl rfl rfl rfl rfl rfl rfl (WO.gives pred_W rfl rfl rfl rfl rfl rfl rfl rfl rfl (WO.gives (var_W 0) rfl rfl rfl rfl rfl rfl rfl rfl rfl (WO.go rfl (WO.gives hap rfl rfl rfl rfl rfl rfl rfl rfl rfl (WO.gives (lam_W (.ap predT (.vr 0))) rfl rfl rfl rfl rfl rfl rfl rfl rfl (WO.gives (lam_W (.lm .nat (.ap predT (.vr 0)))) rfl rfl rfl rfl rfl rfl rfl rfl rfl (WO.gives (var_W 0) rfl rfl rfl rfl rfl rfl rfl rfl rfl (WO.gives (rec_W (.vr 1) (.lm .nat (.lm .nat (.ap predT (.vr 0)))) (.vr 0)) rfl rfl rfl rfl rfl rfl rfl rfl rfl (WO.gives (lam_W (.rc .nat (.vr 1) (.lm .nat (.lm .nat (.ap predT (.vr 0)))) (.vr 0))) rfl rfl rfl rfl rfl rfl rfl rfl rfl (WO.gives (lam_W (.lm .nat (.rc .nat (.vr 1) (.lm .nat (.lm .nat (.ap predT (.vr 0)))) (.vr 0)))) rfl rfl rfl rfl rfl rfl rfl rfl rfl (WO.go rfl (WO.nil ?_))))))))))))))
  exact W.ret (.ret [_] rfl rfl)
/-! numerals -/
noncomputable abbrev loopNum : Code := codeAt ((Tryz.f107).body.getD .skip) [1, 1, 0, 0, 0]
theorem numeral_loop {Q : AX → Fr → Prop} : ∀ (k j : Nat) (b : Nat → AV), k ≤ 1000000000 → (∀ b, Q (.exit 0) (Fr.at b [(2, .vp 0 0), (3, .vp 1 0)] [some z37, some (cT (num (j + k)))] 0)) →
    W TT G0 (AC X) 13 0 (.loop loopNum) Q (Fr.at b [(0, .int .i64 k), (2, .vp 0 0), (3, .vp 1 0)] [some z37, some (cT (num j))] 0)
  | 0, j, b, _, hQ => by
    refine W.loop (W.seq (W.seq (W.region rfl (WO.go rfl (WO.nil (W.condF rfl (W.exit ?_)))))))
    exact Fr.at_intro [(2, .vp 0 0), (3, .vp 1 0)] _ 0 ⟨rfl, rfl, trivial⟩ rfl rfl hQ
  | k + 1, j, b, hk, hQ => by
    refine W.loop (W.seq (W.seq (W.region rfl (WO.go rfl (WO.nil (W.cond rfl (fun _ => W.skip ?_) (fun h => ?_)))))))
    · refine W.seq (W.block (W.region rfl (WO.go rfl (WO.nil ?_))))
      refine W.region rfl (WO.go rfl (WO.nil ?_))
      refine W.tidy 2 0 [] rfl rfl (W.plain 1 ?_)
      refine W.at [(0, .int .i64 k), (2, .vp 0 0), (3, .vp 1 0)] [some z37, some (cT (num (j + 1)))] 0 ⟨?_, rfl, rfl, trivial⟩ rfl rfl (fun b => ?_)
      · show AV.int .i64 (IntKind.i64.wrap (((k + 1 : Nat) : Int) - 1)) = _
        rw [wrap_id (by omega) (by omega)]
        congr 1; omega
      · exact numeral_loop k (j + 1) b (by omega) (fun b => by have := hQ b; rw [show j + (k + 1) = j + 1 + k by omega] at this; exact this)
    · have h : decide (((k + 1 : Nat) : Int) > 0) = false := h
      simp at h <;> omega
theorem numeral_W (n : Nat) (hn : n ≤ 1000000000) : Gives (AC X) 107 [.int .i64 n] (.agg (cT (num n))) := by
  refine givesW (fn := Tryz.f107) Tryz.func107 rfl rfl rfl ?_
  refine W.seq (W.region rfl (WO.go rfl (WO.nil ?_)))
  refine W.seq (W.region rfl (WO.gives ze_W rfl rfl rfl rfl rfl rfl rfl rfl rfl (WO.go rfl (WO.nil ?_))))
  refine W.seq (W.block (W.tidy 2 0 [] rfl rfl (W.plain 1 ?_)))
  refine W.at [(0, .int .i64 n), (2, .vp 0 0), (3, .vp 1 0)] [some z37, some (cT (num 0))] 0 ⟨rfl, rfl, rfl, trivial⟩ rfl rfl (fun b => ?_)
  refine numeral_loop n 0 b hn (fun b => ?_)
  rw [Nat.zero_add]
  refine W.seq (W.region rfl (WO.go rfl (WO.nil ?_)))
  exact W.ret (.ret [.agg (cT (num n))] rfl rfl)
theorem number_W (n : Nat) (hn : n < 4096) : Gives (AC X) 35 [.int .i64 n] (.tup [.agg (cT (num n)), .int .i64 0]) := by
  refine givesW (fn := Tryz.f35) Tryz.func35 rfl rfl rfl ?_
  refine W.seq (W.region rfl (WO.go rfl (WO.nil ?_)))
  refine W.seq (W.seq (W.region rfl (WO.go rfl (WO.nil (W.cond rfl (fun h => ?_) (fun _ => W.skip ?_))))))
  · have h : decide ((n : Int) < 0) = true := h
    simp at h <;> omega
  refine W.seq (W.seq (W.region rfl (WO.go rfl (WO.nil (W.cond rfl (fun h => ?_) (fun _ => W.skip ?_))))))
  · have h : decide ((n : Int) ≥ 4096) = true := h
    simp at h <;> omega
  refine W.seq (W.region rfl (WO.go rfl (WO.gives (numeral_W n (by omega)) rfl rfl rfl rfl rfl rfl rfl rfl rfl (WO.go rfl (WO.nil ?_)))))
  exact W.ret (.ret [.agg (cT (num n)), .int .i64 0] rfl rfl)
theorem num_W (n : Nat) (hn : n < 4096) : Gives (AC X) 64 [.int .i64 n] (.agg (cT (num n))) := by
  refine givesW (fn := Tryz.f64) Tryz.func64 rfl rfl rfl ?_
  refine W.seq (W.region rfl (WO.go rfl (WO.nil ?_)))
  refine W.seq (W.region rfl (WO.go rfl (WO.givesT (number_W n hn) rfl rfl rfl rfl rfl rfl rfl rfl rfl (WO.go rfl (WO.nil ?_)))))
  refine W.seq (W.region rfl (WO.go rfl (WO.nil ?_)))
  exact W.ret (.ret [.agg (cT (num n))] rfl rfl)
end Go.Proofs.YtjdlmhbkfammlabGreatDoor
namespace Go.Proofs.YtjdlmhbkfammlabGreatDoor
open Go Go.Sh
set_option linter.unusedVariables false
set_option linter.unusedSimpArgs false
set_option maxHeartbeats 4000000
variable {X : CRel}
/-! are two types the same -/
noncomputable abbrev loopSameY : Code := codeAt ((Tryz.f25).body.getD .skip) [1, 1, 0, 1, 0, 0]
theorem sameY_loop {Q : AX → Fr → Prop} (ka kb : Int) (xs0 ys0 : List Y) (hl : xs0.length = ys0.length) (hn : xs0.length ≤ 1000000) : ∀ (xs ys px py : List Y) (b : Nat → AV), xs0 = px ++ xs → ys0 = py ++ ys → px.length = py.length →
    (∀ a ∈ xs, ∀ c, Gives (AC X) 25 [.agg (cY a), .agg (cY c)] (.bool (a.same c))) →
    (sameL xs ys = true → ∀ fr, fr.st = [some [.int .i64 ka, .sl .no (xs0.map cY)], some [.int .i64 kb, .sl .no (ys0.map cY)]] → Q (.exit 0) fr) → (sameL xs ys = false → ∀ fr, fr.tm 4 = .bool false → Q .ret fr) →
    W TT G0 (AC X) 39 0 (.loop loopSameY) Q (Fr.at b [(2, .vp 0 0), (3, .vp 1 0), (22, .int .i64 xs0.length), (23, .int .i64 px.length)] [some [.int .i64 ka, .sl .no (xs0.map cY)], some [.int .i64 kb, .sl .no (ys0.map cY)]] 0)
  | [], ys, px, py, b, he, he2, hp, _, hQ, _ => by
    rw [List.append_nil] at he; subst he
    refine W.loop (W.seq (W.region rfl (WO.go rfl (WO.nil (W.seq (W.cond rfl (fun h => ?_) (fun _ => W.exit ?_)))))))
    · have h : decide ((xs0.length : Int) < (xs0.length : Int)) = true := h
      simp at h
    · exact hQ (by cases ys <;> rfl) _ rfl
  | a :: xs, [], px, py, b, he, he2, hp, _, _, _ => by
    rw [he, he2] at hl; simp at hl; omega
  | a :: xs, c :: ys, px, py, b, he, he2, hp, hg, hQ, hQ2 => by
    have hlen : px.length < xs0.length := by rw [he]; simp
    have hix : (xs0.map cY)[((px.length : Nat) : Int).toNat]? = some (cY a) := by rw [Int.toNat_natCast, he]; simp
    have hiy : (ys0.map cY)[((px.length : Nat) : Int).toNat]? = some (cY c) := by rw [Int.toNat_natCast, he2, hp]; simp
    have hwr : IntKind.i64.wrap ((px.length : Int) + 1) = ((px ++ [a]).length : Int) := by rw [wrap_id (by omega) (by omega)]; simp
    refine W.loop (W.seq (W.region rfl (WO.go rfl (WO.nil (W.seq (W.cond rfl (fun _ => W.skip ?_) (fun h => ?_)))))))
    · refine W.seq (W.block (W.seq (W.region rfl (WO.go rfl (WO.nil ?_)))))
      refine W.seq (W.draw 12 [] rfl (by decide +kernel) rfl (WD.steps 3 rfl (WD.index (row := cY a) (Int.natCast_nonneg _) hix rfl rfl rfl rfl rfl rfl rfl rfl rfl rfl (WD.steps 4 rfl (WD.index (row := cY c) (Int.natCast_nonneg _) hiy rfl rfl rfl rfl rfl rfl rfl rfl rfl rfl (WD.steps 1 rfl
        (WD.gives (hg a (by simp) c) rfl rfl rfl rfl rfl rfl rfl rfl rfl (WD.go rfl (WD.nil (WO.nil ?_))))))))))
      cases hs : a.same c with
      | false =>
        refine W.condT rfl (W.seq (W.region rfl (WO.go rfl (WO.nil (W.ret ?_)))))
        exact hQ2 (by simp [sameL, hs]) _ rfl
      | true =>
        refine W.condF rfl (W.skip (W.region rfl (WO.go rfl (WO.nil ?_))))
        refine W.tidy 2 0 [] rfl rfl ?_
        refine W.at [(2, .vp 0 0), (3, .vp 1 0), (22, .int .i64 xs0.length), (23, .int .i64 ((px ++ [a]).length : Nat))] _ 0 ⟨rfl, rfl, rfl, ?_, trivial⟩ rfl rfl (fun b => ?_)
        · show AV.int .i64 (IntKind.i64.wrap ((px.length : Int) + 1)) = _
          rw [hwr]
        · exact sameY_loop ka kb xs0 ys0 hl hn xs ys (px ++ [a]) (py ++ [c]) b (by simp [he]) (by simp [he2]) (by simp [hp]) (fun x hx => hg x (by simp [hx])) (fun h => hQ (by simp [sameL, hs, h])) (fun h => hQ2 (by simp [sameL, hs, h]))
    · have h : decide ((px.length : Int) < (xs0.length : Int)) = false := h
      simp at h; omega
theorem sameY_W (a : Y) : ∀ c : Y, Gives (AC X) 25 [.agg (cY a), .agg (cY c)] (.bool (a.same c)) := by
  induction a using Y.ind with
  | h a ih =>
    intro c
    have hra := rY_args a
    have hrc := rY_args c
    show Gives (AC X) _ [.agg [.int .i64 (kY a), .sl .no (rY a)], .agg [.int .i64 (kY c), .sl .no (rY c)]] _
    rw [hra, hrc]
    refine givesW (fn := Tryz.f25) Tryz.func25 rfl rfl rfl ?_
    refine W.seq (W.region rfl (WO.go rfl (WO.nil ?_)))
    refine W.seq (W.seq (W.region rfl (WO.steps 5 rfl ?_)))
    by_cases hk : kY a = kY c
    · obtain ⟨hsame, hlen⟩ := Y.same_eq a c hk
      have h1 : (kY a != kY c) = false := by simp [hk]
      rw [h1]
      refine WO.steps 8 rfl ?_
      have h2 : ((((a.args.map cY).length : Nat) : Int) != (((c.args.map cY).length : Nat) : Int)) = false := by simp [hlen]
      rw [h2]
      refine WO.go rfl (WO.nil (W.condF rfl (W.skip ?_)))
      refine W.seq (W.seq (W.region rfl (WO.go rfl (WO.nil ?_))))
      refine W.block (W.at [(2, .vp 0 0), (3, .vp 1 0), (22, .int .i64 a.args.length), (23, .int .i64 (([] : List Y).length : Nat))] _ 0 ⟨rfl, rfl, ?_, rfl, trivial⟩ rfl rfl (fun b => ?_))
      · show AV.int .i64 ((a.args.map cY).length : Nat) = _
        rw [List.length_map]
      · refine sameY_loop (kY a) (kY c) a.args c.args hlen (Nat.le_trans a.args_len (by decide)) a.args c.args [] [] b rfl rfl rfl ih (fun h fr hst => ?_) (fun h fr h4 => ?_)
        · refine W.at [] _ fr.nid trivial hst rfl (fun b => ?_)
          refine W.seq (W.region rfl (WO.go rfl (WO.nil ?_)))
          exact W.ret (.ret [.bool true] rfl (by rw [hsame, h]; rfl))
        · exact .ret [.bool false] (by show [some (fr.tm 4).st] = _; rw [h4]; rfl) (by rw [hsame, h]; rfl)
    · have h1 : (kY a != kY c) = true := by simp [hk]
      rw [h1]
      refine WO.go rfl (WO.nil (W.condT rfl ?_))
      refine W.seq (W.region rfl (WO.go rfl (WO.nil ?_)))
      exact W.ret (.ret [.bool false] rfl (by rw [Y.same_ne a c hk]; rfl))
end Go.Proofs.YtjdlmhbkfammlabGreatDoor
namespace Go.Proofs.YtjdlmhbkfammlabGreatDoor
open Go Go.Sh
set_option linter.unusedVariables false
set_option linter.unusedSimpArgs false
set_option maxHeartbeats 4000000
variable {X : CRel}
/-- a context with more types behind it -/
theorem longer_W (g l : List Y) (hg : g.length ≤ 100000) (hl : l.length ≤ 100000) : Gives (AC X) 99 [.sl .no (g.map cY), .sl .no (l.map cY)] (.sl .no ((g ++ l).map cY)) := by
  refine givesW (fn := Tryz.f99) Tryz.func99 rfl rfl rfl ?_
  refine W.seq (W.region rfl (WO.go rfl (WO.nil ?_)))
  rw [List.map_append]
  cases g with
  | nil =>
    cases l with
    | nil =>
      refine W.seq (W.region rfl (WO.steps 1 rfl (WO.append0 rfl rfl rfl rfl rfl rfl rfl rfl rfl (WO.steps 1 rfl (WO.append0 rfl rfl rfl rfl rfl rfl rfl rfl rfl (WO.go rfl (WO.nil ?_)))))))
      exact W.ret (.ret [_] rfl rfl)
    | cons y l =>
      have hb : (l.map cY).length ≤ 100000 := by simp at hl ⊢; omega
      refine W.seq (W.region rfl (WO.steps 1 rfl (WO.append0 rfl rfl rfl rfl rfl rfl rfl rfl rfl (WO.steps 1 rfl (WO.appendF (rows2 := cY y :: l.map cY) (by simp) (Lens.nil _) (Lens.cons rfl (Lens.map (fun _ => rfl))) (show (0 + ((l.map cY).length + 1)) * 32 ≤ _ by omega) (show 0 + ((l.map cY).length + 1) ≤ _ by omega) rfl rfl rfl rfl rfl rfl rfl rfl rfl rfl (WO.go rfl (WO.nil ?_)))))))
      exact W.ret (.ret [_] rfl rfl)
  | cons x g =>
    have hc : (g.map cY).length ≤ 100000 := by simp at hg ⊢; omega
    cases l with
    | nil =>
      refine W.seq (W.region rfl (WO.steps 1 rfl (WO.appendF (rows := []) (rows2 := cY x :: g.map cY) (by simp) (Lens.nil _) (Lens.cons rfl (Lens.map (fun _ => rfl))) (show (0 + ((g.map cY).length + 1)) * 32 ≤ _ by omega) (show 0 + ((g.map cY).length + 1) ≤ _ by omega) rfl rfl rfl rfl rfl rfl rfl rfl rfl rfl (WO.steps 1 rfl (WO.append0 rfl rfl rfl rfl rfl rfl rfl rfl rfl (WO.go rfl (WO.nil ?_)))))))
      exact W.ret (.ret [.sl .no (cY x :: g.map cY)] rfl (by simp [resOf]))
    | cons y l =>
      have hb : (l.map cY).length ≤ 100000 := by simp at hl ⊢; omega
      refine W.seq (W.region rfl (WO.steps 1 rfl (WO.appendF (rows := []) (rows2 := cY x :: g.map cY) (by simp) (Lens.nil _) (Lens.cons rfl (Lens.map (fun _ => rfl))) (show (0 + ((g.map cY).length + 1)) * 32 ≤ _ by omega) (show 0 + ((g.map cY).length + 1) ≤ _ by omega) rfl rfl rfl rfl rfl rfl rfl rfl rfl rfl (WO.steps 1 rfl (WO.appendI (rows := cY x :: g.map cY) (rows2 := cY y :: l.map cY) (by simp) (Lens.cons rfl (Lens.map (fun _ => rfl))) (show (((g.map cY).length + 1) + ((l.map cY).length + 1)) * 32 ≤ _ by omega) (show ((g.map cY).length + 1) + ((l.map cY).length + 1) ≤ _ by omega) rfl rfl rfl rfl rfl rfl rfl rfl rfl rfl (WO.go rfl (WO.nil ?_)))))))
      exact W.ret (.ret [.sl .no ((cY x :: g.map cY) ++ (cY y :: l.map cY))] rfl rfl)
/-! applications -/
def appT : T → List T → T
  | f, [] => f
  | f, a :: l => appT (.ap f a) l
noncomputable abbrev loopApp : Code := codeAt ((Tryz.f100).body.getD .skip) [1, 0, 1, 0, 0]
theorem app_loop {Q : AX → Fr → Prop} (all : List T) (hn : all.length ≤ 1000000) : ∀ (ys pre : List T) (f : T) (b : Nat → AV), all = pre ++ ys →
    (∀ b, Q (.exit 0) (Fr.at b [(2, .vp 0 0), (4, .vp 1 0)] [some (cT (appT f ys)), some z37] 0)) →
    W TT G0 (AC X) 19 0 (.loop loopApp) Q (Fr.at b [(2, .vp 0 0), (4, .vp 1 0), (7, .sl .no (all.map cT)), (8, .int .i64 all.length), (9, .int .i64 pre.length)] [some (cT f), some z37] 0)
  | [], pre, f, b, he, hQ => by
    rw [List.append_nil] at he; subst he
    refine W.loop (W.seq (W.region rfl (WO.go rfl (WO.nil (W.seq (W.cond rfl (fun h => ?_) (fun _ => W.exit ?_)))))))
    · have h : decide ((all.length : Int) < (all.length : Int)) = true := h
      simp at h
    · exact Fr.at_intro [(2, .vp 0 0), (4, .vp 1 0)] _ _ ⟨rfl, rfl, trivial⟩ rfl rfl hQ
  | a :: ys, pre, f, b, he, hQ => by
    have hlen : pre.length < all.length := by rw [he]; simp
    have hix : (all.map cT)[((pre.length : Nat) : Int).toNat]? = some (cT a) := by
      rw [Int.toNat_natCast, he]; simp
    have hwr : IntKind.i64.wrap ((pre.length : Int) + 1) = ((pre ++ [a]).length : Int) := by
      rw [wrap_id (by omega) (by omega)]; simp
    have hap : Gives (AC X) 77 [.int .i64 3, .sl .no [cT f, cT a]] (.agg (cT (.ap f a))) := n_W 3 [f, a] (by simp)
    refine W.loop (W.seq (W.region rfl (WO.go rfl (WO.nil (W.seq (W.cond rfl (fun _ => W.skip ?_) (fun h => ?_)))))))
    · refine W.seq (W.block (W.seq (W.region rfl (WO.index (row := cT a) (Int.natCast_nonneg _) hix rfl rfl rfl rfl rfl rfl rfl rfl rfl rfl (WO.go rfl (WO.nil ?_))))))
      refine W.region rfl (WO.go rfl (WO.gives hap rfl rfl rfl rfl rfl rfl rfl rfl rfl (WO.go rfl (WO.nil ?_))))
      refine W.region rfl (WO.go rfl (WO.nil ?_))
      refine W.tidy 2 0 [] rfl rfl ?_
      refine W.at [(2, .vp 0 0), (4, .vp 1 0), (7, .sl .no (all.map cT)), (8, .int .i64 all.length), (9, .int .i64 ((pre ++ [a]).length : Nat))] [some (cT (.ap f a)), some z37] 0 ⟨rfl, rfl, rfl, rfl, ?_, trivial⟩ rfl rfl (fun b => ?_)
      · show AV.int .i64 (IntKind.i64.wrap ((pre.length : Int) + 1)) = _
        rw [hwr]
      · exact app_loop all hn ys (pre ++ [a]) (.ap f a) b (by simp [he]) hQ
    · have h : decide ((pre.length : Int) < (all.length : Int)) = false := h
      simp at h; omega
theorem app_W (f : T) (ys : List T) (hl : ys.length ≤ 1000000) : Gives (AC X) 100 [.agg (cT f), .sl .no (ys.map cT)] (.agg (cT (appT f ys))) := by
  refine givesW (fn := Tryz.f100) Tryz.func100 rfl rfl rfl ?_
  refine W.seq (W.region rfl (WO.go rfl (WO.nil ?_)))
  refine W.seq (W.seq (W.region rfl (WO.go rfl (WO.nil ?_))))
  refine W.block (W.at [(2, .vp 0 0), (4, .vp 1 0), (7, .sl .no (ys.map cT)), (8, .int .i64 ys.length), (9, .int .i64 (([] : List T).length : Nat))] [some (cT f), some z37] 0 ⟨rfl, rfl, rfl, ?_, rfl, trivial⟩ rfl rfl (fun b => ?_))
  · show AV.int .i64 ((ys.map cT).length : Nat) = _
    rw [List.length_map]
  · refine app_loop ys hl ys [] f b rfl (fun b => ?_)
    refine W.seq (W.region rfl (WO.go rfl (WO.nil ?_)))
    exact W.ret (.ret [.agg (cT (appT f ys))] rfl rfl)
end Go.Proofs.YtjdlmhbkfammlabGreatDoor
namespace Go.Proofs.YtjdlmhbkfammlabGreatDoor
open Go Go.Sh
set_option linter.unusedVariables false
set_option linter.unusedSimpArgs false
set_option maxHeartbeats 4000000
variable {X : CRel}
/-! variables of a type -/
abbrev eI : Nat := 3
def idx (l : List Nat) : List (List AV) := l.map fun (i : Nat) => [.int .i64 (i : Int)]
def isVar (g : List Y) (t : Y) (i : Nat) : Bool := match g[g.length - 1 - i]? with
  | some s => s.same t
  | none => false
def varsF (g : List Y) (t : Y) (n : Nat) : List Nat := (List.range n).filter (isVar g t)
theorem varsF_len (g : List Y) (t : Y) (n : Nat) : (varsF g t n).length ≤ n := Nat.le_trans (List.length_filter_le _ _) (by simp)
noncomputable abbrev loopVars : Code := codeAt ((Tryz.f96).body.getD .skip) [1, 1, 0, 1, 0, 0]
theorem vars_loop {Q : AX → Fr → Prop} (g : List Y) (t : Y) (hn : g.length ≤ 1000000) : ∀ (k i : Nat) (b : Nat → AV), i + k = g.length →
    (∀ b, Q (.exit 0) (Fr.at b [(5, gat eI (idx (varsF g t g.length)))] [some (cY t)] (gatN (idx (varsF g t g.length))))) →
    W TT G0 (AC X) 28 0 (.loop loopVars) Q (Fr.at b [(0, .sl .no (g.map cY)), (3, .vp 0 0), (5, gat eI (idx (varsF g t i))), (8, .int .i64 g.length), (9, .int .i64 i)] [some (cY t)] (gatN (idx (varsF g t i))))
  | 0, i, b, he, hQ => by
    obtain rfl : i = g.length := he
    refine W.loop (W.seq (W.region rfl (WO.go rfl (WO.nil (W.seq (W.cond rfl (fun h => ?_) (fun _ => W.exit ?_)))))))
    · have h : decide ((g.length : Int) < (g.length : Int)) = true := h
      simp at h
    · exact Fr.at_intro [(5, gat eI (idx (varsF g t g.length)))] _ _ ⟨rfl, trivial⟩ rfl rfl hQ
  | k + 1, i, b, he, hQ => by
    have hlen : i < g.length := by omega
    have hx : g[g.length - 1 - i]? = some g[g.length - 1 - i] := List.getElem?_eq_getElem (by omega)
    generalize g[g.length - 1 - i] = s at hx
    have hin : IntKind.i64.wrap (IntKind.i64.wrap (((g.map cY).length : Int) - 1) - (i : Int)) = ((g.length - 1 - i : Nat) : Int) := by
      rw [List.length_map, wrap_id (n := (g.length : Int) - 1) (by omega) (by omega), wrap_id (by omega) (by omega)]; omega
    have hwr : IntKind.i64.wrap ((i : Int) + 1) = ((i + 1 : Nat) : Int) := by rw [wrap_id (by omega) (by omega)]; omega
    have hvl := varsF_len g t i
    refine W.loop (W.seq (W.region rfl (WO.go rfl (WO.nil (W.seq (W.cond rfl (fun _ => W.skip ?_) (fun h => ?_)))))))
    · refine W.seq (W.block (W.seq (W.region rfl (WO.go rfl (WO.nil ?_)))))
      refine W.seq (W.draw 10 [] rfl (by decide +kernel) rfl (WD.steps 6 rfl (WD.index (row := cY s) (n := IntKind.i64.wrap (IntKind.i64.wrap (((g.map cY).length : Int) - 1) - (i : Int))) ?_ ?_ rfl rfl rfl rfl rfl rfl rfl rfl rfl rfl (WD.steps 2 rfl (WD.gives (sameY_W s t) rfl rfl rfl rfl rfl rfl rfl rfl rfl (WD.nil (WO.nil ?_)))))))
      · rw [hin]; exact Int.natCast_nonneg _
      · rw [hin, Int.toNat_natCast, List.getElem?_map, hx]; rfl
      · cases hs : s.same t with
        | false =>
          have hv : varsF g t (i + 1) = varsF g t i := by
            unfold varsF; rw [List.range_succ, List.filter_append]; simp [isVar, hx, hs]
          refine W.condF rfl (W.skip (W.region rfl (WO.go rfl (WO.nil ?_))))
          refine W.tidy 1 (gatN (idx (varsF g t (i + 1)))) (match varsF g t i with | [] => [] | _ => [(0, 0)]) rfl ?_ ?_
          · rw [hv]; cases varsF g t i <;> rfl
          · refine W.at [(0, .sl .no (g.map cY)), (3, .vp 0 0), (5, gat eI (idx (varsF g t (i + 1)))), (8, .int .i64 g.length), (9, .int .i64 ((i + 1 : Nat) : Int))] _ _ ⟨rfl, rfl, ?_, rfl, ?_, trivial⟩ rfl rfl (fun b => vars_loop g t hn k (i + 1) b (by omega) hQ)
            · rw [hv]
              generalize varsF g t i = z
              cases z <;> rfl
            · show AV.int .i64 (IntKind.i64.wrap ((i : Int) + 1)) = _
              rw [hwr]
        | true =>
          have hv : varsF g t (i + 1) = varsF g t i ++ [i] := by
            unfold varsF; rw [List.range_succ, List.filter_append]; simp [isVar, hx, hs]
          have hrec := vars_loop (Q := Q) g t hn k (i + 1)
          rw [hv] at hrec
          generalize varsF g t i = z at hvl hrec ⊢
          refine W.condT rfl ?_
          cases z with
          | nil =>
            refine W.region rfl (WO.steps 3 rfl (WO.appendF (rows := []) (rows2 := [[.int .i64 (i : Int)]]) (by simp) (Lens.nil _) (Lens.cons rfl (Lens.nil _)) (by simp) (by simp) rfl rfl rfl rfl rfl rfl rfl rfl rfl rfl (WO.go rfl (WO.nil ?_))))
            refine W.region rfl (WO.go rfl (WO.nil ?_))
            refine W.tidy 1 1 [(1, 0)] rfl rfl ?_
            refine W.at [(0, .sl .no (g.map cY)), (3, .vp 0 0), (5, gat eI (idx [i])), (8, .int .i64 g.length), (9, .int .i64 ((i + 1 : Nat) : Int))] _ _ ⟨rfl, rfl, rfl, rfl, ?_, trivial⟩ rfl rfl (fun b => hrec b (by omega) hQ)
            show AV.int .i64 (IntKind.i64.wrap ((i : Int) + 1)) = _
            rw [hwr]
          | cons p z =>
            have hb1 : (idx (p :: z)).length ≤ 1000000 := by simp [idx] at hvl ⊢; omega
            refine W.region rfl (WO.steps 3 rfl (WO.appendI (rows := idx (p :: z)) (rows2 := [[.int .i64 (i : Int)]]) (by simp) (Lens.cons rfl (Lens.nil _)) (show ((idx (p :: z)).length + 1) * 8 ≤ _ by omega) (show (idx (p :: z)).length + 1 ≤ _ by omega) rfl rfl rfl rfl rfl rfl rfl rfl rfl rfl (WO.go rfl (WO.nil ?_))))
            refine W.region rfl (WO.go rfl (WO.nil ?_))
            refine W.tidy 1 1 [(2, 0)] rfl rfl ?_
            refine W.at [(0, .sl .no (g.map cY)), (3, .vp 0 0), (5, gat eI (idx (p :: z ++ [i]))), (8, .int .i64 g.length), (9, .int .i64 ((i + 1 : Nat) : Int))] _ _ ⟨rfl, rfl, ?_, rfl, ?_, trivial⟩ rfl rfl (fun b => hrec b (by omega) hQ)
            · show AV.sl (.id 0 eI) (idx (p :: z) ++ [[.int .i64 (i : Int)]]) = AV.sl (.id 0 eI) (idx (p :: z ++ [i]))
              unfold idx; rw [List.map_append]; rfl
            · show AV.int .i64 (IntKind.i64.wrap ((i : Int) + 1)) = _
              rw [hwr]
    · have h : decide ((i : Int) < (g.length : Int)) = false := h
      simp at h; omega
theorem vars_W (g : List Y) (t : Y) (hn : g.length ≤ 1000000) : Gives (AC X) 96 [.sl .no (g.map cY), .agg (cY t)] (.sl .no (idx (varsF g t g.length))) := by
  refine givesW (fn := Tryz.f96) Tryz.func96 rfl rfl rfl ?_
  refine W.seq (W.region rfl (WO.go rfl (WO.nil ?_)))
  refine W.seq (W.region rfl (WO.go rfl (WO.nil ?_)))
  refine W.seq (W.seq (W.region rfl (WO.go rfl (WO.nil ?_))))
  refine W.block (W.at [(0, .sl .no (g.map cY)), (3, .vp 0 0), (5, gat eI (idx (varsF g t 0))), (8, .int .i64 g.length), (9, .int .i64 ((0 : Nat) : Int))] [some (cY t)] 0 ⟨rfl, rfl, rfl, ?_, rfl, trivial⟩ rfl rfl (fun b => ?_))
  · show AV.int .i64 ((g.map cY).length : Nat) = _
    rw [List.length_map]
  · refine vars_loop g t hn g.length 0 b (by omega) (fun b => ?_)
    obtain ⟨o, ho⟩ := gat_sl eI (idx (varsF g t g.length))
    rw [ho]
    refine W.seq (W.region rfl (WO.go rfl (WO.nil ?_)))
    exact W.ret (.ret [.sl .no (idx (varsF g t g.length))] (by cases o <;> rfl) rfl)
end Go.Proofs.YtjdlmhbkfammlabGreatDoor
namespace Go.Proofs.YtjdlmhbkfammlabGreatDoor
open Go Go.Sh
set_option linter.unusedVariables false
set_option linter.unusedSimpArgs false
set_option maxHeartbeats 4000000
variable {X : CRel}
/-! make.Term: a typed term -/
theorem num_ht {m : Nat} {G : List Y} : ∀ n, HT m G (num n) .nat
  | 0 => .ze
  | n + 1 => .su (num_ht n)
theorem num_size : ∀ n, (num n).size = n + 1
  | 0 => rfl
  | n + 1 => by simp only [num, T.size, num_size n]; omega
theorem num_tyLe {m : Nat} : ∀ n, (num n).tyLe m
  | 0 => trivial
  | n + 1 => num_tyLe (m := m) n
theorem plus_tyLe {m : Nat} (h : 1 ≤ m) : plusT.tyLe m := by
  simp only [plusT, T.tyLe, Y.size]; simp; omega
theorem sub_tyLe {m : Nat} (h : 1 ≤ m) : subT.tyLe m := by
  simp only [subT, predT, T.tyLe, Y.size]; simp; omega
theorem plus_size : plusT.size = 9 := by decide
theorem sub_size : subT.size = 16 := by decide
theorem plus_ht {m : Nat} {G : List Y} (hm : 5 ≤ m) : HT m G plusT (.fn .nat (.fn .nat .nat)) := by
  refine .lm (.lm (.rc (.vr rfl) (.lm (.lm (.su (.vr rfl)) ?_) ?_) (.vr rfl) ?_) ?_) ?_ <;> simp only [Y.size] <;> omega
theorem pred_ht {m : Nat} {G : List Y} (hm : 5 ≤ m) : HT m G predT (.fn .nat .nat) := by
  refine .lm (.rc .ze (.lm (.lm (.vr rfl) ?_) ?_) (.vr rfl) ?_) ?_ <;> simp only [Y.size] <;> omega
theorem sub_ht {m : Nat} {G : List Y} (hm : 5 ≤ m) : HT m G subT (.fn .nat (.fn .nat .nat)) := by
  refine .lm (.lm (.rc (.vr rfl) (.lm (.lm (.ap (pred_ht hm) (.vr rfl)) ?_) ?_) (.vr rfl) ?_) ?_) ?_ <;> simp only [Y.size] <;> omega
def TermOut (l : List Int) (M : Nat) (t : Y) (g : List Y) (i R : Nat) (rs : List AV) (st' : St) : Prop :=
  ∃ (x : T) (j : Nat), rs = [.agg (cT x)] ∧ st'[0]? = (deck l j)[0]? ∧ i ≤ j ∧ j ≤ l.length ∧ HT (2 * M + 5) g.reverse x t ∧ x.size ≤ R ∧ x.tyLe M
def TermIH (X : CRel) (l : List Int) (M N : Nat) (dep : Int) (t : Y) (B : Y → Nat) : Prop :=
  ∀ (t' : Y) (g' : List Y) (i' : Nat), i' ≤ l.length → (0 < dep ∨ t'.size < t.size) → t'.size ≤ M → (∀ y ∈ g', y.size ≤ M) → g'.length ≤ N →
    ∃ (x : T) (j : Nat), Draws (AC X) l 29 [.sl .no (g'.map cY), .agg (cY t'), .int .i64 (IntKind.i64.wrap (dep - 1))] i' (.agg (cT x)) j ∧ i' ≤ j ∧ j ≤ l.length ∧ HT (2 * M + 5) g'.reverse x t' ∧ x.size ≤ B t' ∧ x.tyLe M
abbrev TermFr (b : Nat → AV) (l : List Int) (g : List Y) (t : Y) (dep : Int) (j : Nat) : Fr :=
  Fr.at b [(0, .vp 0 0), (1, .sl .no (g.map cY)), (3, .int .i64 dep), (6, .vp 1 0), (8, .vp 2 0)] [some [.sl .no (ints l), .int .i64 j], some (cY t), some z37] 0
noncomputable abbrev termTail : Code := codeAt ((Tryz.f29).body.getD .skip) [1, 1, 1, 1]
noncomputable abbrev termDeep : Code := codeAt ((Tryz.f29).body.getD .skip) [1, 1, 1]
noncomputable abbrev termLoop : Code := codeAt ((Tryz.f29).body.getD .skip) [1, 1, 1, 0, 1, 0, 1, 0, 1, 1, 1, 1, 1, 1, 1, 1, 1, 1, 1, 0, 1, 0, 0]
theorem decF {n : Int} (h : ¬ 0 < n) : decide (n > 0) = false := by simp; omega
theorem decT {n : Int} (h : 0 < n) : decide (n > 0) = true := by simp; omega
theorem draws_size {l : List Int} {i : Nat} {n : Int} (hi : i ≤ l.length) : i ≤ nextI l i ∧ nextI l i ≤ l.length := by unfold nextI; omega
theorem termTail_W {l : List Int} (hl : l.length ≤ 1000) {M N R S : Nat} {dep : Int} {t : Y} {B : Y → Nat} (hd1 : -1000000 ≤ dep) (hd2 : dep ≤ 1000) (hM : 1 ≤ M) (htM : t.size ≤ M) (ih : TermIH X l M N dep t B)
    (hB : (0 < dep ∧ (∀ y, B y ≤ S) ∧ 3 * S + 40 ≤ R) ∨ (dep ≤ 0 ∧ (∀ y, B y = 3 * y.size) ∧ 3 * t.size ≤ R)) {g : List Y} (hg : ∀ y ∈ g, y.size ≤ M) (hgN : g.length + 3 ≤ N) (hN : N ≤ 10000) {i : Nat} : ∀ (j : Nat) (b : Nat → AV), i ≤ j → j ≤ l.length → W TT G0 (AC X) 338 1 termTail (EndW TT Tryz.f29 (TermOut l M t g i R)) (TermFr b l g t dep j) := by
  intro j b hij hj
  have hrev : ∀ y, (g ++ [y]).reverse = y :: g.reverse := fun y => by simp
  have hBb : 0 < dep → ∀ y, B y ≤ S := fun h => by rcases hB with h1 | h1; exact h1.2.1; omega
  refine W.seq (W.seq (W.region rfl (WO.go rfl (WO.nil ?_))))
  cases t with
  | unit =>
    have hR : 1 ≤ R := by rcases hB with h1 | h1; omega; simp only [Y.size] at h1; omega
    repeat (first | refine W.condT rfl ?_ | refine W.condF rfl ?_ | refine W.seq ?_ | refine W.block ?_ | refine W.skip ?_ | refine W.region rfl (WO.go rfl (WO.nil ?_)))
    have hun : Gives (AC X) 77 [.int .i64 13, .sl .no []] (.agg (cT .un)) := n_W 13 [] (by decide)
    refine (W.region rfl (WO.gives hun rfl rfl rfl rfl rfl rfl rfl rfl rfl (WO.go rfl (WO.nil (W.ret (.ret [_] rfl ⟨.un, j, rfl, rfl, by omega, by omega, .un, by simp only [T.size, num_size, appT, plus_size, sub_size]; omega, by first | (simp only [T.tyLe, appT]; done) | ((try simp only [T.tyLe, appT]); (repeat' apply And.intro) <;> first | assumption | trivial | omega | exact num_tyLe _ | exact plus_tyLe (by omega) | exact sub_tyLe (by omega))⟩))))))

  | nat =>
    have hR : 3 ≤ R := by rcases hB with h1 | h1; omega; simp only [Y.size] at h1; omega
    refine W.block (W.seq (W.region rfl (WO.go rfl (WO.nil (W.condT rfl ?_)))))
    refine W.seq (W.seq (W.region rfl (WO.go rfl (WO.nil ?_))))
    by_cases hd : 0 < dep
    · have hS := hBb hd
      have hR2 : 3 * S + 40 ≤ R := by rcases hB with h1 | h1 <;> omega
      refine W.cond rfl (fun _ => ?_) (fun h => absurd (h.symm.trans (decT hd)) (by decide))
      obtain ⟨v, j2, hv, hvv, hjv⟩ : ∃ (v : Int) (j' : Nat), Draws (AC X) l 18 [.int .i64 5] j (.int .i64 v) j' ∧ (0 ≤ v ∧ v < 5) ∧ j ≤ j' ∧ j' ≤ l.length := ⟨_, _, next_W l j 5 (by omega) hl (by decide) (by decide), nextV_lt l j 5 (by decide) (by decide), by unfold nextI; omega, by unfold nextI; omega⟩
      refine W.seq (W.region rfl (WO.go rfl (WO.draws hv rfl rfl rfl rfl rfl rfl rfl rfl rfl rfl rfl (WO.go rfl (WO.nil ?_)))))
      have hv5 : v = 0 ∨ v = 1 ∨ v = 2 ∨ v = 3 ∨ v = 4 := by omega
      rcases hv5 with rfl | rfl | rfl | rfl | rfl
      · obtain ⟨x1, j3, hd1, h11, h12, h13, h14, h15⟩ := ih .nat g j2 (by omega) (.inl hd) hM hg (by omega)
        have hb1 := hS .nat
        refine W.block (W.seq (W.region rfl (WO.go rfl (WO.nil (W.condT rfl ?_)))))
        have hsu : Gives (AC X) 77 [.int .i64 5, .sl .no [cT x1]] (.agg (cT (.su x1))) := n_W 5 [x1] (by simp)
        refine W.seq (W.region rfl (WO.go rfl (WO.draws hd1 rfl rfl rfl rfl rfl rfl rfl rfl rfl rfl rfl (WO.go rfl (WO.gives hsu rfl rfl rfl rfl rfl rfl rfl rfl rfl (WO.go rfl (WO.nil (W.ret (.ret [_] rfl ⟨.su x1, j3, rfl, rfl, by omega, by omega, .su h13, by simp only [T.size, num_size, appT, plus_size, sub_size]; omega, by first | (simp only [T.tyLe, appT]; done) | ((try simp only [T.tyLe, appT]); (repeat' apply And.intro) <;> first | assumption | trivial | omega | exact num_tyLe _ | exact plus_tyLe (by omega) | exact sub_tyLe (by omega))⟩)))))))))

      · obtain ⟨x1, j3, hd1, h11, h12, h13, h14, h15⟩ := ih .nat g j2 (by omega) (.inl hd) hM hg (by omega)
        obtain ⟨x2, j4, hd2, h21, h22, h23, h24, h25⟩ := ih .nat g j3 (by omega) (.inl hd) hM hg (by omega)
        have hb1 := hS .nat
        refine W.block ?_
        repeat (first | refine W.condT rfl ?_ | refine W.condF rfl ?_ | refine W.seq ?_ | refine W.block ?_ | refine W.skip ?_ | refine W.region rfl (WO.go rfl (WO.nil ?_)))
        have hap : Gives (AC X) 100 [.agg (cT plusT), .sl .no [cT x1, cT x2]] (.agg (cT (.ap (.ap plusT x1) x2))) := app_W plusT [x1, x2] (by simp)
        refine (W.draw 15 [0] rfl (by decide +kernel) rfl (WD.gives plus_W rfl rfl rfl rfl rfl rfl rfl rfl rfl (WD.go rfl (WD.draws hd1 rfl rfl rfl rfl rfl rfl rfl rfl rfl rfl rfl rfl (WD.go rfl (WD.draws hd2 rfl rfl rfl rfl rfl rfl rfl rfl rfl rfl rfl rfl (WD.go rfl (WD.gives hap rfl rfl rfl rfl rfl rfl rfl rfl rfl (WD.nil (WO.go rfl (WO.nil (W.ret (.ret [_] rfl ⟨.ap (.ap plusT x1) x2, j4, rfl, rfl, by omega, by omega, .ap (.ap (plus_ht (by omega)) h13) h23, by simp only [T.size, num_size, appT, plus_size, sub_size]; omega, by first | (simp only [T.tyLe, appT]; done) | ((try simp only [T.tyLe, appT]); (repeat' apply And.intro) <;> first | assumption | trivial | omega | exact num_tyLe _ | exact plus_tyLe (by omega) | exact sub_tyLe (by omega))⟩)))))))))))))
      · obtain ⟨x1, j3, hd1, h11, h12, h13, h14, h15⟩ := ih .nat g j2 (by omega) (.inl hd) hM hg (by omega)
        obtain ⟨x2, j4, hd2, h21, h22, h23, h24, h25⟩ := ih .nat g j3 (by omega) (.inl hd) hM hg (by omega)
        have hb1 := hS .nat
        refine W.block ?_
        repeat (first | refine W.condT rfl ?_ | refine W.condF rfl ?_ | refine W.seq ?_ | refine W.block ?_ | refine W.skip ?_ | refine W.region rfl (WO.go rfl (WO.nil ?_)))
        have hap : Gives (AC X) 100 [.agg (cT subT), .sl .no [cT x1, cT x2]] (.agg (cT (.ap (.ap subT x1) x2))) := app_W subT [x1, x2] (by simp)
        refine (W.draw 15 [0] rfl (by decide +kernel) rfl (WD.gives sub_W rfl rfl rfl rfl rfl rfl rfl rfl rfl (WD.go rfl (WD.draws hd1 rfl rfl rfl rfl rfl rfl rfl rfl rfl rfl rfl rfl (WD.go rfl (WD.draws hd2 rfl rfl rfl rfl rfl rfl rfl rfl rfl rfl rfl rfl (WD.go rfl (WD.gives hap rfl rfl rfl rfl rfl rfl rfl rfl rfl (WD.nil (WO.go rfl (WO.nil (W.ret (.ret [_] rfl ⟨.ap (.ap subT x1) x2, j4, rfl, rfl, by omega, by omega, .ap (.ap (sub_ht (by omega)) h13) h23, by simp only [T.size, num_size, appT, plus_size, sub_size]; omega, by first | (simp only [T.tyLe, appT]; done) | ((try simp only [T.tyLe, appT]); (repeat' apply And.intro) <;> first | assumption | trivial | omega | exact num_tyLe _ | exact plus_tyLe (by omega) | exact sub_tyLe (by omega))⟩)))))))))))))
      · refine W.block ?_
        repeat (first | refine W.condT rfl ?_ | refine W.condF rfl ?_ | refine W.seq ?_ | refine W.block ?_ | refine W.skip ?_ | refine W.region rfl (WO.go rfl (WO.nil ?_)))
        obtain ⟨w, j3, hw, hvw, hjw⟩ : ∃ (v : Int) (j' : Nat), Draws (AC X) l 18 [.int .i64 3] j2 (.int .i64 v) j' ∧ (0 ≤ v ∧ v < 3) ∧ j2 ≤ j' ∧ j' ≤ l.length := ⟨_, _, next_W l j2 3 (by omega) hl (by decide) (by decide), nextV_lt l j2 3 (by decide) (by decide), by unfold nextI; omega, by unfold nextI; omega⟩
        obtain ⟨n, rfl⟩ := Int.eq_ofNat_of_zero_le hvw.1
        refine (W.region rfl (WO.go rfl (WO.draws hw rfl rfl rfl rfl rfl rfl rfl rfl rfl rfl rfl (WO.gives (num_W n (by omega)) rfl rfl rfl rfl rfl rfl rfl rfl rfl (WO.go rfl (WO.nil (W.ret (.ret [_] rfl ⟨num n, j3, rfl, rfl, by omega, by omega, num_ht n, by simp only [T.size, num_size, appT, plus_size, sub_size]; omega, by first | (simp only [T.tyLe, appT]; done) | ((try simp only [T.tyLe, appT]); (repeat' apply And.intro) <;> first | assumption | trivial | omega | exact num_tyLe _ | exact plus_tyLe (by omega) | exact sub_tyLe (by omega))⟩))))))))

      · refine W.block ?_
        repeat (first | refine W.condT rfl ?_ | refine W.condF rfl ?_ | refine W.seq ?_ | refine W.block ?_ | refine W.skip ?_ | refine W.region rfl (WO.go rfl (WO.nil ?_)))
        obtain ⟨w, j3, hw, hvw, hjw⟩ : ∃ (v : Int) (j' : Nat), Draws (AC X) l 18 [.int .i64 3] j2 (.int .i64 v) j' ∧ (0 ≤ v ∧ v < 3) ∧ j2 ≤ j' ∧ j' ≤ l.length := ⟨_, _, next_W l j2 3 (by omega) hl (by decide) (by decide), nextV_lt l j2 3 (by decide) (by decide), by unfold nextI; omega, by unfold nextI; omega⟩
        obtain ⟨n, rfl⟩ := Int.eq_ofNat_of_zero_le hvw.1
        refine (W.region rfl (WO.go rfl (WO.draws hw rfl rfl rfl rfl rfl rfl rfl rfl rfl rfl rfl (WO.gives (num_W n (by omega)) rfl rfl rfl rfl rfl rfl rfl rfl rfl (WO.go rfl (WO.nil (W.ret (.ret [_] rfl ⟨num n, j3, rfl, rfl, by omega, by omega, num_ht n, by simp only [T.size, num_size, appT, plus_size, sub_size]; omega, by first | (simp only [T.tyLe, appT]; done) | ((try simp only [T.tyLe, appT]); (repeat' apply And.intro) <;> first | assumption | trivial | omega | exact num_tyLe _ | exact plus_tyLe (by omega) | exact sub_tyLe (by omega))⟩))))))))

    · refine W.cond rfl (fun h => absurd (h.symm.trans (decF hd)) (by decide)) (fun _ => W.skip ?_)
      obtain ⟨w, j3, hw, hvw, hjw⟩ : ∃ (v : Int) (j' : Nat), Draws (AC X) l 18 [.int .i64 3] j (.int .i64 v) j' ∧ (0 ≤ v ∧ v < 3) ∧ j ≤ j' ∧ j' ≤ l.length := ⟨_, _, next_W l j 3 (by omega) hl (by decide) (by decide), nextV_lt l j 3 (by decide) (by decide), by unfold nextI; omega, by unfold nextI; omega⟩
      obtain ⟨n, rfl⟩ := Int.eq_ofNat_of_zero_le hvw.1
      refine W.seq (W.region rfl (WO.go rfl (WO.draws hw rfl rfl rfl rfl rfl rfl rfl rfl rfl rfl rfl (WO.gives (num_W n (by omega)) rfl rfl rfl rfl rfl rfl rfl rfl rfl (WO.go rfl (WO.nil (W.ret (.ret [_] rfl ⟨num n, j3, rfl, rfl, by omega, by omega, num_ht n, by simp only [T.size, num_size, appT, plus_size, sub_size]; omega, by first | (simp only [T.tyLe, appT]; done) | ((try simp only [T.tyLe, appT]); (repeat' apply And.intro) <;> first | assumption | trivial | omega | exact num_tyLe _ | exact plus_tyLe (by omega) | exact sub_tyLe (by omega))⟩))))))))

  | list =>
    have hR : 3 ≤ R := by rcases hB with h1 | h1; omega; simp only [Y.size] at h1; omega
    have hnl : Gives (AC X) 77 [.int .i64 7, .sl .no []] (.agg (cT .nl)) := n_W 7 [] (by decide)
    refine W.block (W.seq (W.region rfl (WO.go rfl (WO.nil (W.condF rfl ?_)))))
    refine W.seq (W.region rfl (WO.go rfl (WO.nil (W.condT rfl ?_))))
    refine W.seq (W.seq (W.region rfl (WO.steps 3 rfl ?_)))
    by_cases hd : 0 < dep
    · have hS := hBb hd
      have hR2 : 3 * S + 40 ≤ R := by rcases hB with h1 | h1 <;> omega
      rw [decT hd]
      obtain ⟨v, j2, hv, hvv, hjv⟩ : ∃ (v : Int) (j' : Nat), Draws (AC X) l 18 [.int .i64 2] j (.int .i64 v) j' ∧ (0 ≤ v ∧ v < 2) ∧ j ≤ j' ∧ j' ≤ l.length := ⟨_, _, next_W l j 2 (by omega) hl (by decide) (by decide), nextV_lt l j 2 (by decide) (by decide), by unfold nextI; omega, by unfold nextI; omega⟩
      refine WO.go rfl (WO.draws hv rfl rfl rfl rfl rfl rfl rfl rfl rfl rfl rfl (WO.go rfl (WO.nil ?_)))
      have hv2 : v = 0 ∨ v = 1 := by omega
      rcases hv2 with rfl | rfl
      · obtain ⟨x1, j3, hd1, h11, h12, h13, h14, h15⟩ := ih .nat g j2 (by omega) (.inl hd) hM hg (by omega)
        obtain ⟨x2, j4, hd2, h21, h22, h23, h24, h25⟩ := ih .list g j3 (by omega) (.inl hd) hM hg (by omega)
        have hb1 := hS .nat
        have hb2 := hS .list
        have hcn : Gives (AC X) 77 [.int .i64 8, .sl .no [cT x1, cT x2]] (.agg (cT (.cn x1 x2))) := n_W 8 [x1, x2] (by simp)
        refine W.condT rfl ?_
        refine W.seq (W.draw 14 [0] rfl (by decide +kernel) rfl (WD.go rfl (WD.gives nat_W rfl rfl rfl rfl rfl rfl rfl rfl rfl (WD.go rfl (WD.draws hd1 rfl rfl rfl rfl rfl rfl rfl rfl rfl rfl rfl rfl (WD.go rfl (WD.draws hd2 rfl rfl rfl rfl rfl rfl rfl rfl rfl rfl rfl rfl (WD.go rfl (WD.gives hcn rfl rfl rfl rfl rfl rfl rfl rfl rfl (WD.nil (WO.go rfl (WO.nil (W.ret (.ret [_] rfl ⟨.cn x1 x2, j4, rfl, rfl, by omega, by omega, .cn h13 h23, by simp only [T.size, num_size, appT, plus_size, sub_size]; omega, by first | (simp only [T.tyLe, appT]; done) | ((try simp only [T.tyLe, appT]); (repeat' apply And.intro) <;> first | assumption | trivial | omega | exact num_tyLe _ | exact plus_tyLe (by omega) | exact sub_tyLe (by omega))⟩))))))))))))))

      · refine W.condF rfl (W.skip ?_)
        refine W.seq (W.region rfl (WO.gives hnl rfl rfl rfl rfl rfl rfl rfl rfl rfl (WO.go rfl (WO.nil (W.ret (.ret [_] rfl ⟨.nl, j2, rfl, rfl, by omega, by omega, .nl, by simp only [T.size, num_size, appT, plus_size, sub_size]; omega, by first | (simp only [T.tyLe, appT]; done) | ((try simp only [T.tyLe, appT]); (repeat' apply And.intro) <;> first | assumption | trivial | omega | exact num_tyLe _ | exact plus_tyLe (by omega) | exact sub_tyLe (by omega))⟩))))))

    · rw [decF hd]
      refine WO.go rfl (WO.nil (W.condF rfl (W.skip ?_)))
      refine W.seq (W.region rfl (WO.gives hnl rfl rfl rfl rfl rfl rfl rfl rfl rfl (WO.go rfl (WO.nil (W.ret (.ret [_] rfl ⟨.nl, j, rfl, rfl, by omega, by omega, .nl, by simp only [T.size, num_size, appT, plus_size, sub_size]; omega, by first | (simp only [T.tyLe, appT]; done) | ((try simp only [T.tyLe, appT]); (repeat' apply And.intro) <;> first | assumption | trivial | omega | exact num_tyLe _ | exact plus_tyLe (by omega) | exact sub_tyLe (by omega))⟩))))))

  | pair a c =>
    have hsz : (Y.pair a c).size = 1 + a.size + c.size := rfl
    have hBs : B a + B c + 1 ≤ R := by
      rcases hB with h1 | h1
      · have h2 := h1.2.1 a; have h3 := h1.2.1 c; omega
      · have h2 := h1.2.1 a; have h3 := h1.2.1 c; omega
    obtain ⟨x1, j3, hd1, h11, h12, h13, h14, h15⟩ := ih a g j (by omega) (.inr (by omega)) (by omega) hg (by omega)
    obtain ⟨x2, j4, hd2, h21, h22, h23, h24, h25⟩ := ih c g j3 (by omega) (.inr (by omega)) (by omega) hg (by omega)
    have hpr : Gives (AC X) 77 [.int .i64 10, .sl .no [cT x1, cT x2]] (.agg (cT (.pr x1 x2))) := n_W 10 [x1, x2] (by simp)
    refine W.block (W.seq (W.region rfl (WO.go rfl (WO.nil (W.condF rfl ?_)))))
    refine W.seq (W.region rfl (WO.go rfl (WO.nil (W.condF rfl ?_))))
    refine W.seq (W.region rfl (WO.go rfl (WO.nil (W.condT rfl ?_))))
    refine W.seq (W.draw 20 [0] rfl (by decide +kernel) rfl (WD.go rfl (WD.draws hd1 rfl rfl rfl rfl rfl rfl rfl rfl rfl rfl rfl rfl (WD.go rfl (WD.draws hd2 rfl rfl rfl rfl rfl rfl rfl rfl rfl rfl rfl rfl (WD.go rfl (WD.gives hpr rfl rfl rfl rfl rfl rfl rfl rfl rfl (WD.nil (WO.go rfl (WO.nil (W.ret (.ret [_] rfl ⟨.pr x1 x2, j4, rfl, rfl, by omega, by omega, .pr h13 h23 (by omega), by simp only [T.size, num_size, appT, plus_size, sub_size]; omega, by first | (simp only [T.tyLe, appT]; done) | ((try simp only [T.tyLe, appT]); (repeat' apply And.intro) <;> first | assumption | trivial | omega | exact num_tyLe _ | exact plus_tyLe (by omega) | exact sub_tyLe (by omega))⟩))))))))))))

  | fn a c =>
    have hsz : (Y.fn a c).size = 1 + a.size + c.size := rfl
    have hBs : B c + 1 ≤ R := by
      rcases hB with h1 | h1
      · have h3 := h1.2.1 c; omega
      · have h3 := h1.2.1 c; omega
    obtain ⟨x1, j3, hd1, h11, h12, h13, h14, h15⟩ := ih c (g ++ [a]) j (by omega) (.inr (by omega)) (by omega) (fun y hy => by
      rcases List.mem_append.1 hy with h | h
      · exact hg y h
      · have : y = a := by simpa using h
        subst this; omega) (by simp; omega)
    rw [hrev] at h13
    have hlm : Gives (AC X) 98 [.int .i64 2, .agg (cY a), .sl .no [cT x1]] (.agg (cT (.lm a x1))) := t_W 2 a [x1] (by simp)
    have hlo : Gives (AC X) 99 [.sl .no (g.map cY), .sl .no [cY a]] (.sl .no ((g ++ [a]).map cY)) := longer_W g [a] (by omega) (by simp)
    refine W.block (W.seq (W.region rfl (WO.go rfl (WO.nil (W.condF rfl ?_)))))
    refine W.seq (W.region rfl (WO.go rfl (WO.nil (W.condF rfl ?_))))
    refine W.seq (W.region rfl (WO.go rfl (WO.nil (W.condF rfl ?_))))
    refine W.seq (W.region rfl (WO.go rfl (WO.nil (W.condT rfl ?_))))
    refine W.seq (W.draw 21 [0] rfl (by decide +kernel) rfl (WD.go rfl (WD.gives hlo rfl rfl rfl rfl rfl rfl rfl rfl rfl (WD.go rfl (WD.draws hd1 rfl rfl rfl rfl rfl rfl rfl rfl rfl rfl rfl rfl (WD.go rfl (WD.gives hlm rfl rfl rfl rfl rfl rfl rfl rfl rfl (WD.nil (WO.go rfl (WO.nil (W.ret (.ret [_] rfl ⟨.lm a x1, j3, rfl, rfl, by omega, by omega, .lm h13 (by omega), by simp only [T.size, num_size, appT, plus_size, sub_size]; omega, by first | (simp only [T.tyLe, appT]; done) | ((try simp only [T.tyLe, appT]); (repeat' apply And.intro) <;> first | assumption | trivial | omega | exact num_tyLe _ | exact plus_tyLe (by omega) | exact sub_tyLe (by omega))⟩))))))))))))

end Go.Proofs.YtjdlmhbkfammlabGreatDoor
namespace Go.Proofs.YtjdlmhbkfammlabGreatDoor
open Go Go.Sh
set_option linter.unusedVariables false
set_option linter.unusedSimpArgs false
set_option maxHeartbeats 4000000
variable {X : CRel}
/-! make.Term: what is made at a depth -/
theorem termDeep_W {l : List Int} (hl : l.length ≤ 1000) {M N R S : Nat} {dep : Int} {t : Y} {B : Y → Nat} (hd1 : -1000000 ≤ dep) (hd2 : dep ≤ 1000) (hM : 1 ≤ M) (htM : t.size ≤ M) (ih : TermIH X l M N dep t B)
    (hB : (0 < dep ∧ (∀ y, B y ≤ S) ∧ 3 * S + 40 ≤ R) ∨ (dep ≤ 0 ∧ (∀ y, B y = 3 * y.size) ∧ 3 * t.size ≤ R)) {g : List Y} (hg : ∀ y ∈ g, y.size ≤ M) (hgN : g.length + 3 ≤ N) (hN : N ≤ 10000) {i : Nat} : ∀ (j : Nat) (b : Nat → AV), i ≤ j → j ≤ l.length → W TT G0 (AC X) 338 1 termDeep (EndW TT Tryz.f29 (TermOut l M t g i R)) (TermFr b l g t dep j) := by
  intro j b hij hj
  have hmem : ∀ (ys : List Y), (∀ y ∈ ys, y.size ≤ M) → ∀ y ∈ g ++ ys, y.size ≤ M := fun ys h y hy => by
    rcases List.mem_append.1 hy with h1 | h1
    · exact hg y h1
    · exact h y h1
  by_cases hd : 0 < dep
  · obtain ⟨hS, hR⟩ : (∀ y, B y ≤ S) ∧ 3 * S + 40 ≤ R := by rcases hB with h1 | h1; exact h1.2; omega
    refine W.seq (W.seq (W.region rfl (WO.go rfl (WO.nil (W.cond rfl (fun _ => ?_) (fun h => absurd (h.symm.trans (decT hd)) (by decide)))))))
    obtain ⟨v, j2, hv, hvv, hjv⟩ : ∃ (v : Int) (j' : Nat), Draws (AC X) l 18 [.int .i64 8] j (.int .i64 v) j' ∧ (0 ≤ v ∧ v < 8) ∧ j ≤ j' ∧ j' ≤ l.length := ⟨_, _, next_W l j 8 (by omega) hl (by decide) (by decide), nextV_lt l j 8 (by decide) (by decide), by unfold nextI; omega, by unfold nextI; omega⟩
    have tail : ∀ (k : Nat), j2 ≤ k → k ≤ l.length → ∀ b, W TT G0 (AC X) 338 1 termTail (EndW TT Tryz.f29 (TermOut l M t g i R)) (TermFr b l g t dep k) := fun k h1 h2 b => termTail_W hl hd1 hd2 hM htM ih hB hg hgN hN k b (by omega) h2
    
    refine W.seq (W.region rfl (WO.go rfl (WO.draws hv rfl rfl rfl rfl rfl rfl rfl rfl rfl rfl rfl (WO.go rfl (WO.nil ?_)))))
    have hv8 : v = 0 ∨ v = 1 ∨ v = 2 ∨ v = 3 ∨ v = 4 ∨ v = 5 ∨ v = 6 ∨ v = 7 := by omega
    rcases hv8 with rfl | rfl | rfl | rfl | rfl | rfl | rfl | rfl
    · obtain ⟨s, j3, hds, hs1, hs2, hs3⟩ := type_W (X := X) l hl 0 (by omega) j2 (by omega)
      simp only [tyB] at hs3
      obtain ⟨x1, j4, hd1', h11, h12, h13, h14, h15⟩ := ih t (g ++ [s]) j3 (by omega) (.inl hd) htM (hmem [s] (by simp; omega)) (by simp; omega)
      obtain ⟨x2, j5, hd2', h21, h22, h23, h24, h25⟩ := ih s g j4 (by omega) (.inl hd) (by omega) hg (by omega)
      have hb1 := hS t
      have hb2 := hS s
      have hlo : Gives (AC X) 99 [.sl .no (g.map cY), .sl .no [cY s]] (.sl .no ((g ++ [s]).map cY)) := longer_W g [s] (by omega) (by simp)
      have hlm : Gives (AC X) 98 [.int .i64 2, .agg (cY s), .sl .no [cT x1]] (.agg (cT (.lm s x1))) := t_W 2 s [x1] (by simp)
      have hap : Gives (AC X) 77 [.int .i64 3, .sl .no [cT (.lm s x1), cT x2]] (.agg (cT (.ap (.lm s x1) x2))) := n_W 3 [.lm s x1, x2] (by simp)
      repeat (first | refine W.condT rfl ?_ | refine W.condF rfl ?_ | refine W.seq ?_ | refine W.block ?_ | refine W.skip ?_ | refine WO.nil ?_ | refine WD.nil (WO.go rfl ?_) | refine W.region rfl (WO.go rfl ?_) | refine W.draw (id := 8) 17 [0] rfl (by decide +kernel) rfl (WD.go rfl ?_) | refine W.draw (id := 11) 11 [0] rfl (by decide +kernel) rfl (WD.go rfl ?_) | refine W.draw (id := 13) 17 [0] rfl (by decide +kernel) rfl (WD.go rfl ?_) | refine W.draw (id := 14) 12 [0] rfl (by decide +kernel) rfl (WD.go rfl ?_) | refine W.draw (id := 16) 21 [0] rfl (by decide +kernel) rfl (WD.go rfl ?_) | refine W.draw (id := 17) 15 [0] rfl (by decide +kernel) rfl (WD.go rfl ?_) | refine W.draw (id := 20) 11 [0] rfl (by decide +kernel) rfl (WD.go rfl ?_) | refine W.draw (id := 26) 9 [0] rfl (by decide +kernel) rfl (WD.go rfl ?_) | refine W.draw (id := 27) 10 [0] rfl (by decide +kernel) rfl (WD.go rfl ?_) | refine W.draw (id := 36) 12 [0] rfl (by decide +kernel) rfl (WD.go rfl ?_) | refine W.draw (id := 38) 12 [0] rfl (by decide +kernel) rfl (WD.go rfl ?_) | refine W.draw (id := 42) 11 [0] rfl (by decide +kernel) rfl (WD.go rfl ?_) | refine W.draw (id := 45) 17 [0] rfl (by decide +kernel) rfl (WD.go rfl ?_) | refine W.draw (id := 47) 20 [0] rfl (by decide +kernel) rfl (WD.go rfl ?_) | refine WO.draws hds rfl rfl rfl rfl rfl rfl rfl rfl rfl rfl rfl (WO.go rfl ?_) | refine WD.draws hds rfl rfl rfl rfl rfl rfl rfl rfl rfl rfl rfl rfl (WD.go rfl ?_) | refine WO.draws hd1' rfl rfl rfl rfl rfl rfl rfl rfl rfl rfl rfl (WO.go rfl ?_) | refine WD.draws hd1' rfl rfl rfl rfl rfl rfl rfl rfl rfl rfl rfl rfl (WD.go rfl ?_) | refine WO.draws hd2' rfl rfl rfl rfl rfl rfl rfl rfl rfl rfl rfl (WO.go rfl ?_) | refine WD.draws hd2' rfl rfl rfl rfl rfl rfl rfl rfl rfl rfl rfl rfl (WD.go rfl ?_) | refine WO.gives hlo rfl rfl rfl rfl rfl rfl rfl rfl rfl (WO.go rfl ?_) | refine WD.gives hlo rfl rfl rfl rfl rfl rfl rfl rfl rfl (WD.go rfl ?_) | refine WO.gives hlm rfl rfl rfl rfl rfl rfl rfl rfl rfl (WO.go rfl ?_) | refine WD.gives hlm rfl rfl rfl rfl rfl rfl rfl rfl rfl (WD.go rfl ?_) | refine WO.gives hap rfl rfl rfl rfl rfl rfl rfl rfl rfl (WO.go rfl ?_) | refine WD.gives hap rfl rfl rfl rfl rfl rfl rfl rfl rfl (WD.go rfl ?_) | refine WO.append0 rfl rfl rfl rfl rfl rfl rfl rfl rfl (WO.go rfl ?_) | refine WO.appendF (by simp) (by exact lens_ok rfl) (by exact lens_ok rfl) (by first | decide | simp) (by first | decide | simp) rfl rfl rfl rfl rfl rfl rfl rfl rfl rfl (WO.go rfl ?_) | refine WO.appendI (by simp) (by exact lens_ok rfl) (by first | decide | simp) (by first | decide | simp) rfl rfl rfl rfl rfl rfl rfl rfl rfl rfl (WO.go rfl ?_) | refine W.loop ?_ | refine W.exit ?_)
      rw [List.reverse_append] at h13
      exact W.ret (.ret [_] rfl ⟨.ap (.lm s x1) x2, j5, rfl, rfl, by omega, by omega, .ap (.lm h13 (by simp only [Y.size]; omega)) h23, by simp only [T.size]; omega, by simp only [T.tyLe]; exact ⟨⟨by omega, h15⟩, h25⟩⟩)
    · obtain ⟨s, j3, hds, hs1, hs2, hs3⟩ := type_W (X := X) l hl 0 (by omega) j2 (by omega)
      simp only [tyB] at hs3
      obtain ⟨x1, j4, hd1', h11, h12, h13, h14, h15⟩ := ih t g j3 (by omega) (.inl hd) htM hg (by omega)
      obtain ⟨x2, j5, hd2', h21, h22, h23, h24, h25⟩ := ih s g j4 (by omega) (.inl hd) (by omega) hg (by omega)
      have hb1 := hS t
      have hb2 := hS s
      have hpr : Gives (AC X) 77 [.int .i64 10, .sl .no [cT x1, cT x2]] (.agg (cT (.pr x1 x2))) := n_W 10 [x1, x2] (by simp)
      have hfs : Gives (AC X) 77 [.int .i64 11, .sl .no [cT (.pr x1 x2)]] (.agg (cT (.fs (.pr x1 x2)))) := n_W 11 [.pr x1 x2] (by simp)
      repeat (first | refine W.condT rfl ?_ | refine W.condF rfl ?_ | refine W.seq ?_ | refine W.block ?_ | refine W.skip ?_ | refine WO.nil ?_ | refine WD.nil (WO.go rfl ?_) | refine W.region rfl (WO.go rfl ?_) | refine W.draw (id := 8) 17 [0] rfl (by decide +kernel) rfl (WD.go rfl ?_) | refine W.draw (id := 11) 11 [0] rfl (by decide +kernel) rfl (WD.go rfl ?_) | refine W.draw (id := 13) 17 [0] rfl (by decide +kernel) rfl (WD.go rfl ?_) | refine W.draw (id := 14) 12 [0] rfl (by decide +kernel) rfl (WD.go rfl ?_) | refine W.draw (id := 16) 21 [0] rfl (by decide +kernel) rfl (WD.go rfl ?_) | refine W.draw (id := 17) 15 [0] rfl (by decide +kernel) rfl (WD.go rfl ?_) | refine W.draw (id := 20) 11 [0] rfl (by decide +kernel) rfl (WD.go rfl ?_) | refine W.draw (id := 26) 9 [0] rfl (by decide +kernel) rfl (WD.go rfl ?_) | refine W.draw (id := 27) 10 [0] rfl (by decide +kernel) rfl (WD.go rfl ?_) | refine W.draw (id := 36) 12 [0] rfl (by decide +kernel) rfl (WD.go rfl ?_) | refine W.draw (id := 38) 12 [0] rfl (by decide +kernel) rfl (WD.go rfl ?_) | refine W.draw (id := 42) 11 [0] rfl (by decide +kernel) rfl (WD.go rfl ?_) | refine W.draw (id := 45) 17 [0] rfl (by decide +kernel) rfl (WD.go rfl ?_) | refine W.draw (id := 47) 20 [0] rfl (by decide +kernel) rfl (WD.go rfl ?_) | refine WO.draws hds rfl rfl rfl rfl rfl rfl rfl rfl rfl rfl rfl (WO.go rfl ?_) | refine WD.draws hds rfl rfl rfl rfl rfl rfl rfl rfl rfl rfl rfl rfl (WD.go rfl ?_) | refine WO.draws hd1' rfl rfl rfl rfl rfl rfl rfl rfl rfl rfl rfl (WO.go rfl ?_) | refine WD.draws hd1' rfl rfl rfl rfl rfl rfl rfl rfl rfl rfl rfl rfl (WD.go rfl ?_) | refine WO.draws hd2' rfl rfl rfl rfl rfl rfl rfl rfl rfl rfl rfl (WO.go rfl ?_) | refine WD.draws hd2' rfl rfl rfl rfl rfl rfl rfl rfl rfl rfl rfl rfl (WD.go rfl ?_) | refine WO.gives hpr rfl rfl rfl rfl rfl rfl rfl rfl rfl (WO.go rfl ?_) | refine WD.gives hpr rfl rfl rfl rfl rfl rfl rfl rfl rfl (WD.go rfl ?_) | refine WO.gives hfs rfl rfl rfl rfl rfl rfl rfl rfl rfl (WO.go rfl ?_) | refine WD.gives hfs rfl rfl rfl rfl rfl rfl rfl rfl rfl (WD.go rfl ?_) | refine WO.append0 rfl rfl rfl rfl rfl rfl rfl rfl rfl (WO.go rfl ?_) | refine WO.appendF (by simp) (by exact lens_ok rfl) (by exact lens_ok rfl) (by first | decide | simp) (by first | decide | simp) rfl rfl rfl rfl rfl rfl rfl rfl rfl rfl (WO.go rfl ?_) | refine WO.appendI (by simp) (by exact lens_ok rfl) (by first | decide | simp) (by first | decide | simp) rfl rfl rfl rfl rfl rfl rfl rfl rfl rfl (WO.go rfl ?_) | refine W.loop ?_ | refine W.exit ?_)
      exact W.ret (.ret [_] rfl ⟨.fs (.pr x1 x2), j5, rfl, rfl, by omega, by omega, .fs (.pr h13 h23 (by simp only [Y.size]; omega)), by simp only [T.size]; omega, by simp only [T.tyLe]; exact ⟨h15, h25⟩⟩)
    · obtain ⟨x2, j3, hd2', h21, h22, h23, h24, h25⟩ := ih t (g ++ [.nat, t]) j2 (by omega) (.inl hd) htM (hmem [.nat, t] (by simp [Y.size]; omega)) (by simp; omega)
      obtain ⟨x1, j4, hd1', h11, h12, h13, h14, h15⟩ := ih t g j3 (by omega) (.inl hd) htM hg (by omega)
      obtain ⟨w, j5, hw, hww, hjw⟩ : ∃ (v : Int) (j' : Nat), Draws (AC X) l 18 [.int .i64 3] j4 (.int .i64 v) j' ∧ (0 ≤ v ∧ v < 3) ∧ j4 ≤ j' ∧ j' ≤ l.length := ⟨_, _, next_W l j4 3 (by omega) hl (by decide) (by decide), nextV_lt l j4 3 (by decide) (by decide), by unfold nextI; omega, by unfold nextI; omega⟩
      obtain ⟨n, rfl⟩ := Int.eq_ofNat_of_zero_le hww.1
      have hb1 := hS t
      have hlo : Gives (AC X) 99 [.sl .no (g.map cY), .sl .no [cY .nat, cY t]] (.sl .no ((g ++ [.nat, t]).map cY)) := longer_W g [.nat, t] (by omega) (by simp)
      have hlm : Gives (AC X) 98 [.int .i64 2, .agg (cY t), .sl .no [cT x2]] (.agg (cT (.lm t x2))) := t_W 2 t [x2] (by simp)
      have hlm2 : Gives (AC X) 98 [.int .i64 2, .agg (cY .nat), .sl .no [cT (.lm t x2)]] (.agg (cT (.lm .nat (.lm t x2)))) := t_W 2 .nat [.lm t x2] (by simp)
      have hnu := num_W (X := X) n (by omega)
      have hrc : Gives (AC X) 98 [.int .i64 6, .agg (cY t), .sl .no [cT x1, cT (.lm .nat (.lm t x2)), cT (num n)]] (.agg (cT (.rc t x1 (.lm .nat (.lm t x2)) (num n)))) := t_W 6 t [x1, .lm .nat (.lm t x2), num n] (by simp)
      repeat (first | refine W.condT rfl ?_ | refine W.condF rfl ?_ | refine W.seq ?_ | refine W.block ?_ | refine W.skip ?_ | refine WO.nil ?_ | refine WD.nil (WO.go rfl ?_) | refine W.region rfl (WO.go rfl ?_) | refine W.draw (id := 8) 17 [0] rfl (by decide +kernel) rfl (WD.go rfl ?_) | refine W.draw (id := 11) 11 [0] rfl (by decide +kernel) rfl (WD.go rfl ?_) | refine W.draw (id := 13) 17 [0] rfl (by decide +kernel) rfl (WD.go rfl ?_) | refine W.draw (id := 14) 12 [0] rfl (by decide +kernel) rfl (WD.go rfl ?_) | refine W.draw (id := 16) 21 [0] rfl (by decide +kernel) rfl (WD.go rfl ?_) | refine W.draw (id := 17) 15 [0] rfl (by decide +kernel) rfl (WD.go rfl ?_) | refine W.draw (id := 20) 11 [0] rfl (by decide +kernel) rfl (WD.go rfl ?_) | refine W.draw (id := 26) 9 [0] rfl (by decide +kernel) rfl (WD.go rfl ?_) | refine W.draw (id := 27) 10 [0] rfl (by decide +kernel) rfl (WD.go rfl ?_) | refine W.draw (id := 36) 12 [0] rfl (by decide +kernel) rfl (WD.go rfl ?_) | refine W.draw (id := 38) 12 [0] rfl (by decide +kernel) rfl (WD.go rfl ?_) | refine W.draw (id := 42) 11 [0] rfl (by decide +kernel) rfl (WD.go rfl ?_) | refine W.draw (id := 45) 17 [0] rfl (by decide +kernel) rfl (WD.go rfl ?_) | refine W.draw (id := 47) 20 [0] rfl (by decide +kernel) rfl (WD.go rfl ?_) | refine WO.draws hw rfl rfl rfl rfl rfl rfl rfl rfl rfl rfl rfl (WO.go rfl ?_) | refine WD.draws hw rfl rfl rfl rfl rfl rfl rfl rfl rfl rfl rfl rfl (WD.go rfl ?_) | refine WO.draws hd1' rfl rfl rfl rfl rfl rfl rfl rfl rfl rfl rfl (WO.go rfl ?_) | refine WD.draws hd1' rfl rfl rfl rfl rfl rfl rfl rfl rfl rfl rfl rfl (WD.go rfl ?_) | refine WO.draws hd2' rfl rfl rfl rfl rfl rfl rfl rfl rfl rfl rfl (WO.go rfl ?_) | refine WD.draws hd2' rfl rfl rfl rfl rfl rfl rfl rfl rfl rfl rfl rfl (WD.go rfl ?_) | refine WO.gives nat_W rfl rfl rfl rfl rfl rfl rfl rfl rfl (WO.go rfl ?_) | refine WD.gives nat_W rfl rfl rfl rfl rfl rfl rfl rfl rfl (WD.go rfl ?_) | refine WO.gives hlo rfl rfl rfl rfl rfl rfl rfl rfl rfl (WO.go rfl ?_) | refine WD.gives hlo rfl rfl rfl rfl rfl rfl rfl rfl rfl (WD.go rfl ?_) | refine WO.gives hlm rfl rfl rfl rfl rfl rfl rfl rfl rfl (WO.go rfl ?_) | refine WD.gives hlm rfl rfl rfl rfl rfl rfl rfl rfl rfl (WD.go rfl ?_) | refine WO.gives hlm2 rfl rfl rfl rfl rfl rfl rfl rfl rfl (WO.go rfl ?_) | refine WD.gives hlm2 rfl rfl rfl rfl rfl rfl rfl rfl rfl (WD.go rfl ?_) | refine WO.gives hnu rfl rfl rfl rfl rfl rfl rfl rfl rfl (WO.go rfl ?_) | refine WD.gives hnu rfl rfl rfl rfl rfl rfl rfl rfl rfl (WD.go rfl ?_) | refine WO.gives hrc rfl rfl rfl rfl rfl rfl rfl rfl rfl (WO.go rfl ?_) | refine WD.gives hrc rfl rfl rfl rfl rfl rfl rfl rfl rfl (WD.go rfl ?_) | refine WO.append0 rfl rfl rfl rfl rfl rfl rfl rfl rfl (WO.go rfl ?_) | refine WO.appendF (by simp) (by exact lens_ok rfl) (by exact lens_ok rfl) (by first | decide | simp) (by first | decide | simp) rfl rfl rfl rfl rfl rfl rfl rfl rfl rfl (WO.go rfl ?_) | refine WO.appendI (by simp) (by exact lens_ok rfl) (by first | decide | simp) (by first | decide | simp) rfl rfl rfl rfl rfl rfl rfl rfl rfl rfl (WO.go rfl ?_) | refine W.loop ?_ | refine W.exit ?_)
      rw [List.reverse_append] at h23
      exact W.ret (.ret [_] rfl ⟨.rc t x1 (.lm .nat (.lm t x2)) (num n), j5, rfl, rfl, by omega, by omega, .rc h13 (.lm (.lm h23 (by simp only [Y.size]; omega)) (by simp only [Y.size]; omega)) (num_ht n) (by omega), by simp only [T.size, num_size]; omega, by simp only [T.tyLe, Y.size]; exact ⟨htM, h15, ⟨hM, htM, h25⟩, num_tyLe n⟩⟩)
    · obtain ⟨x2, j3, hd2', h21, h22, h23, h24, h25⟩ := ih t (g ++ [.nat, .list, t]) j2 (by omega) (.inl hd) htM (hmem [.nat, .list, t] (by simp [Y.size]; omega)) (by simp; omega)
      obtain ⟨x1, j4, hd1', h11, h12, h13, h14, h15⟩ := ih t g j3 (by omega) (.inl hd) htM hg (by omega)
      obtain ⟨x3, j5, hd3', h31, h32, h33, h34, h35⟩ := ih .list g j4 (by omega) (.inl hd) hM hg (by omega)
      have hb1 := hS t
      have hb2 := hS .list
      have hlo : Gives (AC X) 99 [.sl .no (g.map cY), .sl .no [cY .nat, cY .list, cY t]] (.sl .no ((g ++ [.nat, .list, t]).map cY)) := longer_W g [.nat, .list, t] (by omega) (by simp)
      have hlm : Gives (AC X) 98 [.int .i64 2, .agg (cY t), .sl .no [cT x2]] (.agg (cT (.lm t x2))) := t_W 2 t [x2] (by simp)
      have hlm2 : Gives (AC X) 98 [.int .i64 2, .agg (cY .list), .sl .no [cT (.lm t x2)]] (.agg (cT (.lm .list (.lm t x2)))) := t_W 2 .list [.lm t x2] (by simp)
      have hlm3 : Gives (AC X) 98 [.int .i64 2, .agg (cY .nat), .sl .no [cT (.lm .list (.lm t x2))]] (.agg (cT (.lm .nat (.lm .list (.lm t x2))))) := t_W 2 .nat [.lm .list (.lm t x2)] (by simp)
      have hfo : Gives (AC X) 98 [.int .i64 9, .agg (cY t), .sl .no [cT x1, cT (.lm .nat (.lm .list (.lm t x2))), cT x3]] (.agg (cT (.fo t x1 (.lm .nat (.lm .list (.lm t x2))) x3))) := t_W 9 t [x1, .lm .nat (.lm .list (.lm t x2)), x3] (by simp)
      repeat (first | refine W.condT rfl ?_ | refine W.condF rfl ?_ | refine W.seq ?_ | refine W.block ?_ | refine W.skip ?_ | refine WO.nil ?_ | refine WD.nil (WO.go rfl ?_) | refine W.region rfl (WO.go rfl ?_) | refine W.draw (id := 8) 17 [0] rfl (by decide +kernel) rfl (WD.go rfl ?_) | refine W.draw (id := 11) 11 [0] rfl (by decide +kernel) rfl (WD.go rfl ?_) | refine W.draw (id := 13) 17 [0] rfl (by decide +kernel) rfl (WD.go rfl ?_) | refine W.draw (id := 14) 12 [0] rfl (by decide +kernel) rfl (WD.go rfl ?_) | refine W.draw (id := 16) 21 [0] rfl (by decide +kernel) rfl (WD.go rfl ?_) | refine W.draw (id := 17) 15 [0] rfl (by decide +kernel) rfl (WD.go rfl ?_) | refine W.draw (id := 20) 11 [0] rfl (by decide +kernel) rfl (WD.go rfl ?_) | refine W.draw (id := 26) 9 [0] rfl (by decide +kernel) rfl (WD.go rfl ?_) | refine W.draw (id := 27) 10 [0] rfl (by decide +kernel) rfl (WD.go rfl ?_) | refine W.draw (id := 36) 12 [0] rfl (by decide +kernel) rfl (WD.go rfl ?_) | refine W.draw (id := 38) 12 [0] rfl (by decide +kernel) rfl (WD.go rfl ?_) | refine W.draw (id := 42) 11 [0] rfl (by decide +kernel) rfl (WD.go rfl ?_) | refine W.draw (id := 45) 17 [0] rfl (by decide +kernel) rfl (WD.go rfl ?_) | refine W.draw (id := 47) 20 [0] rfl (by decide +kernel) rfl (WD.go rfl ?_) | refine WO.draws hd3' rfl rfl rfl rfl rfl rfl rfl rfl rfl rfl rfl (WO.go rfl ?_) | refine WD.draws hd3' rfl rfl rfl rfl rfl rfl rfl rfl rfl rfl rfl rfl (WD.go rfl ?_) | refine WO.draws hd1' rfl rfl rfl rfl rfl rfl rfl rfl rfl rfl rfl (WO.go rfl ?_) | refine WD.draws hd1' rfl rfl rfl rfl rfl rfl rfl rfl rfl rfl rfl rfl (WD.go rfl ?_) | refine WO.draws hd2' rfl rfl rfl rfl rfl rfl rfl rfl rfl rfl rfl (WO.go rfl ?_) | refine WD.draws hd2' rfl rfl rfl rfl rfl rfl rfl rfl rfl rfl rfl rfl (WD.go rfl ?_) | refine WO.gives nat_W rfl rfl rfl rfl rfl rfl rfl rfl rfl (WO.go rfl ?_) | refine WD.gives nat_W rfl rfl rfl rfl rfl rfl rfl rfl rfl (WD.go rfl ?_) | refine WO.gives list_W rfl rfl rfl rfl rfl rfl rfl rfl rfl (WO.go rfl ?_) | refine WD.gives list_W rfl rfl rfl rfl rfl rfl rfl rfl rfl (WD.go rfl ?_) | refine WO.gives hlo rfl rfl rfl rfl rfl rfl rfl rfl rfl (WO.go rfl ?_) | refine WD.gives hlo rfl rfl rfl rfl rfl rfl rfl rfl rfl (WD.go rfl ?_) | refine WO.gives hlm rfl rfl rfl rfl rfl rfl rfl rfl rfl (WO.go rfl ?_) | refine WD.gives hlm rfl rfl rfl rfl rfl rfl rfl rfl rfl (WD.go rfl ?_) | refine WO.gives hlm2 rfl rfl rfl rfl rfl rfl rfl rfl rfl (WO.go rfl ?_) | refine WD.gives hlm2 rfl rfl rfl rfl rfl rfl rfl rfl rfl (WD.go rfl ?_) | refine WO.gives hlm3 rfl rfl rfl rfl rfl rfl rfl rfl rfl (WO.go rfl ?_) | refine WD.gives hlm3 rfl rfl rfl rfl rfl rfl rfl rfl rfl (WD.go rfl ?_) | refine WO.gives hfo rfl rfl rfl rfl rfl rfl rfl rfl rfl (WO.go rfl ?_) | refine WD.gives hfo rfl rfl rfl rfl rfl rfl rfl rfl rfl (WD.go rfl ?_) | refine WO.append0 rfl rfl rfl rfl rfl rfl rfl rfl rfl (WO.go rfl ?_) | refine WO.appendF (by simp) (by exact lens_ok rfl) (by exact lens_ok rfl) (by first | decide | simp) (by first | decide | simp) rfl rfl rfl rfl rfl rfl rfl rfl rfl rfl (WO.go rfl ?_) | refine WO.appendI (by simp) (by exact lens_ok rfl) (by first | decide | simp) (by first | decide | simp) rfl rfl rfl rfl rfl rfl rfl rfl rfl rfl (WO.go rfl ?_) | refine W.loop ?_ | refine W.exit ?_)
      rw [List.reverse_append] at h23
      exact W.ret (.ret [_] rfl ⟨.fo t x1 (.lm .nat (.lm .list (.lm t x2))) x3, j5, rfl, rfl, by omega, by omega, .fo h13 (.lm (.lm (.lm h23 (by simp only [Y.size]; omega)) (by simp only [Y.size]; omega)) (by simp only [Y.size]; omega)) h33 (by omega), by simp only [T.size]; omega, by simp only [T.tyLe, Y.size]; exact ⟨htM, h15, ⟨hM, hM, htM, h25⟩, h35⟩⟩)
    · obtain ⟨s, j3, hds, hs1, hs2, hs3⟩ := type_W (X := X) l hl 0 (by omega) j2 (by omega)
      simp only [tyB] at hs3
      obtain ⟨x1, j4, hd1', h11, h12, h13, h14, h15⟩ := ih s g j3 (by omega) (.inl hd) (by omega) hg (by omega)
      obtain ⟨x2, j5, hd2', h21, h22, h23, h24, h25⟩ := ih t g j4 (by omega) (.inl hd) htM hg (by omega)
      have hb1 := hS t
      have hb2 := hS s
      have hpr : Gives (AC X) 77 [.int .i64 10, .sl .no [cT x1, cT x2]] (.agg (cT (.pr x1 x2))) := n_W 10 [x1, x2] (by simp)
      have hsn : Gives (AC X) 77 [.int .i64 12, .sl .no [cT (.pr x1 x2)]] (.agg (cT (.sn (.pr x1 x2)))) := n_W 12 [.pr x1 x2] (by simp)
      repeat (first | refine W.condT rfl ?_ | refine W.condF rfl ?_ | refine W.seq ?_ | refine W.block ?_ | refine W.skip ?_ | refine WO.nil ?_ | refine WD.nil (WO.go rfl ?_) | refine W.region rfl (WO.go rfl ?_) | refine W.draw (id := 8) 17 [0] rfl (by decide +kernel) rfl (WD.go rfl ?_) | refine W.draw (id := 11) 11 [0] rfl (by decide +kernel) rfl (WD.go rfl ?_) | refine W.draw (id := 13) 17 [0] rfl (by decide +kernel) rfl (WD.go rfl ?_) | refine W.draw (id := 14) 12 [0] rfl (by decide +kernel) rfl (WD.go rfl ?_) | refine W.draw (id := 16) 21 [0] rfl (by decide +kernel) rfl (WD.go rfl ?_) | refine W.draw (id := 17) 15 [0] rfl (by decide +kernel) rfl (WD.go rfl ?_) | refine W.draw (id := 20) 11 [0] rfl (by decide +kernel) rfl (WD.go rfl ?_) | refine W.draw (id := 26) 9 [0] rfl (by decide +kernel) rfl (WD.go rfl ?_) | refine W.draw (id := 27) 10 [0] rfl (by decide +kernel) rfl (WD.go rfl ?_) | refine W.draw (id := 36) 12 [0] rfl (by decide +kernel) rfl (WD.go rfl ?_) | refine W.draw (id := 38) 12 [0] rfl (by decide +kernel) rfl (WD.go rfl ?_) | refine W.draw (id := 42) 11 [0] rfl (by decide +kernel) rfl (WD.go rfl ?_) | refine W.draw (id := 45) 17 [0] rfl (by decide +kernel) rfl (WD.go rfl ?_) | refine W.draw (id := 47) 20 [0] rfl (by decide +kernel) rfl (WD.go rfl ?_) | refine WO.draws hds rfl rfl rfl rfl rfl rfl rfl rfl rfl rfl rfl (WO.go rfl ?_) | refine WD.draws hds rfl rfl rfl rfl rfl rfl rfl rfl rfl rfl rfl rfl (WD.go rfl ?_) | refine WO.draws hd1' rfl rfl rfl rfl rfl rfl rfl rfl rfl rfl rfl (WO.go rfl ?_) | refine WD.draws hd1' rfl rfl rfl rfl rfl rfl rfl rfl rfl rfl rfl rfl (WD.go rfl ?_) | refine WO.draws hd2' rfl rfl rfl rfl rfl rfl rfl rfl rfl rfl rfl (WO.go rfl ?_) | refine WD.draws hd2' rfl rfl rfl rfl rfl rfl rfl rfl rfl rfl rfl rfl (WD.go rfl ?_) | refine WO.gives hpr rfl rfl rfl rfl rfl rfl rfl rfl rfl (WO.go rfl ?_) | refine WD.gives hpr rfl rfl rfl rfl rfl rfl rfl rfl rfl (WD.go rfl ?_) | refine WO.gives hsn rfl rfl rfl rfl rfl rfl rfl rfl rfl (WO.go rfl ?_) | refine WD.gives hsn rfl rfl rfl rfl rfl rfl rfl rfl rfl (WD.go rfl ?_) | refine WO.append0 rfl rfl rfl rfl rfl rfl rfl rfl rfl (WO.go rfl ?_) | refine WO.appendF (by simp) (by exact lens_ok rfl) (by exact lens_ok rfl) (by first | decide | simp) (by first | decide | simp) rfl rfl rfl rfl rfl rfl rfl rfl rfl rfl (WO.go rfl ?_) | refine WO.appendI (by simp) (by exact lens_ok rfl) (by first | decide | simp) (by first | decide | simp) rfl rfl rfl rfl rfl rfl rfl rfl rfl rfl (WO.go rfl ?_) | refine W.loop ?_ | refine W.exit ?_)
      exact W.ret (.ret [_] rfl ⟨.sn (.pr x1 x2), j5, rfl, rfl, by omega, by omega, .sn (.pr h13 h23 (by simp only [Y.size]; omega)), by simp only [T.size]; omega, by simp only [T.tyLe]; exact ⟨h15, h25⟩⟩)
    · repeat (first | refine W.condT rfl ?_ | refine W.condF rfl ?_ | refine W.seq ?_ | refine W.block ?_ | refine W.skip ?_ | refine WO.nil ?_ | refine WD.nil (WO.go rfl ?_) | refine W.region rfl (WO.go rfl ?_) | refine W.draw (id := 8) 17 [] rfl (by decide +kernel) rfl (WD.go rfl ?_) | refine W.draw (id := 11) 11 [] rfl (by decide +kernel) rfl (WD.go rfl ?_) | refine W.draw (id := 13) 17 [] rfl (by decide +kernel) rfl (WD.go rfl ?_) | refine W.draw (id := 14) 12 [] rfl (by decide +kernel) rfl (WD.go rfl ?_) | refine W.draw (id := 16) 21 [] rfl (by decide +kernel) rfl (WD.go rfl ?_) | refine W.draw (id := 17) 15 [] rfl (by decide +kernel) rfl (WD.go rfl ?_) | refine W.draw (id := 20) 11 [] rfl (by decide +kernel) rfl (WD.go rfl ?_) | refine W.draw (id := 26) 9 [] rfl (by decide +kernel) rfl (WD.go rfl ?_) | refine W.draw (id := 27) 10 [] rfl (by decide +kernel) rfl (WD.go rfl ?_) | refine W.draw (id := 36) 12 [] rfl (by decide +kernel) rfl (WD.go rfl ?_) | refine W.draw (id := 38) 12 [] rfl (by decide +kernel) rfl (WD.go rfl ?_) | refine W.draw (id := 42) 11 [] rfl (by decide +kernel) rfl (WD.go rfl ?_) | refine W.draw (id := 45) 17 [] rfl (by decide +kernel) rfl (WD.go rfl ?_) | refine W.draw (id := 47) 20 [] rfl (by decide +kernel) rfl (WD.go rfl ?_) | refine WO.append0 rfl rfl rfl rfl rfl rfl rfl rfl rfl (WO.go rfl ?_) | refine WO.appendF (by simp) (by exact lens_ok rfl) (by exact lens_ok rfl) (by first | decide | simp) (by first | decide | simp) rfl rfl rfl rfl rfl rfl rfl rfl rfl rfl (WO.go rfl ?_) | refine WO.appendI (by simp) (by exact lens_ok rfl) (by first | decide | simp) (by first | decide | simp) rfl rfl rfl rfl rfl rfl rfl rfl rfl rfl (WO.go rfl ?_) | refine W.exit ?_)
      refine W.loopI (fun (k : Nat) fr => k ≤ g.length ∧ ∃ b, fr = Fr.at b [(0, .vp 0 0), (1, .sl .no (g.map cY)), (3, .int .i64 dep), (6, .vp 1 0), (8, .vp 2 0), (176, .int .i64 g.length), (177, .int .i64 (k : Int))] [some [.sl .no (ints l), .int .i64 j2], some (cY t), some z37] 0) (fun k => g.length - k) ?_ 0 ⟨by omega, ?_⟩
      · rintro k fr ⟨hk, b, rfl⟩
        refine W.seq (W.region rfl (WO.go rfl (WO.nil (W.seq (W.cond rfl (fun h => ?_) (fun h => ?_))))))
        · have hkl : k < g.length := by
            have h : decide ((k : Int) < (g.length : Int)) = true := h
            simp at h; exact h
          have hx : g[g.length - 1 - k]? = some g[g.length - 1 - k] := List.getElem?_eq_getElem (by omega)
          have hms : g[g.length - 1 - k] ∈ g := List.getElem_mem _
          generalize g[g.length - 1 - k] = s at hx hms
          have hsM := hg s hms
          have hin : IntKind.i64.wrap (IntKind.i64.wrap (((g.map cY).length : Int) - 1) - (k : Int)) = ((g.length - 1 - k : Nat) : Int) := by
            rw [List.length_map, wrap_id (n := (g.length : Int) - 1) (by omega) (by omega), wrap_id (by omega) (by omega)]; omega
          have hwr : IntKind.i64.wrap ((k : Int) + 1) = ((k + 1 : Nat) : Int) := by rw [wrap_id (by omega) (by omega)]; omega
          have next : ∀ fr' : Fr, fr'.tm 0 = .vp 0 0 → fr'.tm 1 = .sl .no (g.map cY) → fr'.tm 3 = .int .i64 dep → fr'.tm 6 = .vp 1 0 → fr'.tm 8 = .vp 2 0 → fr'.tm 176 = .int .i64 g.length → fr'.tm 177 = .int .i64 (IntKind.i64.wrap ((k : Int) + 1)) → fr'.st = [some [.sl .no (ints l), .int .i64 j2], some (cY t), some z37] → fr'.nid = 0 →
              ∃ k', g.length - k' < g.length - k ∧ k' ≤ g.length ∧ ∃ b, fr' = Fr.at b [(0, .vp 0 0), (1, .sl .no (g.map cY)), (3, .int .i64 dep), (6, .vp 1 0), (8, .vp 2 0), (176, .int .i64 g.length), (177, .int .i64 (k' : Int))] [some [.sl .no (ints l), .int .i64 j2], some (cY t), some z37] 0 :=
            fun fr' e0 e1 e3 e6 e8 e176 e177 es en => ⟨k + 1, by omega, by omega, fr'.tm, Fr.at_eq _ _ _ ⟨e0, e1, e3, e6, e8, e176, e177.trans (by rw [hwr]), trivial⟩ es en⟩
          refine W.skip (W.seq (W.block (W.seq (W.region rfl (WO.go rfl (WO.nil ?_))))))
          refine W.seq (W.region rfl (WO.steps 6 rfl (WO.index (row := cY s) (n := IntKind.i64.wrap (IntKind.i64.wrap (((g.map cY).length : Int) - 1) - (k : Int))) ?_ ?_ rfl rfl rfl rfl rfl rfl rfl rfl rfl rfl (WO.go rfl (WO.nil ?_)))))
          · rw [hin]; exact Int.natCast_nonneg _
          · rw [hin, Int.toNat_natCast, List.getElem?_map, hx]; rfl
          cases s with
          | fn p q =>
            have hsa := sameY_W (X := X) q t
            simp only [Y.size] at hsM
            cases hs : q.same t with
            | true =>
              rw [hs] at hsa
              obtain rfl := Y.same_iff.1 hs
              obtain ⟨x1, j3, hd1', h11, h12, h13, h14, h15⟩ := ih p g j2 (by omega) (.inl hd) (by omega) hg (by omega)
              have hb1 := hS p
              have hvr := var_W (X := X) k
              have hap : Gives (AC X) 77 [.int .i64 3, .sl .no [cT (.vr k), cT x1]] (.agg (cT (.ap (.vr k) x1))) := n_W 3 [.vr k, x1] (by simp)
              have hgr : g.reverse[k]? = some (.fn p q) := by rw [List.getElem?_reverse hkl]; exact hx
              repeat (first | refine W.condT rfl ?_ | refine W.condF rfl ?_ | refine W.seq ?_ | refine W.block ?_ | refine W.skip ?_ | refine WO.nil ?_ | refine WD.nil (WO.go rfl ?_) | refine W.region rfl (WO.go rfl ?_) | refine W.draw (id := 8) 17 [0] rfl (by decide +kernel) rfl (WD.go rfl ?_) | refine W.draw (id := 11) 11 [0] rfl (by decide +kernel) rfl (WD.go rfl ?_) | refine W.draw (id := 13) 17 [0] rfl (by decide +kernel) rfl (WD.go rfl ?_) | refine W.draw (id := 14) 12 [0] rfl (by decide +kernel) rfl (WD.go rfl ?_) | refine W.draw (id := 16) 21 [0] rfl (by decide +kernel) rfl (WD.go rfl ?_) | refine W.draw (id := 17) 15 [0] rfl (by decide +kernel) rfl (WD.go rfl ?_) | refine W.draw (id := 20) 11 [0] rfl (by decide +kernel) rfl (WD.go rfl ?_) | refine W.draw (id := 26) 9 [0] rfl (by decide +kernel) rfl (WD.go rfl ?_) | refine W.draw (id := 27) 10 [0] rfl (by decide +kernel) rfl (WD.go rfl ?_) | refine W.draw (id := 36) 12 [0] rfl (by decide +kernel) rfl (WD.go rfl ?_) | refine W.draw (id := 38) 12 [0] rfl (by decide +kernel) rfl (WD.go rfl ?_) | refine W.draw (id := 42) 11 [0] rfl (by decide +kernel) rfl (WD.go rfl ?_) | refine W.draw (id := 45) 17 [0] rfl (by decide +kernel) rfl (WD.go rfl ?_) | refine W.draw (id := 47) 20 [0] rfl (by decide +kernel) rfl (WD.go rfl ?_) | refine WO.draws hd1' rfl rfl rfl rfl rfl rfl rfl rfl rfl rfl rfl (WO.go rfl ?_) | refine WD.draws hd1' rfl rfl rfl rfl rfl rfl rfl rfl rfl rfl rfl rfl (WD.go rfl ?_) | refine WO.gives hsa rfl rfl rfl rfl rfl rfl rfl rfl rfl (WO.go rfl ?_) | refine WD.gives hsa rfl rfl rfl rfl rfl rfl rfl rfl rfl (WD.go rfl ?_) | refine WO.gives hvr rfl rfl rfl rfl rfl rfl rfl rfl rfl (WO.go rfl ?_) | refine WD.gives hvr rfl rfl rfl rfl rfl rfl rfl rfl rfl (WD.go rfl ?_) | refine WO.gives hap rfl rfl rfl rfl rfl rfl rfl rfl rfl (WO.go rfl ?_) | refine WD.gives hap rfl rfl rfl rfl rfl rfl rfl rfl rfl (WD.go rfl ?_) | refine WO.append0 rfl rfl rfl rfl rfl rfl rfl rfl rfl (WO.go rfl ?_) | refine WO.appendF (by simp) (by exact lens_ok rfl) (by exact lens_ok rfl) (by first | decide | simp) (by first | decide | simp) rfl rfl rfl rfl rfl rfl rfl rfl rfl rfl (WO.go rfl ?_) | refine WO.appendI (by simp) (by exact lens_ok rfl) (by first | decide | simp) (by first | decide | simp) rfl rfl rfl rfl rfl rfl rfl rfl rfl rfl (WO.go rfl ?_) | refine W.loop ?_ | refine W.exit ?_)
              exact W.ret (.ret [_] rfl ⟨.ap (.vr k) x1, j3, rfl, rfl, by omega, by omega, .ap (.vr hgr) h13, by simp only [T.size]; omega, by simp only [T.tyLe]; exact ⟨trivial, h15⟩⟩)
            | false =>
              rw [hs] at hsa
              repeat (first | (refine W.tidy 3 0 [] rfl rfl ?_; refine W.region (id := 28) rfl (WO.go rfl ?_)) | refine W.condT rfl ?_ | refine W.condF rfl ?_ | refine W.seq ?_ | refine W.block ?_ | refine W.skip ?_ | refine WO.nil ?_ | refine WD.nil (WO.go rfl ?_) | refine W.region rfl (WO.go rfl ?_) | refine W.draw (id := 8) 17 [] rfl (by decide +kernel) rfl (WD.go rfl ?_) | refine W.draw (id := 11) 11 [] rfl (by decide +kernel) rfl (WD.go rfl ?_) | refine W.draw (id := 13) 17 [] rfl (by decide +kernel) rfl (WD.go rfl ?_) | refine W.draw (id := 14) 12 [] rfl (by decide +kernel) rfl (WD.go rfl ?_) | refine W.draw (id := 16) 21 [] rfl (by decide +kernel) rfl (WD.go rfl ?_) | refine W.draw (id := 17) 15 [] rfl (by decide +kernel) rfl (WD.go rfl ?_) | refine W.draw (id := 20) 11 [] rfl (by decide +kernel) rfl (WD.go rfl ?_) | refine W.draw (id := 26) 9 [] rfl (by decide +kernel) rfl (WD.go rfl ?_) | refine W.draw (id := 27) 10 [] rfl (by decide +kernel) rfl (WD.go rfl ?_) | refine W.draw (id := 36) 12 [] rfl (by decide +kernel) rfl (WD.go rfl ?_) | refine W.draw (id := 38) 12 [] rfl (by decide +kernel) rfl (WD.go rfl ?_) | refine W.draw (id := 42) 11 [] rfl (by decide +kernel) rfl (WD.go rfl ?_) | refine W.draw (id := 45) 17 [] rfl (by decide +kernel) rfl (WD.go rfl ?_) | refine W.draw (id := 47) 20 [] rfl (by decide +kernel) rfl (WD.go rfl ?_) | refine WO.gives hsa rfl rfl rfl rfl rfl rfl rfl rfl rfl (WO.go rfl ?_) | refine WD.gives hsa rfl rfl rfl rfl rfl rfl rfl rfl rfl (WD.go rfl ?_) | refine WO.append0 rfl rfl rfl rfl rfl rfl rfl rfl rfl (WO.go rfl ?_) | refine WO.appendF (by simp) (by exact lens_ok rfl) (by exact lens_ok rfl) (by first | decide | simp) (by first | decide | simp) rfl rfl rfl rfl rfl rfl rfl rfl rfl rfl (WO.go rfl ?_) | refine WO.appendI (by simp) (by exact lens_ok rfl) (by first | decide | simp) (by first | decide | simp) rfl rfl rfl rfl rfl rfl rfl rfl rfl rfl (WO.go rfl ?_) | refine W.loop ?_ | refine W.exit ?_)
              exact next _ rfl rfl rfl rfl rfl rfl rfl rfl rfl
          | _ =>
            repeat (first | (refine W.tidy 3 0 [] rfl rfl ?_; refine W.region (id := 28) rfl (WO.go rfl ?_)) | refine W.condT rfl ?_ | refine W.condF rfl ?_ | refine W.seq ?_ | refine W.block ?_ | refine W.skip ?_ | refine WO.nil ?_ | refine WD.nil (WO.go rfl ?_) | refine W.region rfl (WO.go rfl ?_) | refine W.draw (id := 8) 17 [] rfl (by decide +kernel) rfl (WD.go rfl ?_) | refine W.draw (id := 11) 11 [] rfl (by decide +kernel) rfl (WD.go rfl ?_) | refine W.draw (id := 13) 17 [] rfl (by decide +kernel) rfl (WD.go rfl ?_) | refine W.draw (id := 14) 12 [] rfl (by decide +kernel) rfl (WD.go rfl ?_) | refine W.draw (id := 16) 21 [] rfl (by decide +kernel) rfl (WD.go rfl ?_) | refine W.draw (id := 17) 15 [] rfl (by decide +kernel) rfl (WD.go rfl ?_) | refine W.draw (id := 20) 11 [] rfl (by decide +kernel) rfl (WD.go rfl ?_) | refine W.draw (id := 26) 9 [] rfl (by decide +kernel) rfl (WD.go rfl ?_) | refine W.draw (id := 27) 10 [] rfl (by decide +kernel) rfl (WD.go rfl ?_) | refine W.draw (id := 36) 12 [] rfl (by decide +kernel) rfl (WD.go rfl ?_) | refine W.draw (id := 38) 12 [] rfl (by decide +kernel) rfl (WD.go rfl ?_) | refine W.draw (id := 42) 11 [] rfl (by decide +kernel) rfl (WD.go rfl ?_) | refine W.draw (id := 45) 17 [] rfl (by decide +kernel) rfl (WD.go rfl ?_) | refine W.draw (id := 47) 20 [] rfl (by decide +kernel) rfl (WD.go rfl ?_) | refine WO.append0 rfl rfl rfl rfl rfl rfl rfl rfl rfl (WO.go rfl ?_) | refine WO.appendF (by simp) (by exact lens_ok rfl) (by exact lens_ok rfl) (by first | decide | simp) (by first | decide | simp) rfl rfl rfl rfl rfl rfl rfl rfl rfl rfl (WO.go rfl ?_) | refine WO.appendI (by simp) (by exact lens_ok rfl) (by first | decide | simp) (by first | decide | simp) rfl rfl rfl rfl rfl rfl rfl rfl rfl rfl (WO.go rfl ?_) | refine W.loop ?_ | refine W.exit ?_)
            exact next _ rfl rfl rfl rfl rfl rfl rfl rfl rfl
        · refine W.exit ?_
          refine W.at [(0, .vp 0 0), (1, .sl .no (g.map cY)), (3, .int .i64 dep), (6, .vp 1 0), (8, .vp 2 0)] [some [.sl .no (ints l), .int .i64 j2], some (cY t), some z37] 0 ⟨rfl, rfl, rfl, rfl, rfl, trivial⟩ rfl rfl (fun b => tail j2 (by omega) (by omega) b)
      · refine ⟨_, Fr.at_eq _ _ _ ⟨rfl, rfl, rfl, rfl, rfl, ?_, rfl, trivial⟩ rfl rfl⟩
        show AV.int .i64 ((g.map cY).length : Nat) = _
        rw [List.length_map]
    · repeat (first | exact W.at [(0, .vp 0 0), (1, .sl .no (g.map cY)), (3, .int .i64 dep), (6, .vp 1 0), (8, .vp 2 0)] [some [.sl .no (ints l), .int .i64 j2], some (cY t), some z37] 0 ⟨rfl, rfl, rfl, rfl, rfl, trivial⟩ rfl rfl (fun b => tail j2 (by omega) (by omega) b) | refine W.condT rfl ?_ | refine W.condF rfl ?_ | refine W.seq ?_ | refine W.block ?_ | refine W.skip ?_ | refine WO.nil ?_ | refine WD.nil (WO.go rfl ?_) | refine W.region rfl (WO.go rfl ?_) | refine W.draw (id := 8) 17 [] rfl (by decide +kernel) rfl (WD.go rfl ?_) | refine W.draw (id := 11) 11 [] rfl (by decide +kernel) rfl (WD.go rfl ?_) | refine W.draw (id := 13) 17 [] rfl (by decide +kernel) rfl (WD.go rfl ?_) | refine W.draw (id := 14) 12 [] rfl (by decide +kernel) rfl (WD.go rfl ?_) | refine W.draw (id := 16) 21 [] rfl (by decide +kernel) rfl (WD.go rfl ?_) | refine W.draw (id := 17) 15 [] rfl (by decide +kernel) rfl (WD.go rfl ?_) | refine W.draw (id := 20) 11 [] rfl (by decide +kernel) rfl (WD.go rfl ?_) | refine W.draw (id := 26) 9 [] rfl (by decide +kernel) rfl (WD.go rfl ?_) | refine W.draw (id := 27) 10 [] rfl (by decide +kernel) rfl (WD.go rfl ?_) | refine W.draw (id := 36) 12 [] rfl (by decide +kernel) rfl (WD.go rfl ?_) | refine W.draw (id := 38) 12 [] rfl (by decide +kernel) rfl (WD.go rfl ?_) | refine W.draw (id := 42) 11 [] rfl (by decide +kernel) rfl (WD.go rfl ?_) | refine W.draw (id := 45) 17 [] rfl (by decide +kernel) rfl (WD.go rfl ?_) | refine W.draw (id := 47) 20 [] rfl (by decide +kernel) rfl (WD.go rfl ?_) | refine WO.append0 rfl rfl rfl rfl rfl rfl rfl rfl rfl (WO.go rfl ?_) | refine WO.appendF (by simp) (by exact lens_ok rfl) (by exact lens_ok rfl) (by first | decide | simp) (by first | decide | simp) rfl rfl rfl rfl rfl rfl rfl rfl rfl rfl (WO.go rfl ?_) | refine WO.appendI (by simp) (by exact lens_ok rfl) (by first | decide | simp) (by first | decide | simp) rfl rfl rfl rfl rfl rfl rfl rfl rfl rfl (WO.go rfl ?_) | refine W.exit ?_)
    · repeat (first | exact W.at [(0, .vp 0 0), (1, .sl .no (g.map cY)), (3, .int .i64 dep), (6, .vp 1 0), (8, .vp 2 0)] [some [.sl .no (ints l), .int .i64 j2], some (cY t), some z37] 0 ⟨rfl, rfl, rfl, rfl, rfl, trivial⟩ rfl rfl (fun b => tail j2 (by omega) (by omega) b) | refine W.condT rfl ?_ | refine W.condF rfl ?_ | refine W.seq ?_ | refine W.block ?_ | refine W.skip ?_ | refine WO.nil ?_ | refine WD.nil (WO.go rfl ?_) | refine W.region rfl (WO.go rfl ?_) | refine W.draw (id := 8) 17 [] rfl (by decide +kernel) rfl (WD.go rfl ?_) | refine W.draw (id := 11) 11 [] rfl (by decide +kernel) rfl (WD.go rfl ?_) | refine W.draw (id := 13) 17 [] rfl (by decide +kernel) rfl (WD.go rfl ?_) | refine W.draw (id := 14) 12 [] rfl (by decide +kernel) rfl (WD.go rfl ?_) | refine W.draw (id := 16) 21 [] rfl (by decide +kernel) rfl (WD.go rfl ?_) | refine W.draw (id := 17) 15 [] rfl (by decide +kernel) rfl (WD.go rfl ?_) | refine W.draw (id := 20) 11 [] rfl (by decide +kernel) rfl (WD.go rfl ?_) | refine W.draw (id := 26) 9 [] rfl (by decide +kernel) rfl (WD.go rfl ?_) | refine W.draw (id := 27) 10 [] rfl (by decide +kernel) rfl (WD.go rfl ?_) | refine W.draw (id := 36) 12 [] rfl (by decide +kernel) rfl (WD.go rfl ?_) | refine W.draw (id := 38) 12 [] rfl (by decide +kernel) rfl (WD.go rfl ?_) | refine W.draw (id := 42) 11 [] rfl (by decide +kernel) rfl (WD.go rfl ?_) | refine W.draw (id := 45) 17 [] rfl (by decide +kernel) rfl (WD.go rfl ?_) | refine W.draw (id := 47) 20 [] rfl (by decide +kernel) rfl (WD.go rfl ?_) | refine WO.append0 rfl rfl rfl rfl rfl rfl rfl rfl rfl (WO.go rfl ?_) | refine WO.appendF (by simp) (by exact lens_ok rfl) (by exact lens_ok rfl) (by first | decide | simp) (by first | decide | simp) rfl rfl rfl rfl rfl rfl rfl rfl rfl rfl (WO.go rfl ?_) | refine WO.appendI (by simp) (by exact lens_ok rfl) (by first | decide | simp) (by first | decide | simp) rfl rfl rfl rfl rfl rfl rfl rfl rfl rfl (WO.go rfl ?_) | refine W.exit ?_)
  · refine W.seq (W.seq (W.region rfl (WO.go rfl (WO.nil (W.cond rfl (fun h => absurd (h.symm.trans (decF hd)) (by decide)) (fun _ => W.skip ?_))))))
    exact W.at [(0, .vp 0 0), (1, .sl .no (g.map cY)), (3, .int .i64 dep), (6, .vp 1 0), (8, .vp 2 0)] [some [.sl .no (ints l), .int .i64 j], some (cY t), some z37] 0 ⟨rfl, rfl, rfl, rfl, rfl, trivial⟩ rfl rfl (fun b => termTail_W hl hd1 hd2 hM htM ih hB hg hgN hN j b hij hj)
end Go.Proofs.YtjdlmhbkfammlabGreatDoor
namespace Go.Proofs.YtjdlmhbkfammlabGreatDoor
open Go Go.Sh
set_option linter.unusedVariables false
set_option linter.unusedSimpArgs false
set_option maxHeartbeats 4000000
variable {X : CRel}
theorem varsF_mem {g : List Y} {t : Y} {n v : Nat} (hn : n ≤ g.length) (h : v ∈ varsF g t n) : v < g.length ∧ g.reverse[v]? = some t := by
  unfold varsF at h
  obtain ⟨h1, h2⟩ := List.mem_filter.1 h
  have hv := List.mem_range.1 h1
  have hlt : v < g.length := by omega
  refine ⟨hlt, ?_⟩
  unfold isVar at h2
  rw [List.getElem?_reverse hlt]
  split at h2
  · rename_i s hs
    rw [hs, Y.same_iff.1 h2]
  · exact absurd h2 (by simp)
theorem termHead_W {l : List Int} (hl : l.length ≤ 1000) {M N R S : Nat} {dep : Int} {t : Y} {B : Y → Nat} (hd1 : -1000000 ≤ dep) (hd2 : dep ≤ 1000) (hM : 1 ≤ M) (htM : t.size ≤ M) (ih : TermIH X l M N dep t B)
    (hB : (0 < dep ∧ (∀ y, B y ≤ S) ∧ 3 * S + 40 ≤ R) ∨ (dep ≤ 0 ∧ (∀ y, B y = 3 * y.size) ∧ 3 * t.size ≤ R)) {g : List Y} (hg : ∀ y ∈ g, y.size ≤ M) (hgN : g.length + 3 ≤ N) (hN : N ≤ 10000) {i : Nat} (hi : i ≤ l.length) (hG1000 : g.length ≤ 1000) :
    ∃ rs st', AC X 29 [.vp 0 0, .sl .no (g.map cY), .agg (cY t), .int .i64 dep] (deck l i) (resOf rs) st' ∧ TermOut l M t g i R rs st' := by
  have hR : 1 ≤ R := by
    have := Y.size_pos t
    rcases hB with h1 | h1 <;> omega
  have deep : ∀ (k : Nat), i ≤ k → k ≤ l.length → ∀ b, W TT G0 (AC X) 338 1 termDeep (EndW TT Tryz.f29 (TermOut l M t g i R)) (TermFr b l g t dep k) := fun k h1 h2 b => termDeep_W hl hd1 hd2 hM htM ih hB hg hgN hN k b h1 h2
  refine callW (fn := Tryz.f29) Tryz.func29 rfl rfl rfl ?_
  refine W.seq (W.region rfl (WO.go rfl (WO.nil ?_)))
  have hvars := vars_W (X := X) g t (by omega)
  have hmem : ∀ v ∈ varsF g t g.length, v < g.length ∧ g.reverse[v]? = some t := fun v h => varsF_mem (Nat.le_refl _) h
  have hVl := varsF_len g t g.length
  generalize varsF g t g.length = V at hvars hmem hVl
  refine W.seq (W.region rfl (WO.go rfl (WO.gives hvars rfl rfl rfl rfl rfl rfl rfl rfl rfl (WO.go rfl (WO.nil ?_)))))
  cases V with
  | nil =>
    repeat (first | exact W.at [(0, .vp 0 0), (1, .sl .no (g.map cY)), (3, .int .i64 dep), (6, .vp 1 0), (8, .vp 2 0)] [some [.sl .no (ints l), .int .i64 i], some (cY t), some z37] 0 ⟨rfl, rfl, rfl, rfl, rfl, trivial⟩ rfl rfl (fun b => deep i (by omega) hi b) | refine W.condT rfl ?_ | refine W.condF rfl ?_ | refine W.seq ?_ | refine W.block ?_ | refine W.skip ?_ | refine WO.nil ?_ | refine WD.nil (WO.go rfl ?_) | refine W.region rfl (WO.go rfl ?_) | refine W.draw (id := 8) 17 [] rfl (by decide +kernel) rfl (WD.go rfl ?_) | refine W.draw (id := 11) 11 [] rfl (by decide +kernel) rfl (WD.go rfl ?_) | refine W.draw (id := 13) 17 [] rfl (by decide +kernel) rfl (WD.go rfl ?_) | refine W.draw (id := 14) 12 [] rfl (by decide +kernel) rfl (WD.go rfl ?_) | refine W.draw (id := 16) 21 [] rfl (by decide +kernel) rfl (WD.go rfl ?_) | refine W.draw (id := 17) 15 [] rfl (by decide +kernel) rfl (WD.go rfl ?_) | refine W.draw (id := 20) 11 [] rfl (by decide +kernel) rfl (WD.go rfl ?_) | refine W.draw (id := 26) 9 [] rfl (by decide +kernel) rfl (WD.go rfl ?_) | refine W.draw (id := 27) 10 [] rfl (by decide +kernel) rfl (WD.go rfl ?_) | refine W.draw (id := 36) 12 [] rfl (by decide +kernel) rfl (WD.go rfl ?_) | refine W.draw (id := 38) 12 [] rfl (by decide +kernel) rfl (WD.go rfl ?_) | refine W.draw (id := 42) 11 [] rfl (by decide +kernel) rfl (WD.go rfl ?_) | refine W.draw (id := 45) 17 [] rfl (by decide +kernel) rfl (WD.go rfl ?_) | refine W.draw (id := 47) 20 [] rfl (by decide +kernel) rfl (WD.go rfl ?_) | refine WO.append0 rfl rfl rfl rfl rfl rfl rfl rfl rfl (WO.go rfl ?_) | refine WO.appendF (by simp) (by exact lens_ok rfl) (by exact lens_ok rfl) (by first | decide | simp) (by first | decide | simp) rfl rfl rfl rfl rfl rfl rfl rfl rfl rfl (WO.go rfl ?_) | refine WO.appendI (by simp) (by exact lens_ok rfl) (by first | decide | simp) (by first | decide | simp) rfl rfl rfl rfl rfl rfl rfl rfl rfl rfl (WO.go rfl ?_) | refine W.exit ?_)
  | cons p V =>
    have hlen : (idx (p :: V)).length = V.length + 1 := by simp [idx]
    have hV2 : V.length + 1 ≤ g.length := by simpa using hVl
    have hgt : decide (((idx (p :: V)).length : Int) > 0) = true := by rw [hlen]; exact decide_eq_true (by omega)
    obtain ⟨v, j2, hv, hvv, hjv⟩ : ∃ (v : Int) (j' : Nat), Draws (AC X) l 18 [.int .i64 3] i (.int .i64 v) j' ∧ (0 ≤ v ∧ v < 3) ∧ i ≤ j' ∧ j' ≤ l.length := ⟨_, _, next_W l i 3 (by omega) hl (by decide) (by decide), nextV_lt l i 3 (by decide) (by decide), by unfold nextI; omega, by unfold nextI; omega⟩
    refine W.seq (W.seq (W.region rfl (WO.steps 3 rfl ?_)))
    rw [hgt]
    refine WO.go rfl (WO.draws hv rfl rfl rfl rfl rfl rfl rfl rfl rfl rfl rfl (WO.go rfl (WO.nil (W.cond rfl (fun _ => ?_) (fun _ => W.skip ?_)))))
    · obtain ⟨w, j3, hw, hww, hjw⟩ : ∃ (v : Int) (j' : Nat), Draws (AC X) l 18 [.int .i64 ((idx (p :: V)).length : Int)] j2 (.int .i64 v) j' ∧ (0 ≤ v ∧ v < ((idx (p :: V)).length : Int)) ∧ j2 ≤ j' ∧ j' ≤ l.length :=
        ⟨_, _, next_W l j2 _ (by omega) hl (by omega) (by omega), nextV_lt l j2 _ (by omega) (by omega), by unfold nextI; omega, by unfold nextI; omega⟩
      obtain ⟨n, rfl⟩ := Int.eq_ofNat_of_zero_le hww.1
      have hn : n < (p :: V).length := by simp only [List.length_cons]; omega
      have hix : (idx (p :: V))[((n : Nat) : Int).toNat]? = some [.int .i64 ((((p :: V)[n]) : Nat) : Int)] := by
        rw [Int.toNat_natCast]; unfold idx; rw [List.getElem?_map, List.getElem?_eq_getElem hn]; rfl
      obtain ⟨hv1, hv2⟩ := hmem ((p :: V)[n]) (List.getElem_mem _)
      generalize (p :: V)[n] = q at hix hv1 hv2
      refine W.seq (W.region rfl (WO.go rfl (WO.draws hw rfl rfl rfl rfl rfl rfl rfl rfl rfl rfl rfl (WO.index (row := [.int .i64 (q : Int)]) (n := ((n : Nat) : Int)) (Int.natCast_nonneg _) hix rfl rfl rfl rfl rfl rfl rfl rfl rfl rfl (WO.go rfl (WO.gives (var_W q) rfl rfl rfl rfl rfl rfl rfl rfl rfl (WO.go rfl (WO.nil ?_))))))))
      exact W.ret (.ret [_] rfl ⟨.vr q, j3, rfl, rfl, by omega, by omega, .vr hv2, by simp only [T.size]; omega, trivial⟩)
    · exact W.at [(0, .vp 0 0), (1, .sl .no (g.map cY)), (3, .int .i64 dep), (6, .vp 1 0), (8, .vp 2 0)] [some [.sl .no (ints l), .int .i64 j2], some (cY t), some z37] 0 ⟨rfl, rfl, rfl, rfl, rfl, trivial⟩ rfl rfl (fun b => deep j2 (by omega) (by omega) b)
/-- no depth is left -/
theorem term0_W (l : List Int) (hl : l.length ≤ 1000) (M : Nat) (hM : 1 ≤ M) (hM2 : M ≤ 1000) : ∀ (s : Nat) (t : Y) (g : List Y) (dep : Int) (i : Nat), t.size ≤ s → t.size ≤ M → dep ≤ 0 → -100000 + (t.size : Int) ≤ dep → (∀ y ∈ g, y.size ≤ M) → g.length + 3 * t.size ≤ 990 → i ≤ l.length →
    ∃ (x : T) (j : Nat), Draws (AC X) l 29 [.sl .no (g.map cY), .agg (cY t), .int .i64 dep] i (.agg (cT x)) j ∧ i ≤ j ∧ j ≤ l.length ∧ HT (2 * M + 5) g.reverse x t ∧ x.size ≤ 3 * t.size ∧ x.tyLe M := by
  intro s
  induction s with
  | zero => intro t g dep i h; have := Y.size_pos t; omega
  | succ s ih =>
    intro t g dep i hs htM hd0 hd1 hg hgl hi
    have ht1 := Y.size_pos t
    have hih : TermIH X l M (g.length + 3) dep t (fun y => 3 * y.size) := by
      intro t' g' i' hi' hor ht' hg' hl'
      rcases hor with h | h
      · omega
      · rw [wrap_id (by omega) (by omega)]
        exact ih t' g' (dep - 1) i' (by omega) ht' (by omega) (by omega) hg' (by omega) hi'
    obtain ⟨rs, st', h1, x, j, rfl, h2, h3, h4, h5, h6, h7⟩ := termHead_W hl (R := 3 * t.size) (S := 0) (by omega) (by omega) hM htM hih (.inr ⟨hd0, fun _ => rfl, Nat.le_refl _⟩) hg (Nat.le_refl _) (by omega) hi (by omega)
    exact ⟨x, j, ⟨st', h1, h2⟩, h3, h4, h5, h6, h7⟩
def rB (M : Nat) : Nat → Nat
  | 0 => 3 * M
  | n + 1 => 3 * rB M n + 40
/-- a term of a type -/
theorem term_W (l : List Int) (hl : l.length ≤ 1000) (M : Nat) (hM : 1 ≤ M) (hM2 : M ≤ 200) : ∀ (n : Nat) (t : Y) (g : List Y) (i : Nat), n ≤ 50 → t.size ≤ M → (∀ y ∈ g, y.size ≤ M) → g.length + 3 * n + 3 * M ≤ 990 → i ≤ l.length →
    ∃ (x : T) (j : Nat), Draws (AC X) l 29 [.sl .no (g.map cY), .agg (cY t), .int .i64 (n : Nat)] i (.agg (cT x)) j ∧ i ≤ j ∧ j ≤ l.length ∧ HT (2 * M + 5) g.reverse x t ∧ x.size ≤ rB M n ∧ x.tyLe M := by
  intro n
  induction n with
  | zero =>
    intro t g i _ htM hg hgl hi
    obtain ⟨x, j, h1, h2, h3, h4, h5, h6⟩ := term0_W (X := X) l hl M hM (by omega) t.size t g ((0 : Nat) : Int) i (Nat.le_refl _) htM (by omega) (by omega) hg (by omega) hi
    exact ⟨x, j, h1, h2, h3, h4, by simp only [rB]; omega, h6⟩
  | succ n ih =>
    intro t g i hn htM hg hgl hi
    have hih : TermIH X l M (g.length + 3) ((n + 1 : Nat) : Int) t (fun _ => rB M n) := by
      intro t' g' i' hi' _ ht' hg' hl'
      have hw : IntKind.i64.wrap (((n + 1 : Nat) : Int) - 1) = (n : Int) := by rw [wrap_id (by omega) (by omega)]; omega
      rw [hw]
      exact ih t' g' i' (by omega) ht' hg' (by omega) hi'
    obtain ⟨rs, st', h1, x, j, rfl, h2, h3, h4, h5, h6, h7⟩ := termHead_W hl (R := rB M (n + 1)) (S := rB M n) (by omega) (by omega) hM htM hih (.inl ⟨by omega, fun _ => Nat.le_refl _, Nat.le_refl _⟩) hg (Nat.le_refl _) (by omega) hi (by omega)
    exact ⟨x, j, ⟨st', h1, h2⟩, h3, h4, h5, h6, h7⟩
end Go.Proofs.YtjdlmhbkfammlabGreatDoor
namespace Go.Proofs.YtjdlmhbkfammlabGreatDoor
open Go Go.Sh
set_option linter.unusedVariables false
set_option linter.unusedSimpArgs false
set_option maxHeartbeats 4000000
variable {X : CRel}
/-! layer 28: how what is handed over is put together -/
theorem unitC_W (t : Y) : Gives (AC X) 240 [.agg (cY t)] (.bool t.isUn) := by
  refine givesW (fn := Tryz.f240) Tryz.func240 rfl rfl rfl ?_
  refine W.seq (W.region rfl (WO.go rfl (WO.nil ?_)))
  refine W.seq (W.region rfl (WO.go rfl (WO.nil ?_)))
  exact W.ret (.ret [.bool (kY t == 5)] rfl (by rw [kY_un]; rfl))
theorem noneC_W : Gives (AC X) 241 [] (.agg (cY .unit)) := by
  refine givesW (fn := Tryz.f241) Tryz.func241 rfl rfl rfl ?_
  refine W.seq (W.region rfl (WO.go rfl (WO.nil ?_)))
  refine W.seq (W.region rfl (WO.go rfl (WO.nil ?_)))
  exact W.ret (.ret [_] rfl rfl)
theorem nodeC_W (k : Int) (ys : List T) : Gives (AC X) 242 [.int .i64 k, .sl .no (ys.map cT)] (.agg (row k 0 0 [] (ys.map cT))) := by
  refine givesW (fn := Tryz.f242) Tryz.func242 rfl rfl rfl ?_
  refine W.seq (W.region rfl (WO.go rfl (WO.nil ?_)))
  refine W.seq (W.region rfl (WO.go rfl (WO.nil ?_)))
  exact W.ret (.ret [_] rfl rfl)
theorem pairC_W (a b : Y) : Gives (AC X) 254 [.agg (cY a), .agg (cY b)] (.agg (cY (Y.prs a b))) := by
  refine givesW (fn := Tryz.f254) Tryz.func254 rfl rfl rfl ?_
  refine W.seq (W.region rfl (WO.go rfl (WO.nil ?_)))
  refine W.seq (W.seq (W.region rfl (WO.go rfl (WO.gives (unitC_W a) rfl rfl rfl rfl rfl rfl rfl rfl rfl (WO.nil ?_)))))
  cases h1 : Y.isUn a with
  | true =>
    refine W.condT rfl ?_
    refine W.seq (W.region rfl (WO.go rfl (WO.nil (W.ret (.ret [.agg (cY b)] rfl ?_)))))
    simp [resOf, Y.prs, h1]
  | false =>
    refine W.condF rfl (W.skip ?_)
    refine W.seq (W.seq (W.region rfl (WO.go rfl (WO.gives (unitC_W b) rfl rfl rfl rfl rfl rfl rfl rfl rfl (WO.nil ?_)))))
    cases h2 : Y.isUn b with
    | true =>
      refine W.condT rfl ?_
      refine W.seq (W.region rfl (WO.go rfl (WO.nil (W.ret (.ret [.agg (cY a)] rfl ?_)))))
      simp [resOf, Y.prs, h1, h2]
    | false =>
      refine W.condF rfl (W.skip ?_)
      refine W.seq (W.region rfl (WO.go rfl (WO.nil (W.ret (.ret [.agg (cY (.pair a b))] rfl ?_)))))
      simp [resOf, Y.prs, h1, h2, row] <;> rfl
theorem funC_W (a b : Y) : Gives (AC X) 214 [.agg (cY a), .agg (cY b)] (.agg (cY (Y.fns a b))) := by
  refine givesW (fn := Tryz.f214) Tryz.func214 rfl rfl rfl ?_
  refine W.seq (W.region rfl (WO.go rfl (WO.nil ?_)))
  refine W.seq (W.seq (W.region rfl (WO.go rfl (WO.gives (unitC_W b) rfl rfl rfl rfl rfl rfl rfl rfl rfl (WO.nil ?_)))))
  cases h1 : Y.isUn b with
  | true =>
    refine W.condT rfl ?_
    refine W.seq (W.region rfl (WO.go rfl (WO.gives (noneC_W) rfl rfl rfl rfl rfl rfl rfl rfl rfl (WO.go rfl (WO.nil (W.ret (.ret [.agg (cY .unit)] rfl ?_)))))))
    simp [resOf, Y.fns, h1]
  | false =>
    refine W.condF rfl (W.skip ?_)
    refine W.seq (W.seq (W.region rfl (WO.go rfl (WO.gives (unitC_W a) rfl rfl rfl rfl rfl rfl rfl rfl rfl (WO.nil ?_)))))
    cases h2 : Y.isUn a with
    | true =>
      refine W.condT rfl ?_
      refine W.seq (W.region rfl (WO.go rfl (WO.nil (W.ret (.ret [.agg (cY b)] rfl ?_)))))
      simp [resOf, Y.fns, h1, h2]
    | false =>
      refine W.condF rfl (W.skip ?_)
      refine W.seq (W.region rfl (WO.go rfl (WO.nil (W.ret (.ret [.agg (cY (.fn a b))] rfl ?_)))))
      simp [resOf, Y.fns, h1, h2, row] <;> rfl
theorem unC_W : Gives (AC X) 242 [.int .i64 13, .sl .no []] (.agg (cT .un)) := nodeC_W 13 []
theorem callC_W (a b : Y) (f t : T) : Gives (AC X) 215 [.agg (cY a), .agg (cY b), .agg (cT f), .agg (cT t)] (.agg (cT (T.call a b f t))) := by
  refine givesW (fn := Tryz.f215) Tryz.func215 rfl rfl rfl ?_
  refine W.seq (W.region rfl (WO.go rfl (WO.nil ?_)))
  refine W.seq (W.seq (W.region rfl (WO.go rfl (WO.gives (unitC_W b) rfl rfl rfl rfl rfl rfl rfl rfl rfl (WO.nil ?_)))))
  cases h1 : Y.isUn b with
  | true =>
    refine W.condT rfl ?_
    refine W.seq (W.region rfl (WO.go rfl (WO.gives (unC_W) rfl rfl rfl rfl rfl rfl rfl rfl rfl (WO.go rfl (WO.nil (W.ret (.ret [.agg (cT .un)] rfl ?_)))))))
    simp [resOf, T.call, h1]
  | false =>
    refine W.condF rfl (W.skip ?_)
    refine W.seq (W.seq (W.region rfl (WO.go rfl (WO.gives (unitC_W a) rfl rfl rfl rfl rfl rfl rfl rfl rfl (WO.nil ?_)))))
    cases h2 : Y.isUn a with
    | true =>
      refine W.condT rfl ?_
      refine W.seq (W.region rfl (WO.go rfl (WO.nil (W.ret (.ret [.agg (cT f)] rfl ?_)))))
      simp [resOf, T.call, h1, h2]
    | false =>
      refine W.condF rfl (W.skip ?_)
      refine W.seq (W.region rfl (WO.go rfl (WO.gives (nodeC_W 3 [f, t]) rfl rfl rfl rfl rfl rfl rfl rfl rfl (WO.go rfl (WO.nil (W.ret (.ret [.agg (cT (.ap f t))] rfl ?_)))))))
      simp [resOf, T.call, h1, h2, row] <;> rfl
theorem partL_W (a b : Y) (t : T) : Gives (AC X) 239 [.int .i64 11, .agg (cY a), .agg (cY b), .agg (cT t)] (.agg (cT (T.left a b t))) := by
  refine givesW (fn := Tryz.f239) Tryz.func239 rfl rfl rfl ?_
  refine W.seq (W.region rfl (WO.go rfl (WO.nil ?_)))
  refine W.seq (W.seq (W.region rfl (WO.go rfl (WO.gives (unitC_W a) rfl rfl rfl rfl rfl rfl rfl rfl rfl (WO.nil ?_)))))
  cases h1 : Y.isUn a with
  | true =>
    refine W.condT rfl ?_
    refine W.seq (W.region rfl (WO.go rfl (WO.gives (unC_W) rfl rfl rfl rfl rfl rfl rfl rfl rfl (WO.go rfl (WO.nil (W.ret (.ret [.agg (cT .un)] rfl ?_)))))))
    simp [resOf, T.left, h1]
  | false =>
    refine W.condF rfl (W.skip ?_)
    refine W.seq (W.seq (W.region rfl (WO.go rfl (WO.gives (unitC_W b) rfl rfl rfl rfl rfl rfl rfl rfl rfl (WO.nil ?_)))))
    cases h2 : Y.isUn b with
    | true =>
      refine W.condT rfl ?_
      refine W.seq (W.region rfl (WO.go rfl (WO.nil (W.ret (.ret [.agg (cT t)] rfl ?_)))))
      simp [resOf, T.left, h1, h2]
    | false =>
      refine W.condF rfl (W.skip ?_)
      refine W.seq (W.region rfl (WO.go rfl (WO.gives (nodeC_W 11 [t]) rfl rfl rfl rfl rfl rfl rfl rfl rfl (WO.go rfl (WO.nil (W.ret (.ret [.agg (cT (.fs t))] rfl ?_)))))))
      simp [resOf, T.left, h1, h2, row] <;> rfl
theorem partR_W (a b : Y) (t : T) : Gives (AC X) 239 [.int .i64 12, .agg (cY b), .agg (cY a), .agg (cT t)] (.agg (cT (T.right a b t))) := by
  refine givesW (fn := Tryz.f239) Tryz.func239 rfl rfl rfl ?_
  refine W.seq (W.region rfl (WO.go rfl (WO.nil ?_)))
  refine W.seq (W.seq (W.region rfl (WO.go rfl (WO.gives (unitC_W b) rfl rfl rfl rfl rfl rfl rfl rfl rfl (WO.nil ?_)))))
  cases h1 : Y.isUn b with
  | true =>
    refine W.condT rfl ?_
    refine W.seq (W.region rfl (WO.go rfl (WO.gives (unC_W) rfl rfl rfl rfl rfl rfl rfl rfl rfl (WO.go rfl (WO.nil (W.ret (.ret [.agg (cT .un)] rfl ?_)))))))
    simp [resOf, T.right, h1]
  | false =>
    refine W.condF rfl (W.skip ?_)
    refine W.seq (W.seq (W.region rfl (WO.go rfl (WO.gives (unitC_W a) rfl rfl rfl rfl rfl rfl rfl rfl rfl (WO.nil ?_)))))
    cases h2 : Y.isUn a with
    | true =>
      refine W.condT rfl ?_
      refine W.seq (W.region rfl (WO.go rfl (WO.nil (W.ret (.ret [.agg (cT t)] rfl ?_)))))
      simp [resOf, T.right, h1, h2]
    | false =>
      refine W.condF rfl (W.skip ?_)
      refine W.seq (W.region rfl (WO.go rfl (WO.gives (nodeC_W 12 [t]) rfl rfl rfl rfl rfl rfl rfl rfl rfl (WO.go rfl (WO.nil (W.ret (.ret [.agg (cT (.sn t))] rfl ?_)))))))
      simp [resOf, T.right, h1, h2, row] <;> rfl
theorem leftC_W (a b : Y) (t : T) : Gives (AC X) 212 [.agg (cY a), .agg (cY b), .agg (cT t)] (.agg (cT (T.left a b t))) := by
  refine givesW (fn := Tryz.f212) Tryz.func212 rfl rfl rfl ?_
  refine W.seq (W.region rfl (WO.go rfl (WO.nil ?_)))
  refine W.seq (W.region rfl (WO.go rfl (WO.gives (partL_W a b t) rfl rfl rfl rfl rfl rfl rfl rfl rfl (WO.go rfl (WO.nil ?_)))))
  exact W.ret (.ret [_] rfl rfl)
theorem rightC_W (a b : Y) (t : T) : Gives (AC X) 213 [.agg (cY a), .agg (cY b), .agg (cT t)] (.agg (cT (T.right a b t))) := by
  refine givesW (fn := Tryz.f213) Tryz.func213 rfl rfl rfl ?_
  refine W.seq (W.region rfl (WO.go rfl (WO.nil ?_)))
  refine W.seq (W.region rfl (WO.go rfl (WO.gives (partR_W a b t) rfl rfl rfl rfl rfl rfl rfl rfl rfl (WO.go rfl (WO.nil ?_)))))
  exact W.ret (.ret [_] rfl rfl)
end Go.Proofs.YtjdlmhbkfammlabGreatDoor
namespace Go.Proofs.YtjdlmhbkfammlabGreatDoor
open Go Go.Sh
set_option linter.unusedVariables false
set_option linter.unusedSimpArgs false
set_option maxHeartbeats 4000000
variable {X : CRel}
/-! tree: types and terms have their form -/
theorem typeNodes_W : ∀ (t : Y), t.size ≤ 1000000 → Gives (AC X) 227 [.agg (cY t)] (.tup [.int .i64 t.size, .bool true]) := by
  intro t
  induction t with
  | nat =>
    intro _
    refine givesW (fn := Tryz.f227) Tryz.func227 rfl rfl rfl ?_
    repeat (first | refine W.condT rfl ?_ | refine W.condF rfl ?_ | refine W.seq ?_ | refine W.block ?_ | refine W.skip ?_ | refine WO.nil ?_ | refine WD.nil (WO.go rfl ?_) | refine W.region rfl (WO.go rfl ?_) | refine WO.append0 rfl rfl rfl rfl rfl rfl rfl rfl rfl (WO.go rfl ?_) | refine WO.appendF (by simp) (by exact lens_ok rfl) (by exact lens_ok rfl) (by first | decide | simp) (by first | decide | simp) rfl rfl rfl rfl rfl rfl rfl rfl rfl rfl (WO.go rfl ?_) | refine WO.appendI (by simp) (by exact lens_ok rfl) (by first | decide | simp) (by first | decide | simp) rfl rfl rfl rfl rfl rfl rfl rfl rfl rfl (WO.go rfl ?_) | refine W.loop ?_ | refine W.exit ?_)
    exact W.ret (.ret [.int .i64 1, .bool true] rfl rfl)
  | list =>
    intro _
    refine givesW (fn := Tryz.f227) Tryz.func227 rfl rfl rfl ?_
    repeat (first | refine W.condT rfl ?_ | refine W.condF rfl ?_ | refine W.seq ?_ | refine W.block ?_ | refine W.skip ?_ | refine WO.nil ?_ | refine WD.nil (WO.go rfl ?_) | refine W.region rfl (WO.go rfl ?_) | refine WO.append0 rfl rfl rfl rfl rfl rfl rfl rfl rfl (WO.go rfl ?_) | refine WO.appendF (by simp) (by exact lens_ok rfl) (by exact lens_ok rfl) (by first | decide | simp) (by first | decide | simp) rfl rfl rfl rfl rfl rfl rfl rfl rfl rfl (WO.go rfl ?_) | refine WO.appendI (by simp) (by exact lens_ok rfl) (by first | decide | simp) (by first | decide | simp) rfl rfl rfl rfl rfl rfl rfl rfl rfl rfl (WO.go rfl ?_) | refine W.loop ?_ | refine W.exit ?_)
    exact W.ret (.ret [.int .i64 1, .bool true] rfl rfl)
  | unit =>
    intro _
    refine givesW (fn := Tryz.f227) Tryz.func227 rfl rfl rfl ?_
    repeat (first | refine W.condT rfl ?_ | refine W.condF rfl ?_ | refine W.seq ?_ | refine W.block ?_ | refine W.skip ?_ | refine WO.nil ?_ | refine WD.nil (WO.go rfl ?_) | refine W.region rfl (WO.go rfl ?_) | refine WO.append0 rfl rfl rfl rfl rfl rfl rfl rfl rfl (WO.go rfl ?_) | refine WO.appendF (by simp) (by exact lens_ok rfl) (by exact lens_ok rfl) (by first | decide | simp) (by first | decide | simp) rfl rfl rfl rfl rfl rfl rfl rfl rfl rfl (WO.go rfl ?_) | refine WO.appendI (by simp) (by exact lens_ok rfl) (by first | decide | simp) (by first | decide | simp) rfl rfl rfl rfl rfl rfl rfl rfl rfl rfl (WO.go rfl ?_) | refine W.loop ?_ | refine W.exit ?_)
    exact W.ret (.ret [.int .i64 1, .bool true] rfl rfl)
  | pair a b iha ihb =>
    intro h
    simp only [Y.size] at h
    have ha := iha (by omega)
    have hb := ihb (by omega)
    refine givesW (fn := Tryz.f227) Tryz.func227 rfl rfl rfl ?_
    repeat (first | refine W.condT rfl ?_ | refine W.condF rfl ?_ | refine W.seq ?_ | refine W.block ?_ | refine W.skip ?_ | refine WO.nil ?_ | refine WD.nil (WO.go rfl ?_) | refine W.region rfl (WO.go rfl ?_) | refine WO.givesT ha rfl rfl rfl rfl rfl rfl rfl rfl rfl (WO.go rfl ?_) | refine WD.givesT ha rfl rfl rfl rfl rfl rfl rfl rfl rfl (WD.go rfl ?_) | refine WO.givesT hb rfl rfl rfl rfl rfl rfl rfl rfl rfl (WO.go rfl ?_) | refine WD.givesT hb rfl rfl rfl rfl rfl rfl rfl rfl rfl (WD.go rfl ?_) | refine WO.append0 rfl rfl rfl rfl rfl rfl rfl rfl rfl (WO.go rfl ?_) | refine WO.appendF (by simp) (by exact lens_ok rfl) (by exact lens_ok rfl) (by first | decide | simp) (by first | decide | simp) rfl rfl rfl rfl rfl rfl rfl rfl rfl rfl (WO.go rfl ?_) | refine WO.appendI (by simp) (by exact lens_ok rfl) (by first | decide | simp) (by first | decide | simp) rfl rfl rfl rfl rfl rfl rfl rfl rfl rfl (WO.go rfl ?_) | refine W.loop ?_ | refine W.exit ?_)
    refine W.ret (.ret [_, .bool true] rfl ?_)
    simp (disch := omega) only [resOf, wrap_id, Y.size]
    congr 3
    all_goals omega
  | fn a b iha ihb =>
    intro h
    simp only [Y.size] at h
    have ha := iha (by omega)
    have hb := ihb (by omega)
    refine givesW (fn := Tryz.f227) Tryz.func227 rfl rfl rfl ?_
    repeat (first | refine W.condT rfl ?_ | refine W.condF rfl ?_ | refine W.seq ?_ | refine W.block ?_ | refine W.skip ?_ | refine WO.nil ?_ | refine WD.nil (WO.go rfl ?_) | refine W.region rfl (WO.go rfl ?_) | refine WO.givesT ha rfl rfl rfl rfl rfl rfl rfl rfl rfl (WO.go rfl ?_) | refine WD.givesT ha rfl rfl rfl rfl rfl rfl rfl rfl rfl (WD.go rfl ?_) | refine WO.givesT hb rfl rfl rfl rfl rfl rfl rfl rfl rfl (WO.go rfl ?_) | refine WD.givesT hb rfl rfl rfl rfl rfl rfl rfl rfl rfl (WD.go rfl ?_) | refine WO.append0 rfl rfl rfl rfl rfl rfl rfl rfl rfl (WO.go rfl ?_) | refine WO.appendF (by simp) (by exact lens_ok rfl) (by exact lens_ok rfl) (by first | decide | simp) (by first | decide | simp) rfl rfl rfl rfl rfl rfl rfl rfl rfl rfl (WO.go rfl ?_) | refine WO.appendI (by simp) (by exact lens_ok rfl) (by first | decide | simp) (by first | decide | simp) rfl rfl rfl rfl rfl rfl rfl rfl rfl rfl (WO.go rfl ?_) | refine W.loop ?_ | refine W.exit ?_)
    refine W.ret (.ret [_, .bool true] rfl ?_)
    simp (disch := omega) only [resOf, wrap_id, Y.size]
    congr 3
    all_goals omega
theorem checkType_W (t : Y) (h : t.size ≤ 1000000) (h2 : t.size ≤ 64) : Gives (AC X) 186 [.agg (cY t)] (.tup [.int .i64 t.size, .int .i64 0]) := by
  refine givesW (fn := Tryz.f186) Tryz.func186 rfl rfl rfl ?_
  repeat (first | refine W.condT rfl ?_ | refine W.condF rfl ?_ | refine W.seq ?_ | refine W.block ?_ | refine W.skip ?_ | refine WO.nil ?_ | refine WD.nil (WO.go rfl ?_) | refine W.region rfl (WO.go rfl ?_) | refine WO.givesT (typeNodes_W t h) rfl rfl rfl rfl rfl rfl rfl rfl rfl (WO.go rfl ?_) | refine WD.givesT (typeNodes_W t h) rfl rfl rfl rfl rfl rfl rfl rfl rfl (WD.go rfl ?_) | refine WO.append0 rfl rfl rfl rfl rfl rfl rfl rfl rfl (WO.go rfl ?_) | refine WO.appendF (by simp) (by exact lens_ok rfl) (by exact lens_ok rfl) (by first | decide | simp) (by first | decide | simp) rfl rfl rfl rfl rfl rfl rfl rfl rfl rfl (WO.go rfl ?_) | refine WO.appendI (by simp) (by exact lens_ok rfl) (by first | decide | simp) (by first | decide | simp) rfl rfl rfl rfl rfl rfl rfl rfl rfl rfl (WO.go rfl ?_) | refine W.loop ?_ | refine W.exit ?_)
  refine W.cond rfl (fun h => ?_) (fun _ => ?_)
  · simp at h; omega
  repeat (first | refine W.condT rfl ?_ | refine W.condF rfl ?_ | refine W.seq ?_ | refine W.block ?_ | refine W.skip ?_ | refine WO.nil ?_ | refine WD.nil (WO.go rfl ?_) | refine W.region rfl (WO.go rfl ?_) | refine WO.append0 rfl rfl rfl rfl rfl rfl rfl rfl rfl (WO.go rfl ?_) | refine WO.appendF (by simp) (by exact lens_ok rfl) (by exact lens_ok rfl) (by first | decide | simp) (by first | decide | simp) rfl rfl rfl rfl rfl rfl rfl rfl rfl rfl (WO.go rfl ?_) | refine WO.appendI (by simp) (by exact lens_ok rfl) (by first | decide | simp) (by first | decide | simp) rfl rfl rfl rfl rfl rfl rfl rfl rfl rfl (WO.go rfl ?_) | refine W.loop ?_ | refine W.exit ?_)
  exact W.ret (.ret [_, _] rfl rfl)
theorem arity_W (x : T) : Gives (AC X) 245 [.int .i64 (kT x)] (.tup [.int .i64 x.args.length, .bool true]) := by
  cases x <;>
  · refine givesW (fn := Tryz.f245) Tryz.func245 rfl rfl rfl ?_
    repeat (first | refine W.condT rfl ?_ | refine W.condF rfl ?_ | refine W.seq ?_ | refine W.block ?_ | refine W.skip ?_ | refine WO.nil ?_ | refine WD.nil (WO.go rfl ?_) | refine W.region rfl (WO.go rfl ?_) | refine WO.append0 rfl rfl rfl rfl rfl rfl rfl rfl rfl (WO.go rfl ?_) | refine WO.appendF (by simp) (by exact lens_ok rfl) (by exact lens_ok rfl) (by first | decide | simp) (by first | decide | simp) rfl rfl rfl rfl rfl rfl rfl rfl rfl rfl (WO.go rfl ?_) | refine WO.appendI (by simp) (by exact lens_ok rfl) (by first | decide | simp) (by first | decide | simp) rfl rfl rfl rfl rfl rfl rfl rfl rfl rfl (WO.go rfl ?_) | refine W.loop ?_ | refine W.exit ?_)
    exact W.ret (.ret [_, _] rfl rfl)
theorem typed_W (x : T) : Gives (AC X) 246 [.int .i64 (kT x)] (.bool (decide (x.typ ≠ none))) := by
  cases x <;>
  · refine givesW (fn := Tryz.f246) Tryz.func246 rfl rfl rfl ?_
    repeat (first | refine W.condT rfl ?_ | refine W.condF rfl ?_ | refine W.seq ?_ | refine W.block ?_ | refine W.skip ?_ | refine WO.nil ?_ | refine WD.nil (WO.go rfl ?_) | refine W.region rfl (WO.go rfl ?_) | refine WO.append0 rfl rfl rfl rfl rfl rfl rfl rfl rfl (WO.go rfl ?_) | refine WO.appendF (by simp) (by exact lens_ok rfl) (by exact lens_ok rfl) (by first | decide | simp) (by first | decide | simp) rfl rfl rfl rfl rfl rfl rfl rfl rfl rfl (WO.go rfl ?_) | refine WO.appendI (by simp) (by exact lens_ok rfl) (by first | decide | simp) (by first | decide | simp) rfl rfl rfl rfl rfl rfl rfl rfl rfl rfl (WO.go rfl ?_) | refine W.loop ?_ | refine W.exit ?_)
    exact W.ret (.ret [_] rfl rfl)
theorem noType_W : Gives (AC X) 247 [.agg [.int .i64 0, .sl .no []]] (.bool true) := by
  refine givesW (fn := Tryz.f247) Tryz.func247 rfl rfl rfl ?_
  repeat (first | refine W.condT rfl ?_ | refine W.condF rfl ?_ | refine W.seq ?_ | refine W.block ?_ | refine W.skip ?_ | refine WO.nil ?_ | refine WD.nil (WO.go rfl ?_) | refine W.region rfl (WO.go rfl ?_) | refine WO.append0 rfl rfl rfl rfl rfl rfl rfl rfl rfl (WO.go rfl ?_) | refine WO.appendF (by simp) (by exact lens_ok rfl) (by exact lens_ok rfl) (by first | decide | simp) (by first | decide | simp) rfl rfl rfl rfl rfl rfl rfl rfl rfl rfl (WO.go rfl ?_) | refine WO.appendI (by simp) (by exact lens_ok rfl) (by first | decide | simp) (by first | decide | simp) rfl rfl rfl rfl rfl rfl rfl rfl rfl rfl (WO.go rfl ?_) | refine W.loop ?_ | refine W.exit ?_)
  exact W.ret (.ret [_] rfl rfl)
theorem termNodes_W : ∀ (x : T), x.size ≤ 1000000 → x.tyLe 64 → Gives (AC X) 220 [.agg (cT x)] (.tup [.int .i64 x.size, .bool true]) := by
  intro x
  induction x with
  | vr i =>
    intro hs ht
    cases i <;>
    · simp only [T.size, T.tyLe] at hs ht
      refine givesW (fn := Tryz.f220) Tryz.func220 rfl rfl rfl ?_
      repeat (first | refine W.condT rfl ?_ | refine W.condF rfl ?_ | refine W.seq ?_ | refine W.block ?_ | refine W.skip ?_ | refine WO.nil ?_ | refine WD.nil (WO.go rfl ?_) | refine W.region rfl (WO.go rfl ?_) | refine WO.givesT (arity_W (.vr _)) rfl rfl rfl rfl rfl rfl rfl rfl rfl (WO.go rfl ?_) | refine WD.givesT (arity_W (.vr _)) rfl rfl rfl rfl rfl rfl rfl rfl rfl (WD.go rfl ?_) | refine WO.gives (typed_W (.vr _)) rfl rfl rfl rfl rfl rfl rfl rfl rfl (WO.go rfl ?_) | refine WD.gives (typed_W (.vr _)) rfl rfl rfl rfl rfl rfl rfl rfl rfl (WD.go rfl ?_) | refine WO.gives noType_W rfl rfl rfl rfl rfl rfl rfl rfl rfl (WO.go rfl ?_) | refine WD.gives noType_W rfl rfl rfl rfl rfl rfl rfl rfl rfl (WD.go rfl ?_) | refine WO.append0 rfl rfl rfl rfl rfl rfl rfl rfl rfl (WO.go rfl ?_) | refine WO.appendF (by simp) (by exact lens_ok rfl) (by exact lens_ok rfl) (by first | decide | simp) (by first | decide | simp) rfl rfl rfl rfl rfl rfl rfl rfl rfl rfl (WO.go rfl ?_) | refine WO.appendI (by simp) (by exact lens_ok rfl) (by first | decide | simp) (by first | decide | simp) rfl rfl rfl rfl rfl rfl rfl rfl rfl rfl (WO.go rfl ?_) | refine W.loop ?_ | refine W.exit ?_)
      exact W.ret (.ret [.int .i64 1, .bool true] rfl rfl)
  | lm s b i0 =>
    intro hs ht
    simp only [T.size, T.tyLe] at hs ht
    have h0 := i0 (by omega) ht.2
    refine givesW (fn := Tryz.f220) Tryz.func220 rfl rfl rfl ?_
    repeat (first | refine W.condT rfl ?_ | refine W.condF rfl ?_ | refine W.seq ?_ | refine W.block ?_ | refine W.skip ?_ | refine WO.nil ?_ | refine WD.nil (WO.go rfl ?_) | refine W.region rfl (WO.go rfl ?_) | refine WO.givesT (arity_W (.lm s b)) rfl rfl rfl rfl rfl rfl rfl rfl rfl (WO.go rfl ?_) | refine WD.givesT (arity_W (.lm s b)) rfl rfl rfl rfl rfl rfl rfl rfl rfl (WD.go rfl ?_) | refine WO.gives (typed_W (.lm s b)) rfl rfl rfl rfl rfl rfl rfl rfl rfl (WO.go rfl ?_) | refine WD.gives (typed_W (.lm s b)) rfl rfl rfl rfl rfl rfl rfl rfl rfl (WD.go rfl ?_) | refine WO.givesT h0 rfl rfl rfl rfl rfl rfl rfl rfl rfl (WO.go rfl ?_) | refine WD.givesT h0 rfl rfl rfl rfl rfl rfl rfl rfl rfl (WD.go rfl ?_) | refine WO.givesT (checkType_W s (by have := ht.1; omega) ht.1) rfl rfl rfl rfl rfl rfl rfl rfl rfl (WO.go rfl ?_) | refine WD.givesT (checkType_W s (by have := ht.1; omega) ht.1) rfl rfl rfl rfl rfl rfl rfl rfl rfl (WD.go rfl ?_) | refine WO.append0 rfl rfl rfl rfl rfl rfl rfl rfl rfl (WO.go rfl ?_) | refine WO.appendF (by simp) (by exact lens_ok rfl) (by exact lens_ok rfl) (by first | decide | simp) (by first | decide | simp) rfl rfl rfl rfl rfl rfl rfl rfl rfl rfl (WO.go rfl ?_) | refine WO.appendI (by simp) (by exact lens_ok rfl) (by first | decide | simp) (by first | decide | simp) rfl rfl rfl rfl rfl rfl rfl rfl rfl rfl (WO.go rfl ?_) | refine W.loop ?_ | refine W.exit ?_)
    refine W.ret (.ret [_, .bool true] rfl ?_)
    simp (disch := omega) only [resOf, wrap_id, T.size]
    congr 3
    all_goals omega
  | ap f a i0 i1 =>
    intro hs ht
    simp only [T.size, T.tyLe] at hs ht
    have h0 := i0 (by omega) ht.1
    have h1 := i1 (by omega) ht.2
    refine givesW (fn := Tryz.f220) Tryz.func220 rfl rfl rfl ?_
    repeat (first | refine W.condT rfl ?_ | refine W.condF rfl ?_ | refine W.seq ?_ | refine W.block ?_ | refine W.skip ?_ | refine WO.nil ?_ | refine WD.nil (WO.go rfl ?_) | refine W.region rfl (WO.go rfl ?_) | refine WO.givesT (arity_W (.ap f a)) rfl rfl rfl rfl rfl rfl rfl rfl rfl (WO.go rfl ?_) | refine WD.givesT (arity_W (.ap f a)) rfl rfl rfl rfl rfl rfl rfl rfl rfl (WD.go rfl ?_) | refine WO.gives (typed_W (.ap f a)) rfl rfl rfl rfl rfl rfl rfl rfl rfl (WO.go rfl ?_) | refine WD.gives (typed_W (.ap f a)) rfl rfl rfl rfl rfl rfl rfl rfl rfl (WD.go rfl ?_) | refine WO.givesT h0 rfl rfl rfl rfl rfl rfl rfl rfl rfl (WO.go rfl ?_) | refine WD.givesT h0 rfl rfl rfl rfl rfl rfl rfl rfl rfl (WD.go rfl ?_) | refine WO.givesT h1 rfl rfl rfl rfl rfl rfl rfl rfl rfl (WO.go rfl ?_) | refine WD.givesT h1 rfl rfl rfl rfl rfl rfl rfl rfl rfl (WD.go rfl ?_) | refine WO.gives noType_W rfl rfl rfl rfl rfl rfl rfl rfl rfl (WO.go rfl ?_) | refine WD.gives noType_W rfl rfl rfl rfl rfl rfl rfl rfl rfl (WD.go rfl ?_) | refine WO.append0 rfl rfl rfl rfl rfl rfl rfl rfl rfl (WO.go rfl ?_) | refine WO.appendF (by simp) (by exact lens_ok rfl) (by exact lens_ok rfl) (by first | decide | simp) (by first | decide | simp) rfl rfl rfl rfl rfl rfl rfl rfl rfl rfl (WO.go rfl ?_) | refine WO.appendI (by simp) (by exact lens_ok rfl) (by first | decide | simp) (by first | decide | simp) rfl rfl rfl rfl rfl rfl rfl rfl rfl rfl (WO.go rfl ?_) | refine W.loop ?_ | refine W.exit ?_)
    refine W.ret (.ret [_, .bool true] rfl ?_)
    simp (disch := omega) only [resOf, wrap_id, T.size]
    congr 3
    all_goals omega
  | ze =>
    intro hs ht
    simp only [T.size, T.tyLe] at hs ht
    refine givesW (fn := Tryz.f220) Tryz.func220 rfl rfl rfl ?_
    repeat (first | refine W.condT rfl ?_ | refine W.condF rfl ?_ | refine W.seq ?_ | refine W.block ?_ | refine W.skip ?_ | refine WO.nil ?_ | refine WD.nil (WO.go rfl ?_) | refine W.region rfl (WO.go rfl ?_) | refine WO.givesT (arity_W .ze) rfl rfl rfl rfl rfl rfl rfl rfl rfl (WO.go rfl ?_) | refine WD.givesT (arity_W .ze) rfl rfl rfl rfl rfl rfl rfl rfl rfl (WD.go rfl ?_) | refine WO.gives (typed_W .ze) rfl rfl rfl rfl rfl rfl rfl rfl rfl (WO.go rfl ?_) | refine WD.gives (typed_W .ze) rfl rfl rfl rfl rfl rfl rfl rfl rfl (WD.go rfl ?_) | refine WO.gives noType_W rfl rfl rfl rfl rfl rfl rfl rfl rfl (WO.go rfl ?_) | refine WD.gives noType_W rfl rfl rfl rfl rfl rfl rfl rfl rfl (WD.go rfl ?_) | refine WO.append0 rfl rfl rfl rfl rfl rfl rfl rfl rfl (WO.go rfl ?_) | refine WO.appendF (by simp) (by exact lens_ok rfl) (by exact lens_ok rfl) (by first | decide | simp) (by first | decide | simp) rfl rfl rfl rfl rfl rfl rfl rfl rfl rfl (WO.go rfl ?_) | refine WO.appendI (by simp) (by exact lens_ok rfl) (by first | decide | simp) (by first | decide | simp) rfl rfl rfl rfl rfl rfl rfl rfl rfl rfl (WO.go rfl ?_) | refine W.loop ?_ | refine W.exit ?_)
    exact W.ret (.ret [.int .i64 1, .bool true] rfl rfl)
  | su n i0 =>
    intro hs ht
    simp only [T.size, T.tyLe] at hs ht
    have h0 := i0 (by omega) ht
    refine givesW (fn := Tryz.f220) Tryz.func220 rfl rfl rfl ?_
    repeat (first | refine W.condT rfl ?_ | refine W.condF rfl ?_ | refine W.seq ?_ | refine W.block ?_ | refine W.skip ?_ | refine WO.nil ?_ | refine WD.nil (WO.go rfl ?_) | refine W.region rfl (WO.go rfl ?_) | refine WO.givesT (arity_W (.su n)) rfl rfl rfl rfl rfl rfl rfl rfl rfl (WO.go rfl ?_) | refine WD.givesT (arity_W (.su n)) rfl rfl rfl rfl rfl rfl rfl rfl rfl (WD.go rfl ?_) | refine WO.gives (typed_W (.su n)) rfl rfl rfl rfl rfl rfl rfl rfl rfl (WO.go rfl ?_) | refine WD.gives (typed_W (.su n)) rfl rfl rfl rfl rfl rfl rfl rfl rfl (WD.go rfl ?_) | refine WO.givesT h0 rfl rfl rfl rfl rfl rfl rfl rfl rfl (WO.go rfl ?_) | refine WD.givesT h0 rfl rfl rfl rfl rfl rfl rfl rfl rfl (WD.go rfl ?_) | refine WO.gives noType_W rfl rfl rfl rfl rfl rfl rfl rfl rfl (WO.go rfl ?_) | refine WD.gives noType_W rfl rfl rfl rfl rfl rfl rfl rfl rfl (WD.go rfl ?_) | refine WO.append0 rfl rfl rfl rfl rfl rfl rfl rfl rfl (WO.go rfl ?_) | refine WO.appendF (by simp) (by exact lens_ok rfl) (by exact lens_ok rfl) (by first | decide | simp) (by first | decide | simp) rfl rfl rfl rfl rfl rfl rfl rfl rfl rfl (WO.go rfl ?_) | refine WO.appendI (by simp) (by exact lens_ok rfl) (by first | decide | simp) (by first | decide | simp) rfl rfl rfl rfl rfl rfl rfl rfl rfl rfl (WO.go rfl ?_) | refine W.loop ?_ | refine W.exit ?_)
    refine W.ret (.ret [_, .bool true] rfl ?_)
    simp (disch := omega) only [resOf, wrap_id, T.size]
    congr 3
    all_goals omega
  | rc s b f n i0 i1 i2 =>
    intro hs ht
    simp only [T.size, T.tyLe] at hs ht
    have h0 := i0 (by omega) ht.2.1
    have h1 := i1 (by omega) ht.2.2.1
    have h2 := i2 (by omega) ht.2.2.2
    refine givesW (fn := Tryz.f220) Tryz.func220 rfl rfl rfl ?_
    repeat (first | refine W.condT rfl ?_ | refine W.condF rfl ?_ | refine W.seq ?_ | refine W.block ?_ | refine W.skip ?_ | refine WO.nil ?_ | refine WD.nil (WO.go rfl ?_) | refine W.region rfl (WO.go rfl ?_) | refine WO.givesT (arity_W (.rc s b f n)) rfl rfl rfl rfl rfl rfl rfl rfl rfl (WO.go rfl ?_) | refine WD.givesT (arity_W (.rc s b f n)) rfl rfl rfl rfl rfl rfl rfl rfl rfl (WD.go rfl ?_) | refine WO.gives (typed_W (.rc s b f n)) rfl rfl rfl rfl rfl rfl rfl rfl rfl (WO.go rfl ?_) | refine WD.gives (typed_W (.rc s b f n)) rfl rfl rfl rfl rfl rfl rfl rfl rfl (WD.go rfl ?_) | refine WO.givesT h0 rfl rfl rfl rfl rfl rfl rfl rfl rfl (WO.go rfl ?_) | refine WD.givesT h0 rfl rfl rfl rfl rfl rfl rfl rfl rfl (WD.go rfl ?_) | refine WO.givesT h1 rfl rfl rfl rfl rfl rfl rfl rfl rfl (WO.go rfl ?_) | refine WD.givesT h1 rfl rfl rfl rfl rfl rfl rfl rfl rfl (WD.go rfl ?_) | refine WO.givesT h2 rfl rfl rfl rfl rfl rfl rfl rfl rfl (WO.go rfl ?_) | refine WD.givesT h2 rfl rfl rfl rfl rfl rfl rfl rfl rfl (WD.go rfl ?_) | refine WO.givesT (checkType_W s (by have := ht.1; omega) ht.1) rfl rfl rfl rfl rfl rfl rfl rfl rfl (WO.go rfl ?_) | refine WD.givesT (checkType_W s (by have := ht.1; omega) ht.1) rfl rfl rfl rfl rfl rfl rfl rfl rfl (WD.go rfl ?_) | refine WO.append0 rfl rfl rfl rfl rfl rfl rfl rfl rfl (WO.go rfl ?_) | refine WO.appendF (by simp) (by exact lens_ok rfl) (by exact lens_ok rfl) (by first | decide | simp) (by first | decide | simp) rfl rfl rfl rfl rfl rfl rfl rfl rfl rfl (WO.go rfl ?_) | refine WO.appendI (by simp) (by exact lens_ok rfl) (by first | decide | simp) (by first | decide | simp) rfl rfl rfl rfl rfl rfl rfl rfl rfl rfl (WO.go rfl ?_) | refine W.loop ?_ | refine W.exit ?_)
    refine W.ret (.ret [_, .bool true] rfl ?_)
    simp (disch := omega) only [resOf, wrap_id, T.size]
    congr 3
    all_goals omega
  | nl =>
    intro hs ht
    simp only [T.size, T.tyLe] at hs ht
    refine givesW (fn := Tryz.f220) Tryz.func220 rfl rfl rfl ?_
    repeat (first | refine W.condT rfl ?_ | refine W.condF rfl ?_ | refine W.seq ?_ | refine W.block ?_ | refine W.skip ?_ | refine WO.nil ?_ | refine WD.nil (WO.go rfl ?_) | refine W.region rfl (WO.go rfl ?_) | refine WO.givesT (arity_W .nl) rfl rfl rfl rfl rfl rfl rfl rfl rfl (WO.go rfl ?_) | refine WD.givesT (arity_W .nl) rfl rfl rfl rfl rfl rfl rfl rfl rfl (WD.go rfl ?_) | refine WO.gives (typed_W .nl) rfl rfl rfl rfl rfl rfl rfl rfl rfl (WO.go rfl ?_) | refine WD.gives (typed_W .nl) rfl rfl rfl rfl rfl rfl rfl rfl rfl (WD.go rfl ?_) | refine WO.gives noType_W rfl rfl rfl rfl rfl rfl rfl rfl rfl (WO.go rfl ?_) | refine WD.gives noType_W rfl rfl rfl rfl rfl rfl rfl rfl rfl (WD.go rfl ?_) | refine WO.append0 rfl rfl rfl rfl rfl rfl rfl rfl rfl (WO.go rfl ?_) | refine WO.appendF (by simp) (by exact lens_ok rfl) (by exact lens_ok rfl) (by first | decide | simp) (by first | decide | simp) rfl rfl rfl rfl rfl rfl rfl rfl rfl rfl (WO.go rfl ?_) | refine WO.appendI (by simp) (by exact lens_ok rfl) (by first | decide | simp) (by first | decide | simp) rfl rfl rfl rfl rfl rfl rfl rfl rfl rfl (WO.go rfl ?_) | refine W.loop ?_ | refine W.exit ?_)
    exact W.ret (.ret [.int .i64 1, .bool true] rfl rfl)
  | cn h l i0 i1 =>
    intro hs ht
    simp only [T.size, T.tyLe] at hs ht
    have h0 := i0 (by omega) ht.1
    have h1 := i1 (by omega) ht.2
    refine givesW (fn := Tryz.f220) Tryz.func220 rfl rfl rfl ?_
    repeat (first | refine W.condT rfl ?_ | refine W.condF rfl ?_ | refine W.seq ?_ | refine W.block ?_ | refine W.skip ?_ | refine WO.nil ?_ | refine WD.nil (WO.go rfl ?_) | refine W.region rfl (WO.go rfl ?_) | refine WO.givesT (arity_W (.cn h l)) rfl rfl rfl rfl rfl rfl rfl rfl rfl (WO.go rfl ?_) | refine WD.givesT (arity_W (.cn h l)) rfl rfl rfl rfl rfl rfl rfl rfl rfl (WD.go rfl ?_) | refine WO.gives (typed_W (.cn h l)) rfl rfl rfl rfl rfl rfl rfl rfl rfl (WO.go rfl ?_) | refine WD.gives (typed_W (.cn h l)) rfl rfl rfl rfl rfl rfl rfl rfl rfl (WD.go rfl ?_) | refine WO.givesT h0 rfl rfl rfl rfl rfl rfl rfl rfl rfl (WO.go rfl ?_) | refine WD.givesT h0 rfl rfl rfl rfl rfl rfl rfl rfl rfl (WD.go rfl ?_) | refine WO.givesT h1 rfl rfl rfl rfl rfl rfl rfl rfl rfl (WO.go rfl ?_) | refine WD.givesT h1 rfl rfl rfl rfl rfl rfl rfl rfl rfl (WD.go rfl ?_) | refine WO.gives noType_W rfl rfl rfl rfl rfl rfl rfl rfl rfl (WO.go rfl ?_) | refine WD.gives noType_W rfl rfl rfl rfl rfl rfl rfl rfl rfl (WD.go rfl ?_) | refine WO.append0 rfl rfl rfl rfl rfl rfl rfl rfl rfl (WO.go rfl ?_) | refine WO.appendF (by simp) (by exact lens_ok rfl) (by exact lens_ok rfl) (by first | decide | simp) (by first | decide | simp) rfl rfl rfl rfl rfl rfl rfl rfl rfl rfl (WO.go rfl ?_) | refine WO.appendI (by simp) (by exact lens_ok rfl) (by first | decide | simp) (by first | decide | simp) rfl rfl rfl rfl rfl rfl rfl rfl rfl rfl (WO.go rfl ?_) | refine W.loop ?_ | refine W.exit ?_)
    refine W.ret (.ret [_, .bool true] rfl ?_)
    simp (disch := omega) only [resOf, wrap_id, T.size]
    congr 3
    all_goals omega
  | fo s b f l i0 i1 i2 =>
    intro hs ht
    simp only [T.size, T.tyLe] at hs ht
    have h0 := i0 (by omega) ht.2.1
    have h1 := i1 (by omega) ht.2.2.1
    have h2 := i2 (by omega) ht.2.2.2
    refine givesW (fn := Tryz.f220) Tryz.func220 rfl rfl rfl ?_
    repeat (first | refine W.condT rfl ?_ | refine W.condF rfl ?_ | refine W.seq ?_ | refine W.block ?_ | refine W.skip ?_ | refine WO.nil ?_ | refine WD.nil (WO.go rfl ?_) | refine W.region rfl (WO.go rfl ?_) | refine WO.givesT (arity_W (.fo s b f l)) rfl rfl rfl rfl rfl rfl rfl rfl rfl (WO.go rfl ?_) | refine WD.givesT (arity_W (.fo s b f l)) rfl rfl rfl rfl rfl rfl rfl rfl rfl (WD.go rfl ?_) | refine WO.gives (typed_W (.fo s b f l)) rfl rfl rfl rfl rfl rfl rfl rfl rfl (WO.go rfl ?_) | refine WD.gives (typed_W (.fo s b f l)) rfl rfl rfl rfl rfl rfl rfl rfl rfl (WD.go rfl ?_) | refine WO.givesT h0 rfl rfl rfl rfl rfl rfl rfl rfl rfl (WO.go rfl ?_) | refine WD.givesT h0 rfl rfl rfl rfl rfl rfl rfl rfl rfl (WD.go rfl ?_) | refine WO.givesT h1 rfl rfl rfl rfl rfl rfl rfl rfl rfl (WO.go rfl ?_) | refine WD.givesT h1 rfl rfl rfl rfl rfl rfl rfl rfl rfl (WD.go rfl ?_) | refine WO.givesT h2 rfl rfl rfl rfl rfl rfl rfl rfl rfl (WO.go rfl ?_) | refine WD.givesT h2 rfl rfl rfl rfl rfl rfl rfl rfl rfl (WD.go rfl ?_) | refine WO.givesT (checkType_W s (by have := ht.1; omega) ht.1) rfl rfl rfl rfl rfl rfl rfl rfl rfl (WO.go rfl ?_) | refine WD.givesT (checkType_W s (by have := ht.1; omega) ht.1) rfl rfl rfl rfl rfl rfl rfl rfl rfl (WD.go rfl ?_) | refine WO.append0 rfl rfl rfl rfl rfl rfl rfl rfl rfl (WO.go rfl ?_) | refine WO.appendF (by simp) (by exact lens_ok rfl) (by exact lens_ok rfl) (by first | decide | simp) (by first | decide | simp) rfl rfl rfl rfl rfl rfl rfl rfl rfl rfl (WO.go rfl ?_) | refine WO.appendI (by simp) (by exact lens_ok rfl) (by first | decide | simp) (by first | decide | simp) rfl rfl rfl rfl rfl rfl rfl rfl rfl rfl (WO.go rfl ?_) | refine W.loop ?_ | refine W.exit ?_)
    refine W.ret (.ret [_, .bool true] rfl ?_)
    simp (disch := omega) only [resOf, wrap_id, T.size]
    congr 3
    all_goals omega
  | pr a b i0 i1 =>
    intro hs ht
    simp only [T.size, T.tyLe] at hs ht
    have h0 := i0 (by omega) ht.1
    have h1 := i1 (by omega) ht.2
    refine givesW (fn := Tryz.f220) Tryz.func220 rfl rfl rfl ?_
    repeat (first | refine W.condT rfl ?_ | refine W.condF rfl ?_ | refine W.seq ?_ | refine W.block ?_ | refine W.skip ?_ | refine WO.nil ?_ | refine WD.nil (WO.go rfl ?_) | refine W.region rfl (WO.go rfl ?_) | refine WO.givesT (arity_W (.pr a b)) rfl rfl rfl rfl rfl rfl rfl rfl rfl (WO.go rfl ?_) | refine WD.givesT (arity_W (.pr a b)) rfl rfl rfl rfl rfl rfl rfl rfl rfl (WD.go rfl ?_) | refine WO.gives (typed_W (.pr a b)) rfl rfl rfl rfl rfl rfl rfl rfl rfl (WO.go rfl ?_) | refine WD.gives (typed_W (.pr a b)) rfl rfl rfl rfl rfl rfl rfl rfl rfl (WD.go rfl ?_) | refine WO.givesT h0 rfl rfl rfl rfl rfl rfl rfl rfl rfl (WO.go rfl ?_) | refine WD.givesT h0 rfl rfl rfl rfl rfl rfl rfl rfl rfl (WD.go rfl ?_) | refine WO.givesT h1 rfl rfl rfl rfl rfl rfl rfl rfl rfl (WO.go rfl ?_) | refine WD.givesT h1 rfl rfl rfl rfl rfl rfl rfl rfl rfl (WD.go rfl ?_) | refine WO.gives noType_W rfl rfl rfl rfl rfl rfl rfl rfl rfl (WO.go rfl ?_) | refine WD.gives noType_W rfl rfl rfl rfl rfl rfl rfl rfl rfl (WD.go rfl ?_) | refine WO.append0 rfl rfl rfl rfl rfl rfl rfl rfl rfl (WO.go rfl ?_) | refine WO.appendF (by simp) (by exact lens_ok rfl) (by exact lens_ok rfl) (by first | decide | simp) (by first | decide | simp) rfl rfl rfl rfl rfl rfl rfl rfl rfl rfl (WO.go rfl ?_) | refine WO.appendI (by simp) (by exact lens_ok rfl) (by first | decide | simp) (by first | decide | simp) rfl rfl rfl rfl rfl rfl rfl rfl rfl rfl (WO.go rfl ?_) | refine W.loop ?_ | refine W.exit ?_)
    refine W.ret (.ret [_, .bool true] rfl ?_)
    simp (disch := omega) only [resOf, wrap_id, T.size]
    congr 3
    all_goals omega
  | fs p i0 =>
    intro hs ht
    simp only [T.size, T.tyLe] at hs ht
    have h0 := i0 (by omega) ht
    refine givesW (fn := Tryz.f220) Tryz.func220 rfl rfl rfl ?_
    repeat (first | refine W.condT rfl ?_ | refine W.condF rfl ?_ | refine W.seq ?_ | refine W.block ?_ | refine W.skip ?_ | refine WO.nil ?_ | refine WD.nil (WO.go rfl ?_) | refine W.region rfl (WO.go rfl ?_) | refine WO.givesT (arity_W (.fs p)) rfl rfl rfl rfl rfl rfl rfl rfl rfl (WO.go rfl ?_) | refine WD.givesT (arity_W (.fs p)) rfl rfl rfl rfl rfl rfl rfl rfl rfl (WD.go rfl ?_) | refine WO.gives (typed_W (.fs p)) rfl rfl rfl rfl rfl rfl rfl rfl rfl (WO.go rfl ?_) | refine WD.gives (typed_W (.fs p)) rfl rfl rfl rfl rfl rfl rfl rfl rfl (WD.go rfl ?_) | refine WO.givesT h0 rfl rfl rfl rfl rfl rfl rfl rfl rfl (WO.go rfl ?_) | refine WD.givesT h0 rfl rfl rfl rfl rfl rfl rfl rfl rfl (WD.go rfl ?_) | refine WO.gives noType_W rfl rfl rfl rfl rfl rfl rfl rfl rfl (WO.go rfl ?_) | refine WD.gives noType_W rfl rfl rfl rfl rfl rfl rfl rfl rfl (WD.go rfl ?_) | refine WO.append0 rfl rfl rfl rfl rfl rfl rfl rfl rfl (WO.go rfl ?_) | refine WO.appendF (by simp) (by exact lens_ok rfl) (by exact lens_ok rfl) (by first | decide | simp) (by first | decide | simp) rfl rfl rfl rfl rfl rfl rfl rfl rfl rfl (WO.go rfl ?_) | refine WO.appendI (by simp) (by exact lens_ok rfl) (by first | decide | simp) (by first | decide | simp) rfl rfl rfl rfl rfl rfl rfl rfl rfl rfl (WO.go rfl ?_) | refine W.loop ?_ | refine W.exit ?_)
    refine W.ret (.ret [_, .bool true] rfl ?_)
    simp (disch := omega) only [resOf, wrap_id, T.size]
    congr 3
    all_goals omega
  | sn p i0 =>
    intro hs ht
    simp only [T.size, T.tyLe] at hs ht
    have h0 := i0 (by omega) ht
    refine givesW (fn := Tryz.f220) Tryz.func220 rfl rfl rfl ?_
    repeat (first | refine W.condT rfl ?_ | refine W.condF rfl ?_ | refine W.seq ?_ | refine W.block ?_ | refine W.skip ?_ | refine WO.nil ?_ | refine WD.nil (WO.go rfl ?_) | refine W.region rfl (WO.go rfl ?_) | refine WO.givesT (arity_W (.sn p)) rfl rfl rfl rfl rfl rfl rfl rfl rfl (WO.go rfl ?_) | refine WD.givesT (arity_W (.sn p)) rfl rfl rfl rfl rfl rfl rfl rfl rfl (WD.go rfl ?_) | refine WO.gives (typed_W (.sn p)) rfl rfl rfl rfl rfl rfl rfl rfl rfl (WO.go rfl ?_) | refine WD.gives (typed_W (.sn p)) rfl rfl rfl rfl rfl rfl rfl rfl rfl (WD.go rfl ?_) | refine WO.givesT h0 rfl rfl rfl rfl rfl rfl rfl rfl rfl (WO.go rfl ?_) | refine WD.givesT h0 rfl rfl rfl rfl rfl rfl rfl rfl rfl (WD.go rfl ?_) | refine WO.gives noType_W rfl rfl rfl rfl rfl rfl rfl rfl rfl (WO.go rfl ?_) | refine WD.gives noType_W rfl rfl rfl rfl rfl rfl rfl rfl rfl (WD.go rfl ?_) | refine WO.append0 rfl rfl rfl rfl rfl rfl rfl rfl rfl (WO.go rfl ?_) | refine WO.appendF (by simp) (by exact lens_ok rfl) (by exact lens_ok rfl) (by first | decide | simp) (by first | decide | simp) rfl rfl rfl rfl rfl rfl rfl rfl rfl rfl (WO.go rfl ?_) | refine WO.appendI (by simp) (by exact lens_ok rfl) (by first | decide | simp) (by first | decide | simp) rfl rfl rfl rfl rfl rfl rfl rfl rfl rfl (WO.go rfl ?_) | refine W.loop ?_ | refine W.exit ?_)
    refine W.ret (.ret [_, .bool true] rfl ?_)
    simp (disch := omega) only [resOf, wrap_id, T.size]
    congr 3
    all_goals omega
  | un =>
    intro hs ht
    simp only [T.size, T.tyLe] at hs ht
    refine givesW (fn := Tryz.f220) Tryz.func220 rfl rfl rfl ?_
    repeat (first | refine W.condT rfl ?_ | refine W.condF rfl ?_ | refine W.seq ?_ | refine W.block ?_ | refine W.skip ?_ | refine WO.nil ?_ | refine WD.nil (WO.go rfl ?_) | refine W.region rfl (WO.go rfl ?_) | refine WO.givesT (arity_W .un) rfl rfl rfl rfl rfl rfl rfl rfl rfl (WO.go rfl ?_) | refine WD.givesT (arity_W .un) rfl rfl rfl rfl rfl rfl rfl rfl rfl (WD.go rfl ?_) | refine WO.gives (typed_W .un) rfl rfl rfl rfl rfl rfl rfl rfl rfl (WO.go rfl ?_) | refine WD.gives (typed_W .un) rfl rfl rfl rfl rfl rfl rfl rfl rfl (WD.go rfl ?_) | refine WO.gives noType_W rfl rfl rfl rfl rfl rfl rfl rfl rfl (WO.go rfl ?_) | refine WD.gives noType_W rfl rfl rfl rfl rfl rfl rfl rfl rfl (WD.go rfl ?_) | refine WO.append0 rfl rfl rfl rfl rfl rfl rfl rfl rfl (WO.go rfl ?_) | refine WO.appendF (by simp) (by exact lens_ok rfl) (by exact lens_ok rfl) (by first | decide | simp) (by first | decide | simp) rfl rfl rfl rfl rfl rfl rfl rfl rfl rfl (WO.go rfl ?_) | refine WO.appendI (by simp) (by exact lens_ok rfl) (by first | decide | simp) (by first | decide | simp) rfl rfl rfl rfl rfl rfl rfl rfl rfl rfl (WO.go rfl ?_) | refine W.loop ?_ | refine W.exit ?_)
    exact W.ret (.ret [.int .i64 1, .bool true] rfl rfl)
end Go.Proofs.YtjdlmhbkfammlabGreatDoor
