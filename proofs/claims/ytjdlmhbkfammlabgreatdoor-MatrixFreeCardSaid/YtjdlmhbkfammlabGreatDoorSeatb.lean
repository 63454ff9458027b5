/- A part of the proof: walks of the functions. -/
import Derived.Test.YtjdlmhbkfammlabGreatDoorSeata
namespace Go.Proofs.YtjdlmhbkfammlabGreatDoor
open Go Go.Sh
set_option linter.unusedVariables false
set_option linter.unusedSimpArgs false
set_option maxHeartbeats 4000000
variable {X : CRel}
/-! forms of formulas -/
theorem checkTypeL_W (t : Y) (h : t.size ≤ 1000000) (h2 : ¬ t.size ≤ 64) : Gives (AC X) 186 [.agg (cY t)] (.tup [.int .i64 0, .int .i64 4]) := by
  refine givesW (fn := Tryz.f186) Tryz.func186 rfl rfl rfl ?_
  repeat (first | refine W.condT rfl ?_ | refine W.condF rfl ?_ | refine W.seq ?_ | refine W.block ?_ | refine W.skip ?_ | refine WO.nil ?_ | refine WD.nil (WO.go rfl ?_) | refine W.region rfl (WO.go rfl ?_) | refine WO.givesT (typeNodes_W t h) rfl rfl rfl rfl rfl rfl rfl rfl rfl (WO.go rfl ?_) | refine WD.givesT (typeNodes_W t h) rfl rfl rfl rfl rfl rfl rfl rfl rfl (WD.go rfl ?_) | refine WO.append0 rfl rfl rfl rfl rfl rfl rfl rfl rfl (WO.go rfl ?_) | refine WO.appendF (by simp) (by exact lens_ok rfl) (by exact lens_ok rfl) (by first | decide | simp) (by first | decide | simp) rfl rfl rfl rfl rfl rfl rfl rfl rfl rfl (WO.go rfl ?_) | refine WO.appendI (by simp) (by exact lens_ok rfl) (by first | decide | simp) (by first | decide | simp) rfl rfl rfl rfl rfl rfl rfl rfl rfl rfl (WO.go rfl ?_) | refine W.loop ?_ | refine W.exit ?_)
  refine W.cond rfl (fun _ => ?_) (fun h => ?_)
  · repeat (first | refine W.condT rfl ?_ | refine W.condF rfl ?_ | refine W.seq ?_ | refine W.block ?_ | refine W.skip ?_ | refine WO.nil ?_ | refine WD.nil (WO.go rfl ?_) | refine W.region rfl (WO.go rfl ?_) | refine WO.append0 rfl rfl rfl rfl rfl rfl rfl rfl rfl (WO.go rfl ?_) | refine WO.appendF (by simp) (by exact lens_ok rfl) (by exact lens_ok rfl) (by first | decide | simp) (by first | decide | simp) rfl rfl rfl rfl rfl rfl rfl rfl rfl rfl (WO.go rfl ?_) | refine WO.appendI (by simp) (by exact lens_ok rfl) (by first | decide | simp) (by first | decide | simp) rfl rfl rfl rfl rfl rfl rfl rfl rfl rfl (WO.go rfl ?_) | refine W.loop ?_ | refine W.exit ?_)
    exact W.ret (.ret [_, _] rfl rfl)
  · simp at h; omega
def chk (t : Y) : Int := if t.size ≤ 64 then 0 else 4
theorem typesCheck_W (t : Y) (h : t.size ≤ 1000000) : Gives (AC X) 132 [.agg (cY t)] (.int .i64 (chk t)) := by
  unfold chk
  by_cases h2 : t.size ≤ 64
  · rw [if_pos h2]
    refine givesW (fn := Tryz.f132) Tryz.func132 rfl rfl rfl ?_
    repeat (first | refine W.condT rfl ?_ | refine W.condF rfl ?_ | refine W.seq ?_ | refine W.block ?_ | refine W.skip ?_ | refine WO.nil ?_ | refine WD.nil (WO.go rfl ?_) | refine W.region rfl (WO.go rfl ?_) | refine WO.givesT (checkType_W t h h2) rfl rfl rfl rfl rfl rfl rfl rfl rfl (WO.go rfl ?_) | refine WD.givesT (checkType_W t h h2) rfl rfl rfl rfl rfl rfl rfl rfl rfl (WD.go rfl ?_) | refine WO.append0 rfl rfl rfl rfl rfl rfl rfl rfl rfl (WO.go rfl ?_) | refine WO.appendF (by simp) (by exact lens_ok rfl) (by exact lens_ok rfl) (by first | decide | simp) (by first | decide | simp) rfl rfl rfl rfl rfl rfl rfl rfl rfl rfl (WO.go rfl ?_) | refine WO.appendI (by simp) (by exact lens_ok rfl) (by first | decide | simp) (by first | decide | simp) rfl rfl rfl rfl rfl rfl rfl rfl rfl rfl (WO.go rfl ?_) | refine W.loop ?_ | refine W.exit ?_)
    exact W.ret (.ret [_] rfl rfl)
  · rw [if_neg h2]
    refine givesW (fn := Tryz.f132) Tryz.func132 rfl rfl rfl ?_
    repeat (first | refine W.condT rfl ?_ | refine W.condF rfl ?_ | refine W.seq ?_ | refine W.block ?_ | refine W.skip ?_ | refine WO.nil ?_ | refine WD.nil (WO.go rfl ?_) | refine W.region rfl (WO.go rfl ?_) | refine WO.givesT (checkTypeL_W t h h2) rfl rfl rfl rfl rfl rfl rfl rfl rfl (WO.go rfl ?_) | refine WD.givesT (checkTypeL_W t h h2) rfl rfl rfl rfl rfl rfl rfl rfl rfl (WD.go rfl ?_) | refine WO.append0 rfl rfl rfl rfl rfl rfl rfl rfl rfl (WO.go rfl ?_) | refine WO.appendF (by simp) (by exact lens_ok rfl) (by exact lens_ok rfl) (by first | decide | simp) (by first | decide | simp) rfl rfl rfl rfl rfl rfl rfl rfl rfl rfl (WO.go rfl ?_) | refine WO.appendI (by simp) (by exact lens_ok rfl) (by first | decide | simp) (by first | decide | simp) rfl rfl rfl rfl rfl rfl rfl rfl rfl rfl (WO.go rfl ?_) | refine W.loop ?_ | refine W.exit ?_)
    exact W.ret (.ret [_] rfl rfl)
theorem formed_W (f : Fo) (h : f.tyLe 64) : Gives (AC X) 248 [.agg (cF f)] (.bool true) := by
  match f, h with
  | .eq a b, h =>
    refine givesW (fn := Tryz.f248) Tryz.func248 rfl rfl rfl ?_
    repeat (first | refine W.condT rfl ?_ | refine W.condF rfl ?_ | refine W.seq ?_ | refine W.block ?_ | refine W.skip ?_ | refine WO.nil ?_ | refine WD.nil (WO.go rfl ?_) | refine W.region rfl (WO.go rfl ?_) | refine WO.gives noType_W rfl rfl rfl rfl rfl rfl rfl rfl rfl (WO.go rfl ?_) | refine WD.gives noType_W rfl rfl rfl rfl rfl rfl rfl rfl rfl (WD.go rfl ?_) | refine WO.append0 rfl rfl rfl rfl rfl rfl rfl rfl rfl (WO.go rfl ?_) | refine WO.appendF (by simp) (by exact lens_ok rfl) (by exact lens_ok rfl) (by first | decide | simp) (by first | decide | simp) rfl rfl rfl rfl rfl rfl rfl rfl rfl rfl (WO.go rfl ?_) | refine WO.appendI (by simp) (by exact lens_ok rfl) (by first | decide | simp) (by first | decide | simp) rfl rfl rfl rfl rfl rfl rfl rfl rfl rfl (WO.go rfl ?_) | refine W.loop ?_ | refine W.exit ?_)
    exact W.ret (.ret [_] rfl rfl)
  | .bi .an f g, h =>
    refine givesW (fn := Tryz.f248) Tryz.func248 rfl rfl rfl ?_
    repeat (first | refine W.condT rfl ?_ | refine W.condF rfl ?_ | refine W.seq ?_ | refine W.block ?_ | refine W.skip ?_ | refine WO.nil ?_ | refine WD.nil (WO.go rfl ?_) | refine W.region rfl (WO.go rfl ?_) | refine WO.gives noType_W rfl rfl rfl rfl rfl rfl rfl rfl rfl (WO.go rfl ?_) | refine WD.gives noType_W rfl rfl rfl rfl rfl rfl rfl rfl rfl (WD.go rfl ?_) | refine WO.append0 rfl rfl rfl rfl rfl rfl rfl rfl rfl (WO.go rfl ?_) | refine WO.appendF (by simp) (by exact lens_ok rfl) (by exact lens_ok rfl) (by first | decide | simp) (by first | decide | simp) rfl rfl rfl rfl rfl rfl rfl rfl rfl rfl (WO.go rfl ?_) | refine WO.appendI (by simp) (by exact lens_ok rfl) (by first | decide | simp) (by first | decide | simp) rfl rfl rfl rfl rfl rfl rfl rfl rfl rfl (WO.go rfl ?_) | refine W.loop ?_ | refine W.exit ?_)
    exact W.ret (.ret [_] rfl rfl)
  | .bi .im f g, h =>
    refine givesW (fn := Tryz.f248) Tryz.func248 rfl rfl rfl ?_
    repeat (first | refine W.condT rfl ?_ | refine W.condF rfl ?_ | refine W.seq ?_ | refine W.block ?_ | refine W.skip ?_ | refine WO.nil ?_ | refine WD.nil (WO.go rfl ?_) | refine W.region rfl (WO.go rfl ?_) | refine WO.gives noType_W rfl rfl rfl rfl rfl rfl rfl rfl rfl (WO.go rfl ?_) | refine WD.gives noType_W rfl rfl rfl rfl rfl rfl rfl rfl rfl (WD.go rfl ?_) | refine WO.append0 rfl rfl rfl rfl rfl rfl rfl rfl rfl (WO.go rfl ?_) | refine WO.appendF (by simp) (by exact lens_ok rfl) (by exact lens_ok rfl) (by first | decide | simp) (by first | decide | simp) rfl rfl rfl rfl rfl rfl rfl rfl rfl rfl (WO.go rfl ?_) | refine WO.appendI (by simp) (by exact lens_ok rfl) (by first | decide | simp) (by first | decide | simp) rfl rfl rfl rfl rfl rfl rfl rfl rfl rfl (WO.go rfl ?_) | refine W.loop ?_ | refine W.exit ?_)
    exact W.ret (.ret [_] rfl rfl)
  | .q .al s f, h =>
    refine givesW (fn := Tryz.f248) Tryz.func248 rfl rfl rfl ?_
    repeat (first | refine W.condT rfl ?_ | refine W.condF rfl ?_ | refine W.seq ?_ | refine W.block ?_ | refine W.skip ?_ | refine WO.nil ?_ | refine WD.nil (WO.go rfl ?_) | refine W.region rfl (WO.go rfl ?_) | refine WO.givesT (checkType_W s (by have := h.1; omega) h.1) rfl rfl rfl rfl rfl rfl rfl rfl rfl (WO.go rfl ?_) | refine WD.givesT (checkType_W s (by have := h.1; omega) h.1) rfl rfl rfl rfl rfl rfl rfl rfl rfl (WD.go rfl ?_) | refine WO.append0 rfl rfl rfl rfl rfl rfl rfl rfl rfl (WO.go rfl ?_) | refine WO.appendF (by simp) (by exact lens_ok rfl) (by exact lens_ok rfl) (by first | decide | simp) (by first | decide | simp) rfl rfl rfl rfl rfl rfl rfl rfl rfl rfl (WO.go rfl ?_) | refine WO.appendI (by simp) (by exact lens_ok rfl) (by first | decide | simp) (by first | decide | simp) rfl rfl rfl rfl rfl rfl rfl rfl rfl rfl (WO.go rfl ?_) | refine W.loop ?_ | refine W.exit ?_)
    exact W.ret (.ret [_] rfl rfl)
  | .q .ex s f, h =>
    refine givesW (fn := Tryz.f248) Tryz.func248 rfl rfl rfl ?_
    repeat (first | refine W.condT rfl ?_ | refine W.condF rfl ?_ | refine W.seq ?_ | refine W.block ?_ | refine W.skip ?_ | refine WO.nil ?_ | refine WD.nil (WO.go rfl ?_) | refine W.region rfl (WO.go rfl ?_) | refine WO.givesT (checkType_W s (by have := h.1; omega) h.1) rfl rfl rfl rfl rfl rfl rfl rfl rfl (WO.go rfl ?_) | refine WD.givesT (checkType_W s (by have := h.1; omega) h.1) rfl rfl rfl rfl rfl rfl rfl rfl rfl (WD.go rfl ?_) | refine WO.append0 rfl rfl rfl rfl rfl rfl rfl rfl rfl (WO.go rfl ?_) | refine WO.appendF (by simp) (by exact lens_ok rfl) (by exact lens_ok rfl) (by first | decide | simp) (by first | decide | simp) rfl rfl rfl rfl rfl rfl rfl rfl rfl rfl (WO.go rfl ?_) | refine WO.appendI (by simp) (by exact lens_ok rfl) (by first | decide | simp) (by first | decide | simp) rfl rfl rfl rfl rfl rfl rfl rfl rfl rfl (WO.go rfl ?_) | refine W.loop ?_ | refine W.exit ?_)
    exact W.ret (.ret [_] rfl rfl)
  | .q .au s f, h =>
    refine givesW (fn := Tryz.f248) Tryz.func248 rfl rfl rfl ?_
    repeat (first | refine W.condT rfl ?_ | refine W.condF rfl ?_ | refine W.seq ?_ | refine W.block ?_ | refine W.skip ?_ | refine WO.nil ?_ | refine WD.nil (WO.go rfl ?_) | refine W.region rfl (WO.go rfl ?_) | refine WO.givesT (checkType_W s (by have := h.1; omega) h.1) rfl rfl rfl rfl rfl rfl rfl rfl rfl (WO.go rfl ?_) | refine WD.givesT (checkType_W s (by have := h.1; omega) h.1) rfl rfl rfl rfl rfl rfl rfl rfl rfl (WD.go rfl ?_) | refine WO.append0 rfl rfl rfl rfl rfl rfl rfl rfl rfl (WO.go rfl ?_) | refine WO.appendF (by simp) (by exact lens_ok rfl) (by exact lens_ok rfl) (by first | decide | simp) (by first | decide | simp) rfl rfl rfl rfl rfl rfl rfl rfl rfl rfl (WO.go rfl ?_) | refine WO.appendI (by simp) (by exact lens_ok rfl) (by first | decide | simp) (by first | decide | simp) rfl rfl rfl rfl rfl rfl rfl rfl rfl rfl (WO.go rfl ?_) | refine W.loop ?_ | refine W.exit ?_)
    exact W.ret (.ret [_] rfl rfl)
  | .q .eu s f, h =>
    refine givesW (fn := Tryz.f248) Tryz.func248 rfl rfl rfl ?_
    repeat (first | refine W.condT rfl ?_ | refine W.condF rfl ?_ | refine W.seq ?_ | refine W.block ?_ | refine W.skip ?_ | refine WO.nil ?_ | refine WD.nil (WO.go rfl ?_) | refine W.region rfl (WO.go rfl ?_) | refine WO.givesT (checkType_W s (by have := h.1; omega) h.1) rfl rfl rfl rfl rfl rfl rfl rfl rfl (WO.go rfl ?_) | refine WD.givesT (checkType_W s (by have := h.1; omega) h.1) rfl rfl rfl rfl rfl rfl rfl rfl rfl (WD.go rfl ?_) | refine WO.append0 rfl rfl rfl rfl rfl rfl rfl rfl rfl (WO.go rfl ?_) | refine WO.appendF (by simp) (by exact lens_ok rfl) (by exact lens_ok rfl) (by first | decide | simp) (by first | decide | simp) rfl rfl rfl rfl rfl rfl rfl rfl rfl rfl (WO.go rfl ?_) | refine WO.appendI (by simp) (by exact lens_ok rfl) (by first | decide | simp) (by first | decide | simp) rfl rfl rfl rfl rfl rfl rfl rfl rfl rfl (WO.go rfl ?_) | refine W.loop ?_ | refine W.exit ?_)
    exact W.ret (.ret [_] rfl rfl)
theorem formulaNodes_W : ∀ (f : Fo), f.size ≤ 1000000 → f.tyLe 64 → Gives (AC X) 224 [.agg (cF f)] (.tup [.int .i64 f.size, .bool true])
  | .eq a b, hs, ht => by
    simp only [Fo.size] at hs
    have hf := formed_W (X := X) (.eq a b) ht
    simp only [Fo.tyLe] at ht
    have h0 := termNodes_W (X := X) a (by omega) ht.1
    have h1 := termNodes_W (X := X) b (by omega) ht.2
    refine givesW (fn := Tryz.f224) Tryz.func224 rfl rfl rfl ?_
    repeat (first | refine W.condT rfl ?_ | refine W.condF rfl ?_ | refine W.seq ?_ | refine W.block ?_ | refine W.skip ?_ | refine WO.nil ?_ | refine WD.nil (WO.go rfl ?_) | refine W.region rfl (WO.go rfl ?_) | refine WO.gives hf rfl rfl rfl rfl rfl rfl rfl rfl rfl (WO.go rfl ?_) | refine WD.gives hf rfl rfl rfl rfl rfl rfl rfl rfl rfl (WD.go rfl ?_) | refine WO.givesT h0 rfl rfl rfl rfl rfl rfl rfl rfl rfl (WO.go rfl ?_) | refine WD.givesT h0 rfl rfl rfl rfl rfl rfl rfl rfl rfl (WD.go rfl ?_) | refine WO.givesT h1 rfl rfl rfl rfl rfl rfl rfl rfl rfl (WO.go rfl ?_) | refine WD.givesT h1 rfl rfl rfl rfl rfl rfl rfl rfl rfl (WD.go rfl ?_) | refine WO.append0 rfl rfl rfl rfl rfl rfl rfl rfl rfl (WO.go rfl ?_) | refine WO.appendF (by simp) (by exact lens_ok rfl) (by exact lens_ok rfl) (by first | decide | simp) (by first | decide | simp) rfl rfl rfl rfl rfl rfl rfl rfl rfl rfl (WO.go rfl ?_) | refine WO.appendI (by simp) (by exact lens_ok rfl) (by first | decide | simp) (by first | decide | simp) rfl rfl rfl rfl rfl rfl rfl rfl rfl rfl (WO.go rfl ?_) | refine W.loop ?_ | refine W.exit ?_)
    refine W.ret (.ret [_, .bool true] rfl ?_)
    simp (disch := omega) only [resOf, wrap_id, Fo.size]
    congr 3
    all_goals omega
  | .bi .an f g, hs, ht => by
    simp only [Fo.size] at hs
    have hf := formed_W (X := X) (.bi .an f g) ht
    simp only [Fo.tyLe] at ht
    have h0 := formulaNodes_W f (by omega) ht.1
    have h1 := formulaNodes_W g (by omega) ht.2
    refine givesW (fn := Tryz.f224) Tryz.func224 rfl rfl rfl ?_
    repeat (first | refine W.condT rfl ?_ | refine W.condF rfl ?_ | refine W.seq ?_ | refine W.block ?_ | refine W.skip ?_ | refine WO.nil ?_ | refine WD.nil (WO.go rfl ?_) | refine W.region rfl (WO.go rfl ?_) | refine WO.gives hf rfl rfl rfl rfl rfl rfl rfl rfl rfl (WO.go rfl ?_) | refine WD.gives hf rfl rfl rfl rfl rfl rfl rfl rfl rfl (WD.go rfl ?_) | refine WO.givesT h0 rfl rfl rfl rfl rfl rfl rfl rfl rfl (WO.go rfl ?_) | refine WD.givesT h0 rfl rfl rfl rfl rfl rfl rfl rfl rfl (WD.go rfl ?_) | refine WO.givesT h1 rfl rfl rfl rfl rfl rfl rfl rfl rfl (WO.go rfl ?_) | refine WD.givesT h1 rfl rfl rfl rfl rfl rfl rfl rfl rfl (WD.go rfl ?_) | refine WO.append0 rfl rfl rfl rfl rfl rfl rfl rfl rfl (WO.go rfl ?_) | refine WO.appendF (by simp) (by exact lens_ok rfl) (by exact lens_ok rfl) (by first | decide | simp) (by first | decide | simp) rfl rfl rfl rfl rfl rfl rfl rfl rfl rfl (WO.go rfl ?_) | refine WO.appendI (by simp) (by exact lens_ok rfl) (by first | decide | simp) (by first | decide | simp) rfl rfl rfl rfl rfl rfl rfl rfl rfl rfl (WO.go rfl ?_) | refine W.loop ?_ | refine W.exit ?_)
    refine W.ret (.ret [_, .bool true] rfl ?_)
    simp (disch := omega) only [resOf, wrap_id, Fo.size]
    congr 3
    all_goals omega
  | .bi .im f g, hs, ht => by
    simp only [Fo.size] at hs
    have hf := formed_W (X := X) (.bi .im f g) ht
    simp only [Fo.tyLe] at ht
    have h0 := formulaNodes_W f (by omega) ht.1
    have h1 := formulaNodes_W g (by omega) ht.2
    refine givesW (fn := Tryz.f224) Tryz.func224 rfl rfl rfl ?_
    repeat (first | refine W.condT rfl ?_ | refine W.condF rfl ?_ | refine W.seq ?_ | refine W.block ?_ | refine W.skip ?_ | refine WO.nil ?_ | refine WD.nil (WO.go rfl ?_) | refine W.region rfl (WO.go rfl ?_) | refine WO.gives hf rfl rfl rfl rfl rfl rfl rfl rfl rfl (WO.go rfl ?_) | refine WD.gives hf rfl rfl rfl rfl rfl rfl rfl rfl rfl (WD.go rfl ?_) | refine WO.givesT h0 rfl rfl rfl rfl rfl rfl rfl rfl rfl (WO.go rfl ?_) | refine WD.givesT h0 rfl rfl rfl rfl rfl rfl rfl rfl rfl (WD.go rfl ?_) | refine WO.givesT h1 rfl rfl rfl rfl rfl rfl rfl rfl rfl (WO.go rfl ?_) | refine WD.givesT h1 rfl rfl rfl rfl rfl rfl rfl rfl rfl (WD.go rfl ?_) | refine WO.append0 rfl rfl rfl rfl rfl rfl rfl rfl rfl (WO.go rfl ?_) | refine WO.appendF (by simp) (by exact lens_ok rfl) (by exact lens_ok rfl) (by first | decide | simp) (by first | decide | simp) rfl rfl rfl rfl rfl rfl rfl rfl rfl rfl (WO.go rfl ?_) | refine WO.appendI (by simp) (by exact lens_ok rfl) (by first | decide | simp) (by first | decide | simp) rfl rfl rfl rfl rfl rfl rfl rfl rfl rfl (WO.go rfl ?_) | refine W.loop ?_ | refine W.exit ?_)
    refine W.ret (.ret [_, .bool true] rfl ?_)
    simp (disch := omega) only [resOf, wrap_id, Fo.size]
    congr 3
    all_goals omega
  | .q .al s f, hs, ht => by
    simp only [Fo.size] at hs
    have hf := formed_W (X := X) (.q .al s f) ht
    simp only [Fo.tyLe] at ht
    have h0 := formulaNodes_W f (by omega) ht.2
    refine givesW (fn := Tryz.f224) Tryz.func224 rfl rfl rfl ?_
    repeat (first | refine W.condT rfl ?_ | refine W.condF rfl ?_ | refine W.seq ?_ | refine W.block ?_ | refine W.skip ?_ | refine WO.nil ?_ | refine WD.nil (WO.go rfl ?_) | refine W.region rfl (WO.go rfl ?_) | refine WO.gives hf rfl rfl rfl rfl rfl rfl rfl rfl rfl (WO.go rfl ?_) | refine WD.gives hf rfl rfl rfl rfl rfl rfl rfl rfl rfl (WD.go rfl ?_) | refine WO.givesT h0 rfl rfl rfl rfl rfl rfl rfl rfl rfl (WO.go rfl ?_) | refine WD.givesT h0 rfl rfl rfl rfl rfl rfl rfl rfl rfl (WD.go rfl ?_) | refine WO.append0 rfl rfl rfl rfl rfl rfl rfl rfl rfl (WO.go rfl ?_) | refine WO.appendF (by simp) (by exact lens_ok rfl) (by exact lens_ok rfl) (by first | decide | simp) (by first | decide | simp) rfl rfl rfl rfl rfl rfl rfl rfl rfl rfl (WO.go rfl ?_) | refine WO.appendI (by simp) (by exact lens_ok rfl) (by first | decide | simp) (by first | decide | simp) rfl rfl rfl rfl rfl rfl rfl rfl rfl rfl (WO.go rfl ?_) | refine W.loop ?_ | refine W.exit ?_)
    refine W.ret (.ret [_, .bool true] rfl ?_)
    simp (disch := omega) only [resOf, wrap_id, Fo.size]
    congr 3
    all_goals omega
  | .q .ex s f, hs, ht => by
    simp only [Fo.size] at hs
    have hf := formed_W (X := X) (.q .ex s f) ht
    simp only [Fo.tyLe] at ht
    have h0 := formulaNodes_W f (by omega) ht.2
    refine givesW (fn := Tryz.f224) Tryz.func224 rfl rfl rfl ?_
    repeat (first | refine W.condT rfl ?_ | refine W.condF rfl ?_ | refine W.seq ?_ | refine W.block ?_ | refine W.skip ?_ | refine WO.nil ?_ | refine WD.nil (WO.go rfl ?_) | refine W.region rfl (WO.go rfl ?_) | refine WO.gives hf rfl rfl rfl rfl rfl rfl rfl rfl rfl (WO.go rfl ?_) | refine WD.gives hf rfl rfl rfl rfl rfl rfl rfl rfl rfl (WD.go rfl ?_) | refine WO.givesT h0 rfl rfl rfl rfl rfl rfl rfl rfl rfl (WO.go rfl ?_) | refine WD.givesT h0 rfl rfl rfl rfl rfl rfl rfl rfl rfl (WD.go rfl ?_) | refine WO.append0 rfl rfl rfl rfl rfl rfl rfl rfl rfl (WO.go rfl ?_) | refine WO.appendF (by simp) (by exact lens_ok rfl) (by exact lens_ok rfl) (by first | decide | simp) (by first | decide | simp) rfl rfl rfl rfl rfl rfl rfl rfl rfl rfl (WO.go rfl ?_) | refine WO.appendI (by simp) (by exact lens_ok rfl) (by first | decide | simp) (by first | decide | simp) rfl rfl rfl rfl rfl rfl rfl rfl rfl rfl (WO.go rfl ?_) | refine W.loop ?_ | refine W.exit ?_)
    refine W.ret (.ret [_, .bool true] rfl ?_)
    simp (disch := omega) only [resOf, wrap_id, Fo.size]
    congr 3
    all_goals omega
  | .q .au s f, hs, ht => by
    simp only [Fo.size] at hs
    have hf := formed_W (X := X) (.q .au s f) ht
    simp only [Fo.tyLe] at ht
    have h0 := formulaNodes_W f (by omega) ht.2
    refine givesW (fn := Tryz.f224) Tryz.func224 rfl rfl rfl ?_
    repeat (first | refine W.condT rfl ?_ | refine W.condF rfl ?_ | refine W.seq ?_ | refine W.block ?_ | refine W.skip ?_ | refine WO.nil ?_ | refine WD.nil (WO.go rfl ?_) | refine W.region rfl (WO.go rfl ?_) | refine WO.gives hf rfl rfl rfl rfl rfl rfl rfl rfl rfl (WO.go rfl ?_) | refine WD.gives hf rfl rfl rfl rfl rfl rfl rfl rfl rfl (WD.go rfl ?_) | refine WO.givesT h0 rfl rfl rfl rfl rfl rfl rfl rfl rfl (WO.go rfl ?_) | refine WD.givesT h0 rfl rfl rfl rfl rfl rfl rfl rfl rfl (WD.go rfl ?_) | refine WO.append0 rfl rfl rfl rfl rfl rfl rfl rfl rfl (WO.go rfl ?_) | refine WO.appendF (by simp) (by exact lens_ok rfl) (by exact lens_ok rfl) (by first | decide | simp) (by first | decide | simp) rfl rfl rfl rfl rfl rfl rfl rfl rfl rfl (WO.go rfl ?_) | refine WO.appendI (by simp) (by exact lens_ok rfl) (by first | decide | simp) (by first | decide | simp) rfl rfl rfl rfl rfl rfl rfl rfl rfl rfl (WO.go rfl ?_) | refine W.loop ?_ | refine W.exit ?_)
    refine W.ret (.ret [_, .bool true] rfl ?_)
    simp (disch := omega) only [resOf, wrap_id, Fo.size]
    congr 3
    all_goals omega
  | .q .eu s f, hs, ht => by
    simp only [Fo.size] at hs
    have hf := formed_W (X := X) (.q .eu s f) ht
    simp only [Fo.tyLe] at ht
    have h0 := formulaNodes_W f (by omega) ht.2
    refine givesW (fn := Tryz.f224) Tryz.func224 rfl rfl rfl ?_
    repeat (first | refine W.condT rfl ?_ | refine W.condF rfl ?_ | refine W.seq ?_ | refine W.block ?_ | refine W.skip ?_ | refine WO.nil ?_ | refine WD.nil (WO.go rfl ?_) | refine W.region rfl (WO.go rfl ?_) | refine WO.gives hf rfl rfl rfl rfl rfl rfl rfl rfl rfl (WO.go rfl ?_) | refine WD.gives hf rfl rfl rfl rfl rfl rfl rfl rfl rfl (WD.go rfl ?_) | refine WO.givesT h0 rfl rfl rfl rfl rfl rfl rfl rfl rfl (WO.go rfl ?_) | refine WD.givesT h0 rfl rfl rfl rfl rfl rfl rfl rfl rfl (WD.go rfl ?_) | refine WO.append0 rfl rfl rfl rfl rfl rfl rfl rfl rfl (WO.go rfl ?_) | refine WO.appendF (by simp) (by exact lens_ok rfl) (by exact lens_ok rfl) (by first | decide | simp) (by first | decide | simp) rfl rfl rfl rfl rfl rfl rfl rfl rfl rfl (WO.go rfl ?_) | refine WO.appendI (by simp) (by exact lens_ok rfl) (by first | decide | simp) (by first | decide | simp) rfl rfl rfl rfl rfl rfl rfl rfl rfl rfl (WO.go rfl ?_) | refine W.loop ?_ | refine W.exit ?_)
    refine W.ret (.ret [_, .bool true] rfl ?_)
    simp (disch := omega) only [resOf, wrap_id, Fo.size]
    congr 3
    all_goals omega
theorem checkFormula_W (f : Fo) (hs : f.size ≤ 4096) (ht : f.tyLe 64) : Gives (AC X) 177 [.agg (cF f)] (.tup [.int .i64 f.size, .int .i64 0]) := by
  refine givesW (fn := Tryz.f177) Tryz.func177 rfl rfl rfl ?_
  repeat (first | refine W.condT rfl ?_ | refine W.condF rfl ?_ | refine W.seq ?_ | refine W.block ?_ | refine W.skip ?_ | refine WO.nil ?_ | refine WD.nil (WO.go rfl ?_) | refine W.region rfl (WO.go rfl ?_) | refine WO.givesT (formulaNodes_W f (by omega) ht) rfl rfl rfl rfl rfl rfl rfl rfl rfl (WO.go rfl ?_) | refine WD.givesT (formulaNodes_W f (by omega) ht) rfl rfl rfl rfl rfl rfl rfl rfl rfl (WD.go rfl ?_) | refine WO.append0 rfl rfl rfl rfl rfl rfl rfl rfl rfl (WO.go rfl ?_) | refine WO.appendF (by simp) (by exact lens_ok rfl) (by exact lens_ok rfl) (by first | decide | simp) (by first | decide | simp) rfl rfl rfl rfl rfl rfl rfl rfl rfl rfl (WO.go rfl ?_) | refine WO.appendI (by simp) (by exact lens_ok rfl) (by first | decide | simp) (by first | decide | simp) rfl rfl rfl rfl rfl rfl rfl rfl rfl rfl (WO.go rfl ?_) | refine W.loop ?_ | refine W.exit ?_)
  refine W.cond rfl (fun h => ?_) (fun _ => ?_)
  · simp at h; omega
  repeat (first | refine W.condT rfl ?_ | refine W.condF rfl ?_ | refine W.seq ?_ | refine W.block ?_ | refine W.skip ?_ | refine WO.nil ?_ | refine WD.nil (WO.go rfl ?_) | refine W.region rfl (WO.go rfl ?_) | refine WO.append0 rfl rfl rfl rfl rfl rfl rfl rfl rfl (WO.go rfl ?_) | refine WO.appendF (by simp) (by exact lens_ok rfl) (by exact lens_ok rfl) (by first | decide | simp) (by first | decide | simp) rfl rfl rfl rfl rfl rfl rfl rfl rfl rfl (WO.go rfl ?_) | refine WO.appendI (by simp) (by exact lens_ok rfl) (by first | decide | simp) (by first | decide | simp) rfl rfl rfl rfl rfl rfl rfl rfl rfl rfl (WO.go rfl ?_) | refine W.loop ?_ | refine W.exit ?_)
  exact W.ret (.ret [_, _] rfl rfl)
theorem formulaCheck_W (f : Fo) (hs : f.size ≤ 4096) (ht : f.tyLe 64) : Gives (AC X) 124 [.agg (cF f)] (.int .i64 0) := by
  refine givesW (fn := Tryz.f124) Tryz.func124 rfl rfl rfl ?_
  repeat (first | refine W.condT rfl ?_ | refine W.condF rfl ?_ | refine W.seq ?_ | refine W.block ?_ | refine W.skip ?_ | refine WO.nil ?_ | refine WD.nil (WO.go rfl ?_) | refine W.region rfl (WO.go rfl ?_) | refine WO.givesT (checkFormula_W f hs ht) rfl rfl rfl rfl rfl rfl rfl rfl rfl (WO.go rfl ?_) | refine WD.givesT (checkFormula_W f hs ht) rfl rfl rfl rfl rfl rfl rfl rfl rfl (WD.go rfl ?_) | refine WO.append0 rfl rfl rfl rfl rfl rfl rfl rfl rfl (WO.go rfl ?_) | refine WO.appendF (by simp) (by exact lens_ok rfl) (by exact lens_ok rfl) (by first | decide | simp) (by first | decide | simp) rfl rfl rfl rfl rfl rfl rfl rfl rfl rfl (WO.go rfl ?_) | refine WO.appendI (by simp) (by exact lens_ok rfl) (by first | decide | simp) (by first | decide | simp) rfl rfl rfl rfl rfl rfl rfl rfl rfl rfl (WO.go rfl ?_) | refine W.loop ?_ | refine W.exit ?_)
  exact W.ret (.ret [_] rfl rfl)
theorem uniform_W : ∀ (f : Fo), f.pure → Gives (AC X) 236 [.agg (cF f)] (.bool false)
  | .eq a b, h => by
    refine givesW (fn := Tryz.f236) Tryz.func236 rfl rfl rfl ?_
    repeat (first | refine W.condT rfl ?_ | refine W.condF rfl ?_ | refine W.seq ?_ | refine W.block ?_ | refine W.skip ?_ | refine WO.nil ?_ | refine WD.nil (WO.go rfl ?_) | refine W.region rfl (WO.go rfl ?_) | refine WO.append0 rfl rfl rfl rfl rfl rfl rfl rfl rfl (WO.go rfl ?_) | refine WO.appendF (by simp) (by exact lens_ok rfl) (by exact lens_ok rfl) (by first | decide | simp) (by first | decide | simp) rfl rfl rfl rfl rfl rfl rfl rfl rfl rfl (WO.go rfl ?_) | refine WO.appendI (by simp) (by exact lens_ok rfl) (by first | decide | simp) (by first | decide | simp) rfl rfl rfl rfl rfl rfl rfl rfl rfl rfl (WO.go rfl ?_) | refine W.loop ?_ | refine W.exit ?_)
    exact W.ret (.ret [_] rfl rfl)
  | .bi .an f g, h => by
    refine givesW (fn := Tryz.f236) Tryz.func236 rfl rfl rfl ?_
    repeat (first | refine W.condT rfl ?_ | refine W.condF rfl ?_ | refine W.seq ?_ | refine W.block ?_ | refine W.skip ?_ | refine WO.nil ?_ | refine WD.nil (WO.go rfl ?_) | refine W.region rfl (WO.go rfl ?_) | refine WO.gives (uniform_W f h.1) rfl rfl rfl rfl rfl rfl rfl rfl rfl (WO.go rfl ?_) | refine WD.gives (uniform_W f h.1) rfl rfl rfl rfl rfl rfl rfl rfl rfl (WD.go rfl ?_) | refine WO.gives (uniform_W g h.2) rfl rfl rfl rfl rfl rfl rfl rfl rfl (WO.go rfl ?_) | refine WD.gives (uniform_W g h.2) rfl rfl rfl rfl rfl rfl rfl rfl rfl (WD.go rfl ?_) | refine WO.append0 rfl rfl rfl rfl rfl rfl rfl rfl rfl (WO.go rfl ?_) | refine WO.appendF (by simp) (by exact lens_ok rfl) (by exact lens_ok rfl) (by first | decide | simp) (by first | decide | simp) rfl rfl rfl rfl rfl rfl rfl rfl rfl rfl (WO.go rfl ?_) | refine WO.appendI (by simp) (by exact lens_ok rfl) (by first | decide | simp) (by first | decide | simp) rfl rfl rfl rfl rfl rfl rfl rfl rfl rfl (WO.go rfl ?_) | refine W.loop ?_ | refine W.exit ?_)
    exact W.ret (.ret [_] rfl rfl)
  | .bi .im f g, h => by
    refine givesW (fn := Tryz.f236) Tryz.func236 rfl rfl rfl ?_
    repeat (first | refine W.condT rfl ?_ | refine W.condF rfl ?_ | refine W.seq ?_ | refine W.block ?_ | refine W.skip ?_ | refine WO.nil ?_ | refine WD.nil (WO.go rfl ?_) | refine W.region rfl (WO.go rfl ?_) | refine WO.gives (uniform_W f h.1) rfl rfl rfl rfl rfl rfl rfl rfl rfl (WO.go rfl ?_) | refine WD.gives (uniform_W f h.1) rfl rfl rfl rfl rfl rfl rfl rfl rfl (WD.go rfl ?_) | refine WO.gives (uniform_W g h.2) rfl rfl rfl rfl rfl rfl rfl rfl rfl (WO.go rfl ?_) | refine WD.gives (uniform_W g h.2) rfl rfl rfl rfl rfl rfl rfl rfl rfl (WD.go rfl ?_) | refine WO.append0 rfl rfl rfl rfl rfl rfl rfl rfl rfl (WO.go rfl ?_) | refine WO.appendF (by simp) (by exact lens_ok rfl) (by exact lens_ok rfl) (by first | decide | simp) (by first | decide | simp) rfl rfl rfl rfl rfl rfl rfl rfl rfl rfl (WO.go rfl ?_) | refine WO.appendI (by simp) (by exact lens_ok rfl) (by first | decide | simp) (by first | decide | simp) rfl rfl rfl rfl rfl rfl rfl rfl rfl rfl (WO.go rfl ?_) | refine W.loop ?_ | refine W.exit ?_)
    exact W.ret (.ret [_] rfl rfl)
  | .q .al s f, h => by
    refine givesW (fn := Tryz.f236) Tryz.func236 rfl rfl rfl ?_
    repeat (first | refine W.condT rfl ?_ | refine W.condF rfl ?_ | refine W.seq ?_ | refine W.block ?_ | refine W.skip ?_ | refine WO.nil ?_ | refine WD.nil (WO.go rfl ?_) | refine W.region rfl (WO.go rfl ?_) | refine WO.gives (uniform_W f h.2) rfl rfl rfl rfl rfl rfl rfl rfl rfl (WO.go rfl ?_) | refine WD.gives (uniform_W f h.2) rfl rfl rfl rfl rfl rfl rfl rfl rfl (WD.go rfl ?_) | refine WO.append0 rfl rfl rfl rfl rfl rfl rfl rfl rfl (WO.go rfl ?_) | refine WO.appendF (by simp) (by exact lens_ok rfl) (by exact lens_ok rfl) (by first | decide | simp) (by first | decide | simp) rfl rfl rfl rfl rfl rfl rfl rfl rfl rfl (WO.go rfl ?_) | refine WO.appendI (by simp) (by exact lens_ok rfl) (by first | decide | simp) (by first | decide | simp) rfl rfl rfl rfl rfl rfl rfl rfl rfl rfl (WO.go rfl ?_) | refine W.loop ?_ | refine W.exit ?_)
    exact W.ret (.ret [_] rfl rfl)
  | .q .ex s f, h => by
    refine givesW (fn := Tryz.f236) Tryz.func236 rfl rfl rfl ?_
    repeat (first | refine W.condT rfl ?_ | refine W.condF rfl ?_ | refine W.seq ?_ | refine W.block ?_ | refine W.skip ?_ | refine WO.nil ?_ | refine WD.nil (WO.go rfl ?_) | refine W.region rfl (WO.go rfl ?_) | refine WO.gives (uniform_W f h.2) rfl rfl rfl rfl rfl rfl rfl rfl rfl (WO.go rfl ?_) | refine WD.gives (uniform_W f h.2) rfl rfl rfl rfl rfl rfl rfl rfl rfl (WD.go rfl ?_) | refine WO.append0 rfl rfl rfl rfl rfl rfl rfl rfl rfl (WO.go rfl ?_) | refine WO.appendF (by simp) (by exact lens_ok rfl) (by exact lens_ok rfl) (by first | decide | simp) (by first | decide | simp) rfl rfl rfl rfl rfl rfl rfl rfl rfl rfl (WO.go rfl ?_) | refine WO.appendI (by simp) (by exact lens_ok rfl) (by first | decide | simp) (by first | decide | simp) rfl rfl rfl rfl rfl rfl rfl rfl rfl rfl (WO.go rfl ?_) | refine W.loop ?_ | refine W.exit ?_)
    exact W.ret (.ret [_] rfl rfl)
  | .q .au s f, h => by simp [Fo.pure] at h
  | .q .eu s f, h => by simp [Fo.pure] at h
theorem sized_W (a b : Y) (ha : a.size ≤ 1000000) (hb : b.size ≤ 1000000) : Gives (AC X) 255 [.agg (cY a ++ cY b)] (rBoth (Fo.fit (a, b))) := by
  have h1 := typesCheck_W (X := X) a ha
  have h2 := typesCheck_W (X := X) b hb
  unfold chk at h1 h2
  unfold Fo.fit
  by_cases hA : a.size ≤ 64
  · rw [if_pos hA] at h1
    by_cases hB : b.size ≤ 64
    · rw [if_pos hB] at h2
      rw [if_pos ⟨hA, hB⟩]
      refine givesW (fn := Tryz.f255) Tryz.func255 rfl rfl rfl ?_
      repeat (first | refine W.condT rfl ?_ | refine W.condF rfl ?_ | refine W.seq ?_ | refine W.block ?_ | refine W.skip ?_ | refine WO.nil ?_ | refine WD.nil (WO.go rfl ?_) | refine W.region rfl (WO.go rfl ?_) | refine WO.gives h1 rfl rfl rfl rfl rfl rfl rfl rfl rfl (WO.go rfl ?_) | refine WD.gives h1 rfl rfl rfl rfl rfl rfl rfl rfl rfl (WD.go rfl ?_) | refine WO.gives h2 rfl rfl rfl rfl rfl rfl rfl rfl rfl (WO.go rfl ?_) | refine WD.gives h2 rfl rfl rfl rfl rfl rfl rfl rfl rfl (WD.go rfl ?_) | refine WO.append0 rfl rfl rfl rfl rfl rfl rfl rfl rfl (WO.go rfl ?_) | refine WO.appendF (by simp) (by exact lens_ok rfl) (by exact lens_ok rfl) (by first | decide | simp) (by first | decide | simp) rfl rfl rfl rfl rfl rfl rfl rfl rfl rfl (WO.go rfl ?_) | refine WO.appendI (by simp) (by exact lens_ok rfl) (by first | decide | simp) (by first | decide | simp) rfl rfl rfl rfl rfl rfl rfl rfl rfl rfl (WO.go rfl ?_) | refine W.loop ?_ | refine W.exit ?_)
      exact W.ret (.ret [_, _] rfl rfl)
    · rw [if_neg hB] at h2
      rw [if_neg (fun h => hB h.2)]
      refine givesW (fn := Tryz.f255) Tryz.func255 rfl rfl rfl ?_
      repeat (first | refine W.condT rfl ?_ | refine W.condF rfl ?_ | refine W.seq ?_ | refine W.block ?_ | refine W.skip ?_ | refine WO.nil ?_ | refine WD.nil (WO.go rfl ?_) | refine W.region rfl (WO.go rfl ?_) | refine WO.gives h1 rfl rfl rfl rfl rfl rfl rfl rfl rfl (WO.go rfl ?_) | refine WD.gives h1 rfl rfl rfl rfl rfl rfl rfl rfl rfl (WD.go rfl ?_) | refine WO.gives h2 rfl rfl rfl rfl rfl rfl rfl rfl rfl (WO.go rfl ?_) | refine WD.gives h2 rfl rfl rfl rfl rfl rfl rfl rfl rfl (WD.go rfl ?_) | refine WO.append0 rfl rfl rfl rfl rfl rfl rfl rfl rfl (WO.go rfl ?_) | refine WO.appendF (by simp) (by exact lens_ok rfl) (by exact lens_ok rfl) (by first | decide | simp) (by first | decide | simp) rfl rfl rfl rfl rfl rfl rfl rfl rfl rfl (WO.go rfl ?_) | refine WO.appendI (by simp) (by exact lens_ok rfl) (by first | decide | simp) (by first | decide | simp) rfl rfl rfl rfl rfl rfl rfl rfl rfl rfl (WO.go rfl ?_) | refine W.loop ?_ | refine W.exit ?_)
      exact W.ret (.ret [_, _] rfl rfl)
  · rw [if_neg hA] at h1
    rw [if_neg (fun h => hA h.1)]
    refine givesW (fn := Tryz.f255) Tryz.func255 rfl rfl rfl ?_
    repeat (first | refine W.condT rfl ?_ | refine W.condF rfl ?_ | refine W.seq ?_ | refine W.block ?_ | refine W.skip ?_ | refine WO.nil ?_ | refine WD.nil (WO.go rfl ?_) | refine W.region rfl (WO.go rfl ?_) | refine WO.gives h1 rfl rfl rfl rfl rfl rfl rfl rfl rfl (WO.go rfl ?_) | refine WD.gives h1 rfl rfl rfl rfl rfl rfl rfl rfl rfl (WD.go rfl ?_) | refine WO.gives h2 rfl rfl rfl rfl rfl rfl rfl rfl rfl (WO.go rfl ?_) | refine WD.gives h2 rfl rfl rfl rfl rfl rfl rfl rfl rfl (WD.go rfl ?_) | refine WO.append0 rfl rfl rfl rfl rfl rfl rfl rfl rfl (WO.go rfl ?_) | refine WO.appendF (by simp) (by exact lens_ok rfl) (by exact lens_ok rfl) (by first | decide | simp) (by first | decide | simp) rfl rfl rfl rfl rfl rfl rfl rfl rfl rfl (WO.go rfl ?_) | refine WO.appendI (by simp) (by exact lens_ok rfl) (by first | decide | simp) (by first | decide | simp) rfl rfl rfl rfl rfl rfl rfl rfl rfl rfl (WO.go rfl ?_) | refine W.loop ?_ | refine W.exit ?_)
    exact W.ret (.ret [_, _] rfl rfl)
/-- the types of a formula -/
theorem of28_W : ∀ (f : Fo), f.pure → f.tyLe 64 → Gives (AC X) 237 [.agg (cF f)] (rBoth f.bothE)
  | .eq a b, _, _ => by
    have hsz := sized_W (X := X) .unit .unit (by decide) (by decide)
    refine givesW (fn := Tryz.f237) Tryz.func237 rfl rfl rfl ?_
    repeat (first | refine W.condT rfl ?_ | refine W.condF rfl ?_ | refine W.seq ?_ | refine W.block ?_ | refine W.skip ?_ | refine WO.nil ?_ | refine WD.nil (WO.go rfl ?_) | refine W.region rfl (WO.go rfl ?_) | refine W.draw (id := 13) 17 [] rfl (by decide +kernel) rfl (WD.go rfl ?_) | refine W.draw (id := 15) 9 [] rfl (by decide +kernel) rfl (WD.go rfl ?_) | refine W.draw (id := 16) 18 [] rfl (by decide +kernel) rfl (WD.go rfl ?_) | refine W.draw (id := 18) 13 [] rfl (by decide +kernel) rfl (WD.go rfl ?_) | refine W.draw (id := 20) 11 [] rfl (by decide +kernel) rfl (WD.go rfl ?_) | refine WO.gives noneC_W rfl rfl rfl rfl rfl rfl rfl rfl rfl (WO.go rfl ?_) | refine WD.gives noneC_W rfl rfl rfl rfl rfl rfl rfl rfl rfl (WD.go rfl ?_) | refine WO.givesT hsz rfl rfl rfl rfl rfl rfl rfl rfl rfl (WO.go rfl ?_) | refine WD.givesT hsz rfl rfl rfl rfl rfl rfl rfl rfl rfl (WD.go rfl ?_) | refine WO.append0 rfl rfl rfl rfl rfl rfl rfl rfl rfl (WO.go rfl ?_) | refine WO.appendF (by simp) (by exact lens_ok rfl) (by exact lens_ok rfl) (by first | decide | simp) (by first | decide | simp) rfl rfl rfl rfl rfl rfl rfl rfl rfl rfl (WO.go rfl ?_) | refine WO.appendI (by simp) (by exact lens_ok rfl) (by first | decide | simp) (by first | decide | simp) rfl rfl rfl rfl rfl rfl rfl rfl rfl rfl (WO.go rfl ?_) | refine W.loop ?_ | refine W.exit ?_)
    exact W.ret (.ret [_, _] rfl rfl)
  | .bi .an f g, hp, ht => by
    have hf := of28_W f hp.1 ht.1
    have hg := of28_W g hp.2 ht.2
    simp only [Fo.bothE]
    cases ef : f.bothE with
    | none =>
      rw [ef] at hf
      refine givesW (fn := Tryz.f237) Tryz.func237 rfl rfl rfl ?_
      repeat (first | refine W.condT rfl ?_ | refine W.condF rfl ?_ | refine W.seq ?_ | refine W.block ?_ | refine W.skip ?_ | refine WO.nil ?_ | refine WD.nil (WO.go rfl ?_) | refine W.region rfl (WO.go rfl ?_) | refine W.draw (id := 13) 17 [] rfl (by decide +kernel) rfl (WD.go rfl ?_) | refine W.draw (id := 15) 9 [] rfl (by decide +kernel) rfl (WD.go rfl ?_) | refine W.draw (id := 16) 18 [] rfl (by decide +kernel) rfl (WD.go rfl ?_) | refine W.draw (id := 18) 13 [] rfl (by decide +kernel) rfl (WD.go rfl ?_) | refine W.draw (id := 20) 11 [] rfl (by decide +kernel) rfl (WD.go rfl ?_) | refine WO.givesT hf rfl rfl rfl rfl rfl rfl rfl rfl rfl (WO.go rfl ?_) | refine WD.givesT hf rfl rfl rfl rfl rfl rfl rfl rfl rfl (WD.go rfl ?_) | refine WO.givesT hg rfl rfl rfl rfl rfl rfl rfl rfl rfl (WO.go rfl ?_) | refine WD.givesT hg rfl rfl rfl rfl rfl rfl rfl rfl rfl (WD.go rfl ?_) | refine WO.append0 rfl rfl rfl rfl rfl rfl rfl rfl rfl (WO.go rfl ?_) | refine WO.appendF (by simp) (by exact lens_ok rfl) (by exact lens_ok rfl) (by first | decide | simp) (by first | decide | simp) rfl rfl rfl rfl rfl rfl rfl rfl rfl rfl (WO.go rfl ?_) | refine WO.appendI (by simp) (by exact lens_ok rfl) (by first | decide | simp) (by first | decide | simp) rfl rfl rfl rfl rfl rfl rfl rfl rfl rfl (WO.go rfl ?_) | refine W.loop ?_ | refine W.exit ?_)
      exact W.ret (.ret [_, _] rfl rfl)
    | some p =>
      obtain ⟨pw, pc⟩ := p
      have hpl := Fo.bothE_le ef
      rw [ef] at hf
      cases eg : g.bothE with
      | none =>
        rw [eg] at hg
        refine givesW (fn := Tryz.f237) Tryz.func237 rfl rfl rfl ?_
        repeat (first | refine W.condT rfl ?_ | refine W.condF rfl ?_ | refine W.seq ?_ | refine W.block ?_ | refine W.skip ?_ | refine WO.nil ?_ | refine WD.nil (WO.go rfl ?_) | refine W.region rfl (WO.go rfl ?_) | refine W.draw (id := 13) 17 [] rfl (by decide +kernel) rfl (WD.go rfl ?_) | refine W.draw (id := 15) 9 [] rfl (by decide +kernel) rfl (WD.go rfl ?_) | refine W.draw (id := 16) 18 [] rfl (by decide +kernel) rfl (WD.go rfl ?_) | refine W.draw (id := 18) 13 [] rfl (by decide +kernel) rfl (WD.go rfl ?_) | refine W.draw (id := 20) 11 [] rfl (by decide +kernel) rfl (WD.go rfl ?_) | refine WO.givesT hf rfl rfl rfl rfl rfl rfl rfl rfl rfl (WO.go rfl ?_) | refine WD.givesT hf rfl rfl rfl rfl rfl rfl rfl rfl rfl (WD.go rfl ?_) | refine WO.givesT hg rfl rfl rfl rfl rfl rfl rfl rfl rfl (WO.go rfl ?_) | refine WD.givesT hg rfl rfl rfl rfl rfl rfl rfl rfl rfl (WD.go rfl ?_) | refine WO.append0 rfl rfl rfl rfl rfl rfl rfl rfl rfl (WO.go rfl ?_) | refine WO.appendF (by simp) (by exact lens_ok rfl) (by exact lens_ok rfl) (by first | decide | simp) (by first | decide | simp) rfl rfl rfl rfl rfl rfl rfl rfl rfl rfl (WO.go rfl ?_) | refine WO.appendI (by simp) (by exact lens_ok rfl) (by first | decide | simp) (by first | decide | simp) rfl rfl rfl rfl rfl rfl rfl rfl rfl rfl (WO.go rfl ?_) | refine W.loop ?_ | refine W.exit ?_)
        exact W.ret (.ret [_, _] rfl rfl)
      | some q =>
        obtain ⟨qw, qc⟩ := q
        have hql := Fo.bothE_le eg
        rw [eg] at hg
        simp only at hpl hql
        have l1 := Y.prs_le pw qw
        have l2 := Y.prs_le pc qc
        have hsz := sized_W (X := X) (Y.prs pw qw) (Y.prs pc qc) (by omega) (by omega)
        have hc1 := pairC_W (X := X) pw qw
        have hc2 := pairC_W (X := X) pc qc
        show Gives _ _ _ (rBoth (Fo.fit (Y.prs pw qw, Y.prs pc qc)))
        generalize Y.prs pw qw = r1 at *
        generalize Y.prs pc qc = r2 at *
        cases hfit : Fo.fit (r1, r2) with
        | none =>
          rw [hfit] at hsz
          refine givesW (fn := Tryz.f237) Tryz.func237 rfl rfl rfl ?_
          repeat (first | refine W.condT rfl ?_ | refine W.condF rfl ?_ | refine W.seq ?_ | refine W.block ?_ | refine W.skip ?_ | refine WO.nil ?_ | refine WD.nil (WO.go rfl ?_) | refine W.region rfl (WO.go rfl ?_) | refine W.draw (id := 13) 17 [] rfl (by decide +kernel) rfl (WD.go rfl ?_) | refine W.draw (id := 15) 9 [] rfl (by decide +kernel) rfl (WD.go rfl ?_) | refine W.draw (id := 16) 18 [] rfl (by decide +kernel) rfl (WD.go rfl ?_) | refine W.draw (id := 18) 13 [] rfl (by decide +kernel) rfl (WD.go rfl ?_) | refine W.draw (id := 20) 11 [] rfl (by decide +kernel) rfl (WD.go rfl ?_) | refine WO.givesT hf rfl rfl rfl rfl rfl rfl rfl rfl rfl (WO.go rfl ?_) | refine WD.givesT hf rfl rfl rfl rfl rfl rfl rfl rfl rfl (WD.go rfl ?_) | refine WO.givesT hg rfl rfl rfl rfl rfl rfl rfl rfl rfl (WO.go rfl ?_) | refine WD.givesT hg rfl rfl rfl rfl rfl rfl rfl rfl rfl (WD.go rfl ?_) | refine WO.gives noneC_W rfl rfl rfl rfl rfl rfl rfl rfl rfl (WO.go rfl ?_) | refine WD.gives noneC_W rfl rfl rfl rfl rfl rfl rfl rfl rfl (WD.go rfl ?_) | refine WO.gives hc1 rfl rfl rfl rfl rfl rfl rfl rfl rfl (WO.go rfl ?_) | refine WD.gives hc1 rfl rfl rfl rfl rfl rfl rfl rfl rfl (WD.go rfl ?_) | refine WO.gives hc2 rfl rfl rfl rfl rfl rfl rfl rfl rfl (WO.go rfl ?_) | refine WD.gives hc2 rfl rfl rfl rfl rfl rfl rfl rfl rfl (WD.go rfl ?_) | refine WO.givesT hsz rfl rfl rfl rfl rfl rfl rfl rfl rfl (WO.go rfl ?_) | refine WD.givesT hsz rfl rfl rfl rfl rfl rfl rfl rfl rfl (WD.go rfl ?_) | refine WO.append0 rfl rfl rfl rfl rfl rfl rfl rfl rfl (WO.go rfl ?_) | refine WO.appendF (by simp) (by exact lens_ok rfl) (by exact lens_ok rfl) (by first | decide | simp) (by first | decide | simp) rfl rfl rfl rfl rfl rfl rfl rfl rfl rfl (WO.go rfl ?_) | refine WO.appendI (by simp) (by exact lens_ok rfl) (by first | decide | simp) (by first | decide | simp) rfl rfl rfl rfl rfl rfl rfl rfl rfl rfl (WO.go rfl ?_) | refine W.loop ?_ | refine W.exit ?_)
          exact W.ret (.ret [_, _] rfl rfl)
        | some p =>
          obtain ⟨p1, p2⟩ := p
          rw [hfit] at hsz
          refine givesW (fn := Tryz.f237) Tryz.func237 rfl rfl rfl ?_
          repeat (first | refine W.condT rfl ?_ | refine W.condF rfl ?_ | refine W.seq ?_ | refine W.block ?_ | refine W.skip ?_ | refine WO.nil ?_ | refine WD.nil (WO.go rfl ?_) | refine W.region rfl (WO.go rfl ?_) | refine W.draw (id := 13) 17 [] rfl (by decide +kernel) rfl (WD.go rfl ?_) | refine W.draw (id := 15) 9 [] rfl (by decide +kernel) rfl (WD.go rfl ?_) | refine W.draw (id := 16) 18 [] rfl (by decide +kernel) rfl (WD.go rfl ?_) | refine W.draw (id := 18) 13 [] rfl (by decide +kernel) rfl (WD.go rfl ?_) | refine W.draw (id := 20) 11 [] rfl (by decide +kernel) rfl (WD.go rfl ?_) | refine WO.givesT hf rfl rfl rfl rfl rfl rfl rfl rfl rfl (WO.go rfl ?_) | refine WD.givesT hf rfl rfl rfl rfl rfl rfl rfl rfl rfl (WD.go rfl ?_) | refine WO.givesT hg rfl rfl rfl rfl rfl rfl rfl rfl rfl (WO.go rfl ?_) | refine WD.givesT hg rfl rfl rfl rfl rfl rfl rfl rfl rfl (WD.go rfl ?_) | refine WO.gives noneC_W rfl rfl rfl rfl rfl rfl rfl rfl rfl (WO.go rfl ?_) | refine WD.gives noneC_W rfl rfl rfl rfl rfl rfl rfl rfl rfl (WD.go rfl ?_) | refine WO.gives hc1 rfl rfl rfl rfl rfl rfl rfl rfl rfl (WO.go rfl ?_) | refine WD.gives hc1 rfl rfl rfl rfl rfl rfl rfl rfl rfl (WD.go rfl ?_) | refine WO.gives hc2 rfl rfl rfl rfl rfl rfl rfl rfl rfl (WO.go rfl ?_) | refine WD.gives hc2 rfl rfl rfl rfl rfl rfl rfl rfl rfl (WD.go rfl ?_) | refine WO.givesT hsz rfl rfl rfl rfl rfl rfl rfl rfl rfl (WO.go rfl ?_) | refine WD.givesT hsz rfl rfl rfl rfl rfl rfl rfl rfl rfl (WD.go rfl ?_) | refine WO.append0 rfl rfl rfl rfl rfl rfl rfl rfl rfl (WO.go rfl ?_) | refine WO.appendF (by simp) (by exact lens_ok rfl) (by exact lens_ok rfl) (by first | decide | simp) (by first | decide | simp) rfl rfl rfl rfl rfl rfl rfl rfl rfl rfl (WO.go rfl ?_) | refine WO.appendI (by simp) (by exact lens_ok rfl) (by first | decide | simp) (by first | decide | simp) rfl rfl rfl rfl rfl rfl rfl rfl rfl rfl (WO.go rfl ?_) | refine W.loop ?_ | refine W.exit ?_)
          exact W.ret (.ret [_, _] rfl rfl)
  | .bi .im f g, hp, ht => by
    have hf := of28_W f hp.1 ht.1
    have hg := of28_W g hp.2 ht.2
    simp only [Fo.bothE]
    cases ef : f.bothE with
    | none =>
      rw [ef] at hf
      refine givesW (fn := Tryz.f237) Tryz.func237 rfl rfl rfl ?_
      repeat (first | refine W.condT rfl ?_ | refine W.condF rfl ?_ | refine W.seq ?_ | refine W.block ?_ | refine W.skip ?_ | refine WO.nil ?_ | refine WD.nil (WO.go rfl ?_) | refine W.region rfl (WO.go rfl ?_) | refine W.draw (id := 13) 17 [] rfl (by decide +kernel) rfl (WD.go rfl ?_) | refine W.draw (id := 15) 9 [] rfl (by decide +kernel) rfl (WD.go rfl ?_) | refine W.draw (id := 16) 18 [] rfl (by decide +kernel) rfl (WD.go rfl ?_) | refine W.draw (id := 18) 13 [] rfl (by decide +kernel) rfl (WD.go rfl ?_) | refine W.draw (id := 20) 11 [] rfl (by decide +kernel) rfl (WD.go rfl ?_) | refine WO.givesT hf rfl rfl rfl rfl rfl rfl rfl rfl rfl (WO.go rfl ?_) | refine WD.givesT hf rfl rfl rfl rfl rfl rfl rfl rfl rfl (WD.go rfl ?_) | refine WO.givesT hg rfl rfl rfl rfl rfl rfl rfl rfl rfl (WO.go rfl ?_) | refine WD.givesT hg rfl rfl rfl rfl rfl rfl rfl rfl rfl (WD.go rfl ?_) | refine WO.append0 rfl rfl rfl rfl rfl rfl rfl rfl rfl (WO.go rfl ?_) | refine WO.appendF (by simp) (by exact lens_ok rfl) (by exact lens_ok rfl) (by first | decide | simp) (by first | decide | simp) rfl rfl rfl rfl rfl rfl rfl rfl rfl rfl (WO.go rfl ?_) | refine WO.appendI (by simp) (by exact lens_ok rfl) (by first | decide | simp) (by first | decide | simp) rfl rfl rfl rfl rfl rfl rfl rfl rfl rfl (WO.go rfl ?_) | refine W.loop ?_ | refine W.exit ?_)
      exact W.ret (.ret [_, _] rfl rfl)
    | some p =>
      obtain ⟨pw, pc⟩ := p
      have hpl := Fo.bothE_le ef
      rw [ef] at hf
      cases eg : g.bothE with
      | none =>
        rw [eg] at hg
        refine givesW (fn := Tryz.f237) Tryz.func237 rfl rfl rfl ?_
        repeat (first | refine W.condT rfl ?_ | refine W.condF rfl ?_ | refine W.seq ?_ | refine W.block ?_ | refine W.skip ?_ | refine WO.nil ?_ | refine WD.nil (WO.go rfl ?_) | refine W.region rfl (WO.go rfl ?_) | refine W.draw (id := 13) 17 [] rfl (by decide +kernel) rfl (WD.go rfl ?_) | refine W.draw (id := 15) 9 [] rfl (by decide +kernel) rfl (WD.go rfl ?_) | refine W.draw (id := 16) 18 [] rfl (by decide +kernel) rfl (WD.go rfl ?_) | refine W.draw (id := 18) 13 [] rfl (by decide +kernel) rfl (WD.go rfl ?_) | refine W.draw (id := 20) 11 [] rfl (by decide +kernel) rfl (WD.go rfl ?_) | refine WO.givesT hf rfl rfl rfl rfl rfl rfl rfl rfl rfl (WO.go rfl ?_) | refine WD.givesT hf rfl rfl rfl rfl rfl rfl rfl rfl rfl (WD.go rfl ?_) | refine WO.givesT hg rfl rfl rfl rfl rfl rfl rfl rfl rfl (WO.go rfl ?_) | refine WD.givesT hg rfl rfl rfl rfl rfl rfl rfl rfl rfl (WD.go rfl ?_) | refine WO.append0 rfl rfl rfl rfl rfl rfl rfl rfl rfl (WO.go rfl ?_) | refine WO.appendF (by simp) (by exact lens_ok rfl) (by exact lens_ok rfl) (by first | decide | simp) (by first | decide | simp) rfl rfl rfl rfl rfl rfl rfl rfl rfl rfl (WO.go rfl ?_) | refine WO.appendI (by simp) (by exact lens_ok rfl) (by first | decide | simp) (by first | decide | simp) rfl rfl rfl rfl rfl rfl rfl rfl rfl rfl (WO.go rfl ?_) | refine W.loop ?_ | refine W.exit ?_)
        exact W.ret (.ret [_, _] rfl rfl)
      | some q =>
        obtain ⟨qw, qc⟩ := q
        have hql := Fo.bothE_le eg
        rw [eg] at hg
        simp only at hpl hql
        have l1 := Y.fns_le pw qw
        have l2 := Y.fns_le qc pc
        have l3 := Y.fns_le pw (Y.fns qc pc)
        have l4 := Y.prs_le (Y.fns pw qw) (Y.fns pw (Y.fns qc pc))
        have l5 := Y.prs_le pw qc
        have hsz := sized_W (X := X) (Y.prs (Y.fns pw qw) (Y.fns pw (Y.fns qc pc))) (Y.prs pw qc) (by omega) (by omega)
        have hc1 := funC_W (X := X) pw qw
        have hc2 := funC_W (X := X) qc pc
        have hc3 := funC_W (X := X) pw (Y.fns qc pc)
        have hc4 := pairC_W (X := X) (Y.fns pw qw) (Y.fns pw (Y.fns qc pc))
        have hc5 := pairC_W (X := X) pw qc
        show Gives _ _ _ (rBoth (Fo.fit (Y.prs (Y.fns pw qw) (Y.fns pw (Y.fns qc pc)), Y.prs pw qc)))
        generalize Y.prs (Y.fns pw qw) (Y.fns pw (Y.fns qc pc)) = r1 at *
        generalize Y.prs pw qc = r2 at *
        generalize Y.fns pw (Y.fns qc pc) = r3 at *
        generalize Y.fns pw qw = r4 at *
        generalize Y.fns qc pc = r5 at *
        cases hfit : Fo.fit (r1, r2) with
        | none =>
          rw [hfit] at hsz
          refine givesW (fn := Tryz.f237) Tryz.func237 rfl rfl rfl ?_
          repeat (first | refine W.condT rfl ?_ | refine W.condF rfl ?_ | refine W.seq ?_ | refine W.block ?_ | refine W.skip ?_ | refine WO.nil ?_ | refine WD.nil (WO.go rfl ?_) | refine W.region rfl (WO.go rfl ?_) | refine W.draw (id := 13) 17 [] rfl (by decide +kernel) rfl (WD.go rfl ?_) | refine W.draw (id := 15) 9 [] rfl (by decide +kernel) rfl (WD.go rfl ?_) | refine W.draw (id := 16) 18 [] rfl (by decide +kernel) rfl (WD.go rfl ?_) | refine W.draw (id := 18) 13 [] rfl (by decide +kernel) rfl (WD.go rfl ?_) | refine W.draw (id := 20) 11 [] rfl (by decide +kernel) rfl (WD.go rfl ?_) | refine WO.givesT hf rfl rfl rfl rfl rfl rfl rfl rfl rfl (WO.go rfl ?_) | refine WD.givesT hf rfl rfl rfl rfl rfl rfl rfl rfl rfl (WD.go rfl ?_) | refine WO.givesT hg rfl rfl rfl rfl rfl rfl rfl rfl rfl (WO.go rfl ?_) | refine WD.givesT hg rfl rfl rfl rfl rfl rfl rfl rfl rfl (WD.go rfl ?_) | refine WO.gives noneC_W rfl rfl rfl rfl rfl rfl rfl rfl rfl (WO.go rfl ?_) | refine WD.gives noneC_W rfl rfl rfl rfl rfl rfl rfl rfl rfl (WD.go rfl ?_) | refine WO.gives hc1 rfl rfl rfl rfl rfl rfl rfl rfl rfl (WO.go rfl ?_) | refine WD.gives hc1 rfl rfl rfl rfl rfl rfl rfl rfl rfl (WD.go rfl ?_) | refine WO.gives hc2 rfl rfl rfl rfl rfl rfl rfl rfl rfl (WO.go rfl ?_) | refine WD.gives hc2 rfl rfl rfl rfl rfl rfl rfl rfl rfl (WD.go rfl ?_) | refine WO.gives hc3 rfl rfl rfl rfl rfl rfl rfl rfl rfl (WO.go rfl ?_) | refine WD.gives hc3 rfl rfl rfl rfl rfl rfl rfl rfl rfl (WD.go rfl ?_) | refine WO.gives hc4 rfl rfl rfl rfl rfl rfl rfl rfl rfl (WO.go rfl ?_) | refine WD.gives hc4 rfl rfl rfl rfl rfl rfl rfl rfl rfl (WD.go rfl ?_) | refine WO.gives hc5 rfl rfl rfl rfl rfl rfl rfl rfl rfl (WO.go rfl ?_) | refine WD.gives hc5 rfl rfl rfl rfl rfl rfl rfl rfl rfl (WD.go rfl ?_) | refine WO.givesT hsz rfl rfl rfl rfl rfl rfl rfl rfl rfl (WO.go rfl ?_) | refine WD.givesT hsz rfl rfl rfl rfl rfl rfl rfl rfl rfl (WD.go rfl ?_) | refine WO.append0 rfl rfl rfl rfl rfl rfl rfl rfl rfl (WO.go rfl ?_) | refine WO.appendF (by simp) (by exact lens_ok rfl) (by exact lens_ok rfl) (by first | decide | simp) (by first | decide | simp) rfl rfl rfl rfl rfl rfl rfl rfl rfl rfl (WO.go rfl ?_) | refine WO.appendI (by simp) (by exact lens_ok rfl) (by first | decide | simp) (by first | decide | simp) rfl rfl rfl rfl rfl rfl rfl rfl rfl rfl (WO.go rfl ?_) | refine W.loop ?_ | refine W.exit ?_)
          exact W.ret (.ret [_, _] rfl rfl)
        | some p =>
          obtain ⟨p1, p2⟩ := p
          rw [hfit] at hsz
          refine givesW (fn := Tryz.f237) Tryz.func237 rfl rfl rfl ?_
          repeat (first | refine W.condT rfl ?_ | refine W.condF rfl ?_ | refine W.seq ?_ | refine W.block ?_ | refine W.skip ?_ | refine WO.nil ?_ | refine WD.nil (WO.go rfl ?_) | refine W.region rfl (WO.go rfl ?_) | refine W.draw (id := 13) 17 [] rfl (by decide +kernel) rfl (WD.go rfl ?_) | refine W.draw (id := 15) 9 [] rfl (by decide +kernel) rfl (WD.go rfl ?_) | refine W.draw (id := 16) 18 [] rfl (by decide +kernel) rfl (WD.go rfl ?_) | refine W.draw (id := 18) 13 [] rfl (by decide +kernel) rfl (WD.go rfl ?_) | refine W.draw (id := 20) 11 [] rfl (by decide +kernel) rfl (WD.go rfl ?_) | refine WO.givesT hf rfl rfl rfl rfl rfl rfl rfl rfl rfl (WO.go rfl ?_) | refine WD.givesT hf rfl rfl rfl rfl rfl rfl rfl rfl rfl (WD.go rfl ?_) | refine WO.givesT hg rfl rfl rfl rfl rfl rfl rfl rfl rfl (WO.go rfl ?_) | refine WD.givesT hg rfl rfl rfl rfl rfl rfl rfl rfl rfl (WD.go rfl ?_) | refine WO.gives noneC_W rfl rfl rfl rfl rfl rfl rfl rfl rfl (WO.go rfl ?_) | refine WD.gives noneC_W rfl rfl rfl rfl rfl rfl rfl rfl rfl (WD.go rfl ?_) | refine WO.gives hc1 rfl rfl rfl rfl rfl rfl rfl rfl rfl (WO.go rfl ?_) | refine WD.gives hc1 rfl rfl rfl rfl rfl rfl rfl rfl rfl (WD.go rfl ?_) | refine WO.gives hc2 rfl rfl rfl rfl rfl rfl rfl rfl rfl (WO.go rfl ?_) | refine WD.gives hc2 rfl rfl rfl rfl rfl rfl rfl rfl rfl (WD.go rfl ?_) | refine WO.gives hc3 rfl rfl rfl rfl rfl rfl rfl rfl rfl (WO.go rfl ?_) | refine WD.gives hc3 rfl rfl rfl rfl rfl rfl rfl rfl rfl (WD.go rfl ?_) | refine WO.gives hc4 rfl rfl rfl rfl rfl rfl rfl rfl rfl (WO.go rfl ?_) | refine WD.gives hc4 rfl rfl rfl rfl rfl rfl rfl rfl rfl (WD.go rfl ?_) | refine WO.gives hc5 rfl rfl rfl rfl rfl rfl rfl rfl rfl (WO.go rfl ?_) | refine WD.gives hc5 rfl rfl rfl rfl rfl rfl rfl rfl rfl (WD.go rfl ?_) | refine WO.givesT hsz rfl rfl rfl rfl rfl rfl rfl rfl rfl (WO.go rfl ?_) | refine WD.givesT hsz rfl rfl rfl rfl rfl rfl rfl rfl rfl (WD.go rfl ?_) | refine WO.append0 rfl rfl rfl rfl rfl rfl rfl rfl rfl (WO.go rfl ?_) | refine WO.appendF (by simp) (by exact lens_ok rfl) (by exact lens_ok rfl) (by first | decide | simp) (by first | decide | simp) rfl rfl rfl rfl rfl rfl rfl rfl rfl rfl (WO.go rfl ?_) | refine WO.appendI (by simp) (by exact lens_ok rfl) (by first | decide | simp) (by first | decide | simp) rfl rfl rfl rfl rfl rfl rfl rfl rfl rfl (WO.go rfl ?_) | refine W.loop ?_ | refine W.exit ?_)
          exact W.ret (.ret [_, _] rfl rfl)
  | .q .al s f, hp, ht => by
    have hf := of28_W f hp.2 ht.2
    have hs := ht.1
    simp only [Fo.bothE]
    cases ef : f.bothE with
    | none =>
      rw [ef] at hf
      refine givesW (fn := Tryz.f237) Tryz.func237 rfl rfl rfl ?_
      repeat (first | refine W.condT rfl ?_ | refine W.condF rfl ?_ | refine W.seq ?_ | refine W.block ?_ | refine W.skip ?_ | refine WO.nil ?_ | refine WD.nil (WO.go rfl ?_) | refine W.region rfl (WO.go rfl ?_) | refine W.draw (id := 13) 17 [] rfl (by decide +kernel) rfl (WD.go rfl ?_) | refine W.draw (id := 15) 9 [] rfl (by decide +kernel) rfl (WD.go rfl ?_) | refine W.draw (id := 16) 18 [] rfl (by decide +kernel) rfl (WD.go rfl ?_) | refine W.draw (id := 18) 13 [] rfl (by decide +kernel) rfl (WD.go rfl ?_) | refine W.draw (id := 20) 11 [] rfl (by decide +kernel) rfl (WD.go rfl ?_) | refine WO.givesT hf rfl rfl rfl rfl rfl rfl rfl rfl rfl (WO.go rfl ?_) | refine WD.givesT hf rfl rfl rfl rfl rfl rfl rfl rfl rfl (WD.go rfl ?_) | refine WO.append0 rfl rfl rfl rfl rfl rfl rfl rfl rfl (WO.go rfl ?_) | refine WO.appendF (by simp) (by exact lens_ok rfl) (by exact lens_ok rfl) (by first | decide | simp) (by first | decide | simp) rfl rfl rfl rfl rfl rfl rfl rfl rfl rfl (WO.go rfl ?_) | refine WO.appendI (by simp) (by exact lens_ok rfl) (by first | decide | simp) (by first | decide | simp) rfl rfl rfl rfl rfl rfl rfl rfl rfl rfl (WO.go rfl ?_) | refine W.loop ?_ | refine W.exit ?_)
      exact W.ret (.ret [_, _] rfl rfl)
    | some p =>
      obtain ⟨pw, pc⟩ := p
      have hpl := Fo.bothE_le ef
      rw [ef] at hf
      simp only at hpl
      have l1 := Y.fns_le s pw
      have l2 := Y.prs_le s pc
      have hsz := sized_W (X := X) (Y.fns s pw) (Y.prs s pc) (by omega) (by omega)
      have hc1 := funC_W (X := X) s pw
      have hc2 := pairC_W (X := X) s pc
      show Gives _ _ _ (rBoth (Fo.fit (Y.fns s pw, Y.prs s pc)))
      generalize Y.fns s pw = r1 at *
      generalize Y.prs s pc = r2 at *
      cases hfit : Fo.fit (r1, r2) with
      | none =>
        rw [hfit] at hsz
        refine givesW (fn := Tryz.f237) Tryz.func237 rfl rfl rfl ?_
        repeat (first | refine W.condT rfl ?_ | refine W.condF rfl ?_ | refine W.seq ?_ | refine W.block ?_ | refine W.skip ?_ | refine WO.nil ?_ | refine WD.nil (WO.go rfl ?_) | refine W.region rfl (WO.go rfl ?_) | refine W.draw (id := 13) 17 [] rfl (by decide +kernel) rfl (WD.go rfl ?_) | refine W.draw (id := 15) 9 [] rfl (by decide +kernel) rfl (WD.go rfl ?_) | refine W.draw (id := 16) 18 [] rfl (by decide +kernel) rfl (WD.go rfl ?_) | refine W.draw (id := 18) 13 [] rfl (by decide +kernel) rfl (WD.go rfl ?_) | refine W.draw (id := 20) 11 [] rfl (by decide +kernel) rfl (WD.go rfl ?_) | refine WO.givesT hf rfl rfl rfl rfl rfl rfl rfl rfl rfl (WO.go rfl ?_) | refine WD.givesT hf rfl rfl rfl rfl rfl rfl rfl rfl rfl (WD.go rfl ?_) | refine WO.gives noneC_W rfl rfl rfl rfl rfl rfl rfl rfl rfl (WO.go rfl ?_) | refine WD.gives noneC_W rfl rfl rfl rfl rfl rfl rfl rfl rfl (WD.go rfl ?_) | refine WO.gives hc1 rfl rfl rfl rfl rfl rfl rfl rfl rfl (WO.go rfl ?_) | refine WD.gives hc1 rfl rfl rfl rfl rfl rfl rfl rfl rfl (WD.go rfl ?_) | refine WO.gives hc2 rfl rfl rfl rfl rfl rfl rfl rfl rfl (WO.go rfl ?_) | refine WD.gives hc2 rfl rfl rfl rfl rfl rfl rfl rfl rfl (WD.go rfl ?_) | refine WO.givesT hsz rfl rfl rfl rfl rfl rfl rfl rfl rfl (WO.go rfl ?_) | refine WD.givesT hsz rfl rfl rfl rfl rfl rfl rfl rfl rfl (WD.go rfl ?_) | refine WO.append0 rfl rfl rfl rfl rfl rfl rfl rfl rfl (WO.go rfl ?_) | refine WO.appendF (by simp) (by exact lens_ok rfl) (by exact lens_ok rfl) (by first | decide | simp) (by first | decide | simp) rfl rfl rfl rfl rfl rfl rfl rfl rfl rfl (WO.go rfl ?_) | refine WO.appendI (by simp) (by exact lens_ok rfl) (by first | decide | simp) (by first | decide | simp) rfl rfl rfl rfl rfl rfl rfl rfl rfl rfl (WO.go rfl ?_) | refine W.loop ?_ | refine W.exit ?_)
        exact W.ret (.ret [_, _] rfl rfl)
      | some p =>
        obtain ⟨p1, p2⟩ := p
        rw [hfit] at hsz
        refine givesW (fn := Tryz.f237) Tryz.func237 rfl rfl rfl ?_
        repeat (first | refine W.condT rfl ?_ | refine W.condF rfl ?_ | refine W.seq ?_ | refine W.block ?_ | refine W.skip ?_ | refine WO.nil ?_ | refine WD.nil (WO.go rfl ?_) | refine W.region rfl (WO.go rfl ?_) | refine W.draw (id := 13) 17 [] rfl (by decide +kernel) rfl (WD.go rfl ?_) | refine W.draw (id := 15) 9 [] rfl (by decide +kernel) rfl (WD.go rfl ?_) | refine W.draw (id := 16) 18 [] rfl (by decide +kernel) rfl (WD.go rfl ?_) | refine W.draw (id := 18) 13 [] rfl (by decide +kernel) rfl (WD.go rfl ?_) | refine W.draw (id := 20) 11 [] rfl (by decide +kernel) rfl (WD.go rfl ?_) | refine WO.givesT hf rfl rfl rfl rfl rfl rfl rfl rfl rfl (WO.go rfl ?_) | refine WD.givesT hf rfl rfl rfl rfl rfl rfl rfl rfl rfl (WD.go rfl ?_) | refine WO.gives noneC_W rfl rfl rfl rfl rfl rfl rfl rfl rfl (WO.go rfl ?_) | refine WD.gives noneC_W rfl rfl rfl rfl rfl rfl rfl rfl rfl (WD.go rfl ?_) | refine WO.gives hc1 rfl rfl rfl rfl rfl rfl rfl rfl rfl (WO.go rfl ?_) | refine WD.gives hc1 rfl rfl rfl rfl rfl rfl rfl rfl rfl (WD.go rfl ?_) | refine WO.gives hc2 rfl rfl rfl rfl rfl rfl rfl rfl rfl (WO.go rfl ?_) | refine WD.gives hc2 rfl rfl rfl rfl rfl rfl rfl rfl rfl (WD.go rfl ?_) | refine WO.givesT hsz rfl rfl rfl rfl rfl rfl rfl rfl rfl (WO.go rfl ?_) | refine WD.givesT hsz rfl rfl rfl rfl rfl rfl rfl rfl rfl (WD.go rfl ?_) | refine WO.append0 rfl rfl rfl rfl rfl rfl rfl rfl rfl (WO.go rfl ?_) | refine WO.appendF (by simp) (by exact lens_ok rfl) (by exact lens_ok rfl) (by first | decide | simp) (by first | decide | simp) rfl rfl rfl rfl rfl rfl rfl rfl rfl rfl (WO.go rfl ?_) | refine WO.appendI (by simp) (by exact lens_ok rfl) (by first | decide | simp) (by first | decide | simp) rfl rfl rfl rfl rfl rfl rfl rfl rfl rfl (WO.go rfl ?_) | refine W.loop ?_ | refine W.exit ?_)
        exact W.ret (.ret [_, _] rfl rfl)
  | .q .ex s f, hp, ht => by
    have hf := of28_W f hp.2 ht.2
    have hs := ht.1
    simp only [Fo.bothE]
    cases ef : f.bothE with
    | none =>
      rw [ef] at hf
      refine givesW (fn := Tryz.f237) Tryz.func237 rfl rfl rfl ?_
      repeat (first | refine W.condT rfl ?_ | refine W.condF rfl ?_ | refine W.seq ?_ | refine W.block ?_ | refine W.skip ?_ | refine WO.nil ?_ | refine WD.nil (WO.go rfl ?_) | refine W.region rfl (WO.go rfl ?_) | refine W.draw (id := 13) 17 [] rfl (by decide +kernel) rfl (WD.go rfl ?_) | refine W.draw (id := 15) 9 [] rfl (by decide +kernel) rfl (WD.go rfl ?_) | refine W.draw (id := 16) 18 [] rfl (by decide +kernel) rfl (WD.go rfl ?_) | refine W.draw (id := 18) 13 [] rfl (by decide +kernel) rfl (WD.go rfl ?_) | refine W.draw (id := 20) 11 [] rfl (by decide +kernel) rfl (WD.go rfl ?_) | refine WO.givesT hf rfl rfl rfl rfl rfl rfl rfl rfl rfl (WO.go rfl ?_) | refine WD.givesT hf rfl rfl rfl rfl rfl rfl rfl rfl rfl (WD.go rfl ?_) | refine WO.append0 rfl rfl rfl rfl rfl rfl rfl rfl rfl (WO.go rfl ?_) | refine WO.appendF (by simp) (by exact lens_ok rfl) (by exact lens_ok rfl) (by first | decide | simp) (by first | decide | simp) rfl rfl rfl rfl rfl rfl rfl rfl rfl rfl (WO.go rfl ?_) | refine WO.appendI (by simp) (by exact lens_ok rfl) (by first | decide | simp) (by first | decide | simp) rfl rfl rfl rfl rfl rfl rfl rfl rfl rfl (WO.go rfl ?_) | refine W.loop ?_ | refine W.exit ?_)
      exact W.ret (.ret [_, _] rfl rfl)
    | some p =>
      obtain ⟨pw, pc⟩ := p
      have hpl := Fo.bothE_le ef
      rw [ef] at hf
      simp only at hpl
      have l1 := Y.prs_le s pw
      have hsz := sized_W (X := X) (Y.prs s pw) pc (by omega) (by omega)
      have hc1 := pairC_W (X := X) s pw
      have hc2 := hc1
      show Gives _ _ _ (rBoth (Fo.fit (Y.prs s pw, pc)))
      generalize Y.prs s pw = r1 at *
      generalize hr2 : pc = r2 at hsz ⊢
      subst hr2
      cases hfit : Fo.fit (r1, pc) with
      | none =>
        rw [hfit] at hsz
        refine givesW (fn := Tryz.f237) Tryz.func237 rfl rfl rfl ?_
        repeat (first | refine W.condT rfl ?_ | refine W.condF rfl ?_ | refine W.seq ?_ | refine W.block ?_ | refine W.skip ?_ | refine WO.nil ?_ | refine WD.nil (WO.go rfl ?_) | refine W.region rfl (WO.go rfl ?_) | refine W.draw (id := 13) 17 [] rfl (by decide +kernel) rfl (WD.go rfl ?_) | refine W.draw (id := 15) 9 [] rfl (by decide +kernel) rfl (WD.go rfl ?_) | refine W.draw (id := 16) 18 [] rfl (by decide +kernel) rfl (WD.go rfl ?_) | refine W.draw (id := 18) 13 [] rfl (by decide +kernel) rfl (WD.go rfl ?_) | refine W.draw (id := 20) 11 [] rfl (by decide +kernel) rfl (WD.go rfl ?_) | refine WO.givesT hf rfl rfl rfl rfl rfl rfl rfl rfl rfl (WO.go rfl ?_) | refine WD.givesT hf rfl rfl rfl rfl rfl rfl rfl rfl rfl (WD.go rfl ?_) | refine WO.gives noneC_W rfl rfl rfl rfl rfl rfl rfl rfl rfl (WO.go rfl ?_) | refine WD.gives noneC_W rfl rfl rfl rfl rfl rfl rfl rfl rfl (WD.go rfl ?_) | refine WO.gives hc1 rfl rfl rfl rfl rfl rfl rfl rfl rfl (WO.go rfl ?_) | refine WD.gives hc1 rfl rfl rfl rfl rfl rfl rfl rfl rfl (WD.go rfl ?_) | refine WO.gives hc2 rfl rfl rfl rfl rfl rfl rfl rfl rfl (WO.go rfl ?_) | refine WD.gives hc2 rfl rfl rfl rfl rfl rfl rfl rfl rfl (WD.go rfl ?_) | refine WO.givesT hsz rfl rfl rfl rfl rfl rfl rfl rfl rfl (WO.go rfl ?_) | refine WD.givesT hsz rfl rfl rfl rfl rfl rfl rfl rfl rfl (WD.go rfl ?_) | refine WO.append0 rfl rfl rfl rfl rfl rfl rfl rfl rfl (WO.go rfl ?_) | refine WO.appendF (by simp) (by exact lens_ok rfl) (by exact lens_ok rfl) (by first | decide | simp) (by first | decide | simp) rfl rfl rfl rfl rfl rfl rfl rfl rfl rfl (WO.go rfl ?_) | refine WO.appendI (by simp) (by exact lens_ok rfl) (by first | decide | simp) (by first | decide | simp) rfl rfl rfl rfl rfl rfl rfl rfl rfl rfl (WO.go rfl ?_) | refine W.loop ?_ | refine W.exit ?_)
        exact W.ret (.ret [_, _] rfl rfl)
      | some p =>
        obtain ⟨p1, p2⟩ := p
        rw [hfit] at hsz
        refine givesW (fn := Tryz.f237) Tryz.func237 rfl rfl rfl ?_
        repeat (first | refine W.condT rfl ?_ | refine W.condF rfl ?_ | refine W.seq ?_ | refine W.block ?_ | refine W.skip ?_ | refine WO.nil ?_ | refine WD.nil (WO.go rfl ?_) | refine W.region rfl (WO.go rfl ?_) | refine W.draw (id := 13) 17 [] rfl (by decide +kernel) rfl (WD.go rfl ?_) | refine W.draw (id := 15) 9 [] rfl (by decide +kernel) rfl (WD.go rfl ?_) | refine W.draw (id := 16) 18 [] rfl (by decide +kernel) rfl (WD.go rfl ?_) | refine W.draw (id := 18) 13 [] rfl (by decide +kernel) rfl (WD.go rfl ?_) | refine W.draw (id := 20) 11 [] rfl (by decide +kernel) rfl (WD.go rfl ?_) | refine WO.givesT hf rfl rfl rfl rfl rfl rfl rfl rfl rfl (WO.go rfl ?_) | refine WD.givesT hf rfl rfl rfl rfl rfl rfl rfl rfl rfl (WD.go rfl ?_) | refine WO.gives noneC_W rfl rfl rfl rfl rfl rfl rfl rfl rfl (WO.go rfl ?_) | refine WD.gives noneC_W rfl rfl rfl rfl rfl rfl rfl rfl rfl (WD.go rfl ?_) | refine WO.gives hc1 rfl rfl rfl rfl rfl rfl rfl rfl rfl (WO.go rfl ?_) | refine WD.gives hc1 rfl rfl rfl rfl rfl rfl rfl rfl rfl (WD.go rfl ?_) | refine WO.gives hc2 rfl rfl rfl rfl rfl rfl rfl rfl rfl (WO.go rfl ?_) | refine WD.gives hc2 rfl rfl rfl rfl rfl rfl rfl rfl rfl (WD.go rfl ?_) | refine WO.givesT hsz rfl rfl rfl rfl rfl rfl rfl rfl rfl (WO.go rfl ?_) | refine WD.givesT hsz rfl rfl rfl rfl rfl rfl rfl rfl rfl (WD.go rfl ?_) | refine WO.append0 rfl rfl rfl rfl rfl rfl rfl rfl rfl (WO.go rfl ?_) | refine WO.appendF (by simp) (by exact lens_ok rfl) (by exact lens_ok rfl) (by first | decide | simp) (by first | decide | simp) rfl rfl rfl rfl rfl rfl rfl rfl rfl rfl (WO.go rfl ?_) | refine WO.appendI (by simp) (by exact lens_ok rfl) (by first | decide | simp) (by first | decide | simp) rfl rfl rfl rfl rfl rfl rfl rfl rfl rfl (WO.go rfl ?_) | refine W.loop ?_ | refine W.exit ?_)
        exact W.ret (.ret [_, _] rfl rfl)
  | .q .au _ _, hp, _ => by simp [Fo.pure] at hp
  | .q .eu _ _, hp, _ => by simp [Fo.pure] at hp
theorem look_W (f : Fo) (hp : f.pure) (hs : f.size ≤ 4096) (ht : f.tyLe 64) : Gives (AC X) 208 [.agg (cF f)] (rBoth f.bothE) := by
  have h1 := of28_W (X := X) f hp ht
  have h2 := formulaCheck_W (X := X) f hs ht
  have h3 := uniform_W (X := X) f hp
  cases ef : f.bothE with
  | none =>
    rw [ef] at h1
    refine givesW (fn := Tryz.f208) Tryz.func208 rfl rfl rfl ?_
    repeat (first | refine W.condT rfl ?_ | refine W.condF rfl ?_ | refine W.seq ?_ | refine W.block ?_ | refine W.skip ?_ | refine WO.nil ?_ | refine WD.nil (WO.go rfl ?_) | refine W.region rfl (WO.go rfl ?_) | refine WO.gives h2 rfl rfl rfl rfl rfl rfl rfl rfl rfl (WO.go rfl ?_) | refine WD.gives h2 rfl rfl rfl rfl rfl rfl rfl rfl rfl (WD.go rfl ?_) | refine WO.gives h3 rfl rfl rfl rfl rfl rfl rfl rfl rfl (WO.go rfl ?_) | refine WD.gives h3 rfl rfl rfl rfl rfl rfl rfl rfl rfl (WD.go rfl ?_) | refine WO.givesT h1 rfl rfl rfl rfl rfl rfl rfl rfl rfl (WO.go rfl ?_) | refine WD.givesT h1 rfl rfl rfl rfl rfl rfl rfl rfl rfl (WD.go rfl ?_) | refine WO.append0 rfl rfl rfl rfl rfl rfl rfl rfl rfl (WO.go rfl ?_) | refine WO.appendF (by simp) (by exact lens_ok rfl) (by exact lens_ok rfl) (by first | decide | simp) (by first | decide | simp) rfl rfl rfl rfl rfl rfl rfl rfl rfl rfl (WO.go rfl ?_) | refine WO.appendI (by simp) (by exact lens_ok rfl) (by first | decide | simp) (by first | decide | simp) rfl rfl rfl rfl rfl rfl rfl rfl rfl rfl (WO.go rfl ?_) | refine W.loop ?_ | refine W.exit ?_)
    exact W.ret (.ret [_, _] rfl rfl)
  | some p =>
    obtain ⟨p1, p2⟩ := p
    rw [ef] at h1
    refine givesW (fn := Tryz.f208) Tryz.func208 rfl rfl rfl ?_
    repeat (first | refine W.condT rfl ?_ | refine W.condF rfl ?_ | refine W.seq ?_ | refine W.block ?_ | refine W.skip ?_ | refine WO.nil ?_ | refine WD.nil (WO.go rfl ?_) | refine W.region rfl (WO.go rfl ?_) | refine WO.gives h2 rfl rfl rfl rfl rfl rfl rfl rfl rfl (WO.go rfl ?_) | refine WD.gives h2 rfl rfl rfl rfl rfl rfl rfl rfl rfl (WD.go rfl ?_) | refine WO.gives h3 rfl rfl rfl rfl rfl rfl rfl rfl rfl (WO.go rfl ?_) | refine WD.gives h3 rfl rfl rfl rfl rfl rfl rfl rfl rfl (WD.go rfl ?_) | refine WO.givesT h1 rfl rfl rfl rfl rfl rfl rfl rfl rfl (WO.go rfl ?_) | refine WD.givesT h1 rfl rfl rfl rfl rfl rfl rfl rfl rfl (WD.go rfl ?_) | refine WO.append0 rfl rfl rfl rfl rfl rfl rfl rfl rfl (WO.go rfl ?_) | refine WO.appendF (by simp) (by exact lens_ok rfl) (by exact lens_ok rfl) (by first | decide | simp) (by first | decide | simp) rfl rfl rfl rfl rfl rfl rfl rfl rfl rfl (WO.go rfl ?_) | refine WO.appendI (by simp) (by exact lens_ok rfl) (by first | decide | simp) (by first | decide | simp) rfl rfl rfl rfl rfl rfl rfl rfl rfl rfl (WO.go rfl ?_) | refine W.loop ?_ | refine W.exit ?_)
    exact W.ret (.ret [_, _] rfl rfl)
theorem witness_W (f : Fo) (hp : f.pure) (hs : f.size ≤ 4096) (ht : f.tyLe 64) : Gives (AC X) 158 [.agg (cF f)] (rOne Prod.fst f.bothE) := by
  have h1 := look_W (X := X) f hp hs ht
  cases ef : f.bothE with
  | none =>
    rw [ef] at h1
    refine givesW (fn := Tryz.f158) Tryz.func158 rfl rfl rfl ?_
    repeat (first | refine W.condT rfl ?_ | refine W.condF rfl ?_ | refine W.seq ?_ | refine W.block ?_ | refine W.skip ?_ | refine WO.nil ?_ | refine WD.nil (WO.go rfl ?_) | refine W.region rfl (WO.go rfl ?_) | refine WO.givesT h1 rfl rfl rfl rfl rfl rfl rfl rfl rfl (WO.go rfl ?_) | refine WD.givesT h1 rfl rfl rfl rfl rfl rfl rfl rfl rfl (WD.go rfl ?_) | refine WO.append0 rfl rfl rfl rfl rfl rfl rfl rfl rfl (WO.go rfl ?_) | refine WO.appendF (by simp) (by exact lens_ok rfl) (by exact lens_ok rfl) (by first | decide | simp) (by first | decide | simp) rfl rfl rfl rfl rfl rfl rfl rfl rfl rfl (WO.go rfl ?_) | refine WO.appendI (by simp) (by exact lens_ok rfl) (by first | decide | simp) (by first | decide | simp) rfl rfl rfl rfl rfl rfl rfl rfl rfl rfl (WO.go rfl ?_) | refine W.loop ?_ | refine W.exit ?_)
    exact W.ret (.ret [_, _] rfl rfl)
  | some p =>
    obtain ⟨pw, pc⟩ := p
    rw [ef] at h1
    refine givesW (fn := Tryz.f158) Tryz.func158 rfl rfl rfl ?_
    repeat (first | refine W.condT rfl ?_ | refine W.condF rfl ?_ | refine W.seq ?_ | refine W.block ?_ | refine W.skip ?_ | refine WO.nil ?_ | refine WD.nil (WO.go rfl ?_) | refine W.region rfl (WO.go rfl ?_) | refine WO.givesT h1 rfl rfl rfl rfl rfl rfl rfl rfl rfl (WO.go rfl ?_) | refine WD.givesT h1 rfl rfl rfl rfl rfl rfl rfl rfl rfl (WD.go rfl ?_) | refine WO.append0 rfl rfl rfl rfl rfl rfl rfl rfl rfl (WO.go rfl ?_) | refine WO.appendF (by simp) (by exact lens_ok rfl) (by exact lens_ok rfl) (by first | decide | simp) (by first | decide | simp) rfl rfl rfl rfl rfl rfl rfl rfl rfl rfl (WO.go rfl ?_) | refine WO.appendI (by simp) (by exact lens_ok rfl) (by first | decide | simp) (by first | decide | simp) rfl rfl rfl rfl rfl rfl rfl rfl rfl rfl (WO.go rfl ?_) | refine W.loop ?_ | refine W.exit ?_)
    exact W.ret (.ret [_, _] rfl rfl)
theorem challenge_W (f : Fo) (hp : f.pure) (hs : f.size ≤ 4096) (ht : f.tyLe 64) : Gives (AC X) 159 [.agg (cF f)] (rOne Prod.snd f.bothE) := by
  have h1 := look_W (X := X) f hp hs ht
  cases ef : f.bothE with
  | none =>
    rw [ef] at h1
    refine givesW (fn := Tryz.f159) Tryz.func159 rfl rfl rfl ?_
    repeat (first | refine W.condT rfl ?_ | refine W.condF rfl ?_ | refine W.seq ?_ | refine W.block ?_ | refine W.skip ?_ | refine WO.nil ?_ | refine WD.nil (WO.go rfl ?_) | refine W.region rfl (WO.go rfl ?_) | refine WO.givesT h1 rfl rfl rfl rfl rfl rfl rfl rfl rfl (WO.go rfl ?_) | refine WD.givesT h1 rfl rfl rfl rfl rfl rfl rfl rfl rfl (WD.go rfl ?_) | refine WO.append0 rfl rfl rfl rfl rfl rfl rfl rfl rfl (WO.go rfl ?_) | refine WO.appendF (by simp) (by exact lens_ok rfl) (by exact lens_ok rfl) (by first | decide | simp) (by first | decide | simp) rfl rfl rfl rfl rfl rfl rfl rfl rfl rfl (WO.go rfl ?_) | refine WO.appendI (by simp) (by exact lens_ok rfl) (by first | decide | simp) (by first | decide | simp) rfl rfl rfl rfl rfl rfl rfl rfl rfl rfl (WO.go rfl ?_) | refine W.loop ?_ | refine W.exit ?_)
    exact W.ret (.ret [_, _] rfl rfl)
  | some p =>
    obtain ⟨pw, pc⟩ := p
    rw [ef] at h1
    refine givesW (fn := Tryz.f159) Tryz.func159 rfl rfl rfl ?_
    repeat (first | refine W.condT rfl ?_ | refine W.condF rfl ?_ | refine W.seq ?_ | refine W.block ?_ | refine W.skip ?_ | refine WO.nil ?_ | refine WD.nil (WO.go rfl ?_) | refine W.region rfl (WO.go rfl ?_) | refine WO.givesT h1 rfl rfl rfl rfl rfl rfl rfl rfl rfl (WO.go rfl ?_) | refine WD.givesT h1 rfl rfl rfl rfl rfl rfl rfl rfl rfl (WD.go rfl ?_) | refine WO.append0 rfl rfl rfl rfl rfl rfl rfl rfl rfl (WO.go rfl ?_) | refine WO.appendF (by simp) (by exact lens_ok rfl) (by exact lens_ok rfl) (by first | decide | simp) (by first | decide | simp) rfl rfl rfl rfl rfl rfl rfl rfl rfl rfl (WO.go rfl ?_) | refine WO.appendI (by simp) (by exact lens_ok rfl) (by first | decide | simp) (by first | decide | simp) rfl rfl rfl rfl rfl rfl rfl rfl rfl rfl (WO.go rfl ?_) | refine W.loop ?_ | refine W.exit ?_)
    exact W.ret (.ret [_, _] rfl rfl)
end Go.Proofs.YtjdlmhbkfammlabGreatDoor
namespace Go.Proofs.YtjdlmhbkfammlabGreatDoor
open Go Go.Sh
set_option linter.unusedVariables false
set_option linter.unusedSimpArgs false
set_option maxHeartbeats 4000000
variable {X : CRel}
/-! formulas out of a deck -/
theorem eqF_W (a b : T) : Gives (AC X) 122 [.agg (cT a), .agg (cT b)] (.agg (cF (.eq a b))) := by
  refine givesW (fn := Tryz.f122) Tryz.func122 rfl rfl rfl ?_
  repeat (first | refine W.condT rfl ?_ | refine W.condF rfl ?_ | refine W.seq ?_ | refine W.block ?_ | refine W.skip ?_ | refine WO.nil ?_ | refine WD.nil (WO.go rfl ?_) | refine W.region rfl (WO.go rfl ?_) | refine W.draw (id := 1) 3 [] rfl (by decide +kernel) rfl (WD.go rfl ?_) | refine WO.gives (copyT_W a) rfl rfl rfl rfl rfl rfl rfl rfl rfl (WO.go rfl ?_) | refine WD.gives (copyT_W a) rfl rfl rfl rfl rfl rfl rfl rfl rfl (WD.go rfl ?_) | refine WO.gives (copyT_W b) rfl rfl rfl rfl rfl rfl rfl rfl rfl (WO.go rfl ?_) | refine WD.gives (copyT_W b) rfl rfl rfl rfl rfl rfl rfl rfl rfl (WD.go rfl ?_) | refine WO.append0 rfl rfl rfl rfl rfl rfl rfl rfl rfl (WO.go rfl ?_) | refine WO.appendF (by simp) (by exact lens_ok rfl) (by exact lens_ok rfl) (by first | decide | simp) (by first | decide | simp) rfl rfl rfl rfl rfl rfl rfl rfl rfl rfl (WO.go rfl ?_) | refine WO.appendI (by simp) (by exact lens_ok rfl) (by first | decide | simp) (by first | decide | simp) rfl rfl rfl rfl rfl rfl rfl rfl rfl rfl (WO.go rfl ?_) | refine W.loop ?_ | refine W.exit ?_)
  exact W.ret (.ret [_] rfl rfl)
def falseF : Fo := .eq .ze (.su .ze)
theorem falseF_W : Gives (AC X) 69 [] (.agg (cF falseF)) := by
  have h1 : Gives (AC X) 77 [.int .i64 5, .sl .no [cT .ze]] (.agg (cT (.su .ze))) := n_W 5 [.ze] (by simp)
  refine givesW (fn := Tryz.f69) Tryz.func69 rfl rfl rfl ?_
  repeat (first | refine W.condT rfl ?_ | refine W.condF rfl ?_ | refine W.seq ?_ | refine W.block ?_ | refine W.skip ?_ | refine WO.nil ?_ | refine WD.nil (WO.go rfl ?_) | refine W.region rfl (WO.go rfl ?_) | refine WO.gives ze_W rfl rfl rfl rfl rfl rfl rfl rfl rfl (WO.go rfl ?_) | refine WD.gives ze_W rfl rfl rfl rfl rfl rfl rfl rfl rfl (WD.go rfl ?_) | refine WO.gives h1 rfl rfl rfl rfl rfl rfl rfl rfl rfl (WO.go rfl ?_) | refine WD.gives h1 rfl rfl rfl rfl rfl rfl rfl rfl rfl (WD.go rfl ?_) | refine WO.gives (eqF_W .ze (.su .ze)) rfl rfl rfl rfl rfl rfl rfl rfl rfl (WO.go rfl ?_) | refine WD.gives (eqF_W .ze (.su .ze)) rfl rfl rfl rfl rfl rfl rfl rfl rfl (WD.go rfl ?_) | refine WO.append0 rfl rfl rfl rfl rfl rfl rfl rfl rfl (WO.go rfl ?_) | refine WO.appendF (by simp) (by exact lens_ok rfl) (by exact lens_ok rfl) (by first | decide | simp) (by first | decide | simp) rfl rfl rfl rfl rfl rfl rfl rfl rfl rfl (WO.go rfl ?_) | refine WO.appendI (by simp) (by exact lens_ok rfl) (by first | decide | simp) (by first | decide | simp) rfl rfl rfl rfl rfl rfl rfl rfl rfl rfl (WO.go rfl ?_) | refine W.loop ?_ | refine W.exit ?_)
  exact W.ret (.ret [_] rfl rfl)
/-- an equation -/
theorem dec0_W (l : List Int) (hl : l.length ≤ 1000) (M : Nat) (hM : 1 ≤ M) (hM2 : M ≤ 60) (g : List Y) (hg : ∀ y ∈ g, y.size ≤ M) (hgl : g.length ≤ 500) (i : Nat) (hi : i ≤ l.length) :
    ∃ (a b : T) (j : Nat), Draws (AC X) l 54 [.sl .no (g.map cY), .int .i64 0] i (.agg (cF (.eq a b))) j ∧ i ≤ j ∧ j ≤ l.length ∧ HT (2 * M + 5) g.reverse a .nat ∧ HT (2 * M + 5) g.reverse b .nat ∧ a.size ≤ rB M 1 ∧ b.size ≤ rB M 1 ∧ a.tyLe M ∧ b.tyLe M := by
  obtain ⟨a, j1, ha, ha1, ha2, ha3, ha4, ha5⟩ := term_W (X := X) l hl M hM (by omega) 1 .nat g i (by omega) (by simp only [Y.size]; omega) hg (by omega) hi
  obtain ⟨b, j2, hb, hb1, hb2, hb3, hb4, hb5⟩ := term_W (X := X) l hl M hM (by omega) 1 .nat g j1 (by omega) (by simp only [Y.size]; omega) hg (by omega) ha2
  refine ⟨a, b, j2, ?_, by omega, hb2, ha3, hb3, ha4, hb4, ha5, hb5⟩
  suffices h : ∃ rs st', AC X 54 [.vp 0 0, .sl .no (g.map cY), .int .i64 0] (deck l i) (resOf rs) st' ∧ (rs = [.agg (cF (.eq a b))] ∧ st'[0]? = (deck l j2)[0]?) by
    obtain ⟨rs, st', h1, rfl, h2⟩ := h; exact ⟨st', h1, h2⟩
  refine callW (fn := Tryz.f54) Tryz.func54 rfl rfl rfl ?_
  repeat (first | refine W.condT rfl ?_ | refine W.condF rfl ?_ | refine W.seq ?_ | refine W.block ?_ | refine W.skip ?_ | refine WO.nil ?_ | refine WD.nil (WO.go rfl ?_) | refine W.region rfl (WO.go rfl ?_) | refine W.draw (id := 10) 21 [0] rfl (by decide +kernel) rfl (WD.go rfl ?_) | refine W.draw (id := 13) 7 [0] rfl (by decide +kernel) rfl (WD.go rfl ?_) | refine WO.gives nat_W rfl rfl rfl rfl rfl rfl rfl rfl rfl (WO.go rfl ?_) | refine WD.gives nat_W rfl rfl rfl rfl rfl rfl rfl rfl rfl (WD.go rfl ?_) | refine WO.draws ha rfl rfl rfl rfl rfl rfl rfl rfl rfl rfl rfl (WO.go rfl ?_) | refine WD.draws ha rfl rfl rfl rfl rfl rfl rfl rfl rfl rfl rfl rfl (WD.go rfl ?_) | refine WO.draws hb rfl rfl rfl rfl rfl rfl rfl rfl rfl rfl rfl (WO.go rfl ?_) | refine WD.draws hb rfl rfl rfl rfl rfl rfl rfl rfl rfl rfl rfl rfl (WD.go rfl ?_) | refine WO.gives (eqF_W a b) rfl rfl rfl rfl rfl rfl rfl rfl rfl (WO.go rfl ?_) | refine WD.gives (eqF_W a b) rfl rfl rfl rfl rfl rfl rfl rfl rfl (WD.go rfl ?_) | refine WO.append0 rfl rfl rfl rfl rfl rfl rfl rfl rfl (WO.go rfl ?_) | refine WO.appendF (by simp) (by exact lens_ok rfl) (by exact lens_ok rfl) (by first | decide | simp) (by first | decide | simp) rfl rfl rfl rfl rfl rfl rfl rfl rfl rfl (WO.go rfl ?_) | refine WO.appendI (by simp) (by exact lens_ok rfl) (by first | decide | simp) (by first | decide | simp) rfl rfl rfl rfl rfl rfl rfl rfl rfl rfl (WO.go rfl ?_) | refine W.loop ?_ | refine W.exit ?_)
  exact W.ret (.ret [_] rfl ⟨rfl, rfl⟩)
theorem Y.prs_unit (t : Y) : Y.prs t .unit = t := by cases t <;> rfl
theorem Y.prs_unit2 (t : Y) : Y.prs .unit t = t := rfl
theorem Y.same_refl (t : Y) : t.same t = true := Y.same_iff.2 rfl
theorem unit23_W : Gives (AC X) 251 [] (.agg (cY .unit)) := by
  refine givesW (fn := Tryz.f251) Tryz.func251 rfl rfl rfl ?_
  repeat (first | refine W.condT rfl ?_ | refine W.condF rfl ?_ | refine W.seq ?_ | refine W.block ?_ | refine W.skip ?_ | refine WO.nil ?_ | refine WD.nil (WO.go rfl ?_) | refine W.region rfl (WO.go rfl ?_) | refine WO.append0 rfl rfl rfl rfl rfl rfl rfl rfl rfl (WO.go rfl ?_) | refine WO.appendF (by simp) (by exact lens_ok rfl) (by exact lens_ok rfl) (by first | decide | simp) (by first | decide | simp) rfl rfl rfl rfl rfl rfl rfl rfl rfl rfl (WO.go rfl ?_) | refine WO.appendI (by simp) (by exact lens_ok rfl) (by first | decide | simp) (by first | decide | simp) rfl rfl rfl rfl rfl rfl rfl rfl rfl rfl (WO.go rfl ?_) | refine W.loop ?_ | refine W.exit ?_)
  exact W.ret (.ret [_] rfl rfl)
theorem fun23_W (a b : Y) : Gives (AC X) 261 [.agg (cY a), .agg (cY b)] (.agg (cY (.fn a b))) := by
  refine givesW (fn := Tryz.f261) Tryz.func261 rfl rfl rfl ?_
  repeat (first | refine W.condT rfl ?_ | refine W.condF rfl ?_ | refine W.seq ?_ | refine W.block ?_ | refine W.skip ?_ | refine WO.nil ?_ | refine WD.nil (WO.go rfl ?_) | refine W.region rfl (WO.go rfl ?_) | refine WO.append0 rfl rfl rfl rfl rfl rfl rfl rfl rfl (WO.go rfl ?_) | refine WO.appendF (by simp) (by exact lens_ok rfl) (by exact lens_ok rfl) (by first | decide | simp) (by first | decide | simp) rfl rfl rfl rfl rfl rfl rfl rfl rfl rfl (WO.go rfl ?_) | refine WO.appendI (by simp) (by exact lens_ok rfl) (by first | decide | simp) (by first | decide | simp) rfl rfl rfl rfl rfl rfl rfl rfl rfl rfl (WO.go rfl ?_) | refine W.loop ?_ | refine W.exit ?_)
  exact W.ret (.ret [_] rfl rfl)
def awF28 : Fo := .q .al .nat (.q .ex .nat falseF)end Go.Proofs.YtjdlmhbkfammlabGreatDoor
namespace Go.Proofs.YtjdlmhbkfammlabGreatDoor
open Go Go.Sh
set_option linter.unusedVariables false
set_option linter.unusedSimpArgs false
set_option maxHeartbeats 4000000
variable {X : CRel}
/-! copies of formulas, formulas out of a deck -/
theorem copyTy0_W : Gives (AC X) 164 [.agg [.int .i64 0, .sl .no []]] (.agg [.int .i64 0, .sl .no []]) := copyTy_W (.ze)
theorem copyF_W : ∀ (f : Fo), Gives (AC X) 153 [.agg (cF f)] (.agg (cF f))
  | .eq a b => by
    refine givesW (fn := Tryz.f153) Tryz.func153 rfl rfl rfl ?_
    repeat (first | refine W.condT rfl ?_ | refine W.condF rfl ?_ | refine W.seq ?_ | refine W.block ?_ | refine W.skip ?_ | refine WO.nil ?_ | refine WD.nil (WO.go rfl ?_) | refine W.region rfl (WO.go rfl ?_) | refine W.draw (id := 1) 7 [] rfl (by decide +kernel) rfl (WD.go rfl ?_) | refine W.draw (id := 5) 5 [] rfl (by decide +kernel) rfl (WD.go rfl ?_) | refine W.draw (id := 10) 5 [] rfl (by decide +kernel) rfl (WD.go rfl ?_) | refine WO.gives copyTy0_W rfl rfl rfl rfl rfl rfl rfl rfl rfl (WO.go rfl ?_) | refine WD.gives copyTy0_W rfl rfl rfl rfl rfl rfl rfl rfl rfl (WD.go rfl ?_) | refine WO.gives (copyT_W a) rfl rfl rfl rfl rfl rfl rfl rfl rfl (WO.go rfl ?_) | refine WD.gives (copyT_W a) rfl rfl rfl rfl rfl rfl rfl rfl rfl (WD.go rfl ?_) | refine WO.gives (copyT_W b) rfl rfl rfl rfl rfl rfl rfl rfl rfl (WO.go rfl ?_) | refine WD.gives (copyT_W b) rfl rfl rfl rfl rfl rfl rfl rfl rfl (WD.go rfl ?_) | refine WO.append0 rfl rfl rfl rfl rfl rfl rfl rfl rfl (WO.go rfl ?_) | refine WO.appendF (by simp) (by exact lens_ok rfl) (by exact lens_ok rfl) (by first | decide | simp) (by first | decide | simp) rfl rfl rfl rfl rfl rfl rfl rfl rfl rfl (WO.go rfl ?_) | refine WO.appendI (by simp) (by exact lens_ok rfl) (by first | decide | simp) (by first | decide | simp) rfl rfl rfl rfl rfl rfl rfl rfl rfl rfl (WO.go rfl ?_) | refine W.loop ?_ | refine W.exit ?_)
    exact W.ret (.ret [_] rfl rfl)
  | .bi .an f g => by
    have h1 := copyF_W f
    have h2 := copyF_W g
    refine givesW (fn := Tryz.f153) Tryz.func153 rfl rfl rfl ?_
    repeat (first | refine W.condT rfl ?_ | refine W.condF rfl ?_ | refine W.seq ?_ | refine W.block ?_ | refine W.skip ?_ | refine WO.nil ?_ | refine WD.nil (WO.go rfl ?_) | refine W.region rfl (WO.go rfl ?_) | refine W.draw (id := 1) 7 [] rfl (by decide +kernel) rfl (WD.go rfl ?_) | refine W.draw (id := 5) 5 [] rfl (by decide +kernel) rfl (WD.go rfl ?_) | refine W.draw (id := 10) 5 [] rfl (by decide +kernel) rfl (WD.go rfl ?_) | refine WO.gives copyTy0_W rfl rfl rfl rfl rfl rfl rfl rfl rfl (WO.go rfl ?_) | refine WD.gives copyTy0_W rfl rfl rfl rfl rfl rfl rfl rfl rfl (WD.go rfl ?_) | refine WO.gives h1 rfl rfl rfl rfl rfl rfl rfl rfl rfl (WO.go rfl ?_) | refine WD.gives h1 rfl rfl rfl rfl rfl rfl rfl rfl rfl (WD.go rfl ?_) | refine WO.gives h2 rfl rfl rfl rfl rfl rfl rfl rfl rfl (WO.go rfl ?_) | refine WD.gives h2 rfl rfl rfl rfl rfl rfl rfl rfl rfl (WD.go rfl ?_) | refine WO.append0 rfl rfl rfl rfl rfl rfl rfl rfl rfl (WO.go rfl ?_) | refine WO.appendF (by simp) (by exact lens_ok rfl) (by exact lens_ok rfl) (by first | decide | simp) (by first | decide | simp) rfl rfl rfl rfl rfl rfl rfl rfl rfl rfl (WO.go rfl ?_) | refine WO.appendI (by simp) (by exact lens_ok rfl) (by first | decide | simp) (by first | decide | simp) rfl rfl rfl rfl rfl rfl rfl rfl rfl rfl (WO.go rfl ?_) | refine W.loop ?_ | refine W.exit ?_)
    exact W.ret (.ret [_] rfl rfl)
  | .bi .im f g => by
    have h1 := copyF_W f
    have h2 := copyF_W g
    refine givesW (fn := Tryz.f153) Tryz.func153 rfl rfl rfl ?_
    repeat (first | refine W.condT rfl ?_ | refine W.condF rfl ?_ | refine W.seq ?_ | refine W.block ?_ | refine W.skip ?_ | refine WO.nil ?_ | refine WD.nil (WO.go rfl ?_) | refine W.region rfl (WO.go rfl ?_) | refine W.draw (id := 1) 7 [] rfl (by decide +kernel) rfl (WD.go rfl ?_) | refine W.draw (id := 5) 5 [] rfl (by decide +kernel) rfl (WD.go rfl ?_) | refine W.draw (id := 10) 5 [] rfl (by decide +kernel) rfl (WD.go rfl ?_) | refine WO.gives copyTy0_W rfl rfl rfl rfl rfl rfl rfl rfl rfl (WO.go rfl ?_) | refine WD.gives copyTy0_W rfl rfl rfl rfl rfl rfl rfl rfl rfl (WD.go rfl ?_) | refine WO.gives h1 rfl rfl rfl rfl rfl rfl rfl rfl rfl (WO.go rfl ?_) | refine WD.gives h1 rfl rfl rfl rfl rfl rfl rfl rfl rfl (WD.go rfl ?_) | refine WO.gives h2 rfl rfl rfl rfl rfl rfl rfl rfl rfl (WO.go rfl ?_) | refine WD.gives h2 rfl rfl rfl rfl rfl rfl rfl rfl rfl (WD.go rfl ?_) | refine WO.append0 rfl rfl rfl rfl rfl rfl rfl rfl rfl (WO.go rfl ?_) | refine WO.appendF (by simp) (by exact lens_ok rfl) (by exact lens_ok rfl) (by first | decide | simp) (by first | decide | simp) rfl rfl rfl rfl rfl rfl rfl rfl rfl rfl (WO.go rfl ?_) | refine WO.appendI (by simp) (by exact lens_ok rfl) (by first | decide | simp) (by first | decide | simp) rfl rfl rfl rfl rfl rfl rfl rfl rfl rfl (WO.go rfl ?_) | refine W.loop ?_ | refine W.exit ?_)
    exact W.ret (.ret [_] rfl rfl)
  | .q .al s f => by
    have h1 := copyF_W f
    refine givesW (fn := Tryz.f153) Tryz.func153 rfl rfl rfl ?_
    repeat (first | refine W.condT rfl ?_ | refine W.condF rfl ?_ | refine W.seq ?_ | refine W.block ?_ | refine W.skip ?_ | refine WO.nil ?_ | refine WD.nil (WO.go rfl ?_) | refine W.region rfl (WO.go rfl ?_) | refine W.draw (id := 1) 7 [] rfl (by decide +kernel) rfl (WD.go rfl ?_) | refine W.draw (id := 5) 5 [] rfl (by decide +kernel) rfl (WD.go rfl ?_) | refine W.draw (id := 10) 5 [] rfl (by decide +kernel) rfl (WD.go rfl ?_) | refine WO.gives (copyY_W s) rfl rfl rfl rfl rfl rfl rfl rfl rfl (WO.go rfl ?_) | refine WD.gives (copyY_W s) rfl rfl rfl rfl rfl rfl rfl rfl rfl (WD.go rfl ?_) | refine WO.gives h1 rfl rfl rfl rfl rfl rfl rfl rfl rfl (WO.go rfl ?_) | refine WD.gives h1 rfl rfl rfl rfl rfl rfl rfl rfl rfl (WD.go rfl ?_) | refine WO.append0 rfl rfl rfl rfl rfl rfl rfl rfl rfl (WO.go rfl ?_) | refine WO.appendF (by simp) (by exact lens_ok rfl) (by exact lens_ok rfl) (by first | decide | simp) (by first | decide | simp) rfl rfl rfl rfl rfl rfl rfl rfl rfl rfl (WO.go rfl ?_) | refine WO.appendI (by simp) (by exact lens_ok rfl) (by first | decide | simp) (by first | decide | simp) rfl rfl rfl rfl rfl rfl rfl rfl rfl rfl (WO.go rfl ?_) | refine W.loop ?_ | refine W.exit ?_)
    exact W.ret (.ret [_] rfl rfl)
  | .q .ex s f => by
    have h1 := copyF_W f
    refine givesW (fn := Tryz.f153) Tryz.func153 rfl rfl rfl ?_
    repeat (first | refine W.condT rfl ?_ | refine W.condF rfl ?_ | refine W.seq ?_ | refine W.block ?_ | refine W.skip ?_ | refine WO.nil ?_ | refine WD.nil (WO.go rfl ?_) | refine W.region rfl (WO.go rfl ?_) | refine W.draw (id := 1) 7 [] rfl (by decide +kernel) rfl (WD.go rfl ?_) | refine W.draw (id := 5) 5 [] rfl (by decide +kernel) rfl (WD.go rfl ?_) | refine W.draw (id := 10) 5 [] rfl (by decide +kernel) rfl (WD.go rfl ?_) | refine WO.gives (copyY_W s) rfl rfl rfl rfl rfl rfl rfl rfl rfl (WO.go rfl ?_) | refine WD.gives (copyY_W s) rfl rfl rfl rfl rfl rfl rfl rfl rfl (WD.go rfl ?_) | refine WO.gives h1 rfl rfl rfl rfl rfl rfl rfl rfl rfl (WO.go rfl ?_) | refine WD.gives h1 rfl rfl rfl rfl rfl rfl rfl rfl rfl (WD.go rfl ?_) | refine WO.append0 rfl rfl rfl rfl rfl rfl rfl rfl rfl (WO.go rfl ?_) | refine WO.appendF (by simp) (by exact lens_ok rfl) (by exact lens_ok rfl) (by first | decide | simp) (by first | decide | simp) rfl rfl rfl rfl rfl rfl rfl rfl rfl rfl (WO.go rfl ?_) | refine WO.appendI (by simp) (by exact lens_ok rfl) (by first | decide | simp) (by first | decide | simp) rfl rfl rfl rfl rfl rfl rfl rfl rfl rfl (WO.go rfl ?_) | refine W.loop ?_ | refine W.exit ?_)
    exact W.ret (.ret [_] rfl rfl)
  | .q .au s f => by
    have h1 := copyF_W f
    refine givesW (fn := Tryz.f153) Tryz.func153 rfl rfl rfl ?_
    repeat (first | refine W.condT rfl ?_ | refine W.condF rfl ?_ | refine W.seq ?_ | refine W.block ?_ | refine W.skip ?_ | refine WO.nil ?_ | refine WD.nil (WO.go rfl ?_) | refine W.region rfl (WO.go rfl ?_) | refine W.draw (id := 1) 7 [] rfl (by decide +kernel) rfl (WD.go rfl ?_) | refine W.draw (id := 5) 5 [] rfl (by decide +kernel) rfl (WD.go rfl ?_) | refine W.draw (id := 10) 5 [] rfl (by decide +kernel) rfl (WD.go rfl ?_) | refine WO.gives (copyY_W s) rfl rfl rfl rfl rfl rfl rfl rfl rfl (WO.go rfl ?_) | refine WD.gives (copyY_W s) rfl rfl rfl rfl rfl rfl rfl rfl rfl (WD.go rfl ?_) | refine WO.gives h1 rfl rfl rfl rfl rfl rfl rfl rfl rfl (WO.go rfl ?_) | refine WD.gives h1 rfl rfl rfl rfl rfl rfl rfl rfl rfl (WD.go rfl ?_) | refine WO.append0 rfl rfl rfl rfl rfl rfl rfl rfl rfl (WO.go rfl ?_) | refine WO.appendF (by simp) (by exact lens_ok rfl) (by exact lens_ok rfl) (by first | decide | simp) (by first | decide | simp) rfl rfl rfl rfl rfl rfl rfl rfl rfl rfl (WO.go rfl ?_) | refine WO.appendI (by simp) (by exact lens_ok rfl) (by first | decide | simp) (by first | decide | simp) rfl rfl rfl rfl rfl rfl rfl rfl rfl rfl (WO.go rfl ?_) | refine W.loop ?_ | refine W.exit ?_)
    exact W.ret (.ret [_] rfl rfl)
  | .q .eu s f => by
    have h1 := copyF_W f
    refine givesW (fn := Tryz.f153) Tryz.func153 rfl rfl rfl ?_
    repeat (first | refine W.condT rfl ?_ | refine W.condF rfl ?_ | refine W.seq ?_ | refine W.block ?_ | refine W.skip ?_ | refine WO.nil ?_ | refine WD.nil (WO.go rfl ?_) | refine W.region rfl (WO.go rfl ?_) | refine W.draw (id := 1) 7 [] rfl (by decide +kernel) rfl (WD.go rfl ?_) | refine W.draw (id := 5) 5 [] rfl (by decide +kernel) rfl (WD.go rfl ?_) | refine W.draw (id := 10) 5 [] rfl (by decide +kernel) rfl (WD.go rfl ?_) | refine WO.gives (copyY_W s) rfl rfl rfl rfl rfl rfl rfl rfl rfl (WO.go rfl ?_) | refine WD.gives (copyY_W s) rfl rfl rfl rfl rfl rfl rfl rfl rfl (WD.go rfl ?_) | refine WO.gives h1 rfl rfl rfl rfl rfl rfl rfl rfl rfl (WO.go rfl ?_) | refine WD.gives h1 rfl rfl rfl rfl rfl rfl rfl rfl rfl (WD.go rfl ?_) | refine WO.append0 rfl rfl rfl rfl rfl rfl rfl rfl rfl (WO.go rfl ?_) | refine WO.appendF (by simp) (by exact lens_ok rfl) (by exact lens_ok rfl) (by first | decide | simp) (by first | decide | simp) rfl rfl rfl rfl rfl rfl rfl rfl rfl rfl (WO.go rfl ?_) | refine WO.appendI (by simp) (by exact lens_ok rfl) (by first | decide | simp) (by first | decide | simp) rfl rfl rfl rfl rfl rfl rfl rfl rfl rfl (WO.go rfl ?_) | refine W.loop ?_ | refine W.exit ?_)
    exact W.ret (.ret [_] rfl rfl)
theorem two07_W (k : Bk) (f g : Fo) : Gives (AC X) 120 [.int .i64 (match k with | .an => 2 | .im => 3), .agg (cF f), .agg (cF g)] (.agg (cF (.bi k f g))) := by
  have h1 := copyF_W (X := X) f
  have h2 := copyF_W (X := X) g
  cases k <;>
  · refine givesW (fn := Tryz.f120) Tryz.func120 rfl rfl rfl ?_
    repeat (first | refine W.condT rfl ?_ | refine W.condF rfl ?_ | refine W.seq ?_ | refine W.block ?_ | refine W.skip ?_ | refine WO.nil ?_ | refine WD.nil (WO.go rfl ?_) | refine W.region rfl (WO.go rfl ?_) | refine W.draw (id := 1) 6 [] rfl (by decide +kernel) rfl (WD.go rfl ?_) | refine WO.gives h1 rfl rfl rfl rfl rfl rfl rfl rfl rfl (WO.go rfl ?_) | refine WD.gives h1 rfl rfl rfl rfl rfl rfl rfl rfl rfl (WD.go rfl ?_) | refine WO.gives h2 rfl rfl rfl rfl rfl rfl rfl rfl rfl (WO.go rfl ?_) | refine WD.gives h2 rfl rfl rfl rfl rfl rfl rfl rfl rfl (WD.go rfl ?_) | refine WO.append0 rfl rfl rfl rfl rfl rfl rfl rfl rfl (WO.go rfl ?_) | refine WO.appendF (by simp) (by exact lens_ok rfl) (by exact lens_ok rfl) (by first | decide | simp) (by first | decide | simp) rfl rfl rfl rfl rfl rfl rfl rfl rfl rfl (WO.go rfl ?_) | refine WO.appendI (by simp) (by exact lens_ok rfl) (by first | decide | simp) (by first | decide | simp) rfl rfl rfl rfl rfl rfl rfl rfl rfl rfl (WO.go rfl ?_) | refine W.loop ?_ | refine W.exit ?_)
    exact W.ret (.ret [_] rfl rfl)
def kQ : Qk → Int
  | .al => 4 | .ex => 5 | .au => 6 | .eu => 7
theorem q07_W (k : Qk) (s : Y) (f : Fo) : Gives (AC X) 121 [.int .i64 (kQ k), .agg (cY s), .agg (cF f)] (.agg (cF (.q k s f))) := by
  have h1 := copyF_W (X := X) f
  cases k <;>
  · refine givesW (fn := Tryz.f121) Tryz.func121 rfl rfl rfl ?_
    repeat (first | refine W.condT rfl ?_ | refine W.condF rfl ?_ | refine W.seq ?_ | refine W.block ?_ | refine W.skip ?_ | refine WO.nil ?_ | refine WD.nil (WO.go rfl ?_) | refine W.region rfl (WO.go rfl ?_) | refine W.draw (id := 1) 6 [] rfl (by decide +kernel) rfl (WD.go rfl ?_) | refine WO.gives h1 rfl rfl rfl rfl rfl rfl rfl rfl rfl (WO.go rfl ?_) | refine WD.gives h1 rfl rfl rfl rfl rfl rfl rfl rfl rfl (WD.go rfl ?_) | refine WO.gives (copyY_W s) rfl rfl rfl rfl rfl rfl rfl rfl rfl (WO.go rfl ?_) | refine WD.gives (copyY_W s) rfl rfl rfl rfl rfl rfl rfl rfl rfl (WD.go rfl ?_) | refine WO.append0 rfl rfl rfl rfl rfl rfl rfl rfl rfl (WO.go rfl ?_) | refine WO.appendF (by simp) (by exact lens_ok rfl) (by exact lens_ok rfl) (by first | decide | simp) (by first | decide | simp) rfl rfl rfl rfl rfl rfl rfl rfl rfl rfl (WO.go rfl ?_) | refine WO.appendI (by simp) (by exact lens_ok rfl) (by first | decide | simp) (by first | decide | simp) rfl rfl rfl rfl rfl rfl rfl rfl rfl rfl (WO.go rfl ?_) | refine W.loop ?_ | refine W.exit ?_)
    exact W.ret (.ret [_] rfl rfl)
def pB (M : Nat) : Nat → Nat
  | 0 => 1 + rB M 1 + rB M 1
  | n + 1 => 1 + pB M n + pB M n
theorem pB_pos (M n : Nat) : 1 + rB M 1 + rB M 1 ≤ pB M n := by
  induction n with
  | zero => exact Nat.le_refl _
  | succ n ih => simp only [pB]; omega
/-- a formula without uniform quantifiers -/
def PureOut (l : List Int) (M : Nat) (g : List Y) (i R : Nat) (rs : List AV) (st' : St) : Prop :=
  ∃ (f : Fo) (j : Nat), rs = [.agg (cF f)] ∧ st'[0]? = (deck l j)[0]? ∧ i ≤ j ∧ j ≤ l.length ∧ f.pure ∧ Fo.Ok (2 * M + 5) g.reverse f ∧ f.size ≤ R ∧ f.tyLe M
theorem pure_W (l : List Int) (hl : l.length ≤ 1000) (M : Nat) (hM : 1 ≤ M) (hM2 : M ≤ 60) : ∀ (n : Nat) (g : List Y) (i : Nat), n ≤ 30 → (∀ y ∈ g, y.size ≤ M) → g.length + 3 * n ≤ 500 → i ≤ l.length →
    ∃ (f : Fo) (j : Nat), Draws (AC X) l 155 [.sl .no (g.map cY), .int .i64 (n : Nat)] i (.agg (cF f)) j ∧ i ≤ j ∧ j ≤ l.length ∧ f.pure ∧ Fo.Ok (2 * M + 5) g.reverse f ∧ f.size ≤ pB M n ∧ f.tyLe M := by
  intro n
  induction n with
  | zero =>
    intro g i _ hg hgl hi
    suffices h : ∃ rs st', AC X 155 [.vp 0 0, .sl .no (g.map cY), .int .i64 ((0 : Nat) : Int)] (deck l i) (resOf rs) st' ∧ PureOut l M g i (pB M 0) rs st' by
      obtain ⟨rs, st', h1, f, j, rfl, h2, h3⟩ := h; exact ⟨f, j, ⟨st', h1, h2⟩, h3⟩
    obtain ⟨a, j1, ha, ha1, ha2, ha3, ha4, ha5⟩ := term_W (X := X) l hl M hM (by omega) 1 .nat g i (by omega) (by simp only [Y.size]; omega) hg (by omega) hi
    obtain ⟨b, j2, hb, hb1, hb2, hb3, hb4, hb5⟩ := term_W (X := X) l hl M hM (by omega) 1 .nat g j1 (by omega) (by simp only [Y.size]; omega) hg (by omega) ha2
    refine callW (fn := Tryz.f155) Tryz.func155 rfl rfl rfl ?_
    repeat (first | refine W.condT rfl ?_ | refine W.condF rfl ?_ | refine W.seq ?_ | refine W.block ?_ | refine W.skip ?_ | refine WO.nil ?_ | refine WD.nil (WO.go rfl ?_) | refine W.region rfl (WO.go rfl ?_) | refine W.draw (id := 11) 9 [0] rfl (by decide +kernel) rfl (WD.go rfl ?_) | refine W.draw (id := 14) 9 [0] rfl (by decide +kernel) rfl (WD.go rfl ?_) | refine W.draw (id := 16) 7 [0] rfl (by decide +kernel) rfl (WD.go rfl ?_) | refine WO.gives nat_W rfl rfl rfl rfl rfl rfl rfl rfl rfl (WO.go rfl ?_) | refine WD.gives nat_W rfl rfl rfl rfl rfl rfl rfl rfl rfl (WD.go rfl ?_) | refine WO.draws ha rfl rfl rfl rfl rfl rfl rfl rfl rfl rfl rfl (WO.go rfl ?_) | refine WD.draws ha rfl rfl rfl rfl rfl rfl rfl rfl rfl rfl rfl rfl (WD.go rfl ?_) | refine WO.draws hb rfl rfl rfl rfl rfl rfl rfl rfl rfl rfl rfl (WO.go rfl ?_) | refine WD.draws hb rfl rfl rfl rfl rfl rfl rfl rfl rfl rfl rfl rfl (WD.go rfl ?_) | refine WO.gives (eqF_W a b) rfl rfl rfl rfl rfl rfl rfl rfl rfl (WO.go rfl ?_) | refine WD.gives (eqF_W a b) rfl rfl rfl rfl rfl rfl rfl rfl rfl (WD.go rfl ?_) | refine WO.append0 rfl rfl rfl rfl rfl rfl rfl rfl rfl (WO.go rfl ?_) | refine WO.appendF (by simp) (by exact lens_ok rfl) (by exact lens_ok rfl) (by first | decide | simp) (by first | decide | simp) rfl rfl rfl rfl rfl rfl rfl rfl rfl rfl (WO.go rfl ?_) | refine WO.appendI (by simp) (by exact lens_ok rfl) (by first | decide | simp) (by first | decide | simp) rfl rfl rfl rfl rfl rfl rfl rfl rfl rfl (WO.go rfl ?_) | refine W.loop ?_ | refine W.exit ?_)
    exact W.ret (.ret [_] rfl ⟨.eq a b, j2, rfl, rfl, by omega, hb2, trivial, .eq ha3 hb3, by simp only [Fo.size, pB]; omega, ha5, hb5⟩)
  | succ n ih =>
    intro g i hn hg hgl hi
    suffices h : ∃ rs st', AC X 155 [.vp 0 0, .sl .no (g.map cY), .int .i64 ((n + 1 : Nat) : Int)] (deck l i) (resOf rs) st' ∧ PureOut l M g i (pB M (n + 1)) rs st' by
      obtain ⟨rs, st', h1, f, j, rfl, h2, h3⟩ := h; exact ⟨f, j, ⟨st', h1, h2⟩, h3⟩
    have hw : IntKind.i64.wrap (((n + 1 : Nat) : Int) - 1) = (n : Int) := by rw [wrap_id (by omega) (by omega)]; omega
    have hR := pB_pos M (n + 1)
    have hR2 : pB M (n + 1) = 1 + pB M n + pB M n := rfl
    obtain ⟨v, j0, hv, hvv, hjv⟩ : ∃ (v : Int) (j' : Nat), Draws (AC X) l 18 [.int .i64 7] i (.int .i64 v) j' ∧ (0 ≤ v ∧ v < 7) ∧ i ≤ j' ∧ j' ≤ l.length := ⟨_, _, next_W l i 7 (by omega) hl (by decide) (by decide), nextV_lt l i 7 (by decide) (by decide), by unfold nextI; omega, by unfold nextI; omega⟩
    refine callW (fn := Tryz.f155) Tryz.func155 rfl rfl rfl ?_
    repeat (first | refine W.condT rfl ?_ | refine W.condF rfl ?_ | refine W.seq ?_ | refine W.block ?_ | refine W.skip ?_ | refine WO.nil ?_ | refine WD.nil (WO.go rfl ?_) | refine W.region rfl (WO.go rfl ?_) | refine W.draw (id := 11) 9 [] rfl (by decide +kernel) rfl (WD.go rfl ?_) | refine W.draw (id := 14) 9 [] rfl (by decide +kernel) rfl (WD.go rfl ?_) | refine W.draw (id := 16) 7 [] rfl (by decide +kernel) rfl (WD.go rfl ?_) | refine WO.gives nat_W rfl rfl rfl rfl rfl rfl rfl rfl rfl (WO.go rfl ?_) | refine WD.gives nat_W rfl rfl rfl rfl rfl rfl rfl rfl rfl (WD.go rfl ?_) | refine WO.append0 rfl rfl rfl rfl rfl rfl rfl rfl rfl (WO.go rfl ?_) | refine WO.appendF (by simp) (by exact lens_ok rfl) (by exact lens_ok rfl) (by first | decide | simp) (by first | decide | simp) rfl rfl rfl rfl rfl rfl rfl rfl rfl rfl (WO.go rfl ?_) | refine WO.appendI (by simp) (by exact lens_ok rfl) (by first | decide | simp) (by first | decide | simp) rfl rfl rfl rfl rfl rfl rfl rfl rfl rfl (WO.go rfl ?_) | refine W.loop ?_ | refine W.exit ?_)
    refine W.cond rfl (fun _ => ?_) (fun h => absurd (h.symm.trans (decT (by omega))) (by decide))
    refine W.seq (W.region rfl (WO.go rfl (WO.draws hv rfl rfl rfl rfl rfl rfl rfl rfl rfl rfl rfl (WO.go rfl (WO.nil ?_)))))
    have hv7 : v = 0 ∨ v = 1 ∨ v = 2 ∨ v = 3 ∨ v = 4 ∨ v = 5 ∨ v = 6 := by omega
    rcases hv7 with rfl | rfl | rfl | rfl | rfl | rfl | rfl
    · obtain ⟨f, j1, hf, hf1, hf2, hf3, hf4, hf5, hf6⟩ := ih g j0 (by omega) hg (by omega) (by omega)
      obtain ⟨q, j2, hq, hq1, hq2, hq3, hq4, hq5, hq6⟩ := ih g j1 (by omega) hg (by omega) hf2
      rw [← hw] at hf hq
      repeat (first | refine W.condT rfl ?_ | refine W.condF rfl ?_ | refine W.seq ?_ | refine W.block ?_ | refine W.skip ?_ | refine WO.nil ?_ | refine WD.nil (WO.go rfl ?_) | refine W.region rfl (WO.go rfl ?_) | refine W.draw (id := 11) 9 [0] rfl (by decide +kernel) rfl (WD.go rfl ?_) | refine W.draw (id := 14) 9 [0] rfl (by decide +kernel) rfl (WD.go rfl ?_) | refine W.draw (id := 16) 7 [0] rfl (by decide +kernel) rfl (WD.go rfl ?_) | refine WO.draws hf rfl rfl rfl rfl rfl rfl rfl rfl rfl rfl rfl (WO.go rfl ?_) | refine WD.draws hf rfl rfl rfl rfl rfl rfl rfl rfl rfl rfl rfl rfl (WD.go rfl ?_) | refine WO.draws hq rfl rfl rfl rfl rfl rfl rfl rfl rfl rfl rfl (WO.go rfl ?_) | refine WD.draws hq rfl rfl rfl rfl rfl rfl rfl rfl rfl rfl rfl rfl (WD.go rfl ?_) | refine WO.gives (two07_W .an f q) rfl rfl rfl rfl rfl rfl rfl rfl rfl (WO.go rfl ?_) | refine WD.gives (two07_W .an f q) rfl rfl rfl rfl rfl rfl rfl rfl rfl (WD.go rfl ?_) | refine WO.append0 rfl rfl rfl rfl rfl rfl rfl rfl rfl (WO.go rfl ?_) | refine WO.appendF (by simp) (by exact lens_ok rfl) (by exact lens_ok rfl) (by first | decide | simp) (by first | decide | simp) rfl rfl rfl rfl rfl rfl rfl rfl rfl rfl (WO.go rfl ?_) | refine WO.appendI (by simp) (by exact lens_ok rfl) (by first | decide | simp) (by first | decide | simp) rfl rfl rfl rfl rfl rfl rfl rfl rfl rfl (WO.go rfl ?_) | refine W.loop ?_ | refine W.exit ?_)
      exact W.ret (.ret [_] rfl ⟨.bi .an f q, j2, rfl, rfl, by omega, hq2, ⟨hf3, hq3⟩, .bi hf4 hq4, by simp only [Fo.size]; omega, hf6, hq6⟩)
    · obtain ⟨f, j1, hf, hf1, hf2, hf3, hf4, hf5, hf6⟩ := ih g j0 (by omega) hg (by omega) (by omega)
      obtain ⟨q, j2, hq, hq1, hq2, hq3, hq4, hq5, hq6⟩ := ih g j1 (by omega) hg (by omega) hf2
      rw [← hw] at hf hq
      repeat (first | refine W.condT rfl ?_ | refine W.condF rfl ?_ | refine W.seq ?_ | refine W.block ?_ | refine W.skip ?_ | refine WO.nil ?_ | refine WD.nil (WO.go rfl ?_) | refine W.region rfl (WO.go rfl ?_) | refine W.draw (id := 11) 9 [0] rfl (by decide +kernel) rfl (WD.go rfl ?_) | refine W.draw (id := 14) 9 [0] rfl (by decide +kernel) rfl (WD.go rfl ?_) | refine W.draw (id := 16) 7 [0] rfl (by decide +kernel) rfl (WD.go rfl ?_) | refine WO.draws hf rfl rfl rfl rfl rfl rfl rfl rfl rfl rfl rfl (WO.go rfl ?_) | refine WD.draws hf rfl rfl rfl rfl rfl rfl rfl rfl rfl rfl rfl rfl (WD.go rfl ?_) | refine WO.draws hq rfl rfl rfl rfl rfl rfl rfl rfl rfl rfl rfl (WO.go rfl ?_) | refine WD.draws hq rfl rfl rfl rfl rfl rfl rfl rfl rfl rfl rfl rfl (WD.go rfl ?_) | refine WO.gives (two07_W .im f q) rfl rfl rfl rfl rfl rfl rfl rfl rfl (WO.go rfl ?_) | refine WD.gives (two07_W .im f q) rfl rfl rfl rfl rfl rfl rfl rfl rfl (WD.go rfl ?_) | refine WO.append0 rfl rfl rfl rfl rfl rfl rfl rfl rfl (WO.go rfl ?_) | refine WO.appendF (by simp) (by exact lens_ok rfl) (by exact lens_ok rfl) (by first | decide | simp) (by first | decide | simp) rfl rfl rfl rfl rfl rfl rfl rfl rfl rfl (WO.go rfl ?_) | refine WO.appendI (by simp) (by exact lens_ok rfl) (by first | decide | simp) (by first | decide | simp) rfl rfl rfl rfl rfl rfl rfl rfl rfl rfl (WO.go rfl ?_) | refine W.loop ?_ | refine W.exit ?_)
      exact W.ret (.ret [_] rfl ⟨.bi .im f q, j2, rfl, rfl, by omega, hq2, ⟨hf3, hq3⟩, .bi hf4 hq4, by simp only [Fo.size]; omega, hf6, hq6⟩)
    · obtain ⟨f, j1, hf, hf1, hf2, hf3, hf4, hf5, hf6⟩ := ih g j0 (by omega) hg (by omega) (by omega)
      obtain ⟨q, j2, hq, hq1, hq2, hq3, hq4, hq5, hq6⟩ := ih g j1 (by omega) hg (by omega) hf2
      rw [← hw] at hf hq
      repeat (first | refine W.condT rfl ?_ | refine W.condF rfl ?_ | refine W.seq ?_ | refine W.block ?_ | refine W.skip ?_ | refine WO.nil ?_ | refine WD.nil (WO.go rfl ?_) | refine W.region rfl (WO.go rfl ?_) | refine W.draw (id := 11) 9 [0] rfl (by decide +kernel) rfl (WD.go rfl ?_) | refine W.draw (id := 14) 9 [0] rfl (by decide +kernel) rfl (WD.go rfl ?_) | refine W.draw (id := 16) 7 [0] rfl (by decide +kernel) rfl (WD.go rfl ?_) | refine WO.draws hf rfl rfl rfl rfl rfl rfl rfl rfl rfl rfl rfl (WO.go rfl ?_) | refine WD.draws hf rfl rfl rfl rfl rfl rfl rfl rfl rfl rfl rfl rfl (WD.go rfl ?_) | refine WO.draws hq rfl rfl rfl rfl rfl rfl rfl rfl rfl rfl rfl (WO.go rfl ?_) | refine WD.draws hq rfl rfl rfl rfl rfl rfl rfl rfl rfl rfl rfl rfl (WD.go rfl ?_) | refine WO.gives (two07_W .im f q) rfl rfl rfl rfl rfl rfl rfl rfl rfl (WO.go rfl ?_) | refine WD.gives (two07_W .im f q) rfl rfl rfl rfl rfl rfl rfl rfl rfl (WD.go rfl ?_) | refine WO.append0 rfl rfl rfl rfl rfl rfl rfl rfl rfl (WO.go rfl ?_) | refine WO.appendF (by simp) (by exact lens_ok rfl) (by exact lens_ok rfl) (by first | decide | simp) (by first | decide | simp) rfl rfl rfl rfl rfl rfl rfl rfl rfl rfl (WO.go rfl ?_) | refine WO.appendI (by simp) (by exact lens_ok rfl) (by first | decide | simp) (by first | decide | simp) rfl rfl rfl rfl rfl rfl rfl rfl rfl rfl (WO.go rfl ?_) | refine W.loop ?_ | refine W.exit ?_)
      exact W.ret (.ret [_] rfl ⟨.bi .im f q, j2, rfl, rfl, by omega, hq2, ⟨hf3, hq3⟩, .bi hf4 hq4, by simp only [Fo.size]; omega, hf6, hq6⟩)
    · obtain ⟨s, j1, hs, hs1, hs2, hs3⟩ := type_W (X := X) l hl 0 (by omega) j0 (by omega)
      simp only [tyB] at hs3
      obtain ⟨f, j2, hf, hf1, hf2, hf3, hf4, hf5, hf6⟩ := ih (g ++ [s]) j1 (by omega) (fun y hy => by
        rcases List.mem_append.1 hy with h1 | h1
        · exact hg y h1
        · simp at h1; subst h1; omega) (by simp; omega) hs2
      rw [← hw] at hf
      rw [List.reverse_append] at hf4
      repeat (first | refine W.condT rfl ?_ | refine W.condF rfl ?_ | refine W.seq ?_ | refine W.block ?_ | refine W.skip ?_ | refine WO.nil ?_ | refine WD.nil (WO.go rfl ?_) | refine W.region rfl (WO.go rfl ?_) | refine W.draw (id := 11) 9 [0] rfl (by decide +kernel) rfl (WD.go rfl ?_) | refine W.draw (id := 14) 9 [0] rfl (by decide +kernel) rfl (WD.go rfl ?_) | refine W.draw (id := 16) 7 [0] rfl (by decide +kernel) rfl (WD.go rfl ?_) | refine WO.draws hs rfl rfl rfl rfl rfl rfl rfl rfl rfl rfl rfl (WO.go rfl ?_) | refine WD.draws hs rfl rfl rfl rfl rfl rfl rfl rfl rfl rfl rfl rfl (WD.go rfl ?_) | refine WO.gives (longer_W g [s] (by omega) (by simp)) rfl rfl rfl rfl rfl rfl rfl rfl rfl (WO.go rfl ?_) | refine WD.gives (longer_W g [s] (by omega) (by simp)) rfl rfl rfl rfl rfl rfl rfl rfl rfl (WD.go rfl ?_) | refine WO.draws hf rfl rfl rfl rfl rfl rfl rfl rfl rfl rfl rfl (WO.go rfl ?_) | refine WD.draws hf rfl rfl rfl rfl rfl rfl rfl rfl rfl rfl rfl rfl (WD.go rfl ?_) | refine WO.gives (q07_W .al s f) rfl rfl rfl rfl rfl rfl rfl rfl rfl (WO.go rfl ?_) | refine WD.gives (q07_W .al s f) rfl rfl rfl rfl rfl rfl rfl rfl rfl (WD.go rfl ?_) | refine WO.append0 rfl rfl rfl rfl rfl rfl rfl rfl rfl (WO.go rfl ?_) | refine WO.appendF (by simp) (by exact lens_ok rfl) (by exact lens_ok rfl) (by first | decide | simp) (by first | decide | simp) rfl rfl rfl rfl rfl rfl rfl rfl rfl rfl (WO.go rfl ?_) | refine WO.appendI (by simp) (by exact lens_ok rfl) (by first | decide | simp) (by first | decide | simp) rfl rfl rfl rfl rfl rfl rfl rfl rfl rfl (WO.go rfl ?_) | refine W.loop ?_ | refine W.exit ?_)
      exact W.ret (.ret [_] rfl ⟨.q .al s f, j2, rfl, rfl, by omega, hf2, ⟨by simp, hf3⟩, .q hf4, by simp only [Fo.size]; omega, by omega, hf6⟩)
    · obtain ⟨s, j1, hs, hs1, hs2, hs3⟩ := type_W (X := X) l hl 0 (by omega) j0 (by omega)
      simp only [tyB] at hs3
      obtain ⟨f, j2, hf, hf1, hf2, hf3, hf4, hf5, hf6⟩ := ih (g ++ [s]) j1 (by omega) (fun y hy => by
        rcases List.mem_append.1 hy with h1 | h1
        · exact hg y h1
        · simp at h1; subst h1; omega) (by simp; omega) hs2
      rw [← hw] at hf
      rw [List.reverse_append] at hf4
      repeat (first | refine W.condT rfl ?_ | refine W.condF rfl ?_ | refine W.seq ?_ | refine W.block ?_ | refine W.skip ?_ | refine WO.nil ?_ | refine WD.nil (WO.go rfl ?_) | refine W.region rfl (WO.go rfl ?_) | refine W.draw (id := 11) 9 [0] rfl (by decide +kernel) rfl (WD.go rfl ?_) | refine W.draw (id := 14) 9 [0] rfl (by decide +kernel) rfl (WD.go rfl ?_) | refine W.draw (id := 16) 7 [0] rfl (by decide +kernel) rfl (WD.go rfl ?_) | refine WO.draws hs rfl rfl rfl rfl rfl rfl rfl rfl rfl rfl rfl (WO.go rfl ?_) | refine WD.draws hs rfl rfl rfl rfl rfl rfl rfl rfl rfl rfl rfl rfl (WD.go rfl ?_) | refine WO.gives (longer_W g [s] (by omega) (by simp)) rfl rfl rfl rfl rfl rfl rfl rfl rfl (WO.go rfl ?_) | refine WD.gives (longer_W g [s] (by omega) (by simp)) rfl rfl rfl rfl rfl rfl rfl rfl rfl (WD.go rfl ?_) | refine WO.draws hf rfl rfl rfl rfl rfl rfl rfl rfl rfl rfl rfl (WO.go rfl ?_) | refine WD.draws hf rfl rfl rfl rfl rfl rfl rfl rfl rfl rfl rfl rfl (WD.go rfl ?_) | refine WO.gives (q07_W .al s f) rfl rfl rfl rfl rfl rfl rfl rfl rfl (WO.go rfl ?_) | refine WD.gives (q07_W .al s f) rfl rfl rfl rfl rfl rfl rfl rfl rfl (WD.go rfl ?_) | refine WO.append0 rfl rfl rfl rfl rfl rfl rfl rfl rfl (WO.go rfl ?_) | refine WO.appendF (by simp) (by exact lens_ok rfl) (by exact lens_ok rfl) (by first | decide | simp) (by first | decide | simp) rfl rfl rfl rfl rfl rfl rfl rfl rfl rfl (WO.go rfl ?_) | refine WO.appendI (by simp) (by exact lens_ok rfl) (by first | decide | simp) (by first | decide | simp) rfl rfl rfl rfl rfl rfl rfl rfl rfl rfl (WO.go rfl ?_) | refine W.loop ?_ | refine W.exit ?_)
      exact W.ret (.ret [_] rfl ⟨.q .al s f, j2, rfl, rfl, by omega, hf2, ⟨by simp, hf3⟩, .q hf4, by simp only [Fo.size]; omega, by omega, hf6⟩)
    · obtain ⟨s, j1, hs, hs1, hs2, hs3⟩ := type_W (X := X) l hl 0 (by omega) j0 (by omega)
      simp only [tyB] at hs3
      obtain ⟨f, j2, hf, hf1, hf2, hf3, hf4, hf5, hf6⟩ := ih (g ++ [s]) j1 (by omega) (fun y hy => by
        rcases List.mem_append.1 hy with h1 | h1
        · exact hg y h1
        · simp at h1; subst h1; omega) (by simp; omega) hs2
      rw [← hw] at hf
      rw [List.reverse_append] at hf4
      repeat (first | refine W.condT rfl ?_ | refine W.condF rfl ?_ | refine W.seq ?_ | refine W.block ?_ | refine W.skip ?_ | refine WO.nil ?_ | refine WD.nil (WO.go rfl ?_) | refine W.region rfl (WO.go rfl ?_) | refine W.draw (id := 11) 9 [0] rfl (by decide +kernel) rfl (WD.go rfl ?_) | refine W.draw (id := 14) 9 [0] rfl (by decide +kernel) rfl (WD.go rfl ?_) | refine W.draw (id := 16) 7 [0] rfl (by decide +kernel) rfl (WD.go rfl ?_) | refine WO.draws hs rfl rfl rfl rfl rfl rfl rfl rfl rfl rfl rfl (WO.go rfl ?_) | refine WD.draws hs rfl rfl rfl rfl rfl rfl rfl rfl rfl rfl rfl rfl (WD.go rfl ?_) | refine WO.gives (longer_W g [s] (by omega) (by simp)) rfl rfl rfl rfl rfl rfl rfl rfl rfl (WO.go rfl ?_) | refine WD.gives (longer_W g [s] (by omega) (by simp)) rfl rfl rfl rfl rfl rfl rfl rfl rfl (WD.go rfl ?_) | refine WO.draws hf rfl rfl rfl rfl rfl rfl rfl rfl rfl rfl rfl (WO.go rfl ?_) | refine WD.draws hf rfl rfl rfl rfl rfl rfl rfl rfl rfl rfl rfl rfl (WD.go rfl ?_) | refine WO.gives (q07_W .ex s f) rfl rfl rfl rfl rfl rfl rfl rfl rfl (WO.go rfl ?_) | refine WD.gives (q07_W .ex s f) rfl rfl rfl rfl rfl rfl rfl rfl rfl (WD.go rfl ?_) | refine WO.append0 rfl rfl rfl rfl rfl rfl rfl rfl rfl (WO.go rfl ?_) | refine WO.appendF (by simp) (by exact lens_ok rfl) (by exact lens_ok rfl) (by first | decide | simp) (by first | decide | simp) rfl rfl rfl rfl rfl rfl rfl rfl rfl rfl (WO.go rfl ?_) | refine WO.appendI (by simp) (by exact lens_ok rfl) (by first | decide | simp) (by first | decide | simp) rfl rfl rfl rfl rfl rfl rfl rfl rfl rfl (WO.go rfl ?_) | refine W.loop ?_ | refine W.exit ?_)
      exact W.ret (.ret [_] rfl ⟨.q .ex s f, j2, rfl, rfl, by omega, hf2, ⟨by simp, hf3⟩, .q hf4, by simp only [Fo.size]; omega, by omega, hf6⟩)
    · obtain ⟨a, j1, ha, ha1, ha2, ha3, ha4, ha5⟩ := term_W (X := X) l hl M hM (by omega) 1 .nat g j0 (by omega) (by simp only [Y.size]; omega) hg (by omega) (by omega)
      obtain ⟨b, j2, hb, hb1, hb2, hb3, hb4, hb5⟩ := term_W (X := X) l hl M hM (by omega) 1 .nat g j1 (by omega) (by simp only [Y.size]; omega) hg (by omega) ha2
      repeat (first | refine W.condT rfl ?_ | refine W.condF rfl ?_ | refine W.seq ?_ | refine W.block ?_ | refine W.skip ?_ | refine WO.nil ?_ | refine WD.nil (WO.go rfl ?_) | refine W.region rfl (WO.go rfl ?_) | refine W.draw (id := 11) 9 [0] rfl (by decide +kernel) rfl (WD.go rfl ?_) | refine W.draw (id := 14) 9 [0] rfl (by decide +kernel) rfl (WD.go rfl ?_) | refine W.draw (id := 16) 7 [0] rfl (by decide +kernel) rfl (WD.go rfl ?_) | refine WO.gives nat_W rfl rfl rfl rfl rfl rfl rfl rfl rfl (WO.go rfl ?_) | refine WD.gives nat_W rfl rfl rfl rfl rfl rfl rfl rfl rfl (WD.go rfl ?_) | refine WO.draws ha rfl rfl rfl rfl rfl rfl rfl rfl rfl rfl rfl (WO.go rfl ?_) | refine WD.draws ha rfl rfl rfl rfl rfl rfl rfl rfl rfl rfl rfl rfl (WD.go rfl ?_) | refine WO.draws hb rfl rfl rfl rfl rfl rfl rfl rfl rfl rfl rfl (WO.go rfl ?_) | refine WD.draws hb rfl rfl rfl rfl rfl rfl rfl rfl rfl rfl rfl rfl (WD.go rfl ?_) | refine WO.gives (eqF_W a b) rfl rfl rfl rfl rfl rfl rfl rfl rfl (WO.go rfl ?_) | refine WD.gives (eqF_W a b) rfl rfl rfl rfl rfl rfl rfl rfl rfl (WD.go rfl ?_) | refine WO.append0 rfl rfl rfl rfl rfl rfl rfl rfl rfl (WO.go rfl ?_) | refine WO.appendF (by simp) (by exact lens_ok rfl) (by exact lens_ok rfl) (by first | decide | simp) (by first | decide | simp) rfl rfl rfl rfl rfl rfl rfl rfl rfl rfl (WO.go rfl ?_) | refine WO.appendI (by simp) (by exact lens_ok rfl) (by first | decide | simp) (by first | decide | simp) rfl rfl rfl rfl rfl rfl rfl rfl rfl rfl (WO.go rfl ?_) | refine W.loop ?_ | refine W.exit ?_)
      exact W.ret (.ret [_] rfl ⟨.eq a b, j2, rfl, rfl, by omega, hb2, trivial, .eq ha3 hb3, by simp only [Fo.size]; omega, ha5, hb5⟩)
theorem Y.fns_unit (t : Y) : Y.fns t .unit = .unit := rfl
theorem Y.fns_unit2 (t : Y) : Y.fns .unit t = t := by cases t <;> rfl
theorem Fo.not_bothE {f : Fo} {w c : Y} (h : f.bothE = some (w, c)) : (Fo.bi .im f falseF).bothE = Fo.fit (Y.fns w c, w) := by
  rw [Fo.bothE, h]
  simp only [falseF, Fo.bothE, Bk.comb, Y.fns_unit, Y.fns_unit2, Y.prs_unit, Y.prs_unit2]end Go.Proofs.YtjdlmhbkfammlabGreatDoor
