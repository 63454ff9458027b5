/- A part of the proof: walks of the functions. -/
import Derived.Test.YtjdlmhbkfammlabGreatDoorSeatb
namespace Go.Proofs.YtjdlmhbkfammlabGreatDoor
open Go Go.Sh
set_option linter.unusedVariables false
set_option linter.unusedSimpArgs false
set_option maxHeartbeats 4000000
variable {X : CRel}
/-! the references' forms and sizes -/
theorem shapeY_W : ∀ (t : Y), Gives (AC X) 190 [.agg (cY t)] (.bool true) := by
  intro t
  induction t with
  | nat =>
    refine givesW (fn := Tryz.f190) Tryz.func190 rfl rfl rfl ?_
    repeat (first | refine W.condT rfl ?_ | refine W.condF rfl ?_ | refine W.seq ?_ | refine W.block ?_ | refine W.skip ?_ | refine WO.nil ?_ | refine WD.nil (WO.go rfl ?_) | refine W.region rfl (WO.go rfl ?_) | refine WO.append0 rfl rfl rfl rfl rfl rfl rfl rfl rfl (WO.go rfl ?_) | refine WO.appendF (by simp) (by exact lens_ok rfl) (by exact lens_ok rfl) (by first | decide | simp) (by first | decide | simp) rfl rfl rfl rfl rfl rfl rfl rfl rfl rfl (WO.go rfl ?_) | refine WO.appendI (by simp) (by exact lens_ok rfl) (by first | decide | simp) (by first | decide | simp) rfl rfl rfl rfl rfl rfl rfl rfl rfl rfl (WO.go rfl ?_) | refine W.loop ?_ | refine W.exit ?_)
    exact W.ret (.ret [_] rfl rfl)
  | list =>
    refine givesW (fn := Tryz.f190) Tryz.func190 rfl rfl rfl ?_
    repeat (first | refine W.condT rfl ?_ | refine W.condF rfl ?_ | refine W.seq ?_ | refine W.block ?_ | refine W.skip ?_ | refine WO.nil ?_ | refine WD.nil (WO.go rfl ?_) | refine W.region rfl (WO.go rfl ?_) | refine WO.append0 rfl rfl rfl rfl rfl rfl rfl rfl rfl (WO.go rfl ?_) | refine WO.appendF (by simp) (by exact lens_ok rfl) (by exact lens_ok rfl) (by first | decide | simp) (by first | decide | simp) rfl rfl rfl rfl rfl rfl rfl rfl rfl rfl (WO.go rfl ?_) | refine WO.appendI (by simp) (by exact lens_ok rfl) (by first | decide | simp) (by first | decide | simp) rfl rfl rfl rfl rfl rfl rfl rfl rfl rfl (WO.go rfl ?_) | refine W.loop ?_ | refine W.exit ?_)
    exact W.ret (.ret [_] rfl rfl)
  | unit =>
    refine givesW (fn := Tryz.f190) Tryz.func190 rfl rfl rfl ?_
    repeat (first | refine W.condT rfl ?_ | refine W.condF rfl ?_ | refine W.seq ?_ | refine W.block ?_ | refine W.skip ?_ | refine WO.nil ?_ | refine WD.nil (WO.go rfl ?_) | refine W.region rfl (WO.go rfl ?_) | refine WO.append0 rfl rfl rfl rfl rfl rfl rfl rfl rfl (WO.go rfl ?_) | refine WO.appendF (by simp) (by exact lens_ok rfl) (by exact lens_ok rfl) (by first | decide | simp) (by first | decide | simp) rfl rfl rfl rfl rfl rfl rfl rfl rfl rfl (WO.go rfl ?_) | refine WO.appendI (by simp) (by exact lens_ok rfl) (by first | decide | simp) (by first | decide | simp) rfl rfl rfl rfl rfl rfl rfl rfl rfl rfl (WO.go rfl ?_) | refine W.loop ?_ | refine W.exit ?_)
    exact W.ret (.ret [_] rfl rfl)
  | pair a b iha ihb =>
    have ha := iha
    have hb := ihb
    refine givesW (fn := Tryz.f190) Tryz.func190 rfl rfl rfl ?_
    repeat (first | refine W.condT rfl ?_ | refine W.condF rfl ?_ | refine W.seq ?_ | refine W.block ?_ | refine W.skip ?_ | refine WO.nil ?_ | refine WD.nil (WO.go rfl ?_) | refine W.region rfl (WO.go rfl ?_) | refine WO.gives ha rfl rfl rfl rfl rfl rfl rfl rfl rfl (WO.go rfl ?_) | refine WD.gives ha rfl rfl rfl rfl rfl rfl rfl rfl rfl (WD.go rfl ?_) | refine WO.gives hb rfl rfl rfl rfl rfl rfl rfl rfl rfl (WO.go rfl ?_) | refine WD.gives hb rfl rfl rfl rfl rfl rfl rfl rfl rfl (WD.go rfl ?_) | refine WO.append0 rfl rfl rfl rfl rfl rfl rfl rfl rfl (WO.go rfl ?_) | refine WO.appendF (by simp) (by exact lens_ok rfl) (by exact lens_ok rfl) (by first | decide | simp) (by first | decide | simp) rfl rfl rfl rfl rfl rfl rfl rfl rfl rfl (WO.go rfl ?_) | refine WO.appendI (by simp) (by exact lens_ok rfl) (by first | decide | simp) (by first | decide | simp) rfl rfl rfl rfl rfl rfl rfl rfl rfl rfl (WO.go rfl ?_) | refine W.loop ?_ | refine W.exit ?_)
    exact W.ret (.ret [_] rfl rfl)
  | fn a b iha ihb =>
    have ha := iha
    have hb := ihb
    refine givesW (fn := Tryz.f190) Tryz.func190 rfl rfl rfl ?_
    repeat (first | refine W.condT rfl ?_ | refine W.condF rfl ?_ | refine W.seq ?_ | refine W.block ?_ | refine W.skip ?_ | refine WO.nil ?_ | refine WD.nil (WO.go rfl ?_) | refine W.region rfl (WO.go rfl ?_) | refine WO.gives ha rfl rfl rfl rfl rfl rfl rfl rfl rfl (WO.go rfl ?_) | refine WD.gives ha rfl rfl rfl rfl rfl rfl rfl rfl rfl (WD.go rfl ?_) | refine WO.gives hb rfl rfl rfl rfl rfl rfl rfl rfl rfl (WO.go rfl ?_) | refine WD.gives hb rfl rfl rfl rfl rfl rfl rfl rfl rfl (WD.go rfl ?_) | refine WO.append0 rfl rfl rfl rfl rfl rfl rfl rfl rfl (WO.go rfl ?_) | refine WO.appendF (by simp) (by exact lens_ok rfl) (by exact lens_ok rfl) (by first | decide | simp) (by first | decide | simp) rfl rfl rfl rfl rfl rfl rfl rfl rfl rfl (WO.go rfl ?_) | refine WO.appendI (by simp) (by exact lens_ok rfl) (by first | decide | simp) (by first | decide | simp) rfl rfl rfl rfl rfl rfl rfl rfl rfl rfl (WO.go rfl ?_) | refine W.loop ?_ | refine W.exit ?_)
    exact W.ret (.ret [_] rfl rfl)
theorem sizeY_W : ∀ (t : Y), t.size ≤ 1000000 → Gives (AC X) 191 [.agg (cY t)] (.int .i64 t.size) := by
  intro t
  induction t with
  | nat =>
    intro _
    refine givesW (fn := Tryz.f191) Tryz.func191 rfl rfl rfl ?_
    repeat (first | refine W.condT rfl ?_ | refine W.condF rfl ?_ | refine W.seq ?_ | refine W.block ?_ | refine W.skip ?_ | refine WO.nil ?_ | refine WD.nil (WO.go rfl ?_) | refine W.region rfl (WO.go rfl ?_) | refine WO.append0 rfl rfl rfl rfl rfl rfl rfl rfl rfl (WO.go rfl ?_) | refine WO.appendF (by simp) (by exact lens_ok rfl) (by exact lens_ok rfl) (by first | decide | simp) (by first | decide | simp) rfl rfl rfl rfl rfl rfl rfl rfl rfl rfl (WO.go rfl ?_) | refine WO.appendI (by simp) (by exact lens_ok rfl) (by first | decide | simp) (by first | decide | simp) rfl rfl rfl rfl rfl rfl rfl rfl rfl rfl (WO.go rfl ?_) | refine W.loop ?_ | refine W.exit ?_)
    exact W.ret (.ret [_] rfl rfl)
  | list =>
    intro _
    refine givesW (fn := Tryz.f191) Tryz.func191 rfl rfl rfl ?_
    repeat (first | refine W.condT rfl ?_ | refine W.condF rfl ?_ | refine W.seq ?_ | refine W.block ?_ | refine W.skip ?_ | refine WO.nil ?_ | refine WD.nil (WO.go rfl ?_) | refine W.region rfl (WO.go rfl ?_) | refine WO.append0 rfl rfl rfl rfl rfl rfl rfl rfl rfl (WO.go rfl ?_) | refine WO.appendF (by simp) (by exact lens_ok rfl) (by exact lens_ok rfl) (by first | decide | simp) (by first | decide | simp) rfl rfl rfl rfl rfl rfl rfl rfl rfl rfl (WO.go rfl ?_) | refine WO.appendI (by simp) (by exact lens_ok rfl) (by first | decide | simp) (by first | decide | simp) rfl rfl rfl rfl rfl rfl rfl rfl rfl rfl (WO.go rfl ?_) | refine W.loop ?_ | refine W.exit ?_)
    exact W.ret (.ret [_] rfl rfl)
  | unit =>
    intro _
    refine givesW (fn := Tryz.f191) Tryz.func191 rfl rfl rfl ?_
    repeat (first | refine W.condT rfl ?_ | refine W.condF rfl ?_ | refine W.seq ?_ | refine W.block ?_ | refine W.skip ?_ | refine WO.nil ?_ | refine WD.nil (WO.go rfl ?_) | refine W.region rfl (WO.go rfl ?_) | refine WO.append0 rfl rfl rfl rfl rfl rfl rfl rfl rfl (WO.go rfl ?_) | refine WO.appendF (by simp) (by exact lens_ok rfl) (by exact lens_ok rfl) (by first | decide | simp) (by first | decide | simp) rfl rfl rfl rfl rfl rfl rfl rfl rfl rfl (WO.go rfl ?_) | refine WO.appendI (by simp) (by exact lens_ok rfl) (by first | decide | simp) (by first | decide | simp) rfl rfl rfl rfl rfl rfl rfl rfl rfl rfl (WO.go rfl ?_) | refine W.loop ?_ | refine W.exit ?_)
    exact W.ret (.ret [_] rfl rfl)
  | pair a b iha ihb =>
    intro h
    simp only [Y.size] at h
    have ha := iha (by omega)
    have hb := ihb (by omega)
    refine givesW (fn := Tryz.f191) Tryz.func191 rfl rfl rfl ?_
    repeat (first | refine W.condT rfl ?_ | refine W.condF rfl ?_ | refine W.seq ?_ | refine W.block ?_ | refine W.skip ?_ | refine WO.nil ?_ | refine WD.nil (WO.go rfl ?_) | refine W.region rfl (WO.go rfl ?_) | refine WO.gives ha rfl rfl rfl rfl rfl rfl rfl rfl rfl (WO.go rfl ?_) | refine WD.gives ha rfl rfl rfl rfl rfl rfl rfl rfl rfl (WD.go rfl ?_) | refine WO.gives hb rfl rfl rfl rfl rfl rfl rfl rfl rfl (WO.go rfl ?_) | refine WD.gives hb rfl rfl rfl rfl rfl rfl rfl rfl rfl (WD.go rfl ?_) | refine WO.append0 rfl rfl rfl rfl rfl rfl rfl rfl rfl (WO.go rfl ?_) | refine WO.appendF (by simp) (by exact lens_ok rfl) (by exact lens_ok rfl) (by first | decide | simp) (by first | decide | simp) rfl rfl rfl rfl rfl rfl rfl rfl rfl rfl (WO.go rfl ?_) | refine WO.appendI (by simp) (by exact lens_ok rfl) (by first | decide | simp) (by first | decide | simp) rfl rfl rfl rfl rfl rfl rfl rfl rfl rfl (WO.go rfl ?_) | refine W.loop ?_ | refine W.exit ?_)
    refine W.ret (.ret [_] rfl ?_)
    show AV.int .i64 _ = AV.int .i64 _
    congr 1
    simp (disch := omega) only [wrap_id, Y.size]
    try omega
  | fn a b iha ihb =>
    intro h
    simp only [Y.size] at h
    have ha := iha (by omega)
    have hb := ihb (by omega)
    refine givesW (fn := Tryz.f191) Tryz.func191 rfl rfl rfl ?_
    repeat (first | refine W.condT rfl ?_ | refine W.condF rfl ?_ | refine W.seq ?_ | refine W.block ?_ | refine W.skip ?_ | refine WO.nil ?_ | refine WD.nil (WO.go rfl ?_) | refine W.region rfl (WO.go rfl ?_) | refine WO.gives ha rfl rfl rfl rfl rfl rfl rfl rfl rfl (WO.go rfl ?_) | refine WD.gives ha rfl rfl rfl rfl rfl rfl rfl rfl rfl (WD.go rfl ?_) | refine WO.gives hb rfl rfl rfl rfl rfl rfl rfl rfl rfl (WO.go rfl ?_) | refine WD.gives hb rfl rfl rfl rfl rfl rfl rfl rfl rfl (WD.go rfl ?_) | refine WO.append0 rfl rfl rfl rfl rfl rfl rfl rfl rfl (WO.go rfl ?_) | refine WO.appendF (by simp) (by exact lens_ok rfl) (by exact lens_ok rfl) (by first | decide | simp) (by first | decide | simp) rfl rfl rfl rfl rfl rfl rfl rfl rfl rfl (WO.go rfl ?_) | refine WO.appendI (by simp) (by exact lens_ok rfl) (by first | decide | simp) (by first | decide | simp) rfl rfl rfl rfl rfl rfl rfl rfl rfl rfl (WO.go rfl ?_) | refine W.loop ?_ | refine W.exit ?_)
    refine W.ret (.ret [_] rfl ?_)
    show AV.int .i64 _ = AV.int .i64 _
    congr 1
    simp (disch := omega) only [wrap_id, Y.size]
    try omega
theorem checkY_W (t : Y) (h : t.size ≤ 64) : Gives (AC X) 135 [.agg (cY t)] (.int .i64 0) := by
  refine givesW (fn := Tryz.f135) Tryz.func135 rfl rfl rfl ?_
  repeat (first | refine W.condT rfl ?_ | refine W.condF rfl ?_ | refine W.seq ?_ | refine W.block ?_ | refine W.skip ?_ | refine WO.nil ?_ | refine WD.nil (WO.go rfl ?_) | refine W.region rfl (WO.go rfl ?_) | refine WO.gives (shapeY_W t) rfl rfl rfl rfl rfl rfl rfl rfl rfl (WO.go rfl ?_) | refine WD.gives (shapeY_W t) rfl rfl rfl rfl rfl rfl rfl rfl rfl (WD.go rfl ?_) | refine WO.gives (sizeY_W t (by omega)) rfl rfl rfl rfl rfl rfl rfl rfl rfl (WO.go rfl ?_) | refine WD.gives (sizeY_W t (by omega)) rfl rfl rfl rfl rfl rfl rfl rfl rfl (WD.go rfl ?_) | refine WO.append0 rfl rfl rfl rfl rfl rfl rfl rfl rfl (WO.go rfl ?_) | refine WO.appendF (by simp) (by exact lens_ok rfl) (by exact lens_ok rfl) (by first | decide | simp) (by first | decide | simp) rfl rfl rfl rfl rfl rfl rfl rfl rfl rfl (WO.go rfl ?_) | refine WO.appendI (by simp) (by exact lens_ok rfl) (by first | decide | simp) (by first | decide | simp) rfl rfl rfl rfl rfl rfl rfl rfl rfl rfl (WO.go rfl ?_) | refine W.loop ?_ | refine W.exit ?_)
  refine W.cond rfl (fun h => ?_) (fun _ => ?_)
  · simp at h; omega
  · repeat (first | refine W.condT rfl ?_ | refine W.condF rfl ?_ | refine W.seq ?_ | refine W.block ?_ | refine W.skip ?_ | refine WO.nil ?_ | refine WD.nil (WO.go rfl ?_) | refine W.region rfl (WO.go rfl ?_) | refine WO.append0 rfl rfl rfl rfl rfl rfl rfl rfl rfl (WO.go rfl ?_) | refine WO.appendF (by simp) (by exact lens_ok rfl) (by exact lens_ok rfl) (by first | decide | simp) (by first | decide | simp) rfl rfl rfl rfl rfl rfl rfl rfl rfl rfl (WO.go rfl ?_) | refine WO.appendI (by simp) (by exact lens_ok rfl) (by first | decide | simp) (by first | decide | simp) rfl rfl rfl rfl rfl rfl rfl rfl rfl rfl (WO.go rfl ?_) | refine W.loop ?_ | refine W.exit ?_)
    exact W.ret (.ret [_] rfl rfl)
theorem checkYL_W (t : Y) (h : t.size ≤ 1000000) (h2 : ¬ t.size ≤ 64) : Gives (AC X) 135 [.agg (cY t)] (.int .i64 4) := by
  refine givesW (fn := Tryz.f135) Tryz.func135 rfl rfl rfl ?_
  repeat (first | refine W.condT rfl ?_ | refine W.condF rfl ?_ | refine W.seq ?_ | refine W.block ?_ | refine W.skip ?_ | refine WO.nil ?_ | refine WD.nil (WO.go rfl ?_) | refine W.region rfl (WO.go rfl ?_) | refine WO.gives (shapeY_W t) rfl rfl rfl rfl rfl rfl rfl rfl rfl (WO.go rfl ?_) | refine WD.gives (shapeY_W t) rfl rfl rfl rfl rfl rfl rfl rfl rfl (WD.go rfl ?_) | refine WO.gives (sizeY_W t (by omega)) rfl rfl rfl rfl rfl rfl rfl rfl rfl (WO.go rfl ?_) | refine WD.gives (sizeY_W t (by omega)) rfl rfl rfl rfl rfl rfl rfl rfl rfl (WD.go rfl ?_) | refine WO.append0 rfl rfl rfl rfl rfl rfl rfl rfl rfl (WO.go rfl ?_) | refine WO.appendF (by simp) (by exact lens_ok rfl) (by exact lens_ok rfl) (by first | decide | simp) (by first | decide | simp) rfl rfl rfl rfl rfl rfl rfl rfl rfl rfl (WO.go rfl ?_) | refine WO.appendI (by simp) (by exact lens_ok rfl) (by first | decide | simp) (by first | decide | simp) rfl rfl rfl rfl rfl rfl rfl rfl rfl rfl (WO.go rfl ?_) | refine W.loop ?_ | refine W.exit ?_)
  refine W.cond rfl (fun _ => ?_) (fun h => ?_)
  · repeat (first | refine W.condT rfl ?_ | refine W.condF rfl ?_ | refine W.seq ?_ | refine W.block ?_ | refine W.skip ?_ | refine WO.nil ?_ | refine WD.nil (WO.go rfl ?_) | refine W.region rfl (WO.go rfl ?_) | refine WO.append0 rfl rfl rfl rfl rfl rfl rfl rfl rfl (WO.go rfl ?_) | refine WO.appendF (by simp) (by exact lens_ok rfl) (by exact lens_ok rfl) (by first | decide | simp) (by first | decide | simp) rfl rfl rfl rfl rfl rfl rfl rfl rfl rfl (WO.go rfl ?_) | refine WO.appendI (by simp) (by exact lens_ok rfl) (by first | decide | simp) (by first | decide | simp) rfl rfl rfl rfl rfl rfl rfl rfl rfl rfl (WO.go rfl ?_) | refine W.loop ?_ | refine W.exit ?_)
    exact W.ret (.ret [_] rfl rfl)
  · simp at h; omega
theorem zeroY_W : Gives (AC X) 222 [.agg [.int .i64 0, .sl .no []]] (.bool true) := by
  refine givesW (fn := Tryz.f222) Tryz.func222 rfl rfl rfl ?_
  repeat (first | refine W.condT rfl ?_ | refine W.condF rfl ?_ | refine W.seq ?_ | refine W.block ?_ | refine W.skip ?_ | refine WO.nil ?_ | refine WD.nil (WO.go rfl ?_) | refine W.region rfl (WO.go rfl ?_) | refine WO.append0 rfl rfl rfl rfl rfl rfl rfl rfl rfl (WO.go rfl ?_) | refine WO.appendF (by simp) (by exact lens_ok rfl) (by exact lens_ok rfl) (by first | decide | simp) (by first | decide | simp) rfl rfl rfl rfl rfl rfl rfl rfl rfl rfl (WO.go rfl ?_) | refine WO.appendI (by simp) (by exact lens_ok rfl) (by first | decide | simp) (by first | decide | simp) rfl rfl rfl rfl rfl rfl rfl rfl rfl rfl (WO.go rfl ?_) | refine W.loop ?_ | refine W.exit ?_)
  exact W.ret (.ret [_] rfl rfl)
theorem args02_W (x : T) : Gives (AC X) 221 [.int .i64 (kT x)] (.int .i64 x.args.length) := by
  cases x <;>
  · refine givesW (fn := Tryz.f221) Tryz.func221 rfl rfl rfl ?_
    repeat (first | refine W.condT rfl ?_ | refine W.condF rfl ?_ | refine W.seq ?_ | refine W.block ?_ | refine W.skip ?_ | refine WO.nil ?_ | refine WD.nil (WO.go rfl ?_) | refine W.region rfl (WO.go rfl ?_) | refine WO.append0 rfl rfl rfl rfl rfl rfl rfl rfl rfl (WO.go rfl ?_) | refine WO.appendF (by simp) (by exact lens_ok rfl) (by exact lens_ok rfl) (by first | decide | simp) (by first | decide | simp) rfl rfl rfl rfl rfl rfl rfl rfl rfl rfl (WO.go rfl ?_) | refine WO.appendI (by simp) (by exact lens_ok rfl) (by first | decide | simp) (by first | decide | simp) rfl rfl rfl rfl rfl rfl rfl rfl rfl rfl (WO.go rfl ?_) | refine W.loop ?_ | refine W.exit ?_)
    exact W.ret (.ret [_] rfl rfl)
theorem lt0 (i : Nat) : decide ((i : Int) < 0) = false := decide_eq_false (by omega)
theorem shape02_W : ∀ (x : T), x.tyLe 64 → Gives (AC X) 172 [.agg (cT x)] (.bool true) := by
  intro x
  induction x with
  | vr i =>
    intro  ht
    try simp only [T.tyLe] at ht
    cases i with
    | zero =>
      refine givesW (fn := Tryz.f172) Tryz.func172 rfl rfl rfl ?_
      repeat (first | refine W.condT rfl ?_ | refine W.condF rfl ?_ | refine W.seq ?_ | refine W.block ?_ | refine W.skip ?_ | refine WO.nil ?_ | refine WD.nil (WO.go rfl ?_) | refine W.region rfl (WO.go rfl ?_) | refine W.draw (id := 1) 6 [] rfl (by decide +kernel) rfl (WD.go rfl ?_) | refine WO.gives (args02_W (.vr 0)) rfl rfl rfl rfl rfl rfl rfl rfl rfl (WO.go rfl ?_) | refine WD.gives (args02_W (.vr 0)) rfl rfl rfl rfl rfl rfl rfl rfl rfl (WD.go rfl ?_) | refine WO.gives zeroY_W rfl rfl rfl rfl rfl rfl rfl rfl rfl (WO.go rfl ?_) | refine WD.gives zeroY_W rfl rfl rfl rfl rfl rfl rfl rfl rfl (WD.go rfl ?_) | refine WO.append0 rfl rfl rfl rfl rfl rfl rfl rfl rfl (WO.go rfl ?_) | refine WO.appendF (by simp) (by exact lens_ok rfl) (by exact lens_ok rfl) (by first | decide | simp) (by first | decide | simp) rfl rfl rfl rfl rfl rfl rfl rfl rfl rfl (WO.go rfl ?_) | refine WO.appendI (by simp) (by exact lens_ok rfl) (by first | decide | simp) (by first | decide | simp) rfl rfl rfl rfl rfl rfl rfl rfl rfl rfl (WO.go rfl ?_) | refine W.loop ?_ | refine W.exit ?_)
      exact W.ret (.ret [_] rfl rfl)
    | succ i =>
      refine givesW (fn := Tryz.f172) Tryz.func172 rfl rfl rfl ?_
      repeat (first | refine W.condT rfl ?_ | refine W.condF rfl ?_ | refine W.seq ?_ | refine W.block ?_ | refine W.skip ?_ | refine WO.nil ?_ | refine WD.nil (WO.go rfl ?_) | refine W.region rfl (WO.go rfl ?_) | refine W.draw (id := 1) 6 [] rfl (by decide +kernel) rfl (WD.go rfl ?_) | refine WO.gives (args02_W (.vr (i + 1))) rfl rfl rfl rfl rfl rfl rfl rfl rfl (WO.go rfl ?_) | refine WD.gives (args02_W (.vr (i + 1))) rfl rfl rfl rfl rfl rfl rfl rfl rfl (WD.go rfl ?_) | refine WO.gives zeroY_W rfl rfl rfl rfl rfl rfl rfl rfl rfl (WO.go rfl ?_) | refine WD.gives zeroY_W rfl rfl rfl rfl rfl rfl rfl rfl rfl (WD.go rfl ?_) | refine WO.append0 rfl rfl rfl rfl rfl rfl rfl rfl rfl (WO.go rfl ?_) | refine WO.appendF (by simp) (by exact lens_ok rfl) (by exact lens_ok rfl) (by first | decide | simp) (by first | decide | simp) rfl rfl rfl rfl rfl rfl rfl rfl rfl rfl (WO.go rfl ?_) | refine WO.appendI (by simp) (by exact lens_ok rfl) (by first | decide | simp) (by first | decide | simp) rfl rfl rfl rfl rfl rfl rfl rfl rfl rfl (WO.go rfl ?_) | refine W.loop ?_ | refine W.exit ?_)
      exact W.ret (.ret [_] rfl rfl)
  | lm s b ih_b =>
    intro  ht
    try simp only [T.tyLe] at ht
    have h_b := ih_b ht.2
    refine givesW (fn := Tryz.f172) Tryz.func172 rfl rfl rfl ?_
    repeat (first | refine W.condT rfl ?_ | refine W.condF rfl ?_ | refine W.seq ?_ | refine W.block ?_ | refine W.skip ?_ | refine WO.nil ?_ | refine WD.nil (WO.go rfl ?_) | refine W.region rfl (WO.go rfl ?_) | refine W.draw (id := 1) 6 [] rfl (by decide +kernel) rfl (WD.go rfl ?_) | refine WO.gives (args02_W (.lm s b)) rfl rfl rfl rfl rfl rfl rfl rfl rfl (WO.go rfl ?_) | refine WD.gives (args02_W (.lm s b)) rfl rfl rfl rfl rfl rfl rfl rfl rfl (WD.go rfl ?_) | refine WO.gives (checkY_W s ht.1) rfl rfl rfl rfl rfl rfl rfl rfl rfl (WO.go rfl ?_) | refine WD.gives (checkY_W s ht.1) rfl rfl rfl rfl rfl rfl rfl rfl rfl (WD.go rfl ?_) | refine WO.gives h_b rfl rfl rfl rfl rfl rfl rfl rfl rfl (WO.go rfl ?_) | refine WD.gives h_b rfl rfl rfl rfl rfl rfl rfl rfl rfl (WD.go rfl ?_) | refine WO.append0 rfl rfl rfl rfl rfl rfl rfl rfl rfl (WO.go rfl ?_) | refine WO.appendF (by simp) (by exact lens_ok rfl) (by exact lens_ok rfl) (by first | decide | simp) (by first | decide | simp) rfl rfl rfl rfl rfl rfl rfl rfl rfl rfl (WO.go rfl ?_) | refine WO.appendI (by simp) (by exact lens_ok rfl) (by first | decide | simp) (by first | decide | simp) rfl rfl rfl rfl rfl rfl rfl rfl rfl rfl (WO.go rfl ?_) | refine W.loop ?_ | refine W.exit ?_)
    exact W.ret (.ret [_] rfl rfl)
  | ap f a ih_f ih_a =>
    intro  ht
    try simp only [T.tyLe] at ht
    have h_f := ih_f ht.1
    have h_a := ih_a ht.2
    refine givesW (fn := Tryz.f172) Tryz.func172 rfl rfl rfl ?_
    repeat (first | refine W.condT rfl ?_ | refine W.condF rfl ?_ | refine W.seq ?_ | refine W.block ?_ | refine W.skip ?_ | refine WO.nil ?_ | refine WD.nil (WO.go rfl ?_) | refine W.region rfl (WO.go rfl ?_) | refine W.draw (id := 1) 6 [] rfl (by decide +kernel) rfl (WD.go rfl ?_) | refine WO.gives (args02_W (.ap f a)) rfl rfl rfl rfl rfl rfl rfl rfl rfl (WO.go rfl ?_) | refine WD.gives (args02_W (.ap f a)) rfl rfl rfl rfl rfl rfl rfl rfl rfl (WD.go rfl ?_) | refine WO.gives zeroY_W rfl rfl rfl rfl rfl rfl rfl rfl rfl (WO.go rfl ?_) | refine WD.gives zeroY_W rfl rfl rfl rfl rfl rfl rfl rfl rfl (WD.go rfl ?_) | refine WO.gives h_f rfl rfl rfl rfl rfl rfl rfl rfl rfl (WO.go rfl ?_) | refine WD.gives h_f rfl rfl rfl rfl rfl rfl rfl rfl rfl (WD.go rfl ?_) | refine WO.gives h_a rfl rfl rfl rfl rfl rfl rfl rfl rfl (WO.go rfl ?_) | refine WD.gives h_a rfl rfl rfl rfl rfl rfl rfl rfl rfl (WD.go rfl ?_) | refine WO.append0 rfl rfl rfl rfl rfl rfl rfl rfl rfl (WO.go rfl ?_) | refine WO.appendF (by simp) (by exact lens_ok rfl) (by exact lens_ok rfl) (by first | decide | simp) (by first | decide | simp) rfl rfl rfl rfl rfl rfl rfl rfl rfl rfl (WO.go rfl ?_) | refine WO.appendI (by simp) (by exact lens_ok rfl) (by first | decide | simp) (by first | decide | simp) rfl rfl rfl rfl rfl rfl rfl rfl rfl rfl (WO.go rfl ?_) | refine W.loop ?_ | refine W.exit ?_)
    exact W.ret (.ret [_] rfl rfl)
  | ze =>
    intro  ht
    try simp only [T.tyLe] at ht
    refine givesW (fn := Tryz.f172) Tryz.func172 rfl rfl rfl ?_
    repeat (first | refine W.condT rfl ?_ | refine W.condF rfl ?_ | refine W.seq ?_ | refine W.block ?_ | refine W.skip ?_ | refine WO.nil ?_ | refine WD.nil (WO.go rfl ?_) | refine W.region rfl (WO.go rfl ?_) | refine W.draw (id := 1) 6 [] rfl (by decide +kernel) rfl (WD.go rfl ?_) | refine WO.gives (args02_W .ze) rfl rfl rfl rfl rfl rfl rfl rfl rfl (WO.go rfl ?_) | refine WD.gives (args02_W .ze) rfl rfl rfl rfl rfl rfl rfl rfl rfl (WD.go rfl ?_) | refine WO.gives zeroY_W rfl rfl rfl rfl rfl rfl rfl rfl rfl (WO.go rfl ?_) | refine WD.gives zeroY_W rfl rfl rfl rfl rfl rfl rfl rfl rfl (WD.go rfl ?_) | refine WO.append0 rfl rfl rfl rfl rfl rfl rfl rfl rfl (WO.go rfl ?_) | refine WO.appendF (by simp) (by exact lens_ok rfl) (by exact lens_ok rfl) (by first | decide | simp) (by first | decide | simp) rfl rfl rfl rfl rfl rfl rfl rfl rfl rfl (WO.go rfl ?_) | refine WO.appendI (by simp) (by exact lens_ok rfl) (by first | decide | simp) (by first | decide | simp) rfl rfl rfl rfl rfl rfl rfl rfl rfl rfl (WO.go rfl ?_) | refine W.loop ?_ | refine W.exit ?_)
    exact W.ret (.ret [_] rfl rfl)
  | su n ih_n =>
    intro  ht
    try simp only [T.tyLe] at ht
    have h_n := ih_n ht
    refine givesW (fn := Tryz.f172) Tryz.func172 rfl rfl rfl ?_
    repeat (first | refine W.condT rfl ?_ | refine W.condF rfl ?_ | refine W.seq ?_ | refine W.block ?_ | refine W.skip ?_ | refine WO.nil ?_ | refine WD.nil (WO.go rfl ?_) | refine W.region rfl (WO.go rfl ?_) | refine W.draw (id := 1) 6 [] rfl (by decide +kernel) rfl (WD.go rfl ?_) | refine WO.gives (args02_W (.su n)) rfl rfl rfl rfl rfl rfl rfl rfl rfl (WO.go rfl ?_) | refine WD.gives (args02_W (.su n)) rfl rfl rfl rfl rfl rfl rfl rfl rfl (WD.go rfl ?_) | refine WO.gives zeroY_W rfl rfl rfl rfl rfl rfl rfl rfl rfl (WO.go rfl ?_) | refine WD.gives zeroY_W rfl rfl rfl rfl rfl rfl rfl rfl rfl (WD.go rfl ?_) | refine WO.gives h_n rfl rfl rfl rfl rfl rfl rfl rfl rfl (WO.go rfl ?_) | refine WD.gives h_n rfl rfl rfl rfl rfl rfl rfl rfl rfl (WD.go rfl ?_) | refine WO.append0 rfl rfl rfl rfl rfl rfl rfl rfl rfl (WO.go rfl ?_) | refine WO.appendF (by simp) (by exact lens_ok rfl) (by exact lens_ok rfl) (by first | decide | simp) (by first | decide | simp) rfl rfl rfl rfl rfl rfl rfl rfl rfl rfl (WO.go rfl ?_) | refine WO.appendI (by simp) (by exact lens_ok rfl) (by first | decide | simp) (by first | decide | simp) rfl rfl rfl rfl rfl rfl rfl rfl rfl rfl (WO.go rfl ?_) | refine W.loop ?_ | refine W.exit ?_)
    exact W.ret (.ret [_] rfl rfl)
  | rc s b f n ih_b ih_f ih_n =>
    intro  ht
    try simp only [T.tyLe] at ht
    have h_b := ih_b ht.2.1
    have h_f := ih_f ht.2.2.1
    have h_n := ih_n ht.2.2.2
    refine givesW (fn := Tryz.f172) Tryz.func172 rfl rfl rfl ?_
    repeat (first | refine W.condT rfl ?_ | refine W.condF rfl ?_ | refine W.seq ?_ | refine W.block ?_ | refine W.skip ?_ | refine WO.nil ?_ | refine WD.nil (WO.go rfl ?_) | refine W.region rfl (WO.go rfl ?_) | refine W.draw (id := 1) 6 [] rfl (by decide +kernel) rfl (WD.go rfl ?_) | refine WO.gives (args02_W (.rc s b f n)) rfl rfl rfl rfl rfl rfl rfl rfl rfl (WO.go rfl ?_) | refine WD.gives (args02_W (.rc s b f n)) rfl rfl rfl rfl rfl rfl rfl rfl rfl (WD.go rfl ?_) | refine WO.gives (checkY_W s ht.1) rfl rfl rfl rfl rfl rfl rfl rfl rfl (WO.go rfl ?_) | refine WD.gives (checkY_W s ht.1) rfl rfl rfl rfl rfl rfl rfl rfl rfl (WD.go rfl ?_) | refine WO.gives h_b rfl rfl rfl rfl rfl rfl rfl rfl rfl (WO.go rfl ?_) | refine WD.gives h_b rfl rfl rfl rfl rfl rfl rfl rfl rfl (WD.go rfl ?_) | refine WO.gives h_f rfl rfl rfl rfl rfl rfl rfl rfl rfl (WO.go rfl ?_) | refine WD.gives h_f rfl rfl rfl rfl rfl rfl rfl rfl rfl (WD.go rfl ?_) | refine WO.gives h_n rfl rfl rfl rfl rfl rfl rfl rfl rfl (WO.go rfl ?_) | refine WD.gives h_n rfl rfl rfl rfl rfl rfl rfl rfl rfl (WD.go rfl ?_) | refine WO.append0 rfl rfl rfl rfl rfl rfl rfl rfl rfl (WO.go rfl ?_) | refine WO.appendF (by simp) (by exact lens_ok rfl) (by exact lens_ok rfl) (by first | decide | simp) (by first | decide | simp) rfl rfl rfl rfl rfl rfl rfl rfl rfl rfl (WO.go rfl ?_) | refine WO.appendI (by simp) (by exact lens_ok rfl) (by first | decide | simp) (by first | decide | simp) rfl rfl rfl rfl rfl rfl rfl rfl rfl rfl (WO.go rfl ?_) | refine W.loop ?_ | refine W.exit ?_)
    exact W.ret (.ret [_] rfl rfl)
  | nl =>
    intro  ht
    try simp only [T.tyLe] at ht
    refine givesW (fn := Tryz.f172) Tryz.func172 rfl rfl rfl ?_
    repeat (first | refine W.condT rfl ?_ | refine W.condF rfl ?_ | refine W.seq ?_ | refine W.block ?_ | refine W.skip ?_ | refine WO.nil ?_ | refine WD.nil (WO.go rfl ?_) | refine W.region rfl (WO.go rfl ?_) | refine W.draw (id := 1) 6 [] rfl (by decide +kernel) rfl (WD.go rfl ?_) | refine WO.gives (args02_W .nl) rfl rfl rfl rfl rfl rfl rfl rfl rfl (WO.go rfl ?_) | refine WD.gives (args02_W .nl) rfl rfl rfl rfl rfl rfl rfl rfl rfl (WD.go rfl ?_) | refine WO.gives zeroY_W rfl rfl rfl rfl rfl rfl rfl rfl rfl (WO.go rfl ?_) | refine WD.gives zeroY_W rfl rfl rfl rfl rfl rfl rfl rfl rfl (WD.go rfl ?_) | refine WO.append0 rfl rfl rfl rfl rfl rfl rfl rfl rfl (WO.go rfl ?_) | refine WO.appendF (by simp) (by exact lens_ok rfl) (by exact lens_ok rfl) (by first | decide | simp) (by first | decide | simp) rfl rfl rfl rfl rfl rfl rfl rfl rfl rfl (WO.go rfl ?_) | refine WO.appendI (by simp) (by exact lens_ok rfl) (by first | decide | simp) (by first | decide | simp) rfl rfl rfl rfl rfl rfl rfl rfl rfl rfl (WO.go rfl ?_) | refine W.loop ?_ | refine W.exit ?_)
    exact W.ret (.ret [_] rfl rfl)
  | cn h l ih_h ih_l =>
    intro  ht
    try simp only [T.tyLe] at ht
    have h_h := ih_h ht.1
    have h_l := ih_l ht.2
    refine givesW (fn := Tryz.f172) Tryz.func172 rfl rfl rfl ?_
    repeat (first | refine W.condT rfl ?_ | refine W.condF rfl ?_ | refine W.seq ?_ | refine W.block ?_ | refine W.skip ?_ | refine WO.nil ?_ | refine WD.nil (WO.go rfl ?_) | refine W.region rfl (WO.go rfl ?_) | refine W.draw (id := 1) 6 [] rfl (by decide +kernel) rfl (WD.go rfl ?_) | refine WO.gives (args02_W (.cn h l)) rfl rfl rfl rfl rfl rfl rfl rfl rfl (WO.go rfl ?_) | refine WD.gives (args02_W (.cn h l)) rfl rfl rfl rfl rfl rfl rfl rfl rfl (WD.go rfl ?_) | refine WO.gives zeroY_W rfl rfl rfl rfl rfl rfl rfl rfl rfl (WO.go rfl ?_) | refine WD.gives zeroY_W rfl rfl rfl rfl rfl rfl rfl rfl rfl (WD.go rfl ?_) | refine WO.gives h_h rfl rfl rfl rfl rfl rfl rfl rfl rfl (WO.go rfl ?_) | refine WD.gives h_h rfl rfl rfl rfl rfl rfl rfl rfl rfl (WD.go rfl ?_) | refine WO.gives h_l rfl rfl rfl rfl rfl rfl rfl rfl rfl (WO.go rfl ?_) | refine WD.gives h_l rfl rfl rfl rfl rfl rfl rfl rfl rfl (WD.go rfl ?_) | refine WO.append0 rfl rfl rfl rfl rfl rfl rfl rfl rfl (WO.go rfl ?_) | refine WO.appendF (by simp) (by exact lens_ok rfl) (by exact lens_ok rfl) (by first | decide | simp) (by first | decide | simp) rfl rfl rfl rfl rfl rfl rfl rfl rfl rfl (WO.go rfl ?_) | refine WO.appendI (by simp) (by exact lens_ok rfl) (by first | decide | simp) (by first | decide | simp) rfl rfl rfl rfl rfl rfl rfl rfl rfl rfl (WO.go rfl ?_) | refine W.loop ?_ | refine W.exit ?_)
    exact W.ret (.ret [_] rfl rfl)
  | fo s b f l ih_b ih_f ih_l =>
    intro  ht
    try simp only [T.tyLe] at ht
    have h_b := ih_b ht.2.1
    have h_f := ih_f ht.2.2.1
    have h_l := ih_l ht.2.2.2
    refine givesW (fn := Tryz.f172) Tryz.func172 rfl rfl rfl ?_
    repeat (first | refine W.condT rfl ?_ | refine W.condF rfl ?_ | refine W.seq ?_ | refine W.block ?_ | refine W.skip ?_ | refine WO.nil ?_ | refine WD.nil (WO.go rfl ?_) | refine W.region rfl (WO.go rfl ?_) | refine W.draw (id := 1) 6 [] rfl (by decide +kernel) rfl (WD.go rfl ?_) | refine WO.gives (args02_W (.fo s b f l)) rfl rfl rfl rfl rfl rfl rfl rfl rfl (WO.go rfl ?_) | refine WD.gives (args02_W (.fo s b f l)) rfl rfl rfl rfl rfl rfl rfl rfl rfl (WD.go rfl ?_) | refine WO.gives (checkY_W s ht.1) rfl rfl rfl rfl rfl rfl rfl rfl rfl (WO.go rfl ?_) | refine WD.gives (checkY_W s ht.1) rfl rfl rfl rfl rfl rfl rfl rfl rfl (WD.go rfl ?_) | refine WO.gives h_b rfl rfl rfl rfl rfl rfl rfl rfl rfl (WO.go rfl ?_) | refine WD.gives h_b rfl rfl rfl rfl rfl rfl rfl rfl rfl (WD.go rfl ?_) | refine WO.gives h_f rfl rfl rfl rfl rfl rfl rfl rfl rfl (WO.go rfl ?_) | refine WD.gives h_f rfl rfl rfl rfl rfl rfl rfl rfl rfl (WD.go rfl ?_) | refine WO.gives h_l rfl rfl rfl rfl rfl rfl rfl rfl rfl (WO.go rfl ?_) | refine WD.gives h_l rfl rfl rfl rfl rfl rfl rfl rfl rfl (WD.go rfl ?_) | refine WO.append0 rfl rfl rfl rfl rfl rfl rfl rfl rfl (WO.go rfl ?_) | refine WO.appendF (by simp) (by exact lens_ok rfl) (by exact lens_ok rfl) (by first | decide | simp) (by first | decide | simp) rfl rfl rfl rfl rfl rfl rfl rfl rfl rfl (WO.go rfl ?_) | refine WO.appendI (by simp) (by exact lens_ok rfl) (by first | decide | simp) (by first | decide | simp) rfl rfl rfl rfl rfl rfl rfl rfl rfl rfl (WO.go rfl ?_) | refine W.loop ?_ | refine W.exit ?_)
    exact W.ret (.ret [_] rfl rfl)
  | pr a b ih_a ih_b =>
    intro  ht
    try simp only [T.tyLe] at ht
    have h_a := ih_a ht.1
    have h_b := ih_b ht.2
    refine givesW (fn := Tryz.f172) Tryz.func172 rfl rfl rfl ?_
    repeat (first | refine W.condT rfl ?_ | refine W.condF rfl ?_ | refine W.seq ?_ | refine W.block ?_ | refine W.skip ?_ | refine WO.nil ?_ | refine WD.nil (WO.go rfl ?_) | refine W.region rfl (WO.go rfl ?_) | refine W.draw (id := 1) 6 [] rfl (by decide +kernel) rfl (WD.go rfl ?_) | refine WO.gives (args02_W (.pr a b)) rfl rfl rfl rfl rfl rfl rfl rfl rfl (WO.go rfl ?_) | refine WD.gives (args02_W (.pr a b)) rfl rfl rfl rfl rfl rfl rfl rfl rfl (WD.go rfl ?_) | refine WO.gives zeroY_W rfl rfl rfl rfl rfl rfl rfl rfl rfl (WO.go rfl ?_) | refine WD.gives zeroY_W rfl rfl rfl rfl rfl rfl rfl rfl rfl (WD.go rfl ?_) | refine WO.gives h_a rfl rfl rfl rfl rfl rfl rfl rfl rfl (WO.go rfl ?_) | refine WD.gives h_a rfl rfl rfl rfl rfl rfl rfl rfl rfl (WD.go rfl ?_) | refine WO.gives h_b rfl rfl rfl rfl rfl rfl rfl rfl rfl (WO.go rfl ?_) | refine WD.gives h_b rfl rfl rfl rfl rfl rfl rfl rfl rfl (WD.go rfl ?_) | refine WO.append0 rfl rfl rfl rfl rfl rfl rfl rfl rfl (WO.go rfl ?_) | refine WO.appendF (by simp) (by exact lens_ok rfl) (by exact lens_ok rfl) (by first | decide | simp) (by first | decide | simp) rfl rfl rfl rfl rfl rfl rfl rfl rfl rfl (WO.go rfl ?_) | refine WO.appendI (by simp) (by exact lens_ok rfl) (by first | decide | simp) (by first | decide | simp) rfl rfl rfl rfl rfl rfl rfl rfl rfl rfl (WO.go rfl ?_) | refine W.loop ?_ | refine W.exit ?_)
    exact W.ret (.ret [_] rfl rfl)
  | fs p ih_p =>
    intro  ht
    try simp only [T.tyLe] at ht
    have h_p := ih_p ht
    refine givesW (fn := Tryz.f172) Tryz.func172 rfl rfl rfl ?_
    repeat (first | refine W.condT rfl ?_ | refine W.condF rfl ?_ | refine W.seq ?_ | refine W.block ?_ | refine W.skip ?_ | refine WO.nil ?_ | refine WD.nil (WO.go rfl ?_) | refine W.region rfl (WO.go rfl ?_) | refine W.draw (id := 1) 6 [] rfl (by decide +kernel) rfl (WD.go rfl ?_) | refine WO.gives (args02_W (.fs p)) rfl rfl rfl rfl rfl rfl rfl rfl rfl (WO.go rfl ?_) | refine WD.gives (args02_W (.fs p)) rfl rfl rfl rfl rfl rfl rfl rfl rfl (WD.go rfl ?_) | refine WO.gives zeroY_W rfl rfl rfl rfl rfl rfl rfl rfl rfl (WO.go rfl ?_) | refine WD.gives zeroY_W rfl rfl rfl rfl rfl rfl rfl rfl rfl (WD.go rfl ?_) | refine WO.gives h_p rfl rfl rfl rfl rfl rfl rfl rfl rfl (WO.go rfl ?_) | refine WD.gives h_p rfl rfl rfl rfl rfl rfl rfl rfl rfl (WD.go rfl ?_) | refine WO.append0 rfl rfl rfl rfl rfl rfl rfl rfl rfl (WO.go rfl ?_) | refine WO.appendF (by simp) (by exact lens_ok rfl) (by exact lens_ok rfl) (by first | decide | simp) (by first | decide | simp) rfl rfl rfl rfl rfl rfl rfl rfl rfl rfl (WO.go rfl ?_) | refine WO.appendI (by simp) (by exact lens_ok rfl) (by first | decide | simp) (by first | decide | simp) rfl rfl rfl rfl rfl rfl rfl rfl rfl rfl (WO.go rfl ?_) | refine W.loop ?_ | refine W.exit ?_)
    exact W.ret (.ret [_] rfl rfl)
  | sn p ih_p =>
    intro  ht
    try simp only [T.tyLe] at ht
    have h_p := ih_p ht
    refine givesW (fn := Tryz.f172) Tryz.func172 rfl rfl rfl ?_
    repeat (first | refine W.condT rfl ?_ | refine W.condF rfl ?_ | refine W.seq ?_ | refine W.block ?_ | refine W.skip ?_ | refine WO.nil ?_ | refine WD.nil (WO.go rfl ?_) | refine W.region rfl (WO.go rfl ?_) | refine W.draw (id := 1) 6 [] rfl (by decide +kernel) rfl (WD.go rfl ?_) | refine WO.gives (args02_W (.sn p)) rfl rfl rfl rfl rfl rfl rfl rfl rfl (WO.go rfl ?_) | refine WD.gives (args02_W (.sn p)) rfl rfl rfl rfl rfl rfl rfl rfl rfl (WD.go rfl ?_) | refine WO.gives zeroY_W rfl rfl rfl rfl rfl rfl rfl rfl rfl (WO.go rfl ?_) | refine WD.gives zeroY_W rfl rfl rfl rfl rfl rfl rfl rfl rfl (WD.go rfl ?_) | refine WO.gives h_p rfl rfl rfl rfl rfl rfl rfl rfl rfl (WO.go rfl ?_) | refine WD.gives h_p rfl rfl rfl rfl rfl rfl rfl rfl rfl (WD.go rfl ?_) | refine WO.append0 rfl rfl rfl rfl rfl rfl rfl rfl rfl (WO.go rfl ?_) | refine WO.appendF (by simp) (by exact lens_ok rfl) (by exact lens_ok rfl) (by first | decide | simp) (by first | decide | simp) rfl rfl rfl rfl rfl rfl rfl rfl rfl rfl (WO.go rfl ?_) | refine WO.appendI (by simp) (by exact lens_ok rfl) (by first | decide | simp) (by first | decide | simp) rfl rfl rfl rfl rfl rfl rfl rfl rfl rfl (WO.go rfl ?_) | refine W.loop ?_ | refine W.exit ?_)
    exact W.ret (.ret [_] rfl rfl)
  | un =>
    intro  ht
    try simp only [T.tyLe] at ht
    refine givesW (fn := Tryz.f172) Tryz.func172 rfl rfl rfl ?_
    repeat (first | refine W.condT rfl ?_ | refine W.condF rfl ?_ | refine W.seq ?_ | refine W.block ?_ | refine W.skip ?_ | refine WO.nil ?_ | refine WD.nil (WO.go rfl ?_) | refine W.region rfl (WO.go rfl ?_) | refine W.draw (id := 1) 6 [] rfl (by decide +kernel) rfl (WD.go rfl ?_) | refine WO.gives (args02_W .un) rfl rfl rfl rfl rfl rfl rfl rfl rfl (WO.go rfl ?_) | refine WD.gives (args02_W .un) rfl rfl rfl rfl rfl rfl rfl rfl rfl (WD.go rfl ?_) | refine WO.gives zeroY_W rfl rfl rfl rfl rfl rfl rfl rfl rfl (WO.go rfl ?_) | refine WD.gives zeroY_W rfl rfl rfl rfl rfl rfl rfl rfl rfl (WD.go rfl ?_) | refine WO.append0 rfl rfl rfl rfl rfl rfl rfl rfl rfl (WO.go rfl ?_) | refine WO.appendF (by simp) (by exact lens_ok rfl) (by exact lens_ok rfl) (by first | decide | simp) (by first | decide | simp) rfl rfl rfl rfl rfl rfl rfl rfl rfl rfl (WO.go rfl ?_) | refine WO.appendI (by simp) (by exact lens_ok rfl) (by first | decide | simp) (by first | decide | simp) rfl rfl rfl rfl rfl rfl rfl rfl rfl rfl (WO.go rfl ?_) | refine W.loop ?_ | refine W.exit ?_)
    exact W.ret (.ret [_] rfl rfl)
theorem count02_W : ∀ (x : T), x.size ≤ 1000000 → Gives (AC X) 146 [.agg (cT x)] (.int .i64 x.size) := by
  intro x
  induction x with
  | vr i =>
    intro  hs
    try simp only [T.size] at hs
    refine givesW (fn := Tryz.f146) Tryz.func146 rfl rfl rfl ?_
    repeat (first | refine W.condT rfl ?_ | refine W.condF rfl ?_ | refine W.seq ?_ | refine W.block ?_ | refine W.skip ?_ | refine WO.nil ?_ | refine WD.nil (WO.go rfl ?_) | refine W.region rfl (WO.go rfl ?_) | refine WO.append0 rfl rfl rfl rfl rfl rfl rfl rfl rfl (WO.go rfl ?_) | refine WO.appendF (by simp) (by exact lens_ok rfl) (by exact lens_ok rfl) (by first | decide | simp) (by first | decide | simp) rfl rfl rfl rfl rfl rfl rfl rfl rfl rfl (WO.go rfl ?_) | refine WO.appendI (by simp) (by exact lens_ok rfl) (by first | decide | simp) (by first | decide | simp) rfl rfl rfl rfl rfl rfl rfl rfl rfl rfl (WO.go rfl ?_) | refine W.loop ?_ | refine W.exit ?_)
    exact W.ret (.ret [_] rfl rfl)
  | lm s b ih_b =>
    intro  hs
    try simp only [T.size] at hs
    have h_b := ih_b (by omega)
    refine givesW (fn := Tryz.f146) Tryz.func146 rfl rfl rfl ?_
    repeat (first | refine W.condT rfl ?_ | refine W.condF rfl ?_ | refine W.seq ?_ | refine W.block ?_ | refine W.skip ?_ | refine WO.nil ?_ | refine WD.nil (WO.go rfl ?_) | refine W.region rfl (WO.go rfl ?_) | refine WO.gives h_b rfl rfl rfl rfl rfl rfl rfl rfl rfl (WO.go rfl ?_) | refine WD.gives h_b rfl rfl rfl rfl rfl rfl rfl rfl rfl (WD.go rfl ?_) | refine WO.append0 rfl rfl rfl rfl rfl rfl rfl rfl rfl (WO.go rfl ?_) | refine WO.appendF (by simp) (by exact lens_ok rfl) (by exact lens_ok rfl) (by first | decide | simp) (by first | decide | simp) rfl rfl rfl rfl rfl rfl rfl rfl rfl rfl (WO.go rfl ?_) | refine WO.appendI (by simp) (by exact lens_ok rfl) (by first | decide | simp) (by first | decide | simp) rfl rfl rfl rfl rfl rfl rfl rfl rfl rfl (WO.go rfl ?_) | refine W.loop ?_ | refine W.exit ?_)
    refine W.ret (.ret [_] rfl ?_)
    show AV.int .i64 _ = AV.int .i64 _
    congr 1
    simp (disch := omega) only [wrap_id, T.size]
    try omega
  | ap f a ih_f ih_a =>
    intro  hs
    try simp only [T.size] at hs
    have h_f := ih_f (by omega)
    have h_a := ih_a (by omega)
    refine givesW (fn := Tryz.f146) Tryz.func146 rfl rfl rfl ?_
    repeat (first | refine W.condT rfl ?_ | refine W.condF rfl ?_ | refine W.seq ?_ | refine W.block ?_ | refine W.skip ?_ | refine WO.nil ?_ | refine WD.nil (WO.go rfl ?_) | refine W.region rfl (WO.go rfl ?_) | refine WO.gives h_f rfl rfl rfl rfl rfl rfl rfl rfl rfl (WO.go rfl ?_) | refine WD.gives h_f rfl rfl rfl rfl rfl rfl rfl rfl rfl (WD.go rfl ?_) | refine WO.gives h_a rfl rfl rfl rfl rfl rfl rfl rfl rfl (WO.go rfl ?_) | refine WD.gives h_a rfl rfl rfl rfl rfl rfl rfl rfl rfl (WD.go rfl ?_) | refine WO.append0 rfl rfl rfl rfl rfl rfl rfl rfl rfl (WO.go rfl ?_) | refine WO.appendF (by simp) (by exact lens_ok rfl) (by exact lens_ok rfl) (by first | decide | simp) (by first | decide | simp) rfl rfl rfl rfl rfl rfl rfl rfl rfl rfl (WO.go rfl ?_) | refine WO.appendI (by simp) (by exact lens_ok rfl) (by first | decide | simp) (by first | decide | simp) rfl rfl rfl rfl rfl rfl rfl rfl rfl rfl (WO.go rfl ?_) | refine W.loop ?_ | refine W.exit ?_)
    refine W.ret (.ret [_] rfl ?_)
    show AV.int .i64 _ = AV.int .i64 _
    congr 1
    simp (disch := omega) only [wrap_id, T.size]
    try omega
  | ze =>
    intro  hs
    try simp only [T.size] at hs
    refine givesW (fn := Tryz.f146) Tryz.func146 rfl rfl rfl ?_
    repeat (first | refine W.condT rfl ?_ | refine W.condF rfl ?_ | refine W.seq ?_ | refine W.block ?_ | refine W.skip ?_ | refine WO.nil ?_ | refine WD.nil (WO.go rfl ?_) | refine W.region rfl (WO.go rfl ?_) | refine WO.append0 rfl rfl rfl rfl rfl rfl rfl rfl rfl (WO.go rfl ?_) | refine WO.appendF (by simp) (by exact lens_ok rfl) (by exact lens_ok rfl) (by first | decide | simp) (by first | decide | simp) rfl rfl rfl rfl rfl rfl rfl rfl rfl rfl (WO.go rfl ?_) | refine WO.appendI (by simp) (by exact lens_ok rfl) (by first | decide | simp) (by first | decide | simp) rfl rfl rfl rfl rfl rfl rfl rfl rfl rfl (WO.go rfl ?_) | refine W.loop ?_ | refine W.exit ?_)
    exact W.ret (.ret [_] rfl rfl)
  | su n ih_n =>
    intro  hs
    try simp only [T.size] at hs
    have h_n := ih_n (by omega)
    refine givesW (fn := Tryz.f146) Tryz.func146 rfl rfl rfl ?_
    repeat (first | refine W.condT rfl ?_ | refine W.condF rfl ?_ | refine W.seq ?_ | refine W.block ?_ | refine W.skip ?_ | refine WO.nil ?_ | refine WD.nil (WO.go rfl ?_) | refine W.region rfl (WO.go rfl ?_) | refine WO.gives h_n rfl rfl rfl rfl rfl rfl rfl rfl rfl (WO.go rfl ?_) | refine WD.gives h_n rfl rfl rfl rfl rfl rfl rfl rfl rfl (WD.go rfl ?_) | refine WO.append0 rfl rfl rfl rfl rfl rfl rfl rfl rfl (WO.go rfl ?_) | refine WO.appendF (by simp) (by exact lens_ok rfl) (by exact lens_ok rfl) (by first | decide | simp) (by first | decide | simp) rfl rfl rfl rfl rfl rfl rfl rfl rfl rfl (WO.go rfl ?_) | refine WO.appendI (by simp) (by exact lens_ok rfl) (by first | decide | simp) (by first | decide | simp) rfl rfl rfl rfl rfl rfl rfl rfl rfl rfl (WO.go rfl ?_) | refine W.loop ?_ | refine W.exit ?_)
    refine W.ret (.ret [_] rfl ?_)
    show AV.int .i64 _ = AV.int .i64 _
    congr 1
    simp (disch := omega) only [wrap_id, T.size]
    try omega
  | rc s b f n ih_b ih_f ih_n =>
    intro  hs
    try simp only [T.size] at hs
    have h_b := ih_b (by omega)
    have h_f := ih_f (by omega)
    have h_n := ih_n (by omega)
    refine givesW (fn := Tryz.f146) Tryz.func146 rfl rfl rfl ?_
    repeat (first | refine W.condT rfl ?_ | refine W.condF rfl ?_ | refine W.seq ?_ | refine W.block ?_ | refine W.skip ?_ | refine WO.nil ?_ | refine WD.nil (WO.go rfl ?_) | refine W.region rfl (WO.go rfl ?_) | refine WO.gives h_b rfl rfl rfl rfl rfl rfl rfl rfl rfl (WO.go rfl ?_) | refine WD.gives h_b rfl rfl rfl rfl rfl rfl rfl rfl rfl (WD.go rfl ?_) | refine WO.gives h_f rfl rfl rfl rfl rfl rfl rfl rfl rfl (WO.go rfl ?_) | refine WD.gives h_f rfl rfl rfl rfl rfl rfl rfl rfl rfl (WD.go rfl ?_) | refine WO.gives h_n rfl rfl rfl rfl rfl rfl rfl rfl rfl (WO.go rfl ?_) | refine WD.gives h_n rfl rfl rfl rfl rfl rfl rfl rfl rfl (WD.go rfl ?_) | refine WO.append0 rfl rfl rfl rfl rfl rfl rfl rfl rfl (WO.go rfl ?_) | refine WO.appendF (by simp) (by exact lens_ok rfl) (by exact lens_ok rfl) (by first | decide | simp) (by first | decide | simp) rfl rfl rfl rfl rfl rfl rfl rfl rfl rfl (WO.go rfl ?_) | refine WO.appendI (by simp) (by exact lens_ok rfl) (by first | decide | simp) (by first | decide | simp) rfl rfl rfl rfl rfl rfl rfl rfl rfl rfl (WO.go rfl ?_) | refine W.loop ?_ | refine W.exit ?_)
    refine W.ret (.ret [_] rfl ?_)
    show AV.int .i64 _ = AV.int .i64 _
    congr 1
    simp (disch := omega) only [wrap_id, T.size]
    try omega
  | nl =>
    intro  hs
    try simp only [T.size] at hs
    refine givesW (fn := Tryz.f146) Tryz.func146 rfl rfl rfl ?_
    repeat (first | refine W.condT rfl ?_ | refine W.condF rfl ?_ | refine W.seq ?_ | refine W.block ?_ | refine W.skip ?_ | refine WO.nil ?_ | refine WD.nil (WO.go rfl ?_) | refine W.region rfl (WO.go rfl ?_) | refine WO.append0 rfl rfl rfl rfl rfl rfl rfl rfl rfl (WO.go rfl ?_) | refine WO.appendF (by simp) (by exact lens_ok rfl) (by exact lens_ok rfl) (by first | decide | simp) (by first | decide | simp) rfl rfl rfl rfl rfl rfl rfl rfl rfl rfl (WO.go rfl ?_) | refine WO.appendI (by simp) (by exact lens_ok rfl) (by first | decide | simp) (by first | decide | simp) rfl rfl rfl rfl rfl rfl rfl rfl rfl rfl (WO.go rfl ?_) | refine W.loop ?_ | refine W.exit ?_)
    exact W.ret (.ret [_] rfl rfl)
  | cn h l ih_h ih_l =>
    intro  hs
    try simp only [T.size] at hs
    have h_h := ih_h (by omega)
    have h_l := ih_l (by omega)
    refine givesW (fn := Tryz.f146) Tryz.func146 rfl rfl rfl ?_
    repeat (first | refine W.condT rfl ?_ | refine W.condF rfl ?_ | refine W.seq ?_ | refine W.block ?_ | refine W.skip ?_ | refine WO.nil ?_ | refine WD.nil (WO.go rfl ?_) | refine W.region rfl (WO.go rfl ?_) | refine WO.gives h_h rfl rfl rfl rfl rfl rfl rfl rfl rfl (WO.go rfl ?_) | refine WD.gives h_h rfl rfl rfl rfl rfl rfl rfl rfl rfl (WD.go rfl ?_) | refine WO.gives h_l rfl rfl rfl rfl rfl rfl rfl rfl rfl (WO.go rfl ?_) | refine WD.gives h_l rfl rfl rfl rfl rfl rfl rfl rfl rfl (WD.go rfl ?_) | refine WO.append0 rfl rfl rfl rfl rfl rfl rfl rfl rfl (WO.go rfl ?_) | refine WO.appendF (by simp) (by exact lens_ok rfl) (by exact lens_ok rfl) (by first | decide | simp) (by first | decide | simp) rfl rfl rfl rfl rfl rfl rfl rfl rfl rfl (WO.go rfl ?_) | refine WO.appendI (by simp) (by exact lens_ok rfl) (by first | decide | simp) (by first | decide | simp) rfl rfl rfl rfl rfl rfl rfl rfl rfl rfl (WO.go rfl ?_) | refine W.loop ?_ | refine W.exit ?_)
    refine W.ret (.ret [_] rfl ?_)
    show AV.int .i64 _ = AV.int .i64 _
    congr 1
    simp (disch := omega) only [wrap_id, T.size]
    try omega
  | fo s b f l ih_b ih_f ih_l =>
    intro  hs
    try simp only [T.size] at hs
    have h_b := ih_b (by omega)
    have h_f := ih_f (by omega)
    have h_l := ih_l (by omega)
    refine givesW (fn := Tryz.f146) Tryz.func146 rfl rfl rfl ?_
    repeat (first | refine W.condT rfl ?_ | refine W.condF rfl ?_ | refine W.seq ?_ | refine W.block ?_ | refine W.skip ?_ | refine WO.nil ?_ | refine WD.nil (WO.go rfl ?_) | refine W.region rfl (WO.go rfl ?_) | refine WO.gives h_b rfl rfl rfl rfl rfl rfl rfl rfl rfl (WO.go rfl ?_) | refine WD.gives h_b rfl rfl rfl rfl rfl rfl rfl rfl rfl (WD.go rfl ?_) | refine WO.gives h_f rfl rfl rfl rfl rfl rfl rfl rfl rfl (WO.go rfl ?_) | refine WD.gives h_f rfl rfl rfl rfl rfl rfl rfl rfl rfl (WD.go rfl ?_) | refine WO.gives h_l rfl rfl rfl rfl rfl rfl rfl rfl rfl (WO.go rfl ?_) | refine WD.gives h_l rfl rfl rfl rfl rfl rfl rfl rfl rfl (WD.go rfl ?_) | refine WO.append0 rfl rfl rfl rfl rfl rfl rfl rfl rfl (WO.go rfl ?_) | refine WO.appendF (by simp) (by exact lens_ok rfl) (by exact lens_ok rfl) (by first | decide | simp) (by first | decide | simp) rfl rfl rfl rfl rfl rfl rfl rfl rfl rfl (WO.go rfl ?_) | refine WO.appendI (by simp) (by exact lens_ok rfl) (by first | decide | simp) (by first | decide | simp) rfl rfl rfl rfl rfl rfl rfl rfl rfl rfl (WO.go rfl ?_) | refine W.loop ?_ | refine W.exit ?_)
    refine W.ret (.ret [_] rfl ?_)
    show AV.int .i64 _ = AV.int .i64 _
    congr 1
    simp (disch := omega) only [wrap_id, T.size]
    try omega
  | pr a b ih_a ih_b =>
    intro  hs
    try simp only [T.size] at hs
    have h_a := ih_a (by omega)
    have h_b := ih_b (by omega)
    refine givesW (fn := Tryz.f146) Tryz.func146 rfl rfl rfl ?_
    repeat (first | refine W.condT rfl ?_ | refine W.condF rfl ?_ | refine W.seq ?_ | refine W.block ?_ | refine W.skip ?_ | refine WO.nil ?_ | refine WD.nil (WO.go rfl ?_) | refine W.region rfl (WO.go rfl ?_) | refine WO.gives h_a rfl rfl rfl rfl rfl rfl rfl rfl rfl (WO.go rfl ?_) | refine WD.gives h_a rfl rfl rfl rfl rfl rfl rfl rfl rfl (WD.go rfl ?_) | refine WO.gives h_b rfl rfl rfl rfl rfl rfl rfl rfl rfl (WO.go rfl ?_) | refine WD.gives h_b rfl rfl rfl rfl rfl rfl rfl rfl rfl (WD.go rfl ?_) | refine WO.append0 rfl rfl rfl rfl rfl rfl rfl rfl rfl (WO.go rfl ?_) | refine WO.appendF (by simp) (by exact lens_ok rfl) (by exact lens_ok rfl) (by first | decide | simp) (by first | decide | simp) rfl rfl rfl rfl rfl rfl rfl rfl rfl rfl (WO.go rfl ?_) | refine WO.appendI (by simp) (by exact lens_ok rfl) (by first | decide | simp) (by first | decide | simp) rfl rfl rfl rfl rfl rfl rfl rfl rfl rfl (WO.go rfl ?_) | refine W.loop ?_ | refine W.exit ?_)
    refine W.ret (.ret [_] rfl ?_)
    show AV.int .i64 _ = AV.int .i64 _
    congr 1
    simp (disch := omega) only [wrap_id, T.size]
    try omega
  | fs p ih_p =>
    intro  hs
    try simp only [T.size] at hs
    have h_p := ih_p (by omega)
    refine givesW (fn := Tryz.f146) Tryz.func146 rfl rfl rfl ?_
    repeat (first | refine W.condT rfl ?_ | refine W.condF rfl ?_ | refine W.seq ?_ | refine W.block ?_ | refine W.skip ?_ | refine WO.nil ?_ | refine WD.nil (WO.go rfl ?_) | refine W.region rfl (WO.go rfl ?_) | refine WO.gives h_p rfl rfl rfl rfl rfl rfl rfl rfl rfl (WO.go rfl ?_) | refine WD.gives h_p rfl rfl rfl rfl rfl rfl rfl rfl rfl (WD.go rfl ?_) | refine WO.append0 rfl rfl rfl rfl rfl rfl rfl rfl rfl (WO.go rfl ?_) | refine WO.appendF (by simp) (by exact lens_ok rfl) (by exact lens_ok rfl) (by first | decide | simp) (by first | decide | simp) rfl rfl rfl rfl rfl rfl rfl rfl rfl rfl (WO.go rfl ?_) | refine WO.appendI (by simp) (by exact lens_ok rfl) (by first | decide | simp) (by first | decide | simp) rfl rfl rfl rfl rfl rfl rfl rfl rfl rfl (WO.go rfl ?_) | refine W.loop ?_ | refine W.exit ?_)
    refine W.ret (.ret [_] rfl ?_)
    show AV.int .i64 _ = AV.int .i64 _
    congr 1
    simp (disch := omega) only [wrap_id, T.size]
    try omega
  | sn p ih_p =>
    intro  hs
    try simp only [T.size] at hs
    have h_p := ih_p (by omega)
    refine givesW (fn := Tryz.f146) Tryz.func146 rfl rfl rfl ?_
    repeat (first | refine W.condT rfl ?_ | refine W.condF rfl ?_ | refine W.seq ?_ | refine W.block ?_ | refine W.skip ?_ | refine WO.nil ?_ | refine WD.nil (WO.go rfl ?_) | refine W.region rfl (WO.go rfl ?_) | refine WO.gives h_p rfl rfl rfl rfl rfl rfl rfl rfl rfl (WO.go rfl ?_) | refine WD.gives h_p rfl rfl rfl rfl rfl rfl rfl rfl rfl (WD.go rfl ?_) | refine WO.append0 rfl rfl rfl rfl rfl rfl rfl rfl rfl (WO.go rfl ?_) | refine WO.appendF (by simp) (by exact lens_ok rfl) (by exact lens_ok rfl) (by first | decide | simp) (by first | decide | simp) rfl rfl rfl rfl rfl rfl rfl rfl rfl rfl (WO.go rfl ?_) | refine WO.appendI (by simp) (by exact lens_ok rfl) (by first | decide | simp) (by first | decide | simp) rfl rfl rfl rfl rfl rfl rfl rfl rfl rfl (WO.go rfl ?_) | refine W.loop ?_ | refine W.exit ?_)
    refine W.ret (.ret [_] rfl ?_)
    show AV.int .i64 _ = AV.int .i64 _
    congr 1
    simp (disch := omega) only [wrap_id, T.size]
    try omega
  | un =>
    intro  hs
    try simp only [T.size] at hs
    refine givesW (fn := Tryz.f146) Tryz.func146 rfl rfl rfl ?_
    repeat (first | refine W.condT rfl ?_ | refine W.condF rfl ?_ | refine W.seq ?_ | refine W.block ?_ | refine W.skip ?_ | refine WO.nil ?_ | refine WD.nil (WO.go rfl ?_) | refine W.region rfl (WO.go rfl ?_) | refine WO.append0 rfl rfl rfl rfl rfl rfl rfl rfl rfl (WO.go rfl ?_) | refine WO.appendF (by simp) (by exact lens_ok rfl) (by exact lens_ok rfl) (by first | decide | simp) (by first | decide | simp) rfl rfl rfl rfl rfl rfl rfl rfl rfl rfl (WO.go rfl ?_) | refine WO.appendI (by simp) (by exact lens_ok rfl) (by first | decide | simp) (by first | decide | simp) rfl rfl rfl rfl rfl rfl rfl rfl rfl rfl (WO.go rfl ?_) | refine W.loop ?_ | refine W.exit ?_)
    exact W.ret (.ret [_] rfl rfl)
theorem check02_W (x : T) (hs : x.size ≤ 4096) (ht : x.tyLe 64) : Gives (AC X) 104 [.agg (cT x)] (.int .i64 0) := by
  refine givesW (fn := Tryz.f104) Tryz.func104 rfl rfl rfl ?_
  repeat (first | refine W.condT rfl ?_ | refine W.condF rfl ?_ | refine W.seq ?_ | refine W.block ?_ | refine W.skip ?_ | refine WO.nil ?_ | refine WD.nil (WO.go rfl ?_) | refine W.region rfl (WO.go rfl ?_) | refine WO.gives (shape02_W x ht) rfl rfl rfl rfl rfl rfl rfl rfl rfl (WO.go rfl ?_) | refine WD.gives (shape02_W x ht) rfl rfl rfl rfl rfl rfl rfl rfl rfl (WD.go rfl ?_) | refine WO.gives (count02_W x (by omega)) rfl rfl rfl rfl rfl rfl rfl rfl rfl (WO.go rfl ?_) | refine WD.gives (count02_W x (by omega)) rfl rfl rfl rfl rfl rfl rfl rfl rfl (WD.go rfl ?_) | refine WO.append0 rfl rfl rfl rfl rfl rfl rfl rfl rfl (WO.go rfl ?_) | refine WO.appendF (by simp) (by exact lens_ok rfl) (by exact lens_ok rfl) (by first | decide | simp) (by first | decide | simp) rfl rfl rfl rfl rfl rfl rfl rfl rfl rfl (WO.go rfl ?_) | refine WO.appendI (by simp) (by exact lens_ok rfl) (by first | decide | simp) (by first | decide | simp) rfl rfl rfl rfl rfl rfl rfl rfl rfl rfl (WO.go rfl ?_) | refine W.loop ?_ | refine W.exit ?_)
  refine W.cond rfl (fun h => ?_) (fun _ => ?_)
  · simp at h; omega
  · repeat (first | refine W.condT rfl ?_ | refine W.condF rfl ?_ | refine W.seq ?_ | refine W.block ?_ | refine W.skip ?_ | refine WO.nil ?_ | refine WD.nil (WO.go rfl ?_) | refine W.region rfl (WO.go rfl ?_) | refine WO.append0 rfl rfl rfl rfl rfl rfl rfl rfl rfl (WO.go rfl ?_) | refine WO.appendF (by simp) (by exact lens_ok rfl) (by exact lens_ok rfl) (by first | decide | simp) (by first | decide | simp) rfl rfl rfl rfl rfl rfl rfl rfl rfl rfl (WO.go rfl ?_) | refine WO.appendI (by simp) (by exact lens_ok rfl) (by first | decide | simp) (by first | decide | simp) rfl rfl rfl rfl rfl rfl rfl rfl rfl rfl (WO.go rfl ?_) | refine W.loop ?_ | refine W.exit ?_)
    exact W.ret (.ret [_] rfl rfl)
theorem check02L_W (x : T) (hs : x.size ≤ 1000000) (ht : x.tyLe 64) (h2 : ¬ x.size ≤ 4096) : Gives (AC X) 104 [.agg (cT x)] (.int .i64 4) := by
  refine givesW (fn := Tryz.f104) Tryz.func104 rfl rfl rfl ?_
  repeat (first | refine W.condT rfl ?_ | refine W.condF rfl ?_ | refine W.seq ?_ | refine W.block ?_ | refine W.skip ?_ | refine WO.nil ?_ | refine WD.nil (WO.go rfl ?_) | refine W.region rfl (WO.go rfl ?_) | refine WO.gives (shape02_W x ht) rfl rfl rfl rfl rfl rfl rfl rfl rfl (WO.go rfl ?_) | refine WD.gives (shape02_W x ht) rfl rfl rfl rfl rfl rfl rfl rfl rfl (WD.go rfl ?_) | refine WO.gives (count02_W x (by omega)) rfl rfl rfl rfl rfl rfl rfl rfl rfl (WO.go rfl ?_) | refine WD.gives (count02_W x (by omega)) rfl rfl rfl rfl rfl rfl rfl rfl rfl (WD.go rfl ?_) | refine WO.append0 rfl rfl rfl rfl rfl rfl rfl rfl rfl (WO.go rfl ?_) | refine WO.appendF (by simp) (by exact lens_ok rfl) (by exact lens_ok rfl) (by first | decide | simp) (by first | decide | simp) rfl rfl rfl rfl rfl rfl rfl rfl rfl rfl (WO.go rfl ?_) | refine WO.appendI (by simp) (by exact lens_ok rfl) (by first | decide | simp) (by first | decide | simp) rfl rfl rfl rfl rfl rfl rfl rfl rfl rfl (WO.go rfl ?_) | refine W.loop ?_ | refine W.exit ?_)
  refine W.cond rfl (fun _ => ?_) (fun h => ?_)
  · repeat (first | refine W.condT rfl ?_ | refine W.condF rfl ?_ | refine W.seq ?_ | refine W.block ?_ | refine W.skip ?_ | refine WO.nil ?_ | refine WD.nil (WO.go rfl ?_) | refine W.region rfl (WO.go rfl ?_) | refine WO.append0 rfl rfl rfl rfl rfl rfl rfl rfl rfl (WO.go rfl ?_) | refine WO.appendF (by simp) (by exact lens_ok rfl) (by exact lens_ok rfl) (by first | decide | simp) (by first | decide | simp) rfl rfl rfl rfl rfl rfl rfl rfl rfl rfl (WO.go rfl ?_) | refine WO.appendI (by simp) (by exact lens_ok rfl) (by first | decide | simp) (by first | decide | simp) rfl rfl rfl rfl rfl rfl rfl rfl rfl rfl (WO.go rfl ?_) | refine W.loop ?_ | refine W.exit ?_)
    exact W.ret (.ret [_] rfl rfl)
  · simp at h; omega
/-! chapter 3 -/
def bnd : T → Int
  | .lm _ _ => 1
  | _ => 0
theorem below03_W (x : T) : Gives (AC X) 204 [.agg (cT x)] (.int .i64 (bnd x)) := by
  cases x <;>
  · refine givesW (fn := Tryz.f204) Tryz.func204 rfl rfl rfl ?_
    repeat (first | refine W.condT rfl ?_ | refine W.condF rfl ?_ | refine W.seq ?_ | refine W.block ?_ | refine W.skip ?_ | refine WO.nil ?_ | refine WD.nil (WO.go rfl ?_) | refine W.region rfl (WO.go rfl ?_) | refine WO.append0 rfl rfl rfl rfl rfl rfl rfl rfl rfl (WO.go rfl ?_) | refine WO.appendF (by simp) (by exact lens_ok rfl) (by exact lens_ok rfl) (by first | decide | simp) (by first | decide | simp) rfl rfl rfl rfl rfl rfl rfl rfl rfl rfl (WO.go rfl ?_) | refine WO.appendI (by simp) (by exact lens_ok rfl) (by first | decide | simp) (by first | decide | simp) rfl rfl rfl rfl rfl rfl rfl rfl rfl rfl (WO.go rfl ?_) | refine W.loop ?_ | refine W.exit ?_)
    exact W.ret (.ret [_] rfl rfl)
theorem least03_W : ∀ (x : T), x.le 536870912 → Gives (AC X) 145 [.agg (cT x), .int .i64 536870912] (.bool true) := by
  intro x
  induction x with
  | vr i =>
    intro  hl
    try simp only [T.le] at hl
    refine givesW (fn := Tryz.f145) Tryz.func145 rfl rfl rfl ?_
    repeat (first | refine W.condT rfl ?_ | refine W.condF rfl ?_ | refine W.seq ?_ | refine W.block ?_ | refine W.skip ?_ | refine WO.nil ?_ | refine WD.nil (WO.go rfl ?_) | refine W.region rfl (WO.go rfl ?_) | refine WO.append0 rfl rfl rfl rfl rfl rfl rfl rfl rfl (WO.go rfl ?_) | refine WO.appendF (by simp) (by exact lens_ok rfl) (by exact lens_ok rfl) (by first | decide | simp) (by first | decide | simp) rfl rfl rfl rfl rfl rfl rfl rfl rfl rfl (WO.go rfl ?_) | refine WO.appendI (by simp) (by exact lens_ok rfl) (by first | decide | simp) (by first | decide | simp) rfl rfl rfl rfl rfl rfl rfl rfl rfl rfl (WO.go rfl ?_) | refine W.loop ?_ | refine W.exit ?_)
    refine W.cond rfl (fun h => ?_) (fun _ => ?_)
    · have h : decide ((i : Int) > 536870912) = true := h
      simp at h; omega
    · repeat (first | refine W.condT rfl ?_ | refine W.condF rfl ?_ | refine W.seq ?_ | refine W.block ?_ | refine W.skip ?_ | refine WO.nil ?_ | refine WD.nil (WO.go rfl ?_) | refine W.region rfl (WO.go rfl ?_) | refine WO.append0 rfl rfl rfl rfl rfl rfl rfl rfl rfl (WO.go rfl ?_) | refine WO.appendF (by simp) (by exact lens_ok rfl) (by exact lens_ok rfl) (by first | decide | simp) (by first | decide | simp) rfl rfl rfl rfl rfl rfl rfl rfl rfl rfl (WO.go rfl ?_) | refine WO.appendI (by simp) (by exact lens_ok rfl) (by first | decide | simp) (by first | decide | simp) rfl rfl rfl rfl rfl rfl rfl rfl rfl rfl (WO.go rfl ?_) | refine W.loop ?_ | refine W.exit ?_)
      exact W.ret (.ret [_] rfl rfl)
  | lm s b ih_b =>
    intro  hl
    try simp only [T.le] at hl
    have h_b := ih_b hl
    refine givesW (fn := Tryz.f145) Tryz.func145 rfl rfl rfl ?_
    repeat (first | refine W.condT rfl ?_ | refine W.condF rfl ?_ | refine W.seq ?_ | refine W.block ?_ | refine W.skip ?_ | refine WO.nil ?_ | refine WD.nil (WO.go rfl ?_) | refine W.region rfl (WO.go rfl ?_) | refine WO.gives h_b rfl rfl rfl rfl rfl rfl rfl rfl rfl (WO.go rfl ?_) | refine WD.gives h_b rfl rfl rfl rfl rfl rfl rfl rfl rfl (WD.go rfl ?_) | refine WO.append0 rfl rfl rfl rfl rfl rfl rfl rfl rfl (WO.go rfl ?_) | refine WO.appendF (by simp) (by exact lens_ok rfl) (by exact lens_ok rfl) (by first | decide | simp) (by first | decide | simp) rfl rfl rfl rfl rfl rfl rfl rfl rfl rfl (WO.go rfl ?_) | refine WO.appendI (by simp) (by exact lens_ok rfl) (by first | decide | simp) (by first | decide | simp) rfl rfl rfl rfl rfl rfl rfl rfl rfl rfl (WO.go rfl ?_) | refine W.loop ?_ | refine W.exit ?_)
    exact W.ret (.ret [_] rfl rfl)
  | ap f a ih_f ih_a =>
    intro  hl
    try simp only [T.le] at hl
    have h_f := ih_f hl.1
    have h_a := ih_a hl.2
    refine givesW (fn := Tryz.f145) Tryz.func145 rfl rfl rfl ?_
    repeat (first | refine W.condT rfl ?_ | refine W.condF rfl ?_ | refine W.seq ?_ | refine W.block ?_ | refine W.skip ?_ | refine WO.nil ?_ | refine WD.nil (WO.go rfl ?_) | refine W.region rfl (WO.go rfl ?_) | refine WO.gives h_f rfl rfl rfl rfl rfl rfl rfl rfl rfl (WO.go rfl ?_) | refine WD.gives h_f rfl rfl rfl rfl rfl rfl rfl rfl rfl (WD.go rfl ?_) | refine WO.gives h_a rfl rfl rfl rfl rfl rfl rfl rfl rfl (WO.go rfl ?_) | refine WD.gives h_a rfl rfl rfl rfl rfl rfl rfl rfl rfl (WD.go rfl ?_) | refine WO.append0 rfl rfl rfl rfl rfl rfl rfl rfl rfl (WO.go rfl ?_) | refine WO.appendF (by simp) (by exact lens_ok rfl) (by exact lens_ok rfl) (by first | decide | simp) (by first | decide | simp) rfl rfl rfl rfl rfl rfl rfl rfl rfl rfl (WO.go rfl ?_) | refine WO.appendI (by simp) (by exact lens_ok rfl) (by first | decide | simp) (by first | decide | simp) rfl rfl rfl rfl rfl rfl rfl rfl rfl rfl (WO.go rfl ?_) | refine W.loop ?_ | refine W.exit ?_)
    exact W.ret (.ret [_] rfl rfl)
  | ze =>
    intro  hl
    try simp only [T.le] at hl
    refine givesW (fn := Tryz.f145) Tryz.func145 rfl rfl rfl ?_
    repeat (first | refine W.condT rfl ?_ | refine W.condF rfl ?_ | refine W.seq ?_ | refine W.block ?_ | refine W.skip ?_ | refine WO.nil ?_ | refine WD.nil (WO.go rfl ?_) | refine W.region rfl (WO.go rfl ?_) | refine WO.append0 rfl rfl rfl rfl rfl rfl rfl rfl rfl (WO.go rfl ?_) | refine WO.appendF (by simp) (by exact lens_ok rfl) (by exact lens_ok rfl) (by first | decide | simp) (by first | decide | simp) rfl rfl rfl rfl rfl rfl rfl rfl rfl rfl (WO.go rfl ?_) | refine WO.appendI (by simp) (by exact lens_ok rfl) (by first | decide | simp) (by first | decide | simp) rfl rfl rfl rfl rfl rfl rfl rfl rfl rfl (WO.go rfl ?_) | refine W.loop ?_ | refine W.exit ?_)
    exact W.ret (.ret [_] rfl rfl)
  | su n ih_n =>
    intro  hl
    try simp only [T.le] at hl
    have h_n := ih_n hl
    refine givesW (fn := Tryz.f145) Tryz.func145 rfl rfl rfl ?_
    repeat (first | refine W.condT rfl ?_ | refine W.condF rfl ?_ | refine W.seq ?_ | refine W.block ?_ | refine W.skip ?_ | refine WO.nil ?_ | refine WD.nil (WO.go rfl ?_) | refine W.region rfl (WO.go rfl ?_) | refine WO.gives h_n rfl rfl rfl rfl rfl rfl rfl rfl rfl (WO.go rfl ?_) | refine WD.gives h_n rfl rfl rfl rfl rfl rfl rfl rfl rfl (WD.go rfl ?_) | refine WO.append0 rfl rfl rfl rfl rfl rfl rfl rfl rfl (WO.go rfl ?_) | refine WO.appendF (by simp) (by exact lens_ok rfl) (by exact lens_ok rfl) (by first | decide | simp) (by first | decide | simp) rfl rfl rfl rfl rfl rfl rfl rfl rfl rfl (WO.go rfl ?_) | refine WO.appendI (by simp) (by exact lens_ok rfl) (by first | decide | simp) (by first | decide | simp) rfl rfl rfl rfl rfl rfl rfl rfl rfl rfl (WO.go rfl ?_) | refine W.loop ?_ | refine W.exit ?_)
    exact W.ret (.ret [_] rfl rfl)
  | rc s b f n ih_b ih_f ih_n =>
    intro  hl
    try simp only [T.le] at hl
    have h_b := ih_b hl.1
    have h_f := ih_f hl.2.1
    have h_n := ih_n hl.2.2
    refine givesW (fn := Tryz.f145) Tryz.func145 rfl rfl rfl ?_
    repeat (first | refine W.condT rfl ?_ | refine W.condF rfl ?_ | refine W.seq ?_ | refine W.block ?_ | refine W.skip ?_ | refine WO.nil ?_ | refine WD.nil (WO.go rfl ?_) | refine W.region rfl (WO.go rfl ?_) | refine WO.gives h_b rfl rfl rfl rfl rfl rfl rfl rfl rfl (WO.go rfl ?_) | refine WD.gives h_b rfl rfl rfl rfl rfl rfl rfl rfl rfl (WD.go rfl ?_) | refine WO.gives h_f rfl rfl rfl rfl rfl rfl rfl rfl rfl (WO.go rfl ?_) | refine WD.gives h_f rfl rfl rfl rfl rfl rfl rfl rfl rfl (WD.go rfl ?_) | refine WO.gives h_n rfl rfl rfl rfl rfl rfl rfl rfl rfl (WO.go rfl ?_) | refine WD.gives h_n rfl rfl rfl rfl rfl rfl rfl rfl rfl (WD.go rfl ?_) | refine WO.append0 rfl rfl rfl rfl rfl rfl rfl rfl rfl (WO.go rfl ?_) | refine WO.appendF (by simp) (by exact lens_ok rfl) (by exact lens_ok rfl) (by first | decide | simp) (by first | decide | simp) rfl rfl rfl rfl rfl rfl rfl rfl rfl rfl (WO.go rfl ?_) | refine WO.appendI (by simp) (by exact lens_ok rfl) (by first | decide | simp) (by first | decide | simp) rfl rfl rfl rfl rfl rfl rfl rfl rfl rfl (WO.go rfl ?_) | refine W.loop ?_ | refine W.exit ?_)
    exact W.ret (.ret [_] rfl rfl)
  | nl =>
    intro  hl
    try simp only [T.le] at hl
    refine givesW (fn := Tryz.f145) Tryz.func145 rfl rfl rfl ?_
    repeat (first | refine W.condT rfl ?_ | refine W.condF rfl ?_ | refine W.seq ?_ | refine W.block ?_ | refine W.skip ?_ | refine WO.nil ?_ | refine WD.nil (WO.go rfl ?_) | refine W.region rfl (WO.go rfl ?_) | refine WO.append0 rfl rfl rfl rfl rfl rfl rfl rfl rfl (WO.go rfl ?_) | refine WO.appendF (by simp) (by exact lens_ok rfl) (by exact lens_ok rfl) (by first | decide | simp) (by first | decide | simp) rfl rfl rfl rfl rfl rfl rfl rfl rfl rfl (WO.go rfl ?_) | refine WO.appendI (by simp) (by exact lens_ok rfl) (by first | decide | simp) (by first | decide | simp) rfl rfl rfl rfl rfl rfl rfl rfl rfl rfl (WO.go rfl ?_) | refine W.loop ?_ | refine W.exit ?_)
    exact W.ret (.ret [_] rfl rfl)
  | cn h l ih_h ih_l =>
    intro  hl
    try simp only [T.le] at hl
    have h_h := ih_h hl.1
    have h_l := ih_l hl.2
    refine givesW (fn := Tryz.f145) Tryz.func145 rfl rfl rfl ?_
    repeat (first | refine W.condT rfl ?_ | refine W.condF rfl ?_ | refine W.seq ?_ | refine W.block ?_ | refine W.skip ?_ | refine WO.nil ?_ | refine WD.nil (WO.go rfl ?_) | refine W.region rfl (WO.go rfl ?_) | refine WO.gives h_h rfl rfl rfl rfl rfl rfl rfl rfl rfl (WO.go rfl ?_) | refine WD.gives h_h rfl rfl rfl rfl rfl rfl rfl rfl rfl (WD.go rfl ?_) | refine WO.gives h_l rfl rfl rfl rfl rfl rfl rfl rfl rfl (WO.go rfl ?_) | refine WD.gives h_l rfl rfl rfl rfl rfl rfl rfl rfl rfl (WD.go rfl ?_) | refine WO.append0 rfl rfl rfl rfl rfl rfl rfl rfl rfl (WO.go rfl ?_) | refine WO.appendF (by simp) (by exact lens_ok rfl) (by exact lens_ok rfl) (by first | decide | simp) (by first | decide | simp) rfl rfl rfl rfl rfl rfl rfl rfl rfl rfl (WO.go rfl ?_) | refine WO.appendI (by simp) (by exact lens_ok rfl) (by first | decide | simp) (by first | decide | simp) rfl rfl rfl rfl rfl rfl rfl rfl rfl rfl (WO.go rfl ?_) | refine W.loop ?_ | refine W.exit ?_)
    exact W.ret (.ret [_] rfl rfl)
  | fo s b f l ih_b ih_f ih_l =>
    intro  hl
    try simp only [T.le] at hl
    have h_b := ih_b hl.1
    have h_f := ih_f hl.2.1
    have h_l := ih_l hl.2.2
    refine givesW (fn := Tryz.f145) Tryz.func145 rfl rfl rfl ?_
    repeat (first | refine W.condT rfl ?_ | refine W.condF rfl ?_ | refine W.seq ?_ | refine W.block ?_ | refine W.skip ?_ | refine WO.nil ?_ | refine WD.nil (WO.go rfl ?_) | refine W.region rfl (WO.go rfl ?_) | refine WO.gives h_b rfl rfl rfl rfl rfl rfl rfl rfl rfl (WO.go rfl ?_) | refine WD.gives h_b rfl rfl rfl rfl rfl rfl rfl rfl rfl (WD.go rfl ?_) | refine WO.gives h_f rfl rfl rfl rfl rfl rfl rfl rfl rfl (WO.go rfl ?_) | refine WD.gives h_f rfl rfl rfl rfl rfl rfl rfl rfl rfl (WD.go rfl ?_) | refine WO.gives h_l rfl rfl rfl rfl rfl rfl rfl rfl rfl (WO.go rfl ?_) | refine WD.gives h_l rfl rfl rfl rfl rfl rfl rfl rfl rfl (WD.go rfl ?_) | refine WO.append0 rfl rfl rfl rfl rfl rfl rfl rfl rfl (WO.go rfl ?_) | refine WO.appendF (by simp) (by exact lens_ok rfl) (by exact lens_ok rfl) (by first | decide | simp) (by first | decide | simp) rfl rfl rfl rfl rfl rfl rfl rfl rfl rfl (WO.go rfl ?_) | refine WO.appendI (by simp) (by exact lens_ok rfl) (by first | decide | simp) (by first | decide | simp) rfl rfl rfl rfl rfl rfl rfl rfl rfl rfl (WO.go rfl ?_) | refine W.loop ?_ | refine W.exit ?_)
    exact W.ret (.ret [_] rfl rfl)
  | pr a b ih_a ih_b =>
    intro  hl
    try simp only [T.le] at hl
    have h_a := ih_a hl.1
    have h_b := ih_b hl.2
    refine givesW (fn := Tryz.f145) Tryz.func145 rfl rfl rfl ?_
    repeat (first | refine W.condT rfl ?_ | refine W.condF rfl ?_ | refine W.seq ?_ | refine W.block ?_ | refine W.skip ?_ | refine WO.nil ?_ | refine WD.nil (WO.go rfl ?_) | refine W.region rfl (WO.go rfl ?_) | refine WO.gives h_a rfl rfl rfl rfl rfl rfl rfl rfl rfl (WO.go rfl ?_) | refine WD.gives h_a rfl rfl rfl rfl rfl rfl rfl rfl rfl (WD.go rfl ?_) | refine WO.gives h_b rfl rfl rfl rfl rfl rfl rfl rfl rfl (WO.go rfl ?_) | refine WD.gives h_b rfl rfl rfl rfl rfl rfl rfl rfl rfl (WD.go rfl ?_) | refine WO.append0 rfl rfl rfl rfl rfl rfl rfl rfl rfl (WO.go rfl ?_) | refine WO.appendF (by simp) (by exact lens_ok rfl) (by exact lens_ok rfl) (by first | decide | simp) (by first | decide | simp) rfl rfl rfl rfl rfl rfl rfl rfl rfl rfl (WO.go rfl ?_) | refine WO.appendI (by simp) (by exact lens_ok rfl) (by first | decide | simp) (by first | decide | simp) rfl rfl rfl rfl rfl rfl rfl rfl rfl rfl (WO.go rfl ?_) | refine W.loop ?_ | refine W.exit ?_)
    exact W.ret (.ret [_] rfl rfl)
  | fs p ih_p =>
    intro  hl
    try simp only [T.le] at hl
    have h_p := ih_p hl
    refine givesW (fn := Tryz.f145) Tryz.func145 rfl rfl rfl ?_
    repeat (first | refine W.condT rfl ?_ | refine W.condF rfl ?_ | refine W.seq ?_ | refine W.block ?_ | refine W.skip ?_ | refine WO.nil ?_ | refine WD.nil (WO.go rfl ?_) | refine W.region rfl (WO.go rfl ?_) | refine WO.gives h_p rfl rfl rfl rfl rfl rfl rfl rfl rfl (WO.go rfl ?_) | refine WD.gives h_p rfl rfl rfl rfl rfl rfl rfl rfl rfl (WD.go rfl ?_) | refine WO.append0 rfl rfl rfl rfl rfl rfl rfl rfl rfl (WO.go rfl ?_) | refine WO.appendF (by simp) (by exact lens_ok rfl) (by exact lens_ok rfl) (by first | decide | simp) (by first | decide | simp) rfl rfl rfl rfl rfl rfl rfl rfl rfl rfl (WO.go rfl ?_) | refine WO.appendI (by simp) (by exact lens_ok rfl) (by first | decide | simp) (by first | decide | simp) rfl rfl rfl rfl rfl rfl rfl rfl rfl rfl (WO.go rfl ?_) | refine W.loop ?_ | refine W.exit ?_)
    exact W.ret (.ret [_] rfl rfl)
  | sn p ih_p =>
    intro  hl
    try simp only [T.le] at hl
    have h_p := ih_p hl
    refine givesW (fn := Tryz.f145) Tryz.func145 rfl rfl rfl ?_
    repeat (first | refine W.condT rfl ?_ | refine W.condF rfl ?_ | refine W.seq ?_ | refine W.block ?_ | refine W.skip ?_ | refine WO.nil ?_ | refine WD.nil (WO.go rfl ?_) | refine W.region rfl (WO.go rfl ?_) | refine WO.gives h_p rfl rfl rfl rfl rfl rfl rfl rfl rfl (WO.go rfl ?_) | refine WD.gives h_p rfl rfl rfl rfl rfl rfl rfl rfl rfl (WD.go rfl ?_) | refine WO.append0 rfl rfl rfl rfl rfl rfl rfl rfl rfl (WO.go rfl ?_) | refine WO.appendF (by simp) (by exact lens_ok rfl) (by exact lens_ok rfl) (by first | decide | simp) (by first | decide | simp) rfl rfl rfl rfl rfl rfl rfl rfl rfl rfl (WO.go rfl ?_) | refine WO.appendI (by simp) (by exact lens_ok rfl) (by first | decide | simp) (by first | decide | simp) rfl rfl rfl rfl rfl rfl rfl rfl rfl rfl (WO.go rfl ?_) | refine W.loop ?_ | refine W.exit ?_)
    exact W.ret (.ret [_] rfl rfl)
  | un =>
    intro  hl
    try simp only [T.le] at hl
    refine givesW (fn := Tryz.f145) Tryz.func145 rfl rfl rfl ?_
    repeat (first | refine W.condT rfl ?_ | refine W.condF rfl ?_ | refine W.seq ?_ | refine W.block ?_ | refine W.skip ?_ | refine WO.nil ?_ | refine WD.nil (WO.go rfl ?_) | refine W.region rfl (WO.go rfl ?_) | refine WO.append0 rfl rfl rfl rfl rfl rfl rfl rfl rfl (WO.go rfl ?_) | refine WO.appendF (by simp) (by exact lens_ok rfl) (by exact lens_ok rfl) (by first | decide | simp) (by first | decide | simp) rfl rfl rfl rfl rfl rfl rfl rfl rfl rfl (WO.go rfl ?_) | refine WO.appendI (by simp) (by exact lens_ok rfl) (by first | decide | simp) (by first | decide | simp) rfl rfl rfl rfl rfl rfl rfl rfl rfl rfl (WO.go rfl ?_) | refine W.loop ?_ | refine W.exit ?_)
    exact W.ret (.ret [_] rfl rfl)
theorem times03_W : ∀ (x : T) (c : Nat), x.size ≤ 1000000 → c + x.size ≤ 1000000000 → Gives (AC X) 147 [.agg (cT x), .int .i64 c] (.int .i64 (T.times c x)) := by
  intro x
  induction x with
  | vr i =>
    intro c hs hc
    try simp only [T.size] at hs hc
    by_cases hi : i = c
    · have e : ((i : Int) == (c : Int)) = true := by subst hi; simp
      refine givesW (fn := Tryz.f147) Tryz.func147 rfl rfl rfl ?_
      repeat (first | refine W.condT rfl ?_ | refine W.condF rfl ?_ | refine W.seq ?_ | refine W.block ?_ | refine W.skip ?_ | refine WO.nil ?_ | refine WD.nil (WO.go rfl ?_) | refine W.region rfl (WO.go rfl ?_) | refine W.draw (id := 7) 7 [] rfl (by decide +kernel) rfl (WD.go rfl ?_) | refine WO.append0 rfl rfl rfl rfl rfl rfl rfl rfl rfl (WO.go rfl ?_) | refine WO.appendF (by simp) (by exact lens_ok rfl) (by exact lens_ok rfl) (by first | decide | simp) (by first | decide | simp) rfl rfl rfl rfl rfl rfl rfl rfl rfl rfl (WO.go rfl ?_) | refine WO.appendI (by simp) (by exact lens_ok rfl) (by first | decide | simp) (by first | decide | simp) rfl rfl rfl rfl rfl rfl rfl rfl rfl rfl (WO.go rfl ?_) | refine W.loop ?_ | refine W.exit ?_)
      refine W.cond rfl (fun _ => ?_) (fun h => absurd (h.symm.trans e) (by decide))
      repeat (first | refine W.condT rfl ?_ | refine W.condF rfl ?_ | refine W.seq ?_ | refine W.block ?_ | refine W.skip ?_ | refine WO.nil ?_ | refine WD.nil (WO.go rfl ?_) | refine W.region rfl (WO.go rfl ?_) | refine W.draw (id := 7) 7 [] rfl (by decide +kernel) rfl (WD.go rfl ?_) | refine WO.append0 rfl rfl rfl rfl rfl rfl rfl rfl rfl (WO.go rfl ?_) | refine WO.appendF (by simp) (by exact lens_ok rfl) (by exact lens_ok rfl) (by first | decide | simp) (by first | decide | simp) rfl rfl rfl rfl rfl rfl rfl rfl rfl rfl (WO.go rfl ?_) | refine WO.appendI (by simp) (by exact lens_ok rfl) (by first | decide | simp) (by first | decide | simp) rfl rfl rfl rfl rfl rfl rfl rfl rfl rfl (WO.go rfl ?_) | refine W.loop ?_ | refine W.exit ?_)
      exact W.ret (.ret [.int .i64 1] rfl (by simp [resOf, T.times, hi]))
    · have e : ((i : Int) == (c : Int)) = false := by simp; omega
      refine givesW (fn := Tryz.f147) Tryz.func147 rfl rfl rfl ?_
      repeat (first | refine W.condT rfl ?_ | refine W.condF rfl ?_ | refine W.seq ?_ | refine W.block ?_ | refine W.skip ?_ | refine WO.nil ?_ | refine WD.nil (WO.go rfl ?_) | refine W.region rfl (WO.go rfl ?_) | refine W.draw (id := 7) 7 [] rfl (by decide +kernel) rfl (WD.go rfl ?_) | refine WO.append0 rfl rfl rfl rfl rfl rfl rfl rfl rfl (WO.go rfl ?_) | refine WO.appendF (by simp) (by exact lens_ok rfl) (by exact lens_ok rfl) (by first | decide | simp) (by first | decide | simp) rfl rfl rfl rfl rfl rfl rfl rfl rfl rfl (WO.go rfl ?_) | refine WO.appendI (by simp) (by exact lens_ok rfl) (by first | decide | simp) (by first | decide | simp) rfl rfl rfl rfl rfl rfl rfl rfl rfl rfl (WO.go rfl ?_) | refine W.loop ?_ | refine W.exit ?_)
      refine W.cond rfl (fun h => absurd (h.symm.trans e) (by decide)) (fun _ => ?_)
      repeat (first | refine W.condT rfl ?_ | refine W.condF rfl ?_ | refine W.seq ?_ | refine W.block ?_ | refine W.skip ?_ | refine WO.nil ?_ | refine WD.nil (WO.go rfl ?_) | refine W.region rfl (WO.go rfl ?_) | refine W.draw (id := 7) 7 [] rfl (by decide +kernel) rfl (WD.go rfl ?_) | refine WO.append0 rfl rfl rfl rfl rfl rfl rfl rfl rfl (WO.go rfl ?_) | refine WO.appendF (by simp) (by exact lens_ok rfl) (by exact lens_ok rfl) (by first | decide | simp) (by first | decide | simp) rfl rfl rfl rfl rfl rfl rfl rfl rfl rfl (WO.go rfl ?_) | refine WO.appendI (by simp) (by exact lens_ok rfl) (by first | decide | simp) (by first | decide | simp) rfl rfl rfl rfl rfl rfl rfl rfl rfl rfl (WO.go rfl ?_) | refine W.loop ?_ | refine W.exit ?_)
      exact W.ret (.ret [.int .i64 0] rfl (by simp [resOf, T.times, hi]))
  | lm s b ih_b =>
    intro c hs hc
    try simp only [T.size] at hs hc
    have hw : IntKind.i64.wrap ((c : Int) + 1) = ((c + 1 : Nat) : Int) := by rw [wrap_id (by omega) (by omega)]; omega
    have h_b := ih_b (c + 1) (by omega) (by omega)
    rw [← hw] at h_b
    have t_b := T.times_le b (c + 1)
    refine givesW (fn := Tryz.f147) Tryz.func147 rfl rfl rfl ?_
    repeat (first | refine W.condT rfl ?_ | refine W.condF rfl ?_ | refine W.seq ?_ | refine W.block ?_ | refine W.skip ?_ | refine WO.nil ?_ | refine WD.nil (WO.go rfl ?_) | refine W.region rfl (WO.go rfl ?_) | refine W.draw (id := 7) 7 [] rfl (by decide +kernel) rfl (WD.go rfl ?_) | refine WO.gives (below03_W (.lm s b)) rfl rfl rfl rfl rfl rfl rfl rfl rfl (WO.go rfl ?_) | refine WD.gives (below03_W (.lm s b)) rfl rfl rfl rfl rfl rfl rfl rfl rfl (WD.go rfl ?_) | refine WO.gives h_b rfl rfl rfl rfl rfl rfl rfl rfl rfl (WO.go rfl ?_) | refine WD.gives h_b rfl rfl rfl rfl rfl rfl rfl rfl rfl (WD.go rfl ?_) | refine WO.append0 rfl rfl rfl rfl rfl rfl rfl rfl rfl (WO.go rfl ?_) | refine WO.appendF (by simp) (by exact lens_ok rfl) (by exact lens_ok rfl) (by first | decide | simp) (by first | decide | simp) rfl rfl rfl rfl rfl rfl rfl rfl rfl rfl (WO.go rfl ?_) | refine WO.appendI (by simp) (by exact lens_ok rfl) (by first | decide | simp) (by first | decide | simp) rfl rfl rfl rfl rfl rfl rfl rfl rfl rfl (WO.go rfl ?_) | refine W.loop ?_ | refine W.exit ?_)
    refine W.ret (.ret [_] rfl ?_)
    show AV.int .i64 _ = AV.int .i64 _
    congr 1
    simp (disch := omega) only [wrap_id, T.times]
    try omega
  | ap f a ih_f ih_a =>
    intro c hs hc
    try simp only [T.size] at hs hc
    have hw : IntKind.i64.wrap ((c : Int) + 0) = (c : Int) := by rw [wrap_id (by omega) (by omega)]; omega
    have h_f := ih_f c (by omega) (by omega)
    rw [← hw] at h_f
    have t_f := T.times_le f c
    have h_a := ih_a c (by omega) (by omega)
    rw [← hw] at h_a
    have t_a := T.times_le a c
    refine givesW (fn := Tryz.f147) Tryz.func147 rfl rfl rfl ?_
    repeat (first | refine W.condT rfl ?_ | refine W.condF rfl ?_ | refine W.seq ?_ | refine W.block ?_ | refine W.skip ?_ | refine WO.nil ?_ | refine WD.nil (WO.go rfl ?_) | refine W.region rfl (WO.go rfl ?_) | refine W.draw (id := 7) 7 [] rfl (by decide +kernel) rfl (WD.go rfl ?_) | refine WO.gives (below03_W (.ap f a)) rfl rfl rfl rfl rfl rfl rfl rfl rfl (WO.go rfl ?_) | refine WD.gives (below03_W (.ap f a)) rfl rfl rfl rfl rfl rfl rfl rfl rfl (WD.go rfl ?_) | refine WO.gives h_f rfl rfl rfl rfl rfl rfl rfl rfl rfl (WO.go rfl ?_) | refine WD.gives h_f rfl rfl rfl rfl rfl rfl rfl rfl rfl (WD.go rfl ?_) | refine WO.gives h_a rfl rfl rfl rfl rfl rfl rfl rfl rfl (WO.go rfl ?_) | refine WD.gives h_a rfl rfl rfl rfl rfl rfl rfl rfl rfl (WD.go rfl ?_) | refine WO.append0 rfl rfl rfl rfl rfl rfl rfl rfl rfl (WO.go rfl ?_) | refine WO.appendF (by simp) (by exact lens_ok rfl) (by exact lens_ok rfl) (by first | decide | simp) (by first | decide | simp) rfl rfl rfl rfl rfl rfl rfl rfl rfl rfl (WO.go rfl ?_) | refine WO.appendI (by simp) (by exact lens_ok rfl) (by first | decide | simp) (by first | decide | simp) rfl rfl rfl rfl rfl rfl rfl rfl rfl rfl (WO.go rfl ?_) | refine W.loop ?_ | refine W.exit ?_)
    refine W.ret (.ret [_] rfl ?_)
    show AV.int .i64 _ = AV.int .i64 _
    congr 1
    simp (disch := omega) only [wrap_id, T.times]
    try omega
  | ze =>
    intro c hs hc
    try simp only [T.size] at hs hc
    refine givesW (fn := Tryz.f147) Tryz.func147 rfl rfl rfl ?_
    repeat (first | refine W.condT rfl ?_ | refine W.condF rfl ?_ | refine W.seq ?_ | refine W.block ?_ | refine W.skip ?_ | refine WO.nil ?_ | refine WD.nil (WO.go rfl ?_) | refine W.region rfl (WO.go rfl ?_) | refine W.draw (id := 7) 7 [] rfl (by decide +kernel) rfl (WD.go rfl ?_) | refine WO.gives (below03_W .ze) rfl rfl rfl rfl rfl rfl rfl rfl rfl (WO.go rfl ?_) | refine WD.gives (below03_W .ze) rfl rfl rfl rfl rfl rfl rfl rfl rfl (WD.go rfl ?_) | refine WO.append0 rfl rfl rfl rfl rfl rfl rfl rfl rfl (WO.go rfl ?_) | refine WO.appendF (by simp) (by exact lens_ok rfl) (by exact lens_ok rfl) (by first | decide | simp) (by first | decide | simp) rfl rfl rfl rfl rfl rfl rfl rfl rfl rfl (WO.go rfl ?_) | refine WO.appendI (by simp) (by exact lens_ok rfl) (by first | decide | simp) (by first | decide | simp) rfl rfl rfl rfl rfl rfl rfl rfl rfl rfl (WO.go rfl ?_) | refine W.loop ?_ | refine W.exit ?_)
    exact W.ret (.ret [_] rfl rfl)
  | su n ih_n =>
    intro c hs hc
    try simp only [T.size] at hs hc
    have hw : IntKind.i64.wrap ((c : Int) + 0) = (c : Int) := by rw [wrap_id (by omega) (by omega)]; omega
    have h_n := ih_n c (by omega) (by omega)
    rw [← hw] at h_n
    have t_n := T.times_le n c
    refine givesW (fn := Tryz.f147) Tryz.func147 rfl rfl rfl ?_
    repeat (first | refine W.condT rfl ?_ | refine W.condF rfl ?_ | refine W.seq ?_ | refine W.block ?_ | refine W.skip ?_ | refine WO.nil ?_ | refine WD.nil (WO.go rfl ?_) | refine W.region rfl (WO.go rfl ?_) | refine W.draw (id := 7) 7 [] rfl (by decide +kernel) rfl (WD.go rfl ?_) | refine WO.gives (below03_W (.su n)) rfl rfl rfl rfl rfl rfl rfl rfl rfl (WO.go rfl ?_) | refine WD.gives (below03_W (.su n)) rfl rfl rfl rfl rfl rfl rfl rfl rfl (WD.go rfl ?_) | refine WO.gives h_n rfl rfl rfl rfl rfl rfl rfl rfl rfl (WO.go rfl ?_) | refine WD.gives h_n rfl rfl rfl rfl rfl rfl rfl rfl rfl (WD.go rfl ?_) | refine WO.append0 rfl rfl rfl rfl rfl rfl rfl rfl rfl (WO.go rfl ?_) | refine WO.appendF (by simp) (by exact lens_ok rfl) (by exact lens_ok rfl) (by first | decide | simp) (by first | decide | simp) rfl rfl rfl rfl rfl rfl rfl rfl rfl rfl (WO.go rfl ?_) | refine WO.appendI (by simp) (by exact lens_ok rfl) (by first | decide | simp) (by first | decide | simp) rfl rfl rfl rfl rfl rfl rfl rfl rfl rfl (WO.go rfl ?_) | refine W.loop ?_ | refine W.exit ?_)
    refine W.ret (.ret [_] rfl ?_)
    show AV.int .i64 _ = AV.int .i64 _
    congr 1
    simp (disch := omega) only [wrap_id, T.times]
    try omega
  | rc s b f n ih_b ih_f ih_n =>
    intro c hs hc
    try simp only [T.size] at hs hc
    have hw : IntKind.i64.wrap ((c : Int) + 0) = (c : Int) := by rw [wrap_id (by omega) (by omega)]; omega
    have h_b := ih_b c (by omega) (by omega)
    rw [← hw] at h_b
    have t_b := T.times_le b c
    have h_f := ih_f c (by omega) (by omega)
    rw [← hw] at h_f
    have t_f := T.times_le f c
    have h_n := ih_n c (by omega) (by omega)
    rw [← hw] at h_n
    have t_n := T.times_le n c
    refine givesW (fn := Tryz.f147) Tryz.func147 rfl rfl rfl ?_
    repeat (first | refine W.condT rfl ?_ | refine W.condF rfl ?_ | refine W.seq ?_ | refine W.block ?_ | refine W.skip ?_ | refine WO.nil ?_ | refine WD.nil (WO.go rfl ?_) | refine W.region rfl (WO.go rfl ?_) | refine W.draw (id := 7) 7 [] rfl (by decide +kernel) rfl (WD.go rfl ?_) | refine WO.gives (below03_W (.rc s b f n)) rfl rfl rfl rfl rfl rfl rfl rfl rfl (WO.go rfl ?_) | refine WD.gives (below03_W (.rc s b f n)) rfl rfl rfl rfl rfl rfl rfl rfl rfl (WD.go rfl ?_) | refine WO.gives h_b rfl rfl rfl rfl rfl rfl rfl rfl rfl (WO.go rfl ?_) | refine WD.gives h_b rfl rfl rfl rfl rfl rfl rfl rfl rfl (WD.go rfl ?_) | refine WO.gives h_f rfl rfl rfl rfl rfl rfl rfl rfl rfl (WO.go rfl ?_) | refine WD.gives h_f rfl rfl rfl rfl rfl rfl rfl rfl rfl (WD.go rfl ?_) | refine WO.gives h_n rfl rfl rfl rfl rfl rfl rfl rfl rfl (WO.go rfl ?_) | refine WD.gives h_n rfl rfl rfl rfl rfl rfl rfl rfl rfl (WD.go rfl ?_) | refine WO.append0 rfl rfl rfl rfl rfl rfl rfl rfl rfl (WO.go rfl ?_) | refine WO.appendF (by simp) (by exact lens_ok rfl) (by exact lens_ok rfl) (by first | decide | simp) (by first | decide | simp) rfl rfl rfl rfl rfl rfl rfl rfl rfl rfl (WO.go rfl ?_) | refine WO.appendI (by simp) (by exact lens_ok rfl) (by first | decide | simp) (by first | decide | simp) rfl rfl rfl rfl rfl rfl rfl rfl rfl rfl (WO.go rfl ?_) | refine W.loop ?_ | refine W.exit ?_)
    refine W.ret (.ret [_] rfl ?_)
    show AV.int .i64 _ = AV.int .i64 _
    congr 1
    simp (disch := omega) only [wrap_id, T.times]
    try omega
  | nl =>
    intro c hs hc
    try simp only [T.size] at hs hc
    refine givesW (fn := Tryz.f147) Tryz.func147 rfl rfl rfl ?_
    repeat (first | refine W.condT rfl ?_ | refine W.condF rfl ?_ | refine W.seq ?_ | refine W.block ?_ | refine W.skip ?_ | refine WO.nil ?_ | refine WD.nil (WO.go rfl ?_) | refine W.region rfl (WO.go rfl ?_) | refine W.draw (id := 7) 7 [] rfl (by decide +kernel) rfl (WD.go rfl ?_) | refine WO.gives (below03_W .nl) rfl rfl rfl rfl rfl rfl rfl rfl rfl (WO.go rfl ?_) | refine WD.gives (below03_W .nl) rfl rfl rfl rfl rfl rfl rfl rfl rfl (WD.go rfl ?_) | refine WO.append0 rfl rfl rfl rfl rfl rfl rfl rfl rfl (WO.go rfl ?_) | refine WO.appendF (by simp) (by exact lens_ok rfl) (by exact lens_ok rfl) (by first | decide | simp) (by first | decide | simp) rfl rfl rfl rfl rfl rfl rfl rfl rfl rfl (WO.go rfl ?_) | refine WO.appendI (by simp) (by exact lens_ok rfl) (by first | decide | simp) (by first | decide | simp) rfl rfl rfl rfl rfl rfl rfl rfl rfl rfl (WO.go rfl ?_) | refine W.loop ?_ | refine W.exit ?_)
    exact W.ret (.ret [_] rfl rfl)
  | cn h l ih_h ih_l =>
    intro c hs hc
    try simp only [T.size] at hs hc
    have hw : IntKind.i64.wrap ((c : Int) + 0) = (c : Int) := by rw [wrap_id (by omega) (by omega)]; omega
    have h_h := ih_h c (by omega) (by omega)
    rw [← hw] at h_h
    have t_h := T.times_le h c
    have h_l := ih_l c (by omega) (by omega)
    rw [← hw] at h_l
    have t_l := T.times_le l c
    refine givesW (fn := Tryz.f147) Tryz.func147 rfl rfl rfl ?_
    repeat (first | refine W.condT rfl ?_ | refine W.condF rfl ?_ | refine W.seq ?_ | refine W.block ?_ | refine W.skip ?_ | refine WO.nil ?_ | refine WD.nil (WO.go rfl ?_) | refine W.region rfl (WO.go rfl ?_) | refine W.draw (id := 7) 7 [] rfl (by decide +kernel) rfl (WD.go rfl ?_) | refine WO.gives (below03_W (.cn h l)) rfl rfl rfl rfl rfl rfl rfl rfl rfl (WO.go rfl ?_) | refine WD.gives (below03_W (.cn h l)) rfl rfl rfl rfl rfl rfl rfl rfl rfl (WD.go rfl ?_) | refine WO.gives h_h rfl rfl rfl rfl rfl rfl rfl rfl rfl (WO.go rfl ?_) | refine WD.gives h_h rfl rfl rfl rfl rfl rfl rfl rfl rfl (WD.go rfl ?_) | refine WO.gives h_l rfl rfl rfl rfl rfl rfl rfl rfl rfl (WO.go rfl ?_) | refine WD.gives h_l rfl rfl rfl rfl rfl rfl rfl rfl rfl (WD.go rfl ?_) | refine WO.append0 rfl rfl rfl rfl rfl rfl rfl rfl rfl (WO.go rfl ?_) | refine WO.appendF (by simp) (by exact lens_ok rfl) (by exact lens_ok rfl) (by first | decide | simp) (by first | decide | simp) rfl rfl rfl rfl rfl rfl rfl rfl rfl rfl (WO.go rfl ?_) | refine WO.appendI (by simp) (by exact lens_ok rfl) (by first | decide | simp) (by first | decide | simp) rfl rfl rfl rfl rfl rfl rfl rfl rfl rfl (WO.go rfl ?_) | refine W.loop ?_ | refine W.exit ?_)
    refine W.ret (.ret [_] rfl ?_)
    show AV.int .i64 _ = AV.int .i64 _
    congr 1
    simp (disch := omega) only [wrap_id, T.times]
    try omega
  | fo s b f l ih_b ih_f ih_l =>
    intro c hs hc
    try simp only [T.size] at hs hc
    have hw : IntKind.i64.wrap ((c : Int) + 0) = (c : Int) := by rw [wrap_id (by omega) (by omega)]; omega
    have h_b := ih_b c (by omega) (by omega)
    rw [← hw] at h_b
    have t_b := T.times_le b c
    have h_f := ih_f c (by omega) (by omega)
    rw [← hw] at h_f
    have t_f := T.times_le f c
    have h_l := ih_l c (by omega) (by omega)
    rw [← hw] at h_l
    have t_l := T.times_le l c
    refine givesW (fn := Tryz.f147) Tryz.func147 rfl rfl rfl ?_
    repeat (first | refine W.condT rfl ?_ | refine W.condF rfl ?_ | refine W.seq ?_ | refine W.block ?_ | refine W.skip ?_ | refine WO.nil ?_ | refine WD.nil (WO.go rfl ?_) | refine W.region rfl (WO.go rfl ?_) | refine W.draw (id := 7) 7 [] rfl (by decide +kernel) rfl (WD.go rfl ?_) | refine WO.gives (below03_W (.fo s b f l)) rfl rfl rfl rfl rfl rfl rfl rfl rfl (WO.go rfl ?_) | refine WD.gives (below03_W (.fo s b f l)) rfl rfl rfl rfl rfl rfl rfl rfl rfl (WD.go rfl ?_) | refine WO.gives h_b rfl rfl rfl rfl rfl rfl rfl rfl rfl (WO.go rfl ?_) | refine WD.gives h_b rfl rfl rfl rfl rfl rfl rfl rfl rfl (WD.go rfl ?_) | refine WO.gives h_f rfl rfl rfl rfl rfl rfl rfl rfl rfl (WO.go rfl ?_) | refine WD.gives h_f rfl rfl rfl rfl rfl rfl rfl rfl rfl (WD.go rfl ?_) | refine WO.gives h_l rfl rfl rfl rfl rfl rfl rfl rfl rfl (WO.go rfl ?_) | refine WD.gives h_l rfl rfl rfl rfl rfl rfl rfl rfl rfl (WD.go rfl ?_) | refine WO.append0 rfl rfl rfl rfl rfl rfl rfl rfl rfl (WO.go rfl ?_) | refine WO.appendF (by simp) (by exact lens_ok rfl) (by exact lens_ok rfl) (by first | decide | simp) (by first | decide | simp) rfl rfl rfl rfl rfl rfl rfl rfl rfl rfl (WO.go rfl ?_) | refine WO.appendI (by simp) (by exact lens_ok rfl) (by first | decide | simp) (by first | decide | simp) rfl rfl rfl rfl rfl rfl rfl rfl rfl rfl (WO.go rfl ?_) | refine W.loop ?_ | refine W.exit ?_)
    refine W.ret (.ret [_] rfl ?_)
    show AV.int .i64 _ = AV.int .i64 _
    congr 1
    simp (disch := omega) only [wrap_id, T.times]
    try omega
  | pr a b ih_a ih_b =>
    intro c hs hc
    try simp only [T.size] at hs hc
    have hw : IntKind.i64.wrap ((c : Int) + 0) = (c : Int) := by rw [wrap_id (by omega) (by omega)]; omega
    have h_a := ih_a c (by omega) (by omega)
    rw [← hw] at h_a
    have t_a := T.times_le a c
    have h_b := ih_b c (by omega) (by omega)
    rw [← hw] at h_b
    have t_b := T.times_le b c
    refine givesW (fn := Tryz.f147) Tryz.func147 rfl rfl rfl ?_
    repeat (first | refine W.condT rfl ?_ | refine W.condF rfl ?_ | refine W.seq ?_ | refine W.block ?_ | refine W.skip ?_ | refine WO.nil ?_ | refine WD.nil (WO.go rfl ?_) | refine W.region rfl (WO.go rfl ?_) | refine W.draw (id := 7) 7 [] rfl (by decide +kernel) rfl (WD.go rfl ?_) | refine WO.gives (below03_W (.pr a b)) rfl rfl rfl rfl rfl rfl rfl rfl rfl (WO.go rfl ?_) | refine WD.gives (below03_W (.pr a b)) rfl rfl rfl rfl rfl rfl rfl rfl rfl (WD.go rfl ?_) | refine WO.gives h_a rfl rfl rfl rfl rfl rfl rfl rfl rfl (WO.go rfl ?_) | refine WD.gives h_a rfl rfl rfl rfl rfl rfl rfl rfl rfl (WD.go rfl ?_) | refine WO.gives h_b rfl rfl rfl rfl rfl rfl rfl rfl rfl (WO.go rfl ?_) | refine WD.gives h_b rfl rfl rfl rfl rfl rfl rfl rfl rfl (WD.go rfl ?_) | refine WO.append0 rfl rfl rfl rfl rfl rfl rfl rfl rfl (WO.go rfl ?_) | refine WO.appendF (by simp) (by exact lens_ok rfl) (by exact lens_ok rfl) (by first | decide | simp) (by first | decide | simp) rfl rfl rfl rfl rfl rfl rfl rfl rfl rfl (WO.go rfl ?_) | refine WO.appendI (by simp) (by exact lens_ok rfl) (by first | decide | simp) (by first | decide | simp) rfl rfl rfl rfl rfl rfl rfl rfl rfl rfl (WO.go rfl ?_) | refine W.loop ?_ | refine W.exit ?_)
    refine W.ret (.ret [_] rfl ?_)
    show AV.int .i64 _ = AV.int .i64 _
    congr 1
    simp (disch := omega) only [wrap_id, T.times]
    try omega
  | fs p ih_p =>
    intro c hs hc
    try simp only [T.size] at hs hc
    have hw : IntKind.i64.wrap ((c : Int) + 0) = (c : Int) := by rw [wrap_id (by omega) (by omega)]; omega
    have h_p := ih_p c (by omega) (by omega)
    rw [← hw] at h_p
    have t_p := T.times_le p c
    refine givesW (fn := Tryz.f147) Tryz.func147 rfl rfl rfl ?_
    repeat (first | refine W.condT rfl ?_ | refine W.condF rfl ?_ | refine W.seq ?_ | refine W.block ?_ | refine W.skip ?_ | refine WO.nil ?_ | refine WD.nil (WO.go rfl ?_) | refine W.region rfl (WO.go rfl ?_) | refine W.draw (id := 7) 7 [] rfl (by decide +kernel) rfl (WD.go rfl ?_) | refine WO.gives (below03_W (.fs p)) rfl rfl rfl rfl rfl rfl rfl rfl rfl (WO.go rfl ?_) | refine WD.gives (below03_W (.fs p)) rfl rfl rfl rfl rfl rfl rfl rfl rfl (WD.go rfl ?_) | refine WO.gives h_p rfl rfl rfl rfl rfl rfl rfl rfl rfl (WO.go rfl ?_) | refine WD.gives h_p rfl rfl rfl rfl rfl rfl rfl rfl rfl (WD.go rfl ?_) | refine WO.append0 rfl rfl rfl rfl rfl rfl rfl rfl rfl (WO.go rfl ?_) | refine WO.appendF (by simp) (by exact lens_ok rfl) (by exact lens_ok rfl) (by first | decide | simp) (by first | decide | simp) rfl rfl rfl rfl rfl rfl rfl rfl rfl rfl (WO.go rfl ?_) | refine WO.appendI (by simp) (by exact lens_ok rfl) (by first | decide | simp) (by first | decide | simp) rfl rfl rfl rfl rfl rfl rfl rfl rfl rfl (WO.go rfl ?_) | refine W.loop ?_ | refine W.exit ?_)
    refine W.ret (.ret [_] rfl ?_)
    show AV.int .i64 _ = AV.int .i64 _
    congr 1
    simp (disch := omega) only [wrap_id, T.times]
    try omega
  | sn p ih_p =>
    intro c hs hc
    try simp only [T.size] at hs hc
    have hw : IntKind.i64.wrap ((c : Int) + 0) = (c : Int) := by rw [wrap_id (by omega) (by omega)]; omega
    have h_p := ih_p c (by omega) (by omega)
    rw [← hw] at h_p
    have t_p := T.times_le p c
    refine givesW (fn := Tryz.f147) Tryz.func147 rfl rfl rfl ?_
    repeat (first | refine W.condT rfl ?_ | refine W.condF rfl ?_ | refine W.seq ?_ | refine W.block ?_ | refine W.skip ?_ | refine WO.nil ?_ | refine WD.nil (WO.go rfl ?_) | refine W.region rfl (WO.go rfl ?_) | refine W.draw (id := 7) 7 [] rfl (by decide +kernel) rfl (WD.go rfl ?_) | refine WO.gives (below03_W (.sn p)) rfl rfl rfl rfl rfl rfl rfl rfl rfl (WO.go rfl ?_) | refine WD.gives (below03_W (.sn p)) rfl rfl rfl rfl rfl rfl rfl rfl rfl (WD.go rfl ?_) | refine WO.gives h_p rfl rfl rfl rfl rfl rfl rfl rfl rfl (WO.go rfl ?_) | refine WD.gives h_p rfl rfl rfl rfl rfl rfl rfl rfl rfl (WD.go rfl ?_) | refine WO.append0 rfl rfl rfl rfl rfl rfl rfl rfl rfl (WO.go rfl ?_) | refine WO.appendF (by simp) (by exact lens_ok rfl) (by exact lens_ok rfl) (by first | decide | simp) (by first | decide | simp) rfl rfl rfl rfl rfl rfl rfl rfl rfl rfl (WO.go rfl ?_) | refine WO.appendI (by simp) (by exact lens_ok rfl) (by first | decide | simp) (by first | decide | simp) rfl rfl rfl rfl rfl rfl rfl rfl rfl rfl (WO.go rfl ?_) | refine W.loop ?_ | refine W.exit ?_)
    refine W.ret (.ret [_] rfl ?_)
    show AV.int .i64 _ = AV.int .i64 _
    congr 1
    simp (disch := omega) only [wrap_id, T.times]
    try omega
  | un =>
    intro c hs hc
    try simp only [T.size] at hs hc
    refine givesW (fn := Tryz.f147) Tryz.func147 rfl rfl rfl ?_
    repeat (first | refine W.condT rfl ?_ | refine W.condF rfl ?_ | refine W.seq ?_ | refine W.block ?_ | refine W.skip ?_ | refine WO.nil ?_ | refine WD.nil (WO.go rfl ?_) | refine W.region rfl (WO.go rfl ?_) | refine W.draw (id := 7) 7 [] rfl (by decide +kernel) rfl (WD.go rfl ?_) | refine WO.gives (below03_W .un) rfl rfl rfl rfl rfl rfl rfl rfl rfl (WO.go rfl ?_) | refine WD.gives (below03_W .un) rfl rfl rfl rfl rfl rfl rfl rfl rfl (WD.go rfl ?_) | refine WO.append0 rfl rfl rfl rfl rfl rfl rfl rfl rfl (WO.go rfl ?_) | refine WO.appendF (by simp) (by exact lens_ok rfl) (by exact lens_ok rfl) (by first | decide | simp) (by first | decide | simp) rfl rfl rfl rfl rfl rfl rfl rfl rfl rfl (WO.go rfl ?_) | refine WO.appendI (by simp) (by exact lens_ok rfl) (by first | decide | simp) (by first | decide | simp) rfl rfl rfl rfl rfl rfl rfl rfl rfl rfl (WO.go rfl ?_) | refine W.loop ?_ | refine W.exit ?_)
    exact W.ret (.ret [_] rfl rfl)
theorem up03_W : ∀ (x : T) (c m : Nat), c + x.size ≤ 1000000000 → m ≤ 1000000000 → x.le 1000000000 → Gives (AC X) 205 [.agg (cT x), .int .i64 c, .int .i64 m] (.agg (cT (x.up c m))) := by
  intro x
  induction x with
  | vr i =>
    intro c m hs hm hl
    try simp only [T.size, T.le] at hs hm hl
    by_cases hi : c ≤ i
    · have e : decide ((i : Int) ≥ (c : Int)) = true := decide_eq_true (by omega)
      refine givesW (fn := Tryz.f205) Tryz.func205 rfl rfl rfl ?_
      repeat (first | refine W.condT rfl ?_ | refine W.condF rfl ?_ | refine W.seq ?_ | refine W.block ?_ | refine W.skip ?_ | refine WO.nil ?_ | refine WD.nil (WO.go rfl ?_) | refine W.region rfl (WO.go rfl ?_) | refine W.draw (id := 7) 10 [] rfl (by decide +kernel) rfl (WD.go rfl ?_) | refine WO.append0 rfl rfl rfl rfl rfl rfl rfl rfl rfl (WO.go rfl ?_) | refine WO.appendF (by simp) (by exact lens_ok rfl) (by exact lens_ok rfl) (by first | decide | simp) (by first | decide | simp) rfl rfl rfl rfl rfl rfl rfl rfl rfl rfl (WO.go rfl ?_) | refine WO.appendI (by simp) (by exact lens_ok rfl) (by first | decide | simp) (by first | decide | simp) rfl rfl rfl rfl rfl rfl rfl rfl rfl rfl (WO.go rfl ?_) | refine W.loop ?_ | refine W.exit ?_)
      refine W.cond rfl (fun _ => ?_) (fun h => absurd (h.symm.trans e) (by decide))
      repeat (first | refine W.condT rfl ?_ | refine W.condF rfl ?_ | refine W.seq ?_ | refine W.block ?_ | refine W.skip ?_ | refine WO.nil ?_ | refine WD.nil (WO.go rfl ?_) | refine W.region rfl (WO.go rfl ?_) | refine W.draw (id := 7) 10 [] rfl (by decide +kernel) rfl (WD.go rfl ?_) | refine WO.append0 rfl rfl rfl rfl rfl rfl rfl rfl rfl (WO.go rfl ?_) | refine WO.appendF (by simp) (by exact lens_ok rfl) (by exact lens_ok rfl) (by first | decide | simp) (by first | decide | simp) rfl rfl rfl rfl rfl rfl rfl rfl rfl rfl (WO.go rfl ?_) | refine WO.appendI (by simp) (by exact lens_ok rfl) (by first | decide | simp) (by first | decide | simp) rfl rfl rfl rfl rfl rfl rfl rfl rfl rfl (WO.go rfl ?_) | refine W.loop ?_ | refine W.exit ?_)
      refine W.ret (.ret [_] rfl ?_)
      simp only [T.up, if_pos hi]
      show AV.agg [_, AV.int .i64 (IntKind.i64.wrap ((i : Int) + (m : Int))), _, _, _] = AV.agg [_, AV.int .i64 ((i + m : Nat) : Int), _, _, _]
      rw [wrap_id (by omega) (by omega), Int.natCast_add]
      rfl
    · have e : decide ((i : Int) ≥ (c : Int)) = false := decide_eq_false (by omega)
      refine givesW (fn := Tryz.f205) Tryz.func205 rfl rfl rfl ?_
      repeat (first | refine W.condT rfl ?_ | refine W.condF rfl ?_ | refine W.seq ?_ | refine W.block ?_ | refine W.skip ?_ | refine WO.nil ?_ | refine WD.nil (WO.go rfl ?_) | refine W.region rfl (WO.go rfl ?_) | refine W.draw (id := 7) 10 [] rfl (by decide +kernel) rfl (WD.go rfl ?_) | refine WO.append0 rfl rfl rfl rfl rfl rfl rfl rfl rfl (WO.go rfl ?_) | refine WO.appendF (by simp) (by exact lens_ok rfl) (by exact lens_ok rfl) (by first | decide | simp) (by first | decide | simp) rfl rfl rfl rfl rfl rfl rfl rfl rfl rfl (WO.go rfl ?_) | refine WO.appendI (by simp) (by exact lens_ok rfl) (by first | decide | simp) (by first | decide | simp) rfl rfl rfl rfl rfl rfl rfl rfl rfl rfl (WO.go rfl ?_) | refine W.loop ?_ | refine W.exit ?_)
      refine W.cond rfl (fun h => absurd (h.symm.trans e) (by decide)) (fun _ => ?_)
      repeat (first | refine W.condT rfl ?_ | refine W.condF rfl ?_ | refine W.seq ?_ | refine W.block ?_ | refine W.skip ?_ | refine WO.nil ?_ | refine WD.nil (WO.go rfl ?_) | refine W.region rfl (WO.go rfl ?_) | refine W.draw (id := 7) 10 [] rfl (by decide +kernel) rfl (WD.go rfl ?_) | refine WO.append0 rfl rfl rfl rfl rfl rfl rfl rfl rfl (WO.go rfl ?_) | refine WO.appendF (by simp) (by exact lens_ok rfl) (by exact lens_ok rfl) (by first | decide | simp) (by first | decide | simp) rfl rfl rfl rfl rfl rfl rfl rfl rfl rfl (WO.go rfl ?_) | refine WO.appendI (by simp) (by exact lens_ok rfl) (by first | decide | simp) (by first | decide | simp) rfl rfl rfl rfl rfl rfl rfl rfl rfl rfl (WO.go rfl ?_) | refine W.loop ?_ | refine W.exit ?_)
      refine W.ret (.ret [_] rfl ?_)
      simp only [T.up, if_neg hi]
      rfl
  | lm s b ih_b =>
    intro c m hs hm hl
    try simp only [T.size, T.le] at hs hm hl
    have hw : IntKind.i64.wrap ((c : Int) + 1) = ((c + 1 : Nat) : Int) := by rw [wrap_id (by omega) (by omega)]; omega
    have h_b := ih_b (c + 1) m (by omega) (by omega) hl
    rw [← hw] at h_b
    refine givesW (fn := Tryz.f205) Tryz.func205 rfl rfl rfl ?_
    repeat (first | refine W.condT rfl ?_ | refine W.condF rfl ?_ | refine W.seq ?_ | refine W.block ?_ | refine W.skip ?_ | refine WO.nil ?_ | refine WD.nil (WO.go rfl ?_) | refine W.region rfl (WO.go rfl ?_) | refine W.draw (id := 7) 10 [] rfl (by decide +kernel) rfl (WD.go rfl ?_) | refine WO.gives (below03_W (.lm s b)) rfl rfl rfl rfl rfl rfl rfl rfl rfl (WO.go rfl ?_) | refine WD.gives (below03_W (.lm s b)) rfl rfl rfl rfl rfl rfl rfl rfl rfl (WD.go rfl ?_) | refine WO.gives h_b rfl rfl rfl rfl rfl rfl rfl rfl rfl (WO.go rfl ?_) | refine WD.gives h_b rfl rfl rfl rfl rfl rfl rfl rfl rfl (WD.go rfl ?_) | refine WO.append0 rfl rfl rfl rfl rfl rfl rfl rfl rfl (WO.go rfl ?_) | refine WO.appendF (by simp) (by exact lens_ok rfl) (by exact lens_ok rfl) (by first | decide | simp) (by first | decide | simp) rfl rfl rfl rfl rfl rfl rfl rfl rfl rfl (WO.go rfl ?_) | refine WO.appendI (by simp) (by exact lens_ok rfl) (by first | decide | simp) (by first | decide | simp) rfl rfl rfl rfl rfl rfl rfl rfl rfl rfl (WO.go rfl ?_) | refine W.loop ?_ | refine W.exit ?_)
    exact W.ret (.ret [_] rfl rfl)
  | ap f a ih_f ih_a =>
    intro c m hs hm hl
    try simp only [T.size, T.le] at hs hm hl
    have hw : IntKind.i64.wrap ((c : Int) + 0) = (c : Int) := by rw [wrap_id (by omega) (by omega)]; omega
    have h_f := ih_f c m (by omega) (by omega) hl.1
    rw [← hw] at h_f
    have h_a := ih_a c m (by omega) (by omega) hl.2
    rw [← hw] at h_a
    refine givesW (fn := Tryz.f205) Tryz.func205 rfl rfl rfl ?_
    repeat (first | refine W.condT rfl ?_ | refine W.condF rfl ?_ | refine W.seq ?_ | refine W.block ?_ | refine W.skip ?_ | refine WO.nil ?_ | refine WD.nil (WO.go rfl ?_) | refine W.region rfl (WO.go rfl ?_) | refine W.draw (id := 7) 10 [] rfl (by decide +kernel) rfl (WD.go rfl ?_) | refine WO.gives (below03_W (.ap f a)) rfl rfl rfl rfl rfl rfl rfl rfl rfl (WO.go rfl ?_) | refine WD.gives (below03_W (.ap f a)) rfl rfl rfl rfl rfl rfl rfl rfl rfl (WD.go rfl ?_) | refine WO.gives h_f rfl rfl rfl rfl rfl rfl rfl rfl rfl (WO.go rfl ?_) | refine WD.gives h_f rfl rfl rfl rfl rfl rfl rfl rfl rfl (WD.go rfl ?_) | refine WO.gives h_a rfl rfl rfl rfl rfl rfl rfl rfl rfl (WO.go rfl ?_) | refine WD.gives h_a rfl rfl rfl rfl rfl rfl rfl rfl rfl (WD.go rfl ?_) | refine WO.append0 rfl rfl rfl rfl rfl rfl rfl rfl rfl (WO.go rfl ?_) | refine WO.appendF (by simp) (by exact lens_ok rfl) (by exact lens_ok rfl) (by first | decide | simp) (by first | decide | simp) rfl rfl rfl rfl rfl rfl rfl rfl rfl rfl (WO.go rfl ?_) | refine WO.appendI (by simp) (by exact lens_ok rfl) (by first | decide | simp) (by first | decide | simp) rfl rfl rfl rfl rfl rfl rfl rfl rfl rfl (WO.go rfl ?_) | refine W.loop ?_ | refine W.exit ?_)
    exact W.ret (.ret [_] rfl rfl)
  | ze =>
    intro c m hs hm hl
    try simp only [T.size, T.le] at hs hm hl
    refine givesW (fn := Tryz.f205) Tryz.func205 rfl rfl rfl ?_
    repeat (first | refine W.condT rfl ?_ | refine W.condF rfl ?_ | refine W.seq ?_ | refine W.block ?_ | refine W.skip ?_ | refine WO.nil ?_ | refine WD.nil (WO.go rfl ?_) | refine W.region rfl (WO.go rfl ?_) | refine W.draw (id := 7) 10 [] rfl (by decide +kernel) rfl (WD.go rfl ?_) | refine WO.gives (below03_W .ze) rfl rfl rfl rfl rfl rfl rfl rfl rfl (WO.go rfl ?_) | refine WD.gives (below03_W .ze) rfl rfl rfl rfl rfl rfl rfl rfl rfl (WD.go rfl ?_) | refine WO.append0 rfl rfl rfl rfl rfl rfl rfl rfl rfl (WO.go rfl ?_) | refine WO.appendF (by simp) (by exact lens_ok rfl) (by exact lens_ok rfl) (by first | decide | simp) (by first | decide | simp) rfl rfl rfl rfl rfl rfl rfl rfl rfl rfl (WO.go rfl ?_) | refine WO.appendI (by simp) (by exact lens_ok rfl) (by first | decide | simp) (by first | decide | simp) rfl rfl rfl rfl rfl rfl rfl rfl rfl rfl (WO.go rfl ?_) | refine W.loop ?_ | refine W.exit ?_)
    exact W.ret (.ret [_] rfl rfl)
  | su n ih_n =>
    intro c m hs hm hl
    try simp only [T.size, T.le] at hs hm hl
    have hw : IntKind.i64.wrap ((c : Int) + 0) = (c : Int) := by rw [wrap_id (by omega) (by omega)]; omega
    have h_n := ih_n c m (by omega) (by omega) hl
    rw [← hw] at h_n
    refine givesW (fn := Tryz.f205) Tryz.func205 rfl rfl rfl ?_
    repeat (first | refine W.condT rfl ?_ | refine W.condF rfl ?_ | refine W.seq ?_ | refine W.block ?_ | refine W.skip ?_ | refine WO.nil ?_ | refine WD.nil (WO.go rfl ?_) | refine W.region rfl (WO.go rfl ?_) | refine W.draw (id := 7) 10 [] rfl (by decide +kernel) rfl (WD.go rfl ?_) | refine WO.gives (below03_W (.su n)) rfl rfl rfl rfl rfl rfl rfl rfl rfl (WO.go rfl ?_) | refine WD.gives (below03_W (.su n)) rfl rfl rfl rfl rfl rfl rfl rfl rfl (WD.go rfl ?_) | refine WO.gives h_n rfl rfl rfl rfl rfl rfl rfl rfl rfl (WO.go rfl ?_) | refine WD.gives h_n rfl rfl rfl rfl rfl rfl rfl rfl rfl (WD.go rfl ?_) | refine WO.append0 rfl rfl rfl rfl rfl rfl rfl rfl rfl (WO.go rfl ?_) | refine WO.appendF (by simp) (by exact lens_ok rfl) (by exact lens_ok rfl) (by first | decide | simp) (by first | decide | simp) rfl rfl rfl rfl rfl rfl rfl rfl rfl rfl (WO.go rfl ?_) | refine WO.appendI (by simp) (by exact lens_ok rfl) (by first | decide | simp) (by first | decide | simp) rfl rfl rfl rfl rfl rfl rfl rfl rfl rfl (WO.go rfl ?_) | refine W.loop ?_ | refine W.exit ?_)
    exact W.ret (.ret [_] rfl rfl)
  | rc s b f n ih_b ih_f ih_n =>
    intro c m hs hm hl
    try simp only [T.size, T.le] at hs hm hl
    have hw : IntKind.i64.wrap ((c : Int) + 0) = (c : Int) := by rw [wrap_id (by omega) (by omega)]; omega
    have h_b := ih_b c m (by omega) (by omega) hl.1
    rw [← hw] at h_b
    have h_f := ih_f c m (by omega) (by omega) hl.2.1
    rw [← hw] at h_f
    have h_n := ih_n c m (by omega) (by omega) hl.2.2
    rw [← hw] at h_n
    refine givesW (fn := Tryz.f205) Tryz.func205 rfl rfl rfl ?_
    repeat (first | refine W.condT rfl ?_ | refine W.condF rfl ?_ | refine W.seq ?_ | refine W.block ?_ | refine W.skip ?_ | refine WO.nil ?_ | refine WD.nil (WO.go rfl ?_) | refine W.region rfl (WO.go rfl ?_) | refine W.draw (id := 7) 10 [] rfl (by decide +kernel) rfl (WD.go rfl ?_) | refine WO.gives (below03_W (.rc s b f n)) rfl rfl rfl rfl rfl rfl rfl rfl rfl (WO.go rfl ?_) | refine WD.gives (below03_W (.rc s b f n)) rfl rfl rfl rfl rfl rfl rfl rfl rfl (WD.go rfl ?_) | refine WO.gives h_b rfl rfl rfl rfl rfl rfl rfl rfl rfl (WO.go rfl ?_) | refine WD.gives h_b rfl rfl rfl rfl rfl rfl rfl rfl rfl (WD.go rfl ?_) | refine WO.gives h_f rfl rfl rfl rfl rfl rfl rfl rfl rfl (WO.go rfl ?_) | refine WD.gives h_f rfl rfl rfl rfl rfl rfl rfl rfl rfl (WD.go rfl ?_) | refine WO.gives h_n rfl rfl rfl rfl rfl rfl rfl rfl rfl (WO.go rfl ?_) | refine WD.gives h_n rfl rfl rfl rfl rfl rfl rfl rfl rfl (WD.go rfl ?_) | refine WO.append0 rfl rfl rfl rfl rfl rfl rfl rfl rfl (WO.go rfl ?_) | refine WO.appendF (by simp) (by exact lens_ok rfl) (by exact lens_ok rfl) (by first | decide | simp) (by first | decide | simp) rfl rfl rfl rfl rfl rfl rfl rfl rfl rfl (WO.go rfl ?_) | refine WO.appendI (by simp) (by exact lens_ok rfl) (by first | decide | simp) (by first | decide | simp) rfl rfl rfl rfl rfl rfl rfl rfl rfl rfl (WO.go rfl ?_) | refine W.loop ?_ | refine W.exit ?_)
    exact W.ret (.ret [_] rfl rfl)
  | nl =>
    intro c m hs hm hl
    try simp only [T.size, T.le] at hs hm hl
    refine givesW (fn := Tryz.f205) Tryz.func205 rfl rfl rfl ?_
    repeat (first | refine W.condT rfl ?_ | refine W.condF rfl ?_ | refine W.seq ?_ | refine W.block ?_ | refine W.skip ?_ | refine WO.nil ?_ | refine WD.nil (WO.go rfl ?_) | refine W.region rfl (WO.go rfl ?_) | refine W.draw (id := 7) 10 [] rfl (by decide +kernel) rfl (WD.go rfl ?_) | refine WO.gives (below03_W .nl) rfl rfl rfl rfl rfl rfl rfl rfl rfl (WO.go rfl ?_) | refine WD.gives (below03_W .nl) rfl rfl rfl rfl rfl rfl rfl rfl rfl (WD.go rfl ?_) | refine WO.append0 rfl rfl rfl rfl rfl rfl rfl rfl rfl (WO.go rfl ?_) | refine WO.appendF (by simp) (by exact lens_ok rfl) (by exact lens_ok rfl) (by first | decide | simp) (by first | decide | simp) rfl rfl rfl rfl rfl rfl rfl rfl rfl rfl (WO.go rfl ?_) | refine WO.appendI (by simp) (by exact lens_ok rfl) (by first | decide | simp) (by first | decide | simp) rfl rfl rfl rfl rfl rfl rfl rfl rfl rfl (WO.go rfl ?_) | refine W.loop ?_ | refine W.exit ?_)
    exact W.ret (.ret [_] rfl rfl)
  | cn h l ih_h ih_l =>
    intro c m hs hm hl
    try simp only [T.size, T.le] at hs hm hl
    have hw : IntKind.i64.wrap ((c : Int) + 0) = (c : Int) := by rw [wrap_id (by omega) (by omega)]; omega
    have h_h := ih_h c m (by omega) (by omega) hl.1
    rw [← hw] at h_h
    have h_l := ih_l c m (by omega) (by omega) hl.2
    rw [← hw] at h_l
    refine givesW (fn := Tryz.f205) Tryz.func205 rfl rfl rfl ?_
    repeat (first | refine W.condT rfl ?_ | refine W.condF rfl ?_ | refine W.seq ?_ | refine W.block ?_ | refine W.skip ?_ | refine WO.nil ?_ | refine WD.nil (WO.go rfl ?_) | refine W.region rfl (WO.go rfl ?_) | refine W.draw (id := 7) 10 [] rfl (by decide +kernel) rfl (WD.go rfl ?_) | refine WO.gives (below03_W (.cn h l)) rfl rfl rfl rfl rfl rfl rfl rfl rfl (WO.go rfl ?_) | refine WD.gives (below03_W (.cn h l)) rfl rfl rfl rfl rfl rfl rfl rfl rfl (WD.go rfl ?_) | refine WO.gives h_h rfl rfl rfl rfl rfl rfl rfl rfl rfl (WO.go rfl ?_) | refine WD.gives h_h rfl rfl rfl rfl rfl rfl rfl rfl rfl (WD.go rfl ?_) | refine WO.gives h_l rfl rfl rfl rfl rfl rfl rfl rfl rfl (WO.go rfl ?_) | refine WD.gives h_l rfl rfl rfl rfl rfl rfl rfl rfl rfl (WD.go rfl ?_) | refine WO.append0 rfl rfl rfl rfl rfl rfl rfl rfl rfl (WO.go rfl ?_) | refine WO.appendF (by simp) (by exact lens_ok rfl) (by exact lens_ok rfl) (by first | decide | simp) (by first | decide | simp) rfl rfl rfl rfl rfl rfl rfl rfl rfl rfl (WO.go rfl ?_) | refine WO.appendI (by simp) (by exact lens_ok rfl) (by first | decide | simp) (by first | decide | simp) rfl rfl rfl rfl rfl rfl rfl rfl rfl rfl (WO.go rfl ?_) | refine W.loop ?_ | refine W.exit ?_)
    exact W.ret (.ret [_] rfl rfl)
  | fo s b f l ih_b ih_f ih_l =>
    intro c m hs hm hl
    try simp only [T.size, T.le] at hs hm hl
    have hw : IntKind.i64.wrap ((c : Int) + 0) = (c : Int) := by rw [wrap_id (by omega) (by omega)]; omega
    have h_b := ih_b c m (by omega) (by omega) hl.1
    rw [← hw] at h_b
    have h_f := ih_f c m (by omega) (by omega) hl.2.1
    rw [← hw] at h_f
    have h_l := ih_l c m (by omega) (by omega) hl.2.2
    rw [← hw] at h_l
    refine givesW (fn := Tryz.f205) Tryz.func205 rfl rfl rfl ?_
    repeat (first | refine W.condT rfl ?_ | refine W.condF rfl ?_ | refine W.seq ?_ | refine W.block ?_ | refine W.skip ?_ | refine WO.nil ?_ | refine WD.nil (WO.go rfl ?_) | refine W.region rfl (WO.go rfl ?_) | refine W.draw (id := 7) 10 [] rfl (by decide +kernel) rfl (WD.go rfl ?_) | refine WO.gives (below03_W (.fo s b f l)) rfl rfl rfl rfl rfl rfl rfl rfl rfl (WO.go rfl ?_) | refine WD.gives (below03_W (.fo s b f l)) rfl rfl rfl rfl rfl rfl rfl rfl rfl (WD.go rfl ?_) | refine WO.gives h_b rfl rfl rfl rfl rfl rfl rfl rfl rfl (WO.go rfl ?_) | refine WD.gives h_b rfl rfl rfl rfl rfl rfl rfl rfl rfl (WD.go rfl ?_) | refine WO.gives h_f rfl rfl rfl rfl rfl rfl rfl rfl rfl (WO.go rfl ?_) | refine WD.gives h_f rfl rfl rfl rfl rfl rfl rfl rfl rfl (WD.go rfl ?_) | refine WO.gives h_l rfl rfl rfl rfl rfl rfl rfl rfl rfl (WO.go rfl ?_) | refine WD.gives h_l rfl rfl rfl rfl rfl rfl rfl rfl rfl (WD.go rfl ?_) | refine WO.append0 rfl rfl rfl rfl rfl rfl rfl rfl rfl (WO.go rfl ?_) | refine WO.appendF (by simp) (by exact lens_ok rfl) (by exact lens_ok rfl) (by first | decide | simp) (by first | decide | simp) rfl rfl rfl rfl rfl rfl rfl rfl rfl rfl (WO.go rfl ?_) | refine WO.appendI (by simp) (by exact lens_ok rfl) (by first | decide | simp) (by first | decide | simp) rfl rfl rfl rfl rfl rfl rfl rfl rfl rfl (WO.go rfl ?_) | refine W.loop ?_ | refine W.exit ?_)
    exact W.ret (.ret [_] rfl rfl)
  | pr a b ih_a ih_b =>
    intro c m hs hm hl
    try simp only [T.size, T.le] at hs hm hl
    have hw : IntKind.i64.wrap ((c : Int) + 0) = (c : Int) := by rw [wrap_id (by omega) (by omega)]; omega
    have h_a := ih_a c m (by omega) (by omega) hl.1
    rw [← hw] at h_a
    have h_b := ih_b c m (by omega) (by omega) hl.2
    rw [← hw] at h_b
    refine givesW (fn := Tryz.f205) Tryz.func205 rfl rfl rfl ?_
    repeat (first | refine W.condT rfl ?_ | refine W.condF rfl ?_ | refine W.seq ?_ | refine W.block ?_ | refine W.skip ?_ | refine WO.nil ?_ | refine WD.nil (WO.go rfl ?_) | refine W.region rfl (WO.go rfl ?_) | refine W.draw (id := 7) 10 [] rfl (by decide +kernel) rfl (WD.go rfl ?_) | refine WO.gives (below03_W (.pr a b)) rfl rfl rfl rfl rfl rfl rfl rfl rfl (WO.go rfl ?_) | refine WD.gives (below03_W (.pr a b)) rfl rfl rfl rfl rfl rfl rfl rfl rfl (WD.go rfl ?_) | refine WO.gives h_a rfl rfl rfl rfl rfl rfl rfl rfl rfl (WO.go rfl ?_) | refine WD.gives h_a rfl rfl rfl rfl rfl rfl rfl rfl rfl (WD.go rfl ?_) | refine WO.gives h_b rfl rfl rfl rfl rfl rfl rfl rfl rfl (WO.go rfl ?_) | refine WD.gives h_b rfl rfl rfl rfl rfl rfl rfl rfl rfl (WD.go rfl ?_) | refine WO.append0 rfl rfl rfl rfl rfl rfl rfl rfl rfl (WO.go rfl ?_) | refine WO.appendF (by simp) (by exact lens_ok rfl) (by exact lens_ok rfl) (by first | decide | simp) (by first | decide | simp) rfl rfl rfl rfl rfl rfl rfl rfl rfl rfl (WO.go rfl ?_) | refine WO.appendI (by simp) (by exact lens_ok rfl) (by first | decide | simp) (by first | decide | simp) rfl rfl rfl rfl rfl rfl rfl rfl rfl rfl (WO.go rfl ?_) | refine W.loop ?_ | refine W.exit ?_)
    exact W.ret (.ret [_] rfl rfl)
  | fs p ih_p =>
    intro c m hs hm hl
    try simp only [T.size, T.le] at hs hm hl
    have hw : IntKind.i64.wrap ((c : Int) + 0) = (c : Int) := by rw [wrap_id (by omega) (by omega)]; omega
    have h_p := ih_p c m (by omega) (by omega) hl
    rw [← hw] at h_p
    refine givesW (fn := Tryz.f205) Tryz.func205 rfl rfl rfl ?_
    repeat (first | refine W.condT rfl ?_ | refine W.condF rfl ?_ | refine W.seq ?_ | refine W.block ?_ | refine W.skip ?_ | refine WO.nil ?_ | refine WD.nil (WO.go rfl ?_) | refine W.region rfl (WO.go rfl ?_) | refine W.draw (id := 7) 10 [] rfl (by decide +kernel) rfl (WD.go rfl ?_) | refine WO.gives (below03_W (.fs p)) rfl rfl rfl rfl rfl rfl rfl rfl rfl (WO.go rfl ?_) | refine WD.gives (below03_W (.fs p)) rfl rfl rfl rfl rfl rfl rfl rfl rfl (WD.go rfl ?_) | refine WO.gives h_p rfl rfl rfl rfl rfl rfl rfl rfl rfl (WO.go rfl ?_) | refine WD.gives h_p rfl rfl rfl rfl rfl rfl rfl rfl rfl (WD.go rfl ?_) | refine WO.append0 rfl rfl rfl rfl rfl rfl rfl rfl rfl (WO.go rfl ?_) | refine WO.appendF (by simp) (by exact lens_ok rfl) (by exact lens_ok rfl) (by first | decide | simp) (by first | decide | simp) rfl rfl rfl rfl rfl rfl rfl rfl rfl rfl (WO.go rfl ?_) | refine WO.appendI (by simp) (by exact lens_ok rfl) (by first | decide | simp) (by first | decide | simp) rfl rfl rfl rfl rfl rfl rfl rfl rfl rfl (WO.go rfl ?_) | refine W.loop ?_ | refine W.exit ?_)
    exact W.ret (.ret [_] rfl rfl)
  | sn p ih_p =>
    intro c m hs hm hl
    try simp only [T.size, T.le] at hs hm hl
    have hw : IntKind.i64.wrap ((c : Int) + 0) = (c : Int) := by rw [wrap_id (by omega) (by omega)]; omega
    have h_p := ih_p c m (by omega) (by omega) hl
    rw [← hw] at h_p
    refine givesW (fn := Tryz.f205) Tryz.func205 rfl rfl rfl ?_
    repeat (first | refine W.condT rfl ?_ | refine W.condF rfl ?_ | refine W.seq ?_ | refine W.block ?_ | refine W.skip ?_ | refine WO.nil ?_ | refine WD.nil (WO.go rfl ?_) | refine W.region rfl (WO.go rfl ?_) | refine W.draw (id := 7) 10 [] rfl (by decide +kernel) rfl (WD.go rfl ?_) | refine WO.gives (below03_W (.sn p)) rfl rfl rfl rfl rfl rfl rfl rfl rfl (WO.go rfl ?_) | refine WD.gives (below03_W (.sn p)) rfl rfl rfl rfl rfl rfl rfl rfl rfl (WD.go rfl ?_) | refine WO.gives h_p rfl rfl rfl rfl rfl rfl rfl rfl rfl (WO.go rfl ?_) | refine WD.gives h_p rfl rfl rfl rfl rfl rfl rfl rfl rfl (WD.go rfl ?_) | refine WO.append0 rfl rfl rfl rfl rfl rfl rfl rfl rfl (WO.go rfl ?_) | refine WO.appendF (by simp) (by exact lens_ok rfl) (by exact lens_ok rfl) (by first | decide | simp) (by first | decide | simp) rfl rfl rfl rfl rfl rfl rfl rfl rfl rfl (WO.go rfl ?_) | refine WO.appendI (by simp) (by exact lens_ok rfl) (by first | decide | simp) (by first | decide | simp) rfl rfl rfl rfl rfl rfl rfl rfl rfl rfl (WO.go rfl ?_) | refine W.loop ?_ | refine W.exit ?_)
    exact W.ret (.ret [_] rfl rfl)
  | un =>
    intro c m hs hm hl
    try simp only [T.size, T.le] at hs hm hl
    refine givesW (fn := Tryz.f205) Tryz.func205 rfl rfl rfl ?_
    repeat (first | refine W.condT rfl ?_ | refine W.condF rfl ?_ | refine W.seq ?_ | refine W.block ?_ | refine W.skip ?_ | refine WO.nil ?_ | refine WD.nil (WO.go rfl ?_) | refine W.region rfl (WO.go rfl ?_) | refine W.draw (id := 7) 10 [] rfl (by decide +kernel) rfl (WD.go rfl ?_) | refine WO.gives (below03_W .un) rfl rfl rfl rfl rfl rfl rfl rfl rfl (WO.go rfl ?_) | refine WD.gives (below03_W .un) rfl rfl rfl rfl rfl rfl rfl rfl rfl (WD.go rfl ?_) | refine WO.append0 rfl rfl rfl rfl rfl rfl rfl rfl rfl (WO.go rfl ?_) | refine WO.appendF (by simp) (by exact lens_ok rfl) (by exact lens_ok rfl) (by first | decide | simp) (by first | decide | simp) rfl rfl rfl rfl rfl rfl rfl rfl rfl rfl (WO.go rfl ?_) | refine WO.appendI (by simp) (by exact lens_ok rfl) (by first | decide | simp) (by first | decide | simp) rfl rfl rfl rfl rfl rfl rfl rfl rfl rfl (WO.go rfl ?_) | refine W.loop ?_ | refine W.exit ?_)
    exact W.ret (.ret [_] rfl rfl)
theorem in03_W (u : T) (hus : u.size ≤ 100000000) (hu : u.le 1000000000) : ∀ (x : T) (c : Nat), c + x.size ≤ 100000000 → x.le 1000000000 → Gives (AC X) 149 [.agg (cT x), .int .i64 0, .int .i64 c, .agg (cT u)] (.agg (cT (T.put c u x))) := by
  intro x
  induction x with
  | vr i =>
    intro c hs hl
    try simp only [T.size, T.le] at hs hl
    have hw : IntKind.i64.wrap ((0 : Int) + (c : Int)) = (c : Int) := by rw [wrap_id (by omega) (by omega)]; omega
    have hup := up03_W (X := X) u 0 c (by omega) (by omega) hu
    rw [← hw] at hup
    rcases Nat.lt_trichotomy i c with hi | hi | hi
    · have e1 : ((i : Int) == IntKind.i64.wrap (0 + (c : Int))) = false := by rw [hw]; simp; omega
      have e2 : decide ((i : Int) > IntKind.i64.wrap (0 + (c : Int))) = false := by rw [hw]; exact decide_eq_false (by omega)
      refine givesW (fn := Tryz.f149) Tryz.func149 rfl rfl rfl ?_
      repeat (first | refine W.condT rfl ?_ | refine W.condF rfl ?_ | refine W.seq ?_ | refine W.block ?_ | refine W.skip ?_ | refine WO.nil ?_ | refine WD.nil (WO.go rfl ?_) | refine W.region rfl (WO.go rfl ?_) | refine W.draw (id := 11) 11 [] rfl (by decide +kernel) rfl (WD.go rfl ?_) | refine WO.append0 rfl rfl rfl rfl rfl rfl rfl rfl rfl (WO.go rfl ?_) | refine WO.appendF (by simp) (by exact lens_ok rfl) (by exact lens_ok rfl) (by first | decide | simp) (by first | decide | simp) rfl rfl rfl rfl rfl rfl rfl rfl rfl rfl (WO.go rfl ?_) | refine WO.appendI (by simp) (by exact lens_ok rfl) (by first | decide | simp) (by first | decide | simp) rfl rfl rfl rfl rfl rfl rfl rfl rfl rfl (WO.go rfl ?_) | refine W.loop ?_ | refine W.exit ?_)
      refine W.cond rfl (fun h => absurd (h.symm.trans e1) (by decide)) (fun _ => ?_)
      repeat (first | refine W.condT rfl ?_ | refine W.condF rfl ?_ | refine W.seq ?_ | refine W.block ?_ | refine W.skip ?_ | refine WO.nil ?_ | refine WD.nil (WO.go rfl ?_) | refine W.region rfl (WO.go rfl ?_) | refine W.draw (id := 11) 11 [] rfl (by decide +kernel) rfl (WD.go rfl ?_) | refine WO.append0 rfl rfl rfl rfl rfl rfl rfl rfl rfl (WO.go rfl ?_) | refine WO.appendF (by simp) (by exact lens_ok rfl) (by exact lens_ok rfl) (by first | decide | simp) (by first | decide | simp) rfl rfl rfl rfl rfl rfl rfl rfl rfl rfl (WO.go rfl ?_) | refine WO.appendI (by simp) (by exact lens_ok rfl) (by first | decide | simp) (by first | decide | simp) rfl rfl rfl rfl rfl rfl rfl rfl rfl rfl (WO.go rfl ?_) | refine W.loop ?_ | refine W.exit ?_)
      refine W.cond rfl (fun h => absurd (h.symm.trans e2) (by decide)) (fun _ => ?_)
      repeat (first | refine W.condT rfl ?_ | refine W.condF rfl ?_ | refine W.seq ?_ | refine W.block ?_ | refine W.skip ?_ | refine WO.nil ?_ | refine WD.nil (WO.go rfl ?_) | refine W.region rfl (WO.go rfl ?_) | refine W.draw (id := 11) 11 [] rfl (by decide +kernel) rfl (WD.go rfl ?_) | refine WO.append0 rfl rfl rfl rfl rfl rfl rfl rfl rfl (WO.go rfl ?_) | refine WO.appendF (by simp) (by exact lens_ok rfl) (by exact lens_ok rfl) (by first | decide | simp) (by first | decide | simp) rfl rfl rfl rfl rfl rfl rfl rfl rfl rfl (WO.go rfl ?_) | refine WO.appendI (by simp) (by exact lens_ok rfl) (by first | decide | simp) (by first | decide | simp) rfl rfl rfl rfl rfl rfl rfl rfl rfl rfl (WO.go rfl ?_) | refine W.loop ?_ | refine W.exit ?_)
      refine W.ret (.ret [_] rfl ?_)
      simp only [T.put, if_neg (show ¬ i = c by omega), if_neg (show ¬ c < i by omega)]
      rfl
    · subst hi
      have e1 : ((i : Int) == IntKind.i64.wrap (0 + (i : Int))) = true := by rw [hw]; simp
      refine givesW (fn := Tryz.f149) Tryz.func149 rfl rfl rfl ?_
      repeat (first | refine W.condT rfl ?_ | refine W.condF rfl ?_ | refine W.seq ?_ | refine W.block ?_ | refine W.skip ?_ | refine WO.nil ?_ | refine WD.nil (WO.go rfl ?_) | refine W.region rfl (WO.go rfl ?_) | refine W.draw (id := 11) 11 [] rfl (by decide +kernel) rfl (WD.go rfl ?_) | refine WO.append0 rfl rfl rfl rfl rfl rfl rfl rfl rfl (WO.go rfl ?_) | refine WO.appendF (by simp) (by exact lens_ok rfl) (by exact lens_ok rfl) (by first | decide | simp) (by first | decide | simp) rfl rfl rfl rfl rfl rfl rfl rfl rfl rfl (WO.go rfl ?_) | refine WO.appendI (by simp) (by exact lens_ok rfl) (by first | decide | simp) (by first | decide | simp) rfl rfl rfl rfl rfl rfl rfl rfl rfl rfl (WO.go rfl ?_) | refine W.loop ?_ | refine W.exit ?_)
      refine W.cond rfl (fun _ => ?_) (fun h => absurd (h.symm.trans e1) (by decide))
      repeat (first | refine W.condT rfl ?_ | refine W.condF rfl ?_ | refine W.seq ?_ | refine W.block ?_ | refine W.skip ?_ | refine WO.nil ?_ | refine WD.nil (WO.go rfl ?_) | refine W.region rfl (WO.go rfl ?_) | refine W.draw (id := 11) 11 [] rfl (by decide +kernel) rfl (WD.go rfl ?_) | refine WO.gives hup rfl rfl rfl rfl rfl rfl rfl rfl rfl (WO.go rfl ?_) | refine WD.gives hup rfl rfl rfl rfl rfl rfl rfl rfl rfl (WD.go rfl ?_) | refine WO.append0 rfl rfl rfl rfl rfl rfl rfl rfl rfl (WO.go rfl ?_) | refine WO.appendF (by simp) (by exact lens_ok rfl) (by exact lens_ok rfl) (by first | decide | simp) (by first | decide | simp) rfl rfl rfl rfl rfl rfl rfl rfl rfl rfl (WO.go rfl ?_) | refine WO.appendI (by simp) (by exact lens_ok rfl) (by first | decide | simp) (by first | decide | simp) rfl rfl rfl rfl rfl rfl rfl rfl rfl rfl (WO.go rfl ?_) | refine W.loop ?_ | refine W.exit ?_)
      refine W.ret (.ret [_] rfl ?_)
      simp only [T.put, if_true]
      rfl
    · have e1 : ((i : Int) == IntKind.i64.wrap (0 + (c : Int))) = false := by rw [hw]; simp; omega
      have e2 : decide ((i : Int) > IntKind.i64.wrap (0 + (c : Int))) = true := by rw [hw]; exact decide_eq_true (by omega)
      have hv : Gives (AC X) 97 [.int .i64 (IntKind.i64.wrap ((i : Int) - 1))] (.agg (cT (.vr (i - 1)))) := by
        have := var_W (X := X) (i - 1)
        rw [show (((i - 1 : Nat) : Nat) : Int) = IntKind.i64.wrap ((i : Int) - 1) by rw [wrap_id (by omega) (by omega)]; omega] at this
        exact this
      refine givesW (fn := Tryz.f149) Tryz.func149 rfl rfl rfl ?_
      repeat (first | refine W.condT rfl ?_ | refine W.condF rfl ?_ | refine W.seq ?_ | refine W.block ?_ | refine W.skip ?_ | refine WO.nil ?_ | refine WD.nil (WO.go rfl ?_) | refine W.region rfl (WO.go rfl ?_) | refine W.draw (id := 11) 11 [] rfl (by decide +kernel) rfl (WD.go rfl ?_) | refine WO.append0 rfl rfl rfl rfl rfl rfl rfl rfl rfl (WO.go rfl ?_) | refine WO.appendF (by simp) (by exact lens_ok rfl) (by exact lens_ok rfl) (by first | decide | simp) (by first | decide | simp) rfl rfl rfl rfl rfl rfl rfl rfl rfl rfl (WO.go rfl ?_) | refine WO.appendI (by simp) (by exact lens_ok rfl) (by first | decide | simp) (by first | decide | simp) rfl rfl rfl rfl rfl rfl rfl rfl rfl rfl (WO.go rfl ?_) | refine W.loop ?_ | refine W.exit ?_)
      refine W.cond rfl (fun h => absurd (h.symm.trans e1) (by decide)) (fun _ => ?_)
      repeat (first | refine W.condT rfl ?_ | refine W.condF rfl ?_ | refine W.seq ?_ | refine W.block ?_ | refine W.skip ?_ | refine WO.nil ?_ | refine WD.nil (WO.go rfl ?_) | refine W.region rfl (WO.go rfl ?_) | refine W.draw (id := 11) 11 [] rfl (by decide +kernel) rfl (WD.go rfl ?_) | refine WO.append0 rfl rfl rfl rfl rfl rfl rfl rfl rfl (WO.go rfl ?_) | refine WO.appendF (by simp) (by exact lens_ok rfl) (by exact lens_ok rfl) (by first | decide | simp) (by first | decide | simp) rfl rfl rfl rfl rfl rfl rfl rfl rfl rfl (WO.go rfl ?_) | refine WO.appendI (by simp) (by exact lens_ok rfl) (by first | decide | simp) (by first | decide | simp) rfl rfl rfl rfl rfl rfl rfl rfl rfl rfl (WO.go rfl ?_) | refine W.loop ?_ | refine W.exit ?_)
      refine W.cond rfl (fun _ => ?_) (fun h => absurd (h.symm.trans e2) (by decide))
      repeat (first | refine W.condT rfl ?_ | refine W.condF rfl ?_ | refine W.seq ?_ | refine W.block ?_ | refine W.skip ?_ | refine WO.nil ?_ | refine WD.nil (WO.go rfl ?_) | refine W.region rfl (WO.go rfl ?_) | refine W.draw (id := 11) 11 [] rfl (by decide +kernel) rfl (WD.go rfl ?_) | refine WO.gives hv rfl rfl rfl rfl rfl rfl rfl rfl rfl (WO.go rfl ?_) | refine WD.gives hv rfl rfl rfl rfl rfl rfl rfl rfl rfl (WD.go rfl ?_) | refine WO.append0 rfl rfl rfl rfl rfl rfl rfl rfl rfl (WO.go rfl ?_) | refine WO.appendF (by simp) (by exact lens_ok rfl) (by exact lens_ok rfl) (by first | decide | simp) (by first | decide | simp) rfl rfl rfl rfl rfl rfl rfl rfl rfl rfl (WO.go rfl ?_) | refine WO.appendI (by simp) (by exact lens_ok rfl) (by first | decide | simp) (by first | decide | simp) rfl rfl rfl rfl rfl rfl rfl rfl rfl rfl (WO.go rfl ?_) | refine W.loop ?_ | refine W.exit ?_)
      refine W.ret (.ret [_] rfl ?_)
      simp only [T.put, if_neg (show ¬ i = c by omega), if_pos hi]
      rfl
  | lm s b ih_b =>
    intro c hs hl
    try simp only [T.size, T.le] at hs hl
    have hw : IntKind.i64.wrap ((c : Int) + 1) = ((c + 1 : Nat) : Int) := by rw [wrap_id (by omega) (by omega)]; omega
    have h_b := ih_b (c + 1) (by omega) hl
    rw [← hw] at h_b
    refine givesW (fn := Tryz.f149) Tryz.func149 rfl rfl rfl ?_
    repeat (first | refine W.condT rfl ?_ | refine W.condF rfl ?_ | refine W.seq ?_ | refine W.block ?_ | refine W.skip ?_ | refine WO.nil ?_ | refine WD.nil (WO.go rfl ?_) | refine W.region rfl (WO.go rfl ?_) | refine W.draw (id := 11) 11 [] rfl (by decide +kernel) rfl (WD.go rfl ?_) | refine WO.gives (below03_W (.lm s b)) rfl rfl rfl rfl rfl rfl rfl rfl rfl (WO.go rfl ?_) | refine WD.gives (below03_W (.lm s b)) rfl rfl rfl rfl rfl rfl rfl rfl rfl (WD.go rfl ?_) | refine WO.gives h_b rfl rfl rfl rfl rfl rfl rfl rfl rfl (WO.go rfl ?_) | refine WD.gives h_b rfl rfl rfl rfl rfl rfl rfl rfl rfl (WD.go rfl ?_) | refine WO.append0 rfl rfl rfl rfl rfl rfl rfl rfl rfl (WO.go rfl ?_) | refine WO.appendF (by simp) (by exact lens_ok rfl) (by exact lens_ok rfl) (by first | decide | simp) (by first | decide | simp) rfl rfl rfl rfl rfl rfl rfl rfl rfl rfl (WO.go rfl ?_) | refine WO.appendI (by simp) (by exact lens_ok rfl) (by first | decide | simp) (by first | decide | simp) rfl rfl rfl rfl rfl rfl rfl rfl rfl rfl (WO.go rfl ?_) | refine W.loop ?_ | refine W.exit ?_)
    exact W.ret (.ret [_] rfl rfl)
  | ap f a ih_f ih_a =>
    intro c hs hl
    try simp only [T.size, T.le] at hs hl
    have hw : IntKind.i64.wrap ((c : Int) + 0) = (c : Int) := by rw [wrap_id (by omega) (by omega)]; omega
    have h_f := ih_f c (by omega) hl.1
    rw [← hw] at h_f
    have h_a := ih_a c (by omega) hl.2
    rw [← hw] at h_a
    refine givesW (fn := Tryz.f149) Tryz.func149 rfl rfl rfl ?_
    repeat (first | refine W.condT rfl ?_ | refine W.condF rfl ?_ | refine W.seq ?_ | refine W.block ?_ | refine W.skip ?_ | refine WO.nil ?_ | refine WD.nil (WO.go rfl ?_) | refine W.region rfl (WO.go rfl ?_) | refine W.draw (id := 11) 11 [] rfl (by decide +kernel) rfl (WD.go rfl ?_) | refine WO.gives (below03_W (.ap f a)) rfl rfl rfl rfl rfl rfl rfl rfl rfl (WO.go rfl ?_) | refine WD.gives (below03_W (.ap f a)) rfl rfl rfl rfl rfl rfl rfl rfl rfl (WD.go rfl ?_) | refine WO.gives h_f rfl rfl rfl rfl rfl rfl rfl rfl rfl (WO.go rfl ?_) | refine WD.gives h_f rfl rfl rfl rfl rfl rfl rfl rfl rfl (WD.go rfl ?_) | refine WO.gives h_a rfl rfl rfl rfl rfl rfl rfl rfl rfl (WO.go rfl ?_) | refine WD.gives h_a rfl rfl rfl rfl rfl rfl rfl rfl rfl (WD.go rfl ?_) | refine WO.append0 rfl rfl rfl rfl rfl rfl rfl rfl rfl (WO.go rfl ?_) | refine WO.appendF (by simp) (by exact lens_ok rfl) (by exact lens_ok rfl) (by first | decide | simp) (by first | decide | simp) rfl rfl rfl rfl rfl rfl rfl rfl rfl rfl (WO.go rfl ?_) | refine WO.appendI (by simp) (by exact lens_ok rfl) (by first | decide | simp) (by first | decide | simp) rfl rfl rfl rfl rfl rfl rfl rfl rfl rfl (WO.go rfl ?_) | refine W.loop ?_ | refine W.exit ?_)
    exact W.ret (.ret [_] rfl rfl)
  | ze =>
    intro c hs hl
    try simp only [T.size, T.le] at hs hl
    refine givesW (fn := Tryz.f149) Tryz.func149 rfl rfl rfl ?_
    repeat (first | refine W.condT rfl ?_ | refine W.condF rfl ?_ | refine W.seq ?_ | refine W.block ?_ | refine W.skip ?_ | refine WO.nil ?_ | refine WD.nil (WO.go rfl ?_) | refine W.region rfl (WO.go rfl ?_) | refine W.draw (id := 11) 11 [] rfl (by decide +kernel) rfl (WD.go rfl ?_) | refine WO.gives (below03_W .ze) rfl rfl rfl rfl rfl rfl rfl rfl rfl (WO.go rfl ?_) | refine WD.gives (below03_W .ze) rfl rfl rfl rfl rfl rfl rfl rfl rfl (WD.go rfl ?_) | refine WO.append0 rfl rfl rfl rfl rfl rfl rfl rfl rfl (WO.go rfl ?_) | refine WO.appendF (by simp) (by exact lens_ok rfl) (by exact lens_ok rfl) (by first | decide | simp) (by first | decide | simp) rfl rfl rfl rfl rfl rfl rfl rfl rfl rfl (WO.go rfl ?_) | refine WO.appendI (by simp) (by exact lens_ok rfl) (by first | decide | simp) (by first | decide | simp) rfl rfl rfl rfl rfl rfl rfl rfl rfl rfl (WO.go rfl ?_) | refine W.loop ?_ | refine W.exit ?_)
    exact W.ret (.ret [_] rfl rfl)
  | su n ih_n =>
    intro c hs hl
    try simp only [T.size, T.le] at hs hl
    have hw : IntKind.i64.wrap ((c : Int) + 0) = (c : Int) := by rw [wrap_id (by omega) (by omega)]; omega
    have h_n := ih_n c (by omega) hl
    rw [← hw] at h_n
    refine givesW (fn := Tryz.f149) Tryz.func149 rfl rfl rfl ?_
    repeat (first | refine W.condT rfl ?_ | refine W.condF rfl ?_ | refine W.seq ?_ | refine W.block ?_ | refine W.skip ?_ | refine WO.nil ?_ | refine WD.nil (WO.go rfl ?_) | refine W.region rfl (WO.go rfl ?_) | refine W.draw (id := 11) 11 [] rfl (by decide +kernel) rfl (WD.go rfl ?_) | refine WO.gives (below03_W (.su n)) rfl rfl rfl rfl rfl rfl rfl rfl rfl (WO.go rfl ?_) | refine WD.gives (below03_W (.su n)) rfl rfl rfl rfl rfl rfl rfl rfl rfl (WD.go rfl ?_) | refine WO.gives h_n rfl rfl rfl rfl rfl rfl rfl rfl rfl (WO.go rfl ?_) | refine WD.gives h_n rfl rfl rfl rfl rfl rfl rfl rfl rfl (WD.go rfl ?_) | refine WO.append0 rfl rfl rfl rfl rfl rfl rfl rfl rfl (WO.go rfl ?_) | refine WO.appendF (by simp) (by exact lens_ok rfl) (by exact lens_ok rfl) (by first | decide | simp) (by first | decide | simp) rfl rfl rfl rfl rfl rfl rfl rfl rfl rfl (WO.go rfl ?_) | refine WO.appendI (by simp) (by exact lens_ok rfl) (by first | decide | simp) (by first | decide | simp) rfl rfl rfl rfl rfl rfl rfl rfl rfl rfl (WO.go rfl ?_) | refine W.loop ?_ | refine W.exit ?_)
    exact W.ret (.ret [_] rfl rfl)
  | rc s b f n ih_b ih_f ih_n =>
    intro c hs hl
    try simp only [T.size, T.le] at hs hl
    have hw : IntKind.i64.wrap ((c : Int) + 0) = (c : Int) := by rw [wrap_id (by omega) (by omega)]; omega
    have h_b := ih_b c (by omega) hl.1
    rw [← hw] at h_b
    have h_f := ih_f c (by omega) hl.2.1
    rw [← hw] at h_f
    have h_n := ih_n c (by omega) hl.2.2
    rw [← hw] at h_n
    refine givesW (fn := Tryz.f149) Tryz.func149 rfl rfl rfl ?_
    repeat (first | refine W.condT rfl ?_ | refine W.condF rfl ?_ | refine W.seq ?_ | refine W.block ?_ | refine W.skip ?_ | refine WO.nil ?_ | refine WD.nil (WO.go rfl ?_) | refine W.region rfl (WO.go rfl ?_) | refine W.draw (id := 11) 11 [] rfl (by decide +kernel) rfl (WD.go rfl ?_) | refine WO.gives (below03_W (.rc s b f n)) rfl rfl rfl rfl rfl rfl rfl rfl rfl (WO.go rfl ?_) | refine WD.gives (below03_W (.rc s b f n)) rfl rfl rfl rfl rfl rfl rfl rfl rfl (WD.go rfl ?_) | refine WO.gives h_b rfl rfl rfl rfl rfl rfl rfl rfl rfl (WO.go rfl ?_) | refine WD.gives h_b rfl rfl rfl rfl rfl rfl rfl rfl rfl (WD.go rfl ?_) | refine WO.gives h_f rfl rfl rfl rfl rfl rfl rfl rfl rfl (WO.go rfl ?_) | refine WD.gives h_f rfl rfl rfl rfl rfl rfl rfl rfl rfl (WD.go rfl ?_) | refine WO.gives h_n rfl rfl rfl rfl rfl rfl rfl rfl rfl (WO.go rfl ?_) | refine WD.gives h_n rfl rfl rfl rfl rfl rfl rfl rfl rfl (WD.go rfl ?_) | refine WO.append0 rfl rfl rfl rfl rfl rfl rfl rfl rfl (WO.go rfl ?_) | refine WO.appendF (by simp) (by exact lens_ok rfl) (by exact lens_ok rfl) (by first | decide | simp) (by first | decide | simp) rfl rfl rfl rfl rfl rfl rfl rfl rfl rfl (WO.go rfl ?_) | refine WO.appendI (by simp) (by exact lens_ok rfl) (by first | decide | simp) (by first | decide | simp) rfl rfl rfl rfl rfl rfl rfl rfl rfl rfl (WO.go rfl ?_) | refine W.loop ?_ | refine W.exit ?_)
    exact W.ret (.ret [_] rfl rfl)
  | nl =>
    intro c hs hl
    try simp only [T.size, T.le] at hs hl
    refine givesW (fn := Tryz.f149) Tryz.func149 rfl rfl rfl ?_
    repeat (first | refine W.condT rfl ?_ | refine W.condF rfl ?_ | refine W.seq ?_ | refine W.block ?_ | refine W.skip ?_ | refine WO.nil ?_ | refine WD.nil (WO.go rfl ?_) | refine W.region rfl (WO.go rfl ?_) | refine W.draw (id := 11) 11 [] rfl (by decide +kernel) rfl (WD.go rfl ?_) | refine WO.gives (below03_W .nl) rfl rfl rfl rfl rfl rfl rfl rfl rfl (WO.go rfl ?_) | refine WD.gives (below03_W .nl) rfl rfl rfl rfl rfl rfl rfl rfl rfl (WD.go rfl ?_) | refine WO.append0 rfl rfl rfl rfl rfl rfl rfl rfl rfl (WO.go rfl ?_) | refine WO.appendF (by simp) (by exact lens_ok rfl) (by exact lens_ok rfl) (by first | decide | simp) (by first | decide | simp) rfl rfl rfl rfl rfl rfl rfl rfl rfl rfl (WO.go rfl ?_) | refine WO.appendI (by simp) (by exact lens_ok rfl) (by first | decide | simp) (by first | decide | simp) rfl rfl rfl rfl rfl rfl rfl rfl rfl rfl (WO.go rfl ?_) | refine W.loop ?_ | refine W.exit ?_)
    exact W.ret (.ret [_] rfl rfl)
  | cn h l ih_h ih_l =>
    intro c hs hl
    try simp only [T.size, T.le] at hs hl
    have hw : IntKind.i64.wrap ((c : Int) + 0) = (c : Int) := by rw [wrap_id (by omega) (by omega)]; omega
    have h_h := ih_h c (by omega) hl.1
    rw [← hw] at h_h
    have h_l := ih_l c (by omega) hl.2
    rw [← hw] at h_l
    refine givesW (fn := Tryz.f149) Tryz.func149 rfl rfl rfl ?_
    repeat (first | refine W.condT rfl ?_ | refine W.condF rfl ?_ | refine W.seq ?_ | refine W.block ?_ | refine W.skip ?_ | refine WO.nil ?_ | refine WD.nil (WO.go rfl ?_) | refine W.region rfl (WO.go rfl ?_) | refine W.draw (id := 11) 11 [] rfl (by decide +kernel) rfl (WD.go rfl ?_) | refine WO.gives (below03_W (.cn h l)) rfl rfl rfl rfl rfl rfl rfl rfl rfl (WO.go rfl ?_) | refine WD.gives (below03_W (.cn h l)) rfl rfl rfl rfl rfl rfl rfl rfl rfl (WD.go rfl ?_) | refine WO.gives h_h rfl rfl rfl rfl rfl rfl rfl rfl rfl (WO.go rfl ?_) | refine WD.gives h_h rfl rfl rfl rfl rfl rfl rfl rfl rfl (WD.go rfl ?_) | refine WO.gives h_l rfl rfl rfl rfl rfl rfl rfl rfl rfl (WO.go rfl ?_) | refine WD.gives h_l rfl rfl rfl rfl rfl rfl rfl rfl rfl (WD.go rfl ?_) | refine WO.append0 rfl rfl rfl rfl rfl rfl rfl rfl rfl (WO.go rfl ?_) | refine WO.appendF (by simp) (by exact lens_ok rfl) (by exact lens_ok rfl) (by first | decide | simp) (by first | decide | simp) rfl rfl rfl rfl rfl rfl rfl rfl rfl rfl (WO.go rfl ?_) | refine WO.appendI (by simp) (by exact lens_ok rfl) (by first | decide | simp) (by first | decide | simp) rfl rfl rfl rfl rfl rfl rfl rfl rfl rfl (WO.go rfl ?_) | refine W.loop ?_ | refine W.exit ?_)
    exact W.ret (.ret [_] rfl rfl)
  | fo s b f l ih_b ih_f ih_l =>
    intro c hs hl
    try simp only [T.size, T.le] at hs hl
    have hw : IntKind.i64.wrap ((c : Int) + 0) = (c : Int) := by rw [wrap_id (by omega) (by omega)]; omega
    have h_b := ih_b c (by omega) hl.1
    rw [← hw] at h_b
    have h_f := ih_f c (by omega) hl.2.1
    rw [← hw] at h_f
    have h_l := ih_l c (by omega) hl.2.2
    rw [← hw] at h_l
    refine givesW (fn := Tryz.f149) Tryz.func149 rfl rfl rfl ?_
    repeat (first | refine W.condT rfl ?_ | refine W.condF rfl ?_ | refine W.seq ?_ | refine W.block ?_ | refine W.skip ?_ | refine WO.nil ?_ | refine WD.nil (WO.go rfl ?_) | refine W.region rfl (WO.go rfl ?_) | refine W.draw (id := 11) 11 [] rfl (by decide +kernel) rfl (WD.go rfl ?_) | refine WO.gives (below03_W (.fo s b f l)) rfl rfl rfl rfl rfl rfl rfl rfl rfl (WO.go rfl ?_) | refine WD.gives (below03_W (.fo s b f l)) rfl rfl rfl rfl rfl rfl rfl rfl rfl (WD.go rfl ?_) | refine WO.gives h_b rfl rfl rfl rfl rfl rfl rfl rfl rfl (WO.go rfl ?_) | refine WD.gives h_b rfl rfl rfl rfl rfl rfl rfl rfl rfl (WD.go rfl ?_) | refine WO.gives h_f rfl rfl rfl rfl rfl rfl rfl rfl rfl (WO.go rfl ?_) | refine WD.gives h_f rfl rfl rfl rfl rfl rfl rfl rfl rfl (WD.go rfl ?_) | refine WO.gives h_l rfl rfl rfl rfl rfl rfl rfl rfl rfl (WO.go rfl ?_) | refine WD.gives h_l rfl rfl rfl rfl rfl rfl rfl rfl rfl (WD.go rfl ?_) | refine WO.append0 rfl rfl rfl rfl rfl rfl rfl rfl rfl (WO.go rfl ?_) | refine WO.appendF (by simp) (by exact lens_ok rfl) (by exact lens_ok rfl) (by first | decide | simp) (by first | decide | simp) rfl rfl rfl rfl rfl rfl rfl rfl rfl rfl (WO.go rfl ?_) | refine WO.appendI (by simp) (by exact lens_ok rfl) (by first | decide | simp) (by first | decide | simp) rfl rfl rfl rfl rfl rfl rfl rfl rfl rfl (WO.go rfl ?_) | refine W.loop ?_ | refine W.exit ?_)
    exact W.ret (.ret [_] rfl rfl)
  | pr a b ih_a ih_b =>
    intro c hs hl
    try simp only [T.size, T.le] at hs hl
    have hw : IntKind.i64.wrap ((c : Int) + 0) = (c : Int) := by rw [wrap_id (by omega) (by omega)]; omega
    have h_a := ih_a c (by omega) hl.1
    rw [← hw] at h_a
    have h_b := ih_b c (by omega) hl.2
    rw [← hw] at h_b
    refine givesW (fn := Tryz.f149) Tryz.func149 rfl rfl rfl ?_
    repeat (first | refine W.condT rfl ?_ | refine W.condF rfl ?_ | refine W.seq ?_ | refine W.block ?_ | refine W.skip ?_ | refine WO.nil ?_ | refine WD.nil (WO.go rfl ?_) | refine W.region rfl (WO.go rfl ?_) | refine W.draw (id := 11) 11 [] rfl (by decide +kernel) rfl (WD.go rfl ?_) | refine WO.gives (below03_W (.pr a b)) rfl rfl rfl rfl rfl rfl rfl rfl rfl (WO.go rfl ?_) | refine WD.gives (below03_W (.pr a b)) rfl rfl rfl rfl rfl rfl rfl rfl rfl (WD.go rfl ?_) | refine WO.gives h_a rfl rfl rfl rfl rfl rfl rfl rfl rfl (WO.go rfl ?_) | refine WD.gives h_a rfl rfl rfl rfl rfl rfl rfl rfl rfl (WD.go rfl ?_) | refine WO.gives h_b rfl rfl rfl rfl rfl rfl rfl rfl rfl (WO.go rfl ?_) | refine WD.gives h_b rfl rfl rfl rfl rfl rfl rfl rfl rfl (WD.go rfl ?_) | refine WO.append0 rfl rfl rfl rfl rfl rfl rfl rfl rfl (WO.go rfl ?_) | refine WO.appendF (by simp) (by exact lens_ok rfl) (by exact lens_ok rfl) (by first | decide | simp) (by first | decide | simp) rfl rfl rfl rfl rfl rfl rfl rfl rfl rfl (WO.go rfl ?_) | refine WO.appendI (by simp) (by exact lens_ok rfl) (by first | decide | simp) (by first | decide | simp) rfl rfl rfl rfl rfl rfl rfl rfl rfl rfl (WO.go rfl ?_) | refine W.loop ?_ | refine W.exit ?_)
    exact W.ret (.ret [_] rfl rfl)
  | fs p ih_p =>
    intro c hs hl
    try simp only [T.size, T.le] at hs hl
    have hw : IntKind.i64.wrap ((c : Int) + 0) = (c : Int) := by rw [wrap_id (by omega) (by omega)]; omega
    have h_p := ih_p c (by omega) hl
    rw [← hw] at h_p
    refine givesW (fn := Tryz.f149) Tryz.func149 rfl rfl rfl ?_
    repeat (first | refine W.condT rfl ?_ | refine W.condF rfl ?_ | refine W.seq ?_ | refine W.block ?_ | refine W.skip ?_ | refine WO.nil ?_ | refine WD.nil (WO.go rfl ?_) | refine W.region rfl (WO.go rfl ?_) | refine W.draw (id := 11) 11 [] rfl (by decide +kernel) rfl (WD.go rfl ?_) | refine WO.gives (below03_W (.fs p)) rfl rfl rfl rfl rfl rfl rfl rfl rfl (WO.go rfl ?_) | refine WD.gives (below03_W (.fs p)) rfl rfl rfl rfl rfl rfl rfl rfl rfl (WD.go rfl ?_) | refine WO.gives h_p rfl rfl rfl rfl rfl rfl rfl rfl rfl (WO.go rfl ?_) | refine WD.gives h_p rfl rfl rfl rfl rfl rfl rfl rfl rfl (WD.go rfl ?_) | refine WO.append0 rfl rfl rfl rfl rfl rfl rfl rfl rfl (WO.go rfl ?_) | refine WO.appendF (by simp) (by exact lens_ok rfl) (by exact lens_ok rfl) (by first | decide | simp) (by first | decide | simp) rfl rfl rfl rfl rfl rfl rfl rfl rfl rfl (WO.go rfl ?_) | refine WO.appendI (by simp) (by exact lens_ok rfl) (by first | decide | simp) (by first | decide | simp) rfl rfl rfl rfl rfl rfl rfl rfl rfl rfl (WO.go rfl ?_) | refine W.loop ?_ | refine W.exit ?_)
    exact W.ret (.ret [_] rfl rfl)
  | sn p ih_p =>
    intro c hs hl
    try simp only [T.size, T.le] at hs hl
    have hw : IntKind.i64.wrap ((c : Int) + 0) = (c : Int) := by rw [wrap_id (by omega) (by omega)]; omega
    have h_p := ih_p c (by omega) hl
    rw [← hw] at h_p
    refine givesW (fn := Tryz.f149) Tryz.func149 rfl rfl rfl ?_
    repeat (first | refine W.condT rfl ?_ | refine W.condF rfl ?_ | refine W.seq ?_ | refine W.block ?_ | refine W.skip ?_ | refine WO.nil ?_ | refine WD.nil (WO.go rfl ?_) | refine W.region rfl (WO.go rfl ?_) | refine W.draw (id := 11) 11 [] rfl (by decide +kernel) rfl (WD.go rfl ?_) | refine WO.gives (below03_W (.sn p)) rfl rfl rfl rfl rfl rfl rfl rfl rfl (WO.go rfl ?_) | refine WD.gives (below03_W (.sn p)) rfl rfl rfl rfl rfl rfl rfl rfl rfl (WD.go rfl ?_) | refine WO.gives h_p rfl rfl rfl rfl rfl rfl rfl rfl rfl (WO.go rfl ?_) | refine WD.gives h_p rfl rfl rfl rfl rfl rfl rfl rfl rfl (WD.go rfl ?_) | refine WO.append0 rfl rfl rfl rfl rfl rfl rfl rfl rfl (WO.go rfl ?_) | refine WO.appendF (by simp) (by exact lens_ok rfl) (by exact lens_ok rfl) (by first | decide | simp) (by first | decide | simp) rfl rfl rfl rfl rfl rfl rfl rfl rfl rfl (WO.go rfl ?_) | refine WO.appendI (by simp) (by exact lens_ok rfl) (by first | decide | simp) (by first | decide | simp) rfl rfl rfl rfl rfl rfl rfl rfl rfl rfl (WO.go rfl ?_) | refine W.loop ?_ | refine W.exit ?_)
    exact W.ret (.ret [_] rfl rfl)
  | un =>
    intro c hs hl
    try simp only [T.size, T.le] at hs hl
    refine givesW (fn := Tryz.f149) Tryz.func149 rfl rfl rfl ?_
    repeat (first | refine W.condT rfl ?_ | refine W.condF rfl ?_ | refine W.seq ?_ | refine W.block ?_ | refine W.skip ?_ | refine WO.nil ?_ | refine WD.nil (WO.go rfl ?_) | refine W.region rfl (WO.go rfl ?_) | refine W.draw (id := 11) 11 [] rfl (by decide +kernel) rfl (WD.go rfl ?_) | refine WO.gives (below03_W .un) rfl rfl rfl rfl rfl rfl rfl rfl rfl (WO.go rfl ?_) | refine WD.gives (below03_W .un) rfl rfl rfl rfl rfl rfl rfl rfl rfl (WD.go rfl ?_) | refine WO.append0 rfl rfl rfl rfl rfl rfl rfl rfl rfl (WO.go rfl ?_) | refine WO.appendF (by simp) (by exact lens_ok rfl) (by exact lens_ok rfl) (by first | decide | simp) (by first | decide | simp) rfl rfl rfl rfl rfl rfl rfl rfl rfl rfl (WO.go rfl ?_) | refine WO.appendI (by simp) (by exact lens_ok rfl) (by first | decide | simp) (by first | decide | simp) rfl rfl rfl rfl rfl rfl rfl rfl rfl rfl (WO.go rfl ?_) | refine W.loop ?_ | refine W.exit ?_)
    exact W.ret (.ret [_] rfl rfl)
end Go.Proofs.YtjdlmhbkfammlabGreatDoor
