/- A part of the proof: walks of the functions. -/
import Derived.Test.YtjdlmhbkfammlabGreatDoorSeatc
namespace Go.Proofs.YtjdlmhbkfammlabGreatDoor
open Go Go.Sh
set_option linter.unusedVariables false
set_option linter.unusedSimpArgs false
set_option maxHeartbeats 4000000
variable {X : CRel}
theorem quant07_W (f : Fo) : Gives (AC X) 226 [.int .i64 (kF f)] (.bool (match f with | .q _ _ _ => true | _ => false)) := by
  rcases f with ⟨a, b⟩ | ⟨_ | _, f, g⟩ | ⟨_ | _ | _ | _, s, f⟩ <;>
  · refine givesW (fn := Tryz.f226) Tryz.func226 rfl rfl rfl ?_
    repeat (first | refine W.condT rfl ?_ | refine W.condF rfl ?_ | refine W.seq ?_ | refine W.block ?_ | refine W.skip ?_ | refine WO.nil ?_ | refine WD.nil (WO.go rfl ?_) | refine W.region rfl (WO.go rfl ?_) | refine WO.append0 rfl rfl rfl rfl rfl rfl rfl rfl rfl (WO.go rfl ?_) | refine WO.appendF (by simp) (by exact lens_ok rfl) (by exact lens_ok rfl) (by first | decide | simp) (by first | decide | simp) rfl rfl rfl rfl rfl rfl rfl rfl rfl rfl (WO.go rfl ?_) | refine WO.appendI (by simp) (by exact lens_ok rfl) (by first | decide | simp) (by first | decide | simp) rfl rfl rfl rfl rfl rfl rfl rfl rfl rfl (WO.go rfl ?_) | refine W.loop ?_ | refine W.exit ?_)
    exact W.ret (.ret [_] rfl rfl)
theorem shape07_W : ∀ (f : Fo), f.tyLe 64 → Gives (AC X) 182 [.agg (cF f)] (.bool true)
  | .eq a b, h => by
    refine givesW (fn := Tryz.f182) Tryz.func182 rfl rfl rfl ?_
    repeat (first | refine W.condT rfl ?_ | refine W.condF rfl ?_ | refine W.seq ?_ | refine W.block ?_ | refine W.skip ?_ | refine WO.nil ?_ | refine WD.nil (WO.go rfl ?_) | refine W.region rfl (WO.go rfl ?_) | refine WO.gives zeroY_W rfl rfl rfl rfl rfl rfl rfl rfl rfl (WO.go rfl ?_) | refine WD.gives zeroY_W rfl rfl rfl rfl rfl rfl rfl rfl rfl (WD.go rfl ?_) | refine WO.gives (shape02_W a h.1) rfl rfl rfl rfl rfl rfl rfl rfl rfl (WO.go rfl ?_) | refine WD.gives (shape02_W a h.1) rfl rfl rfl rfl rfl rfl rfl rfl rfl (WD.go rfl ?_) | refine WO.gives (shape02_W b h.2) rfl rfl rfl rfl rfl rfl rfl rfl rfl (WO.go rfl ?_) | refine WD.gives (shape02_W b h.2) rfl rfl rfl rfl rfl rfl rfl rfl rfl (WD.go rfl ?_) | refine WO.append0 rfl rfl rfl rfl rfl rfl rfl rfl rfl (WO.go rfl ?_) | refine WO.appendF (by simp) (by exact lens_ok rfl) (by exact lens_ok rfl) (by first | decide | simp) (by first | decide | simp) rfl rfl rfl rfl rfl rfl rfl rfl rfl rfl (WO.go rfl ?_) | refine WO.appendI (by simp) (by exact lens_ok rfl) (by first | decide | simp) (by first | decide | simp) rfl rfl rfl rfl rfl rfl rfl rfl rfl rfl (WO.go rfl ?_) | refine W.loop ?_ | refine W.exit ?_)
    exact W.ret (.ret [_] rfl rfl)
  | .bi .an f g, h => by
    have h1 := shape07_W f h.1
    have h2 := shape07_W g h.2
    refine givesW (fn := Tryz.f182) Tryz.func182 rfl rfl rfl ?_
    repeat (first | refine W.condT rfl ?_ | refine W.condF rfl ?_ | refine W.seq ?_ | refine W.block ?_ | refine W.skip ?_ | refine WO.nil ?_ | refine WD.nil (WO.go rfl ?_) | refine W.region rfl (WO.go rfl ?_) | refine WO.gives zeroY_W rfl rfl rfl rfl rfl rfl rfl rfl rfl (WO.go rfl ?_) | refine WD.gives zeroY_W rfl rfl rfl rfl rfl rfl rfl rfl rfl (WD.go rfl ?_) | refine WO.gives h1 rfl rfl rfl rfl rfl rfl rfl rfl rfl (WO.go rfl ?_) | refine WD.gives h1 rfl rfl rfl rfl rfl rfl rfl rfl rfl (WD.go rfl ?_) | refine WO.gives h2 rfl rfl rfl rfl rfl rfl rfl rfl rfl (WO.go rfl ?_) | refine WD.gives h2 rfl rfl rfl rfl rfl rfl rfl rfl rfl (WD.go rfl ?_) | refine WO.append0 rfl rfl rfl rfl rfl rfl rfl rfl rfl (WO.go rfl ?_) | refine WO.appendF (by simp) (by exact lens_ok rfl) (by exact lens_ok rfl) (by first | decide | simp) (by first | decide | simp) rfl rfl rfl rfl rfl rfl rfl rfl rfl rfl (WO.go rfl ?_) | refine WO.appendI (by simp) (by exact lens_ok rfl) (by first | decide | simp) (by first | decide | simp) rfl rfl rfl rfl rfl rfl rfl rfl rfl rfl (WO.go rfl ?_) | refine W.loop ?_ | refine W.exit ?_)
    exact W.ret (.ret [_] rfl rfl)
  | .bi .im f g, h => by
    have h1 := shape07_W f h.1
    have h2 := shape07_W g h.2
    refine givesW (fn := Tryz.f182) Tryz.func182 rfl rfl rfl ?_
    repeat (first | refine W.condT rfl ?_ | refine W.condF rfl ?_ | refine W.seq ?_ | refine W.block ?_ | refine W.skip ?_ | refine WO.nil ?_ | refine WD.nil (WO.go rfl ?_) | refine W.region rfl (WO.go rfl ?_) | refine WO.gives zeroY_W rfl rfl rfl rfl rfl rfl rfl rfl rfl (WO.go rfl ?_) | refine WD.gives zeroY_W rfl rfl rfl rfl rfl rfl rfl rfl rfl (WD.go rfl ?_) | refine WO.gives h1 rfl rfl rfl rfl rfl rfl rfl rfl rfl (WO.go rfl ?_) | refine WD.gives h1 rfl rfl rfl rfl rfl rfl rfl rfl rfl (WD.go rfl ?_) | refine WO.gives h2 rfl rfl rfl rfl rfl rfl rfl rfl rfl (WO.go rfl ?_) | refine WD.gives h2 rfl rfl rfl rfl rfl rfl rfl rfl rfl (WD.go rfl ?_) | refine WO.append0 rfl rfl rfl rfl rfl rfl rfl rfl rfl (WO.go rfl ?_) | refine WO.appendF (by simp) (by exact lens_ok rfl) (by exact lens_ok rfl) (by first | decide | simp) (by first | decide | simp) rfl rfl rfl rfl rfl rfl rfl rfl rfl rfl (WO.go rfl ?_) | refine WO.appendI (by simp) (by exact lens_ok rfl) (by first | decide | simp) (by first | decide | simp) rfl rfl rfl rfl rfl rfl rfl rfl rfl rfl (WO.go rfl ?_) | refine W.loop ?_ | refine W.exit ?_)
    exact W.ret (.ret [_] rfl rfl)
  | .q .al s f, h => by
    have h1 := shape07_W f h.2
    refine givesW (fn := Tryz.f182) Tryz.func182 rfl rfl rfl ?_
    repeat (first | refine W.condT rfl ?_ | refine W.condF rfl ?_ | refine W.seq ?_ | refine W.block ?_ | refine W.skip ?_ | refine WO.nil ?_ | refine WD.nil (WO.go rfl ?_) | refine W.region rfl (WO.go rfl ?_) | refine WO.gives (quant07_W (.q .al s f)) rfl rfl rfl rfl rfl rfl rfl rfl rfl (WO.go rfl ?_) | refine WD.gives (quant07_W (.q .al s f)) rfl rfl rfl rfl rfl rfl rfl rfl rfl (WD.go rfl ?_) | refine WO.gives (checkY_W s h.1) rfl rfl rfl rfl rfl rfl rfl rfl rfl (WO.go rfl ?_) | refine WD.gives (checkY_W s h.1) rfl rfl rfl rfl rfl rfl rfl rfl rfl (WD.go rfl ?_) | refine WO.gives h1 rfl rfl rfl rfl rfl rfl rfl rfl rfl (WO.go rfl ?_) | refine WD.gives h1 rfl rfl rfl rfl rfl rfl rfl rfl rfl (WD.go rfl ?_) | refine WO.append0 rfl rfl rfl rfl rfl rfl rfl rfl rfl (WO.go rfl ?_) | refine WO.appendF (by simp) (by exact lens_ok rfl) (by exact lens_ok rfl) (by first | decide | simp) (by first | decide | simp) rfl rfl rfl rfl rfl rfl rfl rfl rfl rfl (WO.go rfl ?_) | refine WO.appendI (by simp) (by exact lens_ok rfl) (by first | decide | simp) (by first | decide | simp) rfl rfl rfl rfl rfl rfl rfl rfl rfl rfl (WO.go rfl ?_) | refine W.loop ?_ | refine W.exit ?_)
    exact W.ret (.ret [_] rfl rfl)
  | .q .ex s f, h => by
    have h1 := shape07_W f h.2
    refine givesW (fn := Tryz.f182) Tryz.func182 rfl rfl rfl ?_
    repeat (first | refine W.condT rfl ?_ | refine W.condF rfl ?_ | refine W.seq ?_ | refine W.block ?_ | refine W.skip ?_ | refine WO.nil ?_ | refine WD.nil (WO.go rfl ?_) | refine W.region rfl (WO.go rfl ?_) | refine WO.gives (quant07_W (.q .ex s f)) rfl rfl rfl rfl rfl rfl rfl rfl rfl (WO.go rfl ?_) | refine WD.gives (quant07_W (.q .ex s f)) rfl rfl rfl rfl rfl rfl rfl rfl rfl (WD.go rfl ?_) | refine WO.gives (checkY_W s h.1) rfl rfl rfl rfl rfl rfl rfl rfl rfl (WO.go rfl ?_) | refine WD.gives (checkY_W s h.1) rfl rfl rfl rfl rfl rfl rfl rfl rfl (WD.go rfl ?_) | refine WO.gives h1 rfl rfl rfl rfl rfl rfl rfl rfl rfl (WO.go rfl ?_) | refine WD.gives h1 rfl rfl rfl rfl rfl rfl rfl rfl rfl (WD.go rfl ?_) | refine WO.append0 rfl rfl rfl rfl rfl rfl rfl rfl rfl (WO.go rfl ?_) | refine WO.appendF (by simp) (by exact lens_ok rfl) (by exact lens_ok rfl) (by first | decide | simp) (by first | decide | simp) rfl rfl rfl rfl rfl rfl rfl rfl rfl rfl (WO.go rfl ?_) | refine WO.appendI (by simp) (by exact lens_ok rfl) (by first | decide | simp) (by first | decide | simp) rfl rfl rfl rfl rfl rfl rfl rfl rfl rfl (WO.go rfl ?_) | refine W.loop ?_ | refine W.exit ?_)
    exact W.ret (.ret [_] rfl rfl)
  | .q .au s f, h => by
    have h1 := shape07_W f h.2
    refine givesW (fn := Tryz.f182) Tryz.func182 rfl rfl rfl ?_
    repeat (first | refine W.condT rfl ?_ | refine W.condF rfl ?_ | refine W.seq ?_ | refine W.block ?_ | refine W.skip ?_ | refine WO.nil ?_ | refine WD.nil (WO.go rfl ?_) | refine W.region rfl (WO.go rfl ?_) | refine WO.gives (quant07_W (.q .au s f)) rfl rfl rfl rfl rfl rfl rfl rfl rfl (WO.go rfl ?_) | refine WD.gives (quant07_W (.q .au s f)) rfl rfl rfl rfl rfl rfl rfl rfl rfl (WD.go rfl ?_) | refine WO.gives (checkY_W s h.1) rfl rfl rfl rfl rfl rfl rfl rfl rfl (WO.go rfl ?_) | refine WD.gives (checkY_W s h.1) rfl rfl rfl rfl rfl rfl rfl rfl rfl (WD.go rfl ?_) | refine WO.gives h1 rfl rfl rfl rfl rfl rfl rfl rfl rfl (WO.go rfl ?_) | refine WD.gives h1 rfl rfl rfl rfl rfl rfl rfl rfl rfl (WD.go rfl ?_) | refine WO.append0 rfl rfl rfl rfl rfl rfl rfl rfl rfl (WO.go rfl ?_) | refine WO.appendF (by simp) (by exact lens_ok rfl) (by exact lens_ok rfl) (by first | decide | simp) (by first | decide | simp) rfl rfl rfl rfl rfl rfl rfl rfl rfl rfl (WO.go rfl ?_) | refine WO.appendI (by simp) (by exact lens_ok rfl) (by first | decide | simp) (by first | decide | simp) rfl rfl rfl rfl rfl rfl rfl rfl rfl rfl (WO.go rfl ?_) | refine W.loop ?_ | refine W.exit ?_)
    exact W.ret (.ret [_] rfl rfl)
  | .q .eu s f, h => by
    have h1 := shape07_W f h.2
    refine givesW (fn := Tryz.f182) Tryz.func182 rfl rfl rfl ?_
    repeat (first | refine W.condT rfl ?_ | refine W.condF rfl ?_ | refine W.seq ?_ | refine W.block ?_ | refine W.skip ?_ | refine WO.nil ?_ | refine WD.nil (WO.go rfl ?_) | refine W.region rfl (WO.go rfl ?_) | refine WO.gives (quant07_W (.q .eu s f)) rfl rfl rfl rfl rfl rfl rfl rfl rfl (WO.go rfl ?_) | refine WD.gives (quant07_W (.q .eu s f)) rfl rfl rfl rfl rfl rfl rfl rfl rfl (WD.go rfl ?_) | refine WO.gives (checkY_W s h.1) rfl rfl rfl rfl rfl rfl rfl rfl rfl (WO.go rfl ?_) | refine WD.gives (checkY_W s h.1) rfl rfl rfl rfl rfl rfl rfl rfl rfl (WD.go rfl ?_) | refine WO.gives h1 rfl rfl rfl rfl rfl rfl rfl rfl rfl (WO.go rfl ?_) | refine WD.gives h1 rfl rfl rfl rfl rfl rfl rfl rfl rfl (WD.go rfl ?_) | refine WO.append0 rfl rfl rfl rfl rfl rfl rfl rfl rfl (WO.go rfl ?_) | refine WO.appendF (by simp) (by exact lens_ok rfl) (by exact lens_ok rfl) (by first | decide | simp) (by first | decide | simp) rfl rfl rfl rfl rfl rfl rfl rfl rfl rfl (WO.go rfl ?_) | refine WO.appendI (by simp) (by exact lens_ok rfl) (by first | decide | simp) (by first | decide | simp) rfl rfl rfl rfl rfl rfl rfl rfl rfl rfl (WO.go rfl ?_) | refine W.loop ?_ | refine W.exit ?_)
    exact W.ret (.ret [_] rfl rfl)
theorem count07_W : ∀ (f : Fo), f.size ≤ 1000000 → Gives (AC X) 151 [.agg (cF f)] (.int .i64 f.size)
  | .eq a b, h => by
    simp only [Fo.size] at h
    refine givesW (fn := Tryz.f151) Tryz.func151 rfl rfl rfl ?_
    repeat (first | refine W.condT rfl ?_ | refine W.condF rfl ?_ | refine W.seq ?_ | refine W.block ?_ | refine W.skip ?_ | refine WO.nil ?_ | refine WD.nil (WO.go rfl ?_) | refine W.region rfl (WO.go rfl ?_) | refine WO.gives (count02_W a (by omega)) rfl rfl rfl rfl rfl rfl rfl rfl rfl (WO.go rfl ?_) | refine WD.gives (count02_W a (by omega)) rfl rfl rfl rfl rfl rfl rfl rfl rfl (WD.go rfl ?_) | refine WO.gives (count02_W b (by omega)) rfl rfl rfl rfl rfl rfl rfl rfl rfl (WO.go rfl ?_) | refine WD.gives (count02_W b (by omega)) rfl rfl rfl rfl rfl rfl rfl rfl rfl (WD.go rfl ?_) | refine WO.append0 rfl rfl rfl rfl rfl rfl rfl rfl rfl (WO.go rfl ?_) | refine WO.appendF (by simp) (by exact lens_ok rfl) (by exact lens_ok rfl) (by first | decide | simp) (by first | decide | simp) rfl rfl rfl rfl rfl rfl rfl rfl rfl rfl (WO.go rfl ?_) | refine WO.appendI (by simp) (by exact lens_ok rfl) (by first | decide | simp) (by first | decide | simp) rfl rfl rfl rfl rfl rfl rfl rfl rfl rfl (WO.go rfl ?_) | refine W.loop ?_ | refine W.exit ?_)
    refine W.ret (.ret [_] rfl ?_)
    show AV.int .i64 _ = AV.int .i64 _
    congr 1
    simp (disch := omega) only [wrap_id, Fo.size]
    try omega
  | .bi .an f g, h => by
    simp only [Fo.size] at h
    have h1 := count07_W f (by omega)
    have h2 := count07_W g (by omega)
    refine givesW (fn := Tryz.f151) Tryz.func151 rfl rfl rfl ?_
    repeat (first | refine W.condT rfl ?_ | refine W.condF rfl ?_ | refine W.seq ?_ | refine W.block ?_ | refine W.skip ?_ | refine WO.nil ?_ | refine WD.nil (WO.go rfl ?_) | refine W.region rfl (WO.go rfl ?_) | refine WO.gives h1 rfl rfl rfl rfl rfl rfl rfl rfl rfl (WO.go rfl ?_) | refine WD.gives h1 rfl rfl rfl rfl rfl rfl rfl rfl rfl (WD.go rfl ?_) | refine WO.gives h2 rfl rfl rfl rfl rfl rfl rfl rfl rfl (WO.go rfl ?_) | refine WD.gives h2 rfl rfl rfl rfl rfl rfl rfl rfl rfl (WD.go rfl ?_) | refine WO.append0 rfl rfl rfl rfl rfl rfl rfl rfl rfl (WO.go rfl ?_) | refine WO.appendF (by simp) (by exact lens_ok rfl) (by exact lens_ok rfl) (by first | decide | simp) (by first | decide | simp) rfl rfl rfl rfl rfl rfl rfl rfl rfl rfl (WO.go rfl ?_) | refine WO.appendI (by simp) (by exact lens_ok rfl) (by first | decide | simp) (by first | decide | simp) rfl rfl rfl rfl rfl rfl rfl rfl rfl rfl (WO.go rfl ?_) | refine W.loop ?_ | refine W.exit ?_)
    refine W.ret (.ret [_] rfl ?_)
    show AV.int .i64 _ = AV.int .i64 _
    congr 1
    simp (disch := omega) only [wrap_id, Fo.size]
    try omega
  | .bi .im f g, h => by
    simp only [Fo.size] at h
    have h1 := count07_W f (by omega)
    have h2 := count07_W g (by omega)
    refine givesW (fn := Tryz.f151) Tryz.func151 rfl rfl rfl ?_
    repeat (first | refine W.condT rfl ?_ | refine W.condF rfl ?_ | refine W.seq ?_ | refine W.block ?_ | refine W.skip ?_ | refine WO.nil ?_ | refine WD.nil (WO.go rfl ?_) | refine W.region rfl (WO.go rfl ?_) | refine WO.gives h1 rfl rfl rfl rfl rfl rfl rfl rfl rfl (WO.go rfl ?_) | refine WD.gives h1 rfl rfl rfl rfl rfl rfl rfl rfl rfl (WD.go rfl ?_) | refine WO.gives h2 rfl rfl rfl rfl rfl rfl rfl rfl rfl (WO.go rfl ?_) | refine WD.gives h2 rfl rfl rfl rfl rfl rfl rfl rfl rfl (WD.go rfl ?_) | refine WO.append0 rfl rfl rfl rfl rfl rfl rfl rfl rfl (WO.go rfl ?_) | refine WO.appendF (by simp) (by exact lens_ok rfl) (by exact lens_ok rfl) (by first | decide | simp) (by first | decide | simp) rfl rfl rfl rfl rfl rfl rfl rfl rfl rfl (WO.go rfl ?_) | refine WO.appendI (by simp) (by exact lens_ok rfl) (by first | decide | simp) (by first | decide | simp) rfl rfl rfl rfl rfl rfl rfl rfl rfl rfl (WO.go rfl ?_) | refine W.loop ?_ | refine W.exit ?_)
    refine W.ret (.ret [_] rfl ?_)
    show AV.int .i64 _ = AV.int .i64 _
    congr 1
    simp (disch := omega) only [wrap_id, Fo.size]
    try omega
  | .q .al s f, h => by
    simp only [Fo.size] at h
    have h1 := count07_W f (by omega)
    refine givesW (fn := Tryz.f151) Tryz.func151 rfl rfl rfl ?_
    repeat (first | refine W.condT rfl ?_ | refine W.condF rfl ?_ | refine W.seq ?_ | refine W.block ?_ | refine W.skip ?_ | refine WO.nil ?_ | refine WD.nil (WO.go rfl ?_) | refine W.region rfl (WO.go rfl ?_) | refine WO.gives h1 rfl rfl rfl rfl rfl rfl rfl rfl rfl (WO.go rfl ?_) | refine WD.gives h1 rfl rfl rfl rfl rfl rfl rfl rfl rfl (WD.go rfl ?_) | refine WO.append0 rfl rfl rfl rfl rfl rfl rfl rfl rfl (WO.go rfl ?_) | refine WO.appendF (by simp) (by exact lens_ok rfl) (by exact lens_ok rfl) (by first | decide | simp) (by first | decide | simp) rfl rfl rfl rfl rfl rfl rfl rfl rfl rfl (WO.go rfl ?_) | refine WO.appendI (by simp) (by exact lens_ok rfl) (by first | decide | simp) (by first | decide | simp) rfl rfl rfl rfl rfl rfl rfl rfl rfl rfl (WO.go rfl ?_) | refine W.loop ?_ | refine W.exit ?_)
    refine W.ret (.ret [_] rfl ?_)
    show AV.int .i64 _ = AV.int .i64 _
    congr 1
    simp (disch := omega) only [wrap_id, Fo.size]
    try omega
  | .q .ex s f, h => by
    simp only [Fo.size] at h
    have h1 := count07_W f (by omega)
    refine givesW (fn := Tryz.f151) Tryz.func151 rfl rfl rfl ?_
    repeat (first | refine W.condT rfl ?_ | refine W.condF rfl ?_ | refine W.seq ?_ | refine W.block ?_ | refine W.skip ?_ | refine WO.nil ?_ | refine WD.nil (WO.go rfl ?_) | refine W.region rfl (WO.go rfl ?_) | refine WO.gives h1 rfl rfl rfl rfl rfl rfl rfl rfl rfl (WO.go rfl ?_) | refine WD.gives h1 rfl rfl rfl rfl rfl rfl rfl rfl rfl (WD.go rfl ?_) | refine WO.append0 rfl rfl rfl rfl rfl rfl rfl rfl rfl (WO.go rfl ?_) | refine WO.appendF (by simp) (by exact lens_ok rfl) (by exact lens_ok rfl) (by first | decide | simp) (by first | decide | simp) rfl rfl rfl rfl rfl rfl rfl rfl rfl rfl (WO.go rfl ?_) | refine WO.appendI (by simp) (by exact lens_ok rfl) (by first | decide | simp) (by first | decide | simp) rfl rfl rfl rfl rfl rfl rfl rfl rfl rfl (WO.go rfl ?_) | refine W.loop ?_ | refine W.exit ?_)
    refine W.ret (.ret [_] rfl ?_)
    show AV.int .i64 _ = AV.int .i64 _
    congr 1
    simp (disch := omega) only [wrap_id, Fo.size]
    try omega
  | .q .au s f, h => by
    simp only [Fo.size] at h
    have h1 := count07_W f (by omega)
    refine givesW (fn := Tryz.f151) Tryz.func151 rfl rfl rfl ?_
    repeat (first | refine W.condT rfl ?_ | refine W.condF rfl ?_ | refine W.seq ?_ | refine W.block ?_ | refine W.skip ?_ | refine WO.nil ?_ | refine WD.nil (WO.go rfl ?_) | refine W.region rfl (WO.go rfl ?_) | refine WO.gives h1 rfl rfl rfl rfl rfl rfl rfl rfl rfl (WO.go rfl ?_) | refine WD.gives h1 rfl rfl rfl rfl rfl rfl rfl rfl rfl (WD.go rfl ?_) | refine WO.append0 rfl rfl rfl rfl rfl rfl rfl rfl rfl (WO.go rfl ?_) | refine WO.appendF (by simp) (by exact lens_ok rfl) (by exact lens_ok rfl) (by first | decide | simp) (by first | decide | simp) rfl rfl rfl rfl rfl rfl rfl rfl rfl rfl (WO.go rfl ?_) | refine WO.appendI (by simp) (by exact lens_ok rfl) (by first | decide | simp) (by first | decide | simp) rfl rfl rfl rfl rfl rfl rfl rfl rfl rfl (WO.go rfl ?_) | refine W.loop ?_ | refine W.exit ?_)
    refine W.ret (.ret [_] rfl ?_)
    show AV.int .i64 _ = AV.int .i64 _
    congr 1
    simp (disch := omega) only [wrap_id, Fo.size]
    try omega
  | .q .eu s f, h => by
    simp only [Fo.size] at h
    have h1 := count07_W f (by omega)
    refine givesW (fn := Tryz.f151) Tryz.func151 rfl rfl rfl ?_
    repeat (first | refine W.condT rfl ?_ | refine W.condF rfl ?_ | refine W.seq ?_ | refine W.block ?_ | refine W.skip ?_ | refine WO.nil ?_ | refine WD.nil (WO.go rfl ?_) | refine W.region rfl (WO.go rfl ?_) | refine WO.gives h1 rfl rfl rfl rfl rfl rfl rfl rfl rfl (WO.go rfl ?_) | refine WD.gives h1 rfl rfl rfl rfl rfl rfl rfl rfl rfl (WD.go rfl ?_) | refine WO.append0 rfl rfl rfl rfl rfl rfl rfl rfl rfl (WO.go rfl ?_) | refine WO.appendF (by simp) (by exact lens_ok rfl) (by exact lens_ok rfl) (by first | decide | simp) (by first | decide | simp) rfl rfl rfl rfl rfl rfl rfl rfl rfl rfl (WO.go rfl ?_) | refine WO.appendI (by simp) (by exact lens_ok rfl) (by first | decide | simp) (by first | decide | simp) rfl rfl rfl rfl rfl rfl rfl rfl rfl rfl (WO.go rfl ?_) | refine W.loop ?_ | refine W.exit ?_)
    refine W.ret (.ret [_] rfl ?_)
    show AV.int .i64 _ = AV.int .i64 _
    congr 1
    simp (disch := omega) only [wrap_id, Fo.size]
    try omega
theorem check07_W (f : Fo) (hs : f.size ≤ 4096) (ht : f.tyLe 64) : Gives (AC X) 127 [.agg (cF f)] (.int .i64 0) := by
  refine givesW (fn := Tryz.f127) Tryz.func127 rfl rfl rfl ?_
  repeat (first | refine W.condT rfl ?_ | refine W.condF rfl ?_ | refine W.seq ?_ | refine W.block ?_ | refine W.skip ?_ | refine WO.nil ?_ | refine WD.nil (WO.go rfl ?_) | refine W.region rfl (WO.go rfl ?_) | refine WO.gives (shape07_W f ht) rfl rfl rfl rfl rfl rfl rfl rfl rfl (WO.go rfl ?_) | refine WD.gives (shape07_W f ht) rfl rfl rfl rfl rfl rfl rfl rfl rfl (WD.go rfl ?_) | refine WO.gives (count07_W f (by omega)) rfl rfl rfl rfl rfl rfl rfl rfl rfl (WO.go rfl ?_) | refine WD.gives (count07_W f (by omega)) rfl rfl rfl rfl rfl rfl rfl rfl rfl (WD.go rfl ?_) | refine WO.append0 rfl rfl rfl rfl rfl rfl rfl rfl rfl (WO.go rfl ?_) | refine WO.appendF (by simp) (by exact lens_ok rfl) (by exact lens_ok rfl) (by first | decide | simp) (by first | decide | simp) rfl rfl rfl rfl rfl rfl rfl rfl rfl rfl (WO.go rfl ?_) | refine WO.appendI (by simp) (by exact lens_ok rfl) (by first | decide | simp) (by first | decide | simp) rfl rfl rfl rfl rfl rfl rfl rfl rfl rfl (WO.go rfl ?_) | refine W.loop ?_ | refine W.exit ?_)
  refine W.cond rfl (fun h => ?_) (fun _ => ?_)
  · simp at h; omega
  · repeat (first | refine W.condT rfl ?_ | refine W.condF rfl ?_ | refine W.seq ?_ | refine W.block ?_ | refine W.skip ?_ | refine WO.nil ?_ | refine WD.nil (WO.go rfl ?_) | refine W.region rfl (WO.go rfl ?_) | refine WO.append0 rfl rfl rfl rfl rfl rfl rfl rfl rfl (WO.go rfl ?_) | refine WO.appendF (by simp) (by exact lens_ok rfl) (by exact lens_ok rfl) (by first | decide | simp) (by first | decide | simp) rfl rfl rfl rfl rfl rfl rfl rfl rfl rfl (WO.go rfl ?_) | refine WO.appendI (by simp) (by exact lens_ok rfl) (by first | decide | simp) (by first | decide | simp) rfl rfl rfl rfl rfl rfl rfl rfl rfl rfl (WO.go rfl ?_) | refine W.loop ?_ | refine W.exit ?_)
    exact W.ret (.ret [_] rfl rfl)
theorem check07L_W (f : Fo) (hs : f.size ≤ 1000000) (ht : f.tyLe 64) (h2 : ¬ f.size ≤ 4096) : Gives (AC X) 127 [.agg (cF f)] (.int .i64 4) := by
  refine givesW (fn := Tryz.f127) Tryz.func127 rfl rfl rfl ?_
  repeat (first | refine W.condT rfl ?_ | refine W.condF rfl ?_ | refine W.seq ?_ | refine W.block ?_ | refine W.skip ?_ | refine WO.nil ?_ | refine WD.nil (WO.go rfl ?_) | refine W.region rfl (WO.go rfl ?_) | refine WO.gives (shape07_W f ht) rfl rfl rfl rfl rfl rfl rfl rfl rfl (WO.go rfl ?_) | refine WD.gives (shape07_W f ht) rfl rfl rfl rfl rfl rfl rfl rfl rfl (WD.go rfl ?_) | refine WO.gives (count07_W f (by omega)) rfl rfl rfl rfl rfl rfl rfl rfl rfl (WO.go rfl ?_) | refine WD.gives (count07_W f (by omega)) rfl rfl rfl rfl rfl rfl rfl rfl rfl (WD.go rfl ?_) | refine WO.append0 rfl rfl rfl rfl rfl rfl rfl rfl rfl (WO.go rfl ?_) | refine WO.appendF (by simp) (by exact lens_ok rfl) (by exact lens_ok rfl) (by first | decide | simp) (by first | decide | simp) rfl rfl rfl rfl rfl rfl rfl rfl rfl rfl (WO.go rfl ?_) | refine WO.appendI (by simp) (by exact lens_ok rfl) (by first | decide | simp) (by first | decide | simp) rfl rfl rfl rfl rfl rfl rfl rfl rfl rfl (WO.go rfl ?_) | refine W.loop ?_ | refine W.exit ?_)
  refine W.cond rfl (fun _ => ?_) (fun h => ?_)
  · repeat (first | refine W.condT rfl ?_ | refine W.condF rfl ?_ | refine W.seq ?_ | refine W.block ?_ | refine W.skip ?_ | refine WO.nil ?_ | refine WD.nil (WO.go rfl ?_) | refine W.region rfl (WO.go rfl ?_) | refine WO.append0 rfl rfl rfl rfl rfl rfl rfl rfl rfl (WO.go rfl ?_) | refine WO.appendF (by simp) (by exact lens_ok rfl) (by exact lens_ok rfl) (by first | decide | simp) (by first | decide | simp) rfl rfl rfl rfl rfl rfl rfl rfl rfl rfl (WO.go rfl ?_) | refine WO.appendI (by simp) (by exact lens_ok rfl) (by first | decide | simp) (by first | decide | simp) rfl rfl rfl rfl rfl rfl rfl rfl rfl rfl (WO.go rfl ?_) | refine W.loop ?_ | refine W.exit ?_)
    exact W.ret (.ret [_] rfl rfl)
  · simp at h; omega
def bndF : Fo → Int
  | .q _ _ _ => 1
  | _ => 0
theorem below07_W (f : Fo) : Gives (AC X) 206 [.agg (cF f)] (.int .i64 (bndF f)) := by
  have hq := quant07_W (X := X) f
  rcases f with ⟨a, b⟩ | ⟨_ | _, f, g⟩ | ⟨_ | _ | _ | _, s, f⟩ <;>
  · refine givesW (fn := Tryz.f206) Tryz.func206 rfl rfl rfl ?_
    repeat (first | refine W.condT rfl ?_ | refine W.condF rfl ?_ | refine W.seq ?_ | refine W.block ?_ | refine W.skip ?_ | refine WO.nil ?_ | refine WD.nil (WO.go rfl ?_) | refine W.region rfl (WO.go rfl ?_) | refine WO.gives hq rfl rfl rfl rfl rfl rfl rfl rfl rfl (WO.go rfl ?_) | refine WD.gives hq rfl rfl rfl rfl rfl rfl rfl rfl rfl (WD.go rfl ?_) | refine WO.append0 rfl rfl rfl rfl rfl rfl rfl rfl rfl (WO.go rfl ?_) | refine WO.appendF (by simp) (by exact lens_ok rfl) (by exact lens_ok rfl) (by first | decide | simp) (by first | decide | simp) rfl rfl rfl rfl rfl rfl rfl rfl rfl rfl (WO.go rfl ?_) | refine WO.appendI (by simp) (by exact lens_ok rfl) (by first | decide | simp) (by first | decide | simp) rfl rfl rfl rfl rfl rfl rfl rfl rfl rfl (WO.go rfl ?_) | refine W.loop ?_ | refine W.exit ?_)
    exact W.ret (.ret [_] rfl rfl)
theorem least07_W : ∀ (f : Fo), f.le 536870912 → Gives (AC X) 150 [.agg (cF f), .int .i64 536870912] (.bool true)
  | .eq a b, h => by
    refine givesW (fn := Tryz.f150) Tryz.func150 rfl rfl rfl ?_
    repeat (first | refine W.condT rfl ?_ | refine W.condF rfl ?_ | refine W.seq ?_ | refine W.block ?_ | refine W.skip ?_ | refine WO.nil ?_ | refine WD.nil (WO.go rfl ?_) | refine W.region rfl (WO.go rfl ?_) | refine WO.gives (least03_W a h.1) rfl rfl rfl rfl rfl rfl rfl rfl rfl (WO.go rfl ?_) | refine WD.gives (least03_W a h.1) rfl rfl rfl rfl rfl rfl rfl rfl rfl (WD.go rfl ?_) | refine WO.gives (least03_W b h.2) rfl rfl rfl rfl rfl rfl rfl rfl rfl (WO.go rfl ?_) | refine WD.gives (least03_W b h.2) rfl rfl rfl rfl rfl rfl rfl rfl rfl (WD.go rfl ?_) | refine WO.append0 rfl rfl rfl rfl rfl rfl rfl rfl rfl (WO.go rfl ?_) | refine WO.appendF (by simp) (by exact lens_ok rfl) (by exact lens_ok rfl) (by first | decide | simp) (by first | decide | simp) rfl rfl rfl rfl rfl rfl rfl rfl rfl rfl (WO.go rfl ?_) | refine WO.appendI (by simp) (by exact lens_ok rfl) (by first | decide | simp) (by first | decide | simp) rfl rfl rfl rfl rfl rfl rfl rfl rfl rfl (WO.go rfl ?_) | refine W.loop ?_ | refine W.exit ?_)
    exact W.ret (.ret [_] rfl rfl)
  | .bi .an f g, h => by
    have h1 := least07_W f h.1
    have h2 := least07_W g h.2
    refine givesW (fn := Tryz.f150) Tryz.func150 rfl rfl rfl ?_
    repeat (first | refine W.condT rfl ?_ | refine W.condF rfl ?_ | refine W.seq ?_ | refine W.block ?_ | refine W.skip ?_ | refine WO.nil ?_ | refine WD.nil (WO.go rfl ?_) | refine W.region rfl (WO.go rfl ?_) | refine WO.gives h1 rfl rfl rfl rfl rfl rfl rfl rfl rfl (WO.go rfl ?_) | refine WD.gives h1 rfl rfl rfl rfl rfl rfl rfl rfl rfl (WD.go rfl ?_) | refine WO.gives h2 rfl rfl rfl rfl rfl rfl rfl rfl rfl (WO.go rfl ?_) | refine WD.gives h2 rfl rfl rfl rfl rfl rfl rfl rfl rfl (WD.go rfl ?_) | refine WO.append0 rfl rfl rfl rfl rfl rfl rfl rfl rfl (WO.go rfl ?_) | refine WO.appendF (by simp) (by exact lens_ok rfl) (by exact lens_ok rfl) (by first | decide | simp) (by first | decide | simp) rfl rfl rfl rfl rfl rfl rfl rfl rfl rfl (WO.go rfl ?_) | refine WO.appendI (by simp) (by exact lens_ok rfl) (by first | decide | simp) (by first | decide | simp) rfl rfl rfl rfl rfl rfl rfl rfl rfl rfl (WO.go rfl ?_) | refine W.loop ?_ | refine W.exit ?_)
    exact W.ret (.ret [_] rfl rfl)
  | .bi .im f g, h => by
    have h1 := least07_W f h.1
    have h2 := least07_W g h.2
    refine givesW (fn := Tryz.f150) Tryz.func150 rfl rfl rfl ?_
    repeat (first | refine W.condT rfl ?_ | refine W.condF rfl ?_ | refine W.seq ?_ | refine W.block ?_ | refine W.skip ?_ | refine WO.nil ?_ | refine WD.nil (WO.go rfl ?_) | refine W.region rfl (WO.go rfl ?_) | refine WO.gives h1 rfl rfl rfl rfl rfl rfl rfl rfl rfl (WO.go rfl ?_) | refine WD.gives h1 rfl rfl rfl rfl rfl rfl rfl rfl rfl (WD.go rfl ?_) | refine WO.gives h2 rfl rfl rfl rfl rfl rfl rfl rfl rfl (WO.go rfl ?_) | refine WD.gives h2 rfl rfl rfl rfl rfl rfl rfl rfl rfl (WD.go rfl ?_) | refine WO.append0 rfl rfl rfl rfl rfl rfl rfl rfl rfl (WO.go rfl ?_) | refine WO.appendF (by simp) (by exact lens_ok rfl) (by exact lens_ok rfl) (by first | decide | simp) (by first | decide | simp) rfl rfl rfl rfl rfl rfl rfl rfl rfl rfl (WO.go rfl ?_) | refine WO.appendI (by simp) (by exact lens_ok rfl) (by first | decide | simp) (by first | decide | simp) rfl rfl rfl rfl rfl rfl rfl rfl rfl rfl (WO.go rfl ?_) | refine W.loop ?_ | refine W.exit ?_)
    exact W.ret (.ret [_] rfl rfl)
  | .q .al s f, h => by
    have h1 := least07_W f h
    refine givesW (fn := Tryz.f150) Tryz.func150 rfl rfl rfl ?_
    repeat (first | refine W.condT rfl ?_ | refine W.condF rfl ?_ | refine W.seq ?_ | refine W.block ?_ | refine W.skip ?_ | refine WO.nil ?_ | refine WD.nil (WO.go rfl ?_) | refine W.region rfl (WO.go rfl ?_) | refine WO.gives h1 rfl rfl rfl rfl rfl rfl rfl rfl rfl (WO.go rfl ?_) | refine WD.gives h1 rfl rfl rfl rfl rfl rfl rfl rfl rfl (WD.go rfl ?_) | refine WO.append0 rfl rfl rfl rfl rfl rfl rfl rfl rfl (WO.go rfl ?_) | refine WO.appendF (by simp) (by exact lens_ok rfl) (by exact lens_ok rfl) (by first | decide | simp) (by first | decide | simp) rfl rfl rfl rfl rfl rfl rfl rfl rfl rfl (WO.go rfl ?_) | refine WO.appendI (by simp) (by exact lens_ok rfl) (by first | decide | simp) (by first | decide | simp) rfl rfl rfl rfl rfl rfl rfl rfl rfl rfl (WO.go rfl ?_) | refine W.loop ?_ | refine W.exit ?_)
    exact W.ret (.ret [_] rfl rfl)
  | .q .ex s f, h => by
    have h1 := least07_W f h
    refine givesW (fn := Tryz.f150) Tryz.func150 rfl rfl rfl ?_
    repeat (first | refine W.condT rfl ?_ | refine W.condF rfl ?_ | refine W.seq ?_ | refine W.block ?_ | refine W.skip ?_ | refine WO.nil ?_ | refine WD.nil (WO.go rfl ?_) | refine W.region rfl (WO.go rfl ?_) | refine WO.gives h1 rfl rfl rfl rfl rfl rfl rfl rfl rfl (WO.go rfl ?_) | refine WD.gives h1 rfl rfl rfl rfl rfl rfl rfl rfl rfl (WD.go rfl ?_) | refine WO.append0 rfl rfl rfl rfl rfl rfl rfl rfl rfl (WO.go rfl ?_) | refine WO.appendF (by simp) (by exact lens_ok rfl) (by exact lens_ok rfl) (by first | decide | simp) (by first | decide | simp) rfl rfl rfl rfl rfl rfl rfl rfl rfl rfl (WO.go rfl ?_) | refine WO.appendI (by simp) (by exact lens_ok rfl) (by first | decide | simp) (by first | decide | simp) rfl rfl rfl rfl rfl rfl rfl rfl rfl rfl (WO.go rfl ?_) | refine W.loop ?_ | refine W.exit ?_)
    exact W.ret (.ret [_] rfl rfl)
  | .q .au s f, h => by
    have h1 := least07_W f h
    refine givesW (fn := Tryz.f150) Tryz.func150 rfl rfl rfl ?_
    repeat (first | refine W.condT rfl ?_ | refine W.condF rfl ?_ | refine W.seq ?_ | refine W.block ?_ | refine W.skip ?_ | refine WO.nil ?_ | refine WD.nil (WO.go rfl ?_) | refine W.region rfl (WO.go rfl ?_) | refine WO.gives h1 rfl rfl rfl rfl rfl rfl rfl rfl rfl (WO.go rfl ?_) | refine WD.gives h1 rfl rfl rfl rfl rfl rfl rfl rfl rfl (WD.go rfl ?_) | refine WO.append0 rfl rfl rfl rfl rfl rfl rfl rfl rfl (WO.go rfl ?_) | refine WO.appendF (by simp) (by exact lens_ok rfl) (by exact lens_ok rfl) (by first | decide | simp) (by first | decide | simp) rfl rfl rfl rfl rfl rfl rfl rfl rfl rfl (WO.go rfl ?_) | refine WO.appendI (by simp) (by exact lens_ok rfl) (by first | decide | simp) (by first | decide | simp) rfl rfl rfl rfl rfl rfl rfl rfl rfl rfl (WO.go rfl ?_) | refine W.loop ?_ | refine W.exit ?_)
    exact W.ret (.ret [_] rfl rfl)
  | .q .eu s f, h => by
    have h1 := least07_W f h
    refine givesW (fn := Tryz.f150) Tryz.func150 rfl rfl rfl ?_
    repeat (first | refine W.condT rfl ?_ | refine W.condF rfl ?_ | refine W.seq ?_ | refine W.block ?_ | refine W.skip ?_ | refine WO.nil ?_ | refine WD.nil (WO.go rfl ?_) | refine W.region rfl (WO.go rfl ?_) | refine WO.gives h1 rfl rfl rfl rfl rfl rfl rfl rfl rfl (WO.go rfl ?_) | refine WD.gives h1 rfl rfl rfl rfl rfl rfl rfl rfl rfl (WD.go rfl ?_) | refine WO.append0 rfl rfl rfl rfl rfl rfl rfl rfl rfl (WO.go rfl ?_) | refine WO.appendF (by simp) (by exact lens_ok rfl) (by exact lens_ok rfl) (by first | decide | simp) (by first | decide | simp) rfl rfl rfl rfl rfl rfl rfl rfl rfl rfl (WO.go rfl ?_) | refine WO.appendI (by simp) (by exact lens_ok rfl) (by first | decide | simp) (by first | decide | simp) rfl rfl rfl rfl rfl rfl rfl rfl rfl rfl (WO.go rfl ?_) | refine W.loop ?_ | refine W.exit ?_)
    exact W.ret (.ret [_] rfl rfl)
theorem times07_W : ∀ (f : Fo) (c : Nat), f.size ≤ 1000000 → c + f.size ≤ 1000000000 → Gives (AC X) 152 [.agg (cF f), .int .i64 c] (.int .i64 (f.times c : Nat))
  | .eq a b, c, h, hc => by
    simp only [Fo.size] at h hc
    have t1 := T.times_le a c
    have t2 := T.times_le b c
    refine givesW (fn := Tryz.f152) Tryz.func152 rfl rfl rfl ?_
    repeat (first | refine W.condT rfl ?_ | refine W.condF rfl ?_ | refine W.seq ?_ | refine W.block ?_ | refine W.skip ?_ | refine WO.nil ?_ | refine WD.nil (WO.go rfl ?_) | refine W.region rfl (WO.go rfl ?_) | refine W.draw (id := 10) 7 [] rfl (by decide +kernel) rfl (WD.go rfl ?_) | refine WO.gives (times03_W a c (by omega) (by omega)) rfl rfl rfl rfl rfl rfl rfl rfl rfl (WO.go rfl ?_) | refine WD.gives (times03_W a c (by omega) (by omega)) rfl rfl rfl rfl rfl rfl rfl rfl rfl (WD.go rfl ?_) | refine WO.gives (times03_W b c (by omega) (by omega)) rfl rfl rfl rfl rfl rfl rfl rfl rfl (WO.go rfl ?_) | refine WD.gives (times03_W b c (by omega) (by omega)) rfl rfl rfl rfl rfl rfl rfl rfl rfl (WD.go rfl ?_) | refine WO.append0 rfl rfl rfl rfl rfl rfl rfl rfl rfl (WO.go rfl ?_) | refine WO.appendF (by simp) (by exact lens_ok rfl) (by exact lens_ok rfl) (by first | decide | simp) (by first | decide | simp) rfl rfl rfl rfl rfl rfl rfl rfl rfl rfl (WO.go rfl ?_) | refine WO.appendI (by simp) (by exact lens_ok rfl) (by first | decide | simp) (by first | decide | simp) rfl rfl rfl rfl rfl rfl rfl rfl rfl rfl (WO.go rfl ?_) | refine W.loop ?_ | refine W.exit ?_)
    refine W.ret (.ret [_] rfl ?_)
    show AV.int .i64 _ = AV.int .i64 _
    congr 1
    simp (disch := omega) only [wrap_id, Fo.times]
    try omega
  | .bi .an f g, c, h, hc => by
    simp only [Fo.size] at h hc
    have hw : IntKind.i64.wrap ((c : Int) + 0) = (c : Int) := by rw [wrap_id (by omega) (by omega)]; omega
    have h1 := times07_W f c (by omega) (by omega)
    have h2 := times07_W g c (by omega) (by omega)
    rw [← hw] at h1 h2
    have t1 := Fo.times_le f c
    have t2 := Fo.times_le g c
    refine givesW (fn := Tryz.f152) Tryz.func152 rfl rfl rfl ?_
    repeat (first | refine W.condT rfl ?_ | refine W.condF rfl ?_ | refine W.seq ?_ | refine W.block ?_ | refine W.skip ?_ | refine WO.nil ?_ | refine WD.nil (WO.go rfl ?_) | refine W.region rfl (WO.go rfl ?_) | refine W.draw (id := 10) 7 [] rfl (by decide +kernel) rfl (WD.go rfl ?_) | refine WO.gives (below07_W (.bi .an f g)) rfl rfl rfl rfl rfl rfl rfl rfl rfl (WO.go rfl ?_) | refine WD.gives (below07_W (.bi .an f g)) rfl rfl rfl rfl rfl rfl rfl rfl rfl (WD.go rfl ?_) | refine WO.gives h1 rfl rfl rfl rfl rfl rfl rfl rfl rfl (WO.go rfl ?_) | refine WD.gives h1 rfl rfl rfl rfl rfl rfl rfl rfl rfl (WD.go rfl ?_) | refine WO.gives h2 rfl rfl rfl rfl rfl rfl rfl rfl rfl (WO.go rfl ?_) | refine WD.gives h2 rfl rfl rfl rfl rfl rfl rfl rfl rfl (WD.go rfl ?_) | refine WO.append0 rfl rfl rfl rfl rfl rfl rfl rfl rfl (WO.go rfl ?_) | refine WO.appendF (by simp) (by exact lens_ok rfl) (by exact lens_ok rfl) (by first | decide | simp) (by first | decide | simp) rfl rfl rfl rfl rfl rfl rfl rfl rfl rfl (WO.go rfl ?_) | refine WO.appendI (by simp) (by exact lens_ok rfl) (by first | decide | simp) (by first | decide | simp) rfl rfl rfl rfl rfl rfl rfl rfl rfl rfl (WO.go rfl ?_) | refine W.loop ?_ | refine W.exit ?_)
    refine W.ret (.ret [_] rfl ?_)
    show AV.int .i64 _ = AV.int .i64 _
    congr 1
    simp (disch := omega) only [wrap_id, Fo.times]
    try omega
  | .bi .im f g, c, h, hc => by
    simp only [Fo.size] at h hc
    have hw : IntKind.i64.wrap ((c : Int) + 0) = (c : Int) := by rw [wrap_id (by omega) (by omega)]; omega
    have h1 := times07_W f c (by omega) (by omega)
    have h2 := times07_W g c (by omega) (by omega)
    rw [← hw] at h1 h2
    have t1 := Fo.times_le f c
    have t2 := Fo.times_le g c
    refine givesW (fn := Tryz.f152) Tryz.func152 rfl rfl rfl ?_
    repeat (first | refine W.condT rfl ?_ | refine W.condF rfl ?_ | refine W.seq ?_ | refine W.block ?_ | refine W.skip ?_ | refine WO.nil ?_ | refine WD.nil (WO.go rfl ?_) | refine W.region rfl (WO.go rfl ?_) | refine W.draw (id := 10) 7 [] rfl (by decide +kernel) rfl (WD.go rfl ?_) | refine WO.gives (below07_W (.bi .im f g)) rfl rfl rfl rfl rfl rfl rfl rfl rfl (WO.go rfl ?_) | refine WD.gives (below07_W (.bi .im f g)) rfl rfl rfl rfl rfl rfl rfl rfl rfl (WD.go rfl ?_) | refine WO.gives h1 rfl rfl rfl rfl rfl rfl rfl rfl rfl (WO.go rfl ?_) | refine WD.gives h1 rfl rfl rfl rfl rfl rfl rfl rfl rfl (WD.go rfl ?_) | refine WO.gives h2 rfl rfl rfl rfl rfl rfl rfl rfl rfl (WO.go rfl ?_) | refine WD.gives h2 rfl rfl rfl rfl rfl rfl rfl rfl rfl (WD.go rfl ?_) | refine WO.append0 rfl rfl rfl rfl rfl rfl rfl rfl rfl (WO.go rfl ?_) | refine WO.appendF (by simp) (by exact lens_ok rfl) (by exact lens_ok rfl) (by first | decide | simp) (by first | decide | simp) rfl rfl rfl rfl rfl rfl rfl rfl rfl rfl (WO.go rfl ?_) | refine WO.appendI (by simp) (by exact lens_ok rfl) (by first | decide | simp) (by first | decide | simp) rfl rfl rfl rfl rfl rfl rfl rfl rfl rfl (WO.go rfl ?_) | refine W.loop ?_ | refine W.exit ?_)
    refine W.ret (.ret [_] rfl ?_)
    show AV.int .i64 _ = AV.int .i64 _
    congr 1
    simp (disch := omega) only [wrap_id, Fo.times]
    try omega
  | .q .al s f, c, h, hc => by
    simp only [Fo.size] at h hc
    have hw : IntKind.i64.wrap ((c : Int) + 1) = ((c + 1 : Nat) : Int) := by rw [wrap_id (by omega) (by omega)]; omega
    have h1 := times07_W f (c + 1) (by omega) (by omega)
    rw [← hw] at h1
    have t1 := Fo.times_le f (c + 1)
    refine givesW (fn := Tryz.f152) Tryz.func152 rfl rfl rfl ?_
    repeat (first | refine W.condT rfl ?_ | refine W.condF rfl ?_ | refine W.seq ?_ | refine W.block ?_ | refine W.skip ?_ | refine WO.nil ?_ | refine WD.nil (WO.go rfl ?_) | refine W.region rfl (WO.go rfl ?_) | refine W.draw (id := 10) 7 [] rfl (by decide +kernel) rfl (WD.go rfl ?_) | refine WO.gives (below07_W (.q .al s f)) rfl rfl rfl rfl rfl rfl rfl rfl rfl (WO.go rfl ?_) | refine WD.gives (below07_W (.q .al s f)) rfl rfl rfl rfl rfl rfl rfl rfl rfl (WD.go rfl ?_) | refine WO.gives h1 rfl rfl rfl rfl rfl rfl rfl rfl rfl (WO.go rfl ?_) | refine WD.gives h1 rfl rfl rfl rfl rfl rfl rfl rfl rfl (WD.go rfl ?_) | refine WO.append0 rfl rfl rfl rfl rfl rfl rfl rfl rfl (WO.go rfl ?_) | refine WO.appendF (by simp) (by exact lens_ok rfl) (by exact lens_ok rfl) (by first | decide | simp) (by first | decide | simp) rfl rfl rfl rfl rfl rfl rfl rfl rfl rfl (WO.go rfl ?_) | refine WO.appendI (by simp) (by exact lens_ok rfl) (by first | decide | simp) (by first | decide | simp) rfl rfl rfl rfl rfl rfl rfl rfl rfl rfl (WO.go rfl ?_) | refine W.loop ?_ | refine W.exit ?_)
    refine W.ret (.ret [_] rfl ?_)
    show AV.int .i64 _ = AV.int .i64 _
    congr 1
    simp (disch := omega) only [wrap_id, Fo.times]
    try omega
  | .q .ex s f, c, h, hc => by
    simp only [Fo.size] at h hc
    have hw : IntKind.i64.wrap ((c : Int) + 1) = ((c + 1 : Nat) : Int) := by rw [wrap_id (by omega) (by omega)]; omega
    have h1 := times07_W f (c + 1) (by omega) (by omega)
    rw [← hw] at h1
    have t1 := Fo.times_le f (c + 1)
    refine givesW (fn := Tryz.f152) Tryz.func152 rfl rfl rfl ?_
    repeat (first | refine W.condT rfl ?_ | refine W.condF rfl ?_ | refine W.seq ?_ | refine W.block ?_ | refine W.skip ?_ | refine WO.nil ?_ | refine WD.nil (WO.go rfl ?_) | refine W.region rfl (WO.go rfl ?_) | refine W.draw (id := 10) 7 [] rfl (by decide +kernel) rfl (WD.go rfl ?_) | refine WO.gives (below07_W (.q .ex s f)) rfl rfl rfl rfl rfl rfl rfl rfl rfl (WO.go rfl ?_) | refine WD.gives (below07_W (.q .ex s f)) rfl rfl rfl rfl rfl rfl rfl rfl rfl (WD.go rfl ?_) | refine WO.gives h1 rfl rfl rfl rfl rfl rfl rfl rfl rfl (WO.go rfl ?_) | refine WD.gives h1 rfl rfl rfl rfl rfl rfl rfl rfl rfl (WD.go rfl ?_) | refine WO.append0 rfl rfl rfl rfl rfl rfl rfl rfl rfl (WO.go rfl ?_) | refine WO.appendF (by simp) (by exact lens_ok rfl) (by exact lens_ok rfl) (by first | decide | simp) (by first | decide | simp) rfl rfl rfl rfl rfl rfl rfl rfl rfl rfl (WO.go rfl ?_) | refine WO.appendI (by simp) (by exact lens_ok rfl) (by first | decide | simp) (by first | decide | simp) rfl rfl rfl rfl rfl rfl rfl rfl rfl rfl (WO.go rfl ?_) | refine W.loop ?_ | refine W.exit ?_)
    refine W.ret (.ret [_] rfl ?_)
    show AV.int .i64 _ = AV.int .i64 _
    congr 1
    simp (disch := omega) only [wrap_id, Fo.times]
    try omega
  | .q .au s f, c, h, hc => by
    simp only [Fo.size] at h hc
    have hw : IntKind.i64.wrap ((c : Int) + 1) = ((c + 1 : Nat) : Int) := by rw [wrap_id (by omega) (by omega)]; omega
    have h1 := times07_W f (c + 1) (by omega) (by omega)
    rw [← hw] at h1
    have t1 := Fo.times_le f (c + 1)
    refine givesW (fn := Tryz.f152) Tryz.func152 rfl rfl rfl ?_
    repeat (first | refine W.condT rfl ?_ | refine W.condF rfl ?_ | refine W.seq ?_ | refine W.block ?_ | refine W.skip ?_ | refine WO.nil ?_ | refine WD.nil (WO.go rfl ?_) | refine W.region rfl (WO.go rfl ?_) | refine W.draw (id := 10) 7 [] rfl (by decide +kernel) rfl (WD.go rfl ?_) | refine WO.gives (below07_W (.q .au s f)) rfl rfl rfl rfl rfl rfl rfl rfl rfl (WO.go rfl ?_) | refine WD.gives (below07_W (.q .au s f)) rfl rfl rfl rfl rfl rfl rfl rfl rfl (WD.go rfl ?_) | refine WO.gives h1 rfl rfl rfl rfl rfl rfl rfl rfl rfl (WO.go rfl ?_) | refine WD.gives h1 rfl rfl rfl rfl rfl rfl rfl rfl rfl (WD.go rfl ?_) | refine WO.append0 rfl rfl rfl rfl rfl rfl rfl rfl rfl (WO.go rfl ?_) | refine WO.appendF (by simp) (by exact lens_ok rfl) (by exact lens_ok rfl) (by first | decide | simp) (by first | decide | simp) rfl rfl rfl rfl rfl rfl rfl rfl rfl rfl (WO.go rfl ?_) | refine WO.appendI (by simp) (by exact lens_ok rfl) (by first | decide | simp) (by first | decide | simp) rfl rfl rfl rfl rfl rfl rfl rfl rfl rfl (WO.go rfl ?_) | refine W.loop ?_ | refine W.exit ?_)
    refine W.ret (.ret [_] rfl ?_)
    show AV.int .i64 _ = AV.int .i64 _
    congr 1
    simp (disch := omega) only [wrap_id, Fo.times]
    try omega
  | .q .eu s f, c, h, hc => by
    simp only [Fo.size] at h hc
    have hw : IntKind.i64.wrap ((c : Int) + 1) = ((c + 1 : Nat) : Int) := by rw [wrap_id (by omega) (by omega)]; omega
    have h1 := times07_W f (c + 1) (by omega) (by omega)
    rw [← hw] at h1
    have t1 := Fo.times_le f (c + 1)
    refine givesW (fn := Tryz.f152) Tryz.func152 rfl rfl rfl ?_
    repeat (first | refine W.condT rfl ?_ | refine W.condF rfl ?_ | refine W.seq ?_ | refine W.block ?_ | refine W.skip ?_ | refine WO.nil ?_ | refine WD.nil (WO.go rfl ?_) | refine W.region rfl (WO.go rfl ?_) | refine W.draw (id := 10) 7 [] rfl (by decide +kernel) rfl (WD.go rfl ?_) | refine WO.gives (below07_W (.q .eu s f)) rfl rfl rfl rfl rfl rfl rfl rfl rfl (WO.go rfl ?_) | refine WD.gives (below07_W (.q .eu s f)) rfl rfl rfl rfl rfl rfl rfl rfl rfl (WD.go rfl ?_) | refine WO.gives h1 rfl rfl rfl rfl rfl rfl rfl rfl rfl (WO.go rfl ?_) | refine WD.gives h1 rfl rfl rfl rfl rfl rfl rfl rfl rfl (WD.go rfl ?_) | refine WO.append0 rfl rfl rfl rfl rfl rfl rfl rfl rfl (WO.go rfl ?_) | refine WO.appendF (by simp) (by exact lens_ok rfl) (by exact lens_ok rfl) (by first | decide | simp) (by first | decide | simp) rfl rfl rfl rfl rfl rfl rfl rfl rfl rfl (WO.go rfl ?_) | refine WO.appendI (by simp) (by exact lens_ok rfl) (by first | decide | simp) (by first | decide | simp) rfl rfl rfl rfl rfl rfl rfl rfl rfl rfl (WO.go rfl ?_) | refine W.loop ?_ | refine W.exit ?_)
    refine W.ret (.ret [_] rfl ?_)
    show AV.int .i64 _ = AV.int .i64 _
    congr 1
    simp (disch := omega) only [wrap_id, Fo.times]
    try omega
theorem in07_W (u : T) (hus : u.size ≤ 100000000) (hu : u.le 1000000000) : ∀ (f : Fo) (c : Nat), c + f.size ≤ 100000000 → f.le 1000000000 → Gives (AC X) 154 [.agg (cF f), .int .i64 0, .int .i64 c, .agg (cT u)] (.agg (cF (Fo.put c u f)))
  | .eq a b, c, hc, h => by
    simp only [Fo.size] at hc
    refine givesW (fn := Tryz.f154) Tryz.func154 rfl rfl rfl ?_
    repeat (first | refine W.condT rfl ?_ | refine W.condF rfl ?_ | refine W.seq ?_ | refine W.block ?_ | refine W.skip ?_ | refine WO.nil ?_ | refine WD.nil (WO.go rfl ?_) | refine W.region rfl (WO.go rfl ?_) | refine W.draw (id := 5) 8 [] rfl (by decide +kernel) rfl (WD.go rfl ?_) | refine W.draw (id := 10) 11 [] rfl (by decide +kernel) rfl (WD.go rfl ?_) | refine WO.gives (in03_W u hus hu a c (by omega) h.1) rfl rfl rfl rfl rfl rfl rfl rfl rfl (WO.go rfl ?_) | refine WD.gives (in03_W u hus hu a c (by omega) h.1) rfl rfl rfl rfl rfl rfl rfl rfl rfl (WD.go rfl ?_) | refine WO.gives (in03_W u hus hu b c (by omega) h.2) rfl rfl rfl rfl rfl rfl rfl rfl rfl (WO.go rfl ?_) | refine WD.gives (in03_W u hus hu b c (by omega) h.2) rfl rfl rfl rfl rfl rfl rfl rfl rfl (WD.go rfl ?_) | refine WO.append0 rfl rfl rfl rfl rfl rfl rfl rfl rfl (WO.go rfl ?_) | refine WO.appendF (by simp) (by exact lens_ok rfl) (by exact lens_ok rfl) (by first | decide | simp) (by first | decide | simp) rfl rfl rfl rfl rfl rfl rfl rfl rfl rfl (WO.go rfl ?_) | refine WO.appendI (by simp) (by exact lens_ok rfl) (by first | decide | simp) (by first | decide | simp) rfl rfl rfl rfl rfl rfl rfl rfl rfl rfl (WO.go rfl ?_) | refine W.loop ?_ | refine W.exit ?_)
    exact W.ret (.ret [_] rfl rfl)
  | .bi .an f g, c, hc, h => by
    simp only [Fo.size] at hc
    have hw : IntKind.i64.wrap ((c : Int) + 0) = (c : Int) := by rw [wrap_id (by omega) (by omega)]; omega
    have h1 := in07_W u hus hu f c (by omega) h.1
    have h2 := in07_W u hus hu g c (by omega) h.2
    rw [← hw] at h1 h2
    refine givesW (fn := Tryz.f154) Tryz.func154 rfl rfl rfl ?_
    repeat (first | refine W.condT rfl ?_ | refine W.condF rfl ?_ | refine W.seq ?_ | refine W.block ?_ | refine W.skip ?_ | refine WO.nil ?_ | refine WD.nil (WO.go rfl ?_) | refine W.region rfl (WO.go rfl ?_) | refine W.draw (id := 5) 8 [] rfl (by decide +kernel) rfl (WD.go rfl ?_) | refine W.draw (id := 10) 11 [] rfl (by decide +kernel) rfl (WD.go rfl ?_) | refine WO.gives (below07_W (.bi .an f g)) rfl rfl rfl rfl rfl rfl rfl rfl rfl (WO.go rfl ?_) | refine WD.gives (below07_W (.bi .an f g)) rfl rfl rfl rfl rfl rfl rfl rfl rfl (WD.go rfl ?_) | refine WO.gives h1 rfl rfl rfl rfl rfl rfl rfl rfl rfl (WO.go rfl ?_) | refine WD.gives h1 rfl rfl rfl rfl rfl rfl rfl rfl rfl (WD.go rfl ?_) | refine WO.gives h2 rfl rfl rfl rfl rfl rfl rfl rfl rfl (WO.go rfl ?_) | refine WD.gives h2 rfl rfl rfl rfl rfl rfl rfl rfl rfl (WD.go rfl ?_) | refine WO.append0 rfl rfl rfl rfl rfl rfl rfl rfl rfl (WO.go rfl ?_) | refine WO.appendF (by simp) (by exact lens_ok rfl) (by exact lens_ok rfl) (by first | decide | simp) (by first | decide | simp) rfl rfl rfl rfl rfl rfl rfl rfl rfl rfl (WO.go rfl ?_) | refine WO.appendI (by simp) (by exact lens_ok rfl) (by first | decide | simp) (by first | decide | simp) rfl rfl rfl rfl rfl rfl rfl rfl rfl rfl (WO.go rfl ?_) | refine W.loop ?_ | refine W.exit ?_)
    exact W.ret (.ret [_] rfl rfl)
  | .bi .im f g, c, hc, h => by
    simp only [Fo.size] at hc
    have hw : IntKind.i64.wrap ((c : Int) + 0) = (c : Int) := by rw [wrap_id (by omega) (by omega)]; omega
    have h1 := in07_W u hus hu f c (by omega) h.1
    have h2 := in07_W u hus hu g c (by omega) h.2
    rw [← hw] at h1 h2
    refine givesW (fn := Tryz.f154) Tryz.func154 rfl rfl rfl ?_
    repeat (first | refine W.condT rfl ?_ | refine W.condF rfl ?_ | refine W.seq ?_ | refine W.block ?_ | refine W.skip ?_ | refine WO.nil ?_ | refine WD.nil (WO.go rfl ?_) | refine W.region rfl (WO.go rfl ?_) | refine W.draw (id := 5) 8 [] rfl (by decide +kernel) rfl (WD.go rfl ?_) | refine W.draw (id := 10) 11 [] rfl (by decide +kernel) rfl (WD.go rfl ?_) | refine WO.gives (below07_W (.bi .im f g)) rfl rfl rfl rfl rfl rfl rfl rfl rfl (WO.go rfl ?_) | refine WD.gives (below07_W (.bi .im f g)) rfl rfl rfl rfl rfl rfl rfl rfl rfl (WD.go rfl ?_) | refine WO.gives h1 rfl rfl rfl rfl rfl rfl rfl rfl rfl (WO.go rfl ?_) | refine WD.gives h1 rfl rfl rfl rfl rfl rfl rfl rfl rfl (WD.go rfl ?_) | refine WO.gives h2 rfl rfl rfl rfl rfl rfl rfl rfl rfl (WO.go rfl ?_) | refine WD.gives h2 rfl rfl rfl rfl rfl rfl rfl rfl rfl (WD.go rfl ?_) | refine WO.append0 rfl rfl rfl rfl rfl rfl rfl rfl rfl (WO.go rfl ?_) | refine WO.appendF (by simp) (by exact lens_ok rfl) (by exact lens_ok rfl) (by first | decide | simp) (by first | decide | simp) rfl rfl rfl rfl rfl rfl rfl rfl rfl rfl (WO.go rfl ?_) | refine WO.appendI (by simp) (by exact lens_ok rfl) (by first | decide | simp) (by first | decide | simp) rfl rfl rfl rfl rfl rfl rfl rfl rfl rfl (WO.go rfl ?_) | refine W.loop ?_ | refine W.exit ?_)
    exact W.ret (.ret [_] rfl rfl)
  | .q .al s f, c, hc, h => by
    simp only [Fo.size] at hc
    have hw : IntKind.i64.wrap ((c : Int) + 1) = ((c + 1 : Nat) : Int) := by rw [wrap_id (by omega) (by omega)]; omega
    have h1 := in07_W u hus hu f (c + 1) (by omega) h
    rw [← hw] at h1
    refine givesW (fn := Tryz.f154) Tryz.func154 rfl rfl rfl ?_
    repeat (first | refine W.condT rfl ?_ | refine W.condF rfl ?_ | refine W.seq ?_ | refine W.block ?_ | refine W.skip ?_ | refine WO.nil ?_ | refine WD.nil (WO.go rfl ?_) | refine W.region rfl (WO.go rfl ?_) | refine W.draw (id := 5) 8 [] rfl (by decide +kernel) rfl (WD.go rfl ?_) | refine W.draw (id := 10) 11 [] rfl (by decide +kernel) rfl (WD.go rfl ?_) | refine WO.gives (below07_W (.q .al s f)) rfl rfl rfl rfl rfl rfl rfl rfl rfl (WO.go rfl ?_) | refine WD.gives (below07_W (.q .al s f)) rfl rfl rfl rfl rfl rfl rfl rfl rfl (WD.go rfl ?_) | refine WO.gives h1 rfl rfl rfl rfl rfl rfl rfl rfl rfl (WO.go rfl ?_) | refine WD.gives h1 rfl rfl rfl rfl rfl rfl rfl rfl rfl (WD.go rfl ?_) | refine WO.append0 rfl rfl rfl rfl rfl rfl rfl rfl rfl (WO.go rfl ?_) | refine WO.appendF (by simp) (by exact lens_ok rfl) (by exact lens_ok rfl) (by first | decide | simp) (by first | decide | simp) rfl rfl rfl rfl rfl rfl rfl rfl rfl rfl (WO.go rfl ?_) | refine WO.appendI (by simp) (by exact lens_ok rfl) (by first | decide | simp) (by first | decide | simp) rfl rfl rfl rfl rfl rfl rfl rfl rfl rfl (WO.go rfl ?_) | refine W.loop ?_ | refine W.exit ?_)
    exact W.ret (.ret [_] rfl rfl)
  | .q .ex s f, c, hc, h => by
    simp only [Fo.size] at hc
    have hw : IntKind.i64.wrap ((c : Int) + 1) = ((c + 1 : Nat) : Int) := by rw [wrap_id (by omega) (by omega)]; omega
    have h1 := in07_W u hus hu f (c + 1) (by omega) h
    rw [← hw] at h1
    refine givesW (fn := Tryz.f154) Tryz.func154 rfl rfl rfl ?_
    repeat (first | refine W.condT rfl ?_ | refine W.condF rfl ?_ | refine W.seq ?_ | refine W.block ?_ | refine W.skip ?_ | refine WO.nil ?_ | refine WD.nil (WO.go rfl ?_) | refine W.region rfl (WO.go rfl ?_) | refine W.draw (id := 5) 8 [] rfl (by decide +kernel) rfl (WD.go rfl ?_) | refine W.draw (id := 10) 11 [] rfl (by decide +kernel) rfl (WD.go rfl ?_) | refine WO.gives (below07_W (.q .ex s f)) rfl rfl rfl rfl rfl rfl rfl rfl rfl (WO.go rfl ?_) | refine WD.gives (below07_W (.q .ex s f)) rfl rfl rfl rfl rfl rfl rfl rfl rfl (WD.go rfl ?_) | refine WO.gives h1 rfl rfl rfl rfl rfl rfl rfl rfl rfl (WO.go rfl ?_) | refine WD.gives h1 rfl rfl rfl rfl rfl rfl rfl rfl rfl (WD.go rfl ?_) | refine WO.append0 rfl rfl rfl rfl rfl rfl rfl rfl rfl (WO.go rfl ?_) | refine WO.appendF (by simp) (by exact lens_ok rfl) (by exact lens_ok rfl) (by first | decide | simp) (by first | decide | simp) rfl rfl rfl rfl rfl rfl rfl rfl rfl rfl (WO.go rfl ?_) | refine WO.appendI (by simp) (by exact lens_ok rfl) (by first | decide | simp) (by first | decide | simp) rfl rfl rfl rfl rfl rfl rfl rfl rfl rfl (WO.go rfl ?_) | refine W.loop ?_ | refine W.exit ?_)
    exact W.ret (.ret [_] rfl rfl)
  | .q .au s f, c, hc, h => by
    simp only [Fo.size] at hc
    have hw : IntKind.i64.wrap ((c : Int) + 1) = ((c + 1 : Nat) : Int) := by rw [wrap_id (by omega) (by omega)]; omega
    have h1 := in07_W u hus hu f (c + 1) (by omega) h
    rw [← hw] at h1
    refine givesW (fn := Tryz.f154) Tryz.func154 rfl rfl rfl ?_
    repeat (first | refine W.condT rfl ?_ | refine W.condF rfl ?_ | refine W.seq ?_ | refine W.block ?_ | refine W.skip ?_ | refine WO.nil ?_ | refine WD.nil (WO.go rfl ?_) | refine W.region rfl (WO.go rfl ?_) | refine W.draw (id := 5) 8 [] rfl (by decide +kernel) rfl (WD.go rfl ?_) | refine W.draw (id := 10) 11 [] rfl (by decide +kernel) rfl (WD.go rfl ?_) | refine WO.gives (below07_W (.q .au s f)) rfl rfl rfl rfl rfl rfl rfl rfl rfl (WO.go rfl ?_) | refine WD.gives (below07_W (.q .au s f)) rfl rfl rfl rfl rfl rfl rfl rfl rfl (WD.go rfl ?_) | refine WO.gives h1 rfl rfl rfl rfl rfl rfl rfl rfl rfl (WO.go rfl ?_) | refine WD.gives h1 rfl rfl rfl rfl rfl rfl rfl rfl rfl (WD.go rfl ?_) | refine WO.append0 rfl rfl rfl rfl rfl rfl rfl rfl rfl (WO.go rfl ?_) | refine WO.appendF (by simp) (by exact lens_ok rfl) (by exact lens_ok rfl) (by first | decide | simp) (by first | decide | simp) rfl rfl rfl rfl rfl rfl rfl rfl rfl rfl (WO.go rfl ?_) | refine WO.appendI (by simp) (by exact lens_ok rfl) (by first | decide | simp) (by first | decide | simp) rfl rfl rfl rfl rfl rfl rfl rfl rfl rfl (WO.go rfl ?_) | refine W.loop ?_ | refine W.exit ?_)
    exact W.ret (.ret [_] rfl rfl)
  | .q .eu s f, c, hc, h => by
    simp only [Fo.size] at hc
    have hw : IntKind.i64.wrap ((c : Int) + 1) = ((c + 1 : Nat) : Int) := by rw [wrap_id (by omega) (by omega)]; omega
    have h1 := in07_W u hus hu f (c + 1) (by omega) h
    rw [← hw] at h1
    refine givesW (fn := Tryz.f154) Tryz.func154 rfl rfl rfl ?_
    repeat (first | refine W.condT rfl ?_ | refine W.condF rfl ?_ | refine W.seq ?_ | refine W.block ?_ | refine W.skip ?_ | refine WO.nil ?_ | refine WD.nil (WO.go rfl ?_) | refine W.region rfl (WO.go rfl ?_) | refine W.draw (id := 5) 8 [] rfl (by decide +kernel) rfl (WD.go rfl ?_) | refine W.draw (id := 10) 11 [] rfl (by decide +kernel) rfl (WD.go rfl ?_) | refine WO.gives (below07_W (.q .eu s f)) rfl rfl rfl rfl rfl rfl rfl rfl rfl (WO.go rfl ?_) | refine WD.gives (below07_W (.q .eu s f)) rfl rfl rfl rfl rfl rfl rfl rfl rfl (WD.go rfl ?_) | refine WO.gives h1 rfl rfl rfl rfl rfl rfl rfl rfl rfl (WO.go rfl ?_) | refine WD.gives h1 rfl rfl rfl rfl rfl rfl rfl rfl rfl (WD.go rfl ?_) | refine WO.append0 rfl rfl rfl rfl rfl rfl rfl rfl rfl (WO.go rfl ?_) | refine WO.appendF (by simp) (by exact lens_ok rfl) (by exact lens_ok rfl) (by first | decide | simp) (by first | decide | simp) rfl rfl rfl rfl rfl rfl rfl rfl rfl rfl (WO.go rfl ?_) | refine WO.appendI (by simp) (by exact lens_ok rfl) (by first | decide | simp) (by first | decide | simp) rfl rfl rfl rfl rfl rfl rfl rfl rfl rfl (WO.go rfl ?_) | refine W.loop ?_ | refine W.exit ?_)
    exact W.ret (.ret [_] rfl rfl)
def rPut (f : Fo) : AV := if f.size ≤ 4096 then .tup [.agg (cF f), .int .i64 0] else .tup [.agg zF, .int .i64 4]
theorem put07_W (f : Fo) (u : T) (hs : f.size ≤ 4096) (ht : f.tyLe 64) (hus : u.size ≤ 4096) (hut : u.tyLe 64) (hl : f.le 536870912) (hul : u.le 536870912) :
    Gives (AC X) 68 [.agg (cF f), .int .i64 0, .agg (cT u)] (rPut (Fo.put 0 u f)) := by
  have hu1 := T.size_pos u
  have hsz := Fo.size_put u f 0
  have htl := Fo.times_le f 0
  have e0 : IntKind.i64.wrap ((u.size : Int) - 1) = ((u.size - 1 : Nat) : Int) := by rw [wrap_id (by omega) (by omega)]; omega
  have hm : f.times 0 * (u.size - 1) ≤ 4096 * 4096 := Nat.mul_le_mul (by omega) (by omega)
  have hm2 : f.times 0 * u.size = f.times 0 * (u.size - 1) + f.times 0 := by
    conv => lhs; rw [show u.size = (u.size - 1) + 1 by omega, Nat.mul_add, Nat.mul_one]
  have e1 : IntKind.i64.wrap (((f.times 0 : Nat) : Int) * ((u.size - 1 : Nat) : Int)) = ((f.times 0 * (u.size - 1) : Nat) : Int) := by
    rw [← Int.natCast_mul]; exact wrap_id (by omega) (by omega)
  have e2 : IntKind.i64.wrap ((f.size : Int) + ((f.times 0 * (u.size - 1) : Nat) : Int)) = ((Fo.put 0 u f).size : Int) := by
    rw [wrap_id (by omega) (by omega)]; omega
  have hin := in07_W (X := X) u (by omega) (T.le_mono hul (by omega)) f 0 (by omega) (Fo.le_mono hl (by omega))
  have hcp := copyF_W (X := X) (Fo.put 0 u f)
  have htm := times07_W (X := X) f 0 (by omega) (by omega)
  refine givesW (fn := Tryz.f68) Tryz.func68 rfl rfl rfl ?_
  repeat (first | refine W.condT rfl ?_ | refine W.condF rfl ?_ | refine W.seq ?_ | refine W.block ?_ | refine W.skip ?_ | refine WO.nil ?_ | refine WD.nil (WO.go rfl ?_) | refine W.region rfl (WO.go rfl ?_) | refine W.draw (id := 11) 6 [] rfl (by decide +kernel) rfl (WD.go rfl ?_) | refine WO.gives (check07_W f hs ht) rfl rfl rfl rfl rfl rfl rfl rfl rfl (WO.go rfl ?_) | refine WD.gives (check07_W f hs ht) rfl rfl rfl rfl rfl rfl rfl rfl rfl (WD.go rfl ?_) | refine WO.gives (check02_W u hus hut) rfl rfl rfl rfl rfl rfl rfl rfl rfl (WO.go rfl ?_) | refine WD.gives (check02_W u hus hut) rfl rfl rfl rfl rfl rfl rfl rfl rfl (WD.go rfl ?_) | refine WO.gives (least07_W f hl) rfl rfl rfl rfl rfl rfl rfl rfl rfl (WO.go rfl ?_) | refine WD.gives (least07_W f hl) rfl rfl rfl rfl rfl rfl rfl rfl rfl (WD.go rfl ?_) | refine WO.gives (least03_W u hul) rfl rfl rfl rfl rfl rfl rfl rfl rfl (WO.go rfl ?_) | refine WD.gives (least03_W u hul) rfl rfl rfl rfl rfl rfl rfl rfl rfl (WD.go rfl ?_) | refine WO.gives (count07_W f (by omega)) rfl rfl rfl rfl rfl rfl rfl rfl rfl (WO.go rfl ?_) | refine WD.gives (count07_W f (by omega)) rfl rfl rfl rfl rfl rfl rfl rfl rfl (WD.go rfl ?_) | refine WO.gives htm rfl rfl rfl rfl rfl rfl rfl rfl rfl (WO.go rfl ?_) | refine WD.gives htm rfl rfl rfl rfl rfl rfl rfl rfl rfl (WD.go rfl ?_) | refine WO.gives (count02_W u (by omega)) rfl rfl rfl rfl rfl rfl rfl rfl rfl (WO.go rfl ?_) | refine WD.gives (count02_W u (by omega)) rfl rfl rfl rfl rfl rfl rfl rfl rfl (WD.go rfl ?_) | refine WO.append0 rfl rfl rfl rfl rfl rfl rfl rfl rfl (WO.go rfl ?_) | refine WO.appendF (by simp) (by exact lens_ok rfl) (by exact lens_ok rfl) (by first | decide | simp) (by first | decide | simp) rfl rfl rfl rfl rfl rfl rfl rfl rfl rfl (WO.go rfl ?_) | refine WO.appendI (by simp) (by exact lens_ok rfl) (by first | decide | simp) (by first | decide | simp) rfl rfl rfl rfl rfl rfl rfl rfl rfl rfl (WO.go rfl ?_) | refine W.loop ?_ | refine W.exit ?_)
  have key : decide (IntKind.i64.wrap ((f.size : Int) + IntKind.i64.wrap (((f.times 0 : Nat) : Int) * IntKind.i64.wrap ((u.size : Int) - 1))) > 4096) = decide (((Fo.put 0 u f).size : Int) > 4096) := by rw [e0, e1, e2]
  by_cases hp : (Fo.put 0 u f).size ≤ 4096
  · rw [decide_eq_false (show ¬ (((Fo.put 0 u f).size : Int) > 4096) by omega)] at key
    refine W.cond rfl (fun h => absurd (h.symm.trans key) (by decide)) (fun _ => ?_)
    repeat (first | refine W.condT rfl ?_ | refine W.condF rfl ?_ | refine W.seq ?_ | refine W.block ?_ | refine W.skip ?_ | refine WO.nil ?_ | refine WD.nil (WO.go rfl ?_) | refine W.region rfl (WO.go rfl ?_) | refine W.draw (id := 11) 6 [] rfl (by decide +kernel) rfl (WD.go rfl ?_) | refine WO.gives hin rfl rfl rfl rfl rfl rfl rfl rfl rfl (WO.go rfl ?_) | refine WD.gives hin rfl rfl rfl rfl rfl rfl rfl rfl rfl (WD.go rfl ?_) | refine WO.gives hcp rfl rfl rfl rfl rfl rfl rfl rfl rfl (WO.go rfl ?_) | refine WD.gives hcp rfl rfl rfl rfl rfl rfl rfl rfl rfl (WD.go rfl ?_) | refine WO.append0 rfl rfl rfl rfl rfl rfl rfl rfl rfl (WO.go rfl ?_) | refine WO.appendF (by simp) (by exact lens_ok rfl) (by exact lens_ok rfl) (by first | decide | simp) (by first | decide | simp) rfl rfl rfl rfl rfl rfl rfl rfl rfl rfl (WO.go rfl ?_) | refine WO.appendI (by simp) (by exact lens_ok rfl) (by first | decide | simp) (by first | decide | simp) rfl rfl rfl rfl rfl rfl rfl rfl rfl rfl (WO.go rfl ?_) | refine W.loop ?_ | refine W.exit ?_)
    exact W.ret (.ret [_, _] rfl (by simp only [rPut, if_pos hp]; rfl))
  · rw [decide_eq_true (show (((Fo.put 0 u f).size : Int) > 4096) by omega)] at key
    refine W.cond rfl (fun _ => ?_) (fun h => absurd (h.symm.trans key) (by decide))
    repeat (first | refine W.condT rfl ?_ | refine W.condF rfl ?_ | refine W.seq ?_ | refine W.block ?_ | refine W.skip ?_ | refine WO.nil ?_ | refine WD.nil (WO.go rfl ?_) | refine W.region rfl (WO.go rfl ?_) | refine W.draw (id := 11) 6 [] rfl (by decide +kernel) rfl (WD.go rfl ?_) | refine WO.append0 rfl rfl rfl rfl rfl rfl rfl rfl rfl (WO.go rfl ?_) | refine WO.appendF (by simp) (by exact lens_ok rfl) (by exact lens_ok rfl) (by first | decide | simp) (by first | decide | simp) rfl rfl rfl rfl rfl rfl rfl rfl rfl rfl (WO.go rfl ?_) | refine WO.appendI (by simp) (by exact lens_ok rfl) (by first | decide | simp) (by first | decide | simp) rfl rfl rfl rfl rfl rfl rfl rfl rfl rfl (WO.go rfl ?_) | refine W.loop ?_ | refine W.exit ?_)
    exact W.ret (.ret [_, _] rfl (by simp only [rPut, if_neg hp]; rfl))
theorem nat23_W : Gives (AC X) 131 [] (.agg (cY .nat)) := by
  refine givesW (fn := Tryz.f131) Tryz.func131 rfl rfl rfl ?_
  repeat (first | refine W.condT rfl ?_ | refine W.condF rfl ?_ | refine W.seq ?_ | refine W.block ?_ | refine W.skip ?_ | refine WO.nil ?_ | refine WD.nil (WO.go rfl ?_) | refine W.region rfl (WO.go rfl ?_) | refine WO.append0 rfl rfl rfl rfl rfl rfl rfl rfl rfl (WO.go rfl ?_) | refine WO.appendF (by simp) (by exact lens_ok rfl) (by exact lens_ok rfl) (by first | decide | simp) (by first | decide | simp) rfl rfl rfl rfl rfl rfl rfl rfl rfl rfl (WO.go rfl ?_) | refine WO.appendI (by simp) (by exact lens_ok rfl) (by first | decide | simp) (by first | decide | simp) rfl rfl rfl rfl rfl rfl rfl rfl rfl rfl (WO.go rfl ?_) | refine W.loop ?_ | refine W.exit ?_)
  exact W.ret (.ret [_] rfl rfl)
theorem natP_W : Gives (AC X) 57 [] (.agg (cY .nat)) := by
  refine givesW (fn := Tryz.f57) Tryz.func57 rfl rfl rfl ?_
  repeat (first | refine W.condT rfl ?_ | refine W.condF rfl ?_ | refine W.seq ?_ | refine W.block ?_ | refine W.skip ?_ | refine WO.nil ?_ | refine WD.nil (WO.go rfl ?_) | refine W.region rfl (WO.go rfl ?_) | refine WO.gives nat23_W rfl rfl rfl rfl rfl rfl rfl rfl rfl (WO.go rfl ?_) | refine WD.gives nat23_W rfl rfl rfl rfl rfl rfl rfl rfl rfl (WD.go rfl ?_) | refine WO.append0 rfl rfl rfl rfl rfl rfl rfl rfl rfl (WO.go rfl ?_) | refine WO.appendF (by simp) (by exact lens_ok rfl) (by exact lens_ok rfl) (by first | decide | simp) (by first | decide | simp) rfl rfl rfl rfl rfl rfl rfl rfl rfl rfl (WO.go rfl ?_) | refine WO.appendI (by simp) (by exact lens_ok rfl) (by first | decide | simp) (by first | decide | simp) rfl rfl rfl rfl rfl rfl rfl rfl rfl rfl (WO.go rfl ?_) | refine W.loop ?_ | refine W.exit ?_)
  exact W.ret (.ret [_] rfl rfl)
theorem sameZ_W : Gives (AC X) 25 [.agg [.int .i64 0, .sl .no []], .agg [.int .i64 0, .sl .no []]] (.bool true) := by
  refine givesW (fn := Tryz.f25) Tryz.func25 rfl rfl rfl ?_
  repeat (first | refine W.condT rfl ?_ | refine W.condF rfl ?_ | refine W.seq ?_ | refine W.block ?_ | refine W.skip ?_ | refine WO.nil ?_ | refine WD.nil (WO.go rfl ?_) | refine W.region rfl (WO.go rfl ?_) | refine W.draw (id := 6) 10 [] rfl (by decide +kernel) rfl (WD.go rfl ?_) | refine WO.append0 rfl rfl rfl rfl rfl rfl rfl rfl rfl (WO.go rfl ?_) | refine WO.appendF (by simp) (by exact lens_ok rfl) (by exact lens_ok rfl) (by first | decide | simp) (by first | decide | simp) rfl rfl rfl rfl rfl rfl rfl rfl rfl rfl (WO.go rfl ?_) | refine WO.appendI (by simp) (by exact lens_ok rfl) (by first | decide | simp) (by first | decide | simp) rfl rfl rfl rfl rfl rfl rfl rfl rfl rfl (WO.go rfl ?_) | refine W.loop ?_ | refine W.exit ?_)
  exact W.ret (.ret [_] rfl rfl)end Go.Proofs.YtjdlmhbkfammlabGreatDoor
namespace Go.Proofs.YtjdlmhbkfammlabGreatDoor
open Go Go.Sh
set_option linter.unusedVariables false
set_option linter.unusedSimpArgs false
set_option maxHeartbeats 4000000
variable {X : CRel}
/-! the reference of chapter 28 -/
theorem none28_W (t : Y) : Gives (AC X) 260 [.agg (cY t)] (.bool t.isUn) := by
  cases t <;>
  · refine givesW (fn := Tryz.f260) Tryz.func260 rfl rfl rfl ?_
    repeat (first | refine W.condT rfl ?_ | refine W.condF rfl ?_ | refine W.seq ?_ | refine W.block ?_ | refine W.skip ?_ | refine WO.nil ?_ | refine WD.nil (WO.go rfl ?_) | refine W.region rfl (WO.go rfl ?_) | refine WO.append0 rfl rfl rfl rfl rfl rfl rfl rfl rfl (WO.go rfl ?_) | refine WO.appendF (by simp) (by exact lens_ok rfl) (by exact lens_ok rfl) (by first | decide | simp) (by first | decide | simp) rfl rfl rfl rfl rfl rfl rfl rfl rfl rfl (WO.go rfl ?_) | refine WO.appendI (by simp) (by exact lens_ok rfl) (by first | decide | simp) (by first | decide | simp) rfl rfl rfl rfl rfl rfl rfl rfl rfl rfl (WO.go rfl ?_) | refine W.loop ?_ | refine W.exit ?_)
    exact W.ret (.ret [_] rfl rfl)
theorem pair23_W (a b : Y) : Gives (AC X) 262 [.agg (cY a), .agg (cY b)] (.agg (cY (.pair a b))) := by
  refine givesW (fn := Tryz.f262) Tryz.func262 rfl rfl rfl ?_
  repeat (first | refine W.condT rfl ?_ | refine W.condF rfl ?_ | refine W.seq ?_ | refine W.block ?_ | refine W.skip ?_ | refine WO.nil ?_ | refine WD.nil (WO.go rfl ?_) | refine W.region rfl (WO.go rfl ?_) | refine WO.append0 rfl rfl rfl rfl rfl rfl rfl rfl rfl (WO.go rfl ?_) | refine WO.appendF (by simp) (by exact lens_ok rfl) (by exact lens_ok rfl) (by first | decide | simp) (by first | decide | simp) rfl rfl rfl rfl rfl rfl rfl rfl rfl rfl (WO.go rfl ?_) | refine WO.appendI (by simp) (by exact lens_ok rfl) (by first | decide | simp) (by first | decide | simp) rfl rfl rfl rfl rfl rfl rfl rfl rfl rfl (WO.go rfl ?_) | refine W.loop ?_ | refine W.exit ?_)
  exact W.ret (.ret [_] rfl rfl)
theorem fun28_W (a b : Y) : Gives (AC X) 252 [.agg (cY a), .agg (cY b)] (.agg (cY (Y.fns a b))) := by
  have h1 := none28_W (X := X) a
  have h2 := none28_W (X := X) b
  unfold Y.fns
  cases e1 : a.isUn <;> rw [e1] at h1 <;> cases e2 : b.isUn <;> rw [e2] at h2 <;>
  · refine givesW (fn := Tryz.f252) Tryz.func252 rfl rfl rfl ?_
    repeat (first | refine W.condT rfl ?_ | refine W.condF rfl ?_ | refine W.seq ?_ | refine W.block ?_ | refine W.skip ?_ | refine WO.nil ?_ | refine WD.nil (WO.go rfl ?_) | refine W.region rfl (WO.go rfl ?_) | refine WO.gives h1 rfl rfl rfl rfl rfl rfl rfl rfl rfl (WO.go rfl ?_) | refine WD.gives h1 rfl rfl rfl rfl rfl rfl rfl rfl rfl (WD.go rfl ?_) | refine WO.gives h2 rfl rfl rfl rfl rfl rfl rfl rfl rfl (WO.go rfl ?_) | refine WD.gives h2 rfl rfl rfl rfl rfl rfl rfl rfl rfl (WD.go rfl ?_) | refine WO.gives unit23_W rfl rfl rfl rfl rfl rfl rfl rfl rfl (WO.go rfl ?_) | refine WD.gives unit23_W rfl rfl rfl rfl rfl rfl rfl rfl rfl (WD.go rfl ?_) | refine WO.gives (fun23_W a b) rfl rfl rfl rfl rfl rfl rfl rfl rfl (WO.go rfl ?_) | refine WD.gives (fun23_W a b) rfl rfl rfl rfl rfl rfl rfl rfl rfl (WD.go rfl ?_) | refine WO.append0 rfl rfl rfl rfl rfl rfl rfl rfl rfl (WO.go rfl ?_) | refine WO.appendF (by simp) (by exact lens_ok rfl) (by exact lens_ok rfl) (by first | decide | simp) (by first | decide | simp) rfl rfl rfl rfl rfl rfl rfl rfl rfl rfl (WO.go rfl ?_) | refine WO.appendI (by simp) (by exact lens_ok rfl) (by first | decide | simp) (by first | decide | simp) rfl rfl rfl rfl rfl rfl rfl rfl rfl rfl (WO.go rfl ?_) | refine W.loop ?_ | refine W.exit ?_)
    exact W.ret (.ret [_] rfl rfl)
theorem pair28_W (a b : Y) : Gives (AC X) 253 [.agg (cY a), .agg (cY b)] (.agg (cY (Y.prs a b))) := by
  have h1 := none28_W (X := X) a
  have h2 := none28_W (X := X) b
  unfold Y.prs
  cases e1 : a.isUn <;> rw [e1] at h1 <;> cases e2 : b.isUn <;> rw [e2] at h2 <;>
  · refine givesW (fn := Tryz.f253) Tryz.func253 rfl rfl rfl ?_
    repeat (first | refine W.condT rfl ?_ | refine W.condF rfl ?_ | refine W.seq ?_ | refine W.block ?_ | refine W.skip ?_ | refine WO.nil ?_ | refine WD.nil (WO.go rfl ?_) | refine W.region rfl (WO.go rfl ?_) | refine WO.gives h1 rfl rfl rfl rfl rfl rfl rfl rfl rfl (WO.go rfl ?_) | refine WD.gives h1 rfl rfl rfl rfl rfl rfl rfl rfl rfl (WD.go rfl ?_) | refine WO.gives h2 rfl rfl rfl rfl rfl rfl rfl rfl rfl (WO.go rfl ?_) | refine WD.gives h2 rfl rfl rfl rfl rfl rfl rfl rfl rfl (WD.go rfl ?_) | refine WO.gives unit23_W rfl rfl rfl rfl rfl rfl rfl rfl rfl (WO.go rfl ?_) | refine WD.gives unit23_W rfl rfl rfl rfl rfl rfl rfl rfl rfl (WD.go rfl ?_) | refine WO.gives (pair23_W a b) rfl rfl rfl rfl rfl rfl rfl rfl rfl (WO.go rfl ?_) | refine WD.gives (pair23_W a b) rfl rfl rfl rfl rfl rfl rfl rfl rfl (WD.go rfl ?_) | refine WO.append0 rfl rfl rfl rfl rfl rfl rfl rfl rfl (WO.go rfl ?_) | refine WO.appendF (by simp) (by exact lens_ok rfl) (by exact lens_ok rfl) (by first | decide | simp) (by first | decide | simp) rfl rfl rfl rfl rfl rfl rfl rfl rfl rfl (WO.go rfl ?_) | refine WO.appendI (by simp) (by exact lens_ok rfl) (by first | decide | simp) (by first | decide | simp) rfl rfl rfl rfl rfl rfl rfl rfl rfl rfl (WO.go rfl ?_) | refine W.loop ?_ | refine W.exit ?_)
    exact W.ret (.ret [_] rfl rfl)
theorem chk28_W (t : Y) (h : t.size ≤ 1000000) : Gives (AC X) 135 [.agg (cY t)] (.int .i64 (chk t)) := by
  unfold chk
  by_cases h2 : t.size ≤ 64
  · rw [if_pos h2]; exact checkY_W t h2
  · rw [if_neg h2]; exact checkYL_W t h h2
def rB3 : Option (Y × Y) → AV
  | some p => .tup [.agg (cY p.1), .agg (cY p.2), .int .i64 0]
  | none => .tup [.agg [.int .i64 0, .sl .no []], .agg [.int .i64 0, .sl .no []], .int .i64 4]
theorem both28_W : ∀ (f : Fo), f.pure → f.tyLe 64 → Gives (AC X) 235 [.agg (cF f)] (rB3 f.bothE)
  | .eq a b, _, _ => by
    refine givesW (fn := Tryz.f235) Tryz.func235 rfl rfl rfl ?_
    repeat (first | refine W.condT rfl ?_ | refine W.condF rfl ?_ | refine W.seq ?_ | refine W.block ?_ | refine W.skip ?_ | refine WO.nil ?_ | refine WD.nil (WO.go rfl ?_) | refine W.region rfl (WO.go rfl ?_) | refine W.draw (id := 16) 7 [] rfl (by decide +kernel) rfl (WD.go rfl ?_) | refine W.draw (id := 13) 5 [] rfl (by decide +kernel) rfl (WD.go rfl ?_) | refine W.draw (id := 14) 11 [] rfl (by decide +kernel) rfl (WD.go rfl ?_) | refine WO.gives unit23_W rfl rfl rfl rfl rfl rfl rfl rfl rfl (WO.go rfl ?_) | refine WD.gives unit23_W rfl rfl rfl rfl rfl rfl rfl rfl rfl (WD.go rfl ?_) | refine WO.append0 rfl rfl rfl rfl rfl rfl rfl rfl rfl (WO.go rfl ?_) | refine WO.appendF (by simp) (by exact lens_ok rfl) (by exact lens_ok rfl) (by first | decide | simp) (by first | decide | simp) rfl rfl rfl rfl rfl rfl rfl rfl rfl rfl (WO.go rfl ?_) | refine WO.appendI (by simp) (by exact lens_ok rfl) (by first | decide | simp) (by first | decide | simp) rfl rfl rfl rfl rfl rfl rfl rfl rfl rfl (WO.go rfl ?_) | refine W.loop ?_ | refine W.exit ?_)
    exact W.ret (.ret [_, _, _] rfl rfl)
  | .bi .an f g, hp, ht => by
    have hf := both28_W f hp.1 ht.1
    have hg := both28_W g hp.2 ht.2
    simp only [Fo.bothE]
    cases ef : f.bothE with
    | none =>
      rw [ef] at hf
      refine givesW (fn := Tryz.f235) Tryz.func235 rfl rfl rfl ?_
      repeat (first | refine W.condT rfl ?_ | refine W.condF rfl ?_ | refine W.seq ?_ | refine W.block ?_ | refine W.skip ?_ | refine WO.nil ?_ | refine WD.nil (WO.go rfl ?_) | refine W.region rfl (WO.go rfl ?_) | refine W.draw (id := 16) 7 [] rfl (by decide +kernel) rfl (WD.go rfl ?_) | refine W.draw (id := 13) 5 [] rfl (by decide +kernel) rfl (WD.go rfl ?_) | refine W.draw (id := 14) 11 [] rfl (by decide +kernel) rfl (WD.go rfl ?_) | refine WO.givesT hf rfl rfl rfl rfl rfl rfl rfl rfl rfl (WO.go rfl ?_) | refine WD.givesT hf rfl rfl rfl rfl rfl rfl rfl rfl rfl (WD.go rfl ?_) | refine WO.givesT hg rfl rfl rfl rfl rfl rfl rfl rfl rfl (WO.go rfl ?_) | refine WD.givesT hg rfl rfl rfl rfl rfl rfl rfl rfl rfl (WD.go rfl ?_) | refine WO.append0 rfl rfl rfl rfl rfl rfl rfl rfl rfl (WO.go rfl ?_) | refine WO.appendF (by simp) (by exact lens_ok rfl) (by exact lens_ok rfl) (by first | decide | simp) (by first | decide | simp) rfl rfl rfl rfl rfl rfl rfl rfl rfl rfl (WO.go rfl ?_) | refine WO.appendI (by simp) (by exact lens_ok rfl) (by first | decide | simp) (by first | decide | simp) rfl rfl rfl rfl rfl rfl rfl rfl rfl rfl (WO.go rfl ?_) | refine W.loop ?_ | refine W.exit ?_)
      exact W.ret (.ret [_, _, _] rfl rfl)
    | some p =>
      obtain ⟨a, b⟩ := p
      have hpl := Fo.bothE_le ef
      rw [ef] at hf
      cases eg : g.bothE with
      | none =>
        rw [eg] at hg
        refine givesW (fn := Tryz.f235) Tryz.func235 rfl rfl rfl ?_
        repeat (first | refine W.condT rfl ?_ | refine W.condF rfl ?_ | refine W.seq ?_ | refine W.block ?_ | refine W.skip ?_ | refine WO.nil ?_ | refine WD.nil (WO.go rfl ?_) | refine W.region rfl (WO.go rfl ?_) | refine W.draw (id := 16) 7 [] rfl (by decide +kernel) rfl (WD.go rfl ?_) | refine W.draw (id := 13) 5 [] rfl (by decide +kernel) rfl (WD.go rfl ?_) | refine W.draw (id := 14) 11 [] rfl (by decide +kernel) rfl (WD.go rfl ?_) | refine WO.givesT hf rfl rfl rfl rfl rfl rfl rfl rfl rfl (WO.go rfl ?_) | refine WD.givesT hf rfl rfl rfl rfl rfl rfl rfl rfl rfl (WD.go rfl ?_) | refine WO.givesT hg rfl rfl rfl rfl rfl rfl rfl rfl rfl (WO.go rfl ?_) | refine WD.givesT hg rfl rfl rfl rfl rfl rfl rfl rfl rfl (WD.go rfl ?_) | refine WO.append0 rfl rfl rfl rfl rfl rfl rfl rfl rfl (WO.go rfl ?_) | refine WO.appendF (by simp) (by exact lens_ok rfl) (by exact lens_ok rfl) (by first | decide | simp) (by first | decide | simp) rfl rfl rfl rfl rfl rfl rfl rfl rfl rfl (WO.go rfl ?_) | refine WO.appendI (by simp) (by exact lens_ok rfl) (by first | decide | simp) (by first | decide | simp) rfl rfl rfl rfl rfl rfl rfl rfl rfl rfl (WO.go rfl ?_) | refine W.loop ?_ | refine W.exit ?_)
        exact W.ret (.ret [_, _, _] rfl rfl)
      | some q =>
        obtain ⟨c, d⟩ := q
        have hql := Fo.bothE_le eg
        rw [eg] at hg
        simp only at hpl hql
        have l1 := Y.prs_le a c
        have l2 := Y.prs_le b d
        have h1 := chk28_W (X := X) (Y.prs a c) (by omega)
        have h2 := chk28_W (X := X) (Y.prs b d) (by omega)
        have c1 := pair28_W (X := X) a c
        have c2 := pair28_W (X := X) b d
        show Gives _ _ _ (rB3 (Fo.fit (Y.prs a c, Y.prs b d)))
        generalize Y.prs a c = r1 at *
        generalize Y.prs b d = r2 at *
        unfold chk at h1 h2
        unfold Fo.fit
        by_cases hA : r1.size ≤ 64
        · rw [if_pos hA] at h1
          by_cases hB : r2.size ≤ 64
          · rw [if_pos hB] at h2
            rw [if_pos ⟨hA, hB⟩]
            refine givesW (fn := Tryz.f235) Tryz.func235 rfl rfl rfl ?_
            repeat (first | refine W.condT rfl ?_ | refine W.condF rfl ?_ | refine W.seq ?_ | refine W.block ?_ | refine W.skip ?_ | refine WO.nil ?_ | refine WD.nil (WO.go rfl ?_) | refine W.region rfl (WO.go rfl ?_) | refine W.draw (id := 16) 7 [] rfl (by decide +kernel) rfl (WD.go rfl ?_) | refine W.draw (id := 13) 5 [] rfl (by decide +kernel) rfl (WD.go rfl ?_) | refine W.draw (id := 14) 11 [] rfl (by decide +kernel) rfl (WD.go rfl ?_) | refine WO.givesT hf rfl rfl rfl rfl rfl rfl rfl rfl rfl (WO.go rfl ?_) | refine WD.givesT hf rfl rfl rfl rfl rfl rfl rfl rfl rfl (WD.go rfl ?_) | refine WO.givesT hg rfl rfl rfl rfl rfl rfl rfl rfl rfl (WO.go rfl ?_) | refine WD.givesT hg rfl rfl rfl rfl rfl rfl rfl rfl rfl (WD.go rfl ?_) | refine WO.gives c1 rfl rfl rfl rfl rfl rfl rfl rfl rfl (WO.go rfl ?_) | refine WD.gives c1 rfl rfl rfl rfl rfl rfl rfl rfl rfl (WD.go rfl ?_) | refine WO.gives c2 rfl rfl rfl rfl rfl rfl rfl rfl rfl (WO.go rfl ?_) | refine WD.gives c2 rfl rfl rfl rfl rfl rfl rfl rfl rfl (WD.go rfl ?_) | refine WO.gives h1 rfl rfl rfl rfl rfl rfl rfl rfl rfl (WO.go rfl ?_) | refine WD.gives h1 rfl rfl rfl rfl rfl rfl rfl rfl rfl (WD.go rfl ?_) | refine WO.gives h2 rfl rfl rfl rfl rfl rfl rfl rfl rfl (WO.go rfl ?_) | refine WD.gives h2 rfl rfl rfl rfl rfl rfl rfl rfl rfl (WD.go rfl ?_) | refine WO.append0 rfl rfl rfl rfl rfl rfl rfl rfl rfl (WO.go rfl ?_) | refine WO.appendF (by simp) (by exact lens_ok rfl) (by exact lens_ok rfl) (by first | decide | simp) (by first | decide | simp) rfl rfl rfl rfl rfl rfl rfl rfl rfl rfl (WO.go rfl ?_) | refine WO.appendI (by simp) (by exact lens_ok rfl) (by first | decide | simp) (by first | decide | simp) rfl rfl rfl rfl rfl rfl rfl rfl rfl rfl (WO.go rfl ?_) | refine W.loop ?_ | refine W.exit ?_)
            refine W.any2 _ rfl (by decide +kernel) (by repeat (first | exact trivial | exact rfl | exact Fr.ext2 (fun i => c3 (fun h => by have := Nat.eq_of_beq_eq_true h; subst this; rfl) (fun h => by have := Nat.eq_of_beq_eq_true h; subst this; rfl) (fun h => by have := Nat.eq_of_beq_eq_true h; subst this; rfl) (fun h1 h2 h3 => by first | exact c3n h1 h2 h3 | exact c3n h1 h3 h2 | exact c3n h2 h1 h3 | exact c3n h2 h3 h1 | exact c3n h3 h1 h2 | exact c3n h3 h2 h1)) rfl rfl | refine And.intro ?_ ?_)) ?_
            repeat (first | refine W.condT rfl ?_ | refine W.condF rfl ?_ | refine W.seq ?_ | refine W.block ?_ | refine W.skip ?_ | refine WO.nil ?_ | refine WD.nil (WO.go rfl ?_) | refine W.region rfl (WO.go rfl ?_) | refine W.draw (id := 16) 7 [] rfl (by decide +kernel) rfl (WD.go rfl ?_) | refine W.draw (id := 13) 5 [] rfl (by decide +kernel) rfl (WD.go rfl ?_) | refine W.draw (id := 14) 11 [] rfl (by decide +kernel) rfl (WD.go rfl ?_) | refine WO.append0 rfl rfl rfl rfl rfl rfl rfl rfl rfl (WO.go rfl ?_) | refine WO.appendF (by simp) (by exact lens_ok rfl) (by exact lens_ok rfl) (by first | decide | simp) (by first | decide | simp) rfl rfl rfl rfl rfl rfl rfl rfl rfl rfl (WO.go rfl ?_) | refine WO.appendI (by simp) (by exact lens_ok rfl) (by first | decide | simp) (by first | decide | simp) rfl rfl rfl rfl rfl rfl rfl rfl rfl rfl (WO.go rfl ?_) | refine W.loop ?_ | refine W.exit ?_)
            exact W.ret (.ret [_, _, _] rfl rfl)
          · rw [if_neg hB] at h2
            rw [if_neg (fun h => hB h.2)]
            refine givesW (fn := Tryz.f235) Tryz.func235 rfl rfl rfl ?_
            repeat (first | refine W.condT rfl ?_ | refine W.condF rfl ?_ | refine W.seq ?_ | refine W.block ?_ | refine W.skip ?_ | refine WO.nil ?_ | refine WD.nil (WO.go rfl ?_) | refine W.region rfl (WO.go rfl ?_) | refine W.draw (id := 16) 7 [] rfl (by decide +kernel) rfl (WD.go rfl ?_) | refine W.draw (id := 13) 5 [] rfl (by decide +kernel) rfl (WD.go rfl ?_) | refine W.draw (id := 14) 11 [] rfl (by decide +kernel) rfl (WD.go rfl ?_) | refine WO.givesT hf rfl rfl rfl rfl rfl rfl rfl rfl rfl (WO.go rfl ?_) | refine WD.givesT hf rfl rfl rfl rfl rfl rfl rfl rfl rfl (WD.go rfl ?_) | refine WO.givesT hg rfl rfl rfl rfl rfl rfl rfl rfl rfl (WO.go rfl ?_) | refine WD.givesT hg rfl rfl rfl rfl rfl rfl rfl rfl rfl (WD.go rfl ?_) | refine WO.gives c1 rfl rfl rfl rfl rfl rfl rfl rfl rfl (WO.go rfl ?_) | refine WD.gives c1 rfl rfl rfl rfl rfl rfl rfl rfl rfl (WD.go rfl ?_) | refine WO.gives c2 rfl rfl rfl rfl rfl rfl rfl rfl rfl (WO.go rfl ?_) | refine WD.gives c2 rfl rfl rfl rfl rfl rfl rfl rfl rfl (WD.go rfl ?_) | refine WO.gives h1 rfl rfl rfl rfl rfl rfl rfl rfl rfl (WO.go rfl ?_) | refine WD.gives h1 rfl rfl rfl rfl rfl rfl rfl rfl rfl (WD.go rfl ?_) | refine WO.gives h2 rfl rfl rfl rfl rfl rfl rfl rfl rfl (WO.go rfl ?_) | refine WD.gives h2 rfl rfl rfl rfl rfl rfl rfl rfl rfl (WD.go rfl ?_) | refine WO.append0 rfl rfl rfl rfl rfl rfl rfl rfl rfl (WO.go rfl ?_) | refine WO.appendF (by simp) (by exact lens_ok rfl) (by exact lens_ok rfl) (by first | decide | simp) (by first | decide | simp) rfl rfl rfl rfl rfl rfl rfl rfl rfl rfl (WO.go rfl ?_) | refine WO.appendI (by simp) (by exact lens_ok rfl) (by first | decide | simp) (by first | decide | simp) rfl rfl rfl rfl rfl rfl rfl rfl rfl rfl (WO.go rfl ?_) | refine W.loop ?_ | refine W.exit ?_)
            exact W.ret (.ret [_, _, _] rfl rfl)
        · rw [if_neg hA] at h1
          rw [if_neg (fun h => hA h.1)]
          refine givesW (fn := Tryz.f235) Tryz.func235 rfl rfl rfl ?_
          repeat (first | refine W.condT rfl ?_ | refine W.condF rfl ?_ | refine W.seq ?_ | refine W.block ?_ | refine W.skip ?_ | refine WO.nil ?_ | refine WD.nil (WO.go rfl ?_) | refine W.region rfl (WO.go rfl ?_) | refine W.draw (id := 16) 7 [] rfl (by decide +kernel) rfl (WD.go rfl ?_) | refine W.draw (id := 13) 5 [] rfl (by decide +kernel) rfl (WD.go rfl ?_) | refine W.draw (id := 14) 11 [] rfl (by decide +kernel) rfl (WD.go rfl ?_) | refine WO.givesT hf rfl rfl rfl rfl rfl rfl rfl rfl rfl (WO.go rfl ?_) | refine WD.givesT hf rfl rfl rfl rfl rfl rfl rfl rfl rfl (WD.go rfl ?_) | refine WO.givesT hg rfl rfl rfl rfl rfl rfl rfl rfl rfl (WO.go rfl ?_) | refine WD.givesT hg rfl rfl rfl rfl rfl rfl rfl rfl rfl (WD.go rfl ?_) | refine WO.gives c1 rfl rfl rfl rfl rfl rfl rfl rfl rfl (WO.go rfl ?_) | refine WD.gives c1 rfl rfl rfl rfl rfl rfl rfl rfl rfl (WD.go rfl ?_) | refine WO.gives c2 rfl rfl rfl rfl rfl rfl rfl rfl rfl (WO.go rfl ?_) | refine WD.gives c2 rfl rfl rfl rfl rfl rfl rfl rfl rfl (WD.go rfl ?_) | refine WO.gives h1 rfl rfl rfl rfl rfl rfl rfl rfl rfl (WO.go rfl ?_) | refine WD.gives h1 rfl rfl rfl rfl rfl rfl rfl rfl rfl (WD.go rfl ?_) | refine WO.gives h2 rfl rfl rfl rfl rfl rfl rfl rfl rfl (WO.go rfl ?_) | refine WD.gives h2 rfl rfl rfl rfl rfl rfl rfl rfl rfl (WD.go rfl ?_) | refine WO.append0 rfl rfl rfl rfl rfl rfl rfl rfl rfl (WO.go rfl ?_) | refine WO.appendF (by simp) (by exact lens_ok rfl) (by exact lens_ok rfl) (by first | decide | simp) (by first | decide | simp) rfl rfl rfl rfl rfl rfl rfl rfl rfl rfl (WO.go rfl ?_) | refine WO.appendI (by simp) (by exact lens_ok rfl) (by first | decide | simp) (by first | decide | simp) rfl rfl rfl rfl rfl rfl rfl rfl rfl rfl (WO.go rfl ?_) | refine W.loop ?_ | refine W.exit ?_)
          exact W.ret (.ret [_, _, _] rfl rfl)
  | .bi .im f g, hp, ht => by
    have hf := both28_W f hp.1 ht.1
    have hg := both28_W g hp.2 ht.2
    simp only [Fo.bothE]
    cases ef : f.bothE with
    | none =>
      rw [ef] at hf
      refine givesW (fn := Tryz.f235) Tryz.func235 rfl rfl rfl ?_
      repeat (first | refine W.condT rfl ?_ | refine W.condF rfl ?_ | refine W.seq ?_ | refine W.block ?_ | refine W.skip ?_ | refine WO.nil ?_ | refine WD.nil (WO.go rfl ?_) | refine W.region rfl (WO.go rfl ?_) | refine W.draw (id := 16) 7 [] rfl (by decide +kernel) rfl (WD.go rfl ?_) | refine W.draw (id := 13) 5 [] rfl (by decide +kernel) rfl (WD.go rfl ?_) | refine W.draw (id := 14) 11 [] rfl (by decide +kernel) rfl (WD.go rfl ?_) | refine WO.givesT hf rfl rfl rfl rfl rfl rfl rfl rfl rfl (WO.go rfl ?_) | refine WD.givesT hf rfl rfl rfl rfl rfl rfl rfl rfl rfl (WD.go rfl ?_) | refine WO.givesT hg rfl rfl rfl rfl rfl rfl rfl rfl rfl (WO.go rfl ?_) | refine WD.givesT hg rfl rfl rfl rfl rfl rfl rfl rfl rfl (WD.go rfl ?_) | refine WO.append0 rfl rfl rfl rfl rfl rfl rfl rfl rfl (WO.go rfl ?_) | refine WO.appendF (by simp) (by exact lens_ok rfl) (by exact lens_ok rfl) (by first | decide | simp) (by first | decide | simp) rfl rfl rfl rfl rfl rfl rfl rfl rfl rfl (WO.go rfl ?_) | refine WO.appendI (by simp) (by exact lens_ok rfl) (by first | decide | simp) (by first | decide | simp) rfl rfl rfl rfl rfl rfl rfl rfl rfl rfl (WO.go rfl ?_) | refine W.loop ?_ | refine W.exit ?_)
      exact W.ret (.ret [_, _, _] rfl rfl)
    | some p =>
      obtain ⟨a, b⟩ := p
      have hpl := Fo.bothE_le ef
      rw [ef] at hf
      cases eg : g.bothE with
      | none =>
        rw [eg] at hg
        refine givesW (fn := Tryz.f235) Tryz.func235 rfl rfl rfl ?_
        repeat (first | refine W.condT rfl ?_ | refine W.condF rfl ?_ | refine W.seq ?_ | refine W.block ?_ | refine W.skip ?_ | refine WO.nil ?_ | refine WD.nil (WO.go rfl ?_) | refine W.region rfl (WO.go rfl ?_) | refine W.draw (id := 16) 7 [] rfl (by decide +kernel) rfl (WD.go rfl ?_) | refine W.draw (id := 13) 5 [] rfl (by decide +kernel) rfl (WD.go rfl ?_) | refine W.draw (id := 14) 11 [] rfl (by decide +kernel) rfl (WD.go rfl ?_) | refine WO.givesT hf rfl rfl rfl rfl rfl rfl rfl rfl rfl (WO.go rfl ?_) | refine WD.givesT hf rfl rfl rfl rfl rfl rfl rfl rfl rfl (WD.go rfl ?_) | refine WO.givesT hg rfl rfl rfl rfl rfl rfl rfl rfl rfl (WO.go rfl ?_) | refine WD.givesT hg rfl rfl rfl rfl rfl rfl rfl rfl rfl (WD.go rfl ?_) | refine WO.append0 rfl rfl rfl rfl rfl rfl rfl rfl rfl (WO.go rfl ?_) | refine WO.appendF (by simp) (by exact lens_ok rfl) (by exact lens_ok rfl) (by first | decide | simp) (by first | decide | simp) rfl rfl rfl rfl rfl rfl rfl rfl rfl rfl (WO.go rfl ?_) | refine WO.appendI (by simp) (by exact lens_ok rfl) (by first | decide | simp) (by first | decide | simp) rfl rfl rfl rfl rfl rfl rfl rfl rfl rfl (WO.go rfl ?_) | refine W.loop ?_ | refine W.exit ?_)
        exact W.ret (.ret [_, _, _] rfl rfl)
      | some q =>
        obtain ⟨c, d⟩ := q
        have hql := Fo.bothE_le eg
        rw [eg] at hg
        simp only at hpl hql
        have l1 := Y.fns_le a c
        have l2 := Y.fns_le d b
        have c1 := fun28_W (X := X) a c
        have c2 := fun28_W (X := X) d b
        show Gives _ _ _ (rB3 (Fo.fit (Y.prs (Y.fns a c) (Y.fns a (Y.fns d b)), Y.prs a d)))
        generalize Y.fns a c = s1 at *
        generalize Y.fns d b = s2 at *
        have l3 := Y.fns_le a s2
        have c3' := fun28_W (X := X) a s2
        generalize Y.fns a s2 = s3 at *
        have l4 := Y.prs_le s1 s3
        have l5 := Y.prs_le a d
        have c4 := pair28_W (X := X) s1 s3
        have c5 := pair28_W (X := X) a d
        have h1 := chk28_W (X := X) (Y.prs s1 s3) (by omega)
        have h2 := chk28_W (X := X) (Y.prs a d) (by omega)
        generalize Y.prs s1 s3 = r1 at *
        generalize Y.prs a d = r2 at *
        unfold chk at h1 h2
        unfold Fo.fit
        by_cases hA : r1.size ≤ 64
        · rw [if_pos hA] at h1
          by_cases hB : r2.size ≤ 64
          · rw [if_pos hB] at h2
            rw [if_pos ⟨hA, hB⟩]
            refine givesW (fn := Tryz.f235) Tryz.func235 rfl rfl rfl ?_
            repeat (first | refine W.condT rfl ?_ | refine W.condF rfl ?_ | refine W.seq ?_ | refine W.block ?_ | refine W.skip ?_ | refine WO.nil ?_ | refine WD.nil (WO.go rfl ?_) | refine W.region rfl (WO.go rfl ?_) | refine W.draw (id := 16) 7 [] rfl (by decide +kernel) rfl (WD.go rfl ?_) | refine W.draw (id := 13) 5 [] rfl (by decide +kernel) rfl (WD.go rfl ?_) | refine W.draw (id := 14) 11 [] rfl (by decide +kernel) rfl (WD.go rfl ?_) | refine WO.givesT hf rfl rfl rfl rfl rfl rfl rfl rfl rfl (WO.go rfl ?_) | refine WD.givesT hf rfl rfl rfl rfl rfl rfl rfl rfl rfl (WD.go rfl ?_) | refine WO.givesT hg rfl rfl rfl rfl rfl rfl rfl rfl rfl (WO.go rfl ?_) | refine WD.givesT hg rfl rfl rfl rfl rfl rfl rfl rfl rfl (WD.go rfl ?_) | refine WO.gives c1 rfl rfl rfl rfl rfl rfl rfl rfl rfl (WO.go rfl ?_) | refine WD.gives c1 rfl rfl rfl rfl rfl rfl rfl rfl rfl (WD.go rfl ?_) | refine WO.gives c2 rfl rfl rfl rfl rfl rfl rfl rfl rfl (WO.go rfl ?_) | refine WD.gives c2 rfl rfl rfl rfl rfl rfl rfl rfl rfl (WD.go rfl ?_) | refine WO.gives c3' rfl rfl rfl rfl rfl rfl rfl rfl rfl (WO.go rfl ?_) | refine WD.gives c3' rfl rfl rfl rfl rfl rfl rfl rfl rfl (WD.go rfl ?_) | refine WO.gives c4 rfl rfl rfl rfl rfl rfl rfl rfl rfl (WO.go rfl ?_) | refine WD.gives c4 rfl rfl rfl rfl rfl rfl rfl rfl rfl (WD.go rfl ?_) | refine WO.gives c5 rfl rfl rfl rfl rfl rfl rfl rfl rfl (WO.go rfl ?_) | refine WD.gives c5 rfl rfl rfl rfl rfl rfl rfl rfl rfl (WD.go rfl ?_) | refine WO.gives h1 rfl rfl rfl rfl rfl rfl rfl rfl rfl (WO.go rfl ?_) | refine WD.gives h1 rfl rfl rfl rfl rfl rfl rfl rfl rfl (WD.go rfl ?_) | refine WO.gives h2 rfl rfl rfl rfl rfl rfl rfl rfl rfl (WO.go rfl ?_) | refine WD.gives h2 rfl rfl rfl rfl rfl rfl rfl rfl rfl (WD.go rfl ?_) | refine WO.append0 rfl rfl rfl rfl rfl rfl rfl rfl rfl (WO.go rfl ?_) | refine WO.appendF (by simp) (by exact lens_ok rfl) (by exact lens_ok rfl) (by first | decide | simp) (by first | decide | simp) rfl rfl rfl rfl rfl rfl rfl rfl rfl rfl (WO.go rfl ?_) | refine WO.appendI (by simp) (by exact lens_ok rfl) (by first | decide | simp) (by first | decide | simp) rfl rfl rfl rfl rfl rfl rfl rfl rfl rfl (WO.go rfl ?_) | refine W.loop ?_ | refine W.exit ?_)
            refine W.any2 _ rfl (by decide +kernel) (by repeat (first | exact trivial | exact rfl | exact Fr.ext2 (fun i => c3 (fun h => by have := Nat.eq_of_beq_eq_true h; subst this; rfl) (fun h => by have := Nat.eq_of_beq_eq_true h; subst this; rfl) (fun h => by have := Nat.eq_of_beq_eq_true h; subst this; rfl) (fun h1 h2 h3 => by first | exact c3n h1 h2 h3 | exact c3n h1 h3 h2 | exact c3n h2 h1 h3 | exact c3n h2 h3 h1 | exact c3n h3 h1 h2 | exact c3n h3 h2 h1)) rfl rfl | refine And.intro ?_ ?_)) ?_
            repeat (first | refine W.condT rfl ?_ | refine W.condF rfl ?_ | refine W.seq ?_ | refine W.block ?_ | refine W.skip ?_ | refine WO.nil ?_ | refine WD.nil (WO.go rfl ?_) | refine W.region rfl (WO.go rfl ?_) | refine W.draw (id := 16) 7 [] rfl (by decide +kernel) rfl (WD.go rfl ?_) | refine W.draw (id := 13) 5 [] rfl (by decide +kernel) rfl (WD.go rfl ?_) | refine W.draw (id := 14) 11 [] rfl (by decide +kernel) rfl (WD.go rfl ?_) | refine WO.append0 rfl rfl rfl rfl rfl rfl rfl rfl rfl (WO.go rfl ?_) | refine WO.appendF (by simp) (by exact lens_ok rfl) (by exact lens_ok rfl) (by first | decide | simp) (by first | decide | simp) rfl rfl rfl rfl rfl rfl rfl rfl rfl rfl (WO.go rfl ?_) | refine WO.appendI (by simp) (by exact lens_ok rfl) (by first | decide | simp) (by first | decide | simp) rfl rfl rfl rfl rfl rfl rfl rfl rfl rfl (WO.go rfl ?_) | refine W.loop ?_ | refine W.exit ?_)
            exact W.ret (.ret [_, _, _] rfl rfl)
          · rw [if_neg hB] at h2
            rw [if_neg (fun h => hB h.2)]
            refine givesW (fn := Tryz.f235) Tryz.func235 rfl rfl rfl ?_
            repeat (first | refine W.condT rfl ?_ | refine W.condF rfl ?_ | refine W.seq ?_ | refine W.block ?_ | refine W.skip ?_ | refine WO.nil ?_ | refine WD.nil (WO.go rfl ?_) | refine W.region rfl (WO.go rfl ?_) | refine W.draw (id := 16) 7 [] rfl (by decide +kernel) rfl (WD.go rfl ?_) | refine W.draw (id := 13) 5 [] rfl (by decide +kernel) rfl (WD.go rfl ?_) | refine W.draw (id := 14) 11 [] rfl (by decide +kernel) rfl (WD.go rfl ?_) | refine WO.givesT hf rfl rfl rfl rfl rfl rfl rfl rfl rfl (WO.go rfl ?_) | refine WD.givesT hf rfl rfl rfl rfl rfl rfl rfl rfl rfl (WD.go rfl ?_) | refine WO.givesT hg rfl rfl rfl rfl rfl rfl rfl rfl rfl (WO.go rfl ?_) | refine WD.givesT hg rfl rfl rfl rfl rfl rfl rfl rfl rfl (WD.go rfl ?_) | refine WO.gives c1 rfl rfl rfl rfl rfl rfl rfl rfl rfl (WO.go rfl ?_) | refine WD.gives c1 rfl rfl rfl rfl rfl rfl rfl rfl rfl (WD.go rfl ?_) | refine WO.gives c2 rfl rfl rfl rfl rfl rfl rfl rfl rfl (WO.go rfl ?_) | refine WD.gives c2 rfl rfl rfl rfl rfl rfl rfl rfl rfl (WD.go rfl ?_) | refine WO.gives c3' rfl rfl rfl rfl rfl rfl rfl rfl rfl (WO.go rfl ?_) | refine WD.gives c3' rfl rfl rfl rfl rfl rfl rfl rfl rfl (WD.go rfl ?_) | refine WO.gives c4 rfl rfl rfl rfl rfl rfl rfl rfl rfl (WO.go rfl ?_) | refine WD.gives c4 rfl rfl rfl rfl rfl rfl rfl rfl rfl (WD.go rfl ?_) | refine WO.gives c5 rfl rfl rfl rfl rfl rfl rfl rfl rfl (WO.go rfl ?_) | refine WD.gives c5 rfl rfl rfl rfl rfl rfl rfl rfl rfl (WD.go rfl ?_) | refine WO.gives h1 rfl rfl rfl rfl rfl rfl rfl rfl rfl (WO.go rfl ?_) | refine WD.gives h1 rfl rfl rfl rfl rfl rfl rfl rfl rfl (WD.go rfl ?_) | refine WO.gives h2 rfl rfl rfl rfl rfl rfl rfl rfl rfl (WO.go rfl ?_) | refine WD.gives h2 rfl rfl rfl rfl rfl rfl rfl rfl rfl (WD.go rfl ?_) | refine WO.append0 rfl rfl rfl rfl rfl rfl rfl rfl rfl (WO.go rfl ?_) | refine WO.appendF (by simp) (by exact lens_ok rfl) (by exact lens_ok rfl) (by first | decide | simp) (by first | decide | simp) rfl rfl rfl rfl rfl rfl rfl rfl rfl rfl (WO.go rfl ?_) | refine WO.appendI (by simp) (by exact lens_ok rfl) (by first | decide | simp) (by first | decide | simp) rfl rfl rfl rfl rfl rfl rfl rfl rfl rfl (WO.go rfl ?_) | refine W.loop ?_ | refine W.exit ?_)
            exact W.ret (.ret [_, _, _] rfl rfl)
        · rw [if_neg hA] at h1
          rw [if_neg (fun h => hA h.1)]
          refine givesW (fn := Tryz.f235) Tryz.func235 rfl rfl rfl ?_
          repeat (first | refine W.condT rfl ?_ | refine W.condF rfl ?_ | refine W.seq ?_ | refine W.block ?_ | refine W.skip ?_ | refine WO.nil ?_ | refine WD.nil (WO.go rfl ?_) | refine W.region rfl (WO.go rfl ?_) | refine W.draw (id := 16) 7 [] rfl (by decide +kernel) rfl (WD.go rfl ?_) | refine W.draw (id := 13) 5 [] rfl (by decide +kernel) rfl (WD.go rfl ?_) | refine W.draw (id := 14) 11 [] rfl (by decide +kernel) rfl (WD.go rfl ?_) | refine WO.givesT hf rfl rfl rfl rfl rfl rfl rfl rfl rfl (WO.go rfl ?_) | refine WD.givesT hf rfl rfl rfl rfl rfl rfl rfl rfl rfl (WD.go rfl ?_) | refine WO.givesT hg rfl rfl rfl rfl rfl rfl rfl rfl rfl (WO.go rfl ?_) | refine WD.givesT hg rfl rfl rfl rfl rfl rfl rfl rfl rfl (WD.go rfl ?_) | refine WO.gives c1 rfl rfl rfl rfl rfl rfl rfl rfl rfl (WO.go rfl ?_) | refine WD.gives c1 rfl rfl rfl rfl rfl rfl rfl rfl rfl (WD.go rfl ?_) | refine WO.gives c2 rfl rfl rfl rfl rfl rfl rfl rfl rfl (WO.go rfl ?_) | refine WD.gives c2 rfl rfl rfl rfl rfl rfl rfl rfl rfl (WD.go rfl ?_) | refine WO.gives c3' rfl rfl rfl rfl rfl rfl rfl rfl rfl (WO.go rfl ?_) | refine WD.gives c3' rfl rfl rfl rfl rfl rfl rfl rfl rfl (WD.go rfl ?_) | refine WO.gives c4 rfl rfl rfl rfl rfl rfl rfl rfl rfl (WO.go rfl ?_) | refine WD.gives c4 rfl rfl rfl rfl rfl rfl rfl rfl rfl (WD.go rfl ?_) | refine WO.gives c5 rfl rfl rfl rfl rfl rfl rfl rfl rfl (WO.go rfl ?_) | refine WD.gives c5 rfl rfl rfl rfl rfl rfl rfl rfl rfl (WD.go rfl ?_) | refine WO.gives h1 rfl rfl rfl rfl rfl rfl rfl rfl rfl (WO.go rfl ?_) | refine WD.gives h1 rfl rfl rfl rfl rfl rfl rfl rfl rfl (WD.go rfl ?_) | refine WO.gives h2 rfl rfl rfl rfl rfl rfl rfl rfl rfl (WO.go rfl ?_) | refine WD.gives h2 rfl rfl rfl rfl rfl rfl rfl rfl rfl (WD.go rfl ?_) | refine WO.append0 rfl rfl rfl rfl rfl rfl rfl rfl rfl (WO.go rfl ?_) | refine WO.appendF (by simp) (by exact lens_ok rfl) (by exact lens_ok rfl) (by first | decide | simp) (by first | decide | simp) rfl rfl rfl rfl rfl rfl rfl rfl rfl rfl (WO.go rfl ?_) | refine WO.appendI (by simp) (by exact lens_ok rfl) (by first | decide | simp) (by first | decide | simp) rfl rfl rfl rfl rfl rfl rfl rfl rfl rfl (WO.go rfl ?_) | refine W.loop ?_ | refine W.exit ?_)
          exact W.ret (.ret [_, _, _] rfl rfl)
  | .q .al s f, hp, ht => by
    have hf := both28_W f hp.2 ht.2
    have hs1 := ht.1
    simp only [Fo.bothE]
    cases ef : f.bothE with
    | none =>
      rw [ef] at hf
      refine givesW (fn := Tryz.f235) Tryz.func235 rfl rfl rfl ?_
      repeat (first | refine W.condT rfl ?_ | refine W.condF rfl ?_ | refine W.seq ?_ | refine W.block ?_ | refine W.skip ?_ | refine WO.nil ?_ | refine WD.nil (WO.go rfl ?_) | refine W.region rfl (WO.go rfl ?_) | refine W.draw (id := 16) 7 [] rfl (by decide +kernel) rfl (WD.go rfl ?_) | refine W.draw (id := 13) 5 [] rfl (by decide +kernel) rfl (WD.go rfl ?_) | refine W.draw (id := 14) 11 [] rfl (by decide +kernel) rfl (WD.go rfl ?_) | refine WO.givesT hf rfl rfl rfl rfl rfl rfl rfl rfl rfl (WO.go rfl ?_) | refine WD.givesT hf rfl rfl rfl rfl rfl rfl rfl rfl rfl (WD.go rfl ?_) | refine WO.append0 rfl rfl rfl rfl rfl rfl rfl rfl rfl (WO.go rfl ?_) | refine WO.appendF (by simp) (by exact lens_ok rfl) (by exact lens_ok rfl) (by first | decide | simp) (by first | decide | simp) rfl rfl rfl rfl rfl rfl rfl rfl rfl rfl (WO.go rfl ?_) | refine WO.appendI (by simp) (by exact lens_ok rfl) (by first | decide | simp) (by first | decide | simp) rfl rfl rfl rfl rfl rfl rfl rfl rfl rfl (WO.go rfl ?_) | refine W.loop ?_ | refine W.exit ?_)
      exact W.ret (.ret [_, _, _] rfl rfl)
    | some p =>
      obtain ⟨a, b⟩ := p
      have hpl := Fo.bothE_le ef
      rw [ef] at hf
      simp only at hpl
      have l1 := Y.fns_le s a
      have l2 := Y.prs_le s b
      have h1 := chk28_W (X := X) (Y.fns s a) (by omega)
      have h2 := chk28_W (X := X) (Y.prs s b) (by omega)
      have c1 := fun28_W (X := X) s a
      have c2 := pair28_W (X := X) s b
      show Gives _ _ _ (rB3 (Fo.fit (Y.fns s a, Y.prs s b)))
      generalize Y.fns s a = r1 at *
      generalize Y.prs s b = r2 at *
      unfold chk at h1 h2
      unfold Fo.fit
      by_cases hA : r1.size ≤ 64
      · rw [if_pos hA] at h1
        by_cases hB : r2.size ≤ 64
        · rw [if_pos hB] at h2
          rw [if_pos ⟨hA, hB⟩]
          refine givesW (fn := Tryz.f235) Tryz.func235 rfl rfl rfl ?_
          repeat (first | refine W.condT rfl ?_ | refine W.condF rfl ?_ | refine W.seq ?_ | refine W.block ?_ | refine W.skip ?_ | refine WO.nil ?_ | refine WD.nil (WO.go rfl ?_) | refine W.region rfl (WO.go rfl ?_) | refine W.draw (id := 16) 7 [] rfl (by decide +kernel) rfl (WD.go rfl ?_) | refine W.draw (id := 13) 5 [] rfl (by decide +kernel) rfl (WD.go rfl ?_) | refine W.draw (id := 14) 11 [] rfl (by decide +kernel) rfl (WD.go rfl ?_) | refine WO.givesT hf rfl rfl rfl rfl rfl rfl rfl rfl rfl (WO.go rfl ?_) | refine WD.givesT hf rfl rfl rfl rfl rfl rfl rfl rfl rfl (WD.go rfl ?_) | refine WO.gives c1 rfl rfl rfl rfl rfl rfl rfl rfl rfl (WO.go rfl ?_) | refine WD.gives c1 rfl rfl rfl rfl rfl rfl rfl rfl rfl (WD.go rfl ?_) | refine WO.gives c2 rfl rfl rfl rfl rfl rfl rfl rfl rfl (WO.go rfl ?_) | refine WD.gives c2 rfl rfl rfl rfl rfl rfl rfl rfl rfl (WD.go rfl ?_) | refine WO.gives h1 rfl rfl rfl rfl rfl rfl rfl rfl rfl (WO.go rfl ?_) | refine WD.gives h1 rfl rfl rfl rfl rfl rfl rfl rfl rfl (WD.go rfl ?_) | refine WO.gives h2 rfl rfl rfl rfl rfl rfl rfl rfl rfl (WO.go rfl ?_) | refine WD.gives h2 rfl rfl rfl rfl rfl rfl rfl rfl rfl (WD.go rfl ?_) | refine WO.append0 rfl rfl rfl rfl rfl rfl rfl rfl rfl (WO.go rfl ?_) | refine WO.appendF (by simp) (by exact lens_ok rfl) (by exact lens_ok rfl) (by first | decide | simp) (by first | decide | simp) rfl rfl rfl rfl rfl rfl rfl rfl rfl rfl (WO.go rfl ?_) | refine WO.appendI (by simp) (by exact lens_ok rfl) (by first | decide | simp) (by first | decide | simp) rfl rfl rfl rfl rfl rfl rfl rfl rfl rfl (WO.go rfl ?_) | refine W.loop ?_ | refine W.exit ?_)
          refine W.any2 _ rfl (by decide +kernel) (by repeat (first | exact trivial | exact rfl | exact Fr.ext2 (fun i => c3 (fun h => by have := Nat.eq_of_beq_eq_true h; subst this; rfl) (fun h => by have := Nat.eq_of_beq_eq_true h; subst this; rfl) (fun h => by have := Nat.eq_of_beq_eq_true h; subst this; rfl) (fun h1 h2 h3 => by first | exact c3n h1 h2 h3 | exact c3n h1 h3 h2 | exact c3n h2 h1 h3 | exact c3n h2 h3 h1 | exact c3n h3 h1 h2 | exact c3n h3 h2 h1)) rfl rfl | refine And.intro ?_ ?_)) ?_
          repeat (first | refine W.condT rfl ?_ | refine W.condF rfl ?_ | refine W.seq ?_ | refine W.block ?_ | refine W.skip ?_ | refine WO.nil ?_ | refine WD.nil (WO.go rfl ?_) | refine W.region rfl (WO.go rfl ?_) | refine W.draw (id := 16) 7 [] rfl (by decide +kernel) rfl (WD.go rfl ?_) | refine W.draw (id := 13) 5 [] rfl (by decide +kernel) rfl (WD.go rfl ?_) | refine W.draw (id := 14) 11 [] rfl (by decide +kernel) rfl (WD.go rfl ?_) | refine WO.append0 rfl rfl rfl rfl rfl rfl rfl rfl rfl (WO.go rfl ?_) | refine WO.appendF (by simp) (by exact lens_ok rfl) (by exact lens_ok rfl) (by first | decide | simp) (by first | decide | simp) rfl rfl rfl rfl rfl rfl rfl rfl rfl rfl (WO.go rfl ?_) | refine WO.appendI (by simp) (by exact lens_ok rfl) (by first | decide | simp) (by first | decide | simp) rfl rfl rfl rfl rfl rfl rfl rfl rfl rfl (WO.go rfl ?_) | refine W.loop ?_ | refine W.exit ?_)
          exact W.ret (.ret [_, _, _] rfl rfl)
        · rw [if_neg hB] at h2
          rw [if_neg (fun h => hB h.2)]
          refine givesW (fn := Tryz.f235) Tryz.func235 rfl rfl rfl ?_
          repeat (first | refine W.condT rfl ?_ | refine W.condF rfl ?_ | refine W.seq ?_ | refine W.block ?_ | refine W.skip ?_ | refine WO.nil ?_ | refine WD.nil (WO.go rfl ?_) | refine W.region rfl (WO.go rfl ?_) | refine W.draw (id := 16) 7 [] rfl (by decide +kernel) rfl (WD.go rfl ?_) | refine W.draw (id := 13) 5 [] rfl (by decide +kernel) rfl (WD.go rfl ?_) | refine W.draw (id := 14) 11 [] rfl (by decide +kernel) rfl (WD.go rfl ?_) | refine WO.givesT hf rfl rfl rfl rfl rfl rfl rfl rfl rfl (WO.go rfl ?_) | refine WD.givesT hf rfl rfl rfl rfl rfl rfl rfl rfl rfl (WD.go rfl ?_) | refine WO.gives c1 rfl rfl rfl rfl rfl rfl rfl rfl rfl (WO.go rfl ?_) | refine WD.gives c1 rfl rfl rfl rfl rfl rfl rfl rfl rfl (WD.go rfl ?_) | refine WO.gives c2 rfl rfl rfl rfl rfl rfl rfl rfl rfl (WO.go rfl ?_) | refine WD.gives c2 rfl rfl rfl rfl rfl rfl rfl rfl rfl (WD.go rfl ?_) | refine WO.gives h1 rfl rfl rfl rfl rfl rfl rfl rfl rfl (WO.go rfl ?_) | refine WD.gives h1 rfl rfl rfl rfl rfl rfl rfl rfl rfl (WD.go rfl ?_) | refine WO.gives h2 rfl rfl rfl rfl rfl rfl rfl rfl rfl (WO.go rfl ?_) | refine WD.gives h2 rfl rfl rfl rfl rfl rfl rfl rfl rfl (WD.go rfl ?_) | refine WO.append0 rfl rfl rfl rfl rfl rfl rfl rfl rfl (WO.go rfl ?_) | refine WO.appendF (by simp) (by exact lens_ok rfl) (by exact lens_ok rfl) (by first | decide | simp) (by first | decide | simp) rfl rfl rfl rfl rfl rfl rfl rfl rfl rfl (WO.go rfl ?_) | refine WO.appendI (by simp) (by exact lens_ok rfl) (by first | decide | simp) (by first | decide | simp) rfl rfl rfl rfl rfl rfl rfl rfl rfl rfl (WO.go rfl ?_) | refine W.loop ?_ | refine W.exit ?_)
          exact W.ret (.ret [_, _, _] rfl rfl)
      · rw [if_neg hA] at h1
        rw [if_neg (fun h => hA h.1)]
        refine givesW (fn := Tryz.f235) Tryz.func235 rfl rfl rfl ?_
        repeat (first | refine W.condT rfl ?_ | refine W.condF rfl ?_ | refine W.seq ?_ | refine W.block ?_ | refine W.skip ?_ | refine WO.nil ?_ | refine WD.nil (WO.go rfl ?_) | refine W.region rfl (WO.go rfl ?_) | refine W.draw (id := 16) 7 [] rfl (by decide +kernel) rfl (WD.go rfl ?_) | refine W.draw (id := 13) 5 [] rfl (by decide +kernel) rfl (WD.go rfl ?_) | refine W.draw (id := 14) 11 [] rfl (by decide +kernel) rfl (WD.go rfl ?_) | refine WO.givesT hf rfl rfl rfl rfl rfl rfl rfl rfl rfl (WO.go rfl ?_) | refine WD.givesT hf rfl rfl rfl rfl rfl rfl rfl rfl rfl (WD.go rfl ?_) | refine WO.gives c1 rfl rfl rfl rfl rfl rfl rfl rfl rfl (WO.go rfl ?_) | refine WD.gives c1 rfl rfl rfl rfl rfl rfl rfl rfl rfl (WD.go rfl ?_) | refine WO.gives c2 rfl rfl rfl rfl rfl rfl rfl rfl rfl (WO.go rfl ?_) | refine WD.gives c2 rfl rfl rfl rfl rfl rfl rfl rfl rfl (WD.go rfl ?_) | refine WO.gives h1 rfl rfl rfl rfl rfl rfl rfl rfl rfl (WO.go rfl ?_) | refine WD.gives h1 rfl rfl rfl rfl rfl rfl rfl rfl rfl (WD.go rfl ?_) | refine WO.gives h2 rfl rfl rfl rfl rfl rfl rfl rfl rfl (WO.go rfl ?_) | refine WD.gives h2 rfl rfl rfl rfl rfl rfl rfl rfl rfl (WD.go rfl ?_) | refine WO.append0 rfl rfl rfl rfl rfl rfl rfl rfl rfl (WO.go rfl ?_) | refine WO.appendF (by simp) (by exact lens_ok rfl) (by exact lens_ok rfl) (by first | decide | simp) (by first | decide | simp) rfl rfl rfl rfl rfl rfl rfl rfl rfl rfl (WO.go rfl ?_) | refine WO.appendI (by simp) (by exact lens_ok rfl) (by first | decide | simp) (by first | decide | simp) rfl rfl rfl rfl rfl rfl rfl rfl rfl rfl (WO.go rfl ?_) | refine W.loop ?_ | refine W.exit ?_)
        exact W.ret (.ret [_, _, _] rfl rfl)
  | .q .ex s f, hp, ht => by
    have hf := both28_W f hp.2 ht.2
    have hs1 := ht.1
    simp only [Fo.bothE]
    cases ef : f.bothE with
    | none =>
      rw [ef] at hf
      refine givesW (fn := Tryz.f235) Tryz.func235 rfl rfl rfl ?_
      repeat (first | refine W.condT rfl ?_ | refine W.condF rfl ?_ | refine W.seq ?_ | refine W.block ?_ | refine W.skip ?_ | refine WO.nil ?_ | refine WD.nil (WO.go rfl ?_) | refine W.region rfl (WO.go rfl ?_) | refine W.draw (id := 16) 7 [] rfl (by decide +kernel) rfl (WD.go rfl ?_) | refine W.draw (id := 13) 5 [] rfl (by decide +kernel) rfl (WD.go rfl ?_) | refine W.draw (id := 14) 11 [] rfl (by decide +kernel) rfl (WD.go rfl ?_) | refine WO.givesT hf rfl rfl rfl rfl rfl rfl rfl rfl rfl (WO.go rfl ?_) | refine WD.givesT hf rfl rfl rfl rfl rfl rfl rfl rfl rfl (WD.go rfl ?_) | refine WO.append0 rfl rfl rfl rfl rfl rfl rfl rfl rfl (WO.go rfl ?_) | refine WO.appendF (by simp) (by exact lens_ok rfl) (by exact lens_ok rfl) (by first | decide | simp) (by first | decide | simp) rfl rfl rfl rfl rfl rfl rfl rfl rfl rfl (WO.go rfl ?_) | refine WO.appendI (by simp) (by exact lens_ok rfl) (by first | decide | simp) (by first | decide | simp) rfl rfl rfl rfl rfl rfl rfl rfl rfl rfl (WO.go rfl ?_) | refine W.loop ?_ | refine W.exit ?_)
      exact W.ret (.ret [_, _, _] rfl rfl)
    | some p =>
      obtain ⟨a, b⟩ := p
      have hpl := Fo.bothE_le ef
      rw [ef] at hf
      simp only at hpl
      have l1 := Y.prs_le s a
      have h1 := chk28_W (X := X) (Y.prs s a) (by omega)
      have h2 := chk28_W (X := X) b (by omega)
      have c1 := pair28_W (X := X) s a
      show Gives _ _ _ (rB3 (Fo.fit (Y.prs s a, b)))
      generalize Y.prs s a = r1 at *
      generalize b = r2 at *
      unfold chk at h1 h2
      unfold Fo.fit
      by_cases hA : r1.size ≤ 64
      · rw [if_pos hA] at h1
        by_cases hB : r2.size ≤ 64
        · rw [if_pos hB] at h2
          rw [if_pos ⟨hA, hB⟩]
          refine givesW (fn := Tryz.f235) Tryz.func235 rfl rfl rfl ?_
          repeat (first | refine W.condT rfl ?_ | refine W.condF rfl ?_ | refine W.seq ?_ | refine W.block ?_ | refine W.skip ?_ | refine WO.nil ?_ | refine WD.nil (WO.go rfl ?_) | refine W.region rfl (WO.go rfl ?_) | refine W.draw (id := 16) 7 [] rfl (by decide +kernel) rfl (WD.go rfl ?_) | refine W.draw (id := 13) 5 [] rfl (by decide +kernel) rfl (WD.go rfl ?_) | refine W.draw (id := 14) 11 [] rfl (by decide +kernel) rfl (WD.go rfl ?_) | refine WO.givesT hf rfl rfl rfl rfl rfl rfl rfl rfl rfl (WO.go rfl ?_) | refine WD.givesT hf rfl rfl rfl rfl rfl rfl rfl rfl rfl (WD.go rfl ?_) | refine WO.gives c1 rfl rfl rfl rfl rfl rfl rfl rfl rfl (WO.go rfl ?_) | refine WD.gives c1 rfl rfl rfl rfl rfl rfl rfl rfl rfl (WD.go rfl ?_) | refine WO.gives h1 rfl rfl rfl rfl rfl rfl rfl rfl rfl (WO.go rfl ?_) | refine WD.gives h1 rfl rfl rfl rfl rfl rfl rfl rfl rfl (WD.go rfl ?_) | refine WO.gives h2 rfl rfl rfl rfl rfl rfl rfl rfl rfl (WO.go rfl ?_) | refine WD.gives h2 rfl rfl rfl rfl rfl rfl rfl rfl rfl (WD.go rfl ?_) | refine WO.append0 rfl rfl rfl rfl rfl rfl rfl rfl rfl (WO.go rfl ?_) | refine WO.appendF (by simp) (by exact lens_ok rfl) (by exact lens_ok rfl) (by first | decide | simp) (by first | decide | simp) rfl rfl rfl rfl rfl rfl rfl rfl rfl rfl (WO.go rfl ?_) | refine WO.appendI (by simp) (by exact lens_ok rfl) (by first | decide | simp) (by first | decide | simp) rfl rfl rfl rfl rfl rfl rfl rfl rfl rfl (WO.go rfl ?_) | refine W.loop ?_ | refine W.exit ?_)
          refine W.any2 _ rfl (by decide +kernel) (by repeat (first | exact trivial | exact rfl | exact Fr.ext2 (fun i => c3 (fun h => by have := Nat.eq_of_beq_eq_true h; subst this; rfl) (fun h => by have := Nat.eq_of_beq_eq_true h; subst this; rfl) (fun h => by have := Nat.eq_of_beq_eq_true h; subst this; rfl) (fun h1 h2 h3 => by first | exact c3n h1 h2 h3 | exact c3n h1 h3 h2 | exact c3n h2 h1 h3 | exact c3n h2 h3 h1 | exact c3n h3 h1 h2 | exact c3n h3 h2 h1)) rfl rfl | refine And.intro ?_ ?_)) ?_
          repeat (first | refine W.condT rfl ?_ | refine W.condF rfl ?_ | refine W.seq ?_ | refine W.block ?_ | refine W.skip ?_ | refine WO.nil ?_ | refine WD.nil (WO.go rfl ?_) | refine W.region rfl (WO.go rfl ?_) | refine W.draw (id := 16) 7 [] rfl (by decide +kernel) rfl (WD.go rfl ?_) | refine W.draw (id := 13) 5 [] rfl (by decide +kernel) rfl (WD.go rfl ?_) | refine W.draw (id := 14) 11 [] rfl (by decide +kernel) rfl (WD.go rfl ?_) | refine WO.append0 rfl rfl rfl rfl rfl rfl rfl rfl rfl (WO.go rfl ?_) | refine WO.appendF (by simp) (by exact lens_ok rfl) (by exact lens_ok rfl) (by first | decide | simp) (by first | decide | simp) rfl rfl rfl rfl rfl rfl rfl rfl rfl rfl (WO.go rfl ?_) | refine WO.appendI (by simp) (by exact lens_ok rfl) (by first | decide | simp) (by first | decide | simp) rfl rfl rfl rfl rfl rfl rfl rfl rfl rfl (WO.go rfl ?_) | refine W.loop ?_ | refine W.exit ?_)
          exact W.ret (.ret [_, _, _] rfl rfl)
        · rw [if_neg hB] at h2
          rw [if_neg (fun h => hB h.2)]
          refine givesW (fn := Tryz.f235) Tryz.func235 rfl rfl rfl ?_
          repeat (first | refine W.condT rfl ?_ | refine W.condF rfl ?_ | refine W.seq ?_ | refine W.block ?_ | refine W.skip ?_ | refine WO.nil ?_ | refine WD.nil (WO.go rfl ?_) | refine W.region rfl (WO.go rfl ?_) | refine W.draw (id := 16) 7 [] rfl (by decide +kernel) rfl (WD.go rfl ?_) | refine W.draw (id := 13) 5 [] rfl (by decide +kernel) rfl (WD.go rfl ?_) | refine W.draw (id := 14) 11 [] rfl (by decide +kernel) rfl (WD.go rfl ?_) | refine WO.givesT hf rfl rfl rfl rfl rfl rfl rfl rfl rfl (WO.go rfl ?_) | refine WD.givesT hf rfl rfl rfl rfl rfl rfl rfl rfl rfl (WD.go rfl ?_) | refine WO.gives c1 rfl rfl rfl rfl rfl rfl rfl rfl rfl (WO.go rfl ?_) | refine WD.gives c1 rfl rfl rfl rfl rfl rfl rfl rfl rfl (WD.go rfl ?_) | refine WO.gives h1 rfl rfl rfl rfl rfl rfl rfl rfl rfl (WO.go rfl ?_) | refine WD.gives h1 rfl rfl rfl rfl rfl rfl rfl rfl rfl (WD.go rfl ?_) | refine WO.gives h2 rfl rfl rfl rfl rfl rfl rfl rfl rfl (WO.go rfl ?_) | refine WD.gives h2 rfl rfl rfl rfl rfl rfl rfl rfl rfl (WD.go rfl ?_) | refine WO.append0 rfl rfl rfl rfl rfl rfl rfl rfl rfl (WO.go rfl ?_) | refine WO.appendF (by simp) (by exact lens_ok rfl) (by exact lens_ok rfl) (by first | decide | simp) (by first | decide | simp) rfl rfl rfl rfl rfl rfl rfl rfl rfl rfl (WO.go rfl ?_) | refine WO.appendI (by simp) (by exact lens_ok rfl) (by first | decide | simp) (by first | decide | simp) rfl rfl rfl rfl rfl rfl rfl rfl rfl rfl (WO.go rfl ?_) | refine W.loop ?_ | refine W.exit ?_)
          exact W.ret (.ret [_, _, _] rfl rfl)
      · rw [if_neg hA] at h1
        rw [if_neg (fun h => hA h.1)]
        refine givesW (fn := Tryz.f235) Tryz.func235 rfl rfl rfl ?_
        repeat (first | refine W.condT rfl ?_ | refine W.condF rfl ?_ | refine W.seq ?_ | refine W.block ?_ | refine W.skip ?_ | refine WO.nil ?_ | refine WD.nil (WO.go rfl ?_) | refine W.region rfl (WO.go rfl ?_) | refine W.draw (id := 16) 7 [] rfl (by decide +kernel) rfl (WD.go rfl ?_) | refine W.draw (id := 13) 5 [] rfl (by decide +kernel) rfl (WD.go rfl ?_) | refine W.draw (id := 14) 11 [] rfl (by decide +kernel) rfl (WD.go rfl ?_) | refine WO.givesT hf rfl rfl rfl rfl rfl rfl rfl rfl rfl (WO.go rfl ?_) | refine WD.givesT hf rfl rfl rfl rfl rfl rfl rfl rfl rfl (WD.go rfl ?_) | refine WO.gives c1 rfl rfl rfl rfl rfl rfl rfl rfl rfl (WO.go rfl ?_) | refine WD.gives c1 rfl rfl rfl rfl rfl rfl rfl rfl rfl (WD.go rfl ?_) | refine WO.gives h1 rfl rfl rfl rfl rfl rfl rfl rfl rfl (WO.go rfl ?_) | refine WD.gives h1 rfl rfl rfl rfl rfl rfl rfl rfl rfl (WD.go rfl ?_) | refine WO.gives h2 rfl rfl rfl rfl rfl rfl rfl rfl rfl (WO.go rfl ?_) | refine WD.gives h2 rfl rfl rfl rfl rfl rfl rfl rfl rfl (WD.go rfl ?_) | refine WO.append0 rfl rfl rfl rfl rfl rfl rfl rfl rfl (WO.go rfl ?_) | refine WO.appendF (by simp) (by exact lens_ok rfl) (by exact lens_ok rfl) (by first | decide | simp) (by first | decide | simp) rfl rfl rfl rfl rfl rfl rfl rfl rfl rfl (WO.go rfl ?_) | refine WO.appendI (by simp) (by exact lens_ok rfl) (by first | decide | simp) (by first | decide | simp) rfl rfl rfl rfl rfl rfl rfl rfl rfl rfl (WO.go rfl ?_) | refine W.loop ?_ | refine W.exit ?_)
        exact W.ret (.ret [_, _, _] rfl rfl)
  | .q .au s f, hp, _ => absurd hp.1 (by simp)
  | .q .eu s f, hp, _ => absurd hp.1 (by simp)
theorem uniform28_W : ∀ (f : Fo), f.pure → Gives (AC X) 234 [.agg (cF f)] (.bool false)
  | .eq a b, _ => by
    refine givesW (fn := Tryz.f234) Tryz.func234 rfl rfl rfl ?_
    repeat (first | refine W.condT rfl ?_ | refine W.condF rfl ?_ | refine W.seq ?_ | refine W.block ?_ | refine W.skip ?_ | refine WO.nil ?_ | refine WD.nil (WO.go rfl ?_) | refine W.region rfl (WO.go rfl ?_) | refine WO.append0 rfl rfl rfl rfl rfl rfl rfl rfl rfl (WO.go rfl ?_) | refine WO.appendF (by simp) (by exact lens_ok rfl) (by exact lens_ok rfl) (by first | decide | simp) (by first | decide | simp) rfl rfl rfl rfl rfl rfl rfl rfl rfl rfl (WO.go rfl ?_) | refine WO.appendI (by simp) (by exact lens_ok rfl) (by first | decide | simp) (by first | decide | simp) rfl rfl rfl rfl rfl rfl rfl rfl rfl rfl (WO.go rfl ?_) | refine W.loop ?_ | refine W.exit ?_)
    exact W.ret (.ret [_] rfl rfl)
  | .bi .an f g, hp => by
    have h1 := uniform28_W f hp.1
    have h2 := uniform28_W g hp.2
    refine givesW (fn := Tryz.f234) Tryz.func234 rfl rfl rfl ?_
    repeat (first | refine W.condT rfl ?_ | refine W.condF rfl ?_ | refine W.seq ?_ | refine W.block ?_ | refine W.skip ?_ | refine WO.nil ?_ | refine WD.nil (WO.go rfl ?_) | refine W.region rfl (WO.go rfl ?_) | refine WO.gives h1 rfl rfl rfl rfl rfl rfl rfl rfl rfl (WO.go rfl ?_) | refine WD.gives h1 rfl rfl rfl rfl rfl rfl rfl rfl rfl (WD.go rfl ?_) | refine WO.gives h2 rfl rfl rfl rfl rfl rfl rfl rfl rfl (WO.go rfl ?_) | refine WD.gives h2 rfl rfl rfl rfl rfl rfl rfl rfl rfl (WD.go rfl ?_) | refine WO.append0 rfl rfl rfl rfl rfl rfl rfl rfl rfl (WO.go rfl ?_) | refine WO.appendF (by simp) (by exact lens_ok rfl) (by exact lens_ok rfl) (by first | decide | simp) (by first | decide | simp) rfl rfl rfl rfl rfl rfl rfl rfl rfl rfl (WO.go rfl ?_) | refine WO.appendI (by simp) (by exact lens_ok rfl) (by first | decide | simp) (by first | decide | simp) rfl rfl rfl rfl rfl rfl rfl rfl rfl rfl (WO.go rfl ?_) | refine W.loop ?_ | refine W.exit ?_)
    exact W.ret (.ret [_] rfl rfl)
  | .bi .im f g, hp => by
    have h1 := uniform28_W f hp.1
    have h2 := uniform28_W g hp.2
    refine givesW (fn := Tryz.f234) Tryz.func234 rfl rfl rfl ?_
    repeat (first | refine W.condT rfl ?_ | refine W.condF rfl ?_ | refine W.seq ?_ | refine W.block ?_ | refine W.skip ?_ | refine WO.nil ?_ | refine WD.nil (WO.go rfl ?_) | refine W.region rfl (WO.go rfl ?_) | refine WO.gives h1 rfl rfl rfl rfl rfl rfl rfl rfl rfl (WO.go rfl ?_) | refine WD.gives h1 rfl rfl rfl rfl rfl rfl rfl rfl rfl (WD.go rfl ?_) | refine WO.gives h2 rfl rfl rfl rfl rfl rfl rfl rfl rfl (WO.go rfl ?_) | refine WD.gives h2 rfl rfl rfl rfl rfl rfl rfl rfl rfl (WD.go rfl ?_) | refine WO.append0 rfl rfl rfl rfl rfl rfl rfl rfl rfl (WO.go rfl ?_) | refine WO.appendF (by simp) (by exact lens_ok rfl) (by exact lens_ok rfl) (by first | decide | simp) (by first | decide | simp) rfl rfl rfl rfl rfl rfl rfl rfl rfl rfl (WO.go rfl ?_) | refine WO.appendI (by simp) (by exact lens_ok rfl) (by first | decide | simp) (by first | decide | simp) rfl rfl rfl rfl rfl rfl rfl rfl rfl rfl (WO.go rfl ?_) | refine W.loop ?_ | refine W.exit ?_)
    exact W.ret (.ret [_] rfl rfl)
  | .q .al s f, hp => by
    have h1 := uniform28_W f hp.2
    refine givesW (fn := Tryz.f234) Tryz.func234 rfl rfl rfl ?_
    repeat (first | refine W.condT rfl ?_ | refine W.condF rfl ?_ | refine W.seq ?_ | refine W.block ?_ | refine W.skip ?_ | refine WO.nil ?_ | refine WD.nil (WO.go rfl ?_) | refine W.region rfl (WO.go rfl ?_) | refine WO.gives h1 rfl rfl rfl rfl rfl rfl rfl rfl rfl (WO.go rfl ?_) | refine WD.gives h1 rfl rfl rfl rfl rfl rfl rfl rfl rfl (WD.go rfl ?_) | refine WO.append0 rfl rfl rfl rfl rfl rfl rfl rfl rfl (WO.go rfl ?_) | refine WO.appendF (by simp) (by exact lens_ok rfl) (by exact lens_ok rfl) (by first | decide | simp) (by first | decide | simp) rfl rfl rfl rfl rfl rfl rfl rfl rfl rfl (WO.go rfl ?_) | refine WO.appendI (by simp) (by exact lens_ok rfl) (by first | decide | simp) (by first | decide | simp) rfl rfl rfl rfl rfl rfl rfl rfl rfl rfl (WO.go rfl ?_) | refine W.loop ?_ | refine W.exit ?_)
    exact W.ret (.ret [_] rfl rfl)
  | .q .ex s f, hp => by
    have h1 := uniform28_W f hp.2
    refine givesW (fn := Tryz.f234) Tryz.func234 rfl rfl rfl ?_
    repeat (first | refine W.condT rfl ?_ | refine W.condF rfl ?_ | refine W.seq ?_ | refine W.block ?_ | refine W.skip ?_ | refine WO.nil ?_ | refine WD.nil (WO.go rfl ?_) | refine W.region rfl (WO.go rfl ?_) | refine WO.gives h1 rfl rfl rfl rfl rfl rfl rfl rfl rfl (WO.go rfl ?_) | refine WD.gives h1 rfl rfl rfl rfl rfl rfl rfl rfl rfl (WD.go rfl ?_) | refine WO.append0 rfl rfl rfl rfl rfl rfl rfl rfl rfl (WO.go rfl ?_) | refine WO.appendF (by simp) (by exact lens_ok rfl) (by exact lens_ok rfl) (by first | decide | simp) (by first | decide | simp) rfl rfl rfl rfl rfl rfl rfl rfl rfl rfl (WO.go rfl ?_) | refine WO.appendI (by simp) (by exact lens_ok rfl) (by first | decide | simp) (by first | decide | simp) rfl rfl rfl rfl rfl rfl rfl rfl rfl rfl (WO.go rfl ?_) | refine W.loop ?_ | refine W.exit ?_)
    exact W.ret (.ret [_] rfl rfl)
  | .q .au s f, hp => absurd hp.1 (by simp)
  | .q .eu s f, hp => absurd hp.1 (by simp)
theorem types28_W (f : Fo) (hp : f.pure) (hs : f.size ≤ 4096) (ht : f.tyLe 64) : Gives (AC X) 207 [.agg (cF f)] (rB3 f.bothE) := by
  have h1 := check07_W (X := X) f hs ht
  have h2 := uniform28_W (X := X) f hp
  have h3 := both28_W (X := X) f hp ht
  cases e : f.bothE with
  | none =>
    rw [e] at h3
    refine givesW (fn := Tryz.f207) Tryz.func207 rfl rfl rfl ?_
    repeat (first | refine W.condT rfl ?_ | refine W.condF rfl ?_ | refine W.seq ?_ | refine W.block ?_ | refine W.skip ?_ | refine WO.nil ?_ | refine WD.nil (WO.go rfl ?_) | refine W.region rfl (WO.go rfl ?_) | refine WO.gives h1 rfl rfl rfl rfl rfl rfl rfl rfl rfl (WO.go rfl ?_) | refine WD.gives h1 rfl rfl rfl rfl rfl rfl rfl rfl rfl (WD.go rfl ?_) | refine WO.gives h2 rfl rfl rfl rfl rfl rfl rfl rfl rfl (WO.go rfl ?_) | refine WD.gives h2 rfl rfl rfl rfl rfl rfl rfl rfl rfl (WD.go rfl ?_) | refine WO.givesT h3 rfl rfl rfl rfl rfl rfl rfl rfl rfl (WO.go rfl ?_) | refine WD.givesT h3 rfl rfl rfl rfl rfl rfl rfl rfl rfl (WD.go rfl ?_) | refine WO.append0 rfl rfl rfl rfl rfl rfl rfl rfl rfl (WO.go rfl ?_) | refine WO.appendF (by simp) (by exact lens_ok rfl) (by exact lens_ok rfl) (by first | decide | simp) (by first | decide | simp) rfl rfl rfl rfl rfl rfl rfl rfl rfl rfl (WO.go rfl ?_) | refine WO.appendI (by simp) (by exact lens_ok rfl) (by first | decide | simp) (by first | decide | simp) rfl rfl rfl rfl rfl rfl rfl rfl rfl rfl (WO.go rfl ?_) | refine W.loop ?_ | refine W.exit ?_)
    exact W.ret (.ret [_, _, _] rfl rfl)
  | some p =>
    rw [e] at h3
    refine givesW (fn := Tryz.f207) Tryz.func207 rfl rfl rfl ?_
    repeat (first | refine W.condT rfl ?_ | refine W.condF rfl ?_ | refine W.seq ?_ | refine W.block ?_ | refine W.skip ?_ | refine WO.nil ?_ | refine WD.nil (WO.go rfl ?_) | refine W.region rfl (WO.go rfl ?_) | refine WO.gives h1 rfl rfl rfl rfl rfl rfl rfl rfl rfl (WO.go rfl ?_) | refine WD.gives h1 rfl rfl rfl rfl rfl rfl rfl rfl rfl (WD.go rfl ?_) | refine WO.gives h2 rfl rfl rfl rfl rfl rfl rfl rfl rfl (WO.go rfl ?_) | refine WD.gives h2 rfl rfl rfl rfl rfl rfl rfl rfl rfl (WD.go rfl ?_) | refine WO.givesT h3 rfl rfl rfl rfl rfl rfl rfl rfl rfl (WO.go rfl ?_) | refine WD.givesT h3 rfl rfl rfl rfl rfl rfl rfl rfl rfl (WD.go rfl ?_) | refine WO.append0 rfl rfl rfl rfl rfl rfl rfl rfl rfl (WO.go rfl ?_) | refine WO.appendF (by simp) (by exact lens_ok rfl) (by exact lens_ok rfl) (by first | decide | simp) (by first | decide | simp) rfl rfl rfl rfl rfl rfl rfl rfl rfl rfl (WO.go rfl ?_) | refine WO.appendI (by simp) (by exact lens_ok rfl) (by first | decide | simp) (by first | decide | simp) rfl rfl rfl rfl rfl rfl rfl rfl rfl rfl (WO.go rfl ?_) | refine W.loop ?_ | refine W.exit ?_)
    exact W.ret (.ret [_, _, _] rfl rfl)
theorem witness28_W (f : Fo) (hp : f.pure) (hs : f.size ≤ 4096) (ht : f.tyLe 64) : Gives (AC X) 156 [.agg (cF f)] (rOne Prod.fst f.bothE) := by
  have h1 := types28_W (X := X) f hp hs ht
  cases e : f.bothE with
  | none =>
    rw [e] at h1
    refine givesW (fn := Tryz.f156) Tryz.func156 rfl rfl rfl ?_
    repeat (first | refine W.condT rfl ?_ | refine W.condF rfl ?_ | refine W.seq ?_ | refine W.block ?_ | refine W.skip ?_ | refine WO.nil ?_ | refine WD.nil (WO.go rfl ?_) | refine W.region rfl (WO.go rfl ?_) | refine WO.givesT h1 rfl rfl rfl rfl rfl rfl rfl rfl rfl (WO.go rfl ?_) | refine WD.givesT h1 rfl rfl rfl rfl rfl rfl rfl rfl rfl (WD.go rfl ?_) | refine WO.append0 rfl rfl rfl rfl rfl rfl rfl rfl rfl (WO.go rfl ?_) | refine WO.appendF (by simp) (by exact lens_ok rfl) (by exact lens_ok rfl) (by first | decide | simp) (by first | decide | simp) rfl rfl rfl rfl rfl rfl rfl rfl rfl rfl (WO.go rfl ?_) | refine WO.appendI (by simp) (by exact lens_ok rfl) (by first | decide | simp) (by first | decide | simp) rfl rfl rfl rfl rfl rfl rfl rfl rfl rfl (WO.go rfl ?_) | refine W.loop ?_ | refine W.exit ?_)
    exact W.ret (.ret [_, _] rfl rfl)
  | some p =>
    rw [e] at h1
    refine givesW (fn := Tryz.f156) Tryz.func156 rfl rfl rfl ?_
    repeat (first | refine W.condT rfl ?_ | refine W.condF rfl ?_ | refine W.seq ?_ | refine W.block ?_ | refine W.skip ?_ | refine WO.nil ?_ | refine WD.nil (WO.go rfl ?_) | refine W.region rfl (WO.go rfl ?_) | refine WO.givesT h1 rfl rfl rfl rfl rfl rfl rfl rfl rfl (WO.go rfl ?_) | refine WD.givesT h1 rfl rfl rfl rfl rfl rfl rfl rfl rfl (WD.go rfl ?_) | refine WO.append0 rfl rfl rfl rfl rfl rfl rfl rfl rfl (WO.go rfl ?_) | refine WO.appendF (by simp) (by exact lens_ok rfl) (by exact lens_ok rfl) (by first | decide | simp) (by first | decide | simp) rfl rfl rfl rfl rfl rfl rfl rfl rfl rfl (WO.go rfl ?_) | refine WO.appendI (by simp) (by exact lens_ok rfl) (by first | decide | simp) (by first | decide | simp) rfl rfl rfl rfl rfl rfl rfl rfl rfl rfl (WO.go rfl ?_) | refine W.loop ?_ | refine W.exit ?_)
    exact W.ret (.ret [_, _] rfl rfl)
theorem challenge28_W (f : Fo) (hp : f.pure) (hs : f.size ≤ 4096) (ht : f.tyLe 64) : Gives (AC X) 157 [.agg (cF f)] (rOne Prod.snd f.bothE) := by
  have h1 := types28_W (X := X) f hp hs ht
  cases e : f.bothE with
  | none =>
    rw [e] at h1
    refine givesW (fn := Tryz.f157) Tryz.func157 rfl rfl rfl ?_
    repeat (first | refine W.condT rfl ?_ | refine W.condF rfl ?_ | refine W.seq ?_ | refine W.block ?_ | refine W.skip ?_ | refine WO.nil ?_ | refine WD.nil (WO.go rfl ?_) | refine W.region rfl (WO.go rfl ?_) | refine WO.givesT h1 rfl rfl rfl rfl rfl rfl rfl rfl rfl (WO.go rfl ?_) | refine WD.givesT h1 rfl rfl rfl rfl rfl rfl rfl rfl rfl (WD.go rfl ?_) | refine WO.append0 rfl rfl rfl rfl rfl rfl rfl rfl rfl (WO.go rfl ?_) | refine WO.appendF (by simp) (by exact lens_ok rfl) (by exact lens_ok rfl) (by first | decide | simp) (by first | decide | simp) rfl rfl rfl rfl rfl rfl rfl rfl rfl rfl (WO.go rfl ?_) | refine WO.appendI (by simp) (by exact lens_ok rfl) (by first | decide | simp) (by first | decide | simp) rfl rfl rfl rfl rfl rfl rfl rfl rfl rfl (WO.go rfl ?_) | refine W.loop ?_ | refine W.exit ?_)
    exact W.ret (.ret [_, _] rfl rfl)
  | some p =>
    rw [e] at h1
    refine givesW (fn := Tryz.f157) Tryz.func157 rfl rfl rfl ?_
    repeat (first | refine W.condT rfl ?_ | refine W.condF rfl ?_ | refine W.seq ?_ | refine W.block ?_ | refine W.skip ?_ | refine WO.nil ?_ | refine WD.nil (WO.go rfl ?_) | refine W.region rfl (WO.go rfl ?_) | refine WO.givesT h1 rfl rfl rfl rfl rfl rfl rfl rfl rfl (WO.go rfl ?_) | refine WD.givesT h1 rfl rfl rfl rfl rfl rfl rfl rfl rfl (WD.go rfl ?_) | refine WO.append0 rfl rfl rfl rfl rfl rfl rfl rfl rfl (WO.go rfl ?_) | refine WO.appendF (by simp) (by exact lens_ok rfl) (by exact lens_ok rfl) (by first | decide | simp) (by first | decide | simp) rfl rfl rfl rfl rfl rfl rfl rfl rfl rfl (WO.go rfl ?_) | refine WO.appendI (by simp) (by exact lens_ok rfl) (by first | decide | simp) (by first | decide | simp) rfl rfl rfl rfl rfl rfl rfl rfl rfl rfl (WO.go rfl ?_) | refine W.loop ?_ | refine W.exit ?_)
    exact W.ret (.ret [_, _] rfl rfl)
/-! what is the same as itself -/
theorem sameT_W (x : T) : Gives (AC X) 26 [.agg (cT x), .agg (cT x)] (.bool true) := by
  induction x with
  | vr i =>
    have key : ((i : Int) != (i : Int)) = false := by simp
    refine givesW (fn := Tryz.f26) Tryz.func26 rfl rfl rfl ?_
    refine W.seq (W.region rfl (WO.go rfl (WO.nil ?_)))
    refine W.seq (W.seq (W.region rfl (WO.steps 13 rfl (WO.fix 18 (congrArg AV.bool key) (WO.go rfl ?_)))))
    repeat (first | refine W.condT rfl ?_ | refine W.condF rfl ?_ | refine W.seq ?_ | refine W.block ?_ | refine W.skip ?_ | refine WO.nil ?_ | refine WD.nil (WO.go rfl ?_) | refine W.region rfl (WO.go rfl ?_) | refine W.draw (id := 6) 10 [] rfl (by decide +kernel) rfl (WD.go rfl ?_) | refine WO.gives sameZ_W rfl rfl rfl rfl rfl rfl rfl rfl rfl (WO.go rfl ?_) | refine WD.gives sameZ_W rfl rfl rfl rfl rfl rfl rfl rfl rfl (WD.go rfl ?_) | refine WO.append0 rfl rfl rfl rfl rfl rfl rfl rfl rfl (WO.go rfl ?_) | refine WO.appendF (by simp) (by exact lens_ok rfl) (by exact lens_ok rfl) (by first | decide | simp) (by first | decide | simp) rfl rfl rfl rfl rfl rfl rfl rfl rfl rfl (WO.go rfl ?_) | refine WO.appendI (by simp) (by exact lens_ok rfl) (by first | decide | simp) (by first | decide | simp) rfl rfl rfl rfl rfl rfl rfl rfl rfl rfl (WO.go rfl ?_) | refine W.loop ?_ | refine W.exit ?_)
    exact W.ret (.ret [_] rfl rfl)
  | lm s b ih_b =>
    have hs := sameY_W (X := X) s s
    rw [Y.same_refl] at hs
    refine givesW (fn := Tryz.f26) Tryz.func26 rfl rfl rfl ?_
    repeat (first | refine W.condT rfl ?_ | refine W.condF rfl ?_ | refine W.seq ?_ | refine W.block ?_ | refine W.skip ?_ | refine WO.nil ?_ | refine WD.nil (WO.go rfl ?_) | refine W.region rfl (WO.go rfl ?_) | refine W.draw (id := 6) 10 [] rfl (by decide +kernel) rfl (WD.go rfl ?_) | refine WO.gives hs rfl rfl rfl rfl rfl rfl rfl rfl rfl (WO.go rfl ?_) | refine WD.gives hs rfl rfl rfl rfl rfl rfl rfl rfl rfl (WD.go rfl ?_) | refine WO.gives ih_b rfl rfl rfl rfl rfl rfl rfl rfl rfl (WO.go rfl ?_) | refine WD.gives ih_b rfl rfl rfl rfl rfl rfl rfl rfl rfl (WD.go rfl ?_) | refine WO.append0 rfl rfl rfl rfl rfl rfl rfl rfl rfl (WO.go rfl ?_) | refine WO.appendF (by simp) (by exact lens_ok rfl) (by exact lens_ok rfl) (by first | decide | simp) (by first | decide | simp) rfl rfl rfl rfl rfl rfl rfl rfl rfl rfl (WO.go rfl ?_) | refine WO.appendI (by simp) (by exact lens_ok rfl) (by first | decide | simp) (by first | decide | simp) rfl rfl rfl rfl rfl rfl rfl rfl rfl rfl (WO.go rfl ?_) | refine W.loop ?_ | refine W.exit ?_)
    exact W.ret (.ret [_] rfl rfl)
  | ap f a ih_f ih_a =>
    refine givesW (fn := Tryz.f26) Tryz.func26 rfl rfl rfl ?_
    repeat (first | refine W.condT rfl ?_ | refine W.condF rfl ?_ | refine W.seq ?_ | refine W.block ?_ | refine W.skip ?_ | refine WO.nil ?_ | refine WD.nil (WO.go rfl ?_) | refine W.region rfl (WO.go rfl ?_) | refine W.draw (id := 6) 10 [] rfl (by decide +kernel) rfl (WD.go rfl ?_) | refine WO.gives sameZ_W rfl rfl rfl rfl rfl rfl rfl rfl rfl (WO.go rfl ?_) | refine WD.gives sameZ_W rfl rfl rfl rfl rfl rfl rfl rfl rfl (WD.go rfl ?_) | refine WO.gives ih_f rfl rfl rfl rfl rfl rfl rfl rfl rfl (WO.go rfl ?_) | refine WD.gives ih_f rfl rfl rfl rfl rfl rfl rfl rfl rfl (WD.go rfl ?_) | refine WO.gives ih_a rfl rfl rfl rfl rfl rfl rfl rfl rfl (WO.go rfl ?_) | refine WD.gives ih_a rfl rfl rfl rfl rfl rfl rfl rfl rfl (WD.go rfl ?_) | refine WO.append0 rfl rfl rfl rfl rfl rfl rfl rfl rfl (WO.go rfl ?_) | refine WO.appendF (by simp) (by exact lens_ok rfl) (by exact lens_ok rfl) (by first | decide | simp) (by first | decide | simp) rfl rfl rfl rfl rfl rfl rfl rfl rfl rfl (WO.go rfl ?_) | refine WO.appendI (by simp) (by exact lens_ok rfl) (by first | decide | simp) (by first | decide | simp) rfl rfl rfl rfl rfl rfl rfl rfl rfl rfl (WO.go rfl ?_) | refine W.loop ?_ | refine W.exit ?_)
    exact W.ret (.ret [_] rfl rfl)
  | ze =>
    refine givesW (fn := Tryz.f26) Tryz.func26 rfl rfl rfl ?_
    repeat (first | refine W.condT rfl ?_ | refine W.condF rfl ?_ | refine W.seq ?_ | refine W.block ?_ | refine W.skip ?_ | refine WO.nil ?_ | refine WD.nil (WO.go rfl ?_) | refine W.region rfl (WO.go rfl ?_) | refine W.draw (id := 6) 10 [] rfl (by decide +kernel) rfl (WD.go rfl ?_) | refine WO.gives sameZ_W rfl rfl rfl rfl rfl rfl rfl rfl rfl (WO.go rfl ?_) | refine WD.gives sameZ_W rfl rfl rfl rfl rfl rfl rfl rfl rfl (WD.go rfl ?_) | refine WO.append0 rfl rfl rfl rfl rfl rfl rfl rfl rfl (WO.go rfl ?_) | refine WO.appendF (by simp) (by exact lens_ok rfl) (by exact lens_ok rfl) (by first | decide | simp) (by first | decide | simp) rfl rfl rfl rfl rfl rfl rfl rfl rfl rfl (WO.go rfl ?_) | refine WO.appendI (by simp) (by exact lens_ok rfl) (by first | decide | simp) (by first | decide | simp) rfl rfl rfl rfl rfl rfl rfl rfl rfl rfl (WO.go rfl ?_) | refine W.loop ?_ | refine W.exit ?_)
    exact W.ret (.ret [_] rfl rfl)
  | su n ih_n =>
    refine givesW (fn := Tryz.f26) Tryz.func26 rfl rfl rfl ?_
    repeat (first | refine W.condT rfl ?_ | refine W.condF rfl ?_ | refine W.seq ?_ | refine W.block ?_ | refine W.skip ?_ | refine WO.nil ?_ | refine WD.nil (WO.go rfl ?_) | refine W.region rfl (WO.go rfl ?_) | refine W.draw (id := 6) 10 [] rfl (by decide +kernel) rfl (WD.go rfl ?_) | refine WO.gives sameZ_W rfl rfl rfl rfl rfl rfl rfl rfl rfl (WO.go rfl ?_) | refine WD.gives sameZ_W rfl rfl rfl rfl rfl rfl rfl rfl rfl (WD.go rfl ?_) | refine WO.gives ih_n rfl rfl rfl rfl rfl rfl rfl rfl rfl (WO.go rfl ?_) | refine WD.gives ih_n rfl rfl rfl rfl rfl rfl rfl rfl rfl (WD.go rfl ?_) | refine WO.append0 rfl rfl rfl rfl rfl rfl rfl rfl rfl (WO.go rfl ?_) | refine WO.appendF (by simp) (by exact lens_ok rfl) (by exact lens_ok rfl) (by first | decide | simp) (by first | decide | simp) rfl rfl rfl rfl rfl rfl rfl rfl rfl rfl (WO.go rfl ?_) | refine WO.appendI (by simp) (by exact lens_ok rfl) (by first | decide | simp) (by first | decide | simp) rfl rfl rfl rfl rfl rfl rfl rfl rfl rfl (WO.go rfl ?_) | refine W.loop ?_ | refine W.exit ?_)
    exact W.ret (.ret [_] rfl rfl)
  | rc s b f n ih_b ih_f ih_n =>
    have hs := sameY_W (X := X) s s
    rw [Y.same_refl] at hs
    refine givesW (fn := Tryz.f26) Tryz.func26 rfl rfl rfl ?_
    repeat (first | refine W.condT rfl ?_ | refine W.condF rfl ?_ | refine W.seq ?_ | refine W.block ?_ | refine W.skip ?_ | refine WO.nil ?_ | refine WD.nil (WO.go rfl ?_) | refine W.region rfl (WO.go rfl ?_) | refine W.draw (id := 6) 10 [] rfl (by decide +kernel) rfl (WD.go rfl ?_) | refine WO.gives hs rfl rfl rfl rfl rfl rfl rfl rfl rfl (WO.go rfl ?_) | refine WD.gives hs rfl rfl rfl rfl rfl rfl rfl rfl rfl (WD.go rfl ?_) | refine WO.gives ih_b rfl rfl rfl rfl rfl rfl rfl rfl rfl (WO.go rfl ?_) | refine WD.gives ih_b rfl rfl rfl rfl rfl rfl rfl rfl rfl (WD.go rfl ?_) | refine WO.gives ih_f rfl rfl rfl rfl rfl rfl rfl rfl rfl (WO.go rfl ?_) | refine WD.gives ih_f rfl rfl rfl rfl rfl rfl rfl rfl rfl (WD.go rfl ?_) | refine WO.gives ih_n rfl rfl rfl rfl rfl rfl rfl rfl rfl (WO.go rfl ?_) | refine WD.gives ih_n rfl rfl rfl rfl rfl rfl rfl rfl rfl (WD.go rfl ?_) | refine WO.append0 rfl rfl rfl rfl rfl rfl rfl rfl rfl (WO.go rfl ?_) | refine WO.appendF (by simp) (by exact lens_ok rfl) (by exact lens_ok rfl) (by first | decide | simp) (by first | decide | simp) rfl rfl rfl rfl rfl rfl rfl rfl rfl rfl (WO.go rfl ?_) | refine WO.appendI (by simp) (by exact lens_ok rfl) (by first | decide | simp) (by first | decide | simp) rfl rfl rfl rfl rfl rfl rfl rfl rfl rfl (WO.go rfl ?_) | refine W.loop ?_ | refine W.exit ?_)
    exact W.ret (.ret [_] rfl rfl)
  | nl =>
    refine givesW (fn := Tryz.f26) Tryz.func26 rfl rfl rfl ?_
    repeat (first | refine W.condT rfl ?_ | refine W.condF rfl ?_ | refine W.seq ?_ | refine W.block ?_ | refine W.skip ?_ | refine WO.nil ?_ | refine WD.nil (WO.go rfl ?_) | refine W.region rfl (WO.go rfl ?_) | refine W.draw (id := 6) 10 [] rfl (by decide +kernel) rfl (WD.go rfl ?_) | refine WO.gives sameZ_W rfl rfl rfl rfl rfl rfl rfl rfl rfl (WO.go rfl ?_) | refine WD.gives sameZ_W rfl rfl rfl rfl rfl rfl rfl rfl rfl (WD.go rfl ?_) | refine WO.append0 rfl rfl rfl rfl rfl rfl rfl rfl rfl (WO.go rfl ?_) | refine WO.appendF (by simp) (by exact lens_ok rfl) (by exact lens_ok rfl) (by first | decide | simp) (by first | decide | simp) rfl rfl rfl rfl rfl rfl rfl rfl rfl rfl (WO.go rfl ?_) | refine WO.appendI (by simp) (by exact lens_ok rfl) (by first | decide | simp) (by first | decide | simp) rfl rfl rfl rfl rfl rfl rfl rfl rfl rfl (WO.go rfl ?_) | refine W.loop ?_ | refine W.exit ?_)
    exact W.ret (.ret [_] rfl rfl)
  | cn h l ih_h ih_l =>
    refine givesW (fn := Tryz.f26) Tryz.func26 rfl rfl rfl ?_
    repeat (first | refine W.condT rfl ?_ | refine W.condF rfl ?_ | refine W.seq ?_ | refine W.block ?_ | refine W.skip ?_ | refine WO.nil ?_ | refine WD.nil (WO.go rfl ?_) | refine W.region rfl (WO.go rfl ?_) | refine W.draw (id := 6) 10 [] rfl (by decide +kernel) rfl (WD.go rfl ?_) | refine WO.gives sameZ_W rfl rfl rfl rfl rfl rfl rfl rfl rfl (WO.go rfl ?_) | refine WD.gives sameZ_W rfl rfl rfl rfl rfl rfl rfl rfl rfl (WD.go rfl ?_) | refine WO.gives ih_h rfl rfl rfl rfl rfl rfl rfl rfl rfl (WO.go rfl ?_) | refine WD.gives ih_h rfl rfl rfl rfl rfl rfl rfl rfl rfl (WD.go rfl ?_) | refine WO.gives ih_l rfl rfl rfl rfl rfl rfl rfl rfl rfl (WO.go rfl ?_) | refine WD.gives ih_l rfl rfl rfl rfl rfl rfl rfl rfl rfl (WD.go rfl ?_) | refine WO.append0 rfl rfl rfl rfl rfl rfl rfl rfl rfl (WO.go rfl ?_) | refine WO.appendF (by simp) (by exact lens_ok rfl) (by exact lens_ok rfl) (by first | decide | simp) (by first | decide | simp) rfl rfl rfl rfl rfl rfl rfl rfl rfl rfl (WO.go rfl ?_) | refine WO.appendI (by simp) (by exact lens_ok rfl) (by first | decide | simp) (by first | decide | simp) rfl rfl rfl rfl rfl rfl rfl rfl rfl rfl (WO.go rfl ?_) | refine W.loop ?_ | refine W.exit ?_)
    exact W.ret (.ret [_] rfl rfl)
  | fo s b f l ih_b ih_f ih_l =>
    have hs := sameY_W (X := X) s s
    rw [Y.same_refl] at hs
    refine givesW (fn := Tryz.f26) Tryz.func26 rfl rfl rfl ?_
    repeat (first | refine W.condT rfl ?_ | refine W.condF rfl ?_ | refine W.seq ?_ | refine W.block ?_ | refine W.skip ?_ | refine WO.nil ?_ | refine WD.nil (WO.go rfl ?_) | refine W.region rfl (WO.go rfl ?_) | refine W.draw (id := 6) 10 [] rfl (by decide +kernel) rfl (WD.go rfl ?_) | refine WO.gives hs rfl rfl rfl rfl rfl rfl rfl rfl rfl (WO.go rfl ?_) | refine WD.gives hs rfl rfl rfl rfl rfl rfl rfl rfl rfl (WD.go rfl ?_) | refine WO.gives ih_b rfl rfl rfl rfl rfl rfl rfl rfl rfl (WO.go rfl ?_) | refine WD.gives ih_b rfl rfl rfl rfl rfl rfl rfl rfl rfl (WD.go rfl ?_) | refine WO.gives ih_f rfl rfl rfl rfl rfl rfl rfl rfl rfl (WO.go rfl ?_) | refine WD.gives ih_f rfl rfl rfl rfl rfl rfl rfl rfl rfl (WD.go rfl ?_) | refine WO.gives ih_l rfl rfl rfl rfl rfl rfl rfl rfl rfl (WO.go rfl ?_) | refine WD.gives ih_l rfl rfl rfl rfl rfl rfl rfl rfl rfl (WD.go rfl ?_) | refine WO.append0 rfl rfl rfl rfl rfl rfl rfl rfl rfl (WO.go rfl ?_) | refine WO.appendF (by simp) (by exact lens_ok rfl) (by exact lens_ok rfl) (by first | decide | simp) (by first | decide | simp) rfl rfl rfl rfl rfl rfl rfl rfl rfl rfl (WO.go rfl ?_) | refine WO.appendI (by simp) (by exact lens_ok rfl) (by first | decide | simp) (by first | decide | simp) rfl rfl rfl rfl rfl rfl rfl rfl rfl rfl (WO.go rfl ?_) | refine W.loop ?_ | refine W.exit ?_)
    exact W.ret (.ret [_] rfl rfl)
  | pr a b ih_a ih_b =>
    refine givesW (fn := Tryz.f26) Tryz.func26 rfl rfl rfl ?_
    repeat (first | refine W.condT rfl ?_ | refine W.condF rfl ?_ | refine W.seq ?_ | refine W.block ?_ | refine W.skip ?_ | refine WO.nil ?_ | refine WD.nil (WO.go rfl ?_) | refine W.region rfl (WO.go rfl ?_) | refine W.draw (id := 6) 10 [] rfl (by decide +kernel) rfl (WD.go rfl ?_) | refine WO.gives sameZ_W rfl rfl rfl rfl rfl rfl rfl rfl rfl (WO.go rfl ?_) | refine WD.gives sameZ_W rfl rfl rfl rfl rfl rfl rfl rfl rfl (WD.go rfl ?_) | refine WO.gives ih_a rfl rfl rfl rfl rfl rfl rfl rfl rfl (WO.go rfl ?_) | refine WD.gives ih_a rfl rfl rfl rfl rfl rfl rfl rfl rfl (WD.go rfl ?_) | refine WO.gives ih_b rfl rfl rfl rfl rfl rfl rfl rfl rfl (WO.go rfl ?_) | refine WD.gives ih_b rfl rfl rfl rfl rfl rfl rfl rfl rfl (WD.go rfl ?_) | refine WO.append0 rfl rfl rfl rfl rfl rfl rfl rfl rfl (WO.go rfl ?_) | refine WO.appendF (by simp) (by exact lens_ok rfl) (by exact lens_ok rfl) (by first | decide | simp) (by first | decide | simp) rfl rfl rfl rfl rfl rfl rfl rfl rfl rfl (WO.go rfl ?_) | refine WO.appendI (by simp) (by exact lens_ok rfl) (by first | decide | simp) (by first | decide | simp) rfl rfl rfl rfl rfl rfl rfl rfl rfl rfl (WO.go rfl ?_) | refine W.loop ?_ | refine W.exit ?_)
    exact W.ret (.ret [_] rfl rfl)
  | fs p ih_p =>
    refine givesW (fn := Tryz.f26) Tryz.func26 rfl rfl rfl ?_
    repeat (first | refine W.condT rfl ?_ | refine W.condF rfl ?_ | refine W.seq ?_ | refine W.block ?_ | refine W.skip ?_ | refine WO.nil ?_ | refine WD.nil (WO.go rfl ?_) | refine W.region rfl (WO.go rfl ?_) | refine W.draw (id := 6) 10 [] rfl (by decide +kernel) rfl (WD.go rfl ?_) | refine WO.gives sameZ_W rfl rfl rfl rfl rfl rfl rfl rfl rfl (WO.go rfl ?_) | refine WD.gives sameZ_W rfl rfl rfl rfl rfl rfl rfl rfl rfl (WD.go rfl ?_) | refine WO.gives ih_p rfl rfl rfl rfl rfl rfl rfl rfl rfl (WO.go rfl ?_) | refine WD.gives ih_p rfl rfl rfl rfl rfl rfl rfl rfl rfl (WD.go rfl ?_) | refine WO.append0 rfl rfl rfl rfl rfl rfl rfl rfl rfl (WO.go rfl ?_) | refine WO.appendF (by simp) (by exact lens_ok rfl) (by exact lens_ok rfl) (by first | decide | simp) (by first | decide | simp) rfl rfl rfl rfl rfl rfl rfl rfl rfl rfl (WO.go rfl ?_) | refine WO.appendI (by simp) (by exact lens_ok rfl) (by first | decide | simp) (by first | decide | simp) rfl rfl rfl rfl rfl rfl rfl rfl rfl rfl (WO.go rfl ?_) | refine W.loop ?_ | refine W.exit ?_)
    exact W.ret (.ret [_] rfl rfl)
  | sn p ih_p =>
    refine givesW (fn := Tryz.f26) Tryz.func26 rfl rfl rfl ?_
    repeat (first | refine W.condT rfl ?_ | refine W.condF rfl ?_ | refine W.seq ?_ | refine W.block ?_ | refine W.skip ?_ | refine WO.nil ?_ | refine WD.nil (WO.go rfl ?_) | refine W.region rfl (WO.go rfl ?_) | refine W.draw (id := 6) 10 [] rfl (by decide +kernel) rfl (WD.go rfl ?_) | refine WO.gives sameZ_W rfl rfl rfl rfl rfl rfl rfl rfl rfl (WO.go rfl ?_) | refine WD.gives sameZ_W rfl rfl rfl rfl rfl rfl rfl rfl rfl (WD.go rfl ?_) | refine WO.gives ih_p rfl rfl rfl rfl rfl rfl rfl rfl rfl (WO.go rfl ?_) | refine WD.gives ih_p rfl rfl rfl rfl rfl rfl rfl rfl rfl (WD.go rfl ?_) | refine WO.append0 rfl rfl rfl rfl rfl rfl rfl rfl rfl (WO.go rfl ?_) | refine WO.appendF (by simp) (by exact lens_ok rfl) (by exact lens_ok rfl) (by first | decide | simp) (by first | decide | simp) rfl rfl rfl rfl rfl rfl rfl rfl rfl rfl (WO.go rfl ?_) | refine WO.appendI (by simp) (by exact lens_ok rfl) (by first | decide | simp) (by first | decide | simp) rfl rfl rfl rfl rfl rfl rfl rfl rfl rfl (WO.go rfl ?_) | refine W.loop ?_ | refine W.exit ?_)
    exact W.ret (.ret [_] rfl rfl)
  | un =>
    refine givesW (fn := Tryz.f26) Tryz.func26 rfl rfl rfl ?_
    repeat (first | refine W.condT rfl ?_ | refine W.condF rfl ?_ | refine W.seq ?_ | refine W.block ?_ | refine W.skip ?_ | refine WO.nil ?_ | refine WD.nil (WO.go rfl ?_) | refine W.region rfl (WO.go rfl ?_) | refine W.draw (id := 6) 10 [] rfl (by decide +kernel) rfl (WD.go rfl ?_) | refine WO.gives sameZ_W rfl rfl rfl rfl rfl rfl rfl rfl rfl (WO.go rfl ?_) | refine WD.gives sameZ_W rfl rfl rfl rfl rfl rfl rfl rfl rfl (WD.go rfl ?_) | refine WO.append0 rfl rfl rfl rfl rfl rfl rfl rfl rfl (WO.go rfl ?_) | refine WO.appendF (by simp) (by exact lens_ok rfl) (by exact lens_ok rfl) (by first | decide | simp) (by first | decide | simp) rfl rfl rfl rfl rfl rfl rfl rfl rfl rfl (WO.go rfl ?_) | refine WO.appendI (by simp) (by exact lens_ok rfl) (by first | decide | simp) (by first | decide | simp) rfl rfl rfl rfl rfl rfl rfl rfl rfl rfl (WO.go rfl ?_) | refine W.loop ?_ | refine W.exit ?_)
    exact W.ret (.ret [_] rfl rfl)
theorem sameAll2_W (a b : T) : Gives (AC X) 163 [.sl .no [cT a, cT b], .sl .no [cT a, cT b]] (.bool true) := by
  refine givesW (fn := Tryz.f163) Tryz.func163 rfl rfl rfl ?_
  repeat (first | refine W.condT rfl ?_ | refine W.condF rfl ?_ | refine W.seq ?_ | refine W.block ?_ | refine W.skip ?_ | refine WO.nil ?_ | refine WD.nil (WO.go rfl ?_) | refine W.region rfl (WO.go rfl ?_) | refine W.draw (id := 6) 8 [] rfl (by decide +kernel) rfl (WD.go rfl ?_) | refine WO.gives (sameT_W a) rfl rfl rfl rfl rfl rfl rfl rfl rfl (WO.go rfl ?_) | refine WD.gives (sameT_W a) rfl rfl rfl rfl rfl rfl rfl rfl rfl (WD.go rfl ?_) | refine WO.gives (sameT_W b) rfl rfl rfl rfl rfl rfl rfl rfl rfl (WO.go rfl ?_) | refine WD.gives (sameT_W b) rfl rfl rfl rfl rfl rfl rfl rfl rfl (WD.go rfl ?_) | refine WO.append0 rfl rfl rfl rfl rfl rfl rfl rfl rfl (WO.go rfl ?_) | refine WO.appendF (by simp) (by exact lens_ok rfl) (by exact lens_ok rfl) (by first | decide | simp) (by first | decide | simp) rfl rfl rfl rfl rfl rfl rfl rfl rfl rfl (WO.go rfl ?_) | refine WO.appendI (by simp) (by exact lens_ok rfl) (by first | decide | simp) (by first | decide | simp) rfl rfl rfl rfl rfl rfl rfl rfl rfl rfl (WO.go rfl ?_) | refine W.loop ?_ | refine W.exit ?_)
  exact W.ret (.ret [_] rfl rfl)
theorem sameAll0_W : Gives (AC X) 163 [.sl .no [], .sl .no []] (.bool true) := by
  refine givesW (fn := Tryz.f163) Tryz.func163 rfl rfl rfl ?_
  repeat (first | refine W.condT rfl ?_ | refine W.condF rfl ?_ | refine W.seq ?_ | refine W.block ?_ | refine W.skip ?_ | refine WO.nil ?_ | refine WD.nil (WO.go rfl ?_) | refine W.region rfl (WO.go rfl ?_) | refine W.draw (id := 6) 8 [] rfl (by decide +kernel) rfl (WD.go rfl ?_) | refine WO.append0 rfl rfl rfl rfl rfl rfl rfl rfl rfl (WO.go rfl ?_) | refine WO.appendF (by simp) (by exact lens_ok rfl) (by exact lens_ok rfl) (by first | decide | simp) (by first | decide | simp) rfl rfl rfl rfl rfl rfl rfl rfl rfl rfl (WO.go rfl ?_) | refine WO.appendI (by simp) (by exact lens_ok rfl) (by first | decide | simp) (by first | decide | simp) rfl rfl rfl rfl rfl rfl rfl rfl rfl rfl (WO.go rfl ?_) | refine W.loop ?_ | refine W.exit ?_)
  exact W.ret (.ret [_] rfl rfl)
theorem sameF_W : ∀ (f : Fo), Gives (AC X) 76 [.agg (cF f), .agg (cF f)] (.bool true)
  | .eq a b => by
    refine givesW (fn := Tryz.f76) Tryz.func76 rfl rfl rfl ?_
    repeat (first | refine W.condT rfl ?_ | refine W.condF rfl ?_ | refine W.seq ?_ | refine W.block ?_ | refine W.skip ?_ | refine WO.nil ?_ | refine WD.nil (WO.go rfl ?_) | refine W.region rfl (WO.go rfl ?_) | refine W.draw (id := 6) 10 [] rfl (by decide +kernel) rfl (WD.go rfl ?_) | refine WO.gives sameZ_W rfl rfl rfl rfl rfl rfl rfl rfl rfl (WO.go rfl ?_) | refine WD.gives sameZ_W rfl rfl rfl rfl rfl rfl rfl rfl rfl (WD.go rfl ?_) | refine WO.gives (sameAll2_W a b) rfl rfl rfl rfl rfl rfl rfl rfl rfl (WO.go rfl ?_) | refine WD.gives (sameAll2_W a b) rfl rfl rfl rfl rfl rfl rfl rfl rfl (WD.go rfl ?_) | refine WO.append0 rfl rfl rfl rfl rfl rfl rfl rfl rfl (WO.go rfl ?_) | refine WO.appendF (by simp) (by exact lens_ok rfl) (by exact lens_ok rfl) (by first | decide | simp) (by first | decide | simp) rfl rfl rfl rfl rfl rfl rfl rfl rfl rfl (WO.go rfl ?_) | refine WO.appendI (by simp) (by exact lens_ok rfl) (by first | decide | simp) (by first | decide | simp) rfl rfl rfl rfl rfl rfl rfl rfl rfl rfl (WO.go rfl ?_) | refine W.loop ?_ | refine W.exit ?_)
    exact W.ret (.ret [_] rfl rfl)
  | .bi .an f g => by
    have h1 := sameF_W f
    have h2 := sameF_W g
    refine givesW (fn := Tryz.f76) Tryz.func76 rfl rfl rfl ?_
    repeat (first | refine W.condT rfl ?_ | refine W.condF rfl ?_ | refine W.seq ?_ | refine W.block ?_ | refine W.skip ?_ | refine WO.nil ?_ | refine WD.nil (WO.go rfl ?_) | refine W.region rfl (WO.go rfl ?_) | refine W.draw (id := 6) 10 [] rfl (by decide +kernel) rfl (WD.go rfl ?_) | refine WO.gives sameZ_W rfl rfl rfl rfl rfl rfl rfl rfl rfl (WO.go rfl ?_) | refine WD.gives sameZ_W rfl rfl rfl rfl rfl rfl rfl rfl rfl (WD.go rfl ?_) | refine WO.gives sameAll0_W rfl rfl rfl rfl rfl rfl rfl rfl rfl (WO.go rfl ?_) | refine WD.gives sameAll0_W rfl rfl rfl rfl rfl rfl rfl rfl rfl (WD.go rfl ?_) | refine WO.gives h1 rfl rfl rfl rfl rfl rfl rfl rfl rfl (WO.go rfl ?_) | refine WD.gives h1 rfl rfl rfl rfl rfl rfl rfl rfl rfl (WD.go rfl ?_) | refine WO.gives h2 rfl rfl rfl rfl rfl rfl rfl rfl rfl (WO.go rfl ?_) | refine WD.gives h2 rfl rfl rfl rfl rfl rfl rfl rfl rfl (WD.go rfl ?_) | refine WO.append0 rfl rfl rfl rfl rfl rfl rfl rfl rfl (WO.go rfl ?_) | refine WO.appendF (by simp) (by exact lens_ok rfl) (by exact lens_ok rfl) (by first | decide | simp) (by first | decide | simp) rfl rfl rfl rfl rfl rfl rfl rfl rfl rfl (WO.go rfl ?_) | refine WO.appendI (by simp) (by exact lens_ok rfl) (by first | decide | simp) (by first | decide | simp) rfl rfl rfl rfl rfl rfl rfl rfl rfl rfl (WO.go rfl ?_) | refine W.loop ?_ | refine W.exit ?_)
    exact W.ret (.ret [_] rfl rfl)
  | .bi .im f g => by
    have h1 := sameF_W f
    have h2 := sameF_W g
    refine givesW (fn := Tryz.f76) Tryz.func76 rfl rfl rfl ?_
    repeat (first | refine W.condT rfl ?_ | refine W.condF rfl ?_ | refine W.seq ?_ | refine W.block ?_ | refine W.skip ?_ | refine WO.nil ?_ | refine WD.nil (WO.go rfl ?_) | refine W.region rfl (WO.go rfl ?_) | refine W.draw (id := 6) 10 [] rfl (by decide +kernel) rfl (WD.go rfl ?_) | refine WO.gives sameZ_W rfl rfl rfl rfl rfl rfl rfl rfl rfl (WO.go rfl ?_) | refine WD.gives sameZ_W rfl rfl rfl rfl rfl rfl rfl rfl rfl (WD.go rfl ?_) | refine WO.gives sameAll0_W rfl rfl rfl rfl rfl rfl rfl rfl rfl (WO.go rfl ?_) | refine WD.gives sameAll0_W rfl rfl rfl rfl rfl rfl rfl rfl rfl (WD.go rfl ?_) | refine WO.gives h1 rfl rfl rfl rfl rfl rfl rfl rfl rfl (WO.go rfl ?_) | refine WD.gives h1 rfl rfl rfl rfl rfl rfl rfl rfl rfl (WD.go rfl ?_) | refine WO.gives h2 rfl rfl rfl rfl rfl rfl rfl rfl rfl (WO.go rfl ?_) | refine WD.gives h2 rfl rfl rfl rfl rfl rfl rfl rfl rfl (WD.go rfl ?_) | refine WO.append0 rfl rfl rfl rfl rfl rfl rfl rfl rfl (WO.go rfl ?_) | refine WO.appendF (by simp) (by exact lens_ok rfl) (by exact lens_ok rfl) (by first | decide | simp) (by first | decide | simp) rfl rfl rfl rfl rfl rfl rfl rfl rfl rfl (WO.go rfl ?_) | refine WO.appendI (by simp) (by exact lens_ok rfl) (by first | decide | simp) (by first | decide | simp) rfl rfl rfl rfl rfl rfl rfl rfl rfl rfl (WO.go rfl ?_) | refine W.loop ?_ | refine W.exit ?_)
    exact W.ret (.ret [_] rfl rfl)
  | .q .al s f => by
    have h1 := sameF_W f
    have hs := sameY_W (X := X) s s
    rw [Y.same_refl] at hs
    refine givesW (fn := Tryz.f76) Tryz.func76 rfl rfl rfl ?_
    repeat (first | refine W.condT rfl ?_ | refine W.condF rfl ?_ | refine W.seq ?_ | refine W.block ?_ | refine W.skip ?_ | refine WO.nil ?_ | refine WD.nil (WO.go rfl ?_) | refine W.region rfl (WO.go rfl ?_) | refine W.draw (id := 6) 10 [] rfl (by decide +kernel) rfl (WD.go rfl ?_) | refine WO.gives hs rfl rfl rfl rfl rfl rfl rfl rfl rfl (WO.go rfl ?_) | refine WD.gives hs rfl rfl rfl rfl rfl rfl rfl rfl rfl (WD.go rfl ?_) | refine WO.gives sameAll0_W rfl rfl rfl rfl rfl rfl rfl rfl rfl (WO.go rfl ?_) | refine WD.gives sameAll0_W rfl rfl rfl rfl rfl rfl rfl rfl rfl (WD.go rfl ?_) | refine WO.gives h1 rfl rfl rfl rfl rfl rfl rfl rfl rfl (WO.go rfl ?_) | refine WD.gives h1 rfl rfl rfl rfl rfl rfl rfl rfl rfl (WD.go rfl ?_) | refine WO.append0 rfl rfl rfl rfl rfl rfl rfl rfl rfl (WO.go rfl ?_) | refine WO.appendF (by simp) (by exact lens_ok rfl) (by exact lens_ok rfl) (by first | decide | simp) (by first | decide | simp) rfl rfl rfl rfl rfl rfl rfl rfl rfl rfl (WO.go rfl ?_) | refine WO.appendI (by simp) (by exact lens_ok rfl) (by first | decide | simp) (by first | decide | simp) rfl rfl rfl rfl rfl rfl rfl rfl rfl rfl (WO.go rfl ?_) | refine W.loop ?_ | refine W.exit ?_)
    exact W.ret (.ret [_] rfl rfl)
  | .q .ex s f => by
    have h1 := sameF_W f
    have hs := sameY_W (X := X) s s
    rw [Y.same_refl] at hs
    refine givesW (fn := Tryz.f76) Tryz.func76 rfl rfl rfl ?_
    repeat (first | refine W.condT rfl ?_ | refine W.condF rfl ?_ | refine W.seq ?_ | refine W.block ?_ | refine W.skip ?_ | refine WO.nil ?_ | refine WD.nil (WO.go rfl ?_) | refine W.region rfl (WO.go rfl ?_) | refine W.draw (id := 6) 10 [] rfl (by decide +kernel) rfl (WD.go rfl ?_) | refine WO.gives hs rfl rfl rfl rfl rfl rfl rfl rfl rfl (WO.go rfl ?_) | refine WD.gives hs rfl rfl rfl rfl rfl rfl rfl rfl rfl (WD.go rfl ?_) | refine WO.gives sameAll0_W rfl rfl rfl rfl rfl rfl rfl rfl rfl (WO.go rfl ?_) | refine WD.gives sameAll0_W rfl rfl rfl rfl rfl rfl rfl rfl rfl (WD.go rfl ?_) | refine WO.gives h1 rfl rfl rfl rfl rfl rfl rfl rfl rfl (WO.go rfl ?_) | refine WD.gives h1 rfl rfl rfl rfl rfl rfl rfl rfl rfl (WD.go rfl ?_) | refine WO.append0 rfl rfl rfl rfl rfl rfl rfl rfl rfl (WO.go rfl ?_) | refine WO.appendF (by simp) (by exact lens_ok rfl) (by exact lens_ok rfl) (by first | decide | simp) (by first | decide | simp) rfl rfl rfl rfl rfl rfl rfl rfl rfl rfl (WO.go rfl ?_) | refine WO.appendI (by simp) (by exact lens_ok rfl) (by first | decide | simp) (by first | decide | simp) rfl rfl rfl rfl rfl rfl rfl rfl rfl rfl (WO.go rfl ?_) | refine W.loop ?_ | refine W.exit ?_)
    exact W.ret (.ret [_] rfl rfl)
  | .q .au s f => by
    have h1 := sameF_W f
    have hs := sameY_W (X := X) s s
    rw [Y.same_refl] at hs
    refine givesW (fn := Tryz.f76) Tryz.func76 rfl rfl rfl ?_
    repeat (first | refine W.condT rfl ?_ | refine W.condF rfl ?_ | refine W.seq ?_ | refine W.block ?_ | refine W.skip ?_ | refine WO.nil ?_ | refine WD.nil (WO.go rfl ?_) | refine W.region rfl (WO.go rfl ?_) | refine W.draw (id := 6) 10 [] rfl (by decide +kernel) rfl (WD.go rfl ?_) | refine WO.gives hs rfl rfl rfl rfl rfl rfl rfl rfl rfl (WO.go rfl ?_) | refine WD.gives hs rfl rfl rfl rfl rfl rfl rfl rfl rfl (WD.go rfl ?_) | refine WO.gives sameAll0_W rfl rfl rfl rfl rfl rfl rfl rfl rfl (WO.go rfl ?_) | refine WD.gives sameAll0_W rfl rfl rfl rfl rfl rfl rfl rfl rfl (WD.go rfl ?_) | refine WO.gives h1 rfl rfl rfl rfl rfl rfl rfl rfl rfl (WO.go rfl ?_) | refine WD.gives h1 rfl rfl rfl rfl rfl rfl rfl rfl rfl (WD.go rfl ?_) | refine WO.append0 rfl rfl rfl rfl rfl rfl rfl rfl rfl (WO.go rfl ?_) | refine WO.appendF (by simp) (by exact lens_ok rfl) (by exact lens_ok rfl) (by first | decide | simp) (by first | decide | simp) rfl rfl rfl rfl rfl rfl rfl rfl rfl rfl (WO.go rfl ?_) | refine WO.appendI (by simp) (by exact lens_ok rfl) (by first | decide | simp) (by first | decide | simp) rfl rfl rfl rfl rfl rfl rfl rfl rfl rfl (WO.go rfl ?_) | refine W.loop ?_ | refine W.exit ?_)
    exact W.ret (.ret [_] rfl rfl)
  | .q .eu s f => by
    have h1 := sameF_W f
    have hs := sameY_W (X := X) s s
    rw [Y.same_refl] at hs
    refine givesW (fn := Tryz.f76) Tryz.func76 rfl rfl rfl ?_
    repeat (first | refine W.condT rfl ?_ | refine W.condF rfl ?_ | refine W.seq ?_ | refine W.block ?_ | refine W.skip ?_ | refine WO.nil ?_ | refine WD.nil (WO.go rfl ?_) | refine W.region rfl (WO.go rfl ?_) | refine W.draw (id := 6) 10 [] rfl (by decide +kernel) rfl (WD.go rfl ?_) | refine WO.gives hs rfl rfl rfl rfl rfl rfl rfl rfl rfl (WO.go rfl ?_) | refine WD.gives hs rfl rfl rfl rfl rfl rfl rfl rfl rfl (WD.go rfl ?_) | refine WO.gives sameAll0_W rfl rfl rfl rfl rfl rfl rfl rfl rfl (WO.go rfl ?_) | refine WD.gives sameAll0_W rfl rfl rfl rfl rfl rfl rfl rfl rfl (WD.go rfl ?_) | refine WO.gives h1 rfl rfl rfl rfl rfl rfl rfl rfl rfl (WO.go rfl ?_) | refine WD.gives h1 rfl rfl rfl rfl rfl rfl rfl rfl rfl (WD.go rfl ?_) | refine WO.append0 rfl rfl rfl rfl rfl rfl rfl rfl rfl (WO.go rfl ?_) | refine WO.appendF (by simp) (by exact lens_ok rfl) (by exact lens_ok rfl) (by first | decide | simp) (by first | decide | simp) rfl rfl rfl rfl rfl rfl rfl rfl rfl rfl (WO.go rfl ?_) | refine WO.appendI (by simp) (by exact lens_ok rfl) (by first | decide | simp) (by first | decide | simp) rfl rfl rfl rfl rfl rfl rfl rfl rfl rfl (WO.go rfl ?_) | refine W.loop ?_ | refine W.exit ?_)
    exact W.ret (.ret [_] rfl rfl)
abbrev zT : List AV := [.int .i64 0, .int .i64 0, .int .i64 0, .sl .no [], .sl .no []]
def rPutT (x : T) : AV := if x.size ≤ 4096 then .tup [.agg (cT x), .int .i64 0] else .tup [.agg zT, .int .i64 4]
theorem put03_W (x u : T) (hs : x.size ≤ 4096) (ht : x.tyLe 64) (hus : u.size ≤ 4096) (hut : u.tyLe 64) (hl : x.le 536870912) (hul : u.le 536870912) :
    Gives (AC X) 67 [.agg (cT x), .int .i64 0, .agg (cT u)] (rPutT (T.put 0 u x)) := by
  have hu1 := T.size_pos u
  have hsz := T.size_put u x 0
  have htl := T.times_le x 0
  have e0 : IntKind.i64.wrap ((u.size : Int) - 1) = ((u.size - 1 : Nat) : Int) := by rw [wrap_id (by omega) (by omega)]; omega
  have hm : T.times 0 x * (u.size - 1) ≤ 4096 * 4096 := Nat.mul_le_mul (by omega) (by omega)
  have hm2 : T.times 0 x * u.size = T.times 0 x * (u.size - 1) + T.times 0 x := by
    conv => lhs; rw [show u.size = (u.size - 1) + 1 by omega, Nat.mul_add, Nat.mul_one]
  have e1 : IntKind.i64.wrap (((T.times 0 x : Nat) : Int) * ((u.size - 1 : Nat) : Int)) = ((T.times 0 x * (u.size - 1) : Nat) : Int) := by
    rw [← Int.natCast_mul]; exact wrap_id (by omega) (by omega)
  have e2 : IntKind.i64.wrap ((x.size : Int) + ((T.times 0 x * (u.size - 1) : Nat) : Int)) = ((T.put 0 u x).size : Int) := by
    rw [wrap_id (by omega) (by omega)]; omega
  have hin := in03_W (X := X) u (by omega) (T.le_mono hul (by omega)) x 0 (by omega) (T.le_mono hl (by omega))
  have hcp := copyT_W (X := X) (T.put 0 u x)
  have htm := times03_W (X := X) x 0 (by omega) (by omega)
  refine givesW (fn := Tryz.f67) Tryz.func67 rfl rfl rfl ?_
  repeat (first | refine W.condT rfl ?_ | refine W.condF rfl ?_ | refine W.seq ?_ | refine W.block ?_ | refine W.skip ?_ | refine WO.nil ?_ | refine WD.nil (WO.go rfl ?_) | refine W.region rfl (WO.go rfl ?_) | refine W.draw (id := 11) 6 [] rfl (by decide +kernel) rfl (WD.go rfl ?_) | refine WO.gives (check02_W x hs ht) rfl rfl rfl rfl rfl rfl rfl rfl rfl (WO.go rfl ?_) | refine WD.gives (check02_W x hs ht) rfl rfl rfl rfl rfl rfl rfl rfl rfl (WD.go rfl ?_) | refine WO.gives (check02_W u hus hut) rfl rfl rfl rfl rfl rfl rfl rfl rfl (WO.go rfl ?_) | refine WD.gives (check02_W u hus hut) rfl rfl rfl rfl rfl rfl rfl rfl rfl (WD.go rfl ?_) | refine WO.gives (least03_W x hl) rfl rfl rfl rfl rfl rfl rfl rfl rfl (WO.go rfl ?_) | refine WD.gives (least03_W x hl) rfl rfl rfl rfl rfl rfl rfl rfl rfl (WD.go rfl ?_) | refine WO.gives (least03_W u hul) rfl rfl rfl rfl rfl rfl rfl rfl rfl (WO.go rfl ?_) | refine WD.gives (least03_W u hul) rfl rfl rfl rfl rfl rfl rfl rfl rfl (WD.go rfl ?_) | refine WO.gives (count02_W x (by omega)) rfl rfl rfl rfl rfl rfl rfl rfl rfl (WO.go rfl ?_) | refine WD.gives (count02_W x (by omega)) rfl rfl rfl rfl rfl rfl rfl rfl rfl (WD.go rfl ?_) | refine WO.gives htm rfl rfl rfl rfl rfl rfl rfl rfl rfl (WO.go rfl ?_) | refine WD.gives htm rfl rfl rfl rfl rfl rfl rfl rfl rfl (WD.go rfl ?_) | refine WO.gives (count02_W u (by omega)) rfl rfl rfl rfl rfl rfl rfl rfl rfl (WO.go rfl ?_) | refine WD.gives (count02_W u (by omega)) rfl rfl rfl rfl rfl rfl rfl rfl rfl (WD.go rfl ?_) | refine WO.append0 rfl rfl rfl rfl rfl rfl rfl rfl rfl (WO.go rfl ?_) | refine WO.appendF (by simp) (by exact lens_ok rfl) (by exact lens_ok rfl) (by first | decide | simp) (by first | decide | simp) rfl rfl rfl rfl rfl rfl rfl rfl rfl rfl (WO.go rfl ?_) | refine WO.appendI (by simp) (by exact lens_ok rfl) (by first | decide | simp) (by first | decide | simp) rfl rfl rfl rfl rfl rfl rfl rfl rfl rfl (WO.go rfl ?_) | refine W.loop ?_ | refine W.exit ?_)
  have key : decide (IntKind.i64.wrap ((x.size : Int) + IntKind.i64.wrap (((T.times 0 x : Nat) : Int) * IntKind.i64.wrap ((u.size : Int) - 1))) > 4096) = decide (((T.put 0 u x).size : Int) > 4096) := by rw [e0, e1, e2]
  by_cases hp : (T.put 0 u x).size ≤ 4096
  · rw [decide_eq_false (show ¬ (((T.put 0 u x).size : Int) > 4096) by omega)] at key
    refine W.cond rfl (fun h => absurd (h.symm.trans key) (by decide)) (fun _ => ?_)
    repeat (first | refine W.condT rfl ?_ | refine W.condF rfl ?_ | refine W.seq ?_ | refine W.block ?_ | refine W.skip ?_ | refine WO.nil ?_ | refine WD.nil (WO.go rfl ?_) | refine W.region rfl (WO.go rfl ?_) | refine W.draw (id := 11) 6 [] rfl (by decide +kernel) rfl (WD.go rfl ?_) | refine WO.gives hin rfl rfl rfl rfl rfl rfl rfl rfl rfl (WO.go rfl ?_) | refine WD.gives hin rfl rfl rfl rfl rfl rfl rfl rfl rfl (WD.go rfl ?_) | refine WO.gives hcp rfl rfl rfl rfl rfl rfl rfl rfl rfl (WO.go rfl ?_) | refine WD.gives hcp rfl rfl rfl rfl rfl rfl rfl rfl rfl (WD.go rfl ?_) | refine WO.append0 rfl rfl rfl rfl rfl rfl rfl rfl rfl (WO.go rfl ?_) | refine WO.appendF (by simp) (by exact lens_ok rfl) (by exact lens_ok rfl) (by first | decide | simp) (by first | decide | simp) rfl rfl rfl rfl rfl rfl rfl rfl rfl rfl (WO.go rfl ?_) | refine WO.appendI (by simp) (by exact lens_ok rfl) (by first | decide | simp) (by first | decide | simp) rfl rfl rfl rfl rfl rfl rfl rfl rfl rfl (WO.go rfl ?_) | refine W.loop ?_ | refine W.exit ?_)
    exact W.ret (.ret [_, _] rfl (by simp only [rPutT, if_pos hp]; rfl))
  · rw [decide_eq_true (show (((T.put 0 u x).size : Int) > 4096) by omega)] at key
    refine W.cond rfl (fun _ => ?_) (fun h => absurd (h.symm.trans key) (by decide))
    repeat (first | refine W.condT rfl ?_ | refine W.condF rfl ?_ | refine W.seq ?_ | refine W.block ?_ | refine W.skip ?_ | refine WO.nil ?_ | refine WD.nil (WO.go rfl ?_) | refine W.region rfl (WO.go rfl ?_) | refine W.draw (id := 11) 6 [] rfl (by decide +kernel) rfl (WD.go rfl ?_) | refine WO.append0 rfl rfl rfl rfl rfl rfl rfl rfl rfl (WO.go rfl ?_) | refine WO.appendF (by simp) (by exact lens_ok rfl) (by exact lens_ok rfl) (by first | decide | simp) (by first | decide | simp) rfl rfl rfl rfl rfl rfl rfl rfl rfl rfl (WO.go rfl ?_) | refine WO.appendI (by simp) (by exact lens_ok rfl) (by first | decide | simp) (by first | decide | simp) rfl rfl rfl rfl rfl rfl rfl rfl rfl rfl (WO.go rfl ?_) | refine W.loop ?_ | refine W.exit ?_)
    exact W.ret (.ret [_, _] rfl (by simp only [rPutT, if_neg hp]; rfl))
end Go.Proofs.YtjdlmhbkfammlabGreatDoor
