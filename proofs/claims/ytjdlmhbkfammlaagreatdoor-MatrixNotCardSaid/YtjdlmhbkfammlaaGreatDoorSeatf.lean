/- A part of the proof: walks of the functions. -/
import Derived.Test.YtjdlmhbkfammlaaGreatDoorSeate
namespace Go.Proofs.YtjdlmhbkfammlaaGreatDoor
open Go Go.Sh
set_option linter.unusedVariables false
set_option linter.unusedSimpArgs false
set_option maxHeartbeats 4000000
variable {X : CRel}
/-! package matrix -/
theorem checkTerm_W (x : T) (hs : x.size ≤ 4096) (ht : x.tyLe 64) : Gives (AC X) 68 [.agg (cT x)] (.tup [.int .i64 x.size, .int .i64 0]) := by
  refine givesW (fn := Tryz.f68) Tryz.func68 rfl rfl rfl ?_
  repeat (first | refine W.condT rfl ?_ | refine W.condF rfl ?_ | refine W.seq ?_ | refine W.block ?_ | refine W.skip ?_ | refine WO.nil ?_ | refine WD.nil (WO.go rfl ?_) | refine W.region rfl (WO.go rfl ?_) | refine WO.givesT (termNodes_W x (by omega) ht) rfl rfl rfl rfl rfl rfl rfl rfl rfl (WO.go rfl ?_) | refine WD.givesT (termNodes_W x (by omega) ht) rfl rfl rfl rfl rfl rfl rfl rfl rfl (WD.go rfl ?_) | refine WO.append0 rfl rfl rfl rfl rfl rfl rfl rfl rfl (WO.go rfl ?_) | refine WO.appendF (by simp) (by exact lens_ok rfl) (by exact lens_ok rfl) (by first | decide | simp) (by first | decide | simp) rfl rfl rfl rfl rfl rfl rfl rfl rfl rfl (WO.go rfl ?_) | refine WO.appendI (by simp) (by exact lens_ok rfl) (by first | decide | simp) (by first | decide | simp) rfl rfl rfl rfl rfl rfl rfl rfl rfl rfl (WO.go rfl ?_) | refine W.loop ?_ | refine W.exit ?_)
  refine W.cond rfl (fun h => ?_) (fun _ => ?_)
  · simp at h; omega
  · repeat (first | refine W.condT rfl ?_ | refine W.condF rfl ?_ | refine W.seq ?_ | refine W.block ?_ | refine W.skip ?_ | refine WO.nil ?_ | refine WD.nil (WO.go rfl ?_) | refine W.region rfl (WO.go rfl ?_) | refine WO.append0 rfl rfl rfl rfl rfl rfl rfl rfl rfl (WO.go rfl ?_) | refine WO.appendF (by simp) (by exact lens_ok rfl) (by exact lens_ok rfl) (by first | decide | simp) (by first | decide | simp) rfl rfl rfl rfl rfl rfl rfl rfl rfl rfl (WO.go rfl ?_) | refine WO.appendI (by simp) (by exact lens_ok rfl) (by first | decide | simp) (by first | decide | simp) rfl rfl rfl rfl rfl rfl rfl rfl rfl rfl (WO.go rfl ?_) | refine W.loop ?_ | refine W.exit ?_)
    exact W.ret (.ret [_, _] rfl rfl)
theorem termsCheck_W (x : T) (hs : x.size ≤ 4096) (ht : x.tyLe 64) : Gives (AC X) 36 [.agg (cT x)] (.int .i64 0) := by
  refine givesW (fn := Tryz.f36) Tryz.func36 rfl rfl rfl ?_
  repeat (first | refine W.condT rfl ?_ | refine W.condF rfl ?_ | refine W.seq ?_ | refine W.block ?_ | refine W.skip ?_ | refine WO.nil ?_ | refine WD.nil (WO.go rfl ?_) | refine W.region rfl (WO.go rfl ?_) | refine WO.givesT (checkTerm_W x hs ht) rfl rfl rfl rfl rfl rfl rfl rfl rfl (WO.go rfl ?_) | refine WD.givesT (checkTerm_W x hs ht) rfl rfl rfl rfl rfl rfl rfl rfl rfl (WD.go rfl ?_) | refine WO.append0 rfl rfl rfl rfl rfl rfl rfl rfl rfl (WO.go rfl ?_) | refine WO.appendF (by simp) (by exact lens_ok rfl) (by exact lens_ok rfl) (by first | decide | simp) (by first | decide | simp) rfl rfl rfl rfl rfl rfl rfl rfl rfl rfl (WO.go rfl ?_) | refine WO.appendI (by simp) (by exact lens_ok rfl) (by first | decide | simp) (by first | decide | simp) rfl rfl rfl rfl rfl rfl rfl rfl rfl rfl (WO.go rfl ?_) | refine W.loop ?_ | refine W.exit ?_)
  exact W.ret (.ret [_] rfl rfl)
theorem kinds_W (f : Fo) (w c : Y) (hp : f.pure) (hs : f.size ≤ 4096) (ht : f.tyLe 64) (e : f.bothE = some (w, c)) : Gives (AC X) 72 [.agg (cF f)] (.tup [.agg (cY w), .agg (cY c)]) := by
  have hw := witness_W (X := X) f hp hs ht
  have hc := challenge_W (X := X) f hp hs ht
  rw [e] at hw hc
  refine givesW (fn := Tryz.f72) Tryz.func72 rfl rfl rfl ?_
  repeat (first | refine W.condT rfl ?_ | refine W.condF rfl ?_ | refine W.seq ?_ | refine W.block ?_ | refine W.skip ?_ | refine WO.nil ?_ | refine WD.nil (WO.go rfl ?_) | refine W.region rfl (WO.go rfl ?_) | refine WO.givesT hw rfl rfl rfl rfl rfl rfl rfl rfl rfl (WO.go rfl ?_) | refine WD.givesT hw rfl rfl rfl rfl rfl rfl rfl rfl rfl (WD.go rfl ?_) | refine WO.givesT hc rfl rfl rfl rfl rfl rfl rfl rfl rfl (WO.go rfl ?_) | refine WD.givesT hc rfl rfl rfl rfl rfl rfl rfl rfl rfl (WD.go rfl ?_) | refine WO.append0 rfl rfl rfl rfl rfl rfl rfl rfl rfl (WO.go rfl ?_) | refine WO.appendF (by simp) (by exact lens_ok rfl) (by exact lens_ok rfl) (by first | decide | simp) (by first | decide | simp) rfl rfl rfl rfl rfl rfl rfl rfl rfl rfl (WO.go rfl ?_) | refine WO.appendI (by simp) (by exact lens_ok rfl) (by first | decide | simp) (by first | decide | simp) rfl rfl rfl rfl rfl rfl rfl rfl rfl rfl (WO.go rfl ?_) | refine W.loop ?_ | refine W.exit ?_)
  refine W.any2 _ rfl (by decide +kernel) (by repeat (first | exact trivial | exact rfl | exact Fr.ext2 (fun i => cond2 rfl i _ _ _) rfl rfl | refine And.intro ?_ ?_)) ?_
  repeat (first | refine W.condT rfl ?_ | refine W.condF rfl ?_ | refine W.seq ?_ | refine W.block ?_ | refine W.skip ?_ | refine WO.nil ?_ | refine WD.nil (WO.go rfl ?_) | refine W.region rfl (WO.go rfl ?_) | refine WO.append0 rfl rfl rfl rfl rfl rfl rfl rfl rfl (WO.go rfl ?_) | refine WO.appendF (by simp) (by exact lens_ok rfl) (by exact lens_ok rfl) (by first | decide | simp) (by first | decide | simp) rfl rfl rfl rfl rfl rfl rfl rfl rfl rfl (WO.go rfl ?_) | refine WO.appendI (by simp) (by exact lens_ok rfl) (by first | decide | simp) (by first | decide | simp) rfl rfl rfl rfl rfl rfl rfl rfl rfl rfl (WO.go rfl ?_) | refine W.loop ?_ | refine W.exit ?_)
  exact W.ret (.ret [_, _] rfl rfl)
def rMat : Option Fo → AV
  | some m => .tup [.agg (cF m), .int .i64 0]
  | none => .tup [.agg zF, .int .i64 4]
def kB : Bk → Int
  | .an => 2 | .im => 3
theorem twoM_W (k : Bk) (a b : Fo) (v c w d : T) (ra rb : Option Fo) (ha : Gives (AC X) 39 [.agg (cF a), .agg (cT v), .agg (cT c)] (rMat ra)) (hb : Gives (AC X) 39 [.agg (cF b), .agg (cT w), .agg (cT d)] (rMat rb))
    (hsa : ∀ x, ra = some x → x.size ≤ 4096) (hsb : ∀ x, rb = some x → x.size ≤ 4096) :
    Gives (AC X) 73 [.int .i64 (kB k), .agg (cF a), .agg (cT v), .agg (cT c), .agg (cF b), .agg (cT w), .agg (cT d)] (rMat (twoR k ra rb)) := by
  cases ra with
  | none =>
    refine givesW (fn := Tryz.f73) Tryz.func73 rfl rfl rfl ?_
    repeat (first | refine W.condT rfl ?_ | refine W.condF rfl ?_ | refine W.seq ?_ | refine W.block ?_ | refine W.skip ?_ | refine WO.nil ?_ | refine WD.nil (WO.go rfl ?_) | refine W.region rfl (WO.go rfl ?_) | refine WO.givesT ha rfl rfl rfl rfl rfl rfl rfl rfl rfl (WO.go rfl ?_) | refine WD.givesT ha rfl rfl rfl rfl rfl rfl rfl rfl rfl (WD.go rfl ?_) | refine WO.append0 rfl rfl rfl rfl rfl rfl rfl rfl rfl (WO.go rfl ?_) | refine WO.appendF (by simp) (by exact lens_ok rfl) (by exact lens_ok rfl) (by first | decide | simp) (by first | decide | simp) rfl rfl rfl rfl rfl rfl rfl rfl rfl rfl (WO.go rfl ?_) | refine WO.appendI (by simp) (by exact lens_ok rfl) (by first | decide | simp) (by first | decide | simp) rfl rfl rfl rfl rfl rfl rfl rfl rfl rfl (WO.go rfl ?_) | refine W.loop ?_ | refine W.exit ?_)
    exact W.ret (.ret [_, _] rfl rfl)
  | some x =>
    have hx := hsa x rfl
    cases rb with
    | none =>
      refine givesW (fn := Tryz.f73) Tryz.func73 rfl rfl rfl ?_
      repeat (first | refine W.condT rfl ?_ | refine W.condF rfl ?_ | refine W.seq ?_ | refine W.block ?_ | refine W.skip ?_ | refine WO.nil ?_ | refine WD.nil (WO.go rfl ?_) | refine W.region rfl (WO.go rfl ?_) | refine WO.givesT ha rfl rfl rfl rfl rfl rfl rfl rfl rfl (WO.go rfl ?_) | refine WD.givesT ha rfl rfl rfl rfl rfl rfl rfl rfl rfl (WD.go rfl ?_) | refine WO.givesT hb rfl rfl rfl rfl rfl rfl rfl rfl rfl (WO.go rfl ?_) | refine WD.givesT hb rfl rfl rfl rfl rfl rfl rfl rfl rfl (WD.go rfl ?_) | refine WO.append0 rfl rfl rfl rfl rfl rfl rfl rfl rfl (WO.go rfl ?_) | refine WO.appendF (by simp) (by exact lens_ok rfl) (by exact lens_ok rfl) (by first | decide | simp) (by first | decide | simp) rfl rfl rfl rfl rfl rfl rfl rfl rfl rfl (WO.go rfl ?_) | refine WO.appendI (by simp) (by exact lens_ok rfl) (by first | decide | simp) (by first | decide | simp) rfl rfl rfl rfl rfl rfl rfl rfl rfl rfl (WO.go rfl ?_) | refine W.loop ?_ | refine W.exit ?_)
      exact W.ret (.ret [_, _] rfl rfl)
    | some y =>
      have hy := hsb y rfl
      cases k with
      | an =>
        have hz := sizeS_W (X := X) (.bi .an x y) (by simp only [Fo.size]; omega)
        simp only [twoR]
        refine givesW (fn := Tryz.f73) Tryz.func73 rfl rfl rfl ?_
        repeat (first | refine W.condT rfl ?_ | refine W.condF rfl ?_ | refine W.seq ?_ | refine W.block ?_ | refine W.skip ?_ | refine WO.nil ?_ | refine WD.nil (WO.go rfl ?_) | refine W.region rfl (WO.go rfl ?_) | refine WO.givesT ha rfl rfl rfl rfl rfl rfl rfl rfl rfl (WO.go rfl ?_) | refine WD.givesT ha rfl rfl rfl rfl rfl rfl rfl rfl rfl (WD.go rfl ?_) | refine WO.givesT hb rfl rfl rfl rfl rfl rfl rfl rfl rfl (WO.go rfl ?_) | refine WD.givesT hb rfl rfl rfl rfl rfl rfl rfl rfl rfl (WD.go rfl ?_) | refine WO.gives hz rfl rfl rfl rfl rfl rfl rfl rfl rfl (WO.go rfl ?_) | refine WD.gives hz rfl rfl rfl rfl rfl rfl rfl rfl rfl (WD.go rfl ?_) | refine WO.append0 rfl rfl rfl rfl rfl rfl rfl rfl rfl (WO.go rfl ?_) | refine WO.appendF (by simp) (by exact lens_ok rfl) (by exact lens_ok rfl) (by first | decide | simp) (by first | decide | simp) rfl rfl rfl rfl rfl rfl rfl rfl rfl rfl (WO.go rfl ?_) | refine WO.appendI (by simp) (by exact lens_ok rfl) (by first | decide | simp) (by first | decide | simp) rfl rfl rfl rfl rfl rfl rfl rfl rfl rfl (WO.go rfl ?_) | refine W.loop ?_ | refine W.exit ?_)
        refine W.cond rfl (fun h => ?_) (fun h => ?_)
        · rw [if_neg (by simp at h; omega)]
          repeat (first | refine W.condT rfl ?_ | refine W.condF rfl ?_ | refine W.seq ?_ | refine W.block ?_ | refine W.skip ?_ | refine WO.nil ?_ | refine WD.nil (WO.go rfl ?_) | refine W.region rfl (WO.go rfl ?_) | refine WO.append0 rfl rfl rfl rfl rfl rfl rfl rfl rfl (WO.go rfl ?_) | refine WO.appendF (by simp) (by exact lens_ok rfl) (by exact lens_ok rfl) (by first | decide | simp) (by first | decide | simp) rfl rfl rfl rfl rfl rfl rfl rfl rfl rfl (WO.go rfl ?_) | refine WO.appendI (by simp) (by exact lens_ok rfl) (by first | decide | simp) (by first | decide | simp) rfl rfl rfl rfl rfl rfl rfl rfl rfl rfl (WO.go rfl ?_) | refine W.loop ?_ | refine W.exit ?_)
          exact W.ret (.ret [_, _] rfl rfl)
        · rw [if_pos (by simp at h; omega)]
          repeat (first | refine W.condT rfl ?_ | refine W.condF rfl ?_ | refine W.seq ?_ | refine W.block ?_ | refine W.skip ?_ | refine WO.nil ?_ | refine WD.nil (WO.go rfl ?_) | refine W.region rfl (WO.go rfl ?_) | refine WO.append0 rfl rfl rfl rfl rfl rfl rfl rfl rfl (WO.go rfl ?_) | refine WO.appendF (by simp) (by exact lens_ok rfl) (by exact lens_ok rfl) (by first | decide | simp) (by first | decide | simp) rfl rfl rfl rfl rfl rfl rfl rfl rfl rfl (WO.go rfl ?_) | refine WO.appendI (by simp) (by exact lens_ok rfl) (by first | decide | simp) (by first | decide | simp) rfl rfl rfl rfl rfl rfl rfl rfl rfl rfl (WO.go rfl ?_) | refine W.loop ?_ | refine W.exit ?_)
          exact W.ret (.ret [_, _] rfl rfl)
      | im =>
        have hz := sizeS_W (X := X) (.bi .im x y) (by simp only [Fo.size]; omega)
        simp only [twoR]
        refine givesW (fn := Tryz.f73) Tryz.func73 rfl rfl rfl ?_
        repeat (first | refine W.condT rfl ?_ | refine W.condF rfl ?_ | refine W.seq ?_ | refine W.block ?_ | refine W.skip ?_ | refine WO.nil ?_ | refine WD.nil (WO.go rfl ?_) | refine W.region rfl (WO.go rfl ?_) | refine WO.givesT ha rfl rfl rfl rfl rfl rfl rfl rfl rfl (WO.go rfl ?_) | refine WD.givesT ha rfl rfl rfl rfl rfl rfl rfl rfl rfl (WD.go rfl ?_) | refine WO.givesT hb rfl rfl rfl rfl rfl rfl rfl rfl rfl (WO.go rfl ?_) | refine WD.givesT hb rfl rfl rfl rfl rfl rfl rfl rfl rfl (WD.go rfl ?_) | refine WO.gives hz rfl rfl rfl rfl rfl rfl rfl rfl rfl (WO.go rfl ?_) | refine WD.gives hz rfl rfl rfl rfl rfl rfl rfl rfl rfl (WD.go rfl ?_) | refine WO.append0 rfl rfl rfl rfl rfl rfl rfl rfl rfl (WO.go rfl ?_) | refine WO.appendF (by simp) (by exact lens_ok rfl) (by exact lens_ok rfl) (by first | decide | simp) (by first | decide | simp) rfl rfl rfl rfl rfl rfl rfl rfl rfl rfl (WO.go rfl ?_) | refine WO.appendI (by simp) (by exact lens_ok rfl) (by first | decide | simp) (by first | decide | simp) rfl rfl rfl rfl rfl rfl rfl rfl rfl rfl (WO.go rfl ?_) | refine W.loop ?_ | refine W.exit ?_)
        refine W.cond rfl (fun h => ?_) (fun h => ?_)
        · rw [if_neg (by simp at h; omega)]
          repeat (first | refine W.condT rfl ?_ | refine W.condF rfl ?_ | refine W.seq ?_ | refine W.block ?_ | refine W.skip ?_ | refine WO.nil ?_ | refine WD.nil (WO.go rfl ?_) | refine W.region rfl (WO.go rfl ?_) | refine WO.append0 rfl rfl rfl rfl rfl rfl rfl rfl rfl (WO.go rfl ?_) | refine WO.appendF (by simp) (by exact lens_ok rfl) (by exact lens_ok rfl) (by first | decide | simp) (by first | decide | simp) rfl rfl rfl rfl rfl rfl rfl rfl rfl rfl (WO.go rfl ?_) | refine WO.appendI (by simp) (by exact lens_ok rfl) (by first | decide | simp) (by first | decide | simp) rfl rfl rfl rfl rfl rfl rfl rfl rfl rfl (WO.go rfl ?_) | refine W.loop ?_ | refine W.exit ?_)
          exact W.ret (.ret [_, _] rfl rfl)
        · rw [if_pos (by simp at h; omega)]
          repeat (first | refine W.condT rfl ?_ | refine W.condF rfl ?_ | refine W.seq ?_ | refine W.block ?_ | refine W.skip ?_ | refine WO.nil ?_ | refine WD.nil (WO.go rfl ?_) | refine W.region rfl (WO.go rfl ?_) | refine WO.append0 rfl rfl rfl rfl rfl rfl rfl rfl rfl (WO.go rfl ?_) | refine WO.appendF (by simp) (by exact lens_ok rfl) (by exact lens_ok rfl) (by first | decide | simp) (by first | decide | simp) rfl rfl rfl rfl rfl rfl rfl rfl rfl rfl (WO.go rfl ?_) | refine WO.appendI (by simp) (by exact lens_ok rfl) (by first | decide | simp) (by first | decide | simp) rfl rfl rfl rfl rfl rfl rfl rfl rfl rfl (WO.go rfl ?_) | refine W.loop ?_ | refine W.exit ?_)
          exact W.ret (.ret [_, _] rfl rfl)
theorem withM_W (f : Fo) (x w c : T) (r : Option Fo) (hf : f.size ≤ 4096) (hfl : f.le 1000000000) (hx : x.size ≤ 100000) (hxl : x.le 1000000000)
    (h : x.size ≤ 4096 → (Fo.put 0 x f).size ≤ 4096 → Gives (AC X) 39 [.agg (cF (Fo.put 0 x f)), .agg (cT w), .agg (cT c)] (rMat r)) :
    Gives (AC X) 78 [.agg (cF f), .agg (cT x), .agg (cT w), .agg (cT c)] (rMat (putR f x r)) := by
  have hn := nodesS_W (X := X) x (by omega)
  have hg := grownS_W (X := X) x (by omega) f (by omega)
  have hp := putFormulaS_W (X := X) x (by omega) hxl f (by omega) hfl
  by_cases h1 : x.size ≤ 4096
  · have key : decide ((x.size : Int) > 4096) = false := decide_eq_false (by omega)
    by_cases h2 : (Fo.put 0 x f).size ≤ 4096
    · have key2 : decide (((Fo.put 0 x f).size : Int) > 4096) = false := decide_eq_false (by omega)
      have ho := h h1 h2
      rw [putR, if_pos ⟨h1, h2⟩]
      cases r with
      | none =>
        refine givesW (fn := Tryz.f78) Tryz.func78 rfl rfl rfl ?_
        repeat (first | (refine WO.gives hn rfl rfl rfl rfl rfl rfl rfl rfl rfl (WO.steps 2 rfl (WO.fix 13 (congrArg AV.bool key) (WO.go rfl ?_)))) | refine W.condT rfl ?_ | refine W.condF rfl ?_ | refine W.seq ?_ | refine W.block ?_ | refine W.skip ?_ | refine WO.nil ?_ | refine WD.nil (WO.go rfl ?_) | refine W.region rfl (WO.go rfl ?_) | refine W.draw (id := 3) 8 [] rfl (by decide +kernel) rfl (WD.go rfl ?_) | refine WO.gives hg rfl rfl rfl rfl rfl rfl rfl rfl rfl (WO.go rfl ?_) | refine WD.gives hg rfl rfl rfl rfl rfl rfl rfl rfl rfl (WD.go rfl ?_) | refine WO.gives hp rfl rfl rfl rfl rfl rfl rfl rfl rfl (WO.go rfl ?_) | refine WD.gives hp rfl rfl rfl rfl rfl rfl rfl rfl rfl (WD.go rfl ?_) | refine WO.givesT ho rfl rfl rfl rfl rfl rfl rfl rfl rfl (WO.go rfl ?_) | refine WD.givesT ho rfl rfl rfl rfl rfl rfl rfl rfl rfl (WD.go rfl ?_) | refine WO.append0 rfl rfl rfl rfl rfl rfl rfl rfl rfl (WO.go rfl ?_) | refine WO.appendF (by simp) (by exact lens_ok rfl) (by exact lens_ok rfl) (by first | decide | simp) (by first | decide | simp) rfl rfl rfl rfl rfl rfl rfl rfl rfl rfl (WO.go rfl ?_) | refine WO.appendI (by simp) (by exact lens_ok rfl) (by first | decide | simp) (by first | decide | simp) rfl rfl rfl rfl rfl rfl rfl rfl rfl rfl (WO.go rfl ?_) | refine W.loop ?_ | refine W.exit ?_)
        refine W.cond rfl (fun h => absurd (h.symm.trans key2) (by decide)) (fun _ => ?_)
        repeat (first | refine W.condT rfl ?_ | refine W.condF rfl ?_ | refine W.seq ?_ | refine W.block ?_ | refine W.skip ?_ | refine WO.nil ?_ | refine WD.nil (WO.go rfl ?_) | refine W.region rfl (WO.go rfl ?_) | refine W.draw (id := 3) 8 [] rfl (by decide +kernel) rfl (WD.go rfl ?_) | refine WO.gives hp rfl rfl rfl rfl rfl rfl rfl rfl rfl (WO.go rfl ?_) | refine WD.gives hp rfl rfl rfl rfl rfl rfl rfl rfl rfl (WD.go rfl ?_) | refine WO.givesT ho rfl rfl rfl rfl rfl rfl rfl rfl rfl (WO.go rfl ?_) | refine WD.givesT ho rfl rfl rfl rfl rfl rfl rfl rfl rfl (WD.go rfl ?_) | refine WO.append0 rfl rfl rfl rfl rfl rfl rfl rfl rfl (WO.go rfl ?_) | refine WO.appendF (by simp) (by exact lens_ok rfl) (by exact lens_ok rfl) (by first | decide | simp) (by first | decide | simp) rfl rfl rfl rfl rfl rfl rfl rfl rfl rfl (WO.go rfl ?_) | refine WO.appendI (by simp) (by exact lens_ok rfl) (by first | decide | simp) (by first | decide | simp) rfl rfl rfl rfl rfl rfl rfl rfl rfl rfl (WO.go rfl ?_) | refine W.loop ?_ | refine W.exit ?_)
        exact W.ret (.ret [_, _] rfl rfl)
      | some y =>
        refine givesW (fn := Tryz.f78) Tryz.func78 rfl rfl rfl ?_
        repeat (first | (refine WO.gives hn rfl rfl rfl rfl rfl rfl rfl rfl rfl (WO.steps 2 rfl (WO.fix 13 (congrArg AV.bool key) (WO.go rfl ?_)))) | refine W.condT rfl ?_ | refine W.condF rfl ?_ | refine W.seq ?_ | refine W.block ?_ | refine W.skip ?_ | refine WO.nil ?_ | refine WD.nil (WO.go rfl ?_) | refine W.region rfl (WO.go rfl ?_) | refine W.draw (id := 3) 8 [] rfl (by decide +kernel) rfl (WD.go rfl ?_) | refine WO.gives hg rfl rfl rfl rfl rfl rfl rfl rfl rfl (WO.go rfl ?_) | refine WD.gives hg rfl rfl rfl rfl rfl rfl rfl rfl rfl (WD.go rfl ?_) | refine WO.gives hp rfl rfl rfl rfl rfl rfl rfl rfl rfl (WO.go rfl ?_) | refine WD.gives hp rfl rfl rfl rfl rfl rfl rfl rfl rfl (WD.go rfl ?_) | refine WO.givesT ho rfl rfl rfl rfl rfl rfl rfl rfl rfl (WO.go rfl ?_) | refine WD.givesT ho rfl rfl rfl rfl rfl rfl rfl rfl rfl (WD.go rfl ?_) | refine WO.append0 rfl rfl rfl rfl rfl rfl rfl rfl rfl (WO.go rfl ?_) | refine WO.appendF (by simp) (by exact lens_ok rfl) (by exact lens_ok rfl) (by first | decide | simp) (by first | decide | simp) rfl rfl rfl rfl rfl rfl rfl rfl rfl rfl (WO.go rfl ?_) | refine WO.appendI (by simp) (by exact lens_ok rfl) (by first | decide | simp) (by first | decide | simp) rfl rfl rfl rfl rfl rfl rfl rfl rfl rfl (WO.go rfl ?_) | refine W.loop ?_ | refine W.exit ?_)
        refine W.cond rfl (fun h => absurd (h.symm.trans key2) (by decide)) (fun _ => ?_)
        repeat (first | refine W.condT rfl ?_ | refine W.condF rfl ?_ | refine W.seq ?_ | refine W.block ?_ | refine W.skip ?_ | refine WO.nil ?_ | refine WD.nil (WO.go rfl ?_) | refine W.region rfl (WO.go rfl ?_) | refine W.draw (id := 3) 8 [] rfl (by decide +kernel) rfl (WD.go rfl ?_) | refine WO.gives hp rfl rfl rfl rfl rfl rfl rfl rfl rfl (WO.go rfl ?_) | refine WD.gives hp rfl rfl rfl rfl rfl rfl rfl rfl rfl (WD.go rfl ?_) | refine WO.givesT ho rfl rfl rfl rfl rfl rfl rfl rfl rfl (WO.go rfl ?_) | refine WD.givesT ho rfl rfl rfl rfl rfl rfl rfl rfl rfl (WD.go rfl ?_) | refine WO.append0 rfl rfl rfl rfl rfl rfl rfl rfl rfl (WO.go rfl ?_) | refine WO.appendF (by simp) (by exact lens_ok rfl) (by exact lens_ok rfl) (by first | decide | simp) (by first | decide | simp) rfl rfl rfl rfl rfl rfl rfl rfl rfl rfl (WO.go rfl ?_) | refine WO.appendI (by simp) (by exact lens_ok rfl) (by first | decide | simp) (by first | decide | simp) rfl rfl rfl rfl rfl rfl rfl rfl rfl rfl (WO.go rfl ?_) | refine W.loop ?_ | refine W.exit ?_)
        exact W.ret (.ret [_, _] rfl rfl)
    · have key2 : decide (((Fo.put 0 x f).size : Int) > 4096) = true := decide_eq_true (by omega)
      rw [putR, if_neg (fun h => h2 h.2)]
      refine givesW (fn := Tryz.f78) Tryz.func78 rfl rfl rfl ?_
      repeat (first | (refine WO.gives hn rfl rfl rfl rfl rfl rfl rfl rfl rfl (WO.steps 2 rfl (WO.fix 13 (congrArg AV.bool key) (WO.go rfl ?_)))) | refine W.condT rfl ?_ | refine W.condF rfl ?_ | refine W.seq ?_ | refine W.block ?_ | refine W.skip ?_ | refine WO.nil ?_ | refine WD.nil (WO.go rfl ?_) | refine W.region rfl (WO.go rfl ?_) | refine W.draw (id := 3) 8 [] rfl (by decide +kernel) rfl (WD.go rfl ?_) | refine WO.gives hg rfl rfl rfl rfl rfl rfl rfl rfl rfl (WO.go rfl ?_) | refine WD.gives hg rfl rfl rfl rfl rfl rfl rfl rfl rfl (WD.go rfl ?_) | refine WO.append0 rfl rfl rfl rfl rfl rfl rfl rfl rfl (WO.go rfl ?_) | refine WO.appendF (by simp) (by exact lens_ok rfl) (by exact lens_ok rfl) (by first | decide | simp) (by first | decide | simp) rfl rfl rfl rfl rfl rfl rfl rfl rfl rfl (WO.go rfl ?_) | refine WO.appendI (by simp) (by exact lens_ok rfl) (by first | decide | simp) (by first | decide | simp) rfl rfl rfl rfl rfl rfl rfl rfl rfl rfl (WO.go rfl ?_) | refine W.loop ?_ | refine W.exit ?_)
      refine W.cond rfl (fun _ => ?_) (fun h => absurd (h.symm.trans key2) (by decide))
      repeat (first | refine W.condT rfl ?_ | refine W.condF rfl ?_ | refine W.seq ?_ | refine W.block ?_ | refine W.skip ?_ | refine WO.nil ?_ | refine WD.nil (WO.go rfl ?_) | refine W.region rfl (WO.go rfl ?_) | refine W.draw (id := 3) 8 [] rfl (by decide +kernel) rfl (WD.go rfl ?_) | refine WO.append0 rfl rfl rfl rfl rfl rfl rfl rfl rfl (WO.go rfl ?_) | refine WO.appendF (by simp) (by exact lens_ok rfl) (by exact lens_ok rfl) (by first | decide | simp) (by first | decide | simp) rfl rfl rfl rfl rfl rfl rfl rfl rfl rfl (WO.go rfl ?_) | refine WO.appendI (by simp) (by exact lens_ok rfl) (by first | decide | simp) (by first | decide | simp) rfl rfl rfl rfl rfl rfl rfl rfl rfl rfl (WO.go rfl ?_) | refine W.loop ?_ | refine W.exit ?_)
      exact W.ret (.ret [_, _] rfl rfl)
  · have key : decide ((x.size : Int) > 4096) = true := decide_eq_true (by omega)
    rw [putR, if_neg (fun h => h1 h.1)]
    refine givesW (fn := Tryz.f78) Tryz.func78 rfl rfl rfl ?_
    repeat (first | (refine WO.gives hn rfl rfl rfl rfl rfl rfl rfl rfl rfl (WO.steps 2 rfl (WO.fix 13 (congrArg AV.bool key) (WO.go rfl ?_)))) | refine W.condT rfl ?_ | refine W.condF rfl ?_ | refine W.seq ?_ | refine W.block ?_ | refine W.skip ?_ | refine WO.nil ?_ | refine WD.nil (WO.go rfl ?_) | refine W.region rfl (WO.go rfl ?_) | refine W.draw (id := 3) 8 [] rfl (by decide +kernel) rfl (WD.go rfl ?_) | refine WO.gives hg rfl rfl rfl rfl rfl rfl rfl rfl rfl (WO.go rfl ?_) | refine WD.gives hg rfl rfl rfl rfl rfl rfl rfl rfl rfl (WD.go rfl ?_) | refine WO.append0 rfl rfl rfl rfl rfl rfl rfl rfl rfl (WO.go rfl ?_) | refine WO.appendF (by simp) (by exact lens_ok rfl) (by exact lens_ok rfl) (by first | decide | simp) (by first | decide | simp) rfl rfl rfl rfl rfl rfl rfl rfl rfl rfl (WO.go rfl ?_) | refine WO.appendI (by simp) (by exact lens_ok rfl) (by first | decide | simp) (by first | decide | simp) rfl rfl rfl rfl rfl rfl rfl rfl rfl rfl (WO.go rfl ?_) | refine W.loop ?_ | refine W.exit ?_)
    exact W.ret (.ret [_, _] rfl rfl)
theorem ofM_W : ∀ (n : Nat) (f : Fo) (w c : T) (m : Nat) (G : List Y), Fo.bone f ≤ n → f.pure → (∃ p, f.bothE = some p) → Fo.Ok m G f → HT m G w f.both.1 → HT m G c f.both.2 → f.size ≤ 4096 → f.tyLe 64 → w.tyLe 64 → c.tyLe 64 →
    w.size ≤ 50000 → c.size ≤ 50000 → G.length ≤ 1000 → Gives (AC X) 39 [.agg (cF f), .agg (cT w), .agg (cT c)] (rMat (MR n f w c)) := by
  intro n
  induction n with
  | zero => intro f w c m G hn; cases f <;> simp only [Fo.bone] at hn <;> omega
  | succ n ih =>
    intro f w c m G hn hp he ho hw hc hs ht hwt hct hws hcs hG
    have nw := nodesS_W (X := X) w (by omega)
    have nc := nodesS_W (X := X) c (by omega)
    by_cases h1 : w.size ≤ 4096
    · have key : decide ((w.size : Int) > 4096) = false := decide_eq_false (by omega)
      by_cases h2 : c.size ≤ 4096
      · have key2 : decide ((c.size : Int) > 4096) = false := decide_eq_false (by omega)
        obtain ⟨pp, he⟩ := he
        rcases f with ⟨a, b⟩ | ⟨_ | _, f, g⟩ | ⟨_ | _ | _ | _, s, f⟩
        · simp only [MR]
          rw [if_pos ⟨h1, h2⟩]
          refine givesW (fn := Tryz.f39) Tryz.func39 rfl rfl rfl ?_
          repeat (first | (refine WO.gives nw rfl rfl rfl rfl rfl rfl rfl rfl rfl (WO.steps 2 rfl (WO.fix 32 (congrArg AV.bool key) (WO.go rfl ?_)))) | refine W.condT rfl ?_ | refine W.condF rfl ?_ | refine W.seq ?_ | refine W.block ?_ | refine W.skip ?_ | refine WO.nil ?_ | refine WD.nil (WO.go rfl ?_) | refine W.region rfl (WO.go rfl ?_) | refine W.draw (id := 7) 29 [] rfl (by decide +kernel) rfl (WD.go rfl ?_) | refine W.draw (id := 12) 8 [] rfl (by decide +kernel) rfl (WD.go rfl ?_) | refine W.draw (id := 13) 10 [] rfl (by decide +kernel) rfl (WD.go rfl ?_) | refine W.draw (id := 14) 10 [] rfl (by decide +kernel) rfl (WD.go rfl ?_) | refine W.draw (id := 15) 29 [] rfl (by decide +kernel) rfl (WD.go rfl ?_) | refine W.draw (id := 18) 12 [] rfl (by decide +kernel) rfl (WD.go rfl ?_) | refine W.draw (id := 19) 15 [] rfl (by decide +kernel) rfl (WD.go rfl ?_) | refine W.draw (id := 22) 18 [] rfl (by decide +kernel) rfl (WD.go rfl ?_) | refine WO.gives nc rfl rfl rfl rfl rfl rfl rfl rfl rfl (WO.go rfl ?_) | refine WD.gives nc rfl rfl rfl rfl rfl rfl rfl rfl rfl (WD.go rfl ?_) | refine WO.append0 rfl rfl rfl rfl rfl rfl rfl rfl rfl (WO.go rfl ?_) | refine WO.appendF (by simp) (by exact lens_ok rfl) (by exact lens_ok rfl) (by first | decide | simp) (by first | decide | simp) rfl rfl rfl rfl rfl rfl rfl rfl rfl rfl (WO.go rfl ?_) | refine WO.appendI (by simp) (by exact lens_ok rfl) (by first | decide | simp) (by first | decide | simp) rfl rfl rfl rfl rfl rfl rfl rfl rfl rfl (WO.go rfl ?_) | refine W.loop ?_ | refine W.exit ?_)
          refine W.cond rfl (fun h => absurd (h.symm.trans key2) (by decide)) (fun _ => ?_)
          repeat (first | refine W.condT rfl ?_ | refine W.condF rfl ?_ | refine W.seq ?_ | refine W.block ?_ | refine W.skip ?_ | refine WO.nil ?_ | refine WD.nil (WO.go rfl ?_) | refine W.region rfl (WO.go rfl ?_) | refine W.draw (id := 7) 29 [] rfl (by decide +kernel) rfl (WD.go rfl ?_) | refine W.draw (id := 12) 8 [] rfl (by decide +kernel) rfl (WD.go rfl ?_) | refine W.draw (id := 13) 10 [] rfl (by decide +kernel) rfl (WD.go rfl ?_) | refine W.draw (id := 14) 10 [] rfl (by decide +kernel) rfl (WD.go rfl ?_) | refine W.draw (id := 15) 29 [] rfl (by decide +kernel) rfl (WD.go rfl ?_) | refine W.draw (id := 18) 12 [] rfl (by decide +kernel) rfl (WD.go rfl ?_) | refine W.draw (id := 19) 15 [] rfl (by decide +kernel) rfl (WD.go rfl ?_) | refine W.draw (id := 22) 18 [] rfl (by decide +kernel) rfl (WD.go rfl ?_) | refine WO.append0 rfl rfl rfl rfl rfl rfl rfl rfl rfl (WO.go rfl ?_) | refine WO.appendF (by simp) (by exact lens_ok rfl) (by exact lens_ok rfl) (by first | decide | simp) (by first | decide | simp) rfl rfl rfl rfl rfl rfl rfl rfl rfl rfl (WO.go rfl ?_) | refine WO.appendI (by simp) (by exact lens_ok rfl) (by first | decide | simp) (by first | decide | simp) rfl rfl rfl rfl rfl rfl rfl rfl rfl rfl (WO.go rfl ?_) | refine W.loop ?_ | refine W.exit ?_)
          exact W.ret (.ret [_, _] rfl rfl)
        · simp only [Fo.size] at hs
          simp only [Fo.bone] at hn
          obtain ⟨hef, heg⟩ := bothE_bi he
          have ef := bothE_get hp.1 hef
          have eg := bothE_get hp.2 heg
          cases ho with
          | bi hof hog =>
          simp only [Fo.both] at hw hc
          simp only [MR]
          rw [if_pos ⟨h1, h2⟩]
          obtain ⟨v, p, hfb⟩ : ∃ v p, f.both = (v, p) := ⟨_, _, rfl⟩
          obtain ⟨u, r, hgb⟩ : ∃ u r, g.both = (u, r) := ⟨_, _, rfl⟩
          rw [hfb] at ef
          rw [hgb] at eg
          simp only [hfb, hgb] at hw hc ⊢
          have hk1 := kinds_W (X := X) f v p hp.1 (by omega) ht.1 ef
          have hk2 := kinds_W (X := X) g u r hp.2 (by omega) ht.2 eg
          have z1 := left_size v u w
          have z2 := left_size p r c
          have z3 := right_size v u w
          have z4 := right_size p r c
          have i1 := ih f (T.left v u w) (T.left p r c) m G (by omega) hp.1 hef hof (by rw [hfb]; exact T.left_ty hw) (by rw [hfb]; exact T.left_ty hc) (by omega) ht.1 (left_tyLe hwt) (left_tyLe hct) (by omega) (by omega) hG
          have i2 := ih g (T.right v u w) (T.right p r c) m G (by omega) hp.2 heg hog (by rw [hgb]; exact T.right_ty hw) (by rw [hgb]; exact T.right_ty hc) (by omega) ht.2 (right_tyLe hwt) (right_tyLe hct) (by omega) (by omega) hG
          have htwo := twoM_W (X := X) .an f g _ _ _ _ _ _ i1 i2 (fun x hx => (MR_M hx).2 (by omega)) (fun x hx => (MR_M hx).2 (by omega))
          have l1 := leftC_W (X := X) v u w
          have l2 := leftC_W (X := X) p r c
          have l3 := rightC_W (X := X) v u w
          have l4 := rightC_W (X := X) p r c
          revert htwo
          generalize twoR _ _ _ = RR
          intro htwo
          clear i1 i2
          generalize T.left v u w = x1 at *
          generalize T.left p r c = x2 at *
          generalize T.right v u w = x3 at *
          generalize T.right p r c = x4 at *
          cases RR with
          | none =>
            refine givesW (fn := Tryz.f39) Tryz.func39 rfl rfl rfl ?_
            repeat (first | (refine WO.gives nw rfl rfl rfl rfl rfl rfl rfl rfl rfl (WO.steps 2 rfl (WO.fix 32 (congrArg AV.bool key) (WO.go rfl ?_)))) | refine W.condT rfl ?_ | refine W.condF rfl ?_ | refine W.seq ?_ | refine W.block ?_ | refine W.skip ?_ | refine WO.nil ?_ | refine WD.nil (WO.go rfl ?_) | refine W.region rfl (WO.go rfl ?_) | refine W.draw (id := 7) 29 [] rfl (by decide +kernel) rfl (WD.go rfl ?_) | refine W.draw (id := 12) 8 [] rfl (by decide +kernel) rfl (WD.go rfl ?_) | refine W.draw (id := 13) 10 [] rfl (by decide +kernel) rfl (WD.go rfl ?_) | refine W.draw (id := 14) 10 [] rfl (by decide +kernel) rfl (WD.go rfl ?_) | refine W.draw (id := 15) 29 [] rfl (by decide +kernel) rfl (WD.go rfl ?_) | refine W.draw (id := 18) 12 [] rfl (by decide +kernel) rfl (WD.go rfl ?_) | refine W.draw (id := 19) 15 [] rfl (by decide +kernel) rfl (WD.go rfl ?_) | refine W.draw (id := 22) 18 [] rfl (by decide +kernel) rfl (WD.go rfl ?_) | refine WO.gives nc rfl rfl rfl rfl rfl rfl rfl rfl rfl (WO.go rfl ?_) | refine WD.gives nc rfl rfl rfl rfl rfl rfl rfl rfl rfl (WD.go rfl ?_) | refine WO.append0 rfl rfl rfl rfl rfl rfl rfl rfl rfl (WO.go rfl ?_) | refine WO.appendF (by simp) (by exact lens_ok rfl) (by exact lens_ok rfl) (by first | decide | simp) (by first | decide | simp) rfl rfl rfl rfl rfl rfl rfl rfl rfl rfl (WO.go rfl ?_) | refine WO.appendI (by simp) (by exact lens_ok rfl) (by first | decide | simp) (by first | decide | simp) rfl rfl rfl rfl rfl rfl rfl rfl rfl rfl (WO.go rfl ?_) | refine W.loop ?_ | refine W.exit ?_)
            refine W.cond rfl (fun h => absurd (h.symm.trans key2) (by decide)) (fun _ => ?_)
            repeat (first | refine W.condT rfl ?_ | refine W.condF rfl ?_ | refine W.seq ?_ | refine W.block ?_ | refine W.skip ?_ | refine WO.nil ?_ | refine WD.nil (WO.go rfl ?_) | refine W.region rfl (WO.go rfl ?_) | refine W.draw (id := 7) 29 [] rfl (by decide +kernel) rfl (WD.go rfl ?_) | refine W.draw (id := 12) 8 [] rfl (by decide +kernel) rfl (WD.go rfl ?_) | refine W.draw (id := 13) 10 [] rfl (by decide +kernel) rfl (WD.go rfl ?_) | refine W.draw (id := 14) 10 [] rfl (by decide +kernel) rfl (WD.go rfl ?_) | refine W.draw (id := 15) 29 [] rfl (by decide +kernel) rfl (WD.go rfl ?_) | refine W.draw (id := 18) 12 [] rfl (by decide +kernel) rfl (WD.go rfl ?_) | refine W.draw (id := 19) 15 [] rfl (by decide +kernel) rfl (WD.go rfl ?_) | refine W.draw (id := 22) 18 [] rfl (by decide +kernel) rfl (WD.go rfl ?_) | refine WO.givesT hk1 rfl rfl rfl rfl rfl rfl rfl rfl rfl (WO.go rfl ?_) | refine WD.givesT hk1 rfl rfl rfl rfl rfl rfl rfl rfl rfl (WD.go rfl ?_) | refine WO.givesT hk2 rfl rfl rfl rfl rfl rfl rfl rfl rfl (WO.go rfl ?_) | refine WD.givesT hk2 rfl rfl rfl rfl rfl rfl rfl rfl rfl (WD.go rfl ?_) | refine WO.gives l1 rfl rfl rfl rfl rfl rfl rfl rfl rfl (WO.go rfl ?_) | refine WD.gives l1 rfl rfl rfl rfl rfl rfl rfl rfl rfl (WD.go rfl ?_) | refine WO.gives l2 rfl rfl rfl rfl rfl rfl rfl rfl rfl (WO.go rfl ?_) | refine WD.gives l2 rfl rfl rfl rfl rfl rfl rfl rfl rfl (WD.go rfl ?_) | refine WO.gives l3 rfl rfl rfl rfl rfl rfl rfl rfl rfl (WO.go rfl ?_) | refine WD.gives l3 rfl rfl rfl rfl rfl rfl rfl rfl rfl (WD.go rfl ?_) | refine WO.gives l4 rfl rfl rfl rfl rfl rfl rfl rfl rfl (WO.go rfl ?_) | refine WD.gives l4 rfl rfl rfl rfl rfl rfl rfl rfl rfl (WD.go rfl ?_) | refine WO.givesT htwo rfl rfl rfl rfl rfl rfl rfl rfl rfl (WO.go rfl ?_) | refine WD.givesT htwo rfl rfl rfl rfl rfl rfl rfl rfl rfl (WD.go rfl ?_) | refine WO.append0 rfl rfl rfl rfl rfl rfl rfl rfl rfl (WO.go rfl ?_) | refine WO.appendF (by simp) (by exact lens_ok rfl) (by exact lens_ok rfl) (by first | decide | simp) (by first | decide | simp) rfl rfl rfl rfl rfl rfl rfl rfl rfl rfl (WO.go rfl ?_) | refine WO.appendI (by simp) (by exact lens_ok rfl) (by first | decide | simp) (by first | decide | simp) rfl rfl rfl rfl rfl rfl rfl rfl rfl rfl (WO.go rfl ?_) | refine W.loop ?_ | refine W.exit ?_)
            exact W.ret (.ret [_, _] rfl rfl)
          | some y =>
            refine givesW (fn := Tryz.f39) Tryz.func39 rfl rfl rfl ?_
            repeat (first | (refine WO.gives nw rfl rfl rfl rfl rfl rfl rfl rfl rfl (WO.steps 2 rfl (WO.fix 32 (congrArg AV.bool key) (WO.go rfl ?_)))) | refine W.condT rfl ?_ | refine W.condF rfl ?_ | refine W.seq ?_ | refine W.block ?_ | refine W.skip ?_ | refine WO.nil ?_ | refine WD.nil (WO.go rfl ?_) | refine W.region rfl (WO.go rfl ?_) | refine W.draw (id := 7) 29 [] rfl (by decide +kernel) rfl (WD.go rfl ?_) | refine W.draw (id := 12) 8 [] rfl (by decide +kernel) rfl (WD.go rfl ?_) | refine W.draw (id := 13) 10 [] rfl (by decide +kernel) rfl (WD.go rfl ?_) | refine W.draw (id := 14) 10 [] rfl (by decide +kernel) rfl (WD.go rfl ?_) | refine W.draw (id := 15) 29 [] rfl (by decide +kernel) rfl (WD.go rfl ?_) | refine W.draw (id := 18) 12 [] rfl (by decide +kernel) rfl (WD.go rfl ?_) | refine W.draw (id := 19) 15 [] rfl (by decide +kernel) rfl (WD.go rfl ?_) | refine W.draw (id := 22) 18 [] rfl (by decide +kernel) rfl (WD.go rfl ?_) | refine WO.gives nc rfl rfl rfl rfl rfl rfl rfl rfl rfl (WO.go rfl ?_) | refine WD.gives nc rfl rfl rfl rfl rfl rfl rfl rfl rfl (WD.go rfl ?_) | refine WO.append0 rfl rfl rfl rfl rfl rfl rfl rfl rfl (WO.go rfl ?_) | refine WO.appendF (by simp) (by exact lens_ok rfl) (by exact lens_ok rfl) (by first | decide | simp) (by first | decide | simp) rfl rfl rfl rfl rfl rfl rfl rfl rfl rfl (WO.go rfl ?_) | refine WO.appendI (by simp) (by exact lens_ok rfl) (by first | decide | simp) (by first | decide | simp) rfl rfl rfl rfl rfl rfl rfl rfl rfl rfl (WO.go rfl ?_) | refine W.loop ?_ | refine W.exit ?_)
            refine W.cond rfl (fun h => absurd (h.symm.trans key2) (by decide)) (fun _ => ?_)
            repeat (first | refine W.condT rfl ?_ | refine W.condF rfl ?_ | refine W.seq ?_ | refine W.block ?_ | refine W.skip ?_ | refine WO.nil ?_ | refine WD.nil (WO.go rfl ?_) | refine W.region rfl (WO.go rfl ?_) | refine W.draw (id := 7) 29 [] rfl (by decide +kernel) rfl (WD.go rfl ?_) | refine W.draw (id := 12) 8 [] rfl (by decide +kernel) rfl (WD.go rfl ?_) | refine W.draw (id := 13) 10 [] rfl (by decide +kernel) rfl (WD.go rfl ?_) | refine W.draw (id := 14) 10 [] rfl (by decide +kernel) rfl (WD.go rfl ?_) | refine W.draw (id := 15) 29 [] rfl (by decide +kernel) rfl (WD.go rfl ?_) | refine W.draw (id := 18) 12 [] rfl (by decide +kernel) rfl (WD.go rfl ?_) | refine W.draw (id := 19) 15 [] rfl (by decide +kernel) rfl (WD.go rfl ?_) | refine W.draw (id := 22) 18 [] rfl (by decide +kernel) rfl (WD.go rfl ?_) | refine WO.givesT hk1 rfl rfl rfl rfl rfl rfl rfl rfl rfl (WO.go rfl ?_) | refine WD.givesT hk1 rfl rfl rfl rfl rfl rfl rfl rfl rfl (WD.go rfl ?_) | refine WO.givesT hk2 rfl rfl rfl rfl rfl rfl rfl rfl rfl (WO.go rfl ?_) | refine WD.givesT hk2 rfl rfl rfl rfl rfl rfl rfl rfl rfl (WD.go rfl ?_) | refine WO.gives l1 rfl rfl rfl rfl rfl rfl rfl rfl rfl (WO.go rfl ?_) | refine WD.gives l1 rfl rfl rfl rfl rfl rfl rfl rfl rfl (WD.go rfl ?_) | refine WO.gives l2 rfl rfl rfl rfl rfl rfl rfl rfl rfl (WO.go rfl ?_) | refine WD.gives l2 rfl rfl rfl rfl rfl rfl rfl rfl rfl (WD.go rfl ?_) | refine WO.gives l3 rfl rfl rfl rfl rfl rfl rfl rfl rfl (WO.go rfl ?_) | refine WD.gives l3 rfl rfl rfl rfl rfl rfl rfl rfl rfl (WD.go rfl ?_) | refine WO.gives l4 rfl rfl rfl rfl rfl rfl rfl rfl rfl (WO.go rfl ?_) | refine WD.gives l4 rfl rfl rfl rfl rfl rfl rfl rfl rfl (WD.go rfl ?_) | refine WO.givesT htwo rfl rfl rfl rfl rfl rfl rfl rfl rfl (WO.go rfl ?_) | refine WD.givesT htwo rfl rfl rfl rfl rfl rfl rfl rfl rfl (WD.go rfl ?_) | refine WO.append0 rfl rfl rfl rfl rfl rfl rfl rfl rfl (WO.go rfl ?_) | refine WO.appendF (by simp) (by exact lens_ok rfl) (by exact lens_ok rfl) (by first | decide | simp) (by first | decide | simp) rfl rfl rfl rfl rfl rfl rfl rfl rfl rfl (WO.go rfl ?_) | refine WO.appendI (by simp) (by exact lens_ok rfl) (by first | decide | simp) (by first | decide | simp) rfl rfl rfl rfl rfl rfl rfl rfl rfl rfl (WO.go rfl ?_) | refine W.loop ?_ | refine W.exit ?_)
            exact W.ret (.ret [_, _] rfl rfl)
        · simp only [Fo.size] at hs
          simp only [Fo.bone] at hn
          obtain ⟨hef, heg⟩ := bothE_bi he
          have ef := bothE_get hp.1 hef
          have eg := bothE_get hp.2 heg
          cases ho with
          | bi hof hog =>
          simp only [Fo.both] at hw hc
          simp only [MR]
          rw [if_pos ⟨h1, h2⟩]
          obtain ⟨v, p, hfb⟩ : ∃ v p, f.both = (v, p) := ⟨_, _, rfl⟩
          obtain ⟨u, r, hgb⟩ : ∃ u r, g.both = (u, r) := ⟨_, _, rfl⟩
          rw [hfb] at ef
          rw [hgb] at eg
          simp only [hfb, hgb] at hw hc ⊢
          have hk1 := kinds_W (X := X) f v p hp.1 (by omega) ht.1 ef
          have hk2 := kinds_W (X := X) g u r hp.2 (by omega) ht.2 eg
          have tx := T.left_ty (a := v) (b := r) hc
          have ty := T.right_ty (a := v) (b := r) hc
          have th := T.right_ty (a := Y.fns v u) (b := Y.fns v (Y.fns r p)) hw
          have tg := T.left_ty (a := Y.fns v u) (b := Y.fns v (Y.fns r p)) hw
          have l1 := leftC_W (X := X) v r c
          have l2 := rightC_W (X := X) v r c
          have l3 := leftC_W (X := X) (Y.fns v u) (Y.fns v (Y.fns r p)) w
          have l4 := rightC_W (X := X) (Y.fns v u) (Y.fns v (Y.fns r p)) w
          have z1 := left_size v r c
          have z2 := right_size v r c
          have z3 := left_size (Y.fns v u) (Y.fns v (Y.fns r p)) w
          have z4 := right_size (Y.fns v u) (Y.fns v (Y.fns r p)) w
          have y1 := left_tyLe (a := v) (b := r) hct
          have y2 := right_tyLe (a := v) (b := r) hct
          have y3 := left_tyLe (a := Y.fns v u) (b := Y.fns v (Y.fns r p)) hwt
          have y4 := right_tyLe (a := Y.fns v u) (b := Y.fns v (Y.fns r p)) hwt
          have f1 := funC_W (X := X) r p
          have f2 := funC_W (X := X) v u
          have f3 := funC_W (X := X) v (Y.fns r p)
          generalize T.left v r c = x at *
          generalize T.right v r c = y at *
          generalize T.left (Y.fns v u) (Y.fns v (Y.fns r p)) w = gg at *
          generalize T.right (Y.fns v u) (Y.fns v (Y.fns r p)) w = hh at *
          have t1 := T.call_ty th tx
          have t2 := T.call_ty t1 ty
          have t3 := T.call_ty tg tx
          have c1 := callC_W (X := X) v (Y.fns r p) hh x
          have c2 := callC_W (X := X) r p (T.call v (Y.fns r p) hh x) y
          have c3 := callC_W (X := X) v u gg x
          have z5 := call_size v (Y.fns r p) hh x
          have z6 := call_size r p (T.call v (Y.fns r p) hh x) y
          have z7 := call_size v u gg x
          have y5 := call_tyLe (a := v) (b := Y.fns r p) y4 y1
          have y6 := call_tyLe (a := r) (b := p) y5 y2
          have y7 := call_tyLe (a := v) (b := u) y3 y1
          generalize T.call v (Y.fns r p) hh x = k1 at *
          generalize T.call r p k1 y = k2 at *
          generalize T.call v u gg x = k3 at *
          generalize Y.fns v (Y.fns r p) = s1 at *
          generalize Y.fns r p = s2 at *
          generalize Y.fns v u = s3 at *
          have i1 := ih f x k2 m G (by omega) hp.1 hef hof (by rw [hfb]; exact tx) (by rw [hfb]; exact t2) (by omega) ht.1 y1 y6 (by omega) (by omega) hG
          have i2 := ih g k3 y m G (by omega) hp.2 heg hog (by rw [hgb]; exact t3) (by rw [hgb]; exact ty) (by omega) ht.2 y7 y2 (by omega) (by omega) hG
          have htwo := twoM_W (X := X) .im f g _ _ _ _ _ _ i1 i2 (fun x hx => (MR_M hx).2 (by omega)) (fun x hx => (MR_M hx).2 (by omega))
          revert htwo
          generalize twoR _ _ _ = RR
          intro htwo
          clear i1 i2
          cases RR with
          | none =>
            refine givesW (fn := Tryz.f39) Tryz.func39 rfl rfl rfl ?_
            repeat (first | (refine WO.gives nw rfl rfl rfl rfl rfl rfl rfl rfl rfl (WO.steps 2 rfl (WO.fix 32 (congrArg AV.bool key) (WO.go rfl ?_)))) | refine W.condT rfl ?_ | refine W.condF rfl ?_ | refine W.seq ?_ | refine W.block ?_ | refine W.skip ?_ | refine WO.nil ?_ | refine WD.nil (WO.go rfl ?_) | refine W.region rfl (WO.go rfl ?_) | refine W.draw (id := 7) 29 [] rfl (by decide +kernel) rfl (WD.go rfl ?_) | refine W.draw (id := 12) 8 [] rfl (by decide +kernel) rfl (WD.go rfl ?_) | refine W.draw (id := 13) 10 [] rfl (by decide +kernel) rfl (WD.go rfl ?_) | refine W.draw (id := 14) 10 [] rfl (by decide +kernel) rfl (WD.go rfl ?_) | refine W.draw (id := 15) 29 [] rfl (by decide +kernel) rfl (WD.go rfl ?_) | refine W.draw (id := 18) 12 [] rfl (by decide +kernel) rfl (WD.go rfl ?_) | refine W.draw (id := 19) 15 [] rfl (by decide +kernel) rfl (WD.go rfl ?_) | refine W.draw (id := 22) 18 [] rfl (by decide +kernel) rfl (WD.go rfl ?_) | refine WO.gives nc rfl rfl rfl rfl rfl rfl rfl rfl rfl (WO.go rfl ?_) | refine WD.gives nc rfl rfl rfl rfl rfl rfl rfl rfl rfl (WD.go rfl ?_) | refine WO.append0 rfl rfl rfl rfl rfl rfl rfl rfl rfl (WO.go rfl ?_) | refine WO.appendF (by simp) (by exact lens_ok rfl) (by exact lens_ok rfl) (by first | decide | simp) (by first | decide | simp) rfl rfl rfl rfl rfl rfl rfl rfl rfl rfl (WO.go rfl ?_) | refine WO.appendI (by simp) (by exact lens_ok rfl) (by first | decide | simp) (by first | decide | simp) rfl rfl rfl rfl rfl rfl rfl rfl rfl rfl (WO.go rfl ?_) | refine W.loop ?_ | refine W.exit ?_)
            refine W.cond rfl (fun h => absurd (h.symm.trans key2) (by decide)) (fun _ => ?_)
            repeat (first | refine W.condT rfl ?_ | refine W.condF rfl ?_ | refine W.seq ?_ | refine W.block ?_ | refine W.skip ?_ | refine WO.nil ?_ | refine WD.nil (WO.go rfl ?_) | refine W.region rfl (WO.go rfl ?_) | refine W.draw (id := 7) 29 [] rfl (by decide +kernel) rfl (WD.go rfl ?_) | refine W.draw (id := 12) 8 [] rfl (by decide +kernel) rfl (WD.go rfl ?_) | refine W.draw (id := 13) 10 [] rfl (by decide +kernel) rfl (WD.go rfl ?_) | refine W.draw (id := 14) 10 [] rfl (by decide +kernel) rfl (WD.go rfl ?_) | refine W.draw (id := 15) 29 [] rfl (by decide +kernel) rfl (WD.go rfl ?_) | refine W.draw (id := 18) 12 [] rfl (by decide +kernel) rfl (WD.go rfl ?_) | refine W.draw (id := 19) 15 [] rfl (by decide +kernel) rfl (WD.go rfl ?_) | refine W.draw (id := 22) 18 [] rfl (by decide +kernel) rfl (WD.go rfl ?_) | refine WO.givesT hk1 rfl rfl rfl rfl rfl rfl rfl rfl rfl (WO.go rfl ?_) | refine WD.givesT hk1 rfl rfl rfl rfl rfl rfl rfl rfl rfl (WD.go rfl ?_) | refine WO.givesT hk2 rfl rfl rfl rfl rfl rfl rfl rfl rfl (WO.go rfl ?_) | refine WD.givesT hk2 rfl rfl rfl rfl rfl rfl rfl rfl rfl (WD.go rfl ?_) | refine WO.gives f1 rfl rfl rfl rfl rfl rfl rfl rfl rfl (WO.go rfl ?_) | refine WD.gives f1 rfl rfl rfl rfl rfl rfl rfl rfl rfl (WD.go rfl ?_) | refine WO.gives f2 rfl rfl rfl rfl rfl rfl rfl rfl rfl (WO.go rfl ?_) | refine WD.gives f2 rfl rfl rfl rfl rfl rfl rfl rfl rfl (WD.go rfl ?_) | refine WO.gives f3 rfl rfl rfl rfl rfl rfl rfl rfl rfl (WO.go rfl ?_) | refine WD.gives f3 rfl rfl rfl rfl rfl rfl rfl rfl rfl (WD.go rfl ?_) | refine WO.gives l1 rfl rfl rfl rfl rfl rfl rfl rfl rfl (WO.go rfl ?_) | refine WD.gives l1 rfl rfl rfl rfl rfl rfl rfl rfl rfl (WD.go rfl ?_) | refine WO.gives l2 rfl rfl rfl rfl rfl rfl rfl rfl rfl (WO.go rfl ?_) | refine WD.gives l2 rfl rfl rfl rfl rfl rfl rfl rfl rfl (WD.go rfl ?_) | refine WO.gives l3 rfl rfl rfl rfl rfl rfl rfl rfl rfl (WO.go rfl ?_) | refine WD.gives l3 rfl rfl rfl rfl rfl rfl rfl rfl rfl (WD.go rfl ?_) | refine WO.gives l4 rfl rfl rfl rfl rfl rfl rfl rfl rfl (WO.go rfl ?_) | refine WD.gives l4 rfl rfl rfl rfl rfl rfl rfl rfl rfl (WD.go rfl ?_) | refine WO.gives c1 rfl rfl rfl rfl rfl rfl rfl rfl rfl (WO.go rfl ?_) | refine WD.gives c1 rfl rfl rfl rfl rfl rfl rfl rfl rfl (WD.go rfl ?_) | refine WO.gives c2 rfl rfl rfl rfl rfl rfl rfl rfl rfl (WO.go rfl ?_) | refine WD.gives c2 rfl rfl rfl rfl rfl rfl rfl rfl rfl (WD.go rfl ?_) | refine WO.gives c3 rfl rfl rfl rfl rfl rfl rfl rfl rfl (WO.go rfl ?_) | refine WD.gives c3 rfl rfl rfl rfl rfl rfl rfl rfl rfl (WD.go rfl ?_) | refine WO.givesT htwo rfl rfl rfl rfl rfl rfl rfl rfl rfl (WO.go rfl ?_) | refine WD.givesT htwo rfl rfl rfl rfl rfl rfl rfl rfl rfl (WD.go rfl ?_) | refine WO.append0 rfl rfl rfl rfl rfl rfl rfl rfl rfl (WO.go rfl ?_) | refine WO.appendF (by simp) (by exact lens_ok rfl) (by exact lens_ok rfl) (by first | decide | simp) (by first | decide | simp) rfl rfl rfl rfl rfl rfl rfl rfl rfl rfl (WO.go rfl ?_) | refine WO.appendI (by simp) (by exact lens_ok rfl) (by first | decide | simp) (by first | decide | simp) rfl rfl rfl rfl rfl rfl rfl rfl rfl rfl (WO.go rfl ?_) | refine W.loop ?_ | refine W.exit ?_)
            exact W.ret (.ret [_, _] rfl rfl)
          | some y =>
            refine givesW (fn := Tryz.f39) Tryz.func39 rfl rfl rfl ?_
            repeat (first | (refine WO.gives nw rfl rfl rfl rfl rfl rfl rfl rfl rfl (WO.steps 2 rfl (WO.fix 32 (congrArg AV.bool key) (WO.go rfl ?_)))) | refine W.condT rfl ?_ | refine W.condF rfl ?_ | refine W.seq ?_ | refine W.block ?_ | refine W.skip ?_ | refine WO.nil ?_ | refine WD.nil (WO.go rfl ?_) | refine W.region rfl (WO.go rfl ?_) | refine W.draw (id := 7) 29 [] rfl (by decide +kernel) rfl (WD.go rfl ?_) | refine W.draw (id := 12) 8 [] rfl (by decide +kernel) rfl (WD.go rfl ?_) | refine W.draw (id := 13) 10 [] rfl (by decide +kernel) rfl (WD.go rfl ?_) | refine W.draw (id := 14) 10 [] rfl (by decide +kernel) rfl (WD.go rfl ?_) | refine W.draw (id := 15) 29 [] rfl (by decide +kernel) rfl (WD.go rfl ?_) | refine W.draw (id := 18) 12 [] rfl (by decide +kernel) rfl (WD.go rfl ?_) | refine W.draw (id := 19) 15 [] rfl (by decide +kernel) rfl (WD.go rfl ?_) | refine W.draw (id := 22) 18 [] rfl (by decide +kernel) rfl (WD.go rfl ?_) | refine WO.gives nc rfl rfl rfl rfl rfl rfl rfl rfl rfl (WO.go rfl ?_) | refine WD.gives nc rfl rfl rfl rfl rfl rfl rfl rfl rfl (WD.go rfl ?_) | refine WO.append0 rfl rfl rfl rfl rfl rfl rfl rfl rfl (WO.go rfl ?_) | refine WO.appendF (by simp) (by exact lens_ok rfl) (by exact lens_ok rfl) (by first | decide | simp) (by first | decide | simp) rfl rfl rfl rfl rfl rfl rfl rfl rfl rfl (WO.go rfl ?_) | refine WO.appendI (by simp) (by exact lens_ok rfl) (by first | decide | simp) (by first | decide | simp) rfl rfl rfl rfl rfl rfl rfl rfl rfl rfl (WO.go rfl ?_) | refine W.loop ?_ | refine W.exit ?_)
            refine W.cond rfl (fun h => absurd (h.symm.trans key2) (by decide)) (fun _ => ?_)
            repeat (first | refine W.condT rfl ?_ | refine W.condF rfl ?_ | refine W.seq ?_ | refine W.block ?_ | refine W.skip ?_ | refine WO.nil ?_ | refine WD.nil (WO.go rfl ?_) | refine W.region rfl (WO.go rfl ?_) | refine W.draw (id := 7) 29 [] rfl (by decide +kernel) rfl (WD.go rfl ?_) | refine W.draw (id := 12) 8 [] rfl (by decide +kernel) rfl (WD.go rfl ?_) | refine W.draw (id := 13) 10 [] rfl (by decide +kernel) rfl (WD.go rfl ?_) | refine W.draw (id := 14) 10 [] rfl (by decide +kernel) rfl (WD.go rfl ?_) | refine W.draw (id := 15) 29 [] rfl (by decide +kernel) rfl (WD.go rfl ?_) | refine W.draw (id := 18) 12 [] rfl (by decide +kernel) rfl (WD.go rfl ?_) | refine W.draw (id := 19) 15 [] rfl (by decide +kernel) rfl (WD.go rfl ?_) | refine W.draw (id := 22) 18 [] rfl (by decide +kernel) rfl (WD.go rfl ?_) | refine WO.givesT hk1 rfl rfl rfl rfl rfl rfl rfl rfl rfl (WO.go rfl ?_) | refine WD.givesT hk1 rfl rfl rfl rfl rfl rfl rfl rfl rfl (WD.go rfl ?_) | refine WO.givesT hk2 rfl rfl rfl rfl rfl rfl rfl rfl rfl (WO.go rfl ?_) | refine WD.givesT hk2 rfl rfl rfl rfl rfl rfl rfl rfl rfl (WD.go rfl ?_) | refine WO.gives f1 rfl rfl rfl rfl rfl rfl rfl rfl rfl (WO.go rfl ?_) | refine WD.gives f1 rfl rfl rfl rfl rfl rfl rfl rfl rfl (WD.go rfl ?_) | refine WO.gives f2 rfl rfl rfl rfl rfl rfl rfl rfl rfl (WO.go rfl ?_) | refine WD.gives f2 rfl rfl rfl rfl rfl rfl rfl rfl rfl (WD.go rfl ?_) | refine WO.gives f3 rfl rfl rfl rfl rfl rfl rfl rfl rfl (WO.go rfl ?_) | refine WD.gives f3 rfl rfl rfl rfl rfl rfl rfl rfl rfl (WD.go rfl ?_) | refine WO.gives l1 rfl rfl rfl rfl rfl rfl rfl rfl rfl (WO.go rfl ?_) | refine WD.gives l1 rfl rfl rfl rfl rfl rfl rfl rfl rfl (WD.go rfl ?_) | refine WO.gives l2 rfl rfl rfl rfl rfl rfl rfl rfl rfl (WO.go rfl ?_) | refine WD.gives l2 rfl rfl rfl rfl rfl rfl rfl rfl rfl (WD.go rfl ?_) | refine WO.gives l3 rfl rfl rfl rfl rfl rfl rfl rfl rfl (WO.go rfl ?_) | refine WD.gives l3 rfl rfl rfl rfl rfl rfl rfl rfl rfl (WD.go rfl ?_) | refine WO.gives l4 rfl rfl rfl rfl rfl rfl rfl rfl rfl (WO.go rfl ?_) | refine WD.gives l4 rfl rfl rfl rfl rfl rfl rfl rfl rfl (WD.go rfl ?_) | refine WO.gives c1 rfl rfl rfl rfl rfl rfl rfl rfl rfl (WO.go rfl ?_) | refine WD.gives c1 rfl rfl rfl rfl rfl rfl rfl rfl rfl (WD.go rfl ?_) | refine WO.gives c2 rfl rfl rfl rfl rfl rfl rfl rfl rfl (WO.go rfl ?_) | refine WD.gives c2 rfl rfl rfl rfl rfl rfl rfl rfl rfl (WD.go rfl ?_) | refine WO.gives c3 rfl rfl rfl rfl rfl rfl rfl rfl rfl (WO.go rfl ?_) | refine WD.gives c3 rfl rfl rfl rfl rfl rfl rfl rfl rfl (WD.go rfl ?_) | refine WO.givesT htwo rfl rfl rfl rfl rfl rfl rfl rfl rfl (WO.go rfl ?_) | refine WD.givesT htwo rfl rfl rfl rfl rfl rfl rfl rfl rfl (WD.go rfl ?_) | refine WO.append0 rfl rfl rfl rfl rfl rfl rfl rfl rfl (WO.go rfl ?_) | refine WO.appendF (by simp) (by exact lens_ok rfl) (by exact lens_ok rfl) (by first | decide | simp) (by first | decide | simp) rfl rfl rfl rfl rfl rfl rfl rfl rfl rfl (WO.go rfl ?_) | refine WO.appendI (by simp) (by exact lens_ok rfl) (by first | decide | simp) (by first | decide | simp) rfl rfl rfl rfl rfl rfl rfl rfl rfl rfl (WO.go rfl ?_) | refine W.loop ?_ | refine W.exit ?_)
            exact W.ret (.ret [_, _] rfl rfl)
        · simp only [Fo.size] at hs
          simp only [Fo.bone] at hn
          have hef := bothE_q he
          have ef := bothE_get hp.2 hef
          cases ho with
          | q hof =>
          simp only [Fo.both] at hw hc
          simp only [MR]
          rw [if_pos ⟨h1, h2⟩]
          obtain ⟨v, p, hfb⟩ : ∃ v p, f.both = (v, p) := ⟨_, _, rfl⟩
          rw [hfb] at ef
          simp only [hfb] at hw hc ⊢
          have hk1 := kinds_W (X := X) f v p hp.2 (by omega) ht.2 ef
          have hfl : f.le 1000000000 := Fo.le_of_ok hof (by simp only [List.length_cons]; omega)
          have tx := T.left_ty (a := s) (b := p) hc
          have ty := T.right_ty (a := s) (b := p) hc
          have z1 := left_size s p c
          have z2 := right_size s p c
          have y1 := left_tyLe (a := s) (b := p) hct
          have y2 := right_tyLe (a := s) (b := p) hct
          have l1 := leftC_W (X := X) s p c
          have l2 := rightC_W (X := X) s p c
          generalize T.left s p c = x at *
          generalize T.right s p c = y at *
          have t1 := T.call_ty hw tx
          have c1 := callC_W (X := X) s v w x
          have z3 := call_size s v w x
          have y3 := call_tyLe (a := s) (b := v) hwt y1
          generalize T.call s v w x = k1 at *
          have hxl : x.le 1000000000 := T.le_mono (T.le_of_sc tx.sc) (by omega)
          have hwi := withM_W (X := X) f x k1 y (MR n (Fo.put 0 x f) k1 y) (by omega) hfl (by omega) hxl (fun _ hps => ih (Fo.put 0 x f) k1 y m G (by rw [Fo.bone_put]; omega) (Fo.pure_put _ _ _ hp.2) (by rw [Fo.bothE_put]; exact hef) (Fo.Ok.put0 hof tx) (by rw [Fo.both_put, hfb]; exact t1) (by rw [Fo.both_put, hfb]; exact ty) hps (Fo.tyLe_put y1 ht.2 0) y3 y2 (by omega) (by omega) hG)
          revert hwi
          generalize putR _ _ _ = RR
          intro hwi
          cases RR with
          | none =>
            refine givesW (fn := Tryz.f39) Tryz.func39 rfl rfl rfl ?_
            repeat (first | (refine WO.gives nw rfl rfl rfl rfl rfl rfl rfl rfl rfl (WO.steps 2 rfl (WO.fix 32 (congrArg AV.bool key) (WO.go rfl ?_)))) | refine W.condT rfl ?_ | refine W.condF rfl ?_ | refine W.seq ?_ | refine W.block ?_ | refine W.skip ?_ | refine WO.nil ?_ | refine WD.nil (WO.go rfl ?_) | refine W.region rfl (WO.go rfl ?_) | refine W.draw (id := 7) 29 [] rfl (by decide +kernel) rfl (WD.go rfl ?_) | refine W.draw (id := 12) 8 [] rfl (by decide +kernel) rfl (WD.go rfl ?_) | refine W.draw (id := 13) 10 [] rfl (by decide +kernel) rfl (WD.go rfl ?_) | refine W.draw (id := 14) 10 [] rfl (by decide +kernel) rfl (WD.go rfl ?_) | refine W.draw (id := 15) 29 [] rfl (by decide +kernel) rfl (WD.go rfl ?_) | refine W.draw (id := 18) 12 [] rfl (by decide +kernel) rfl (WD.go rfl ?_) | refine W.draw (id := 19) 15 [] rfl (by decide +kernel) rfl (WD.go rfl ?_) | refine W.draw (id := 22) 18 [] rfl (by decide +kernel) rfl (WD.go rfl ?_) | refine WO.gives nc rfl rfl rfl rfl rfl rfl rfl rfl rfl (WO.go rfl ?_) | refine WD.gives nc rfl rfl rfl rfl rfl rfl rfl rfl rfl (WD.go rfl ?_) | refine WO.append0 rfl rfl rfl rfl rfl rfl rfl rfl rfl (WO.go rfl ?_) | refine WO.appendF (by simp) (by exact lens_ok rfl) (by exact lens_ok rfl) (by first | decide | simp) (by first | decide | simp) rfl rfl rfl rfl rfl rfl rfl rfl rfl rfl (WO.go rfl ?_) | refine WO.appendI (by simp) (by exact lens_ok rfl) (by first | decide | simp) (by first | decide | simp) rfl rfl rfl rfl rfl rfl rfl rfl rfl rfl (WO.go rfl ?_) | refine W.loop ?_ | refine W.exit ?_)
            refine W.cond rfl (fun h => absurd (h.symm.trans key2) (by decide)) (fun _ => ?_)
            repeat (first | refine W.condT rfl ?_ | refine W.condF rfl ?_ | refine W.seq ?_ | refine W.block ?_ | refine W.skip ?_ | refine WO.nil ?_ | refine WD.nil (WO.go rfl ?_) | refine W.region rfl (WO.go rfl ?_) | refine W.draw (id := 7) 29 [] rfl (by decide +kernel) rfl (WD.go rfl ?_) | refine W.draw (id := 12) 8 [] rfl (by decide +kernel) rfl (WD.go rfl ?_) | refine W.draw (id := 13) 10 [] rfl (by decide +kernel) rfl (WD.go rfl ?_) | refine W.draw (id := 14) 10 [] rfl (by decide +kernel) rfl (WD.go rfl ?_) | refine W.draw (id := 15) 29 [] rfl (by decide +kernel) rfl (WD.go rfl ?_) | refine W.draw (id := 18) 12 [] rfl (by decide +kernel) rfl (WD.go rfl ?_) | refine W.draw (id := 19) 15 [] rfl (by decide +kernel) rfl (WD.go rfl ?_) | refine W.draw (id := 22) 18 [] rfl (by decide +kernel) rfl (WD.go rfl ?_) | refine WO.givesT hk1 rfl rfl rfl rfl rfl rfl rfl rfl rfl (WO.go rfl ?_) | refine WD.givesT hk1 rfl rfl rfl rfl rfl rfl rfl rfl rfl (WD.go rfl ?_) | refine WO.gives l1 rfl rfl rfl rfl rfl rfl rfl rfl rfl (WO.go rfl ?_) | refine WD.gives l1 rfl rfl rfl rfl rfl rfl rfl rfl rfl (WD.go rfl ?_) | refine WO.gives l2 rfl rfl rfl rfl rfl rfl rfl rfl rfl (WO.go rfl ?_) | refine WD.gives l2 rfl rfl rfl rfl rfl rfl rfl rfl rfl (WD.go rfl ?_) | refine WO.gives c1 rfl rfl rfl rfl rfl rfl rfl rfl rfl (WO.go rfl ?_) | refine WD.gives c1 rfl rfl rfl rfl rfl rfl rfl rfl rfl (WD.go rfl ?_) | refine WO.givesT hwi rfl rfl rfl rfl rfl rfl rfl rfl rfl (WO.go rfl ?_) | refine WD.givesT hwi rfl rfl rfl rfl rfl rfl rfl rfl rfl (WD.go rfl ?_) | refine WO.append0 rfl rfl rfl rfl rfl rfl rfl rfl rfl (WO.go rfl ?_) | refine WO.appendF (by simp) (by exact lens_ok rfl) (by exact lens_ok rfl) (by first | decide | simp) (by first | decide | simp) rfl rfl rfl rfl rfl rfl rfl rfl rfl rfl (WO.go rfl ?_) | refine WO.appendI (by simp) (by exact lens_ok rfl) (by first | decide | simp) (by first | decide | simp) rfl rfl rfl rfl rfl rfl rfl rfl rfl rfl (WO.go rfl ?_) | refine W.loop ?_ | refine W.exit ?_)
            exact W.ret (.ret [_, _] rfl rfl)
          | some y =>
            refine givesW (fn := Tryz.f39) Tryz.func39 rfl rfl rfl ?_
            repeat (first | (refine WO.gives nw rfl rfl rfl rfl rfl rfl rfl rfl rfl (WO.steps 2 rfl (WO.fix 32 (congrArg AV.bool key) (WO.go rfl ?_)))) | refine W.condT rfl ?_ | refine W.condF rfl ?_ | refine W.seq ?_ | refine W.block ?_ | refine W.skip ?_ | refine WO.nil ?_ | refine WD.nil (WO.go rfl ?_) | refine W.region rfl (WO.go rfl ?_) | refine W.draw (id := 7) 29 [] rfl (by decide +kernel) rfl (WD.go rfl ?_) | refine W.draw (id := 12) 8 [] rfl (by decide +kernel) rfl (WD.go rfl ?_) | refine W.draw (id := 13) 10 [] rfl (by decide +kernel) rfl (WD.go rfl ?_) | refine W.draw (id := 14) 10 [] rfl (by decide +kernel) rfl (WD.go rfl ?_) | refine W.draw (id := 15) 29 [] rfl (by decide +kernel) rfl (WD.go rfl ?_) | refine W.draw (id := 18) 12 [] rfl (by decide +kernel) rfl (WD.go rfl ?_) | refine W.draw (id := 19) 15 [] rfl (by decide +kernel) rfl (WD.go rfl ?_) | refine W.draw (id := 22) 18 [] rfl (by decide +kernel) rfl (WD.go rfl ?_) | refine WO.gives nc rfl rfl rfl rfl rfl rfl rfl rfl rfl (WO.go rfl ?_) | refine WD.gives nc rfl rfl rfl rfl rfl rfl rfl rfl rfl (WD.go rfl ?_) | refine WO.append0 rfl rfl rfl rfl rfl rfl rfl rfl rfl (WO.go rfl ?_) | refine WO.appendF (by simp) (by exact lens_ok rfl) (by exact lens_ok rfl) (by first | decide | simp) (by first | decide | simp) rfl rfl rfl rfl rfl rfl rfl rfl rfl rfl (WO.go rfl ?_) | refine WO.appendI (by simp) (by exact lens_ok rfl) (by first | decide | simp) (by first | decide | simp) rfl rfl rfl rfl rfl rfl rfl rfl rfl rfl (WO.go rfl ?_) | refine W.loop ?_ | refine W.exit ?_)
            refine W.cond rfl (fun h => absurd (h.symm.trans key2) (by decide)) (fun _ => ?_)
            repeat (first | refine W.condT rfl ?_ | refine W.condF rfl ?_ | refine W.seq ?_ | refine W.block ?_ | refine W.skip ?_ | refine WO.nil ?_ | refine WD.nil (WO.go rfl ?_) | refine W.region rfl (WO.go rfl ?_) | refine W.draw (id := 7) 29 [] rfl (by decide +kernel) rfl (WD.go rfl ?_) | refine W.draw (id := 12) 8 [] rfl (by decide +kernel) rfl (WD.go rfl ?_) | refine W.draw (id := 13) 10 [] rfl (by decide +kernel) rfl (WD.go rfl ?_) | refine W.draw (id := 14) 10 [] rfl (by decide +kernel) rfl (WD.go rfl ?_) | refine W.draw (id := 15) 29 [] rfl (by decide +kernel) rfl (WD.go rfl ?_) | refine W.draw (id := 18) 12 [] rfl (by decide +kernel) rfl (WD.go rfl ?_) | refine W.draw (id := 19) 15 [] rfl (by decide +kernel) rfl (WD.go rfl ?_) | refine W.draw (id := 22) 18 [] rfl (by decide +kernel) rfl (WD.go rfl ?_) | refine WO.givesT hk1 rfl rfl rfl rfl rfl rfl rfl rfl rfl (WO.go rfl ?_) | refine WD.givesT hk1 rfl rfl rfl rfl rfl rfl rfl rfl rfl (WD.go rfl ?_) | refine WO.gives l1 rfl rfl rfl rfl rfl rfl rfl rfl rfl (WO.go rfl ?_) | refine WD.gives l1 rfl rfl rfl rfl rfl rfl rfl rfl rfl (WD.go rfl ?_) | refine WO.gives l2 rfl rfl rfl rfl rfl rfl rfl rfl rfl (WO.go rfl ?_) | refine WD.gives l2 rfl rfl rfl rfl rfl rfl rfl rfl rfl (WD.go rfl ?_) | refine WO.gives c1 rfl rfl rfl rfl rfl rfl rfl rfl rfl (WO.go rfl ?_) | refine WD.gives c1 rfl rfl rfl rfl rfl rfl rfl rfl rfl (WD.go rfl ?_) | refine WO.givesT hwi rfl rfl rfl rfl rfl rfl rfl rfl rfl (WO.go rfl ?_) | refine WD.givesT hwi rfl rfl rfl rfl rfl rfl rfl rfl rfl (WD.go rfl ?_) | refine WO.append0 rfl rfl rfl rfl rfl rfl rfl rfl rfl (WO.go rfl ?_) | refine WO.appendF (by simp) (by exact lens_ok rfl) (by exact lens_ok rfl) (by first | decide | simp) (by first | decide | simp) rfl rfl rfl rfl rfl rfl rfl rfl rfl rfl (WO.go rfl ?_) | refine WO.appendI (by simp) (by exact lens_ok rfl) (by first | decide | simp) (by first | decide | simp) rfl rfl rfl rfl rfl rfl rfl rfl rfl rfl (WO.go rfl ?_) | refine W.loop ?_ | refine W.exit ?_)
            exact W.ret (.ret [_, _] rfl rfl)
        · simp only [Fo.size] at hs
          simp only [Fo.bone] at hn
          have hef := bothE_q he
          have ef := bothE_get hp.2 hef
          cases ho with
          | q hof =>
          simp only [Fo.both] at hw hc
          simp only [MR]
          rw [if_pos ⟨h1, h2⟩]
          obtain ⟨v, p, hfb⟩ : ∃ v p, f.both = (v, p) := ⟨_, _, rfl⟩
          rw [hfb] at ef
          simp only [hfb] at hw hc ⊢
          have hk1 := kinds_W (X := X) f v p hp.2 (by omega) ht.2 ef
          have hfl : f.le 1000000000 := Fo.le_of_ok hof (by simp only [List.length_cons]; omega)
          have tx := T.left_ty (a := s) (b := v) hw
          have ty := T.right_ty (a := s) (b := v) hw
          have z1 := left_size s v w
          have z2 := right_size s v w
          have y1 := left_tyLe (a := s) (b := v) hwt
          have y2 := right_tyLe (a := s) (b := v) hwt
          have l1 := leftC_W (X := X) s v w
          have l2 := rightC_W (X := X) s v w
          generalize T.left s v w = x at *
          generalize T.right s v w = y at *
          have hxl : x.le 1000000000 := T.le_mono (T.le_of_sc tx.sc) (by omega)
          have hwi := withM_W (X := X) f x y c (MR n (Fo.put 0 x f) y c) (by omega) hfl (by omega) hxl (fun _ hps => ih (Fo.put 0 x f) y c m G (by rw [Fo.bone_put]; omega) (Fo.pure_put _ _ _ hp.2) (by rw [Fo.bothE_put]; exact hef) (Fo.Ok.put0 hof tx) (by rw [Fo.both_put, hfb]; exact ty) (by rw [Fo.both_put, hfb]; exact hc) hps (Fo.tyLe_put y1 ht.2 0) y2 hct (by omega) (by omega) hG)
          revert hwi
          generalize putR _ _ _ = RR
          intro hwi
          cases RR with
          | none =>
            refine givesW (fn := Tryz.f39) Tryz.func39 rfl rfl rfl ?_
            repeat (first | (refine WO.gives nw rfl rfl rfl rfl rfl rfl rfl rfl rfl (WO.steps 2 rfl (WO.fix 32 (congrArg AV.bool key) (WO.go rfl ?_)))) | refine W.condT rfl ?_ | refine W.condF rfl ?_ | refine W.seq ?_ | refine W.block ?_ | refine W.skip ?_ | refine WO.nil ?_ | refine WD.nil (WO.go rfl ?_) | refine W.region rfl (WO.go rfl ?_) | refine W.draw (id := 7) 29 [] rfl (by decide +kernel) rfl (WD.go rfl ?_) | refine W.draw (id := 12) 8 [] rfl (by decide +kernel) rfl (WD.go rfl ?_) | refine W.draw (id := 13) 10 [] rfl (by decide +kernel) rfl (WD.go rfl ?_) | refine W.draw (id := 14) 10 [] rfl (by decide +kernel) rfl (WD.go rfl ?_) | refine W.draw (id := 15) 29 [] rfl (by decide +kernel) rfl (WD.go rfl ?_) | refine W.draw (id := 18) 12 [] rfl (by decide +kernel) rfl (WD.go rfl ?_) | refine W.draw (id := 19) 15 [] rfl (by decide +kernel) rfl (WD.go rfl ?_) | refine W.draw (id := 22) 18 [] rfl (by decide +kernel) rfl (WD.go rfl ?_) | refine WO.gives nc rfl rfl rfl rfl rfl rfl rfl rfl rfl (WO.go rfl ?_) | refine WD.gives nc rfl rfl rfl rfl rfl rfl rfl rfl rfl (WD.go rfl ?_) | refine WO.append0 rfl rfl rfl rfl rfl rfl rfl rfl rfl (WO.go rfl ?_) | refine WO.appendF (by simp) (by exact lens_ok rfl) (by exact lens_ok rfl) (by first | decide | simp) (by first | decide | simp) rfl rfl rfl rfl rfl rfl rfl rfl rfl rfl (WO.go rfl ?_) | refine WO.appendI (by simp) (by exact lens_ok rfl) (by first | decide | simp) (by first | decide | simp) rfl rfl rfl rfl rfl rfl rfl rfl rfl rfl (WO.go rfl ?_) | refine W.loop ?_ | refine W.exit ?_)
            refine W.cond rfl (fun h => absurd (h.symm.trans key2) (by decide)) (fun _ => ?_)
            repeat (first | refine W.condT rfl ?_ | refine W.condF rfl ?_ | refine W.seq ?_ | refine W.block ?_ | refine W.skip ?_ | refine WO.nil ?_ | refine WD.nil (WO.go rfl ?_) | refine W.region rfl (WO.go rfl ?_) | refine W.draw (id := 7) 29 [] rfl (by decide +kernel) rfl (WD.go rfl ?_) | refine W.draw (id := 12) 8 [] rfl (by decide +kernel) rfl (WD.go rfl ?_) | refine W.draw (id := 13) 10 [] rfl (by decide +kernel) rfl (WD.go rfl ?_) | refine W.draw (id := 14) 10 [] rfl (by decide +kernel) rfl (WD.go rfl ?_) | refine W.draw (id := 15) 29 [] rfl (by decide +kernel) rfl (WD.go rfl ?_) | refine W.draw (id := 18) 12 [] rfl (by decide +kernel) rfl (WD.go rfl ?_) | refine W.draw (id := 19) 15 [] rfl (by decide +kernel) rfl (WD.go rfl ?_) | refine W.draw (id := 22) 18 [] rfl (by decide +kernel) rfl (WD.go rfl ?_) | refine WO.givesT hk1 rfl rfl rfl rfl rfl rfl rfl rfl rfl (WO.go rfl ?_) | refine WD.givesT hk1 rfl rfl rfl rfl rfl rfl rfl rfl rfl (WD.go rfl ?_) | refine WO.gives l1 rfl rfl rfl rfl rfl rfl rfl rfl rfl (WO.go rfl ?_) | refine WD.gives l1 rfl rfl rfl rfl rfl rfl rfl rfl rfl (WD.go rfl ?_) | refine WO.gives l2 rfl rfl rfl rfl rfl rfl rfl rfl rfl (WO.go rfl ?_) | refine WD.gives l2 rfl rfl rfl rfl rfl rfl rfl rfl rfl (WD.go rfl ?_) | refine WO.givesT hwi rfl rfl rfl rfl rfl rfl rfl rfl rfl (WO.go rfl ?_) | refine WD.givesT hwi rfl rfl rfl rfl rfl rfl rfl rfl rfl (WD.go rfl ?_) | refine WO.append0 rfl rfl rfl rfl rfl rfl rfl rfl rfl (WO.go rfl ?_) | refine WO.appendF (by simp) (by exact lens_ok rfl) (by exact lens_ok rfl) (by first | decide | simp) (by first | decide | simp) rfl rfl rfl rfl rfl rfl rfl rfl rfl rfl (WO.go rfl ?_) | refine WO.appendI (by simp) (by exact lens_ok rfl) (by first | decide | simp) (by first | decide | simp) rfl rfl rfl rfl rfl rfl rfl rfl rfl rfl (WO.go rfl ?_) | refine W.loop ?_ | refine W.exit ?_)
            exact W.ret (.ret [_, _] rfl rfl)
          | some y =>
            refine givesW (fn := Tryz.f39) Tryz.func39 rfl rfl rfl ?_
            repeat (first | (refine WO.gives nw rfl rfl rfl rfl rfl rfl rfl rfl rfl (WO.steps 2 rfl (WO.fix 32 (congrArg AV.bool key) (WO.go rfl ?_)))) | refine W.condT rfl ?_ | refine W.condF rfl ?_ | refine W.seq ?_ | refine W.block ?_ | refine W.skip ?_ | refine WO.nil ?_ | refine WD.nil (WO.go rfl ?_) | refine W.region rfl (WO.go rfl ?_) | refine W.draw (id := 7) 29 [] rfl (by decide +kernel) rfl (WD.go rfl ?_) | refine W.draw (id := 12) 8 [] rfl (by decide +kernel) rfl (WD.go rfl ?_) | refine W.draw (id := 13) 10 [] rfl (by decide +kernel) rfl (WD.go rfl ?_) | refine W.draw (id := 14) 10 [] rfl (by decide +kernel) rfl (WD.go rfl ?_) | refine W.draw (id := 15) 29 [] rfl (by decide +kernel) rfl (WD.go rfl ?_) | refine W.draw (id := 18) 12 [] rfl (by decide +kernel) rfl (WD.go rfl ?_) | refine W.draw (id := 19) 15 [] rfl (by decide +kernel) rfl (WD.go rfl ?_) | refine W.draw (id := 22) 18 [] rfl (by decide +kernel) rfl (WD.go rfl ?_) | refine WO.gives nc rfl rfl rfl rfl rfl rfl rfl rfl rfl (WO.go rfl ?_) | refine WD.gives nc rfl rfl rfl rfl rfl rfl rfl rfl rfl (WD.go rfl ?_) | refine WO.append0 rfl rfl rfl rfl rfl rfl rfl rfl rfl (WO.go rfl ?_) | refine WO.appendF (by simp) (by exact lens_ok rfl) (by exact lens_ok rfl) (by first | decide | simp) (by first | decide | simp) rfl rfl rfl rfl rfl rfl rfl rfl rfl rfl (WO.go rfl ?_) | refine WO.appendI (by simp) (by exact lens_ok rfl) (by first | decide | simp) (by first | decide | simp) rfl rfl rfl rfl rfl rfl rfl rfl rfl rfl (WO.go rfl ?_) | refine W.loop ?_ | refine W.exit ?_)
            refine W.cond rfl (fun h => absurd (h.symm.trans key2) (by decide)) (fun _ => ?_)
            repeat (first | refine W.condT rfl ?_ | refine W.condF rfl ?_ | refine W.seq ?_ | refine W.block ?_ | refine W.skip ?_ | refine WO.nil ?_ | refine WD.nil (WO.go rfl ?_) | refine W.region rfl (WO.go rfl ?_) | refine W.draw (id := 7) 29 [] rfl (by decide +kernel) rfl (WD.go rfl ?_) | refine W.draw (id := 12) 8 [] rfl (by decide +kernel) rfl (WD.go rfl ?_) | refine W.draw (id := 13) 10 [] rfl (by decide +kernel) rfl (WD.go rfl ?_) | refine W.draw (id := 14) 10 [] rfl (by decide +kernel) rfl (WD.go rfl ?_) | refine W.draw (id := 15) 29 [] rfl (by decide +kernel) rfl (WD.go rfl ?_) | refine W.draw (id := 18) 12 [] rfl (by decide +kernel) rfl (WD.go rfl ?_) | refine W.draw (id := 19) 15 [] rfl (by decide +kernel) rfl (WD.go rfl ?_) | refine W.draw (id := 22) 18 [] rfl (by decide +kernel) rfl (WD.go rfl ?_) | refine WO.givesT hk1 rfl rfl rfl rfl rfl rfl rfl rfl rfl (WO.go rfl ?_) | refine WD.givesT hk1 rfl rfl rfl rfl rfl rfl rfl rfl rfl (WD.go rfl ?_) | refine WO.gives l1 rfl rfl rfl rfl rfl rfl rfl rfl rfl (WO.go rfl ?_) | refine WD.gives l1 rfl rfl rfl rfl rfl rfl rfl rfl rfl (WD.go rfl ?_) | refine WO.gives l2 rfl rfl rfl rfl rfl rfl rfl rfl rfl (WO.go rfl ?_) | refine WD.gives l2 rfl rfl rfl rfl rfl rfl rfl rfl rfl (WD.go rfl ?_) | refine WO.givesT hwi rfl rfl rfl rfl rfl rfl rfl rfl rfl (WO.go rfl ?_) | refine WD.givesT hwi rfl rfl rfl rfl rfl rfl rfl rfl rfl (WD.go rfl ?_) | refine WO.append0 rfl rfl rfl rfl rfl rfl rfl rfl rfl (WO.go rfl ?_) | refine WO.appendF (by simp) (by exact lens_ok rfl) (by exact lens_ok rfl) (by first | decide | simp) (by first | decide | simp) rfl rfl rfl rfl rfl rfl rfl rfl rfl rfl (WO.go rfl ?_) | refine WO.appendI (by simp) (by exact lens_ok rfl) (by first | decide | simp) (by first | decide | simp) rfl rfl rfl rfl rfl rfl rfl rfl rfl rfl (WO.go rfl ?_) | refine W.loop ?_ | refine W.exit ?_)
            exact W.ret (.ret [_, _] rfl rfl)
        · exact absurd hp.1 (by simp)
        · exact absurd hp.1 (by simp)
      · have key2 : decide ((c.size : Int) > 4096) = true := decide_eq_true (by omega)
        simp only [MR]
        rw [if_neg (fun h => h2 h.2)]
        refine givesW (fn := Tryz.f39) Tryz.func39 rfl rfl rfl ?_
        repeat (first | (refine WO.gives nw rfl rfl rfl rfl rfl rfl rfl rfl rfl (WO.steps 2 rfl (WO.fix 32 (congrArg AV.bool key) (WO.go rfl ?_)))) | refine W.condT rfl ?_ | refine W.condF rfl ?_ | refine W.seq ?_ | refine W.block ?_ | refine W.skip ?_ | refine WO.nil ?_ | refine WD.nil (WO.go rfl ?_) | refine W.region rfl (WO.go rfl ?_) | refine W.draw (id := 7) 29 [] rfl (by decide +kernel) rfl (WD.go rfl ?_) | refine W.draw (id := 12) 8 [] rfl (by decide +kernel) rfl (WD.go rfl ?_) | refine W.draw (id := 13) 10 [] rfl (by decide +kernel) rfl (WD.go rfl ?_) | refine W.draw (id := 14) 10 [] rfl (by decide +kernel) rfl (WD.go rfl ?_) | refine W.draw (id := 15) 29 [] rfl (by decide +kernel) rfl (WD.go rfl ?_) | refine W.draw (id := 18) 12 [] rfl (by decide +kernel) rfl (WD.go rfl ?_) | refine W.draw (id := 19) 15 [] rfl (by decide +kernel) rfl (WD.go rfl ?_) | refine W.draw (id := 22) 18 [] rfl (by decide +kernel) rfl (WD.go rfl ?_) | refine WO.gives nc rfl rfl rfl rfl rfl rfl rfl rfl rfl (WO.go rfl ?_) | refine WD.gives nc rfl rfl rfl rfl rfl rfl rfl rfl rfl (WD.go rfl ?_) | refine WO.append0 rfl rfl rfl rfl rfl rfl rfl rfl rfl (WO.go rfl ?_) | refine WO.appendF (by simp) (by exact lens_ok rfl) (by exact lens_ok rfl) (by first | decide | simp) (by first | decide | simp) rfl rfl rfl rfl rfl rfl rfl rfl rfl rfl (WO.go rfl ?_) | refine WO.appendI (by simp) (by exact lens_ok rfl) (by first | decide | simp) (by first | decide | simp) rfl rfl rfl rfl rfl rfl rfl rfl rfl rfl (WO.go rfl ?_) | refine W.loop ?_ | refine W.exit ?_)
        refine W.cond rfl (fun _ => ?_) (fun h => absurd (h.symm.trans key2) (by decide))
        repeat (first | refine W.condT rfl ?_ | refine W.condF rfl ?_ | refine W.seq ?_ | refine W.block ?_ | refine W.skip ?_ | refine WO.nil ?_ | refine WD.nil (WO.go rfl ?_) | refine W.region rfl (WO.go rfl ?_) | refine W.draw (id := 7) 29 [] rfl (by decide +kernel) rfl (WD.go rfl ?_) | refine W.draw (id := 12) 8 [] rfl (by decide +kernel) rfl (WD.go rfl ?_) | refine W.draw (id := 13) 10 [] rfl (by decide +kernel) rfl (WD.go rfl ?_) | refine W.draw (id := 14) 10 [] rfl (by decide +kernel) rfl (WD.go rfl ?_) | refine W.draw (id := 15) 29 [] rfl (by decide +kernel) rfl (WD.go rfl ?_) | refine W.draw (id := 18) 12 [] rfl (by decide +kernel) rfl (WD.go rfl ?_) | refine W.draw (id := 19) 15 [] rfl (by decide +kernel) rfl (WD.go rfl ?_) | refine W.draw (id := 22) 18 [] rfl (by decide +kernel) rfl (WD.go rfl ?_) | refine WO.append0 rfl rfl rfl rfl rfl rfl rfl rfl rfl (WO.go rfl ?_) | refine WO.appendF (by simp) (by exact lens_ok rfl) (by exact lens_ok rfl) (by first | decide | simp) (by first | decide | simp) rfl rfl rfl rfl rfl rfl rfl rfl rfl rfl (WO.go rfl ?_) | refine WO.appendI (by simp) (by exact lens_ok rfl) (by first | decide | simp) (by first | decide | simp) rfl rfl rfl rfl rfl rfl rfl rfl rfl rfl (WO.go rfl ?_) | refine W.loop ?_ | refine W.exit ?_)
        exact W.ret (.ret [_, _] rfl rfl)
    · have key : decide ((w.size : Int) > 4096) = true := decide_eq_true (by omega)
      simp only [MR]
      rw [if_neg (fun h => h1 h.1)]
      refine givesW (fn := Tryz.f39) Tryz.func39 rfl rfl rfl ?_
      repeat (first | (refine WO.gives nw rfl rfl rfl rfl rfl rfl rfl rfl rfl (WO.steps 2 rfl (WO.fix 32 (congrArg AV.bool key) (WO.go rfl ?_)))) | refine W.condT rfl ?_ | refine W.condF rfl ?_ | refine W.seq ?_ | refine W.block ?_ | refine W.skip ?_ | refine WO.nil ?_ | refine WD.nil (WO.go rfl ?_) | refine W.region rfl (WO.go rfl ?_) | refine W.draw (id := 7) 29 [] rfl (by decide +kernel) rfl (WD.go rfl ?_) | refine W.draw (id := 12) 8 [] rfl (by decide +kernel) rfl (WD.go rfl ?_) | refine W.draw (id := 13) 10 [] rfl (by decide +kernel) rfl (WD.go rfl ?_) | refine W.draw (id := 14) 10 [] rfl (by decide +kernel) rfl (WD.go rfl ?_) | refine W.draw (id := 15) 29 [] rfl (by decide +kernel) rfl (WD.go rfl ?_) | refine W.draw (id := 18) 12 [] rfl (by decide +kernel) rfl (WD.go rfl ?_) | refine W.draw (id := 19) 15 [] rfl (by decide +kernel) rfl (WD.go rfl ?_) | refine W.draw (id := 22) 18 [] rfl (by decide +kernel) rfl (WD.go rfl ?_) | refine WO.append0 rfl rfl rfl rfl rfl rfl rfl rfl rfl (WO.go rfl ?_) | refine WO.appendF (by simp) (by exact lens_ok rfl) (by exact lens_ok rfl) (by first | decide | simp) (by first | decide | simp) rfl rfl rfl rfl rfl rfl rfl rfl rfl rfl (WO.go rfl ?_) | refine WO.appendI (by simp) (by exact lens_ok rfl) (by first | decide | simp) (by first | decide | simp) rfl rfl rfl rfl rfl rfl rfl rfl rfl rfl (WO.go rfl ?_) | refine W.loop ?_ | refine W.exit ?_)
      exact W.ret (.ret [_, _] rfl rfl)
theorem formulaM_W (f : Fo) (w c : T) (m : Nat) (G : List Y) (hp : f.pure) (he : ∃ p, f.bothE = some p) (ho : Fo.Ok m G f) (hw : HT m G w f.both.1) (hc : HT m G c f.both.2) (hs : f.size ≤ 4096) (ht : f.tyLe 64) (hwt : w.tyLe 64) (hct : c.tyLe 64)
    (hws : w.size ≤ 4096) (hcs : c.size ≤ 4096) (hG : G.length ≤ 1000) : Gives (AC X) 16 [.agg (cF f), .agg (cT w), .agg (cT c)] (rMat (MR (Fo.bone f) f w c)) := by
  have hof := ofM_W (X := X) (Fo.bone f) f w c m G (Nat.le_refl _) hp he ho hw hc hs ht hwt hct (by omega) (by omega) hG
  have ef := bothE_get hp he
  have h1 := witness_W (X := X) f hp hs ht
  have h2 := challenge_W (X := X) f hp hs ht
  rw [ef] at h1 h2
  have h3 := termsCheck_W (X := X) w hws hwt
  have h4 := termsCheck_W (X := X) c hcs hct
  have h5 := farFormulaS_W (X := X) f (Fo.le_of_ok ho (by omega))
  have h6 := farS_W (X := X) w (T.le_mono (T.le_of_sc hw.sc) (by omega))
  have h7 := farS_W (X := X) c (T.le_mono (T.le_of_sc hc.sc) (by omega))
  revert hof
  generalize MR _ _ _ _ = RR
  intro hof
  cases RR with
  | none =>
    refine givesW (fn := Tryz.f16) Tryz.func16 rfl rfl rfl ?_
    repeat (first | refine W.condT rfl ?_ | refine W.condF rfl ?_ | refine W.seq ?_ | refine W.block ?_ | refine W.skip ?_ | refine WO.nil ?_ | refine WD.nil (WO.go rfl ?_) | refine W.region rfl (WO.go rfl ?_) | refine WO.givesT h1 rfl rfl rfl rfl rfl rfl rfl rfl rfl (WO.go rfl ?_) | refine WD.givesT h1 rfl rfl rfl rfl rfl rfl rfl rfl rfl (WD.go rfl ?_) | refine WO.givesT h2 rfl rfl rfl rfl rfl rfl rfl rfl rfl (WO.go rfl ?_) | refine WD.givesT h2 rfl rfl rfl rfl rfl rfl rfl rfl rfl (WD.go rfl ?_) | refine WO.gives h3 rfl rfl rfl rfl rfl rfl rfl rfl rfl (WO.go rfl ?_) | refine WD.gives h3 rfl rfl rfl rfl rfl rfl rfl rfl rfl (WD.go rfl ?_) | refine WO.gives h4 rfl rfl rfl rfl rfl rfl rfl rfl rfl (WO.go rfl ?_) | refine WD.gives h4 rfl rfl rfl rfl rfl rfl rfl rfl rfl (WD.go rfl ?_) | refine WO.gives h5 rfl rfl rfl rfl rfl rfl rfl rfl rfl (WO.go rfl ?_) | refine WD.gives h5 rfl rfl rfl rfl rfl rfl rfl rfl rfl (WD.go rfl ?_) | refine WO.gives h6 rfl rfl rfl rfl rfl rfl rfl rfl rfl (WO.go rfl ?_) | refine WD.gives h6 rfl rfl rfl rfl rfl rfl rfl rfl rfl (WD.go rfl ?_) | refine WO.gives h7 rfl rfl rfl rfl rfl rfl rfl rfl rfl (WO.go rfl ?_) | refine WD.gives h7 rfl rfl rfl rfl rfl rfl rfl rfl rfl (WD.go rfl ?_) | refine WO.givesT hof rfl rfl rfl rfl rfl rfl rfl rfl rfl (WO.go rfl ?_) | refine WD.givesT hof rfl rfl rfl rfl rfl rfl rfl rfl rfl (WD.go rfl ?_) | refine WO.append0 rfl rfl rfl rfl rfl rfl rfl rfl rfl (WO.go rfl ?_) | refine WO.appendF (by simp) (by exact lens_ok rfl) (by exact lens_ok rfl) (by first | decide | simp) (by first | decide | simp) rfl rfl rfl rfl rfl rfl rfl rfl rfl rfl (WO.go rfl ?_) | refine WO.appendI (by simp) (by exact lens_ok rfl) (by first | decide | simp) (by first | decide | simp) rfl rfl rfl rfl rfl rfl rfl rfl rfl rfl (WO.go rfl ?_) | refine W.loop ?_ | refine W.exit ?_)
    exact W.ret (.ret [_, _] rfl rfl)
  | some y =>
    refine givesW (fn := Tryz.f16) Tryz.func16 rfl rfl rfl ?_
    repeat (first | refine W.condT rfl ?_ | refine W.condF rfl ?_ | refine W.seq ?_ | refine W.block ?_ | refine W.skip ?_ | refine WO.nil ?_ | refine WD.nil (WO.go rfl ?_) | refine W.region rfl (WO.go rfl ?_) | refine WO.givesT h1 rfl rfl rfl rfl rfl rfl rfl rfl rfl (WO.go rfl ?_) | refine WD.givesT h1 rfl rfl rfl rfl rfl rfl rfl rfl rfl (WD.go rfl ?_) | refine WO.givesT h2 rfl rfl rfl rfl rfl rfl rfl rfl rfl (WO.go rfl ?_) | refine WD.givesT h2 rfl rfl rfl rfl rfl rfl rfl rfl rfl (WD.go rfl ?_) | refine WO.gives h3 rfl rfl rfl rfl rfl rfl rfl rfl rfl (WO.go rfl ?_) | refine WD.gives h3 rfl rfl rfl rfl rfl rfl rfl rfl rfl (WD.go rfl ?_) | refine WO.gives h4 rfl rfl rfl rfl rfl rfl rfl rfl rfl (WO.go rfl ?_) | refine WD.gives h4 rfl rfl rfl rfl rfl rfl rfl rfl rfl (WD.go rfl ?_) | refine WO.gives h5 rfl rfl rfl rfl rfl rfl rfl rfl rfl (WO.go rfl ?_) | refine WD.gives h5 rfl rfl rfl rfl rfl rfl rfl rfl rfl (WD.go rfl ?_) | refine WO.gives h6 rfl rfl rfl rfl rfl rfl rfl rfl rfl (WO.go rfl ?_) | refine WD.gives h6 rfl rfl rfl rfl rfl rfl rfl rfl rfl (WD.go rfl ?_) | refine WO.gives h7 rfl rfl rfl rfl rfl rfl rfl rfl rfl (WO.go rfl ?_) | refine WD.gives h7 rfl rfl rfl rfl rfl rfl rfl rfl rfl (WD.go rfl ?_) | refine WO.givesT hof rfl rfl rfl rfl rfl rfl rfl rfl rfl (WO.go rfl ?_) | refine WD.givesT hof rfl rfl rfl rfl rfl rfl rfl rfl rfl (WD.go rfl ?_) | refine WO.append0 rfl rfl rfl rfl rfl rfl rfl rfl rfl (WO.go rfl ?_) | refine WO.appendF (by simp) (by exact lens_ok rfl) (by exact lens_ok rfl) (by first | decide | simp) (by first | decide | simp) rfl rfl rfl rfl rfl rfl rfl rfl rfl rfl (WO.go rfl ?_) | refine WO.appendI (by simp) (by exact lens_ok rfl) (by first | decide | simp) (by first | decide | simp) rfl rfl rfl rfl rfl rfl rfl rfl rfl rfl (WO.go rfl ?_) | refine W.loop ?_ | refine W.exit ?_)
    exact W.ret (.ret [_, _] rfl rfl)
def freeB : Fo → Bool
  | .eq _ _ => true
  | .bi _ f g => freeB f && freeB g
  | .q _ _ _ => false
theorem freeM_W : ∀ (f : Fo), Gives (AC X) 24 [.agg (cF f)] (.bool (freeB f))
  | .eq a b => by
    refine givesW (fn := Tryz.f24) Tryz.func24 rfl rfl rfl ?_
    repeat (first | refine W.condT rfl ?_ | refine W.condF rfl ?_ | refine W.seq ?_ | refine W.block ?_ | refine W.skip ?_ | refine WO.nil ?_ | refine WD.nil (WO.go rfl ?_) | refine W.region rfl (WO.go rfl ?_) | refine WO.append0 rfl rfl rfl rfl rfl rfl rfl rfl rfl (WO.go rfl ?_) | refine WO.appendF (by simp) (by exact lens_ok rfl) (by exact lens_ok rfl) (by first | decide | simp) (by first | decide | simp) rfl rfl rfl rfl rfl rfl rfl rfl rfl rfl (WO.go rfl ?_) | refine WO.appendI (by simp) (by exact lens_ok rfl) (by first | decide | simp) (by first | decide | simp) rfl rfl rfl rfl rfl rfl rfl rfl rfl rfl (WO.go rfl ?_) | refine W.loop ?_ | refine W.exit ?_)
    exact W.ret (.ret [_] rfl rfl)
  | .bi .an f g => by
    have h1 := freeM_W f
    have h2 := freeM_W g
    simp only [freeB]
    cases e1 : freeB f <;> cases e2 : freeB g <;> rw [e1] at h1 <;> rw [e2] at h2 <;>
    · refine givesW (fn := Tryz.f24) Tryz.func24 rfl rfl rfl ?_
      repeat (first | refine W.condT rfl ?_ | refine W.condF rfl ?_ | refine W.seq ?_ | refine W.block ?_ | refine W.skip ?_ | refine WO.nil ?_ | refine WD.nil (WO.go rfl ?_) | refine W.region rfl (WO.go rfl ?_) | refine WO.gives h1 rfl rfl rfl rfl rfl rfl rfl rfl rfl (WO.go rfl ?_) | refine WD.gives h1 rfl rfl rfl rfl rfl rfl rfl rfl rfl (WD.go rfl ?_) | refine WO.gives h2 rfl rfl rfl rfl rfl rfl rfl rfl rfl (WO.go rfl ?_) | refine WD.gives h2 rfl rfl rfl rfl rfl rfl rfl rfl rfl (WD.go rfl ?_) | refine WO.append0 rfl rfl rfl rfl rfl rfl rfl rfl rfl (WO.go rfl ?_) | refine WO.appendF (by simp) (by exact lens_ok rfl) (by exact lens_ok rfl) (by first | decide | simp) (by first | decide | simp) rfl rfl rfl rfl rfl rfl rfl rfl rfl rfl (WO.go rfl ?_) | refine WO.appendI (by simp) (by exact lens_ok rfl) (by first | decide | simp) (by first | decide | simp) rfl rfl rfl rfl rfl rfl rfl rfl rfl rfl (WO.go rfl ?_) | refine W.loop ?_ | refine W.exit ?_)
      exact W.ret (.ret [_] rfl rfl)
  | .bi .im f g => by
    have h1 := freeM_W f
    have h2 := freeM_W g
    simp only [freeB]
    cases e1 : freeB f <;> cases e2 : freeB g <;> rw [e1] at h1 <;> rw [e2] at h2 <;>
    · refine givesW (fn := Tryz.f24) Tryz.func24 rfl rfl rfl ?_
      repeat (first | refine W.condT rfl ?_ | refine W.condF rfl ?_ | refine W.seq ?_ | refine W.block ?_ | refine W.skip ?_ | refine WO.nil ?_ | refine WD.nil (WO.go rfl ?_) | refine W.region rfl (WO.go rfl ?_) | refine WO.gives h1 rfl rfl rfl rfl rfl rfl rfl rfl rfl (WO.go rfl ?_) | refine WD.gives h1 rfl rfl rfl rfl rfl rfl rfl rfl rfl (WD.go rfl ?_) | refine WO.gives h2 rfl rfl rfl rfl rfl rfl rfl rfl rfl (WO.go rfl ?_) | refine WD.gives h2 rfl rfl rfl rfl rfl rfl rfl rfl rfl (WD.go rfl ?_) | refine WO.append0 rfl rfl rfl rfl rfl rfl rfl rfl rfl (WO.go rfl ?_) | refine WO.appendF (by simp) (by exact lens_ok rfl) (by exact lens_ok rfl) (by first | decide | simp) (by first | decide | simp) rfl rfl rfl rfl rfl rfl rfl rfl rfl rfl (WO.go rfl ?_) | refine WO.appendI (by simp) (by exact lens_ok rfl) (by first | decide | simp) (by first | decide | simp) rfl rfl rfl rfl rfl rfl rfl rfl rfl rfl (WO.go rfl ?_) | refine W.loop ?_ | refine W.exit ?_)
      exact W.ret (.ret [_] rfl rfl)
  | .q .al s f => by
    refine givesW (fn := Tryz.f24) Tryz.func24 rfl rfl rfl ?_
    repeat (first | refine W.condT rfl ?_ | refine W.condF rfl ?_ | refine W.seq ?_ | refine W.block ?_ | refine W.skip ?_ | refine WO.nil ?_ | refine WD.nil (WO.go rfl ?_) | refine W.region rfl (WO.go rfl ?_) | refine WO.append0 rfl rfl rfl rfl rfl rfl rfl rfl rfl (WO.go rfl ?_) | refine WO.appendF (by simp) (by exact lens_ok rfl) (by exact lens_ok rfl) (by first | decide | simp) (by first | decide | simp) rfl rfl rfl rfl rfl rfl rfl rfl rfl rfl (WO.go rfl ?_) | refine WO.appendI (by simp) (by exact lens_ok rfl) (by first | decide | simp) (by first | decide | simp) rfl rfl rfl rfl rfl rfl rfl rfl rfl rfl (WO.go rfl ?_) | refine W.loop ?_ | refine W.exit ?_)
    exact W.ret (.ret [_] rfl rfl)
  | .q .ex s f => by
    refine givesW (fn := Tryz.f24) Tryz.func24 rfl rfl rfl ?_
    repeat (first | refine W.condT rfl ?_ | refine W.condF rfl ?_ | refine W.seq ?_ | refine W.block ?_ | refine W.skip ?_ | refine WO.nil ?_ | refine WD.nil (WO.go rfl ?_) | refine W.region rfl (WO.go rfl ?_) | refine WO.append0 rfl rfl rfl rfl rfl rfl rfl rfl rfl (WO.go rfl ?_) | refine WO.appendF (by simp) (by exact lens_ok rfl) (by exact lens_ok rfl) (by first | decide | simp) (by first | decide | simp) rfl rfl rfl rfl rfl rfl rfl rfl rfl rfl (WO.go rfl ?_) | refine WO.appendI (by simp) (by exact lens_ok rfl) (by first | decide | simp) (by first | decide | simp) rfl rfl rfl rfl rfl rfl rfl rfl rfl rfl (WO.go rfl ?_) | refine W.loop ?_ | refine W.exit ?_)
    exact W.ret (.ret [_] rfl rfl)
  | .q .au s f => by
    refine givesW (fn := Tryz.f24) Tryz.func24 rfl rfl rfl ?_
    repeat (first | refine W.condT rfl ?_ | refine W.condF rfl ?_ | refine W.seq ?_ | refine W.block ?_ | refine W.skip ?_ | refine WO.nil ?_ | refine WD.nil (WO.go rfl ?_) | refine W.region rfl (WO.go rfl ?_) | refine WO.append0 rfl rfl rfl rfl rfl rfl rfl rfl rfl (WO.go rfl ?_) | refine WO.appendF (by simp) (by exact lens_ok rfl) (by exact lens_ok rfl) (by first | decide | simp) (by first | decide | simp) rfl rfl rfl rfl rfl rfl rfl rfl rfl rfl (WO.go rfl ?_) | refine WO.appendI (by simp) (by exact lens_ok rfl) (by first | decide | simp) (by first | decide | simp) rfl rfl rfl rfl rfl rfl rfl rfl rfl rfl (WO.go rfl ?_) | refine W.loop ?_ | refine W.exit ?_)
    exact W.ret (.ret [_] rfl rfl)
  | .q .eu s f => by
    refine givesW (fn := Tryz.f24) Tryz.func24 rfl rfl rfl ?_
    repeat (first | refine W.condT rfl ?_ | refine W.condF rfl ?_ | refine W.seq ?_ | refine W.block ?_ | refine W.skip ?_ | refine WO.nil ?_ | refine WD.nil (WO.go rfl ?_) | refine W.region rfl (WO.go rfl ?_) | refine WO.append0 rfl rfl rfl rfl rfl rfl rfl rfl rfl (WO.go rfl ?_) | refine WO.appendF (by simp) (by exact lens_ok rfl) (by exact lens_ok rfl) (by first | decide | simp) (by first | decide | simp) rfl rfl rfl rfl rfl rfl rfl rfl rfl rfl (WO.go rfl ?_) | refine WO.appendI (by simp) (by exact lens_ok rfl) (by first | decide | simp) (by first | decide | simp) rfl rfl rfl rfl rfl rfl rfl rfl rfl rfl (WO.go rfl ?_) | refine W.loop ?_ | refine W.exit ?_)
    exact W.ret (.ret [_] rfl rfl)
end Go.Proofs.YtjdlmhbkfammlaaGreatDoor
namespace Go.Proofs.YtjdlmhbkfammlaaGreatDoor
open Go Go.Sh
set_option linter.unusedVariables false
set_option linter.unusedSimpArgs false
set_option maxHeartbeats 4000000
variable {X : CRel}
/-! what the laws of the matrix start from -/
theorem parts_W (l : List Int) (hl : l.length ≤ 1000) (g : List Y) (hg : ∀ y ∈ g, y.size ≤ 3) (hgl : g.length ≤ 4) (i : Nat) (hi : i ≤ l.length) :
    (∃ j, GivesV (AC X) 18 [.vp 0 0, .sl .no (g.map cY)] (deck l i) (.tup [.agg zF, .agg zT, .agg zT, .bool false]) (deck l j) ∧ j ≤ l.length) ∨
    ∃ (f : Fo) (w c : T) (j : Nat), GivesV (AC X) 18 [.vp 0 0, .sl .no (g.map cY)] (deck l i) (.tup [.agg (cF f), .agg (cT w), .agg (cT c), .bool true]) (deck l j) ∧ j ≤ l.length ∧ f.pure ∧ (∃ p, f.bothE = some p) ∧ Fo.Ok 133 g.reverse f ∧
      HT 133 g.reverse w f.both.1 ∧ HT 133 g.reverse c f.both.2 ∧ f.size ≤ 4096 ∧ f.tyLe 64 ∧ w.size ≤ 4096 ∧ c.size ≤ 4096 ∧ w.tyLe 64 ∧ c.tyLe 64 := by
  obtain ⟨f, j1, hf, hf1, hf2, hf3, hf4, hf5, hf6⟩ := pure_W (X := X) l hl 3 (by omega) (by omega) 3 g i (by omega) hg (by omega) hi
  simp only [pB, rB] at hf5
  have htl : f.tyLe 64 := Fo.tyLe_mono hf6 (by omega)
  have hw := witness28_W (X := X) f hf3 (by omega) htl
  have hc := challenge28_W (X := X) f hf3 (by omega) htl
  cases ef : f.bothE with
  | none =>
    rw [ef] at hw hc
    refine .inl ⟨j1, ?_, hf2⟩
    refine givesVW (fn := Tryz.f18) Tryz.func18 rfl rfl rfl ?_
    repeat (first | refine W.condT rfl ?_ | refine W.condF rfl ?_ | refine W.seq ?_ | refine W.block ?_ | refine W.skip ?_ | refine WO.nil ?_ | refine WD.nil (WO.go rfl ?_) | refine W.region rfl (WO.go rfl ?_) | refine W.draw (id := 6) 9 [0] rfl (by decide +kernel) rfl (WD.go rfl ?_) | refine WO.draws hf rfl rfl rfl rfl rfl rfl rfl rfl rfl rfl rfl (WO.go rfl ?_) | refine WD.draws hf rfl rfl rfl rfl rfl rfl rfl rfl rfl rfl rfl rfl (WD.go rfl ?_) | refine WO.givesT hw rfl rfl rfl rfl rfl rfl rfl rfl rfl (WO.go rfl ?_) | refine WD.givesT hw rfl rfl rfl rfl rfl rfl rfl rfl rfl (WD.go rfl ?_) | refine WO.givesT hc rfl rfl rfl rfl rfl rfl rfl rfl rfl (WO.go rfl ?_) | refine WD.givesT hc rfl rfl rfl rfl rfl rfl rfl rfl rfl (WD.go rfl ?_) | refine WO.append0 rfl rfl rfl rfl rfl rfl rfl rfl rfl (WO.go rfl ?_) | refine WO.appendF (by simp) (by exact lens_ok rfl) (by exact lens_ok rfl) (by first | decide | simp) (by first | decide | simp) rfl rfl rfl rfl rfl rfl rfl rfl rfl rfl (WO.go rfl ?_) | refine WO.appendI (by simp) (by exact lens_ok rfl) (by first | decide | simp) (by first | decide | simp) rfl rfl rfl rfl rfl rfl rfl rfl rfl rfl (WO.go rfl ?_) | refine W.loop ?_ | refine W.exit ?_)
    exact W.ret (.ret [_, _, _, _] rfl ⟨rfl, rfl⟩)
  | some p =>
    obtain ⟨v, q⟩ := p
    have hle := Fo.bothE_le ef
    have hbo := Fo.bothE_both hf3 ef
    simp only at hle
    rw [ef] at hw hc
    obtain ⟨w, j2, kw, kw1, kw2, kw3, kw4, kw5⟩ := term_W (X := X) l hl 64 (by omega) (by omega) 2 v g j1 (by omega) hle.1 (fun y hy => by have := hg y hy; omega) (by omega) hf2
    obtain ⟨c, j3, kc, kc1, kc2, kc3, kc4, kc5⟩ := term_W (X := X) l hl 64 (by omega) (by omega) 2 q g j2 (by omega) hle.2 (fun y hy => by have := hg y hy; omega) (by omega) kw2
    simp only [rB] at kw4 kc4
    refine .inr ⟨f, w, c, j3, ?_, kc2, hf3, ⟨_, ef⟩, hf4.mono (by omega), by rw [hbo]; exact kw3, by rw [hbo]; exact kc3, by omega, htl, by omega, by omega, kw5, kc5⟩
    refine givesVW (fn := Tryz.f18) Tryz.func18 rfl rfl rfl ?_
    repeat (first | refine W.condT rfl ?_ | refine W.condF rfl ?_ | refine W.seq ?_ | refine W.block ?_ | refine W.skip ?_ | refine WO.nil ?_ | refine WD.nil (WO.go rfl ?_) | refine W.region rfl (WO.go rfl ?_) | refine W.draw (id := 6) 9 [0] rfl (by decide +kernel) rfl (WD.go rfl ?_) | refine WO.draws hf rfl rfl rfl rfl rfl rfl rfl rfl rfl rfl rfl (WO.go rfl ?_) | refine WD.draws hf rfl rfl rfl rfl rfl rfl rfl rfl rfl rfl rfl rfl (WD.go rfl ?_) | refine WO.givesT hw rfl rfl rfl rfl rfl rfl rfl rfl rfl (WO.go rfl ?_) | refine WD.givesT hw rfl rfl rfl rfl rfl rfl rfl rfl rfl (WD.go rfl ?_) | refine WO.givesT hc rfl rfl rfl rfl rfl rfl rfl rfl rfl (WO.go rfl ?_) | refine WD.givesT hc rfl rfl rfl rfl rfl rfl rfl rfl rfl (WD.go rfl ?_) | refine WO.draws kw rfl rfl rfl rfl rfl rfl rfl rfl rfl rfl rfl (WO.go rfl ?_) | refine WD.draws kw rfl rfl rfl rfl rfl rfl rfl rfl rfl rfl rfl rfl (WD.go rfl ?_) | refine WO.draws kc rfl rfl rfl rfl rfl rfl rfl rfl rfl rfl rfl (WO.go rfl ?_) | refine WD.draws kc rfl rfl rfl rfl rfl rfl rfl rfl rfl rfl rfl rfl (WD.go rfl ?_) | refine WO.append0 rfl rfl rfl rfl rfl rfl rfl rfl rfl (WO.go rfl ?_) | refine WO.appendF (by simp) (by exact lens_ok rfl) (by exact lens_ok rfl) (by first | decide | simp) (by first | decide | simp) rfl rfl rfl rfl rfl rfl rfl rfl rfl rfl (WO.go rfl ?_) | refine WO.appendI (by simp) (by exact lens_ok rfl) (by first | decide | simp) (by first | decide | simp) rfl rfl rfl rfl rfl rfl rfl rfl rfl rfl (WO.go rfl ?_) | refine W.loop ?_ | refine W.exit ?_)
    exact W.ret (.ret [_, _, _, _] rfl ⟨rfl, rfl⟩)
def awF29 : Fo := .q .al .nat (.q .ex .nat (.eq (.vr 0) (.vr 1)))
def awM29 : Fo := .eq (.ap (.vr 4) .ze) .ze
theorem awake29_W : Gives (AC X) 5 [] (.bool true) := by
  have h1 : Gives (AC X) 16 [.agg (cF awF29), .agg (cT (.vr 4)), .agg (cT .ze)] (.tup [.agg (cF awM29), .int .i64 0]) :=
    formulaM_W awF29 (.vr 4) .ze 133 [.nat, .nat, .nat, .nat, .fn .nat .nat] (by simp [awF29, Fo.pure]) ⟨_, rfl⟩ (.q (.q (.eq (.vr rfl) (.vr rfl)))) (.vr rfl) .ze (by decide) (by simp [awF29, Fo.tyLe, T.tyLe, Y.size]) trivial trivial (by decide) (by decide) (by decide)
  have h2 : Gives (AC X) 24 [.agg (cF awM29)] (.bool true) := freeM_W awM29
  have h3 : Gives (AC X) 24 [.agg (cF awF29)] (.bool false) := freeM_W awF29
  refine givesW (fn := Tryz.f5) Tryz.func5 rfl rfl rfl ?_
  repeat (first | refine W.condT rfl ?_ | refine W.condF rfl ?_ | refine W.seq ?_ | refine W.block ?_ | refine W.skip ?_ | refine WO.nil ?_ | refine WD.nil (WO.go rfl ?_) | refine W.region rfl (WO.go rfl ?_) | refine WO.givesT h1 rfl rfl rfl rfl rfl rfl rfl rfl rfl (WO.go rfl ?_) | refine WD.givesT h1 rfl rfl rfl rfl rfl rfl rfl rfl rfl (WD.go rfl ?_) | refine WO.gives h2 rfl rfl rfl rfl rfl rfl rfl rfl rfl (WO.go rfl ?_) | refine WD.gives h2 rfl rfl rfl rfl rfl rfl rfl rfl rfl (WD.go rfl ?_) | refine WO.gives h3 rfl rfl rfl rfl rfl rfl rfl rfl rfl (WO.go rfl ?_) | refine WD.gives h3 rfl rfl rfl rfl rfl rfl rfl rfl rfl (WD.go rfl ?_) | refine WO.append0 rfl rfl rfl rfl rfl rfl rfl rfl rfl (WO.go rfl ?_) | refine WO.appendF (by simp) (by exact lens_ok rfl) (by exact lens_ok rfl) (by first | decide | simp) (by first | decide | simp) rfl rfl rfl rfl rfl rfl rfl rfl rfl rfl (WO.go rfl ?_) | refine WO.appendI (by simp) (by exact lens_ok rfl) (by first | decide | simp) (by first | decide | simp) rfl rfl rfl rfl rfl rfl rfl rfl rfl rfl (WO.go rfl ?_) | refine W.loop ?_ | refine W.exit ?_)
  exact W.ret (.ret [_] rfl rfl)
end Go.Proofs.YtjdlmhbkfammlaaGreatDoor
namespace Go.Proofs.YtjdlmhbkfammlaaGreatDoor
open Go Go.Sh
set_option linter.unusedVariables false
set_option linter.unusedSimpArgs false
set_option maxHeartbeats 4000000
variable {X : CRel}
theorem partsN_W (l : List Int) (hl : l.length ≤ 1000) (g : List Y) (hg : ∀ y ∈ g, y.size ≤ 3) (hgl : g.length ≤ 4) (i : Nat) (hi : i ≤ l.length) :
    (∃ j, GivesV (AC X) 18 [.vp 0 0, .sl .no (g.map cY)] (deck l i) (.tup [.agg zF, .agg zT, .agg zT, .bool false]) (deck l j) ∧ j ≤ l.length) ∨
    ∃ (f : Fo) (w c : T) (j : Nat), GivesV (AC X) 18 [.vp 0 0, .sl .no (g.map cY)] (deck l i) (.tup [.agg (cF f), .agg (cT w), .agg (cT c), .bool true]) (deck l j) ∧ j ≤ l.length ∧ f.pure ∧ (∃ p, f.bothE = some p) ∧ Fo.Ok 133 g.reverse f ∧
      HT 133 g.reverse w f.both.1 ∧ HT 133 g.reverse c f.both.2 ∧ f.size ≤ 4000 ∧ f.tyLe 64 ∧ w.size ≤ 2000 ∧ c.size ≤ 2000 ∧ w.tyLe 64 ∧ c.tyLe 64 := by
  obtain ⟨f, j1, hf, hf1, hf2, hf3, hf4, hf5, hf6⟩ := pure_W (X := X) l hl 3 (by omega) (by omega) 3 g i (by omega) hg (by omega) hi
  simp only [pB, rB] at hf5
  have htl : f.tyLe 64 := Fo.tyLe_mono hf6 (by omega)
  have hw := witness28_W (X := X) f hf3 (by omega) htl
  have hc := challenge28_W (X := X) f hf3 (by omega) htl
  cases ef : f.bothE with
  | none =>
    rw [ef] at hw hc
    refine .inl ⟨j1, ?_, hf2⟩
    refine givesVW (fn := Tryz.f18) Tryz.func18 rfl rfl rfl ?_
    repeat (first | refine W.condT rfl ?_ | refine W.condF rfl ?_ | refine W.seq ?_ | refine W.block ?_ | refine W.skip ?_ | refine WO.nil ?_ | refine WD.nil (WO.go rfl ?_) | refine W.region rfl (WO.go rfl ?_) | refine W.draw (id := 6) 9 [0] rfl (by decide +kernel) rfl (WD.go rfl ?_) | refine WO.draws hf rfl rfl rfl rfl rfl rfl rfl rfl rfl rfl rfl (WO.go rfl ?_) | refine WD.draws hf rfl rfl rfl rfl rfl rfl rfl rfl rfl rfl rfl rfl (WD.go rfl ?_) | refine WO.givesT hw rfl rfl rfl rfl rfl rfl rfl rfl rfl (WO.go rfl ?_) | refine WD.givesT hw rfl rfl rfl rfl rfl rfl rfl rfl rfl (WD.go rfl ?_) | refine WO.givesT hc rfl rfl rfl rfl rfl rfl rfl rfl rfl (WO.go rfl ?_) | refine WD.givesT hc rfl rfl rfl rfl rfl rfl rfl rfl rfl (WD.go rfl ?_) | refine WO.append0 rfl rfl rfl rfl rfl rfl rfl rfl rfl (WO.go rfl ?_) | refine WO.appendF (by simp) (by exact lens_ok rfl) (by exact lens_ok rfl) (by first | decide | simp) (by first | decide | simp) rfl rfl rfl rfl rfl rfl rfl rfl rfl rfl (WO.go rfl ?_) | refine WO.appendI (by simp) (by exact lens_ok rfl) (by first | decide | simp) (by first | decide | simp) rfl rfl rfl rfl rfl rfl rfl rfl rfl rfl (WO.go rfl ?_) | refine W.loop ?_ | refine W.exit ?_)
    exact W.ret (.ret [_, _, _, _] rfl ⟨rfl, rfl⟩)
  | some p =>
    obtain ⟨v, q⟩ := p
    have hle := Fo.bothE_le ef
    have hbo := Fo.bothE_both hf3 ef
    simp only at hle
    rw [ef] at hw hc
    obtain ⟨w, j2, kw, kw1, kw2, kw3, kw4, kw5⟩ := term_W (X := X) l hl 64 (by omega) (by omega) 2 v g j1 (by omega) hle.1 (fun y hy => by have := hg y hy; omega) (by omega) hf2
    obtain ⟨c, j3, kc, kc1, kc2, kc3, kc4, kc5⟩ := term_W (X := X) l hl 64 (by omega) (by omega) 2 q g j2 (by omega) hle.2 (fun y hy => by have := hg y hy; omega) (by omega) kw2
    simp only [rB] at kw4 kc4
    refine .inr ⟨f, w, c, j3, ?_, kc2, hf3, ⟨_, ef⟩, hf4.mono (by omega), by rw [hbo]; exact kw3, by rw [hbo]; exact kc3, by omega, htl, by omega, by omega, kw5, kc5⟩
    refine givesVW (fn := Tryz.f18) Tryz.func18 rfl rfl rfl ?_
    repeat (first | refine W.condT rfl ?_ | refine W.condF rfl ?_ | refine W.seq ?_ | refine W.block ?_ | refine W.skip ?_ | refine WO.nil ?_ | refine WD.nil (WO.go rfl ?_) | refine W.region rfl (WO.go rfl ?_) | refine W.draw (id := 6) 9 [0] rfl (by decide +kernel) rfl (WD.go rfl ?_) | refine WO.draws hf rfl rfl rfl rfl rfl rfl rfl rfl rfl rfl rfl (WO.go rfl ?_) | refine WD.draws hf rfl rfl rfl rfl rfl rfl rfl rfl rfl rfl rfl rfl (WD.go rfl ?_) | refine WO.givesT hw rfl rfl rfl rfl rfl rfl rfl rfl rfl (WO.go rfl ?_) | refine WD.givesT hw rfl rfl rfl rfl rfl rfl rfl rfl rfl (WD.go rfl ?_) | refine WO.givesT hc rfl rfl rfl rfl rfl rfl rfl rfl rfl (WO.go rfl ?_) | refine WD.givesT hc rfl rfl rfl rfl rfl rfl rfl rfl rfl (WD.go rfl ?_) | refine WO.draws kw rfl rfl rfl rfl rfl rfl rfl rfl rfl rfl rfl (WO.go rfl ?_) | refine WD.draws kw rfl rfl rfl rfl rfl rfl rfl rfl rfl rfl rfl rfl (WD.go rfl ?_) | refine WO.draws kc rfl rfl rfl rfl rfl rfl rfl rfl rfl rfl rfl (WO.go rfl ?_) | refine WD.draws kc rfl rfl rfl rfl rfl rfl rfl rfl rfl rfl rfl rfl (WD.go rfl ?_) | refine WO.append0 rfl rfl rfl rfl rfl rfl rfl rfl rfl (WO.go rfl ?_) | refine WO.appendF (by simp) (by exact lens_ok rfl) (by exact lens_ok rfl) (by first | decide | simp) (by first | decide | simp) rfl rfl rfl rfl rfl rfl rfl rfl rfl rfl (WO.go rfl ?_) | refine WO.appendI (by simp) (by exact lens_ok rfl) (by first | decide | simp) (by first | decide | simp) rfl rfl rfl rfl rfl rfl rfl rfl rfl rfl (WO.go rfl ?_) | refine W.loop ?_ | refine W.exit ?_)
    exact W.ret (.ret [_, _, _, _] rfl ⟨rfl, rfl⟩)
theorem unit24_W : Gives (AC X) 15 [] (.agg (cT .un)) := by
  refine givesW (fn := Tryz.f15) Tryz.func15 rfl rfl rfl ?_
  repeat (first | refine W.condT rfl ?_ | refine W.condF rfl ?_ | refine W.seq ?_ | refine W.block ?_ | refine W.skip ?_ | refine WO.nil ?_ | refine WD.nil (WO.go rfl ?_) | refine W.region rfl (WO.go rfl ?_) | refine WO.append0 rfl rfl rfl rfl rfl rfl rfl rfl rfl (WO.go rfl ?_) | refine WO.appendF (by simp) (by exact lens_ok rfl) (by exact lens_ok rfl) (by first | decide | simp) (by first | decide | simp) rfl rfl rfl rfl rfl rfl rfl rfl rfl rfl (WO.go rfl ?_) | refine WO.appendI (by simp) (by exact lens_ok rfl) (by first | decide | simp) (by first | decide | simp) rfl rfl rfl rfl rfl rfl rfl rfl rfl rfl (WO.go rfl ?_) | refine W.loop ?_ | refine W.exit ?_)
  exact W.ret (.ret [_] rfl rfl)
theorem app24_W (f t : T) : Gives (AC X) 55 [.agg (cT f), .agg (cT t)] (.agg (cT (.ap f t))) := by
  have h1 : Gives (AC X) 90 [.int .i64 3, .sl .no [cT f, cT t]] (.agg (cT (.ap f t))) := by
    refine givesW (fn := Tryz.f90) Tryz.func90 rfl rfl rfl ?_
    repeat (first | refine W.condT rfl ?_ | refine W.condF rfl ?_ | refine W.seq ?_ | refine W.block ?_ | refine W.skip ?_ | refine WO.nil ?_ | refine WD.nil (WO.go rfl ?_) | refine W.region rfl (WO.go rfl ?_) | refine WO.append0 rfl rfl rfl rfl rfl rfl rfl rfl rfl (WO.go rfl ?_) | refine WO.appendF (by simp) (by exact lens_ok rfl) (by exact lens_ok rfl) (by first | decide | simp) (by first | decide | simp) rfl rfl rfl rfl rfl rfl rfl rfl rfl rfl (WO.go rfl ?_) | refine WO.appendI (by simp) (by exact lens_ok rfl) (by first | decide | simp) (by first | decide | simp) rfl rfl rfl rfl rfl rfl rfl rfl rfl rfl (WO.go rfl ?_) | refine W.loop ?_ | refine W.exit ?_)
    exact W.ret (.ret [_] rfl rfl)
  refine givesW (fn := Tryz.f55) Tryz.func55 rfl rfl rfl ?_
  repeat (first | refine W.condT rfl ?_ | refine W.condF rfl ?_ | refine W.seq ?_ | refine W.block ?_ | refine W.skip ?_ | refine WO.nil ?_ | refine WD.nil (WO.go rfl ?_) | refine W.region rfl (WO.go rfl ?_) | refine WO.gives h1 rfl rfl rfl rfl rfl rfl rfl rfl rfl (WO.go rfl ?_) | refine WD.gives h1 rfl rfl rfl rfl rfl rfl rfl rfl rfl (WD.go rfl ?_) | refine WO.append0 rfl rfl rfl rfl rfl rfl rfl rfl rfl (WO.go rfl ?_) | refine WO.appendF (by simp) (by exact lens_ok rfl) (by exact lens_ok rfl) (by first | decide | simp) (by first | decide | simp) rfl rfl rfl rfl rfl rfl rfl rfl rfl rfl (WO.go rfl ?_) | refine WO.appendI (by simp) (by exact lens_ok rfl) (by first | decide | simp) (by first | decide | simp) rfl rfl rfl rfl rfl rfl rfl rfl rfl rfl (WO.go rfl ?_) | refine W.loop ?_ | refine W.exit ?_)
  exact W.ret (.ret [_] rfl rfl)
theorem call28_W (a b : Y) (f t : T) : Gives (AC X) 23 [.agg (cY a), .agg (cY b), .agg (cT f), .agg (cT t)] (.agg (cT (T.call a b f t))) := by
  have h1 := none28_W (X := X) a
  have h2 := none28_W (X := X) b
  unfold T.call
  cases e1 : a.isUn <;> rw [e1] at h1 <;> cases e2 : b.isUn <;> rw [e2] at h2 <;>
  · refine givesW (fn := Tryz.f23) Tryz.func23 rfl rfl rfl ?_
    repeat (first | refine W.condT rfl ?_ | refine W.condF rfl ?_ | refine W.seq ?_ | refine W.block ?_ | refine W.skip ?_ | refine WO.nil ?_ | refine WD.nil (WO.go rfl ?_) | refine W.region rfl (WO.go rfl ?_) | refine WO.gives h1 rfl rfl rfl rfl rfl rfl rfl rfl rfl (WO.go rfl ?_) | refine WD.gives h1 rfl rfl rfl rfl rfl rfl rfl rfl rfl (WD.go rfl ?_) | refine WO.gives h2 rfl rfl rfl rfl rfl rfl rfl rfl rfl (WO.go rfl ?_) | refine WD.gives h2 rfl rfl rfl rfl rfl rfl rfl rfl rfl (WD.go rfl ?_) | refine WO.gives unit24_W rfl rfl rfl rfl rfl rfl rfl rfl rfl (WO.go rfl ?_) | refine WD.gives unit24_W rfl rfl rfl rfl rfl rfl rfl rfl rfl (WD.go rfl ?_) | refine WO.gives (app24_W f t) rfl rfl rfl rfl rfl rfl rfl rfl rfl (WO.go rfl ?_) | refine WD.gives (app24_W f t) rfl rfl rfl rfl rfl rfl rfl rfl rfl (WD.go rfl ?_) | refine WO.append0 rfl rfl rfl rfl rfl rfl rfl rfl rfl (WO.go rfl ?_) | refine WO.appendF (by simp) (by exact lens_ok rfl) (by exact lens_ok rfl) (by first | decide | simp) (by first | decide | simp) rfl rfl rfl rfl rfl rfl rfl rfl rfl rfl (WO.go rfl ?_) | refine WO.appendI (by simp) (by exact lens_ok rfl) (by first | decide | simp) (by first | decide | simp) rfl rfl rfl rfl rfl rfl rfl rfl rfl rfl (WO.go rfl ?_) | refine W.loop ?_ | refine W.exit ?_)
    exact W.ret (.ret [_] rfl rfl)
theorem matrixNot_W (l : List Int) : Gives (AC X) 4 [.sl .no (ints l)] (.bool true) := by
  have hfew := few_W (X := X) (ints l)
  have haw := awake29_W (X := X)
  rw [ints_len] at hfew
  by_cases hl : l.length ≤ 500
  · rw [decide_eq_true (show (l.length : Int) ≤ 500 by omega)] at hfew
    obtain ⟨st', hnew, hst⟩ := new_W (X := X) l
    have hp := partsN_W (X := X) l (by omega) [] (by simp) (by simp) 0 (by omega)
    rcases hp with ⟨j2, hp, hj2⟩ | ⟨f, w, c, j2, hp, hj2, f1, f2, f3, hw, hc, f4, f5, w1, c1, w2, c2⟩
    · refine givesW (fn := Tryz.f4) Tryz.func4 rfl rfl rfl ?_
      repeat (first | (refine WO.new hnew hst rfl rfl rfl rfl rfl rfl rfl rfl rfl (WO.go rfl ?_)) | refine W.condT rfl ?_ | refine W.condF rfl ?_ | refine W.seq ?_ | refine W.block ?_ | refine W.skip ?_ | refine WO.nil ?_ | refine WD.nil (WO.go rfl ?_) | refine W.region rfl (WO.go rfl ?_) | refine W.draw (id := 7) 5 [0] rfl (by decide +kernel) rfl (WD.go rfl ?_) | refine W.draw (id := 15) 13 [0] rfl (by decide +kernel) rfl (WD.go rfl ?_) | refine W.draw (id := 20) 21 [0] rfl (by decide +kernel) rfl (WD.go rfl ?_) | refine WO.gives haw rfl rfl rfl rfl rfl rfl rfl rfl rfl (WO.go rfl ?_) | refine WD.gives haw rfl rfl rfl rfl rfl rfl rfl rfl rfl (WD.go rfl ?_) | refine WO.gives hfew rfl rfl rfl rfl rfl rfl rfl rfl rfl (WO.go rfl ?_) | refine WD.gives hfew rfl rfl rfl rfl rfl rfl rfl rfl rfl (WD.go rfl ?_) | refine WO.givesVT [0] hp (by decide) rfl rfl rfl rfl rfl rfl rfl rfl rfl rfl rfl rfl rfl (WO.go rfl ?_) | refine WO.append0 rfl rfl rfl rfl rfl rfl rfl rfl rfl (WO.go rfl ?_) | refine WO.appendF (by simp) (by exact lens_ok rfl) (by exact lens_ok rfl) (by first | decide | simp) (by first | decide | simp) rfl rfl rfl rfl rfl rfl rfl rfl rfl rfl (WO.go rfl ?_) | refine WO.appendI (by simp) (by exact lens_ok rfl) (by first | decide | simp) (by first | decide | simp) rfl rfl rfl rfl rfl rfl rfl rfl rfl rfl (WO.go rfl ?_) | refine W.loop ?_ | refine W.exit ?_)
      exact W.ret (.ret [_] rfl rfl)
    · have ef := bothE_get f1 f2
      obtain ⟨v, p, hvp⟩ : ∃ v p, f.both = (v, p) := ⟨_, _, rfl⟩
      rw [hvp] at ef
      simp only [hvp] at hw hc
      have hs := witness28_W (X := X) f f1 (by omega) f5
      have ht := challenge28_W (X := X) f f1 (by omega) f5
      rw [ef] at hs ht
      have hft : falseF.tyLe 64 := by simp [falseF, Fo.tyLe, T.tyLe]
      have hns : (Fo.bi .im f falseF).size ≤ 4096 := by simp only [Fo.size, falseF, T.size]; omega
      have hk := witness28_W (X := X) (.bi .im f falseF) ⟨f1, trivial⟩ hns ⟨f5, hft⟩
      rw [Fo.not_bothE ef] at hk
      cases eg : Fo.fit (Y.fns v p, v) with
      | none =>
        rw [eg] at hk
        refine givesW (fn := Tryz.f4) Tryz.func4 rfl rfl rfl ?_
        repeat (first | (refine WO.new hnew hst rfl rfl rfl rfl rfl rfl rfl rfl rfl (WO.go rfl ?_)) | refine W.condT rfl ?_ | refine W.condF rfl ?_ | refine W.seq ?_ | refine W.block ?_ | refine W.skip ?_ | refine WO.nil ?_ | refine WD.nil (WO.go rfl ?_) | refine W.region rfl (WO.go rfl ?_) | refine W.draw (id := 7) 5 [0] rfl (by decide +kernel) rfl (WD.go rfl ?_) | refine W.draw (id := 15) 13 [0] rfl (by decide +kernel) rfl (WD.go rfl ?_) | refine W.draw (id := 20) 21 [0] rfl (by decide +kernel) rfl (WD.go rfl ?_) | refine WO.gives haw rfl rfl rfl rfl rfl rfl rfl rfl rfl (WO.go rfl ?_) | refine WD.gives haw rfl rfl rfl rfl rfl rfl rfl rfl rfl (WD.go rfl ?_) | refine WO.gives hfew rfl rfl rfl rfl rfl rfl rfl rfl rfl (WO.go rfl ?_) | refine WD.gives hfew rfl rfl rfl rfl rfl rfl rfl rfl rfl (WD.go rfl ?_) | refine WO.givesVT [0] hp (by decide) rfl rfl rfl rfl rfl rfl rfl rfl rfl rfl rfl rfl rfl (WO.go rfl ?_) | refine WO.gives falseF_W rfl rfl rfl rfl rfl rfl rfl rfl rfl (WO.go rfl ?_) | refine WD.gives falseF_W rfl rfl rfl rfl rfl rfl rfl rfl rfl (WD.go rfl ?_) | refine WO.givesT hs rfl rfl rfl rfl rfl rfl rfl rfl rfl (WO.go rfl ?_) | refine WD.givesT hs rfl rfl rfl rfl rfl rfl rfl rfl rfl (WD.go rfl ?_) | refine WO.givesT ht rfl rfl rfl rfl rfl rfl rfl rfl rfl (WO.go rfl ?_) | refine WD.givesT ht rfl rfl rfl rfl rfl rfl rfl rfl rfl (WD.go rfl ?_) | refine WO.givesT hk rfl rfl rfl rfl rfl rfl rfl rfl rfl (WO.go rfl ?_) | refine WD.givesT hk rfl rfl rfl rfl rfl rfl rfl rfl rfl (WD.go rfl ?_) | refine WO.append0 rfl rfl rfl rfl rfl rfl rfl rfl rfl (WO.go rfl ?_) | refine WO.appendF (by simp) (by exact lens_ok rfl) (by exact lens_ok rfl) (by first | decide | simp) (by first | decide | simp) rfl rfl rfl rfl rfl rfl rfl rfl rfl rfl (WO.go rfl ?_) | refine WO.appendI (by simp) (by exact lens_ok rfl) (by first | decide | simp) (by first | decide | simp) rfl rfl rfl rfl rfl rfl rfl rfl rfl rfl (WO.go rfl ?_) | refine W.loop ?_ | refine W.exit ?_)
        exact W.ret (.ret [_] rfl rfl)
      | some q =>
        rw [eg] at hk
        have en : (Fo.bi .im f falseF).bothE = some q := by rw [Fo.not_bothE ef, eg]
        obtain ⟨rfl, hq1, hq2⟩ := Fo.fit_le eg
        have nb := Fo.bothE_both (f := .bi .im f falseF) ⟨f1, trivial⟩ en
        simp only at hq1 hq2
        obtain ⟨F, j3, kF, kF1, kF2, kF3, kF4, kF5⟩ := term_W (X := X) l (by omega) 64 (by omega) (by omega) 2 (Y.fns v p) [] j2 (by omega) hq1 (by simp) (by simp) hj2
        simp only [rB] at kF4
        have kF3 : HT 133 [] F (Y.fns v p) := kF3
        have hw : HT 133 [] w v := hw
        have m1 := formulaM_W (X := X) (.bi .im f falseF) F w 133 [] ⟨f1, trivial⟩ ⟨_, en⟩ (.bi f3 (.eq .ze (.su .ze))) (by rw [nb]; exact kF3) (by rw [nb]; exact hw) hns ⟨f5, hft⟩ kF5 w2 (by omega) (by omega) (by simp)
        have zc := call_size v p F w
        have m2 := formulaM_W (X := X) f w (T.call v p F w) 133 [] f1 f2 f3 (by rw [hvp]; exact hw) (by rw [hvp]; exact T.call_ty kF3 hw) (by omega) f5 w2 (call_tyLe kF5 w2) (by omega) (by omega) (by simp)
        have m3 : v = .unit → Gives (AC X) 16 [.agg (cF f), .agg (cT .un), .agg (cT F)] (rMat (MR (Fo.bone f) f .un F)) := fun hv => by
          subst hv
          exact formulaM_W (X := X) f .un F 133 [] f1 f2 f3 (by rw [hvp]; exact .un) (by rw [hvp, ← fns_un2 p]; exact kF3) (by omega) f5 trivial kF5 (by decide) (by omega) (by simp)
        have hcl := call28_W (X := X) v p F w
        have q1 := @MR_M (Fo.bone (.bi .im f falseF)) (.bi .im f falseF) F w
        have q2 := @MR_M (Fo.bone f) f w (T.call v p F w)
        have q3 := @MR_M (Fo.bone f) f .un F
        have hbn : Fo.bone (.bi .im f falseF) = (Fo.bone f + 1) + 1 := by simp only [Fo.bone, falseF]; omega
        have hMn : p.isUn = false → Fo.M (Fo.bone (.bi .im f falseF)) (.bi .im f falseF) F w = .bi .im (Fo.M (Fo.bone f) f (if v.isUn then .un else w) (T.call v p F (if v.isUn then .un else w))) falseF := fun hp => by
          rw [hbn]
          have := M_not (a := .ze) (b := .su .ze) (Fo.bone f + 1) F w (by omega) f1 hvp hp
          rw [M_eq] at this
          exact this
        have hMu : ∃ x, Fo.M (Fo.bone (.bi .im f falseF)) (.bi .im f falseF) F w = .bi .im x falseF := by
          rw [hbn]
          exact ⟨_, congrArg (Fo.bi .im _) (M_eq (Fo.bone f + 1) .ze (.su .ze) _ _)⟩
        obtain ⟨x1, hMu⟩ := hMu
        have hfa := sameF_W (X := X) falseF
        have hun := unit24_W (X := X)
        revert m1 q1
        generalize MR (Fo.bone (.bi .im f falseF)) (.bi .im f falseF) F w = R1
        intro m1 q1
        revert m2 q2
        generalize MR (Fo.bone f) f w (T.call v p F w) = R2
        intro m2 q2
        revert m3 q3
        generalize MR (Fo.bone f) f .un F = R3
        intro m3 q3
        have kv := kY_un v
        have finish : True := trivial
        cases hvu : v.isUn with
        | true =>
          obtain rfl := Y.isUn_eq hvu
          have m3 := m3 rfl
          cases R1 with
          | none =>
            cases R2 <;> cases R3 <;>
            · refine givesW (fn := Tryz.f4) Tryz.func4 rfl rfl rfl ?_
              repeat (first | (refine WO.new hnew hst rfl rfl rfl rfl rfl rfl rfl rfl rfl (WO.go rfl ?_)) | (refine W.drawAny (id := 17) 5 [] rfl (by decide +kernel) rfl (WD.go rfl ?_)) | (refine WD.nil ⟨_, (by repeat (first | exact trivial | exact rfl | exact Fr.ext2 (fun i => c3 (fun h => by have := Nat.eq_of_beq_eq_true h; subst this; rfl) (fun h => by have := Nat.eq_of_beq_eq_true h; subst this; rfl) (fun h => by have := Nat.eq_of_beq_eq_true h; subst this; rfl) (fun h1 h2 h3 => by first | exact c3n h1 h2 h3 | exact c3n h1 h3 h2 | exact c3n h2 h1 h3 | exact c3n h2 h3 h1 | exact c3n h3 h1 h2 | exact c3n h3 h2 h1)) rfl rfl | refine And.intro ?_ ?_)), ?_⟩) | refine W.condT rfl ?_ | refine W.condF rfl ?_ | refine W.seq ?_ | refine W.block ?_ | refine W.skip ?_ | refine WO.nil ?_ | refine WD.nil (WO.go rfl ?_) | refine W.region rfl (WO.go rfl ?_) | refine W.draw (id := 7) 5 [0] rfl (by decide +kernel) rfl (WD.go rfl ?_) | refine W.draw (id := 15) 13 [0] rfl (by decide +kernel) rfl (WD.go rfl ?_) | refine W.draw (id := 20) 21 [0] rfl (by decide +kernel) rfl (WD.go rfl ?_) | refine WO.gives haw rfl rfl rfl rfl rfl rfl rfl rfl rfl (WO.go rfl ?_) | refine WD.gives haw rfl rfl rfl rfl rfl rfl rfl rfl rfl (WD.go rfl ?_) | refine WO.gives hfew rfl rfl rfl rfl rfl rfl rfl rfl rfl (WO.go rfl ?_) | refine WD.gives hfew rfl rfl rfl rfl rfl rfl rfl rfl rfl (WD.go rfl ?_) | refine WO.givesVT [0] hp (by decide) rfl rfl rfl rfl rfl rfl rfl rfl rfl rfl rfl rfl rfl (WO.go rfl ?_) | refine WO.gives falseF_W rfl rfl rfl rfl rfl rfl rfl rfl rfl (WO.go rfl ?_) | refine WD.gives falseF_W rfl rfl rfl rfl rfl rfl rfl rfl rfl (WD.go rfl ?_) | refine WO.givesT hs rfl rfl rfl rfl rfl rfl rfl rfl rfl (WO.go rfl ?_) | refine WD.givesT hs rfl rfl rfl rfl rfl rfl rfl rfl rfl (WD.go rfl ?_) | refine WO.givesT ht rfl rfl rfl rfl rfl rfl rfl rfl rfl (WO.go rfl ?_) | refine WD.givesT ht rfl rfl rfl rfl rfl rfl rfl rfl rfl (WD.go rfl ?_) | refine WO.givesT hk rfl rfl rfl rfl rfl rfl rfl rfl rfl (WO.go rfl ?_) | refine WD.givesT hk rfl rfl rfl rfl rfl rfl rfl rfl rfl (WD.go rfl ?_) | refine WO.draws kF rfl rfl rfl rfl rfl rfl rfl rfl rfl rfl rfl (WO.go rfl ?_) | refine WD.draws kF rfl rfl rfl rfl rfl rfl rfl rfl rfl rfl rfl rfl (WD.go rfl ?_) | refine WO.givesT m1 rfl rfl rfl rfl rfl rfl rfl rfl rfl (WO.go rfl ?_) | refine WD.givesT m1 rfl rfl rfl rfl rfl rfl rfl rfl rfl (WD.go rfl ?_) | refine WO.gives hcl rfl rfl rfl rfl rfl rfl rfl rfl rfl (WO.go rfl ?_) | refine WD.gives hcl rfl rfl rfl rfl rfl rfl rfl rfl rfl (WD.go rfl ?_) | refine WO.givesT m2 rfl rfl rfl rfl rfl rfl rfl rfl rfl (WO.go rfl ?_) | refine WD.givesT m2 rfl rfl rfl rfl rfl rfl rfl rfl rfl (WD.go rfl ?_) | refine WO.gives hun rfl rfl rfl rfl rfl rfl rfl rfl rfl (WO.go rfl ?_) | refine WD.gives hun rfl rfl rfl rfl rfl rfl rfl rfl rfl (WD.go rfl ?_) | refine WO.givesT m3 rfl rfl rfl rfl rfl rfl rfl rfl rfl (WO.go rfl ?_) | refine WD.givesT m3 rfl rfl rfl rfl rfl rfl rfl rfl rfl (WD.go rfl ?_) | refine WO.append0 rfl rfl rfl rfl rfl rfl rfl rfl rfl (WO.go rfl ?_) | refine WO.appendF (by simp) (by exact lens_ok rfl) (by exact lens_ok rfl) (by first | decide | simp) (by first | decide | simp) rfl rfl rfl rfl rfl rfl rfl rfl rfl rfl (WO.go rfl ?_) | refine WO.appendI (by simp) (by exact lens_ok rfl) (by first | decide | simp) (by first | decide | simp) rfl rfl rfl rfl rfl rfl rfl rfl rfl rfl (WO.go rfl ?_) | refine W.loop ?_ | refine W.exit ?_)
              exact W.ret (.ret [_] rfl rfl)
          | some a =>
            cases R3 with
            | none =>
              cases R2 <;>
              · refine givesW (fn := Tryz.f4) Tryz.func4 rfl rfl rfl ?_
                repeat (first | (refine WO.new hnew hst rfl rfl rfl rfl rfl rfl rfl rfl rfl (WO.go rfl ?_)) | (refine W.drawAny (id := 17) 5 [] rfl (by decide +kernel) rfl (WD.go rfl ?_)) | (refine WD.nil ⟨_, (by repeat (first | exact trivial | exact rfl | exact Fr.ext2 (fun i => c3 (fun h => by have := Nat.eq_of_beq_eq_true h; subst this; rfl) (fun h => by have := Nat.eq_of_beq_eq_true h; subst this; rfl) (fun h => by have := Nat.eq_of_beq_eq_true h; subst this; rfl) (fun h1 h2 h3 => by first | exact c3n h1 h2 h3 | exact c3n h1 h3 h2 | exact c3n h2 h1 h3 | exact c3n h2 h3 h1 | exact c3n h3 h1 h2 | exact c3n h3 h2 h1)) rfl rfl | refine And.intro ?_ ?_)), ?_⟩) | refine W.condT rfl ?_ | refine W.condF rfl ?_ | refine W.seq ?_ | refine W.block ?_ | refine W.skip ?_ | refine WO.nil ?_ | refine WD.nil (WO.go rfl ?_) | refine W.region rfl (WO.go rfl ?_) | refine W.draw (id := 7) 5 [0] rfl (by decide +kernel) rfl (WD.go rfl ?_) | refine W.draw (id := 15) 13 [0] rfl (by decide +kernel) rfl (WD.go rfl ?_) | refine W.draw (id := 20) 21 [0] rfl (by decide +kernel) rfl (WD.go rfl ?_) | refine WO.gives haw rfl rfl rfl rfl rfl rfl rfl rfl rfl (WO.go rfl ?_) | refine WD.gives haw rfl rfl rfl rfl rfl rfl rfl rfl rfl (WD.go rfl ?_) | refine WO.gives hfew rfl rfl rfl rfl rfl rfl rfl rfl rfl (WO.go rfl ?_) | refine WD.gives hfew rfl rfl rfl rfl rfl rfl rfl rfl rfl (WD.go rfl ?_) | refine WO.givesVT [0] hp (by decide) rfl rfl rfl rfl rfl rfl rfl rfl rfl rfl rfl rfl rfl (WO.go rfl ?_) | refine WO.gives falseF_W rfl rfl rfl rfl rfl rfl rfl rfl rfl (WO.go rfl ?_) | refine WD.gives falseF_W rfl rfl rfl rfl rfl rfl rfl rfl rfl (WD.go rfl ?_) | refine WO.givesT hs rfl rfl rfl rfl rfl rfl rfl rfl rfl (WO.go rfl ?_) | refine WD.givesT hs rfl rfl rfl rfl rfl rfl rfl rfl rfl (WD.go rfl ?_) | refine WO.givesT ht rfl rfl rfl rfl rfl rfl rfl rfl rfl (WO.go rfl ?_) | refine WD.givesT ht rfl rfl rfl rfl rfl rfl rfl rfl rfl (WD.go rfl ?_) | refine WO.givesT hk rfl rfl rfl rfl rfl rfl rfl rfl rfl (WO.go rfl ?_) | refine WD.givesT hk rfl rfl rfl rfl rfl rfl rfl rfl rfl (WD.go rfl ?_) | refine WO.draws kF rfl rfl rfl rfl rfl rfl rfl rfl rfl rfl rfl (WO.go rfl ?_) | refine WD.draws kF rfl rfl rfl rfl rfl rfl rfl rfl rfl rfl rfl rfl (WD.go rfl ?_) | refine WO.givesT m1 rfl rfl rfl rfl rfl rfl rfl rfl rfl (WO.go rfl ?_) | refine WD.givesT m1 rfl rfl rfl rfl rfl rfl rfl rfl rfl (WD.go rfl ?_) | refine WO.gives hcl rfl rfl rfl rfl rfl rfl rfl rfl rfl (WO.go rfl ?_) | refine WD.gives hcl rfl rfl rfl rfl rfl rfl rfl rfl rfl (WD.go rfl ?_) | refine WO.givesT m2 rfl rfl rfl rfl rfl rfl rfl rfl rfl (WO.go rfl ?_) | refine WD.givesT m2 rfl rfl rfl rfl rfl rfl rfl rfl rfl (WD.go rfl ?_) | refine WO.gives hun rfl rfl rfl rfl rfl rfl rfl rfl rfl (WO.go rfl ?_) | refine WD.gives hun rfl rfl rfl rfl rfl rfl rfl rfl rfl (WD.go rfl ?_) | refine WO.givesT m3 rfl rfl rfl rfl rfl rfl rfl rfl rfl (WO.go rfl ?_) | refine WD.givesT m3 rfl rfl rfl rfl rfl rfl rfl rfl rfl (WD.go rfl ?_) | refine WO.append0 rfl rfl rfl rfl rfl rfl rfl rfl rfl (WO.go rfl ?_) | refine WO.appendF (by simp) (by exact lens_ok rfl) (by exact lens_ok rfl) (by first | decide | simp) (by first | decide | simp) rfl rfl rfl rfl rfl rfl rfl rfl rfl rfl (WO.go rfl ?_) | refine WO.appendI (by simp) (by exact lens_ok rfl) (by first | decide | simp) (by first | decide | simp) rfl rfl rfl rfl rfl rfl rfl rfl rfl rfl (WO.go rfl ?_) | refine W.loop ?_ | refine W.exit ?_)
                exact W.ret (.ret [_] rfl rfl)
            | some b =>
              have ea := (q1 rfl).1.trans hMu
              have eb := (q3 rfl).1
              clear q1 q2 q3
              subst ea
              have hx : p.isUn = false → x1 = b := fun hp => by
                have := hMu.symm.trans (hMn hp)
                injection this with _ this _
                rw [this, eb]
                simp only [Y.isUn, if_true]
                unfold T.call
                rw [if_neg (by rw [hp]; decide)]
                rfl
              clear hMn hMu eb en nb
              have hsb := sameF_W (X := X) b
              cases R2 <;>
              · cases p <;> first | (obtain rfl := hx rfl) | skip
                all_goals
                  refine givesW (fn := Tryz.f4) Tryz.func4 rfl rfl rfl ?_
                  repeat (first | (refine WO.new hnew hst rfl rfl rfl rfl rfl rfl rfl rfl rfl (WO.go rfl ?_)) | (refine W.drawAny (id := 17) 5 [] rfl (by decide +kernel) rfl (WD.go rfl ?_)) | (refine WD.nil ⟨_, (by repeat (first | exact trivial | exact rfl | exact Fr.ext2 (fun i => c3 (fun h => by have := Nat.eq_of_beq_eq_true h; subst this; rfl) (fun h => by have := Nat.eq_of_beq_eq_true h; subst this; rfl) (fun h => by have := Nat.eq_of_beq_eq_true h; subst this; rfl) (fun h1 h2 h3 => by first | exact c3n h1 h2 h3 | exact c3n h1 h3 h2 | exact c3n h2 h1 h3 | exact c3n h2 h3 h1 | exact c3n h3 h1 h2 | exact c3n h3 h2 h1)) rfl rfl | refine And.intro ?_ ?_)), ?_⟩) | refine W.condT rfl ?_ | refine W.condF rfl ?_ | refine W.seq ?_ | refine W.block ?_ | refine W.skip ?_ | refine WO.nil ?_ | refine WD.nil (WO.go rfl ?_) | refine W.region rfl (WO.go rfl ?_) | refine W.draw (id := 7) 5 [0] rfl (by decide +kernel) rfl (WD.go rfl ?_) | refine W.draw (id := 15) 13 [0] rfl (by decide +kernel) rfl (WD.go rfl ?_) | refine W.draw (id := 20) 21 [0] rfl (by decide +kernel) rfl (WD.go rfl ?_) | refine WO.gives haw rfl rfl rfl rfl rfl rfl rfl rfl rfl (WO.go rfl ?_) | refine WD.gives haw rfl rfl rfl rfl rfl rfl rfl rfl rfl (WD.go rfl ?_) | refine WO.gives hfew rfl rfl rfl rfl rfl rfl rfl rfl rfl (WO.go rfl ?_) | refine WD.gives hfew rfl rfl rfl rfl rfl rfl rfl rfl rfl (WD.go rfl ?_) | refine WO.givesVT [0] hp (by decide) rfl rfl rfl rfl rfl rfl rfl rfl rfl rfl rfl rfl rfl (WO.go rfl ?_) | refine WO.gives falseF_W rfl rfl rfl rfl rfl rfl rfl rfl rfl (WO.go rfl ?_) | refine WD.gives falseF_W rfl rfl rfl rfl rfl rfl rfl rfl rfl (WD.go rfl ?_) | refine WO.givesT hs rfl rfl rfl rfl rfl rfl rfl rfl rfl (WO.go rfl ?_) | refine WD.givesT hs rfl rfl rfl rfl rfl rfl rfl rfl rfl (WD.go rfl ?_) | refine WO.givesT ht rfl rfl rfl rfl rfl rfl rfl rfl rfl (WO.go rfl ?_) | refine WD.givesT ht rfl rfl rfl rfl rfl rfl rfl rfl rfl (WD.go rfl ?_) | refine WO.givesT hk rfl rfl rfl rfl rfl rfl rfl rfl rfl (WO.go rfl ?_) | refine WD.givesT hk rfl rfl rfl rfl rfl rfl rfl rfl rfl (WD.go rfl ?_) | refine WO.draws kF rfl rfl rfl rfl rfl rfl rfl rfl rfl rfl rfl (WO.go rfl ?_) | refine WD.draws kF rfl rfl rfl rfl rfl rfl rfl rfl rfl rfl rfl rfl (WD.go rfl ?_) | refine WO.givesT m1 rfl rfl rfl rfl rfl rfl rfl rfl rfl (WO.go rfl ?_) | refine WD.givesT m1 rfl rfl rfl rfl rfl rfl rfl rfl rfl (WD.go rfl ?_) | refine WO.gives hcl rfl rfl rfl rfl rfl rfl rfl rfl rfl (WO.go rfl ?_) | refine WD.gives hcl rfl rfl rfl rfl rfl rfl rfl rfl rfl (WD.go rfl ?_) | refine WO.givesT m2 rfl rfl rfl rfl rfl rfl rfl rfl rfl (WO.go rfl ?_) | refine WD.givesT m2 rfl rfl rfl rfl rfl rfl rfl rfl rfl (WD.go rfl ?_) | refine WO.gives hun rfl rfl rfl rfl rfl rfl rfl rfl rfl (WO.go rfl ?_) | refine WD.gives hun rfl rfl rfl rfl rfl rfl rfl rfl rfl (WD.go rfl ?_) | refine WO.givesT m3 rfl rfl rfl rfl rfl rfl rfl rfl rfl (WO.go rfl ?_) | refine WD.givesT m3 rfl rfl rfl rfl rfl rfl rfl rfl rfl (WD.go rfl ?_) | refine WO.gives hfa rfl rfl rfl rfl rfl rfl rfl rfl rfl (WO.go rfl ?_) | refine WD.gives hfa rfl rfl rfl rfl rfl rfl rfl rfl rfl (WD.go rfl ?_) | refine WO.gives hsb rfl rfl rfl rfl rfl rfl rfl rfl rfl (WO.go rfl ?_) | refine WD.gives hsb rfl rfl rfl rfl rfl rfl rfl rfl rfl (WD.go rfl ?_) | refine WO.append0 rfl rfl rfl rfl rfl rfl rfl rfl rfl (WO.go rfl ?_) | refine WO.appendF (by simp) (by exact lens_ok rfl) (by exact lens_ok rfl) (by first | decide | simp) (by first | decide | simp) rfl rfl rfl rfl rfl rfl rfl rfl rfl rfl (WO.go rfl ?_) | refine WO.appendI (by simp) (by exact lens_ok rfl) (by first | decide | simp) (by first | decide | simp) rfl rfl rfl rfl rfl rfl rfl rfl rfl rfl (WO.go rfl ?_) | refine W.loop ?_ | refine W.exit ?_)
                  exact W.ret (.ret [_] rfl rfl)
        | false =>
          rw [hvu] at kv
          cases R1 with
          | none =>
            cases R2 <;>
            · refine givesW (fn := Tryz.f4) Tryz.func4 rfl rfl rfl ?_
              repeat (first | (refine WO.new hnew hst rfl rfl rfl rfl rfl rfl rfl rfl rfl (WO.go rfl ?_)) | refine W.condT rfl ?_ | refine W.condF rfl ?_ | refine W.seq ?_ | refine W.block ?_ | refine W.skip ?_ | refine WO.nil ?_ | refine WD.nil (WO.go rfl ?_) | refine W.region rfl (WO.go rfl ?_) | refine W.draw (id := 7) 5 [0] rfl (by decide +kernel) rfl (WD.go rfl ?_) | refine W.draw (id := 15) 13 [0] rfl (by decide +kernel) rfl (WD.go rfl ?_) | refine W.draw (id := 20) 21 [0] rfl (by decide +kernel) rfl (WD.go rfl ?_) | refine WO.gives haw rfl rfl rfl rfl rfl rfl rfl rfl rfl (WO.go rfl ?_) | refine WD.gives haw rfl rfl rfl rfl rfl rfl rfl rfl rfl (WD.go rfl ?_) | refine WO.gives hfew rfl rfl rfl rfl rfl rfl rfl rfl rfl (WO.go rfl ?_) | refine WD.gives hfew rfl rfl rfl rfl rfl rfl rfl rfl rfl (WD.go rfl ?_) | refine WO.givesVT [0] hp (by decide) rfl rfl rfl rfl rfl rfl rfl rfl rfl rfl rfl rfl rfl (WO.go rfl ?_) | refine WO.gives falseF_W rfl rfl rfl rfl rfl rfl rfl rfl rfl (WO.go rfl ?_) | refine WD.gives falseF_W rfl rfl rfl rfl rfl rfl rfl rfl rfl (WD.go rfl ?_) | refine WO.givesT hs rfl rfl rfl rfl rfl rfl rfl rfl rfl (WO.go rfl ?_) | refine WD.givesT hs rfl rfl rfl rfl rfl rfl rfl rfl rfl (WD.go rfl ?_) | refine WO.givesT ht rfl rfl rfl rfl rfl rfl rfl rfl rfl (WO.go rfl ?_) | refine WD.givesT ht rfl rfl rfl rfl rfl rfl rfl rfl rfl (WD.go rfl ?_) | refine WO.givesT hk rfl rfl rfl rfl rfl rfl rfl rfl rfl (WO.go rfl ?_) | refine WD.givesT hk rfl rfl rfl rfl rfl rfl rfl rfl rfl (WD.go rfl ?_) | refine WO.draws kF rfl rfl rfl rfl rfl rfl rfl rfl rfl rfl rfl (WO.go rfl ?_) | refine WD.draws kF rfl rfl rfl rfl rfl rfl rfl rfl rfl rfl rfl rfl (WD.go rfl ?_) | refine WO.givesT m1 rfl rfl rfl rfl rfl rfl rfl rfl rfl (WO.go rfl ?_) | refine WD.givesT m1 rfl rfl rfl rfl rfl rfl rfl rfl rfl (WD.go rfl ?_) | refine WO.gives hcl rfl rfl rfl rfl rfl rfl rfl rfl rfl (WO.go rfl ?_) | refine WD.gives hcl rfl rfl rfl rfl rfl rfl rfl rfl rfl (WD.go rfl ?_) | refine WO.givesT m2 rfl rfl rfl rfl rfl rfl rfl rfl rfl (WO.go rfl ?_) | refine WD.givesT m2 rfl rfl rfl rfl rfl rfl rfl rfl rfl (WD.go rfl ?_) | refine WO.append0 rfl rfl rfl rfl rfl rfl rfl rfl rfl (WO.go rfl ?_) | refine WO.appendF (by simp) (by exact lens_ok rfl) (by exact lens_ok rfl) (by first | decide | simp) (by first | decide | simp) rfl rfl rfl rfl rfl rfl rfl rfl rfl rfl (WO.go rfl ?_) | refine WO.appendI (by simp) (by exact lens_ok rfl) (by first | decide | simp) (by first | decide | simp) rfl rfl rfl rfl rfl rfl rfl rfl rfl rfl (WO.go rfl ?_) | refine W.loop ?_ | refine W.exit ?_)
              refine W.cond rfl (fun h => absurd (h.symm.trans kv) (by decide)) (fun _ => ?_)
              repeat (first | refine W.condT rfl ?_ | refine W.condF rfl ?_ | refine W.seq ?_ | refine W.block ?_ | refine W.skip ?_ | refine WO.nil ?_ | refine WD.nil (WO.go rfl ?_) | refine W.region rfl (WO.go rfl ?_) | refine W.draw (id := 7) 5 [0] rfl (by decide +kernel) rfl (WD.go rfl ?_) | refine W.draw (id := 15) 13 [0] rfl (by decide +kernel) rfl (WD.go rfl ?_) | refine W.draw (id := 20) 21 [0] rfl (by decide +kernel) rfl (WD.go rfl ?_) | refine WO.append0 rfl rfl rfl rfl rfl rfl rfl rfl rfl (WO.go rfl ?_) | refine WO.appendF (by simp) (by exact lens_ok rfl) (by exact lens_ok rfl) (by first | decide | simp) (by first | decide | simp) rfl rfl rfl rfl rfl rfl rfl rfl rfl rfl (WO.go rfl ?_) | refine WO.appendI (by simp) (by exact lens_ok rfl) (by first | decide | simp) (by first | decide | simp) rfl rfl rfl rfl rfl rfl rfl rfl rfl rfl (WO.go rfl ?_) | refine W.loop ?_ | refine W.exit ?_)
              exact W.ret (.ret [_] rfl rfl)
          | some a =>
            cases R2 with
            | none =>
              refine givesW (fn := Tryz.f4) Tryz.func4 rfl rfl rfl ?_
              repeat (first | (refine WO.new hnew hst rfl rfl rfl rfl rfl rfl rfl rfl rfl (WO.go rfl ?_)) | refine W.condT rfl ?_ | refine W.condF rfl ?_ | refine W.seq ?_ | refine W.block ?_ | refine W.skip ?_ | refine WO.nil ?_ | refine WD.nil (WO.go rfl ?_) | refine W.region rfl (WO.go rfl ?_) | refine W.draw (id := 7) 5 [0] rfl (by decide +kernel) rfl (WD.go rfl ?_) | refine W.draw (id := 15) 13 [0] rfl (by decide +kernel) rfl (WD.go rfl ?_) | refine W.draw (id := 20) 21 [0] rfl (by decide +kernel) rfl (WD.go rfl ?_) | refine WO.gives haw rfl rfl rfl rfl rfl rfl rfl rfl rfl (WO.go rfl ?_) | refine WD.gives haw rfl rfl rfl rfl rfl rfl rfl rfl rfl (WD.go rfl ?_) | refine WO.gives hfew rfl rfl rfl rfl rfl rfl rfl rfl rfl (WO.go rfl ?_) | refine WD.gives hfew rfl rfl rfl rfl rfl rfl rfl rfl rfl (WD.go rfl ?_) | refine WO.givesVT [0] hp (by decide) rfl rfl rfl rfl rfl rfl rfl rfl rfl rfl rfl rfl rfl (WO.go rfl ?_) | refine WO.gives falseF_W rfl rfl rfl rfl rfl rfl rfl rfl rfl (WO.go rfl ?_) | refine WD.gives falseF_W rfl rfl rfl rfl rfl rfl rfl rfl rfl (WD.go rfl ?_) | refine WO.givesT hs rfl rfl rfl rfl rfl rfl rfl rfl rfl (WO.go rfl ?_) | refine WD.givesT hs rfl rfl rfl rfl rfl rfl rfl rfl rfl (WD.go rfl ?_) | refine WO.givesT ht rfl rfl rfl rfl rfl rfl rfl rfl rfl (WO.go rfl ?_) | refine WD.givesT ht rfl rfl rfl rfl rfl rfl rfl rfl rfl (WD.go rfl ?_) | refine WO.givesT hk rfl rfl rfl rfl rfl rfl rfl rfl rfl (WO.go rfl ?_) | refine WD.givesT hk rfl rfl rfl rfl rfl rfl rfl rfl rfl (WD.go rfl ?_) | refine WO.draws kF rfl rfl rfl rfl rfl rfl rfl rfl rfl rfl rfl (WO.go rfl ?_) | refine WD.draws kF rfl rfl rfl rfl rfl rfl rfl rfl rfl rfl rfl rfl (WD.go rfl ?_) | refine WO.givesT m1 rfl rfl rfl rfl rfl rfl rfl rfl rfl (WO.go rfl ?_) | refine WD.givesT m1 rfl rfl rfl rfl rfl rfl rfl rfl rfl (WD.go rfl ?_) | refine WO.gives hcl rfl rfl rfl rfl rfl rfl rfl rfl rfl (WO.go rfl ?_) | refine WD.gives hcl rfl rfl rfl rfl rfl rfl rfl rfl rfl (WD.go rfl ?_) | refine WO.givesT m2 rfl rfl rfl rfl rfl rfl rfl rfl rfl (WO.go rfl ?_) | refine WD.givesT m2 rfl rfl rfl rfl rfl rfl rfl rfl rfl (WD.go rfl ?_) | refine WO.append0 rfl rfl rfl rfl rfl rfl rfl rfl rfl (WO.go rfl ?_) | refine WO.appendF (by simp) (by exact lens_ok rfl) (by exact lens_ok rfl) (by first | decide | simp) (by first | decide | simp) rfl rfl rfl rfl rfl rfl rfl rfl rfl rfl (WO.go rfl ?_) | refine WO.appendI (by simp) (by exact lens_ok rfl) (by first | decide | simp) (by first | decide | simp) rfl rfl rfl rfl rfl rfl rfl rfl rfl rfl (WO.go rfl ?_) | refine W.loop ?_ | refine W.exit ?_)
              refine W.cond rfl (fun h => absurd (h.symm.trans kv) (by decide)) (fun _ => ?_)
              repeat (first | refine W.condT rfl ?_ | refine W.condF rfl ?_ | refine W.seq ?_ | refine W.block ?_ | refine W.skip ?_ | refine WO.nil ?_ | refine WD.nil (WO.go rfl ?_) | refine W.region rfl (WO.go rfl ?_) | refine W.draw (id := 7) 5 [0] rfl (by decide +kernel) rfl (WD.go rfl ?_) | refine W.draw (id := 15) 13 [0] rfl (by decide +kernel) rfl (WD.go rfl ?_) | refine W.draw (id := 20) 21 [0] rfl (by decide +kernel) rfl (WD.go rfl ?_) | refine WO.append0 rfl rfl rfl rfl rfl rfl rfl rfl rfl (WO.go rfl ?_) | refine WO.appendF (by simp) (by exact lens_ok rfl) (by exact lens_ok rfl) (by first | decide | simp) (by first | decide | simp) rfl rfl rfl rfl rfl rfl rfl rfl rfl rfl (WO.go rfl ?_) | refine WO.appendI (by simp) (by exact lens_ok rfl) (by first | decide | simp) (by first | decide | simp) rfl rfl rfl rfl rfl rfl rfl rfl rfl rfl (WO.go rfl ?_) | refine W.loop ?_ | refine W.exit ?_)
              exact W.ret (.ret [_] rfl rfl)
            | some b =>
              have ea := (q1 rfl).1.trans hMu
              have eb := (q2 rfl).1
              clear q1 q2 q3
              subst ea
              have hx : p.isUn = false → x1 = b := fun hp => by
                have := hMu.symm.trans (hMn hp)
                injection this with _ this _
                rw [this, eb, hvu]
                rfl
              clear hMn hMu eb en nb
              have hsb := sameF_W (X := X) b
              cases p <;> first | (obtain rfl := hx rfl) | skip
              all_goals
                refine givesW (fn := Tryz.f4) Tryz.func4 rfl rfl rfl ?_
                repeat (first | (refine WO.new hnew hst rfl rfl rfl rfl rfl rfl rfl rfl rfl (WO.go rfl ?_)) | refine W.condT rfl ?_ | refine W.condF rfl ?_ | refine W.seq ?_ | refine W.block ?_ | refine W.skip ?_ | refine WO.nil ?_ | refine WD.nil (WO.go rfl ?_) | refine W.region rfl (WO.go rfl ?_) | refine W.draw (id := 7) 5 [0] rfl (by decide +kernel) rfl (WD.go rfl ?_) | refine W.draw (id := 15) 13 [0] rfl (by decide +kernel) rfl (WD.go rfl ?_) | refine W.draw (id := 20) 21 [0] rfl (by decide +kernel) rfl (WD.go rfl ?_) | refine WO.gives haw rfl rfl rfl rfl rfl rfl rfl rfl rfl (WO.go rfl ?_) | refine WD.gives haw rfl rfl rfl rfl rfl rfl rfl rfl rfl (WD.go rfl ?_) | refine WO.gives hfew rfl rfl rfl rfl rfl rfl rfl rfl rfl (WO.go rfl ?_) | refine WD.gives hfew rfl rfl rfl rfl rfl rfl rfl rfl rfl (WD.go rfl ?_) | refine WO.givesVT [0] hp (by decide) rfl rfl rfl rfl rfl rfl rfl rfl rfl rfl rfl rfl rfl (WO.go rfl ?_) | refine WO.gives falseF_W rfl rfl rfl rfl rfl rfl rfl rfl rfl (WO.go rfl ?_) | refine WD.gives falseF_W rfl rfl rfl rfl rfl rfl rfl rfl rfl (WD.go rfl ?_) | refine WO.givesT hs rfl rfl rfl rfl rfl rfl rfl rfl rfl (WO.go rfl ?_) | refine WD.givesT hs rfl rfl rfl rfl rfl rfl rfl rfl rfl (WD.go rfl ?_) | refine WO.givesT ht rfl rfl rfl rfl rfl rfl rfl rfl rfl (WO.go rfl ?_) | refine WD.givesT ht rfl rfl rfl rfl rfl rfl rfl rfl rfl (WD.go rfl ?_) | refine WO.givesT hk rfl rfl rfl rfl rfl rfl rfl rfl rfl (WO.go rfl ?_) | refine WD.givesT hk rfl rfl rfl rfl rfl rfl rfl rfl rfl (WD.go rfl ?_) | refine WO.draws kF rfl rfl rfl rfl rfl rfl rfl rfl rfl rfl rfl (WO.go rfl ?_) | refine WD.draws kF rfl rfl rfl rfl rfl rfl rfl rfl rfl rfl rfl rfl (WD.go rfl ?_) | refine WO.givesT m1 rfl rfl rfl rfl rfl rfl rfl rfl rfl (WO.go rfl ?_) | refine WD.givesT m1 rfl rfl rfl rfl rfl rfl rfl rfl rfl (WD.go rfl ?_) | refine WO.gives hcl rfl rfl rfl rfl rfl rfl rfl rfl rfl (WO.go rfl ?_) | refine WD.gives hcl rfl rfl rfl rfl rfl rfl rfl rfl rfl (WD.go rfl ?_) | refine WO.givesT m2 rfl rfl rfl rfl rfl rfl rfl rfl rfl (WO.go rfl ?_) | refine WD.givesT m2 rfl rfl rfl rfl rfl rfl rfl rfl rfl (WD.go rfl ?_) | refine WO.append0 rfl rfl rfl rfl rfl rfl rfl rfl rfl (WO.go rfl ?_) | refine WO.appendF (by simp) (by exact lens_ok rfl) (by exact lens_ok rfl) (by first | decide | simp) (by first | decide | simp) rfl rfl rfl rfl rfl rfl rfl rfl rfl rfl (WO.go rfl ?_) | refine WO.appendI (by simp) (by exact lens_ok rfl) (by first | decide | simp) (by first | decide | simp) rfl rfl rfl rfl rfl rfl rfl rfl rfl rfl (WO.go rfl ?_) | refine W.loop ?_ | refine W.exit ?_)
                refine W.cond rfl (fun h => absurd (h.symm.trans kv) (by decide)) (fun _ => ?_)
                repeat (first | refine W.condT rfl ?_ | refine W.condF rfl ?_ | refine W.seq ?_ | refine W.block ?_ | refine W.skip ?_ | refine WO.nil ?_ | refine WD.nil (WO.go rfl ?_) | refine W.region rfl (WO.go rfl ?_) | refine W.draw (id := 7) 5 [0] rfl (by decide +kernel) rfl (WD.go rfl ?_) | refine W.draw (id := 15) 13 [0] rfl (by decide +kernel) rfl (WD.go rfl ?_) | refine W.draw (id := 20) 21 [0] rfl (by decide +kernel) rfl (WD.go rfl ?_) | refine WO.gives falseF_W rfl rfl rfl rfl rfl rfl rfl rfl rfl (WO.go rfl ?_) | refine WD.gives falseF_W rfl rfl rfl rfl rfl rfl rfl rfl rfl (WD.go rfl ?_) | refine WO.gives hfa rfl rfl rfl rfl rfl rfl rfl rfl rfl (WO.go rfl ?_) | refine WD.gives hfa rfl rfl rfl rfl rfl rfl rfl rfl rfl (WD.go rfl ?_) | refine WO.gives hsb rfl rfl rfl rfl rfl rfl rfl rfl rfl (WO.go rfl ?_) | refine WD.gives hsb rfl rfl rfl rfl rfl rfl rfl rfl rfl (WD.go rfl ?_) | refine WO.append0 rfl rfl rfl rfl rfl rfl rfl rfl rfl (WO.go rfl ?_) | refine WO.appendF (by simp) (by exact lens_ok rfl) (by exact lens_ok rfl) (by first | decide | simp) (by first | decide | simp) rfl rfl rfl rfl rfl rfl rfl rfl rfl rfl (WO.go rfl ?_) | refine WO.appendI (by simp) (by exact lens_ok rfl) (by first | decide | simp) (by first | decide | simp) rfl rfl rfl rfl rfl rfl rfl rfl rfl rfl (WO.go rfl ?_) | refine W.loop ?_ | refine W.exit ?_)
                exact W.ret (.ret [_] rfl rfl)
  · rw [decide_eq_false (show ¬ (l.length : Int) ≤ 500 by omega)] at hfew
    refine givesW (fn := Tryz.f4) Tryz.func4 rfl rfl rfl ?_
    repeat (first | refine W.condT rfl ?_ | refine W.condF rfl ?_ | refine W.seq ?_ | refine W.block ?_ | refine W.skip ?_ | refine WO.nil ?_ | refine WD.nil (WO.go rfl ?_) | refine W.region rfl (WO.go rfl ?_) | refine W.draw (id := 7) 5 [] rfl (by decide +kernel) rfl (WD.go rfl ?_) | refine W.draw (id := 15) 13 [] rfl (by decide +kernel) rfl (WD.go rfl ?_) | refine W.draw (id := 20) 21 [] rfl (by decide +kernel) rfl (WD.go rfl ?_) | refine WO.gives haw rfl rfl rfl rfl rfl rfl rfl rfl rfl (WO.go rfl ?_) | refine WD.gives haw rfl rfl rfl rfl rfl rfl rfl rfl rfl (WD.go rfl ?_) | refine WO.gives hfew rfl rfl rfl rfl rfl rfl rfl rfl rfl (WO.go rfl ?_) | refine WD.gives hfew rfl rfl rfl rfl rfl rfl rfl rfl rfl (WD.go rfl ?_) | refine WO.append0 rfl rfl rfl rfl rfl rfl rfl rfl rfl (WO.go rfl ?_) | refine WO.appendF (by simp) (by exact lens_ok rfl) (by exact lens_ok rfl) (by first | decide | simp) (by first | decide | simp) rfl rfl rfl rfl rfl rfl rfl rfl rfl rfl (WO.go rfl ?_) | refine WO.appendI (by simp) (by exact lens_ok rfl) (by first | decide | simp) (by first | decide | simp) rfl rfl rfl rfl rfl rfl rfl rfl rfl rfl (WO.go rfl ?_) | refine W.loop ?_ | refine W.exit ?_)
    exact W.ret (.ret [_] rfl rfl)
end Go.Proofs.YtjdlmhbkfammlaaGreatDoor
