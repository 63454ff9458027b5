/- A part of the proof: walks of the functions. -/
import Derived.Test.YtjdlmhbkfammlabGreatDoorSeate
namespace Go.Proofs.YtjdlmhbkfammlabGreatDoor
open Go Go.Sh
set_option linter.unusedVariables false
set_option linter.unusedSimpArgs false
set_option maxHeartbeats 4000000
variable {X : CRel}
/-! package matrix -/
theorem checkTerm_W (x : T) (hs : x.size ≤ 4096) (ht : x.tyLe 64) : Gives (AC X) 170 [.agg (cT x)] (.tup [.int .i64 x.size, .int .i64 0]) := by
  refine givesW (fn := Tryz.f170) Tryz.func170 rfl rfl rfl ?_
  repeat (first | refine W.condT rfl ?_ | refine W.condF rfl ?_ | refine W.seq ?_ | refine W.block ?_ | refine W.skip ?_ | refine WO.nil ?_ | refine WD.nil (WO.go rfl ?_) | refine W.region rfl (WO.go rfl ?_) | refine WO.givesT (termNodes_W x (by omega) ht) rfl rfl rfl rfl rfl rfl rfl rfl rfl (WO.go rfl ?_) | refine WD.givesT (termNodes_W x (by omega) ht) rfl rfl rfl rfl rfl rfl rfl rfl rfl (WD.go rfl ?_) | refine WO.append0 rfl rfl rfl rfl rfl rfl rfl rfl rfl (WO.go rfl ?_) | refine WO.appendF (by simp) (by exact lens_ok rfl) (by exact lens_ok rfl) (by first | decide | simp) (by first | decide | simp) rfl rfl rfl rfl rfl rfl rfl rfl rfl rfl (WO.go rfl ?_) | refine WO.appendI (by simp) (by exact lens_ok rfl) (by first | decide | simp) (by first | decide | simp) rfl rfl rfl rfl rfl rfl rfl rfl rfl rfl (WO.go rfl ?_) | refine W.loop ?_ | refine W.exit ?_)
  refine W.cond rfl (fun h => ?_) (fun _ => ?_)
  · simp at h; omega
  · repeat (first | refine W.condT rfl ?_ | refine W.condF rfl ?_ | refine W.seq ?_ | refine W.block ?_ | refine W.skip ?_ | refine WO.nil ?_ | refine WD.nil (WO.go rfl ?_) | refine W.region rfl (WO.go rfl ?_) | refine WO.append0 rfl rfl rfl rfl rfl rfl rfl rfl rfl (WO.go rfl ?_) | refine WO.appendF (by simp) (by exact lens_ok rfl) (by exact lens_ok rfl) (by first | decide | simp) (by first | decide | simp) rfl rfl rfl rfl rfl rfl rfl rfl rfl rfl (WO.go rfl ?_) | refine WO.appendI (by simp) (by exact lens_ok rfl) (by first | decide | simp) (by first | decide | simp) rfl rfl rfl rfl rfl rfl rfl rfl rfl rfl (WO.go rfl ?_) | refine W.loop ?_ | refine W.exit ?_)
    exact W.ret (.ret [_, _] rfl rfl)
theorem termsCheck_W (x : T) (hs : x.size ≤ 4096) (ht : x.tyLe 64) : Gives (AC X) 102 [.agg (cT x)] (.int .i64 0) := by
  refine givesW (fn := Tryz.f102) Tryz.func102 rfl rfl rfl ?_
  repeat (first | refine W.condT rfl ?_ | refine W.condF rfl ?_ | refine W.seq ?_ | refine W.block ?_ | refine W.skip ?_ | refine WO.nil ?_ | refine WD.nil (WO.go rfl ?_) | refine W.region rfl (WO.go rfl ?_) | refine WO.givesT (checkTerm_W x hs ht) rfl rfl rfl rfl rfl rfl rfl rfl rfl (WO.go rfl ?_) | refine WD.givesT (checkTerm_W x hs ht) rfl rfl rfl rfl rfl rfl rfl rfl rfl (WD.go rfl ?_) | refine WO.append0 rfl rfl rfl rfl rfl rfl rfl rfl rfl (WO.go rfl ?_) | refine WO.appendF (by simp) (by exact lens_ok rfl) (by exact lens_ok rfl) (by first | decide | simp) (by first | decide | simp) rfl rfl rfl rfl rfl rfl rfl rfl rfl rfl (WO.go rfl ?_) | refine WO.appendI (by simp) (by exact lens_ok rfl) (by first | decide | simp) (by first | decide | simp) rfl rfl rfl rfl rfl rfl rfl rfl rfl rfl (WO.go rfl ?_) | refine W.loop ?_ | refine W.exit ?_)
  exact W.ret (.ret [_] rfl rfl)
theorem kinds_W (f : Fo) (w c : Y) (hp : f.pure) (hs : f.size ≤ 4096) (ht : f.tyLe 64) (e : f.bothE = some (w, c)) : Gives (AC X) 210 [.agg (cF f)] (.tup [.agg (cY w), .agg (cY c)]) := by
  have hw := witness_W (X := X) f hp hs ht
  have hc := challenge_W (X := X) f hp hs ht
  rw [e] at hw hc
  refine givesW (fn := Tryz.f210) Tryz.func210 rfl rfl rfl ?_
  repeat (first | refine W.condT rfl ?_ | refine W.condF rfl ?_ | refine W.seq ?_ | refine W.block ?_ | refine W.skip ?_ | refine WO.nil ?_ | refine WD.nil (WO.go rfl ?_) | refine W.region rfl (WO.go rfl ?_) | refine WO.givesT hw rfl rfl rfl rfl rfl rfl rfl rfl rfl (WO.go rfl ?_) | refine WD.givesT hw rfl rfl rfl rfl rfl rfl rfl rfl rfl (WD.go rfl ?_) | refine WO.givesT hc rfl rfl rfl rfl rfl rfl rfl rfl rfl (WO.go rfl ?_) | refine WD.givesT hc rfl rfl rfl rfl rfl rfl rfl rfl rfl (WD.go rfl ?_) | refine WO.append0 rfl rfl rfl rfl rfl rfl rfl rfl rfl (WO.go rfl ?_) | refine WO.appendF (by simp) (by exact lens_ok rfl) (by exact lens_ok rfl) (by first | decide | simp) (by first | decide | simp) rfl rfl rfl rfl rfl rfl rfl rfl rfl rfl (WO.go rfl ?_) | refine WO.appendI (by simp) (by exact lens_ok rfl) (by first | decide | simp) (by first | decide | simp) rfl rfl rfl rfl rfl rfl rfl rfl rfl rfl (WO.go rfl ?_) | refine W.loop ?_ | refine W.exit ?_)
  refine W.any2 _ rfl (by decide +kernel) (by repeat (first | exact trivial | exact rfl | exact Fr.ext2 (fun i => cond2 rfl i _ _ _) rfl rfl | refine And.intro ?_ ?_)) ?_
  repeat (first | refine W.condT rfl ?_ | refine W.condF rfl ?_ | refine W.seq ?_ | refine W.block ?_ | refine W.skip ?_ | refine WO.nil ?_ | refine WD.nil (WO.go rfl ?_) | refine W.region rfl (WO.go rfl ?_) | refine WO.append0 rfl rfl rfl rfl rfl rfl rfl rfl rfl (WO.go rfl ?_) | refine WO.appendF (by simp) (by exact lens_ok rfl) (by exact lens_ok rfl) (by first | decide | simp) (by first | decide | simp) rfl rfl rfl rfl rfl rfl rfl rfl rfl rfl (WO.go rfl ?_) | refine WO.appendI (by simp) (by exact lens_ok rfl) (by first | decide | simp) (by first | decide | simp) rfl rfl rfl rfl rfl rfl rfl rfl rfl rfl (WO.go rfl ?_) | refine W.loop ?_ | refine W.exit ?_)
  exact W.ret (.ret [_, _] rfl rfl)
def rMat : Option Fo → AV
  | some m => .tup [.agg (cF m), .int .i64 0]
  | none => .tup [.agg zF, .int .i64 4]
def kB : Bk → Int
  | .an => 2 | .im => 3
theorem twoM_W (k : Bk) (a b : Fo) (v c w d : T) (ra rb : Option Fo) (ha : Gives (AC X) 160 [.agg (cF a), .agg (cT v), .agg (cT c)] (rMat ra)) (hb : Gives (AC X) 160 [.agg (cF b), .agg (cT w), .agg (cT d)] (rMat rb))
    (hsa : ∀ x, ra = some x → x.size ≤ 4096) (hsb : ∀ x, rb = some x → x.size ≤ 4096) :
    Gives (AC X) 211 [.int .i64 (kB k), .agg (cF a), .agg (cT v), .agg (cT c), .agg (cF b), .agg (cT w), .agg (cT d)] (rMat (twoR k ra rb)) := by
  cases ra with
  | none =>
    refine givesW (fn := Tryz.f211) Tryz.func211 rfl rfl rfl ?_
    repeat (first | refine W.condT rfl ?_ | refine W.condF rfl ?_ | refine W.seq ?_ | refine W.block ?_ | refine W.skip ?_ | refine WO.nil ?_ | refine WD.nil (WO.go rfl ?_) | refine W.region rfl (WO.go rfl ?_) | refine WO.givesT ha rfl rfl rfl rfl rfl rfl rfl rfl rfl (WO.go rfl ?_) | refine WD.givesT ha rfl rfl rfl rfl rfl rfl rfl rfl rfl (WD.go rfl ?_) | refine WO.append0 rfl rfl rfl rfl rfl rfl rfl rfl rfl (WO.go rfl ?_) | refine WO.appendF (by simp) (by exact lens_ok rfl) (by exact lens_ok rfl) (by first | decide | simp) (by first | decide | simp) rfl rfl rfl rfl rfl rfl rfl rfl rfl rfl (WO.go rfl ?_) | refine WO.appendI (by simp) (by exact lens_ok rfl) (by first | decide | simp) (by first | decide | simp) rfl rfl rfl rfl rfl rfl rfl rfl rfl rfl (WO.go rfl ?_) | refine W.loop ?_ | refine W.exit ?_)
    exact W.ret (.ret [_, _] rfl rfl)
  | some x =>
    have hx := hsa x rfl
    cases rb with
    | none =>
      refine givesW (fn := Tryz.f211) Tryz.func211 rfl rfl rfl ?_
      repeat (first | refine W.condT rfl ?_ | refine W.condF rfl ?_ | refine W.seq ?_ | refine W.block ?_ | refine W.skip ?_ | refine WO.nil ?_ | refine WD.nil (WO.go rfl ?_) | refine W.region rfl (WO.go rfl ?_) | refine WO.givesT ha rfl rfl rfl rfl rfl rfl rfl rfl rfl (WO.go rfl ?_) | refine WD.givesT ha rfl rfl rfl rfl rfl rfl rfl rfl rfl (WD.go rfl ?_) | refine WO.givesT hb rfl rfl rfl rfl rfl rfl rfl rfl rfl (WO.go rfl ?_) | refine WD.givesT hb rfl rfl rfl rfl rfl rfl rfl rfl rfl (WD.go rfl ?_) | refine WO.append0 rfl rfl rfl rfl rfl rfl rfl rfl rfl (WO.go rfl ?_) | refine WO.appendF (by simp) (by exact lens_ok rfl) (by exact lens_ok rfl) (by first | decide | simp) (by first | decide | simp) rfl rfl rfl rfl rfl rfl rfl rfl rfl rfl (WO.go rfl ?_) | refine WO.appendI (by simp) (by exact lens_ok rfl) (by first | decide | simp) (by first | decide | simp) rfl rfl rfl rfl rfl rfl rfl rfl rfl rfl (WO.go rfl ?_) | refine W.loop ?_ | refine W.exit ?_)
      exact W.ret (.ret [_, _] rfl rfl)
    | some y =>
      have hy := hsb y rfl
      cases k with
      | an =>
        have hz := sizeS_W (X := X) (.bi .an x y) (by simp only [Fo.size]; omega)
        simp only [twoR]
        refine givesW (fn := Tryz.f211) Tryz.func211 rfl rfl rfl ?_
        repeat (first | refine W.condT rfl ?_ | refine W.condF rfl ?_ | refine W.seq ?_ | refine W.block ?_ | refine W.skip ?_ | refine WO.nil ?_ | refine WD.nil (WO.go rfl ?_) | refine W.region rfl (WO.go rfl ?_) | refine WO.givesT ha rfl rfl rfl rfl rfl rfl rfl rfl rfl (WO.go rfl ?_) | refine WD.givesT ha rfl rfl rfl rfl rfl rfl rfl rfl rfl (WD.go rfl ?_) | refine WO.givesT hb rfl rfl rfl rfl rfl rfl rfl rfl rfl (WO.go rfl ?_) | refine WD.givesT hb rfl rfl rfl rfl rfl rfl rfl rfl rfl (WD.go rfl ?_) | refine WO.gives hz rfl rfl rfl rfl rfl rfl rfl rfl rfl (WO.go rfl ?_) | refine WD.gives hz rfl rfl rfl rfl rfl rfl rfl rfl rfl (WD.go rfl ?_) | refine WO.append0 rfl rfl rfl rfl rfl rfl rfl rfl rfl (WO.go rfl ?_) | refine WO.appendF (by simp) (by exact lens_ok rfl) (by exact lens_ok rfl) (by first | decide | simp) (by first | decide | simp) rfl rfl rfl rfl rfl rfl rfl rfl rfl rfl (WO.go rfl ?_) | refine WO.appendI (by simp) (by exact lens_ok rfl) (by first | decide | simp) (by first | decide | simp) rfl rfl rfl rfl rfl rfl rfl rfl rfl rfl (WO.go rfl ?_) | refine W.loop ?_ | refine W.exit ?_)
        refine W.cond rfl (fun h => ?_) (fun h => ?_)
        · rw [if_neg (by simp at h; omega)]
          repeat (first | refine W.condT rfl ?_ | refine W.condF rfl ?_ | refine W.seq ?_ | refine W.block ?_ | refine W.skip ?_ | refine WO.nil ?_ | refine WD.nil (WO.go rfl ?_) | refine W.region rfl (WO.go rfl ?_) | refine WO.append0 rfl rfl rfl rfl rfl rfl rfl rfl rfl (WO.go rfl ?_) | refine WO.appendF (by simp) (by exact lens_ok rfl) (by exact lens_ok rfl) (by first | decide | simp) (by first | decide | simp) rfl rfl rfl rfl rfl rfl rfl rfl rfl rfl (WO.go rfl ?_) | refine WO.appendI (by simp) (by exact lens_ok rfl) (by first | decide | simp) (by first | decide | simp) rfl rfl rfl rfl rfl rfl rfl rfl rfl rfl (WO.go rfl ?_) | refine W.loop ?_ | refine W.exit ?_)
          exact W.ret (.ret [_, _] rfl rfl)
        · rw [if_pos (by simp at h; omega)]
          repeat (first | refine W.condT rfl ?_ | refine W.condF rfl ?_ | refine W.seq ?_ | refine W.block ?_ | refine W.skip ?_ | refine WO.nil ?_ | refine WD.nil (WO.go rfl ?_) | refine W.region rfl (WO.go rfl ?_) | refine WO.append0 rfl rfl rfl rfl rfl rfl rfl rfl rfl (WO.go rfl ?_) | refine WO.appendF (by simp) (by exact lens_ok rfl) (by exact lens_ok rfl) (by first | decide | simp) (by first | decide | simp) rfl rfl rfl rfl rfl rfl rfl rfl rfl rfl (WO.go rfl ?_) | refine WO.appendI (by simp) (by exact lens_ok rfl) (by first | decide | simp) (by first | decide | simp) rfl rfl rfl rfl rfl rfl rfl rfl rfl rfl (WO.go rfl ?_) | refine W.loop ?_ | refine W.exit ?_)
          exact W.ret (.ret [_, _] rfl rfl)
      | im =>
        have hz := sizeS_W (X := X) (.bi .im x y) (by simp only [Fo.size]; omega)
        simp only [twoR]
        refine givesW (fn := Tryz.f211) Tryz.func211 rfl rfl rfl ?_
        repeat (first | refine W.condT rfl ?_ | refine W.condF rfl ?_ | refine W.seq ?_ | refine W.block ?_ | refine W.skip ?_ | refine WO.nil ?_ | refine WD.nil (WO.go rfl ?_) | refine W.region rfl (WO.go rfl ?_) | refine WO.givesT ha rfl rfl rfl rfl rfl rfl rfl rfl rfl (WO.go rfl ?_) | refine WD.givesT ha rfl rfl rfl rfl rfl rfl rfl rfl rfl (WD.go rfl ?_) | refine WO.givesT hb rfl rfl rfl rfl rfl rfl rfl rfl rfl (WO.go rfl ?_) | refine WD.givesT hb rfl rfl rfl rfl rfl rfl rfl rfl rfl (WD.go rfl ?_) | refine WO.gives hz rfl rfl rfl rfl rfl rfl rfl rfl rfl (WO.go rfl ?_) | refine WD.gives hz rfl rfl rfl rfl rfl rfl rfl rfl rfl (WD.go rfl ?_) | refine WO.append0 rfl rfl rfl rfl rfl rfl rfl rfl rfl (WO.go rfl ?_) | refine WO.appendF (by simp) (by exact lens_ok rfl) (by exact lens_ok rfl) (by first | decide | simp) (by first | decide | simp) rfl rfl rfl rfl rfl rfl rfl rfl rfl rfl (WO.go rfl ?_) | refine WO.appendI (by simp) (by exact lens_ok rfl) (by first | decide | simp) (by first | decide | simp) rfl rfl rfl rfl rfl rfl rfl rfl rfl rfl (WO.go rfl ?_) | refine W.loop ?_ | refine W.exit ?_)
        refine W.cond rfl (fun h => ?_) (fun h => ?_)
        · rw [if_neg (by simp at h; omega)]
          repeat (first | refine W.condT rfl ?_ | refine W.condF rfl ?_ | refine W.seq ?_ | refine W.block ?_ | refine W.skip ?_ | refine WO.nil ?_ | refine WD.nil (WO.go rfl ?_) | refine W.region rfl (WO.go rfl ?_) | refine WO.append0 rfl rfl rfl rfl rfl rfl rfl rfl rfl (WO.go rfl ?_) | refine WO.appendF (by simp) (by exact lens_ok rfl) (by exact lens_ok rfl) (by first | decide | simp) (by first | decide | simp) rfl rfl rfl rfl rfl rfl rfl rfl rfl rfl (WO.go rfl ?_) | refine WO.appendI (by simp) (by exact lens_ok rfl) (by first | decide | simp) (by first | decide | simp) rfl rfl rfl rfl rfl rfl rfl rfl rfl rfl (WO.go rfl ?_) | refine W.loop ?_ | refine W.exit ?_)
          exact W.ret (.ret [_, _] rfl rfl)
        · rw [if_pos (by simp at h; omega)]
          repeat (first | refine W.condT rfl ?_ | refine W.condF rfl ?_ | refine W.seq ?_ | refine W.block ?_ | refine W.skip ?_ | refine WO.nil ?_ | refine WD.nil (WO.go rfl ?_) | refine W.region rfl (WO.go rfl ?_) | refine WO.append0 rfl rfl rfl rfl rfl rfl rfl rfl rfl (WO.go rfl ?_) | refine WO.appendF (by simp) (by exact lens_ok rfl) (by exact lens_ok rfl) (by first | decide | simp) (by first | decide | simp) rfl rfl rfl rfl rfl rfl rfl rfl rfl rfl (WO.go rfl ?_) | refine WO.appendI (by simp) (by exact lens_ok rfl) (by first | decide | simp) (by first | decide | simp) rfl rfl rfl rfl rfl rfl rfl rfl rfl rfl (WO.go rfl ?_) | refine W.loop ?_ | refine W.exit ?_)
          exact W.ret (.ret [_, _] rfl rfl)
theorem withM_W (f : Fo) (x w c : T) (r : Option Fo) (hf : f.size ≤ 4096) (hfl : f.le 1000000000) (hx : x.size ≤ 100000) (hxl : x.le 1000000000)
    (h : x.size ≤ 4096 → (Fo.put 0 x f).size ≤ 4096 → Gives (AC X) 160 [.agg (cF (Fo.put 0 x f)), .agg (cT w), .agg (cT c)] (rMat r)) :
    Gives (AC X) 216 [.agg (cF f), .agg (cT x), .agg (cT w), .agg (cT c)] (rMat (putR f x r)) := by
  have hn := nodesS_W (X := X) x (by omega)
  have hg := grownS_W (X := X) x (by omega) f (by omega)
  have hp := putFormulaS_W (X := X) x (by omega) hxl f (by omega) hfl
  by_cases h1 : x.size ≤ 4096
  · have key : decide ((x.size : Int) > 4096) = false := decide_eq_false (by omega)
    by_cases h2 : (Fo.put 0 x f).size ≤ 4096
    · have key2 : decide (((Fo.put 0 x f).size : Int) > 4096) = false := decide_eq_false (by omega)
      have ho := h h1 h2
      rw [putR, if_pos ⟨h1, h2⟩]
      cases r with
      | none =>
        refine givesW (fn := Tryz.f216) Tryz.func216 rfl rfl rfl ?_
        repeat (first | (refine WO.gives hn rfl rfl rfl rfl rfl rfl rfl rfl rfl (WO.steps 2 rfl (WO.fix 13 (congrArg AV.bool key) (WO.go rfl ?_)))) | refine W.condT rfl ?_ | refine W.condF rfl ?_ | refine W.seq ?_ | refine W.block ?_ | refine W.skip ?_ | refine WO.nil ?_ | refine WD.nil (WO.go rfl ?_) | refine W.region rfl (WO.go rfl ?_) | refine W.draw (id := 3) 8 [] rfl (by decide +kernel) rfl (WD.go rfl ?_) | refine WO.gives hg rfl rfl rfl rfl rfl rfl rfl rfl rfl (WO.go rfl ?_) | refine WD.gives hg rfl rfl rfl rfl rfl rfl rfl rfl rfl (WD.go rfl ?_) | refine WO.gives hp rfl rfl rfl rfl rfl rfl rfl rfl rfl (WO.go rfl ?_) | refine WD.gives hp rfl rfl rfl rfl rfl rfl rfl rfl rfl (WD.go rfl ?_) | refine WO.givesT ho rfl rfl rfl rfl rfl rfl rfl rfl rfl (WO.go rfl ?_) | refine WD.givesT ho rfl rfl rfl rfl rfl rfl rfl rfl rfl (WD.go rfl ?_) | refine WO.append0 rfl rfl rfl rfl rfl rfl rfl rfl rfl (WO.go rfl ?_) | refine WO.appendF (by simp) (by exact lens_ok rfl) (by exact lens_ok rfl) (by first | decide | simp) (by first | decide | simp) rfl rfl rfl rfl rfl rfl rfl rfl rfl rfl (WO.go rfl ?_) | refine WO.appendI (by simp) (by exact lens_ok rfl) (by first | decide | simp) (by first | decide | simp) rfl rfl rfl rfl rfl rfl rfl rfl rfl rfl (WO.go rfl ?_) | refine W.loop ?_ | refine W.exit ?_)
        refine W.cond rfl (fun h => absurd (h.symm.trans key2) (by decide)) (fun _ => ?_)
        repeat (first | refine W.condT rfl ?_ | refine W.condF rfl ?_ | refine W.seq ?_ | refine W.block ?_ | refine W.skip ?_ | refine WO.nil ?_ | refine WD.nil (WO.go rfl ?_) | refine W.region rfl (WO.go rfl ?_) | refine W.draw (id := 3) 8 [] rfl (by decide +kernel) rfl (WD.go rfl ?_) | refine WO.gives hp rfl rfl rfl rfl rfl rfl rfl rfl rfl (WO.go rfl ?_) | refine WD.gives hp rfl rfl rfl rfl rfl rfl rfl rfl rfl (WD.go rfl ?_) | refine WO.givesT ho rfl rfl rfl rfl rfl rfl rfl rfl rfl (WO.go rfl ?_) | refine WD.givesT ho rfl rfl rfl rfl rfl rfl rfl rfl rfl (WD.go rfl ?_) | refine WO.append0 rfl rfl rfl rfl rfl rfl rfl rfl rfl (WO.go rfl ?_) | refine WO.appendF (by simp) (by exact lens_ok rfl) (by exact lens_ok rfl) (by first | decide | simp) (by first | decide | simp) rfl rfl rfl rfl rfl rfl rfl rfl rfl rfl (WO.go rfl ?_) | refine WO.appendI (by simp) (by exact lens_ok rfl) (by first | decide | simp) (by first | decide | simp) rfl rfl rfl rfl rfl rfl rfl rfl rfl rfl (WO.go rfl ?_) | refine W.loop ?_ | refine W.exit ?_)
        exact W.ret (.ret [_, _] rfl rfl)
      | some y =>
        refine givesW (fn := Tryz.f216) Tryz.func216 rfl rfl rfl ?_
        repeat (first | (refine WO.gives hn rfl rfl rfl rfl rfl rfl rfl rfl rfl (WO.steps 2 rfl (WO.fix 13 (congrArg AV.bool key) (WO.go rfl ?_)))) | refine W.condT rfl ?_ | refine W.condF rfl ?_ | refine W.seq ?_ | refine W.block ?_ | refine W.skip ?_ | refine WO.nil ?_ | refine WD.nil (WO.go rfl ?_) | refine W.region rfl (WO.go rfl ?_) | refine W.draw (id := 3) 8 [] rfl (by decide +kernel) rfl (WD.go rfl ?_) | refine WO.gives hg rfl rfl rfl rfl rfl rfl rfl rfl rfl (WO.go rfl ?_) | refine WD.gives hg rfl rfl rfl rfl rfl rfl rfl rfl rfl (WD.go rfl ?_) | refine WO.gives hp rfl rfl rfl rfl rfl rfl rfl rfl rfl (WO.go rfl ?_) | refine WD.gives hp rfl rfl rfl rfl rfl rfl rfl rfl rfl (WD.go rfl ?_) | refine WO.givesT ho rfl rfl rfl rfl rfl rfl rfl rfl rfl (WO.go rfl ?_) | refine WD.givesT ho rfl rfl rfl rfl rfl rfl rfl rfl rfl (WD.go rfl ?_) | refine WO.append0 rfl rfl rfl rfl rfl rfl rfl rfl rfl (WO.go rfl ?_) | refine WO.appendF (by simp) (by exact lens_ok rfl) (by exact lens_ok rfl) (by first | decide | simp) (by first | decide | simp) rfl rfl rfl rfl rfl rfl rfl rfl rfl rfl (WO.go rfl ?_) | refine WO.appendI (by simp) (by exact lens_ok rfl) (by first | decide | simp) (by first | decide | simp) rfl rfl rfl rfl rfl rfl rfl rfl rfl rfl (WO.go rfl ?_) | refine W.loop ?_ | refine W.exit ?_)
        refine W.cond rfl (fun h => absurd (h.symm.trans key2) (by decide)) (fun _ => ?_)
        repeat (first | refine W.condT rfl ?_ | refine W.condF rfl ?_ | refine W.seq ?_ | refine W.block ?_ | refine W.skip ?_ | refine WO.nil ?_ | refine WD.nil (WO.go rfl ?_) | refine W.region rfl (WO.go rfl ?_) | refine W.draw (id := 3) 8 [] rfl (by decide +kernel) rfl (WD.go rfl ?_) | refine WO.gives hp rfl rfl rfl rfl rfl rfl rfl rfl rfl (WO.go rfl ?_) | refine WD.gives hp rfl rfl rfl rfl rfl rfl rfl rfl rfl (WD.go rfl ?_) | refine WO.givesT ho rfl rfl rfl rfl rfl rfl rfl rfl rfl (WO.go rfl ?_) | refine WD.givesT ho rfl rfl rfl rfl rfl rfl rfl rfl rfl (WD.go rfl ?_) | refine WO.append0 rfl rfl rfl rfl rfl rfl rfl rfl rfl (WO.go rfl ?_) | refine WO.appendF (by simp) (by exact lens_ok rfl) (by exact lens_ok rfl) (by first | decide | simp) (by first | decide | simp) rfl rfl rfl rfl rfl rfl rfl rfl rfl rfl (WO.go rfl ?_) | refine WO.appendI (by simp) (by exact lens_ok rfl) (by first | decide | simp) (by first | decide | simp) rfl rfl rfl rfl rfl rfl rfl rfl rfl rfl (WO.go rfl ?_) | refine W.loop ?_ | refine W.exit ?_)
        exact W.ret (.ret [_, _] rfl rfl)
    · have key2 : decide (((Fo.put 0 x f).size : Int) > 4096) = true := decide_eq_true (by omega)
      rw [putR, if_neg (fun h => h2 h.2)]
      refine givesW (fn := Tryz.f216) Tryz.func216 rfl rfl rfl ?_
      repeat (first | (refine WO.gives hn rfl rfl rfl rfl rfl rfl rfl rfl rfl (WO.steps 2 rfl (WO.fix 13 (congrArg AV.bool key) (WO.go rfl ?_)))) | refine W.condT rfl ?_ | refine W.condF rfl ?_ | refine W.seq ?_ | refine W.block ?_ | refine W.skip ?_ | refine WO.nil ?_ | refine WD.nil (WO.go rfl ?_) | refine W.region rfl (WO.go rfl ?_) | refine W.draw (id := 3) 8 [] rfl (by decide +kernel) rfl (WD.go rfl ?_) | refine WO.gives hg rfl rfl rfl rfl rfl rfl rfl rfl rfl (WO.go rfl ?_) | refine WD.gives hg rfl rfl rfl rfl rfl rfl rfl rfl rfl (WD.go rfl ?_) | refine WO.append0 rfl rfl rfl rfl rfl rfl rfl rfl rfl (WO.go rfl ?_) | refine WO.appendF (by simp) (by exact lens_ok rfl) (by exact lens_ok rfl) (by first | decide | simp) (by first | decide | simp) rfl rfl rfl rfl rfl rfl rfl rfl rfl rfl (WO.go rfl ?_) | refine WO.appendI (by simp) (by exact lens_ok rfl) (by first | decide | simp) (by first | decide | simp) rfl rfl rfl rfl rfl rfl rfl rfl rfl rfl (WO.go rfl ?_) | refine W.loop ?_ | refine W.exit ?_)
      refine W.cond rfl (fun _ => ?_) (fun h => absurd (h.symm.trans key2) (by decide))
      repeat (first | refine W.condT rfl ?_ | refine W.condF rfl ?_ | refine W.seq ?_ | refine W.block ?_ | refine W.skip ?_ | refine WO.nil ?_ | refine WD.nil (WO.go rfl ?_) | refine W.region rfl (WO.go rfl ?_) | refine W.draw (id := 3) 8 [] rfl (by decide +kernel) rfl (WD.go rfl ?_) | refine WO.append0 rfl rfl rfl rfl rfl rfl rfl rfl rfl (WO.go rfl ?_) | refine WO.appendF (by simp) (by exact lens_ok rfl) (by exact lens_ok rfl) (by first | decide | simp) (by first | decide | simp) rfl rfl rfl rfl rfl rfl rfl rfl rfl rfl (WO.go rfl ?_) | refine WO.appendI (by simp) (by exact lens_ok rfl) (by first | decide | simp) (by first | decide | simp) rfl rfl rfl rfl rfl rfl rfl rfl rfl rfl (WO.go rfl ?_) | refine W.loop ?_ | refine W.exit ?_)
      exact W.ret (.ret [_, _] rfl rfl)
  · have key : decide ((x.size : Int) > 4096) = true := decide_eq_true (by omega)
    rw [putR, if_neg (fun h => h1 h.1)]
    refine givesW (fn := Tryz.f216) Tryz.func216 rfl rfl rfl ?_
    repeat (first | (refine WO.gives hn rfl rfl rfl rfl rfl rfl rfl rfl rfl (WO.steps 2 rfl (WO.fix 13 (congrArg AV.bool key) (WO.go rfl ?_)))) | refine W.condT rfl ?_ | refine W.condF rfl ?_ | refine W.seq ?_ | refine W.block ?_ | refine W.skip ?_ | refine WO.nil ?_ | refine WD.nil (WO.go rfl ?_) | refine W.region rfl (WO.go rfl ?_) | refine W.draw (id := 3) 8 [] rfl (by decide +kernel) rfl (WD.go rfl ?_) | refine WO.gives hg rfl rfl rfl rfl rfl rfl rfl rfl rfl (WO.go rfl ?_) | refine WD.gives hg rfl rfl rfl rfl rfl rfl rfl rfl rfl (WD.go rfl ?_) | refine WO.append0 rfl rfl rfl rfl rfl rfl rfl rfl rfl (WO.go rfl ?_) | refine WO.appendF (by simp) (by exact lens_ok rfl) (by exact lens_ok rfl) (by first | decide | simp) (by first | decide | simp) rfl rfl rfl rfl rfl rfl rfl rfl rfl rfl (WO.go rfl ?_) | refine WO.appendI (by simp) (by exact lens_ok rfl) (by first | decide | simp) (by first | decide | simp) rfl rfl rfl rfl rfl rfl rfl rfl rfl rfl (WO.go rfl ?_) | refine W.loop ?_ | refine W.exit ?_)
    exact W.ret (.ret [_, _] rfl rfl)
theorem ofM_W : ∀ (n : Nat) (f : Fo) (w c : T) (m : Nat) (G : List Y), Fo.bone f ≤ n → f.pure → (∃ p, f.bothE = some p) → Fo.Ok m G f → HT m G w f.both.1 → HT m G c f.both.2 → f.size ≤ 4096 → f.tyLe 64 → w.tyLe 64 → c.tyLe 64 →
    w.size ≤ 50000 → c.size ≤ 50000 → G.length ≤ 1000 → Gives (AC X) 160 [.agg (cF f), .agg (cT w), .agg (cT c)] (rMat (MR n f w c)) := by
  intro n
  induction n with
  | zero => intro f w c m G hn; cases f <;> simp only [Fo.bone] at hn <;> omega
  | succ n ih =>
    intro f w c m G hn hp he ho hw hc hs ht hwt hct hws hcs hG
    have nw := nodesS_W (X := X) w (by omega)
    have nc := nodesS_W (X := X) c (by omega)
    by_cases h1 : w.size ≤ 4096
    · have key : decide ((w.size : Int) > 4096) = false := decide_eq_false (by omega)
      by_cases h2 : c.size ≤ 4096
      · have key2 : decide ((c.size : Int) > 4096) = false := decide_eq_false (by omega)
        obtain ⟨pp, he⟩ := he
        rcases f with ⟨a, b⟩ | ⟨_ | _, f, g⟩ | ⟨_ | _ | _ | _, s, f⟩
        · simp only [MR]
          rw [if_pos ⟨h1, h2⟩]
          refine givesW (fn := Tryz.f160) Tryz.func160 rfl rfl rfl ?_
          repeat (first | (refine WO.gives nw rfl rfl rfl rfl rfl rfl rfl rfl rfl (WO.steps 2 rfl (WO.fix 32 (congrArg AV.bool key) (WO.go rfl ?_)))) | refine W.condT rfl ?_ | refine W.condF rfl ?_ | refine W.seq ?_ | refine W.block ?_ | refine W.skip ?_ | refine WO.nil ?_ | refine WD.nil (WO.go rfl ?_) | refine W.region rfl (WO.go rfl ?_) | refine W.draw (id := 7) 29 [] rfl (by decide +kernel) rfl (WD.go rfl ?_) | refine W.draw (id := 12) 8 [] rfl (by decide +kernel) rfl (WD.go rfl ?_) | refine W.draw (id := 13) 10 [] rfl (by decide +kernel) rfl (WD.go rfl ?_) | refine W.draw (id := 14) 10 [] rfl (by decide +kernel) rfl (WD.go rfl ?_) | refine W.draw (id := 15) 29 [] rfl (by decide +kernel) rfl (WD.go rfl ?_) | refine W.draw (id := 18) 12 [] rfl (by decide +kernel) rfl (WD.go rfl ?_) | refine W.draw (id := 19) 15 [] rfl (by decide +kernel) rfl (WD.go rfl ?_) | refine W.draw (id := 22) 18 [] rfl (by decide +kernel) rfl (WD.go rfl ?_) | refine WO.gives nc rfl rfl rfl rfl rfl rfl rfl rfl rfl (WO.go rfl ?_) | refine WD.gives nc rfl rfl rfl rfl rfl rfl rfl rfl rfl (WD.go rfl ?_) | refine WO.append0 rfl rfl rfl rfl rfl rfl rfl rfl rfl (WO.go rfl ?_) | refine WO.appendF (by simp) (by exact lens_ok rfl) (by exact lens_ok rfl) (by first | decide | simp) (by first | decide | simp) rfl rfl rfl rfl rfl rfl rfl rfl rfl rfl (WO.go rfl ?_) | refine WO.appendI (by simp) (by exact lens_ok rfl) (by first | decide | simp) (by first | decide | simp) rfl rfl rfl rfl rfl rfl rfl rfl rfl rfl (WO.go rfl ?_) | refine W.loop ?_ | refine W.exit ?_)
          refine W.cond rfl (fun h => absurd (h.symm.trans key2) (by decide)) (fun _ => ?_)
          repeat (first | refine W.condT rfl ?_ | refine W.condF rfl ?_ | refine W.seq ?_ | refine W.block ?_ | refine W.skip ?_ | refine WO.nil ?_ | refine WD.nil (WO.go rfl ?_) | refine W.region rfl (WO.go rfl ?_) | refine W.draw (id := 7) 29 [] rfl (by decide +kernel) rfl (WD.go rfl ?_) | refine W.draw (id := 12) 8 [] rfl (by decide +kernel) rfl (WD.go rfl ?_) | refine W.draw (id := 13) 10 [] rfl (by decide +kernel) rfl (WD.go rfl ?_) | refine W.draw (id := 14) 10 [] rfl (by decide +kernel) rfl (WD.go rfl ?_) | refine W.draw (id := 15) 29 [] rfl (by decide +kernel) rfl (WD.go rfl ?_) | refine W.draw (id := 18) 12 [] rfl (by decide +kernel) rfl (WD.go rfl ?_) | refine W.draw (id := 19) 15 [] rfl (by decide +kernel) rfl (WD.go rfl ?_) | refine W.draw (id := 22) 18 [] rfl (by decide +kernel) rfl (WD.go rfl ?_) | refine WO.append0 rfl rfl rfl rfl rfl rfl rfl rfl rfl (WO.go rfl ?_) | refine WO.appendF (by simp) (by exact lens_ok rfl) (by exact lens_ok rfl) (by first | decide | simp) (by first | decide | simp) rfl rfl rfl rfl rfl rfl rfl rfl rfl rfl (WO.go rfl ?_) | refine WO.appendI (by simp) (by exact lens_ok rfl) (by first | decide | simp) (by first | decide | simp) rfl rfl rfl rfl rfl rfl rfl rfl rfl rfl (WO.go rfl ?_) | refine W.loop ?_ | refine W.exit ?_)
          exact W.ret (.ret [_, _] rfl rfl)
        · simp only [Fo.size] at hs
          simp only [Fo.bone] at hn
          obtain ⟨hef, heg⟩ := bothE_bi he
          have ef := bothE_get hp.1 hef
          have eg := bothE_get hp.2 heg
          cases ho with
          | bi hof hog =>
          simp only [Fo.both] at hw hc
          simp only [MR]
          rw [if_pos ⟨h1, h2⟩]
          obtain ⟨v, p, hfb⟩ : ∃ v p, f.both = (v, p) := ⟨_, _, rfl⟩
          obtain ⟨u, r, hgb⟩ : ∃ u r, g.both = (u, r) := ⟨_, _, rfl⟩
          rw [hfb] at ef
          rw [hgb] at eg
          simp only [hfb, hgb] at hw hc ⊢
          have hk1 := kinds_W (X := X) f v p hp.1 (by omega) ht.1 ef
          have hk2 := kinds_W (X := X) g u r hp.2 (by omega) ht.2 eg
          have z1 := left_size v u w
          have z2 := left_size p r c
          have z3 := right_size v u w
          have z4 := right_size p r c
          have i1 := ih f (T.left v u w) (T.left p r c) m G (by omega) hp.1 hef hof (by rw [hfb]; exact T.left_ty hw) (by rw [hfb]; exact T.left_ty hc) (by omega) ht.1 (left_tyLe hwt) (left_tyLe hct) (by omega) (by omega) hG
          have i2 := ih g (T.right v u w) (T.right p r c) m G (by omega) hp.2 heg hog (by rw [hgb]; exact T.right_ty hw) (by rw [hgb]; exact T.right_ty hc) (by omega) ht.2 (right_tyLe hwt) (right_tyLe hct) (by omega) (by omega) hG
          have htwo := twoM_W (X := X) .an f g _ _ _ _ _ _ i1 i2 (fun x hx => (MR_M hx).2 (by omega)) (fun x hx => (MR_M hx).2 (by omega))
          have l1 := leftC_W (X := X) v u w
          have l2 := leftC_W (X := X) p r c
          have l3 := rightC_W (X := X) v u w
          have l4 := rightC_W (X := X) p r c
          revert htwo
          generalize twoR _ _ _ = RR
          intro htwo
          clear i1 i2
          generalize T.left v u w = x1 at *
          generalize T.left p r c = x2 at *
          generalize T.right v u w = x3 at *
          generalize T.right p r c = x4 at *
          cases RR with
          | none =>
            refine givesW (fn := Tryz.f160) Tryz.func160 rfl rfl rfl ?_
            repeat (first | (refine WO.gives nw rfl rfl rfl rfl rfl rfl rfl rfl rfl (WO.steps 2 rfl (WO.fix 32 (congrArg AV.bool key) (WO.go rfl ?_)))) | refine W.condT rfl ?_ | refine W.condF rfl ?_ | refine W.seq ?_ | refine W.block ?_ | refine W.skip ?_ | refine WO.nil ?_ | refine WD.nil (WO.go rfl ?_) | refine W.region rfl (WO.go rfl ?_) | refine W.draw (id := 7) 29 [] rfl (by decide +kernel) rfl (WD.go rfl ?_) | refine W.draw (id := 12) 8 [] rfl (by decide +kernel) rfl (WD.go rfl ?_) | refine W.draw (id := 13) 10 [] rfl (by decide +kernel) rfl (WD.go rfl ?_) | refine W.draw (id := 14) 10 [] rfl (by decide +kernel) rfl (WD.go rfl ?_) | refine W.draw (id := 15) 29 [] rfl (by decide +kernel) rfl (WD.go rfl ?_) | refine W.draw (id := 18) 12 [] rfl (by decide +kernel) rfl (WD.go rfl ?_) | refine W.draw (id := 19) 15 [] rfl (by decide +kernel) rfl (WD.go rfl ?_) | refine W.draw (id := 22) 18 [] rfl (by decide +kernel) rfl (WD.go rfl ?_) | refine WO.gives nc rfl rfl rfl rfl rfl rfl rfl rfl rfl (WO.go rfl ?_) | refine WD.gives nc rfl rfl rfl rfl rfl rfl rfl rfl rfl (WD.go rfl ?_) | refine WO.append0 rfl rfl rfl rfl rfl rfl rfl rfl rfl (WO.go rfl ?_) | refine WO.appendF (by simp) (by exact lens_ok rfl) (by exact lens_ok rfl) (by first | decide | simp) (by first | decide | simp) rfl rfl rfl rfl rfl rfl rfl rfl rfl rfl (WO.go rfl ?_) | refine WO.appendI (by simp) (by exact lens_ok rfl) (by first | decide | simp) (by first | decide | simp) rfl rfl rfl rfl rfl rfl rfl rfl rfl rfl (WO.go rfl ?_) | refine W.loop ?_ | refine W.exit ?_)
            refine W.cond rfl (fun h => absurd (h.symm.trans key2) (by decide)) (fun _ => ?_)
            repeat (first | refine W.condT rfl ?_ | refine W.condF rfl ?_ | refine W.seq ?_ | refine W.block ?_ | refine W.skip ?_ | refine WO.nil ?_ | refine WD.nil (WO.go rfl ?_) | refine W.region rfl (WO.go rfl ?_) | refine W.draw (id := 7) 29 [] rfl (by decide +kernel) rfl (WD.go rfl ?_) | refine W.draw (id := 12) 8 [] rfl (by decide +kernel) rfl (WD.go rfl ?_) | refine W.draw (id := 13) 10 [] rfl (by decide +kernel) rfl (WD.go rfl ?_) | refine W.draw (id := 14) 10 [] rfl (by decide +kernel) rfl (WD.go rfl ?_) | refine W.draw (id := 15) 29 [] rfl (by decide +kernel) rfl (WD.go rfl ?_) | refine W.draw (id := 18) 12 [] rfl (by decide +kernel) rfl (WD.go rfl ?_) | refine W.draw (id := 19) 15 [] rfl (by decide +kernel) rfl (WD.go rfl ?_) | refine W.draw (id := 22) 18 [] rfl (by decide +kernel) rfl (WD.go rfl ?_) | refine WO.givesT hk1 rfl rfl rfl rfl rfl rfl rfl rfl rfl (WO.go rfl ?_) | refine WD.givesT hk1 rfl rfl rfl rfl rfl rfl rfl rfl rfl (WD.go rfl ?_) | refine WO.givesT hk2 rfl rfl rfl rfl rfl rfl rfl rfl rfl (WO.go rfl ?_) | refine WD.givesT hk2 rfl rfl rfl rfl rfl rfl rfl rfl rfl (WD.go rfl ?_) | refine WO.gives l1 rfl rfl rfl rfl rfl rfl rfl rfl rfl (WO.go rfl ?_) | refine WD.gives l1 rfl rfl rfl rfl rfl rfl rfl rfl rfl (WD.go rfl ?_) | refine WO.gives l2 rfl rfl rfl rfl rfl rfl rfl rfl rfl (WO.go rfl ?_) | refine WD.gives l2 rfl rfl rfl rfl rfl rfl rfl rfl rfl (WD.go rfl ?_) | refine WO.gives l3 rfl rfl rfl rfl rfl rfl rfl rfl rfl (WO.go rfl ?_) | refine WD.gives l3 rfl rfl rfl rfl rfl rfl rfl rfl rfl (WD.go rfl ?_) | refine WO.gives l4 rfl rfl rfl rfl rfl rfl rfl rfl rfl (WO.go rfl ?_) | refine WD.gives l4 rfl rfl rfl rfl rfl rfl rfl rfl rfl (WD.go rfl ?_) | refine WO.givesT htwo rfl rfl rfl rfl rfl rfl rfl rfl rfl (WO.go rfl ?_) | refine WD.givesT htwo rfl rfl rfl rfl rfl rfl rfl rfl rfl (WD.go rfl ?_) | refine WO.append0 rfl rfl rfl rfl rfl rfl rfl rfl rfl (WO.go rfl ?_) | refine WO.appendF (by simp) (by exact lens_ok rfl) (by exact lens_ok rfl) (by first | decide | simp) (by first | decide | simp) rfl rfl rfl rfl rfl rfl rfl rfl rfl rfl (WO.go rfl ?_) | refine WO.appendI (by simp) (by exact lens_ok rfl) (by first | decide | simp) (by first | decide | simp) rfl rfl rfl rfl rfl rfl rfl rfl rfl rfl (WO.go rfl ?_) | refine W.loop ?_ | refine W.exit ?_)
            exact W.ret (.ret [_, _] rfl rfl)
          | some y =>
            refine givesW (fn := Tryz.f160) Tryz.func160 rfl rfl rfl ?_
            repeat (first | (refine WO.gives nw rfl rfl rfl rfl rfl rfl rfl rfl rfl (WO.steps 2 rfl (WO.fix 32 (congrArg AV.bool key) (WO.go rfl ?_)))) | refine W.condT rfl ?_ | refine W.condF rfl ?_ | refine W.seq ?_ | refine W.block ?_ | refine W.skip ?_ | refine WO.nil ?_ | refine WD.nil (WO.go rfl ?_) | refine W.region rfl (WO.go rfl ?_) | refine W.draw (id := 7) 29 [] rfl (by decide +kernel) rfl (WD.go rfl ?_) | refine W.draw (id := 12) 8 [] rfl (by decide +kernel) rfl (WD.go rfl ?_) | refine W.draw (id := 13) 10 [] rfl (by decide +kernel) rfl (WD.go rfl ?_) | refine W.draw (id := 14) 10 [] rfl (by decide +kernel) rfl (WD.go rfl ?_) | refine W.draw (id := 15) 29 [] rfl (by decide +kernel) rfl (WD.go rfl ?_) | refine W.draw (id := 18) 12 [] rfl (by decide +kernel) rfl (WD.go rfl ?_) | refine W.draw (id := 19) 15 [] rfl (by decide +kernel) rfl (WD.go rfl ?_) | refine W.draw (id := 22) 18 [] rfl (by decide +kernel) rfl (WD.go rfl ?_) | refine WO.gives nc rfl rfl rfl rfl rfl rfl rfl rfl rfl (WO.go rfl ?_) | refine WD.gives nc rfl rfl rfl rfl rfl rfl rfl rfl rfl (WD.go rfl ?_) | refine WO.append0 rfl rfl rfl rfl rfl rfl rfl rfl rfl (WO.go rfl ?_) | refine WO.appendF (by simp) (by exact lens_ok rfl) (by exact lens_ok rfl) (by first | decide | simp) (by first | decide | simp) rfl rfl rfl rfl rfl rfl rfl rfl rfl rfl (WO.go rfl ?_) | refine WO.appendI (by simp) (by exact lens_ok rfl) (by first | decide | simp) (by first | decide | simp) rfl rfl rfl rfl rfl rfl rfl rfl rfl rfl (WO.go rfl ?_) | refine W.loop ?_ | refine W.exit ?_)
            refine W.cond rfl (fun h => absurd (h.symm.trans key2) (by decide)) (fun _ => ?_)
            repeat (first | refine W.condT rfl ?_ | refine W.condF rfl ?_ | refine W.seq ?_ | refine W.block ?_ | refine W.skip ?_ | refine WO.nil ?_ | refine WD.nil (WO.go rfl ?_) | refine W.region rfl (WO.go rfl ?_) | refine W.draw (id := 7) 29 [] rfl (by decide +kernel) rfl (WD.go rfl ?_) | refine W.draw (id := 12) 8 [] rfl (by decide +kernel) rfl (WD.go rfl ?_) | refine W.draw (id := 13) 10 [] rfl (by decide +kernel) rfl (WD.go rfl ?_) | refine W.draw (id := 14) 10 [] rfl (by decide +kernel) rfl (WD.go rfl ?_) | refine W.draw (id := 15) 29 [] rfl (by decide +kernel) rfl (WD.go rfl ?_) | refine W.draw (id := 18) 12 [] rfl (by decide +kernel) rfl (WD.go rfl ?_) | refine W.draw (id := 19) 15 [] rfl (by decide +kernel) rfl (WD.go rfl ?_) | refine W.draw (id := 22) 18 [] rfl (by decide +kernel) rfl (WD.go rfl ?_) | refine WO.givesT hk1 rfl rfl rfl rfl rfl rfl rfl rfl rfl (WO.go rfl ?_) | refine WD.givesT hk1 rfl rfl rfl rfl rfl rfl rfl rfl rfl (WD.go rfl ?_) | refine WO.givesT hk2 rfl rfl rfl rfl rfl rfl rfl rfl rfl (WO.go rfl ?_) | refine WD.givesT hk2 rfl rfl rfl rfl rfl rfl rfl rfl rfl (WD.go rfl ?_) | refine WO.gives l1 rfl rfl rfl rfl rfl rfl rfl rfl rfl (WO.go rfl ?_) | refine WD.gives l1 rfl rfl rfl rfl rfl rfl rfl rfl rfl (WD.go rfl ?_) | refine WO.gives l2 rfl rfl rfl rfl rfl rfl rfl rfl rfl (WO.go rfl ?_) | refine WD.gives l2 rfl rfl rfl rfl rfl rfl rfl rfl rfl (WD.go rfl ?_) | refine WO.gives l3 rfl rfl rfl rfl rfl rfl rfl rfl rfl (WO.go rfl ?_) | refine WD.gives l3 rfl rfl rfl rfl rfl rfl rfl rfl rfl (WD.go rfl ?_) | refine WO.gives l4 rfl rfl rfl rfl rfl rfl rfl rfl rfl (WO.go rfl ?_) | refine WD.gives l4 rfl rfl rfl rfl rfl rfl rfl rfl rfl (WD.go rfl ?_) | refine WO.givesT htwo rfl rfl rfl rfl rfl rfl rfl rfl rfl (WO.go rfl ?_) | refine WD.givesT htwo rfl rfl rfl rfl rfl rfl rfl rfl rfl (WD.go rfl ?_) | refine WO.append0 rfl rfl rfl rfl rfl rfl rfl rfl rfl (WO.go rfl ?_) | refine WO.appendF (by simp) (by exact lens_ok rfl) (by exact lens_ok rfl) (by first | decide | simp) (by first | decide | simp) rfl rfl rfl rfl rfl rfl rfl rfl rfl rfl (WO.go rfl ?_) | refine WO.appendI (by simp) (by exact lens_ok rfl) (by first | decide | simp) (by first | decide | simp) rfl rfl rfl rfl rfl rfl rfl rfl rfl rfl (WO.go rfl ?_) | refine W.loop ?_ | refine W.exit ?_)
            exact W.ret (.ret [_, _] rfl rfl)
        · simp only [Fo.size] at hs
          simp only [Fo.bone] at hn
          obtain ⟨hef, heg⟩ := bothE_bi he
          have ef := bothE_get hp.1 hef
          have eg := bothE_get hp.2 heg
          cases ho with
          | bi hof hog =>
          simp only [Fo.both] at hw hc
          simp only [MR]
          rw [if_pos ⟨h1, h2⟩]
          obtain ⟨v, p, hfb⟩ : ∃ v p, f.both = (v, p) := ⟨_, _, rfl⟩
          obtain ⟨u, r, hgb⟩ : ∃ u r, g.both = (u, r) := ⟨_, _, rfl⟩
          rw [hfb] at ef
          rw [hgb] at eg
          simp only [hfb, hgb] at hw hc ⊢
          have hk1 := kinds_W (X := X) f v p hp.1 (by omega) ht.1 ef
          have hk2 := kinds_W (X := X) g u r hp.2 (by omega) ht.2 eg
          have tx := T.left_ty (a := v) (b := r) hc
          have ty := T.right_ty (a := v) (b := r) hc
          have th := T.right_ty (a := Y.fns v u) (b := Y.fns v (Y.fns r p)) hw
          have tg := T.left_ty (a := Y.fns v u) (b := Y.fns v (Y.fns r p)) hw
          have l1 := leftC_W (X := X) v r c
          have l2 := rightC_W (X := X) v r c
          have l3 := leftC_W (X := X) (Y.fns v u) (Y.fns v (Y.fns r p)) w
          have l4 := rightC_W (X := X) (Y.fns v u) (Y.fns v (Y.fns r p)) w
          have z1 := left_size v r c
          have z2 := right_size v r c
          have z3 := left_size (Y.fns v u) (Y.fns v (Y.fns r p)) w
          have z4 := right_size (Y.fns v u) (Y.fns v (Y.fns r p)) w
          have y1 := left_tyLe (a := v) (b := r) hct
          have y2 := right_tyLe (a := v) (b := r) hct
          have y3 := left_tyLe (a := Y.fns v u) (b := Y.fns v (Y.fns r p)) hwt
          have y4 := right_tyLe (a := Y.fns v u) (b := Y.fns v (Y.fns r p)) hwt
          have f1 := funC_W (X := X) r p
          have f2 := funC_W (X := X) v u
          have f3 := funC_W (X := X) v (Y.fns r p)
          generalize T.left v r c = x at *
          generalize T.right v r c = y at *
          generalize T.left (Y.fns v u) (Y.fns v (Y.fns r p)) w = gg at *
          generalize T.right (Y.fns v u) (Y.fns v (Y.fns r p)) w = hh at *
          have t1 := T.call_ty th tx
          have t2 := T.call_ty t1 ty
          have t3 := T.call_ty tg tx
          have c1 := callC_W (X := X) v (Y.fns r p) hh x
          have c2 := callC_W (X := X) r p (T.call v (Y.fns r p) hh x) y
          have c3 := callC_W (X := X) v u gg x
          have z5 := call_size v (Y.fns r p) hh x
          have z6 := call_size r p (T.call v (Y.fns r p) hh x) y
          have z7 := call_size v u gg x
          have y5 := call_tyLe (a := v) (b := Y.fns r p) y4 y1
          have y6 := call_tyLe (a := r) (b := p) y5 y2
          have y7 := call_tyLe (a := v) (b := u) y3 y1
          generalize T.call v (Y.fns r p) hh x = k1 at *
          generalize T.call r p k1 y = k2 at *
          generalize T.call v u gg x = k3 at *
          generalize Y.fns v (Y.fns r p) = s1 at *
          generalize Y.fns r p = s2 at *
          generalize Y.fns v u = s3 at *
          have i1 := ih f x k2 m G (by omega) hp.1 hef hof (by rw [hfb]; exact tx) (by rw [hfb]; exact t2) (by omega) ht.1 y1 y6 (by omega) (by omega) hG
          have i2 := ih g k3 y m G (by omega) hp.2 heg hog (by rw [hgb]; exact t3) (by rw [hgb]; exact ty) (by omega) ht.2 y7 y2 (by omega) (by omega) hG
          have htwo := twoM_W (X := X) .im f g _ _ _ _ _ _ i1 i2 (fun x hx => (MR_M hx).2 (by omega)) (fun x hx => (MR_M hx).2 (by omega))
          revert htwo
          generalize twoR _ _ _ = RR
          intro htwo
          clear i1 i2
          cases RR with
          | none =>
            refine givesW (fn := Tryz.f160) Tryz.func160 rfl rfl rfl ?_
            repeat (first | (refine WO.gives nw rfl rfl rfl rfl rfl rfl rfl rfl rfl (WO.steps 2 rfl (WO.fix 32 (congrArg AV.bool key) (WO.go rfl ?_)))) | refine W.condT rfl ?_ | refine W.condF rfl ?_ | refine W.seq ?_ | refine W.block ?_ | refine W.skip ?_ | refine WO.nil ?_ | refine WD.nil (WO.go rfl ?_) | refine W.region rfl (WO.go rfl ?_) | refine W.draw (id := 7) 29 [] rfl (by decide +kernel) rfl (WD.go rfl ?_) | refine W.draw (id := 12) 8 [] rfl (by decide +kernel) rfl (WD.go rfl ?_) | refine W.draw (id := 13) 10 [] rfl (by decide +kernel) rfl (WD.go rfl ?_) | refine W.draw (id := 14) 10 [] rfl (by decide +kernel) rfl (WD.go rfl ?_) | refine W.draw (id := 15) 29 [] rfl (by decide +kernel) rfl (WD.go rfl ?_) | refine W.draw (id := 18) 12 [] rfl (by decide +kernel) rfl (WD.go rfl ?_) | refine W.draw (id := 19) 15 [] rfl (by decide +kernel) rfl (WD.go rfl ?_) | refine W.draw (id := 22) 18 [] rfl (by decide +kernel) rfl (WD.go rfl ?_) | refine WO.gives nc rfl rfl rfl rfl rfl rfl rfl rfl rfl (WO.go rfl ?_) | refine WD.gives nc rfl rfl rfl rfl rfl rfl rfl rfl rfl (WD.go rfl ?_) | refine WO.append0 rfl rfl rfl rfl rfl rfl rfl rfl rfl (WO.go rfl ?_) | refine WO.appendF (by simp) (by exact lens_ok rfl) (by exact lens_ok rfl) (by first | decide | simp) (by first | decide | simp) rfl rfl rfl rfl rfl rfl rfl rfl rfl rfl (WO.go rfl ?_) | refine WO.appendI (by simp) (by exact lens_ok rfl) (by first | decide | simp) (by first | decide | simp) rfl rfl rfl rfl rfl rfl rfl rfl rfl rfl (WO.go rfl ?_) | refine W.loop ?_ | refine W.exit ?_)
            refine W.cond rfl (fun h => absurd (h.symm.trans key2) (by decide)) (fun _ => ?_)
            repeat (first | refine W.condT rfl ?_ | refine W.condF rfl ?_ | refine W.seq ?_ | refine W.block ?_ | refine W.skip ?_ | refine WO.nil ?_ | refine WD.nil (WO.go rfl ?_) | refine W.region rfl (WO.go rfl ?_) | refine W.draw (id := 7) 29 [] rfl (by decide +kernel) rfl (WD.go rfl ?_) | refine W.draw (id := 12) 8 [] rfl (by decide +kernel) rfl (WD.go rfl ?_) | refine W.draw (id := 13) 10 [] rfl (by decide +kernel) rfl (WD.go rfl ?_) | refine W.draw (id := 14) 10 [] rfl (by decide +kernel) rfl (WD.go rfl ?_) | refine W.draw (id := 15) 29 [] rfl (by decide +kernel) rfl (WD.go rfl ?_) | refine W.draw (id := 18) 12 [] rfl (by decide +kernel) rfl (WD.go rfl ?_) | refine W.draw (id := 19) 15 [] rfl (by decide +kernel) rfl (WD.go rfl ?_) | refine W.draw (id := 22) 18 [] rfl (by decide +kernel) rfl (WD.go rfl ?_) | refine WO.givesT hk1 rfl rfl rfl rfl rfl rfl rfl rfl rfl (WO.go rfl ?_) | refine WD.givesT hk1 rfl rfl rfl rfl rfl rfl rfl rfl rfl (WD.go rfl ?_) | refine WO.givesT hk2 rfl rfl rfl rfl rfl rfl rfl rfl rfl (WO.go rfl ?_) | refine WD.givesT hk2 rfl rfl rfl rfl rfl rfl rfl rfl rfl (WD.go rfl ?_) | refine WO.gives f1 rfl rfl rfl rfl rfl rfl rfl rfl rfl (WO.go rfl ?_) | refine WD.gives f1 rfl rfl rfl rfl rfl rfl rfl rfl rfl (WD.go rfl ?_) | refine WO.gives f2 rfl rfl rfl rfl rfl rfl rfl rfl rfl (WO.go rfl ?_) | refine WD.gives f2 rfl rfl rfl rfl rfl rfl rfl rfl rfl (WD.go rfl ?_) | refine WO.gives f3 rfl rfl rfl rfl rfl rfl rfl rfl rfl (WO.go rfl ?_) | refine WD.gives f3 rfl rfl rfl rfl rfl rfl rfl rfl rfl (WD.go rfl ?_) | refine WO.gives l1 rfl rfl rfl rfl rfl rfl rfl rfl rfl (WO.go rfl ?_) | refine WD.gives l1 rfl rfl rfl rfl rfl rfl rfl rfl rfl (WD.go rfl ?_) | refine WO.gives l2 rfl rfl rfl rfl rfl rfl rfl rfl rfl (WO.go rfl ?_) | refine WD.gives l2 rfl rfl rfl rfl rfl rfl rfl rfl rfl (WD.go rfl ?_) | refine WO.gives l3 rfl rfl rfl rfl rfl rfl rfl rfl rfl (WO.go rfl ?_) | refine WD.gives l3 rfl rfl rfl rfl rfl rfl rfl rfl rfl (WD.go rfl ?_) | refine WO.gives l4 rfl rfl rfl rfl rfl rfl rfl rfl rfl (WO.go rfl ?_) | refine WD.gives l4 rfl rfl rfl rfl rfl rfl rfl rfl rfl (WD.go rfl ?_) | refine WO.gives c1 rfl rfl rfl rfl rfl rfl rfl rfl rfl (WO.go rfl ?_) | refine WD.gives c1 rfl rfl rfl rfl rfl rfl rfl rfl rfl (WD.go rfl ?_) | refine WO.gives c2 rfl rfl rfl rfl rfl rfl rfl rfl rfl (WO.go rfl ?_) | refine WD.gives c2 rfl rfl rfl rfl rfl rfl rfl rfl rfl (WD.go rfl ?_) | refine WO.gives c3 rfl rfl rfl rfl rfl rfl rfl rfl rfl (WO.go rfl ?_) | refine WD.gives c3 rfl rfl rfl rfl rfl rfl rfl rfl rfl (WD.go rfl ?_) | refine WO.givesT htwo rfl rfl rfl rfl rfl rfl rfl rfl rfl (WO.go rfl ?_) | refine WD.givesT htwo rfl rfl rfl rfl rfl rfl rfl rfl rfl (WD.go rfl ?_) | refine WO.append0 rfl rfl rfl rfl rfl rfl rfl rfl rfl (WO.go rfl ?_) | refine WO.appendF (by simp) (by exact lens_ok rfl) (by exact lens_ok rfl) (by first | decide | simp) (by first | decide | simp) rfl rfl rfl rfl rfl rfl rfl rfl rfl rfl (WO.go rfl ?_) | refine WO.appendI (by simp) (by exact lens_ok rfl) (by first | decide | simp) (by first | decide | simp) rfl rfl rfl rfl rfl rfl rfl rfl rfl rfl (WO.go rfl ?_) | refine W.loop ?_ | refine W.exit ?_)
            exact W.ret (.ret [_, _] rfl rfl)
          | some y =>
            refine givesW (fn := Tryz.f160) Tryz.func160 rfl rfl rfl ?_
            repeat (first | (refine WO.gives nw rfl rfl rfl rfl rfl rfl rfl rfl rfl (WO.steps 2 rfl (WO.fix 32 (congrArg AV.bool key) (WO.go rfl ?_)))) | refine W.condT rfl ?_ | refine W.condF rfl ?_ | refine W.seq ?_ | refine W.block ?_ | refine W.skip ?_ | refine WO.nil ?_ | refine WD.nil (WO.go rfl ?_) | refine W.region rfl (WO.go rfl ?_) | refine W.draw (id := 7) 29 [] rfl (by decide +kernel) rfl (WD.go rfl ?_) | refine W.draw (id := 12) 8 [] rfl (by decide +kernel) rfl (WD.go rfl ?_) | refine W.draw (id := 13) 10 [] rfl (by decide +kernel) rfl (WD.go rfl ?_) | refine W.draw (id := 14) 10 [] rfl (by decide +kernel) rfl (WD.go rfl ?_) | refine W.draw (id := 15) 29 [] rfl (by decide +kernel) rfl (WD.go rfl ?_) | refine W.draw (id := 18) 12 [] rfl (by decide +kernel) rfl (WD.go rfl ?_) | refine W.draw (id := 19) 15 [] rfl (by decide +kernel) rfl (WD.go rfl ?_) | refine W.draw (id := 22) 18 [] rfl (by decide +kernel) rfl (WD.go rfl ?_) | refine WO.gives nc rfl rfl rfl rfl rfl rfl rfl rfl rfl (WO.go rfl ?_) | refine WD.gives nc rfl rfl rfl rfl rfl rfl rfl rfl rfl (WD.go rfl ?_) | refine WO.append0 rfl rfl rfl rfl rfl rfl rfl rfl rfl (WO.go rfl ?_) | refine WO.appendF (by simp) (by exact lens_ok rfl) (by exact lens_ok rfl) (by first | decide | simp) (by first | decide | simp) rfl rfl rfl rfl rfl rfl rfl rfl rfl rfl (WO.go rfl ?_) | refine WO.appendI (by simp) (by exact lens_ok rfl) (by first | decide | simp) (by first | decide | simp) rfl rfl rfl rfl rfl rfl rfl rfl rfl rfl (WO.go rfl ?_) | refine W.loop ?_ | refine W.exit ?_)
            refine W.cond rfl (fun h => absurd (h.symm.trans key2) (by decide)) (fun _ => ?_)
            repeat (first | refine W.condT rfl ?_ | refine W.condF rfl ?_ | refine W.seq ?_ | refine W.block ?_ | refine W.skip ?_ | refine WO.nil ?_ | refine WD.nil (WO.go rfl ?_) | refine W.region rfl (WO.go rfl ?_) | refine W.draw (id := 7) 29 [] rfl (by decide +kernel) rfl (WD.go rfl ?_) | refine W.draw (id := 12) 8 [] rfl (by decide +kernel) rfl (WD.go rfl ?_) | refine W.draw (id := 13) 10 [] rfl (by decide +kernel) rfl (WD.go rfl ?_) | refine W.draw (id := 14) 10 [] rfl (by decide +kernel) rfl (WD.go rfl ?_) | refine W.draw (id := 15) 29 [] rfl (by decide +kernel) rfl (WD.go rfl ?_) | refine W.draw (id := 18) 12 [] rfl (by decide +kernel) rfl (WD.go rfl ?_) | refine W.draw (id := 19) 15 [] rfl (by decide +kernel) rfl (WD.go rfl ?_) | refine W.draw (id := 22) 18 [] rfl (by decide +kernel) rfl (WD.go rfl ?_) | refine WO.givesT hk1 rfl rfl rfl rfl rfl rfl rfl rfl rfl (WO.go rfl ?_) | refine WD.givesT hk1 rfl rfl rfl rfl rfl rfl rfl rfl rfl (WD.go rfl ?_) | refine WO.givesT hk2 rfl rfl rfl rfl rfl rfl rfl rfl rfl (WO.go rfl ?_) | refine WD.givesT hk2 rfl rfl rfl rfl rfl rfl rfl rfl rfl (WD.go rfl ?_) | refine WO.gives f1 rfl rfl rfl rfl rfl rfl rfl rfl rfl (WO.go rfl ?_) | refine WD.gives f1 rfl rfl rfl rfl rfl rfl rfl rfl rfl (WD.go rfl ?_) | refine WO.gives f2 rfl rfl rfl rfl rfl rfl rfl rfl rfl (WO.go rfl ?_) | refine WD.gives f2 rfl rfl rfl rfl rfl rfl rfl rfl rfl (WD.go rfl ?_) | refine WO.gives f3 rfl rfl rfl rfl rfl rfl rfl rfl rfl (WO.go rfl ?_) | refine WD.gives f3 rfl rfl rfl rfl rfl rfl rfl rfl rfl (WD.go rfl ?_) | refine WO.gives l1 rfl rfl rfl rfl rfl rfl rfl rfl rfl (WO.go rfl ?_) | refine WD.gives l1 rfl rfl rfl rfl rfl rfl rfl rfl rfl (WD.go rfl ?_) | refine WO.gives l2 rfl rfl rfl rfl rfl rfl rfl rfl rfl (WO.go rfl ?_) | refine WD.gives l2 rfl rfl rfl rfl rfl rfl rfl rfl rfl (WD.go rfl ?_) | refine WO.gives l3 rfl rfl rfl rfl rfl rfl rfl rfl rfl (WO.go rfl ?_) | refine WD.gives l3 rfl rfl rfl rfl rfl rfl rfl rfl rfl (WD.go rfl ?_) | refine WO.gives l4 rfl rfl rfl rfl rfl rfl rfl rfl rfl (WO.go rfl ?_) | refine WD.gives l4 rfl rfl rfl rfl rfl rfl rfl rfl rfl (WD.go rfl ?_) | refine WO.gives c1 rfl rfl rfl rfl rfl rfl rfl rfl rfl (WO.go rfl ?_) | refine WD.gives c1 rfl rfl rfl rfl rfl rfl rfl rfl rfl (WD.go rfl ?_) | refine WO.gives c2 rfl rfl rfl rfl rfl rfl rfl rfl rfl (WO.go rfl ?_) | refine WD.gives c2 rfl rfl rfl rfl rfl rfl rfl rfl rfl (WD.go rfl ?_) | refine WO.gives c3 rfl rfl rfl rfl rfl rfl rfl rfl rfl (WO.go rfl ?_) | refine WD.gives c3 rfl rfl rfl rfl rfl rfl rfl rfl rfl (WD.go rfl ?_) | refine WO.givesT htwo rfl rfl rfl rfl rfl rfl rfl rfl rfl (WO.go rfl ?_) | refine WD.givesT htwo rfl rfl rfl rfl rfl rfl rfl rfl rfl (WD.go rfl ?_) | refine WO.append0 rfl rfl rfl rfl rfl rfl rfl rfl rfl (WO.go rfl ?_) | refine WO.appendF (by simp) (by exact lens_ok rfl) (by exact lens_ok rfl) (by first | decide | simp) (by first | decide | simp) rfl rfl rfl rfl rfl rfl rfl rfl rfl rfl (WO.go rfl ?_) | refine WO.appendI (by simp) (by exact lens_ok rfl) (by first | decide | simp) (by first | decide | simp) rfl rfl rfl rfl rfl rfl rfl rfl rfl rfl (WO.go rfl ?_) | refine W.loop ?_ | refine W.exit ?_)
            exact W.ret (.ret [_, _] rfl rfl)
        · simp only [Fo.size] at hs
          simp only [Fo.bone] at hn
          have hef := bothE_q he
          have ef := bothE_get hp.2 hef
          cases ho with
          | q hof =>
          simp only [Fo.both] at hw hc
          simp only [MR]
          rw [if_pos ⟨h1, h2⟩]
          obtain ⟨v, p, hfb⟩ : ∃ v p, f.both = (v, p) := ⟨_, _, rfl⟩
          rw [hfb] at ef
          simp only [hfb] at hw hc ⊢
          have hk1 := kinds_W (X := X) f v p hp.2 (by omega) ht.2 ef
          have hfl : f.le 1000000000 := Fo.le_of_ok hof (by simp only [List.length_cons]; omega)
          have tx := T.left_ty (a := s) (b := p) hc
          have ty := T.right_ty (a := s) (b := p) hc
          have z1 := left_size s p c
          have z2 := right_size s p c
          have y1 := left_tyLe (a := s) (b := p) hct
          have y2 := right_tyLe (a := s) (b := p) hct
          have l1 := leftC_W (X := X) s p c
          have l2 := rightC_W (X := X) s p c
          generalize T.left s p c = x at *
          generalize T.right s p c = y at *
          have t1 := T.call_ty hw tx
          have c1 := callC_W (X := X) s v w x
          have z3 := call_size s v w x
          have y3 := call_tyLe (a := s) (b := v) hwt y1
          generalize T.call s v w x = k1 at *
          have hxl : x.le 1000000000 := T.le_mono (T.le_of_sc tx.sc) (by omega)
          have hwi := withM_W (X := X) f x k1 y (MR n (Fo.put 0 x f) k1 y) (by omega) hfl (by omega) hxl (fun _ hps => ih (Fo.put 0 x f) k1 y m G (by rw [Fo.bone_put]; omega) (Fo.pure_put _ _ _ hp.2) (by rw [Fo.bothE_put]; exact hef) (Fo.Ok.put0 hof tx) (by rw [Fo.both_put, hfb]; exact t1) (by rw [Fo.both_put, hfb]; exact ty) hps (Fo.tyLe_put y1 ht.2 0) y3 y2 (by omega) (by omega) hG)
          revert hwi
          generalize putR _ _ _ = RR
          intro hwi
          cases RR with
          | none =>
            refine givesW (fn := Tryz.f160) Tryz.func160 rfl rfl rfl ?_
            repeat (first | (refine WO.gives nw rfl rfl rfl rfl rfl rfl rfl rfl rfl (WO.steps 2 rfl (WO.fix 32 (congrArg AV.bool key) (WO.go rfl ?_)))) | refine W.condT rfl ?_ | refine W.condF rfl ?_ | refine W.seq ?_ | refine W.block ?_ | refine W.skip ?_ | refine WO.nil ?_ | refine WD.nil (WO.go rfl ?_) | refine W.region rfl (WO.go rfl ?_) | refine W.draw (id := 7) 29 [] rfl (by decide +kernel) rfl (WD.go rfl ?_) | refine W.draw (id := 12) 8 [] rfl (by decide +kernel) rfl (WD.go rfl ?_) | refine W.draw (id := 13) 10 [] rfl (by decide +kernel) rfl (WD.go rfl ?_) | refine W.draw (id := 14) 10 [] rfl (by decide +kernel) rfl (WD.go rfl ?_) | refine W.draw (id := 15) 29 [] rfl (by decide +kernel) rfl (WD.go rfl ?_) | refine W.draw (id := 18) 12 [] rfl (by decide +kernel) rfl (WD.go rfl ?_) | refine W.draw (id := 19) 15 [] rfl (by decide +kernel) rfl (WD.go rfl ?_) | refine W.draw (id := 22) 18 [] rfl (by decide +kernel) rfl (WD.go rfl ?_) | refine WO.gives nc rfl rfl rfl rfl rfl rfl rfl rfl rfl (WO.go rfl ?_) | refine WD.gives nc rfl rfl rfl rfl rfl rfl rfl rfl rfl (WD.go rfl ?_) | refine WO.append0 rfl rfl rfl rfl rfl rfl rfl rfl rfl (WO.go rfl ?_) | refine WO.appendF (by simp) (by exact lens_ok rfl) (by exact lens_ok rfl) (by first | decide | simp) (by first | decide | simp) rfl rfl rfl rfl rfl rfl rfl rfl rfl rfl (WO.go rfl ?_) | refine WO.appendI (by simp) (by exact lens_ok rfl) (by first | decide | simp) (by first | decide | simp) rfl rfl rfl rfl rfl rfl rfl rfl rfl rfl (WO.go rfl ?_) | refine W.loop ?_ | refine W.exit ?_)
            refine W.cond rfl (fun h => absurd (h.symm.trans key2) (by decide)) (fun _ => ?_)
            repeat (first | refine W.condT rfl ?_ | refine W.condF rfl ?_ | refine W.seq ?_ | refine W.block ?_ | refine W.skip ?_ | refine WO.nil ?_ | refine WD.nil (WO.go rfl ?_) | refine W.region rfl (WO.go rfl ?_) | refine W.draw (id := 7) 29 [] rfl (by decide +kernel) rfl (WD.go rfl ?_) | refine W.draw (id := 12) 8 [] rfl (by decide +kernel) rfl (WD.go rfl ?_) | refine W.draw (id := 13) 10 [] rfl (by decide +kernel) rfl (WD.go rfl ?_) | refine W.draw (id := 14) 10 [] rfl (by decide +kernel) rfl (WD.go rfl ?_) | refine W.draw (id := 15) 29 [] rfl (by decide +kernel) rfl (WD.go rfl ?_) | refine W.draw (id := 18) 12 [] rfl (by decide +kernel) rfl (WD.go rfl ?_) | refine W.draw (id := 19) 15 [] rfl (by decide +kernel) rfl (WD.go rfl ?_) | refine W.draw (id := 22) 18 [] rfl (by decide +kernel) rfl (WD.go rfl ?_) | refine WO.givesT hk1 rfl rfl rfl rfl rfl rfl rfl rfl rfl (WO.go rfl ?_) | refine WD.givesT hk1 rfl rfl rfl rfl rfl rfl rfl rfl rfl (WD.go rfl ?_) | refine WO.gives l1 rfl rfl rfl rfl rfl rfl rfl rfl rfl (WO.go rfl ?_) | refine WD.gives l1 rfl rfl rfl rfl rfl rfl rfl rfl rfl (WD.go rfl ?_) | refine WO.gives l2 rfl rfl rfl rfl rfl rfl rfl rfl rfl (WO.go rfl ?_) | refine WD.gives l2 rfl rfl rfl rfl rfl rfl rfl rfl rfl (WD.go rfl ?_) | refine WO.gives c1 rfl rfl rfl rfl rfl rfl rfl rfl rfl (WO.go rfl ?_) | refine WD.gives c1 rfl rfl rfl rfl rfl rfl rfl rfl rfl (WD.go rfl ?_) | refine WO.givesT hwi rfl rfl rfl rfl rfl rfl rfl rfl rfl (WO.go rfl ?_) | refine WD.givesT hwi rfl rfl rfl rfl rfl rfl rfl rfl rfl (WD.go rfl ?_) | refine WO.append0 rfl rfl rfl rfl rfl rfl rfl rfl rfl (WO.go rfl ?_) | refine WO.appendF (by simp) (by exact lens_ok rfl) (by exact lens_ok rfl) (by first | decide | simp) (by first | decide | simp) rfl rfl rfl rfl rfl rfl rfl rfl rfl rfl (WO.go rfl ?_) | refine WO.appendI (by simp) (by exact lens_ok rfl) (by first | decide | simp) (by first | decide | simp) rfl rfl rfl rfl rfl rfl rfl rfl rfl rfl (WO.go rfl ?_) | refine W.loop ?_ | refine W.exit ?_)
            exact W.ret (.ret [_, _] rfl rfl)
          | some y =>
            refine givesW (fn := Tryz.f160) Tryz.func160 rfl rfl rfl ?_
            repeat (first | (refine WO.gives nw rfl rfl rfl rfl rfl rfl rfl rfl rfl (WO.steps 2 rfl (WO.fix 32 (congrArg AV.bool key) (WO.go rfl ?_)))) | refine W.condT rfl ?_ | refine W.condF rfl ?_ | refine W.seq ?_ | refine W.block ?_ | refine W.skip ?_ | refine WO.nil ?_ | refine WD.nil (WO.go rfl ?_) | refine W.region rfl (WO.go rfl ?_) | refine W.draw (id := 7) 29 [] rfl (by decide +kernel) rfl (WD.go rfl ?_) | refine W.draw (id := 12) 8 [] rfl (by decide +kernel) rfl (WD.go rfl ?_) | refine W.draw (id := 13) 10 [] rfl (by decide +kernel) rfl (WD.go rfl ?_) | refine W.draw (id := 14) 10 [] rfl (by decide +kernel) rfl (WD.go rfl ?_) | refine W.draw (id := 15) 29 [] rfl (by decide +kernel) rfl (WD.go rfl ?_) | refine W.draw (id := 18) 12 [] rfl (by decide +kernel) rfl (WD.go rfl ?_) | refine W.draw (id := 19) 15 [] rfl (by decide +kernel) rfl (WD.go rfl ?_) | refine W.draw (id := 22) 18 [] rfl (by decide +kernel) rfl (WD.go rfl ?_) | refine WO.gives nc rfl rfl rfl rfl rfl rfl rfl rfl rfl (WO.go rfl ?_) | refine WD.gives nc rfl rfl rfl rfl rfl rfl rfl rfl rfl (WD.go rfl ?_) | refine WO.append0 rfl rfl rfl rfl rfl rfl rfl rfl rfl (WO.go rfl ?_) | refine WO.appendF (by simp) (by exact lens_ok rfl) (by exact lens_ok rfl) (by first | decide | simp) (by first | decide | simp) rfl rfl rfl rfl rfl rfl rfl rfl rfl rfl (WO.go rfl ?_) | refine WO.appendI (by simp) (by exact lens_ok rfl) (by first | decide | simp) (by first | decide | simp) rfl rfl rfl rfl rfl rfl rfl rfl rfl rfl (WO.go rfl ?_) | refine W.loop ?_ | refine W.exit ?_)
            refine W.cond rfl (fun h => absurd (h.symm.trans key2) (by decide)) (fun _ => ?_)
            repeat (first | refine W.condT rfl ?_ | refine W.condF rfl ?_ | refine W.seq ?_ | refine W.block ?_ | refine W.skip ?_ | refine WO.nil ?_ | refine WD.nil (WO.go rfl ?_) | refine W.region rfl (WO.go rfl ?_) | refine W.draw (id := 7) 29 [] rfl (by decide +kernel) rfl (WD.go rfl ?_) | refine W.draw (id := 12) 8 [] rfl (by decide +kernel) rfl (WD.go rfl ?_) | refine W.draw (id := 13) 10 [] rfl (by decide +kernel) rfl (WD.go rfl ?_) | refine W.draw (id := 14) 10 [] rfl (by decide +kernel) rfl (WD.go rfl ?_) | refine W.draw (id := 15) 29 [] rfl (by decide +kernel) rfl (WD.go rfl ?_) | refine W.draw (id := 18) 12 [] rfl (by decide +kernel) rfl (WD.go rfl ?_) | refine W.draw (id := 19) 15 [] rfl (by decide +kernel) rfl (WD.go rfl ?_) | refine W.draw (id := 22) 18 [] rfl (by decide +kernel) rfl (WD.go rfl ?_) | refine WO.givesT hk1 rfl rfl rfl rfl rfl rfl rfl rfl rfl (WO.go rfl ?_) | refine WD.givesT hk1 rfl rfl rfl rfl rfl rfl rfl rfl rfl (WD.go rfl ?_) | refine WO.gives l1 rfl rfl rfl rfl rfl rfl rfl rfl rfl (WO.go rfl ?_) | refine WD.gives l1 rfl rfl rfl rfl rfl rfl rfl rfl rfl (WD.go rfl ?_) | refine WO.gives l2 rfl rfl rfl rfl rfl rfl rfl rfl rfl (WO.go rfl ?_) | refine WD.gives l2 rfl rfl rfl rfl rfl rfl rfl rfl rfl (WD.go rfl ?_) | refine WO.gives c1 rfl rfl rfl rfl rfl rfl rfl rfl rfl (WO.go rfl ?_) | refine WD.gives c1 rfl rfl rfl rfl rfl rfl rfl rfl rfl (WD.go rfl ?_) | refine WO.givesT hwi rfl rfl rfl rfl rfl rfl rfl rfl rfl (WO.go rfl ?_) | refine WD.givesT hwi rfl rfl rfl rfl rfl rfl rfl rfl rfl (WD.go rfl ?_) | refine WO.append0 rfl rfl rfl rfl rfl rfl rfl rfl rfl (WO.go rfl ?_) | refine WO.appendF (by simp) (by exact lens_ok rfl) (by exact lens_ok rfl) (by first | decide | simp) (by first | decide | simp) rfl rfl rfl rfl rfl rfl rfl rfl rfl rfl (WO.go rfl ?_) | refine WO.appendI (by simp) (by exact lens_ok rfl) (by first | decide | simp) (by first | decide | simp) rfl rfl rfl rfl rfl rfl rfl rfl rfl rfl (WO.go rfl ?_) | refine W.loop ?_ | refine W.exit ?_)
            exact W.ret (.ret [_, _] rfl rfl)
        · simp only [Fo.size] at hs
          simp only [Fo.bone] at hn
          have hef := bothE_q he
          have ef := bothE_get hp.2 hef
          cases ho with
          | q hof =>
          simp only [Fo.both] at hw hc
          simp only [MR]
          rw [if_pos ⟨h1, h2⟩]
          obtain ⟨v, p, hfb⟩ : ∃ v p, f.both = (v, p) := ⟨_, _, rfl⟩
          rw [hfb] at ef
          simp only [hfb] at hw hc ⊢
          have hk1 := kinds_W (X := X) f v p hp.2 (by omega) ht.2 ef
          have hfl : f.le 1000000000 := Fo.le_of_ok hof (by simp only [List.length_cons]; omega)
          have tx := T.left_ty (a := s) (b := v) hw
          have ty := T.right_ty (a := s) (b := v) hw
          have z1 := left_size s v w
          have z2 := right_size s v w
          have y1 := left_tyLe (a := s) (b := v) hwt
          have y2 := right_tyLe (a := s) (b := v) hwt
          have l1 := leftC_W (X := X) s v w
          have l2 := rightC_W (X := X) s v w
          generalize T.left s v w = x at *
          generalize T.right s v w = y at *
          have hxl : x.le 1000000000 := T.le_mono (T.le_of_sc tx.sc) (by omega)
          have hwi := withM_W (X := X) f x y c (MR n (Fo.put 0 x f) y c) (by omega) hfl (by omega) hxl (fun _ hps => ih (Fo.put 0 x f) y c m G (by rw [Fo.bone_put]; omega) (Fo.pure_put _ _ _ hp.2) (by rw [Fo.bothE_put]; exact hef) (Fo.Ok.put0 hof tx) (by rw [Fo.both_put, hfb]; exact ty) (by rw [Fo.both_put, hfb]; exact hc) hps (Fo.tyLe_put y1 ht.2 0) y2 hct (by omega) (by omega) hG)
          revert hwi
          generalize putR _ _ _ = RR
          intro hwi
          cases RR with
          | none =>
            refine givesW (fn := Tryz.f160) Tryz.func160 rfl rfl rfl ?_
            repeat (first | (refine WO.gives nw rfl rfl rfl rfl rfl rfl rfl rfl rfl (WO.steps 2 rfl (WO.fix 32 (congrArg AV.bool key) (WO.go rfl ?_)))) | refine W.condT rfl ?_ | refine W.condF rfl ?_ | refine W.seq ?_ | refine W.block ?_ | refine W.skip ?_ | refine WO.nil ?_ | refine WD.nil (WO.go rfl ?_) | refine W.region rfl (WO.go rfl ?_) | refine W.draw (id := 7) 29 [] rfl (by decide +kernel) rfl (WD.go rfl ?_) | refine W.draw (id := 12) 8 [] rfl (by decide +kernel) rfl (WD.go rfl ?_) | refine W.draw (id := 13) 10 [] rfl (by decide +kernel) rfl (WD.go rfl ?_) | refine W.draw (id := 14) 10 [] rfl (by decide +kernel) rfl (WD.go rfl ?_) | refine W.draw (id := 15) 29 [] rfl (by decide +kernel) rfl (WD.go rfl ?_) | refine W.draw (id := 18) 12 [] rfl (by decide +kernel) rfl (WD.go rfl ?_) | refine W.draw (id := 19) 15 [] rfl (by decide +kernel) rfl (WD.go rfl ?_) | refine W.draw (id := 22) 18 [] rfl (by decide +kernel) rfl (WD.go rfl ?_) | refine WO.gives nc rfl rfl rfl rfl rfl rfl rfl rfl rfl (WO.go rfl ?_) | refine WD.gives nc rfl rfl rfl rfl rfl rfl rfl rfl rfl (WD.go rfl ?_) | refine WO.append0 rfl rfl rfl rfl rfl rfl rfl rfl rfl (WO.go rfl ?_) | refine WO.appendF (by simp) (by exact lens_ok rfl) (by exact lens_ok rfl) (by first | decide | simp) (by first | decide | simp) rfl rfl rfl rfl rfl rfl rfl rfl rfl rfl (WO.go rfl ?_) | refine WO.appendI (by simp) (by exact lens_ok rfl) (by first | decide | simp) (by first | decide | simp) rfl rfl rfl rfl rfl rfl rfl rfl rfl rfl (WO.go rfl ?_) | refine W.loop ?_ | refine W.exit ?_)
            refine W.cond rfl (fun h => absurd (h.symm.trans key2) (by decide)) (fun _ => ?_)
            repeat (first | refine W.condT rfl ?_ | refine W.condF rfl ?_ | refine W.seq ?_ | refine W.block ?_ | refine W.skip ?_ | refine WO.nil ?_ | refine WD.nil (WO.go rfl ?_) | refine W.region rfl (WO.go rfl ?_) | refine W.draw (id := 7) 29 [] rfl (by decide +kernel) rfl (WD.go rfl ?_) | refine W.draw (id := 12) 8 [] rfl (by decide +kernel) rfl (WD.go rfl ?_) | refine W.draw (id := 13) 10 [] rfl (by decide +kernel) rfl (WD.go rfl ?_) | refine W.draw (id := 14) 10 [] rfl (by decide +kernel) rfl (WD.go rfl ?_) | refine W.draw (id := 15) 29 [] rfl (by decide +kernel) rfl (WD.go rfl ?_) | refine W.draw (id := 18) 12 [] rfl (by decide +kernel) rfl (WD.go rfl ?_) | refine W.draw (id := 19) 15 [] rfl (by decide +kernel) rfl (WD.go rfl ?_) | refine W.draw (id := 22) 18 [] rfl (by decide +kernel) rfl (WD.go rfl ?_) | refine WO.givesT hk1 rfl rfl rfl rfl rfl rfl rfl rfl rfl (WO.go rfl ?_) | refine WD.givesT hk1 rfl rfl rfl rfl rfl rfl rfl rfl rfl (WD.go rfl ?_) | refine WO.gives l1 rfl rfl rfl rfl rfl rfl rfl rfl rfl (WO.go rfl ?_) | refine WD.gives l1 rfl rfl rfl rfl rfl rfl rfl rfl rfl (WD.go rfl ?_) | refine WO.gives l2 rfl rfl rfl rfl rfl rfl rfl rfl rfl (WO.go rfl ?_) | refine WD.gives l2 rfl rfl rfl rfl rfl rfl rfl rfl rfl (WD.go rfl ?_) | refine WO.givesT hwi rfl rfl rfl rfl rfl rfl rfl rfl rfl (WO.go rfl ?_) | refine WD.givesT hwi rfl rfl rfl rfl rfl rfl rfl rfl rfl (WD.go rfl ?_) | refine WO.append0 rfl rfl rfl rfl rfl rfl rfl rfl rfl (WO.go rfl ?_) | refine WO.appendF (by simp) (by exact lens_ok rfl) (by exact lens_ok rfl) (by first | decide | simp) (by first | decide | simp) rfl rfl rfl rfl rfl rfl rfl rfl rfl rfl (WO.go rfl ?_) | refine WO.appendI (by simp) (by exact lens_ok rfl) (by first | decide | simp) (by first | decide | simp) rfl rfl rfl rfl rfl rfl rfl rfl rfl rfl (WO.go rfl ?_) | refine W.loop ?_ | refine W.exit ?_)
            exact W.ret (.ret [_, _] rfl rfl)
          | some y =>
            refine givesW (fn := Tryz.f160) Tryz.func160 rfl rfl rfl ?_
            repeat (first | (refine WO.gives nw rfl rfl rfl rfl rfl rfl rfl rfl rfl (WO.steps 2 rfl (WO.fix 32 (congrArg AV.bool key) (WO.go rfl ?_)))) | refine W.condT rfl ?_ | refine W.condF rfl ?_ | refine W.seq ?_ | refine W.block ?_ | refine W.skip ?_ | refine WO.nil ?_ | refine WD.nil (WO.go rfl ?_) | refine W.region rfl (WO.go rfl ?_) | refine W.draw (id := 7) 29 [] rfl (by decide +kernel) rfl (WD.go rfl ?_) | refine W.draw (id := 12) 8 [] rfl (by decide +kernel) rfl (WD.go rfl ?_) | refine W.draw (id := 13) 10 [] rfl (by decide +kernel) rfl (WD.go rfl ?_) | refine W.draw (id := 14) 10 [] rfl (by decide +kernel) rfl (WD.go rfl ?_) | refine W.draw (id := 15) 29 [] rfl (by decide +kernel) rfl (WD.go rfl ?_) | refine W.draw (id := 18) 12 [] rfl (by decide +kernel) rfl (WD.go rfl ?_) | refine W.draw (id := 19) 15 [] rfl (by decide +kernel) rfl (WD.go rfl ?_) | refine W.draw (id := 22) 18 [] rfl (by decide +kernel) rfl (WD.go rfl ?_) | refine WO.gives nc rfl rfl rfl rfl rfl rfl rfl rfl rfl (WO.go rfl ?_) | refine WD.gives nc rfl rfl rfl rfl rfl rfl rfl rfl rfl (WD.go rfl ?_) | refine WO.append0 rfl rfl rfl rfl rfl rfl rfl rfl rfl (WO.go rfl ?_) | refine WO.appendF (by simp) (by exact lens_ok rfl) (by exact lens_ok rfl) (by first | decide | simp) (by first | decide | simp) rfl rfl rfl rfl rfl rfl rfl rfl rfl rfl (WO.go rfl ?_) | refine WO.appendI (by simp) (by exact lens_ok rfl) (by first | decide | simp) (by first | decide | simp) rfl rfl rfl rfl rfl rfl rfl rfl rfl rfl (WO.go rfl ?_) | refine W.loop ?_ | refine W.exit ?_)
            refine W.cond rfl (fun h => absurd (h.symm.trans key2) (by decide)) (fun _ => ?_)
            repeat (first | refine W.condT rfl ?_ | refine W.condF rfl ?_ | refine W.seq ?_ | refine W.block ?_ | refine W.skip ?_ | refine WO.nil ?_ | refine WD.nil (WO.go rfl ?_) | refine W.region rfl (WO.go rfl ?_) | refine W.draw (id := 7) 29 [] rfl (by decide +kernel) rfl (WD.go rfl ?_) | refine W.draw (id := 12) 8 [] rfl (by decide +kernel) rfl (WD.go rfl ?_) | refine W.draw (id := 13) 10 [] rfl (by decide +kernel) rfl (WD.go rfl ?_) | refine W.draw (id := 14) 10 [] rfl (by decide +kernel) rfl (WD.go rfl ?_) | refine W.draw (id := 15) 29 [] rfl (by decide +kernel) rfl (WD.go rfl ?_) | refine W.draw (id := 18) 12 [] rfl (by decide +kernel) rfl (WD.go rfl ?_) | refine W.draw (id := 19) 15 [] rfl (by decide +kernel) rfl (WD.go rfl ?_) | refine W.draw (id := 22) 18 [] rfl (by decide +kernel) rfl (WD.go rfl ?_) | refine WO.givesT hk1 rfl rfl rfl rfl rfl rfl rfl rfl rfl (WO.go rfl ?_) | refine WD.givesT hk1 rfl rfl rfl rfl rfl rfl rfl rfl rfl (WD.go rfl ?_) | refine WO.gives l1 rfl rfl rfl rfl rfl rfl rfl rfl rfl (WO.go rfl ?_) | refine WD.gives l1 rfl rfl rfl rfl rfl rfl rfl rfl rfl (WD.go rfl ?_) | refine WO.gives l2 rfl rfl rfl rfl rfl rfl rfl rfl rfl (WO.go rfl ?_) | refine WD.gives l2 rfl rfl rfl rfl rfl rfl rfl rfl rfl (WD.go rfl ?_) | refine WO.givesT hwi rfl rfl rfl rfl rfl rfl rfl rfl rfl (WO.go rfl ?_) | refine WD.givesT hwi rfl rfl rfl rfl rfl rfl rfl rfl rfl (WD.go rfl ?_) | refine WO.append0 rfl rfl rfl rfl rfl rfl rfl rfl rfl (WO.go rfl ?_) | refine WO.appendF (by simp) (by exact lens_ok rfl) (by exact lens_ok rfl) (by first | decide | simp) (by first | decide | simp) rfl rfl rfl rfl rfl rfl rfl rfl rfl rfl (WO.go rfl ?_) | refine WO.appendI (by simp) (by exact lens_ok rfl) (by first | decide | simp) (by first | decide | simp) rfl rfl rfl rfl rfl rfl rfl rfl rfl rfl (WO.go rfl ?_) | refine W.loop ?_ | refine W.exit ?_)
            exact W.ret (.ret [_, _] rfl rfl)
        · exact absurd hp.1 (by simp)
        · exact absurd hp.1 (by simp)
      · have key2 : decide ((c.size : Int) > 4096) = true := decide_eq_true (by omega)
        simp only [MR]
        rw [if_neg (fun h => h2 h.2)]
        refine givesW (fn := Tryz.f160) Tryz.func160 rfl rfl rfl ?_
        repeat (first | (refine WO.gives nw rfl rfl rfl rfl rfl rfl rfl rfl rfl (WO.steps 2 rfl (WO.fix 32 (congrArg AV.bool key) (WO.go rfl ?_)))) | refine W.condT rfl ?_ | refine W.condF rfl ?_ | refine W.seq ?_ | refine W.block ?_ | refine W.skip ?_ | refine WO.nil ?_ | refine WD.nil (WO.go rfl ?_) | refine W.region rfl (WO.go rfl ?_) | refine W.draw (id := 7) 29 [] rfl (by decide +kernel) rfl (WD.go rfl ?_) | refine W.draw (id := 12) 8 [] rfl (by decide +kernel) rfl (WD.go rfl ?_) | refine W.draw (id := 13) 10 [] rfl (by decide +kernel) rfl (WD.go rfl ?_) | refine W.draw (id := 14) 10 [] rfl (by decide +kernel) rfl (WD.go rfl ?_) | refine W.draw (id := 15) 29 [] rfl (by decide +kernel) rfl (WD.go rfl ?_) | refine W.draw (id := 18) 12 [] rfl (by decide +kernel) rfl (WD.go rfl ?_) | refine W.draw (id := 19) 15 [] rfl (by decide +kernel) rfl (WD.go rfl ?_) | refine W.draw (id := 22) 18 [] rfl (by decide +kernel) rfl (WD.go rfl ?_) | refine WO.gives nc rfl rfl rfl rfl rfl rfl rfl rfl rfl (WO.go rfl ?_) | refine WD.gives nc rfl rfl rfl rfl rfl rfl rfl rfl rfl (WD.go rfl ?_) | refine WO.append0 rfl rfl rfl rfl rfl rfl rfl rfl rfl (WO.go rfl ?_) | refine WO.appendF (by simp) (by exact lens_ok rfl) (by exact lens_ok rfl) (by first | decide | simp) (by first | decide | simp) rfl rfl rfl rfl rfl rfl rfl rfl rfl rfl (WO.go rfl ?_) | refine WO.appendI (by simp) (by exact lens_ok rfl) (by first | decide | simp) (by first | decide | simp) rfl rfl rfl rfl rfl rfl rfl rfl rfl rfl (WO.go rfl ?_) | refine W.loop ?_ | refine W.exit ?_)
        refine W.cond rfl (fun _ => ?_) (fun h => absurd (h.symm.trans key2) (by decide))
        repeat (first | refine W.condT rfl ?_ | refine W.condF rfl ?_ | refine W.seq ?_ | refine W.block ?_ | refine W.skip ?_ | refine WO.nil ?_ | refine WD.nil (WO.go rfl ?_) | refine W.region rfl (WO.go rfl ?_) | refine W.draw (id := 7) 29 [] rfl (by decide +kernel) rfl (WD.go rfl ?_) | refine W.draw (id := 12) 8 [] rfl (by decide +kernel) rfl (WD.go rfl ?_) | refine W.draw (id := 13) 10 [] rfl (by decide +kernel) rfl (WD.go rfl ?_) | refine W.draw (id := 14) 10 [] rfl (by decide +kernel) rfl (WD.go rfl ?_) | refine W.draw (id := 15) 29 [] rfl (by decide +kernel) rfl (WD.go rfl ?_) | refine W.draw (id := 18) 12 [] rfl (by decide +kernel) rfl (WD.go rfl ?_) | refine W.draw (id := 19) 15 [] rfl (by decide +kernel) rfl (WD.go rfl ?_) | refine W.draw (id := 22) 18 [] rfl (by decide +kernel) rfl (WD.go rfl ?_) | refine WO.append0 rfl rfl rfl rfl rfl rfl rfl rfl rfl (WO.go rfl ?_) | refine WO.appendF (by simp) (by exact lens_ok rfl) (by exact lens_ok rfl) (by first | decide | simp) (by first | decide | simp) rfl rfl rfl rfl rfl rfl rfl rfl rfl rfl (WO.go rfl ?_) | refine WO.appendI (by simp) (by exact lens_ok rfl) (by first | decide | simp) (by first | decide | simp) rfl rfl rfl rfl rfl rfl rfl rfl rfl rfl (WO.go rfl ?_) | refine W.loop ?_ | refine W.exit ?_)
        exact W.ret (.ret [_, _] rfl rfl)
    · have key : decide ((w.size : Int) > 4096) = true := decide_eq_true (by omega)
      simp only [MR]
      rw [if_neg (fun h => h1 h.1)]
      refine givesW (fn := Tryz.f160) Tryz.func160 rfl rfl rfl ?_
      repeat (first | (refine WO.gives nw rfl rfl rfl rfl rfl rfl rfl rfl rfl (WO.steps 2 rfl (WO.fix 32 (congrArg AV.bool key) (WO.go rfl ?_)))) | refine W.condT rfl ?_ | refine W.condF rfl ?_ | refine W.seq ?_ | refine W.block ?_ | refine W.skip ?_ | refine WO.nil ?_ | refine WD.nil (WO.go rfl ?_) | refine W.region rfl (WO.go rfl ?_) | refine W.draw (id := 7) 29 [] rfl (by decide +kernel) rfl (WD.go rfl ?_) | refine W.draw (id := 12) 8 [] rfl (by decide +kernel) rfl (WD.go rfl ?_) | refine W.draw (id := 13) 10 [] rfl (by decide +kernel) rfl (WD.go rfl ?_) | refine W.draw (id := 14) 10 [] rfl (by decide +kernel) rfl (WD.go rfl ?_) | refine W.draw (id := 15) 29 [] rfl (by decide +kernel) rfl (WD.go rfl ?_) | refine W.draw (id := 18) 12 [] rfl (by decide +kernel) rfl (WD.go rfl ?_) | refine W.draw (id := 19) 15 [] rfl (by decide +kernel) rfl (WD.go rfl ?_) | refine W.draw (id := 22) 18 [] rfl (by decide +kernel) rfl (WD.go rfl ?_) | refine WO.append0 rfl rfl rfl rfl rfl rfl rfl rfl rfl (WO.go rfl ?_) | refine WO.appendF (by simp) (by exact lens_ok rfl) (by exact lens_ok rfl) (by first | decide | simp) (by first | decide | simp) rfl rfl rfl rfl rfl rfl rfl rfl rfl rfl (WO.go rfl ?_) | refine WO.appendI (by simp) (by exact lens_ok rfl) (by first | decide | simp) (by first | decide | simp) rfl rfl rfl rfl rfl rfl rfl rfl rfl rfl (WO.go rfl ?_) | refine W.loop ?_ | refine W.exit ?_)
      exact W.ret (.ret [_, _] rfl rfl)
theorem formulaM_W (f : Fo) (w c : T) (m : Nat) (G : List Y) (hp : f.pure) (he : ∃ p, f.bothE = some p) (ho : Fo.Ok m G f) (hw : HT m G w f.both.1) (hc : HT m G c f.both.2) (hs : f.size ≤ 4096) (ht : f.tyLe 64) (hwt : w.tyLe 64) (hct : c.tyLe 64)
    (hws : w.size ≤ 4096) (hcs : c.size ≤ 4096) (hG : G.length ≤ 1000) : Gives (AC X) 72 [.agg (cF f), .agg (cT w), .agg (cT c)] (rMat (MR (Fo.bone f) f w c)) := by
  have hof := ofM_W (X := X) (Fo.bone f) f w c m G (Nat.le_refl _) hp he ho hw hc hs ht hwt hct (by omega) (by omega) hG
  have ef := bothE_get hp he
  have h1 := witness_W (X := X) f hp hs ht
  have h2 := challenge_W (X := X) f hp hs ht
  rw [ef] at h1 h2
  have h3 := termsCheck_W (X := X) w hws hwt
  have h4 := termsCheck_W (X := X) c hcs hct
  have h5 := farFormulaS_W (X := X) f (Fo.le_of_ok ho (by omega))
  have h6 := farS_W (X := X) w (T.le_mono (T.le_of_sc hw.sc) (by omega))
  have h7 := farS_W (X := X) c (T.le_mono (T.le_of_sc hc.sc) (by omega))
  revert hof
  generalize MR _ _ _ _ = RR
  intro hof
  cases RR with
  | none =>
    refine givesW (fn := Tryz.f72) Tryz.func72 rfl rfl rfl ?_
    repeat (first | refine W.condT rfl ?_ | refine W.condF rfl ?_ | refine W.seq ?_ | refine W.block ?_ | refine W.skip ?_ | refine WO.nil ?_ | refine WD.nil (WO.go rfl ?_) | refine W.region rfl (WO.go rfl ?_) | refine WO.givesT h1 rfl rfl rfl rfl rfl rfl rfl rfl rfl (WO.go rfl ?_) | refine WD.givesT h1 rfl rfl rfl rfl rfl rfl rfl rfl rfl (WD.go rfl ?_) | refine WO.givesT h2 rfl rfl rfl rfl rfl rfl rfl rfl rfl (WO.go rfl ?_) | refine WD.givesT h2 rfl rfl rfl rfl rfl rfl rfl rfl rfl (WD.go rfl ?_) | refine WO.gives h3 rfl rfl rfl rfl rfl rfl rfl rfl rfl (WO.go rfl ?_) | refine WD.gives h3 rfl rfl rfl rfl rfl rfl rfl rfl rfl (WD.go rfl ?_) | refine WO.gives h4 rfl rfl rfl rfl rfl rfl rfl rfl rfl (WO.go rfl ?_) | refine WD.gives h4 rfl rfl rfl rfl rfl rfl rfl rfl rfl (WD.go rfl ?_) | refine WO.gives h5 rfl rfl rfl rfl rfl rfl rfl rfl rfl (WO.go rfl ?_) | refine WD.gives h5 rfl rfl rfl rfl rfl rfl rfl rfl rfl (WD.go rfl ?_) | refine WO.gives h6 rfl rfl rfl rfl rfl rfl rfl rfl rfl (WO.go rfl ?_) | refine WD.gives h6 rfl rfl rfl rfl rfl rfl rfl rfl rfl (WD.go rfl ?_) | refine WO.gives h7 rfl rfl rfl rfl rfl rfl rfl rfl rfl (WO.go rfl ?_) | refine WD.gives h7 rfl rfl rfl rfl rfl rfl rfl rfl rfl (WD.go rfl ?_) | refine WO.givesT hof rfl rfl rfl rfl rfl rfl rfl rfl rfl (WO.go rfl ?_) | refine WD.givesT hof rfl rfl rfl rfl rfl rfl rfl rfl rfl (WD.go rfl ?_) | refine WO.append0 rfl rfl rfl rfl rfl rfl rfl rfl rfl (WO.go rfl ?_) | refine WO.appendF (by simp) (by exact lens_ok rfl) (by exact lens_ok rfl) (by first | decide | simp) (by first | decide | simp) rfl rfl rfl rfl rfl rfl rfl rfl rfl rfl (WO.go rfl ?_) | refine WO.appendI (by simp) (by exact lens_ok rfl) (by first | decide | simp) (by first | decide | simp) rfl rfl rfl rfl rfl rfl rfl rfl rfl rfl (WO.go rfl ?_) | refine W.loop ?_ | refine W.exit ?_)
    exact W.ret (.ret [_, _] rfl rfl)
  | some y =>
    refine givesW (fn := Tryz.f72) Tryz.func72 rfl rfl rfl ?_
    repeat (first | refine W.condT rfl ?_ | refine W.condF rfl ?_ | refine W.seq ?_ | refine W.block ?_ | refine W.skip ?_ | refine WO.nil ?_ | refine WD.nil (WO.go rfl ?_) | refine W.region rfl (WO.go rfl ?_) | refine WO.givesT h1 rfl rfl rfl rfl rfl rfl rfl rfl rfl (WO.go rfl ?_) | refine WD.givesT h1 rfl rfl rfl rfl rfl rfl rfl rfl rfl (WD.go rfl ?_) | refine WO.givesT h2 rfl rfl rfl rfl rfl rfl rfl rfl rfl (WO.go rfl ?_) | refine WD.givesT h2 rfl rfl rfl rfl rfl rfl rfl rfl rfl (WD.go rfl ?_) | refine WO.gives h3 rfl rfl rfl rfl rfl rfl rfl rfl rfl (WO.go rfl ?_) | refine WD.gives h3 rfl rfl rfl rfl rfl rfl rfl rfl rfl (WD.go rfl ?_) | refine WO.gives h4 rfl rfl rfl rfl rfl rfl rfl rfl rfl (WO.go rfl ?_) | refine WD.gives h4 rfl rfl rfl rfl rfl rfl rfl rfl rfl (WD.go rfl ?_) | refine WO.gives h5 rfl rfl rfl rfl rfl rfl rfl rfl rfl (WO.go rfl ?_) | refine WD.gives h5 rfl rfl rfl rfl rfl rfl rfl rfl rfl (WD.go rfl ?_) | refine WO.gives h6 rfl rfl rfl rfl rfl rfl rfl rfl rfl (WO.go rfl ?_) | refine WD.gives h6 rfl rfl rfl rfl rfl rfl rfl rfl rfl (WD.go rfl ?_) | refine WO.gives h7 rfl rfl rfl rfl rfl rfl rfl rfl rfl (WO.go rfl ?_) | refine WD.gives h7 rfl rfl rfl rfl rfl rfl rfl rfl rfl (WD.go rfl ?_) | refine WO.givesT hof rfl rfl rfl rfl rfl rfl rfl rfl rfl (WO.go rfl ?_) | refine WD.givesT hof rfl rfl rfl rfl rfl rfl rfl rfl rfl (WD.go rfl ?_) | refine WO.append0 rfl rfl rfl rfl rfl rfl rfl rfl rfl (WO.go rfl ?_) | refine WO.appendF (by simp) (by exact lens_ok rfl) (by exact lens_ok rfl) (by first | decide | simp) (by first | decide | simp) rfl rfl rfl rfl rfl rfl rfl rfl rfl rfl (WO.go rfl ?_) | refine WO.appendI (by simp) (by exact lens_ok rfl) (by first | decide | simp) (by first | decide | simp) rfl rfl rfl rfl rfl rfl rfl rfl rfl rfl (WO.go rfl ?_) | refine W.loop ?_ | refine W.exit ?_)
    exact W.ret (.ret [_, _] rfl rfl)
def freeB : Fo → Bool
  | .eq _ _ => true
  | .bi _ f g => freeB f && freeB g
  | .q _ _ _ => false
theorem freeM_W : ∀ (f : Fo), Gives (AC X) 75 [.agg (cF f)] (.bool (freeB f))
  | .eq a b => by
    refine givesW (fn := Tryz.f75) Tryz.func75 rfl rfl rfl ?_
    repeat (first | refine W.condT rfl ?_ | refine W.condF rfl ?_ | refine W.seq ?_ | refine W.block ?_ | refine W.skip ?_ | refine WO.nil ?_ | refine WD.nil (WO.go rfl ?_) | refine W.region rfl (WO.go rfl ?_) | refine WO.append0 rfl rfl rfl rfl rfl rfl rfl rfl rfl (WO.go rfl ?_) | refine WO.appendF (by simp) (by exact lens_ok rfl) (by exact lens_ok rfl) (by first | decide | simp) (by first | decide | simp) rfl rfl rfl rfl rfl rfl rfl rfl rfl rfl (WO.go rfl ?_) | refine WO.appendI (by simp) (by exact lens_ok rfl) (by first | decide | simp) (by first | decide | simp) rfl rfl rfl rfl rfl rfl rfl rfl rfl rfl (WO.go rfl ?_) | refine W.loop ?_ | refine W.exit ?_)
    exact W.ret (.ret [_] rfl rfl)
  | .bi .an f g => by
    have h1 := freeM_W f
    have h2 := freeM_W g
    simp only [freeB]
    cases e1 : freeB f <;> cases e2 : freeB g <;> rw [e1] at h1 <;> rw [e2] at h2 <;>
    · refine givesW (fn := Tryz.f75) Tryz.func75 rfl rfl rfl ?_
      repeat (first | refine W.condT rfl ?_ | refine W.condF rfl ?_ | refine W.seq ?_ | refine W.block ?_ | refine W.skip ?_ | refine WO.nil ?_ | refine WD.nil (WO.go rfl ?_) | refine W.region rfl (WO.go rfl ?_) | refine WO.gives h1 rfl rfl rfl rfl rfl rfl rfl rfl rfl (WO.go rfl ?_) | refine WD.gives h1 rfl rfl rfl rfl rfl rfl rfl rfl rfl (WD.go rfl ?_) | refine WO.gives h2 rfl rfl rfl rfl rfl rfl rfl rfl rfl (WO.go rfl ?_) | refine WD.gives h2 rfl rfl rfl rfl rfl rfl rfl rfl rfl (WD.go rfl ?_) | refine WO.append0 rfl rfl rfl rfl rfl rfl rfl rfl rfl (WO.go rfl ?_) | refine WO.appendF (by simp) (by exact lens_ok rfl) (by exact lens_ok rfl) (by first | decide | simp) (by first | decide | simp) rfl rfl rfl rfl rfl rfl rfl rfl rfl rfl (WO.go rfl ?_) | refine WO.appendI (by simp) (by exact lens_ok rfl) (by first | decide | simp) (by first | decide | simp) rfl rfl rfl rfl rfl rfl rfl rfl rfl rfl (WO.go rfl ?_) | refine W.loop ?_ | refine W.exit ?_)
      exact W.ret (.ret [_] rfl rfl)
  | .bi .im f g => by
    have h1 := freeM_W f
    have h2 := freeM_W g
    simp only [freeB]
    cases e1 : freeB f <;> cases e2 : freeB g <;> rw [e1] at h1 <;> rw [e2] at h2 <;>
    · refine givesW (fn := Tryz.f75) Tryz.func75 rfl rfl rfl ?_
      repeat (first | refine W.condT rfl ?_ | refine W.condF rfl ?_ | refine W.seq ?_ | refine W.block ?_ | refine W.skip ?_ | refine WO.nil ?_ | refine WD.nil (WO.go rfl ?_) | refine W.region rfl (WO.go rfl ?_) | refine WO.gives h1 rfl rfl rfl rfl rfl rfl rfl rfl rfl (WO.go rfl ?_) | refine WD.gives h1 rfl rfl rfl rfl rfl rfl rfl rfl rfl (WD.go rfl ?_) | refine WO.gives h2 rfl rfl rfl rfl rfl rfl rfl rfl rfl (WO.go rfl ?_) | refine WD.gives h2 rfl rfl rfl rfl rfl rfl rfl rfl rfl (WD.go rfl ?_) | refine WO.append0 rfl rfl rfl rfl rfl rfl rfl rfl rfl (WO.go rfl ?_) | refine WO.appendF (by simp) (by exact lens_ok rfl) (by exact lens_ok rfl) (by first | decide | simp) (by first | decide | simp) rfl rfl rfl rfl rfl rfl rfl rfl rfl rfl (WO.go rfl ?_) | refine WO.appendI (by simp) (by exact lens_ok rfl) (by first | decide | simp) (by first | decide | simp) rfl rfl rfl rfl rfl rfl rfl rfl rfl rfl (WO.go rfl ?_) | refine W.loop ?_ | refine W.exit ?_)
      exact W.ret (.ret [_] rfl rfl)
  | .q .al s f => by
    refine givesW (fn := Tryz.f75) Tryz.func75 rfl rfl rfl ?_
    repeat (first | refine W.condT rfl ?_ | refine W.condF rfl ?_ | refine W.seq ?_ | refine W.block ?_ | refine W.skip ?_ | refine WO.nil ?_ | refine WD.nil (WO.go rfl ?_) | refine W.region rfl (WO.go rfl ?_) | refine WO.append0 rfl rfl rfl rfl rfl rfl rfl rfl rfl (WO.go rfl ?_) | refine WO.appendF (by simp) (by exact lens_ok rfl) (by exact lens_ok rfl) (by first | decide | simp) (by first | decide | simp) rfl rfl rfl rfl rfl rfl rfl rfl rfl rfl (WO.go rfl ?_) | refine WO.appendI (by simp) (by exact lens_ok rfl) (by first | decide | simp) (by first | decide | simp) rfl rfl rfl rfl rfl rfl rfl rfl rfl rfl (WO.go rfl ?_) | refine W.loop ?_ | refine W.exit ?_)
    exact W.ret (.ret [_] rfl rfl)
  | .q .ex s f => by
    refine givesW (fn := Tryz.f75) Tryz.func75 rfl rfl rfl ?_
    repeat (first | refine W.condT rfl ?_ | refine W.condF rfl ?_ | refine W.seq ?_ | refine W.block ?_ | refine W.skip ?_ | refine WO.nil ?_ | refine WD.nil (WO.go rfl ?_) | refine W.region rfl (WO.go rfl ?_) | refine WO.append0 rfl rfl rfl rfl rfl rfl rfl rfl rfl (WO.go rfl ?_) | refine WO.appendF (by simp) (by exact lens_ok rfl) (by exact lens_ok rfl) (by first | decide | simp) (by first | decide | simp) rfl rfl rfl rfl rfl rfl rfl rfl rfl rfl (WO.go rfl ?_) | refine WO.appendI (by simp) (by exact lens_ok rfl) (by first | decide | simp) (by first | decide | simp) rfl rfl rfl rfl rfl rfl rfl rfl rfl rfl (WO.go rfl ?_) | refine W.loop ?_ | refine W.exit ?_)
    exact W.ret (.ret [_] rfl rfl)
  | .q .au s f => by
    refine givesW (fn := Tryz.f75) Tryz.func75 rfl rfl rfl ?_
    repeat (first | refine W.condT rfl ?_ | refine W.condF rfl ?_ | refine W.seq ?_ | refine W.block ?_ | refine W.skip ?_ | refine WO.nil ?_ | refine WD.nil (WO.go rfl ?_) | refine W.region rfl (WO.go rfl ?_) | refine WO.append0 rfl rfl rfl rfl rfl rfl rfl rfl rfl (WO.go rfl ?_) | refine WO.appendF (by simp) (by exact lens_ok rfl) (by exact lens_ok rfl) (by first | decide | simp) (by first | decide | simp) rfl rfl rfl rfl rfl rfl rfl rfl rfl rfl (WO.go rfl ?_) | refine WO.appendI (by simp) (by exact lens_ok rfl) (by first | decide | simp) (by first | decide | simp) rfl rfl rfl rfl rfl rfl rfl rfl rfl rfl (WO.go rfl ?_) | refine W.loop ?_ | refine W.exit ?_)
    exact W.ret (.ret [_] rfl rfl)
  | .q .eu s f => by
    refine givesW (fn := Tryz.f75) Tryz.func75 rfl rfl rfl ?_
    repeat (first | refine W.condT rfl ?_ | refine W.condF rfl ?_ | refine W.seq ?_ | refine W.block ?_ | refine W.skip ?_ | refine WO.nil ?_ | refine WD.nil (WO.go rfl ?_) | refine W.region rfl (WO.go rfl ?_) | refine WO.append0 rfl rfl rfl rfl rfl rfl rfl rfl rfl (WO.go rfl ?_) | refine WO.appendF (by simp) (by exact lens_ok rfl) (by exact lens_ok rfl) (by first | decide | simp) (by first | decide | simp) rfl rfl rfl rfl rfl rfl rfl rfl rfl rfl (WO.go rfl ?_) | refine WO.appendI (by simp) (by exact lens_ok rfl) (by first | decide | simp) (by first | decide | simp) rfl rfl rfl rfl rfl rfl rfl rfl rfl rfl (WO.go rfl ?_) | refine W.loop ?_ | refine W.exit ?_)
    exact W.ret (.ret [_] rfl rfl)
end Go.Proofs.YtjdlmhbkfammlabGreatDoor
namespace Go.Proofs.YtjdlmhbkfammlabGreatDoor
open Go Go.Sh
set_option linter.unusedVariables false
set_option linter.unusedSimpArgs false
set_option maxHeartbeats 4000000
variable {X : CRel}
/-! what the laws of the matrix start from -/
theorem context_W (l : List Int) (hl : l.length ≤ 1000) (i : Nat) (hi : i ≤ l.length) : ∃ (g : List Y) (j : Nat), Draws (AC X) l 52 [] i (.sl .no (g.map cY)) j ∧ i ≤ j ∧ j ≤ l.length ∧ g.length ≤ 3 ∧ ∀ y ∈ g, y.size ≤ 3 := by
  suffices h : ∃ rs st', AC X 52 [.vp 0 0] (deck l i) (resOf rs) st' ∧ ∃ (g : List Y) (j : Nat), rs = [.sl .no (g.map cY)] ∧ st'[0]? = (deck l j)[0]? ∧ i ≤ j ∧ j ≤ l.length ∧ g.length ≤ 3 ∧ ∀ y ∈ g, y.size ≤ 3 by
    obtain ⟨rs, st', h1, g, j, rfl, h2, h3⟩ := h; exact ⟨g, j, ⟨st', h1, h2⟩, h3⟩
  obtain ⟨v, j0, hv, hvv, hjv⟩ : ∃ (v : Int) (j' : Nat), Draws (AC X) l 18 [.int .i64 4] i (.int .i64 v) j' ∧ (0 ≤ v ∧ v < 4) ∧ i ≤ j' ∧ j' ≤ l.length := ⟨_, _, next_W l i 4 (by omega) hl (by decide) (by decide), nextV_lt l i 4 (by decide) (by decide), by unfold nextI; omega, by unfold nextI; omega⟩
  obtain ⟨a, j1, ha, ha1, ha2, ha3⟩ := type_W (X := X) l hl 1 (by omega) j0 (by omega)
  obtain ⟨b, j2, hb, hb1, hb2, hb3⟩ := type_W (X := X) l hl 1 (by omega) j1 (by omega)
  obtain ⟨c, j3, hc, hc1, hc2, hc3⟩ := type_W (X := X) l hl 1 (by omega) j2 (by omega)
  simp only [tyB] at ha3 hb3 hc3
  have hv4 : v = 0 ∨ v = 1 ∨ v = 2 ∨ v = 3 := by omega
  refine callW (fn := Tryz.f52) Tryz.func52 rfl rfl rfl ?_
  rcases hv4 with rfl | rfl | rfl | rfl
  · repeat (first | refine W.condT rfl ?_ | refine W.condF rfl ?_ | refine W.seq ?_ | refine W.block ?_ | refine W.skip ?_ | refine WO.nil ?_ | refine WD.nil (WO.go rfl ?_) | refine W.region rfl (WO.go rfl ?_) | refine WO.draws hv rfl rfl rfl rfl rfl rfl rfl rfl rfl rfl rfl (WO.go rfl ?_) | refine WD.draws hv rfl rfl rfl rfl rfl rfl rfl rfl rfl rfl rfl rfl (WD.go rfl ?_) | refine WO.append0 rfl rfl rfl rfl rfl rfl rfl rfl rfl (WO.go rfl ?_) | refine WO.appendF (by simp) (by exact lens_ok rfl) (by exact lens_ok rfl) (by first | decide | simp) (by first | decide | simp) rfl rfl rfl rfl rfl rfl rfl rfl rfl rfl (WO.go rfl ?_) | refine WO.appendI (by simp) (by exact lens_ok rfl) (by first | decide | simp) (by first | decide | simp) rfl rfl rfl rfl rfl rfl rfl rfl rfl rfl (WO.go rfl ?_) | refine W.loop ?_ | refine W.exit ?_)
    exact W.ret (.ret [_] rfl ⟨[], j0, rfl, rfl, by omega, by omega, by simp, by simp⟩)
  · repeat (first | refine W.condT rfl ?_ | refine W.condF rfl ?_ | refine W.seq ?_ | refine W.block ?_ | refine W.skip ?_ | refine WO.nil ?_ | refine WD.nil (WO.go rfl ?_) | refine W.region rfl (WO.go rfl ?_) | refine WO.draws hv rfl rfl rfl rfl rfl rfl rfl rfl rfl rfl rfl (WO.go rfl ?_) | refine WD.draws hv rfl rfl rfl rfl rfl rfl rfl rfl rfl rfl rfl rfl (WD.go rfl ?_) | refine WO.draws ha rfl rfl rfl rfl rfl rfl rfl rfl rfl rfl rfl (WO.go rfl ?_) | refine WD.draws ha rfl rfl rfl rfl rfl rfl rfl rfl rfl rfl rfl rfl (WD.go rfl ?_) | refine WO.append0 rfl rfl rfl rfl rfl rfl rfl rfl rfl (WO.go rfl ?_) | refine WO.appendF (by simp) (by exact lens_ok rfl) (by exact lens_ok rfl) (by first | decide | simp) (by first | decide | simp) rfl rfl rfl rfl rfl rfl rfl rfl rfl rfl (WO.go rfl ?_) | refine WO.appendI (by simp) (by exact lens_ok rfl) (by first | decide | simp) (by first | decide | simp) rfl rfl rfl rfl rfl rfl rfl rfl rfl rfl (WO.go rfl ?_) | refine W.loop ?_ | refine W.exit ?_)
    exact W.ret (.ret [_] rfl ⟨[a], j1, rfl, rfl, by omega, by omega, by simp, by simp; omega⟩)
  · repeat (first | refine W.condT rfl ?_ | refine W.condF rfl ?_ | refine W.seq ?_ | refine W.block ?_ | refine W.skip ?_ | refine WO.nil ?_ | refine WD.nil (WO.go rfl ?_) | refine W.region rfl (WO.go rfl ?_) | refine WO.draws hv rfl rfl rfl rfl rfl rfl rfl rfl rfl rfl rfl (WO.go rfl ?_) | refine WD.draws hv rfl rfl rfl rfl rfl rfl rfl rfl rfl rfl rfl rfl (WD.go rfl ?_) | refine WO.draws ha rfl rfl rfl rfl rfl rfl rfl rfl rfl rfl rfl (WO.go rfl ?_) | refine WD.draws ha rfl rfl rfl rfl rfl rfl rfl rfl rfl rfl rfl rfl (WD.go rfl ?_) | refine WO.draws hb rfl rfl rfl rfl rfl rfl rfl rfl rfl rfl rfl (WO.go rfl ?_) | refine WD.draws hb rfl rfl rfl rfl rfl rfl rfl rfl rfl rfl rfl rfl (WD.go rfl ?_) | refine WO.append0 rfl rfl rfl rfl rfl rfl rfl rfl rfl (WO.go rfl ?_) | refine WO.appendF (by simp) (by exact lens_ok rfl) (by exact lens_ok rfl) (by first | decide | simp) (by first | decide | simp) rfl rfl rfl rfl rfl rfl rfl rfl rfl rfl (WO.go rfl ?_) | refine WO.appendI (by simp) (by exact lens_ok rfl) (by first | decide | simp) (by first | decide | simp) rfl rfl rfl rfl rfl rfl rfl rfl rfl rfl (WO.go rfl ?_) | refine W.loop ?_ | refine W.exit ?_)
    exact W.ret (.ret [_] rfl ⟨[a, b], j2, rfl, rfl, by omega, by omega, by simp, by simp; omega⟩)
  · repeat (first | refine W.condT rfl ?_ | refine W.condF rfl ?_ | refine W.seq ?_ | refine W.block ?_ | refine W.skip ?_ | refine WO.nil ?_ | refine WD.nil (WO.go rfl ?_) | refine W.region rfl (WO.go rfl ?_) | refine WO.draws hv rfl rfl rfl rfl rfl rfl rfl rfl rfl rfl rfl (WO.go rfl ?_) | refine WD.draws hv rfl rfl rfl rfl rfl rfl rfl rfl rfl rfl rfl rfl (WD.go rfl ?_) | refine WO.draws ha rfl rfl rfl rfl rfl rfl rfl rfl rfl rfl rfl (WO.go rfl ?_) | refine WD.draws ha rfl rfl rfl rfl rfl rfl rfl rfl rfl rfl rfl rfl (WD.go rfl ?_) | refine WO.draws hb rfl rfl rfl rfl rfl rfl rfl rfl rfl rfl rfl (WO.go rfl ?_) | refine WD.draws hb rfl rfl rfl rfl rfl rfl rfl rfl rfl rfl rfl rfl (WD.go rfl ?_) | refine WO.draws hc rfl rfl rfl rfl rfl rfl rfl rfl rfl rfl rfl (WO.go rfl ?_) | refine WD.draws hc rfl rfl rfl rfl rfl rfl rfl rfl rfl rfl rfl rfl (WD.go rfl ?_) | refine WO.append0 rfl rfl rfl rfl rfl rfl rfl rfl rfl (WO.go rfl ?_) | refine WO.appendF (by simp) (by exact lens_ok rfl) (by exact lens_ok rfl) (by first | decide | simp) (by first | decide | simp) rfl rfl rfl rfl rfl rfl rfl rfl rfl rfl (WO.go rfl ?_) | refine WO.appendI (by simp) (by exact lens_ok rfl) (by first | decide | simp) (by first | decide | simp) rfl rfl rfl rfl rfl rfl rfl rfl rfl rfl (WO.go rfl ?_) | refine W.loop ?_ | refine W.exit ?_)
    exact W.ret (.ret [_] rfl ⟨[a, b, c], j3, rfl, rfl, by omega, by omega, by simp, by simp; omega⟩)
theorem parts_W (l : List Int) (hl : l.length ≤ 1000) (g : List Y) (hg : ∀ y ∈ g, y.size ≤ 3) (hgl : g.length ≤ 4) (i : Nat) (hi : i ≤ l.length) :
    (∃ j, GivesV (AC X) 71 [.vp 0 0, .sl .no (g.map cY)] (deck l i) (.tup [.agg zF, .agg zT, .agg zT, .bool false]) (deck l j) ∧ j ≤ l.length) ∨
    ∃ (f : Fo) (w c : T) (j : Nat), GivesV (AC X) 71 [.vp 0 0, .sl .no (g.map cY)] (deck l i) (.tup [.agg (cF f), .agg (cT w), .agg (cT c), .bool true]) (deck l j) ∧ j ≤ l.length ∧ f.pure ∧ (∃ p, f.bothE = some p) ∧ Fo.Ok 133 g.reverse f ∧
      HT 133 g.reverse w f.both.1 ∧ HT 133 g.reverse c f.both.2 ∧ f.size ≤ 4096 ∧ f.tyLe 64 ∧ w.size ≤ 4096 ∧ c.size ≤ 4096 ∧ w.tyLe 64 ∧ c.tyLe 64 := by
  obtain ⟨f, j1, hf, hf1, hf2, hf3, hf4, hf5, hf6⟩ := pure_W (X := X) l hl 3 (by omega) (by omega) 3 g i (by omega) hg (by omega) hi
  simp only [pB, rB] at hf5
  have htl : f.tyLe 64 := Fo.tyLe_mono hf6 (by omega)
  have hw := witness28_W (X := X) f hf3 (by omega) htl
  have hc := challenge28_W (X := X) f hf3 (by omega) htl
  cases ef : f.bothE with
  | none =>
    rw [ef] at hw hc
    refine .inl ⟨j1, ?_, hf2⟩
    refine givesVW (fn := Tryz.f71) Tryz.func71 rfl rfl rfl ?_
    repeat (first | refine W.condT rfl ?_ | refine W.condF rfl ?_ | refine W.seq ?_ | refine W.block ?_ | refine W.skip ?_ | refine WO.nil ?_ | refine WD.nil (WO.go rfl ?_) | refine W.region rfl (WO.go rfl ?_) | refine W.draw (id := 6) 9 [0] rfl (by decide +kernel) rfl (WD.go rfl ?_) | refine WO.draws hf rfl rfl rfl rfl rfl rfl rfl rfl rfl rfl rfl (WO.go rfl ?_) | refine WD.draws hf rfl rfl rfl rfl rfl rfl rfl rfl rfl rfl rfl rfl (WD.go rfl ?_) | refine WO.givesT hw rfl rfl rfl rfl rfl rfl rfl rfl rfl (WO.go rfl ?_) | refine WD.givesT hw rfl rfl rfl rfl rfl rfl rfl rfl rfl (WD.go rfl ?_) | refine WO.givesT hc rfl rfl rfl rfl rfl rfl rfl rfl rfl (WO.go rfl ?_) | refine WD.givesT hc rfl rfl rfl rfl rfl rfl rfl rfl rfl (WD.go rfl ?_) | refine WO.append0 rfl rfl rfl rfl rfl rfl rfl rfl rfl (WO.go rfl ?_) | refine WO.appendF (by simp) (by exact lens_ok rfl) (by exact lens_ok rfl) (by first | decide | simp) (by first | decide | simp) rfl rfl rfl rfl rfl rfl rfl rfl rfl rfl (WO.go rfl ?_) | refine WO.appendI (by simp) (by exact lens_ok rfl) (by first | decide | simp) (by first | decide | simp) rfl rfl rfl rfl rfl rfl rfl rfl rfl rfl (WO.go rfl ?_) | refine W.loop ?_ | refine W.exit ?_)
    exact W.ret (.ret [_, _, _, _] rfl ⟨rfl, rfl⟩)
  | some p =>
    obtain ⟨v, q⟩ := p
    have hle := Fo.bothE_le ef
    have hbo := Fo.bothE_both hf3 ef
    simp only at hle
    rw [ef] at hw hc
    obtain ⟨w, j2, kw, kw1, kw2, kw3, kw4, kw5⟩ := term_W (X := X) l hl 64 (by omega) (by omega) 2 v g j1 (by omega) hle.1 (fun y hy => by have := hg y hy; omega) (by omega) hf2
    obtain ⟨c, j3, kc, kc1, kc2, kc3, kc4, kc5⟩ := term_W (X := X) l hl 64 (by omega) (by omega) 2 q g j2 (by omega) hle.2 (fun y hy => by have := hg y hy; omega) (by omega) kw2
    simp only [rB] at kw4 kc4
    refine .inr ⟨f, w, c, j3, ?_, kc2, hf3, ⟨_, ef⟩, hf4.mono (by omega), by rw [hbo]; exact kw3, by rw [hbo]; exact kc3, by omega, htl, by omega, by omega, kw5, kc5⟩
    refine givesVW (fn := Tryz.f71) Tryz.func71 rfl rfl rfl ?_
    repeat (first | refine W.condT rfl ?_ | refine W.condF rfl ?_ | refine W.seq ?_ | refine W.block ?_ | refine W.skip ?_ | refine WO.nil ?_ | refine WD.nil (WO.go rfl ?_) | refine W.region rfl (WO.go rfl ?_) | refine W.draw (id := 6) 9 [0] rfl (by decide +kernel) rfl (WD.go rfl ?_) | refine WO.draws hf rfl rfl rfl rfl rfl rfl rfl rfl rfl rfl rfl (WO.go rfl ?_) | refine WD.draws hf rfl rfl rfl rfl rfl rfl rfl rfl rfl rfl rfl rfl (WD.go rfl ?_) | refine WO.givesT hw rfl rfl rfl rfl rfl rfl rfl rfl rfl (WO.go rfl ?_) | refine WD.givesT hw rfl rfl rfl rfl rfl rfl rfl rfl rfl (WD.go rfl ?_) | refine WO.givesT hc rfl rfl rfl rfl rfl rfl rfl rfl rfl (WO.go rfl ?_) | refine WD.givesT hc rfl rfl rfl rfl rfl rfl rfl rfl rfl (WD.go rfl ?_) | refine WO.draws kw rfl rfl rfl rfl rfl rfl rfl rfl rfl rfl rfl (WO.go rfl ?_) | refine WD.draws kw rfl rfl rfl rfl rfl rfl rfl rfl rfl rfl rfl rfl (WD.go rfl ?_) | refine WO.draws kc rfl rfl rfl rfl rfl rfl rfl rfl rfl rfl rfl (WO.go rfl ?_) | refine WD.draws kc rfl rfl rfl rfl rfl rfl rfl rfl rfl rfl rfl rfl (WD.go rfl ?_) | refine WO.append0 rfl rfl rfl rfl rfl rfl rfl rfl rfl (WO.go rfl ?_) | refine WO.appendF (by simp) (by exact lens_ok rfl) (by exact lens_ok rfl) (by first | decide | simp) (by first | decide | simp) rfl rfl rfl rfl rfl rfl rfl rfl rfl rfl (WO.go rfl ?_) | refine WO.appendI (by simp) (by exact lens_ok rfl) (by first | decide | simp) (by first | decide | simp) rfl rfl rfl rfl rfl rfl rfl rfl rfl rfl (WO.go rfl ?_) | refine W.loop ?_ | refine W.exit ?_)
    exact W.ret (.ret [_, _, _, _] rfl ⟨rfl, rfl⟩)
def awF29 : Fo := .q .al .nat (.q .ex .nat (.eq (.vr 0) (.vr 1)))
def awM29 : Fo := .eq (.ap (.vr 4) .ze) .ze
theorem awake29_W : Gives (AC X) 70 [] (.bool true) := by
  have h1 : Gives (AC X) 72 [.agg (cF awF29), .agg (cT (.vr 4)), .agg (cT .ze)] (.tup [.agg (cF awM29), .int .i64 0]) :=
    formulaM_W awF29 (.vr 4) .ze 133 [.nat, .nat, .nat, .nat, .fn .nat .nat] (by simp [awF29, Fo.pure]) ⟨_, rfl⟩ (.q (.q (.eq (.vr rfl) (.vr rfl)))) (.vr rfl) .ze (by decide) (by simp [awF29, Fo.tyLe, T.tyLe, Y.size]) trivial trivial (by decide) (by decide) (by decide)
  have h2 : Gives (AC X) 75 [.agg (cF awM29)] (.bool true) := freeM_W awM29
  have h3 : Gives (AC X) 75 [.agg (cF awF29)] (.bool false) := freeM_W awF29
  refine givesW (fn := Tryz.f70) Tryz.func70 rfl rfl rfl ?_
  repeat (first | refine W.condT rfl ?_ | refine W.condF rfl ?_ | refine W.seq ?_ | refine W.block ?_ | refine W.skip ?_ | refine WO.nil ?_ | refine WD.nil (WO.go rfl ?_) | refine W.region rfl (WO.go rfl ?_) | refine WO.givesT h1 rfl rfl rfl rfl rfl rfl rfl rfl rfl (WO.go rfl ?_) | refine WD.givesT h1 rfl rfl rfl rfl rfl rfl rfl rfl rfl (WD.go rfl ?_) | refine WO.gives h2 rfl rfl rfl rfl rfl rfl rfl rfl rfl (WO.go rfl ?_) | refine WD.gives h2 rfl rfl rfl rfl rfl rfl rfl rfl rfl (WD.go rfl ?_) | refine WO.gives h3 rfl rfl rfl rfl rfl rfl rfl rfl rfl (WO.go rfl ?_) | refine WD.gives h3 rfl rfl rfl rfl rfl rfl rfl rfl rfl (WD.go rfl ?_) | refine WO.append0 rfl rfl rfl rfl rfl rfl rfl rfl rfl (WO.go rfl ?_) | refine WO.appendF (by simp) (by exact lens_ok rfl) (by exact lens_ok rfl) (by first | decide | simp) (by first | decide | simp) rfl rfl rfl rfl rfl rfl rfl rfl rfl rfl (WO.go rfl ?_) | refine WO.appendI (by simp) (by exact lens_ok rfl) (by first | decide | simp) (by first | decide | simp) rfl rfl rfl rfl rfl rfl rfl rfl rfl rfl (WO.go rfl ?_) | refine W.loop ?_ | refine W.exit ?_)
  exact W.ret (.ret [_] rfl rfl)
end Go.Proofs.YtjdlmhbkfammlabGreatDoor
namespace Go.Proofs.YtjdlmhbkfammlabGreatDoor
open Go Go.Sh
set_option linter.unusedVariables false
set_option linter.unusedSimpArgs false
set_option maxHeartbeats 4000000
variable {X : CRel}
/-! what a term's type is told to be -/
def rIn (a : Y) : Bool → AV
  | true => .tup [.agg (cY a), .int .i64 0]
  | false => .tup [.agg [.int .i64 0, .sl .no []], .int .i64 4]
theorem ok02_W (t : Y) (h : t.size ≤ 1000000) : ∃ b, Gives (AC X) 230 [.agg (cY t)] (rIn t b) := by
  by_cases h2 : t.size ≤ 64
  · refine ⟨true, ?_⟩
    have h1 := checkY_W (X := X) t h2
    refine givesW (fn := Tryz.f230) Tryz.func230 rfl rfl rfl ?_
    repeat (first | refine W.condT rfl ?_ | refine W.condF rfl ?_ | refine W.seq ?_ | refine W.block ?_ | refine W.skip ?_ | refine WO.nil ?_ | refine WD.nil (WO.go rfl ?_) | refine W.region rfl (WO.go rfl ?_) | refine WO.gives h1 rfl rfl rfl rfl rfl rfl rfl rfl rfl (WO.go rfl ?_) | refine WD.gives h1 rfl rfl rfl rfl rfl rfl rfl rfl rfl (WD.go rfl ?_) | refine WO.append0 rfl rfl rfl rfl rfl rfl rfl rfl rfl (WO.go rfl ?_) | refine WO.appendF (by simp) (by exact lens_ok rfl) (by exact lens_ok rfl) (by first | decide | simp) (by first | decide | simp) rfl rfl rfl rfl rfl rfl rfl rfl rfl rfl (WO.go rfl ?_) | refine WO.appendI (by simp) (by exact lens_ok rfl) (by first | decide | simp) (by first | decide | simp) rfl rfl rfl rfl rfl rfl rfl rfl rfl rfl (WO.go rfl ?_) | refine W.loop ?_ | refine W.exit ?_)
    exact W.ret (.ret [_, _] rfl rfl)
  · refine ⟨false, ?_⟩
    have h1 := checkYL_W (X := X) t h h2
    refine givesW (fn := Tryz.f230) Tryz.func230 rfl rfl rfl ?_
    repeat (first | refine W.condT rfl ?_ | refine W.condF rfl ?_ | refine W.seq ?_ | refine W.block ?_ | refine W.skip ?_ | refine WO.nil ?_ | refine WD.nil (WO.go rfl ?_) | refine W.region rfl (WO.go rfl ?_) | refine WO.gives h1 rfl rfl rfl rfl rfl rfl rfl rfl rfl (WO.go rfl ?_) | refine WD.gives h1 rfl rfl rfl rfl rfl rfl rfl rfl rfl (WD.go rfl ?_) | refine WO.append0 rfl rfl rfl rfl rfl rfl rfl rfl rfl (WO.go rfl ?_) | refine WO.appendF (by simp) (by exact lens_ok rfl) (by exact lens_ok rfl) (by first | decide | simp) (by first | decide | simp) rfl rfl rfl rfl rfl rfl rfl rfl rfl rfl (WO.go rfl ?_) | refine WO.appendI (by simp) (by exact lens_ok rfl) (by first | decide | simp) (by first | decide | simp) rfl rfl rfl rfl rfl rfl rfl rfl rfl rfl (WO.go rfl ?_) | refine W.loop ?_ | refine W.exit ?_)
    exact W.ret (.ret [_, _] rfl rfl)
theorem same1_W (a : Y) : Gives (AC X) 25 [.agg (cY a), .agg (cY a)] (.bool true) := by
  have := sameY_W (X := X) a a
  rw [Y.same_refl] at this
  exact this
theorem infer_W {m : Nat} {G : List Y} {x : T} {a : Y} (h : HT m G x a) (hm : m ≤ 1000000) : ∀ g : List Y, g.reverse = G → g.length + x.size ≤ 1000000 → ∃ b, Gives (AC X) 202 [.sl .no (g.map cY), .agg (cT x)] (rIn a b) := by
  induction h with
  | @vr G i a hget =>
    intro g hg hs
    subst hg
    have hlt : i < g.length := by
      have := (List.getElem?_eq_some_iff.1 hget).1
      simpa using this
    have hidx : IntKind.i64.wrap (IntKind.i64.wrap ((((g.map cY).length : Nat) : Int) - 1) - (i : Int)) = ((g.length - 1 - i : Nat) : Int) := by
      rw [List.length_map, wrap_id (n := (g.length : Int) - 1) (by omega) (by omega), wrap_id (by omega) (by omega)]; omega
    have hr : (g.map cY)[(IntKind.i64.wrap (IntKind.i64.wrap ((((g.map cY).length : Nat) : Int) - 1) - (i : Int))).toNat]? = some (cY a) := by
      rw [hidx, Int.toNat_natCast, List.getElem?_map]
      rw [List.getElem?_reverse hlt] at hget
      rw [hget]; rfl
    have h0 : 0 ≤ IntKind.i64.wrap (IntKind.i64.wrap ((((g.map cY).length : Nat) : Int) - 1) - (i : Int)) := by rw [hidx]; omega
    have hcp := copyY_W (X := X) a
    refine ⟨true, ?_⟩
    simp only [rIn]
    refine givesW (fn := Tryz.f202) Tryz.func202 rfl rfl rfl ?_
    repeat (first | refine W.condT rfl ?_ | refine W.condF rfl ?_ | refine W.seq ?_ | refine W.block ?_ | refine W.skip ?_ | refine WO.nil ?_ | refine WD.nil (WO.go rfl ?_) | refine W.region rfl (WO.go rfl ?_) | refine W.draw (id := 6) 20 [] rfl (by decide +kernel) rfl (WD.go rfl ?_) | refine W.draw (id := 22) 15 [] rfl (by decide +kernel) rfl (WD.go rfl ?_) | refine W.draw (id := 28) 4 [] rfl (by decide +kernel) rfl (WD.go rfl ?_) | refine W.draw (id := 32) 26 [] rfl (by decide +kernel) rfl (WD.go rfl ?_) | refine W.draw (id := 38) 11 [] rfl (by decide +kernel) rfl (WD.go rfl ?_) | refine W.draw (id := 42) 28 [] rfl (by decide +kernel) rfl (WD.go rfl ?_) | refine W.draw (id := 46) 10 [] rfl (by decide +kernel) rfl (WD.go rfl ?_) | refine WO.append0 rfl rfl rfl rfl rfl rfl rfl rfl rfl (WO.go rfl ?_) | refine WO.appendF (by simp) (by exact lens_ok rfl) (by exact lens_ok rfl) (by first | decide | simp) (by first | decide | simp) rfl rfl rfl rfl rfl rfl rfl rfl rfl rfl (WO.go rfl ?_) | refine WO.appendI (by simp) (by exact lens_ok rfl) (by first | decide | simp) (by first | decide | simp) rfl rfl rfl rfl rfl rfl rfl rfl rfl rfl (WO.go rfl ?_) | refine W.loop ?_ | refine W.exit ?_)
    refine W.cond rfl (fun h => ?_) (fun _ => ?_)
    · have h : decide ((i : Int) ≥ (((g.map cY).length : Nat) : Int)) = true := h
      simp at h; omega
    repeat (first | (refine W.region (id := 4) rfl (WO.steps 7 rfl (WO.index (row := cY a) h0 hr rfl rfl rfl rfl rfl rfl rfl rfl rfl rfl (WO.go rfl ?_)))) | refine W.condT rfl ?_ | refine W.condF rfl ?_ | refine W.seq ?_ | refine W.block ?_ | refine W.skip ?_ | refine WO.nil ?_ | refine WD.nil (WO.go rfl ?_) | refine W.region rfl (WO.go rfl ?_) | refine W.draw (id := 6) 20 [] rfl (by decide +kernel) rfl (WD.go rfl ?_) | refine W.draw (id := 22) 15 [] rfl (by decide +kernel) rfl (WD.go rfl ?_) | refine W.draw (id := 28) 4 [] rfl (by decide +kernel) rfl (WD.go rfl ?_) | refine W.draw (id := 32) 26 [] rfl (by decide +kernel) rfl (WD.go rfl ?_) | refine W.draw (id := 38) 11 [] rfl (by decide +kernel) rfl (WD.go rfl ?_) | refine W.draw (id := 42) 28 [] rfl (by decide +kernel) rfl (WD.go rfl ?_) | refine W.draw (id := 46) 10 [] rfl (by decide +kernel) rfl (WD.go rfl ?_) | refine WO.gives hcp rfl rfl rfl rfl rfl rfl rfl rfl rfl (WO.go rfl ?_) | refine WD.gives hcp rfl rfl rfl rfl rfl rfl rfl rfl rfl (WD.go rfl ?_) | refine WO.append0 rfl rfl rfl rfl rfl rfl rfl rfl rfl (WO.go rfl ?_) | refine WO.appendF (by simp) (by exact lens_ok rfl) (by exact lens_ok rfl) (by first | decide | simp) (by first | decide | simp) rfl rfl rfl rfl rfl rfl rfl rfl rfl rfl (WO.go rfl ?_) | refine WO.appendI (by simp) (by exact lens_ok rfl) (by first | decide | simp) (by first | decide | simp) rfl rfl rfl rfl rfl rfl rfl rfl rfl rfl (WO.go rfl ?_) | refine W.loop ?_ | refine W.exit ?_)
    exact W.ret (.ret [_, _] rfl rfl)
  | @lm G s b x h hs2 ih =>
    intro g hg hs
    simp only [T.size] at hs
    simp only [Y.size] at hs2
    obtain ⟨b1, i1⟩ := ih (g ++ [s]) (by simp [hg]) (by simp; omega)
    rw [List.map_append] at i1
    have hgl : (g.map cY).length ≤ 1000000 := by simp; omega
    have hL : Lens 2 (g.map cY) := Lens.map (fun _ => rfl)
    have hf := fun_W (X := X) s b
    have SL : True := trivial
    cases b1 with
    | false =>
      refine ⟨false, ?_⟩
      simp only [rIn] at *
      refine givesW (fn := Tryz.f202) Tryz.func202 rfl rfl rfl ?_
      repeat (first | (refine W.draw (id := 6) 20 [] rfl (by decide +kernel) rfl (WD.steps 5 rfl (WD.slice3 (rows := g.map cY) (k := .i64) (k2 := .i64) (n := ((g.map cY).length : Nat)) (n2 := ((g.map cY).length : Nat)) rfl rfl hL rfl rfl rfl rfl rfl rfl rfl rfl rfl rfl (WD.go rfl ?_)))) | (refine WD.appendF (by simp) hL (by exact lens_ok rfl) (by show ((g.map cY).length + 1) * 32 ≤ 140737488355328; omega) (by show (g.map cY).length + 1 ≤ 9223372036854775807; omega) rfl rfl rfl rfl rfl rfl rfl rfl rfl rfl (WD.go rfl ?_)) | refine W.condT rfl ?_ | refine W.condF rfl ?_ | refine W.seq ?_ | refine W.block ?_ | refine W.skip ?_ | refine WO.nil ?_ | refine WD.nil (WO.go rfl ?_) | refine W.region rfl (WO.go rfl ?_) | refine W.draw (id := 6) 20 [] rfl (by decide +kernel) rfl (WD.go rfl ?_) | refine W.draw (id := 22) 15 [] rfl (by decide +kernel) rfl (WD.go rfl ?_) | refine W.draw (id := 28) 4 [] rfl (by decide +kernel) rfl (WD.go rfl ?_) | refine W.draw (id := 32) 26 [] rfl (by decide +kernel) rfl (WD.go rfl ?_) | refine W.draw (id := 38) 11 [] rfl (by decide +kernel) rfl (WD.go rfl ?_) | refine W.draw (id := 42) 28 [] rfl (by decide +kernel) rfl (WD.go rfl ?_) | refine W.draw (id := 46) 10 [] rfl (by decide +kernel) rfl (WD.go rfl ?_) | refine WO.givesT i1 rfl rfl rfl rfl rfl rfl rfl rfl rfl (WO.go rfl ?_) | refine WD.givesT i1 rfl rfl rfl rfl rfl rfl rfl rfl rfl (WD.go rfl ?_) | refine WO.append0 rfl rfl rfl rfl rfl rfl rfl rfl rfl (WO.go rfl ?_) | refine WO.appendF (by simp) (by exact lens_ok rfl) (by exact lens_ok rfl) (by first | decide | simp) (by first | decide | simp) rfl rfl rfl rfl rfl rfl rfl rfl rfl rfl (WO.go rfl ?_) | refine WO.appendI (by simp) (by exact lens_ok rfl) (by first | decide | simp) (by first | decide | simp) rfl rfl rfl rfl rfl rfl rfl rfl rfl rfl (WO.go rfl ?_) | refine W.loop ?_ | refine W.exit ?_)
      exact W.ret (.ret [_, _] rfl rfl)
    | true =>
      obtain ⟨bo, ho⟩ := ok02_W (X := X) (.fn s b) (by simp only [Y.size]; omega)
      refine ⟨bo, ?_⟩
      cases bo <;> simp only [rIn] at * <;>
      · refine givesW (fn := Tryz.f202) Tryz.func202 rfl rfl rfl ?_
        repeat (first | (refine W.draw (id := 6) 20 [] rfl (by decide +kernel) rfl (WD.steps 5 rfl (WD.slice3 (rows := g.map cY) (k := .i64) (k2 := .i64) (n := ((g.map cY).length : Nat)) (n2 := ((g.map cY).length : Nat)) rfl rfl hL rfl rfl rfl rfl rfl rfl rfl rfl rfl rfl (WD.go rfl ?_)))) | (refine WD.appendF (by simp) hL (by exact lens_ok rfl) (by show ((g.map cY).length + 1) * 32 ≤ 140737488355328; omega) (by show (g.map cY).length + 1 ≤ 9223372036854775807; omega) rfl rfl rfl rfl rfl rfl rfl rfl rfl rfl (WD.go rfl ?_)) | refine W.condT rfl ?_ | refine W.condF rfl ?_ | refine W.seq ?_ | refine W.block ?_ | refine W.skip ?_ | refine WO.nil ?_ | refine WD.nil (WO.go rfl ?_) | refine W.region rfl (WO.go rfl ?_) | refine W.draw (id := 6) 20 [] rfl (by decide +kernel) rfl (WD.go rfl ?_) | refine W.draw (id := 22) 15 [] rfl (by decide +kernel) rfl (WD.go rfl ?_) | refine W.draw (id := 28) 4 [] rfl (by decide +kernel) rfl (WD.go rfl ?_) | refine W.draw (id := 32) 26 [] rfl (by decide +kernel) rfl (WD.go rfl ?_) | refine W.draw (id := 38) 11 [] rfl (by decide +kernel) rfl (WD.go rfl ?_) | refine W.draw (id := 42) 28 [] rfl (by decide +kernel) rfl (WD.go rfl ?_) | refine W.draw (id := 46) 10 [] rfl (by decide +kernel) rfl (WD.go rfl ?_) | refine WO.givesT i1 rfl rfl rfl rfl rfl rfl rfl rfl rfl (WO.go rfl ?_) | refine WD.givesT i1 rfl rfl rfl rfl rfl rfl rfl rfl rfl (WD.go rfl ?_) | refine WO.gives hf rfl rfl rfl rfl rfl rfl rfl rfl rfl (WO.go rfl ?_) | refine WD.gives hf rfl rfl rfl rfl rfl rfl rfl rfl rfl (WD.go rfl ?_) | refine WO.givesT ho rfl rfl rfl rfl rfl rfl rfl rfl rfl (WO.go rfl ?_) | refine WD.givesT ho rfl rfl rfl rfl rfl rfl rfl rfl rfl (WD.go rfl ?_) | refine WO.append0 rfl rfl rfl rfl rfl rfl rfl rfl rfl (WO.go rfl ?_) | refine WO.appendF (by simp) (by exact lens_ok rfl) (by exact lens_ok rfl) (by first | decide | simp) (by first | decide | simp) rfl rfl rfl rfl rfl rfl rfl rfl rfl rfl (WO.go rfl ?_) | refine WO.appendI (by simp) (by exact lens_ok rfl) (by first | decide | simp) (by first | decide | simp) rfl rfl rfl rfl rfl rfl rfl rfl rfl rfl (WO.go rfl ?_) | refine W.loop ?_ | refine W.exit ?_)
        exact W.ret (.ret [_, _] rfl rfl)
  | @ap G s b f x h h2 ih1 ih2 =>
    intro g hg hs
    obtain ⟨b0, i0⟩ := ih1 g hg (by simp only [T.size] at hs ⊢; omega)
    cases b0 with
    | false =>
      refine ⟨false, ?_⟩
      simp only [rIn] at *
      refine givesW (fn := Tryz.f202) Tryz.func202 rfl rfl rfl ?_
      repeat (first | refine W.condT rfl ?_ | refine W.condF rfl ?_ | refine W.seq ?_ | refine W.block ?_ | refine W.skip ?_ | refine WO.nil ?_ | refine WD.nil (WO.go rfl ?_) | refine W.region rfl (WO.go rfl ?_) | refine W.draw (id := 6) 20 [] rfl (by decide +kernel) rfl (WD.go rfl ?_) | refine W.draw (id := 22) 15 [] rfl (by decide +kernel) rfl (WD.go rfl ?_) | refine W.draw (id := 28) 4 [] rfl (by decide +kernel) rfl (WD.go rfl ?_) | refine W.draw (id := 32) 26 [] rfl (by decide +kernel) rfl (WD.go rfl ?_) | refine W.draw (id := 38) 11 [] rfl (by decide +kernel) rfl (WD.go rfl ?_) | refine W.draw (id := 42) 28 [] rfl (by decide +kernel) rfl (WD.go rfl ?_) | refine W.draw (id := 46) 10 [] rfl (by decide +kernel) rfl (WD.go rfl ?_) | refine WO.givesT i0 rfl rfl rfl rfl rfl rfl rfl rfl rfl (WO.go rfl ?_) | refine WD.givesT i0 rfl rfl rfl rfl rfl rfl rfl rfl rfl (WD.go rfl ?_) | refine WO.append0 rfl rfl rfl rfl rfl rfl rfl rfl rfl (WO.go rfl ?_) | refine WO.appendF (by simp) (by exact lens_ok rfl) (by exact lens_ok rfl) (by first | decide | simp) (by first | decide | simp) rfl rfl rfl rfl rfl rfl rfl rfl rfl rfl (WO.go rfl ?_) | refine WO.appendI (by simp) (by exact lens_ok rfl) (by first | decide | simp) (by first | decide | simp) rfl rfl rfl rfl rfl rfl rfl rfl rfl rfl (WO.go rfl ?_) | refine W.loop ?_ | refine W.exit ?_)
      exact W.ret (.ret [_, _] rfl rfl)
    | true =>
      obtain ⟨b1, i1⟩ := ih2 g hg (by simp only [T.size] at hs ⊢; omega)
      cases b1 with
      | false =>
        refine ⟨false, ?_⟩
        simp only [rIn] at *
        refine givesW (fn := Tryz.f202) Tryz.func202 rfl rfl rfl ?_
        repeat (first | refine W.condT rfl ?_ | refine W.condF rfl ?_ | refine W.seq ?_ | refine W.block ?_ | refine W.skip ?_ | refine WO.nil ?_ | refine WD.nil (WO.go rfl ?_) | refine W.region rfl (WO.go rfl ?_) | refine W.draw (id := 6) 20 [] rfl (by decide +kernel) rfl (WD.go rfl ?_) | refine W.draw (id := 22) 15 [] rfl (by decide +kernel) rfl (WD.go rfl ?_) | refine W.draw (id := 28) 4 [] rfl (by decide +kernel) rfl (WD.go rfl ?_) | refine W.draw (id := 32) 26 [] rfl (by decide +kernel) rfl (WD.go rfl ?_) | refine W.draw (id := 38) 11 [] rfl (by decide +kernel) rfl (WD.go rfl ?_) | refine W.draw (id := 42) 28 [] rfl (by decide +kernel) rfl (WD.go rfl ?_) | refine W.draw (id := 46) 10 [] rfl (by decide +kernel) rfl (WD.go rfl ?_) | refine WO.givesT i0 rfl rfl rfl rfl rfl rfl rfl rfl rfl (WO.go rfl ?_) | refine WD.givesT i0 rfl rfl rfl rfl rfl rfl rfl rfl rfl (WD.go rfl ?_) | refine WO.givesT i1 rfl rfl rfl rfl rfl rfl rfl rfl rfl (WO.go rfl ?_) | refine WD.givesT i1 rfl rfl rfl rfl rfl rfl rfl rfl rfl (WD.go rfl ?_) | refine WO.append0 rfl rfl rfl rfl rfl rfl rfl rfl rfl (WO.go rfl ?_) | refine WO.appendF (by simp) (by exact lens_ok rfl) (by exact lens_ok rfl) (by first | decide | simp) (by first | decide | simp) rfl rfl rfl rfl rfl rfl rfl rfl rfl rfl (WO.go rfl ?_) | refine WO.appendI (by simp) (by exact lens_ok rfl) (by first | decide | simp) (by first | decide | simp) rfl rfl rfl rfl rfl rfl rfl rfl rfl rfl (WO.go rfl ?_) | refine W.loop ?_ | refine W.exit ?_)
        exact W.ret (.ret [_, _] rfl rfl)
      | true =>
        refine ⟨true, ?_⟩
        simp only [rIn] at *
        refine givesW (fn := Tryz.f202) Tryz.func202 rfl rfl rfl ?_
        repeat (first | refine W.condT rfl ?_ | refine W.condF rfl ?_ | refine W.seq ?_ | refine W.block ?_ | refine W.skip ?_ | refine WO.nil ?_ | refine WD.nil (WO.go rfl ?_) | refine W.region rfl (WO.go rfl ?_) | refine W.draw (id := 6) 20 [] rfl (by decide +kernel) rfl (WD.go rfl ?_) | refine W.draw (id := 22) 15 [] rfl (by decide +kernel) rfl (WD.go rfl ?_) | refine W.draw (id := 28) 4 [] rfl (by decide +kernel) rfl (WD.go rfl ?_) | refine W.draw (id := 32) 26 [] rfl (by decide +kernel) rfl (WD.go rfl ?_) | refine W.draw (id := 38) 11 [] rfl (by decide +kernel) rfl (WD.go rfl ?_) | refine W.draw (id := 42) 28 [] rfl (by decide +kernel) rfl (WD.go rfl ?_) | refine W.draw (id := 46) 10 [] rfl (by decide +kernel) rfl (WD.go rfl ?_) | refine WO.givesT i0 rfl rfl rfl rfl rfl rfl rfl rfl rfl (WO.go rfl ?_) | refine WD.givesT i0 rfl rfl rfl rfl rfl rfl rfl rfl rfl (WD.go rfl ?_) | refine WO.givesT i1 rfl rfl rfl rfl rfl rfl rfl rfl rfl (WO.go rfl ?_) | refine WD.givesT i1 rfl rfl rfl rfl rfl rfl rfl rfl rfl (WD.go rfl ?_) | refine WO.gives nat_W rfl rfl rfl rfl rfl rfl rfl rfl rfl (WO.go rfl ?_) | refine WD.gives nat_W rfl rfl rfl rfl rfl rfl rfl rfl rfl (WD.go rfl ?_) | refine WO.gives list_W rfl rfl rfl rfl rfl rfl rfl rfl rfl (WO.go rfl ?_) | refine WD.gives list_W rfl rfl rfl rfl rfl rfl rfl rfl rfl (WD.go rfl ?_) | refine WO.gives (same1_W s) rfl rfl rfl rfl rfl rfl rfl rfl rfl (WO.go rfl ?_) | refine WD.gives (same1_W s) rfl rfl rfl rfl rfl rfl rfl rfl rfl (WD.go rfl ?_) | refine WO.append0 rfl rfl rfl rfl rfl rfl rfl rfl rfl (WO.go rfl ?_) | refine WO.appendF (by simp) (by exact lens_ok rfl) (by exact lens_ok rfl) (by first | decide | simp) (by first | decide | simp) rfl rfl rfl rfl rfl rfl rfl rfl rfl rfl (WO.go rfl ?_) | refine WO.appendI (by simp) (by exact lens_ok rfl) (by first | decide | simp) (by first | decide | simp) rfl rfl rfl rfl rfl rfl rfl rfl rfl rfl (WO.go rfl ?_) | refine W.loop ?_ | refine W.exit ?_)
        exact W.ret (.ret [_, _] rfl rfl)
  | ze =>
    intro g hg hs
    refine ⟨true, ?_⟩
    simp only [rIn] at *
    refine givesW (fn := Tryz.f202) Tryz.func202 rfl rfl rfl ?_
    repeat (first | refine W.condT rfl ?_ | refine W.condF rfl ?_ | refine W.seq ?_ | refine W.block ?_ | refine W.skip ?_ | refine WO.nil ?_ | refine WD.nil (WO.go rfl ?_) | refine W.region rfl (WO.go rfl ?_) | refine W.draw (id := 6) 20 [] rfl (by decide +kernel) rfl (WD.go rfl ?_) | refine W.draw (id := 22) 15 [] rfl (by decide +kernel) rfl (WD.go rfl ?_) | refine W.draw (id := 28) 4 [] rfl (by decide +kernel) rfl (WD.go rfl ?_) | refine W.draw (id := 32) 26 [] rfl (by decide +kernel) rfl (WD.go rfl ?_) | refine W.draw (id := 38) 11 [] rfl (by decide +kernel) rfl (WD.go rfl ?_) | refine W.draw (id := 42) 28 [] rfl (by decide +kernel) rfl (WD.go rfl ?_) | refine W.draw (id := 46) 10 [] rfl (by decide +kernel) rfl (WD.go rfl ?_) | refine WO.gives nat_W rfl rfl rfl rfl rfl rfl rfl rfl rfl (WO.go rfl ?_) | refine WD.gives nat_W rfl rfl rfl rfl rfl rfl rfl rfl rfl (WD.go rfl ?_) | refine WO.gives list_W rfl rfl rfl rfl rfl rfl rfl rfl rfl (WO.go rfl ?_) | refine WD.gives list_W rfl rfl rfl rfl rfl rfl rfl rfl rfl (WD.go rfl ?_) | refine WO.append0 rfl rfl rfl rfl rfl rfl rfl rfl rfl (WO.go rfl ?_) | refine WO.appendF (by simp) (by exact lens_ok rfl) (by exact lens_ok rfl) (by first | decide | simp) (by first | decide | simp) rfl rfl rfl rfl rfl rfl rfl rfl rfl rfl (WO.go rfl ?_) | refine WO.appendI (by simp) (by exact lens_ok rfl) (by first | decide | simp) (by first | decide | simp) rfl rfl rfl rfl rfl rfl rfl rfl rfl rfl (WO.go rfl ?_) | refine W.loop ?_ | refine W.exit ?_)
    exact W.ret (.ret [_, _] rfl rfl)
  | @su G x h ih =>
    intro g hg hs
    obtain ⟨b0, i0⟩ := ih g hg (by simp only [T.size] at hs ⊢; omega)
    cases b0 with
    | false =>
      refine ⟨false, ?_⟩
      simp only [rIn] at *
      refine givesW (fn := Tryz.f202) Tryz.func202 rfl rfl rfl ?_
      repeat (first | refine W.condT rfl ?_ | refine W.condF rfl ?_ | refine W.seq ?_ | refine W.block ?_ | refine W.skip ?_ | refine WO.nil ?_ | refine WD.nil (WO.go rfl ?_) | refine W.region rfl (WO.go rfl ?_) | refine W.draw (id := 6) 20 [] rfl (by decide +kernel) rfl (WD.go rfl ?_) | refine W.draw (id := 22) 15 [] rfl (by decide +kernel) rfl (WD.go rfl ?_) | refine W.draw (id := 28) 4 [] rfl (by decide +kernel) rfl (WD.go rfl ?_) | refine W.draw (id := 32) 26 [] rfl (by decide +kernel) rfl (WD.go rfl ?_) | refine W.draw (id := 38) 11 [] rfl (by decide +kernel) rfl (WD.go rfl ?_) | refine W.draw (id := 42) 28 [] rfl (by decide +kernel) rfl (WD.go rfl ?_) | refine W.draw (id := 46) 10 [] rfl (by decide +kernel) rfl (WD.go rfl ?_) | refine WO.givesT i0 rfl rfl rfl rfl rfl rfl rfl rfl rfl (WO.go rfl ?_) | refine WD.givesT i0 rfl rfl rfl rfl rfl rfl rfl rfl rfl (WD.go rfl ?_) | refine WO.append0 rfl rfl rfl rfl rfl rfl rfl rfl rfl (WO.go rfl ?_) | refine WO.appendF (by simp) (by exact lens_ok rfl) (by exact lens_ok rfl) (by first | decide | simp) (by first | decide | simp) rfl rfl rfl rfl rfl rfl rfl rfl rfl rfl (WO.go rfl ?_) | refine WO.appendI (by simp) (by exact lens_ok rfl) (by first | decide | simp) (by first | decide | simp) rfl rfl rfl rfl rfl rfl rfl rfl rfl rfl (WO.go rfl ?_) | refine W.loop ?_ | refine W.exit ?_)
      exact W.ret (.ret [_, _] rfl rfl)
    | true =>
      refine ⟨true, ?_⟩
      simp only [rIn] at *
      refine givesW (fn := Tryz.f202) Tryz.func202 rfl rfl rfl ?_
      repeat (first | refine W.condT rfl ?_ | refine W.condF rfl ?_ | refine W.seq ?_ | refine W.block ?_ | refine W.skip ?_ | refine WO.nil ?_ | refine WD.nil (WO.go rfl ?_) | refine W.region rfl (WO.go rfl ?_) | refine W.draw (id := 6) 20 [] rfl (by decide +kernel) rfl (WD.go rfl ?_) | refine W.draw (id := 22) 15 [] rfl (by decide +kernel) rfl (WD.go rfl ?_) | refine W.draw (id := 28) 4 [] rfl (by decide +kernel) rfl (WD.go rfl ?_) | refine W.draw (id := 32) 26 [] rfl (by decide +kernel) rfl (WD.go rfl ?_) | refine W.draw (id := 38) 11 [] rfl (by decide +kernel) rfl (WD.go rfl ?_) | refine W.draw (id := 42) 28 [] rfl (by decide +kernel) rfl (WD.go rfl ?_) | refine W.draw (id := 46) 10 [] rfl (by decide +kernel) rfl (WD.go rfl ?_) | refine WO.givesT i0 rfl rfl rfl rfl rfl rfl rfl rfl rfl (WO.go rfl ?_) | refine WD.givesT i0 rfl rfl rfl rfl rfl rfl rfl rfl rfl (WD.go rfl ?_) | refine WO.gives nat_W rfl rfl rfl rfl rfl rfl rfl rfl rfl (WO.go rfl ?_) | refine WD.gives nat_W rfl rfl rfl rfl rfl rfl rfl rfl rfl (WD.go rfl ?_) | refine WO.gives list_W rfl rfl rfl rfl rfl rfl rfl rfl rfl (WO.go rfl ?_) | refine WD.gives list_W rfl rfl rfl rfl rfl rfl rfl rfl rfl (WD.go rfl ?_) | refine WO.gives (same1_W .nat) rfl rfl rfl rfl rfl rfl rfl rfl rfl (WO.go rfl ?_) | refine WD.gives (same1_W .nat) rfl rfl rfl rfl rfl rfl rfl rfl rfl (WD.go rfl ?_) | refine WO.append0 rfl rfl rfl rfl rfl rfl rfl rfl rfl (WO.go rfl ?_) | refine WO.appendF (by simp) (by exact lens_ok rfl) (by exact lens_ok rfl) (by first | decide | simp) (by first | decide | simp) rfl rfl rfl rfl rfl rfl rfl rfl rfl rfl (WO.go rfl ?_) | refine WO.appendI (by simp) (by exact lens_ok rfl) (by first | decide | simp) (by first | decide | simp) rfl rfl rfl rfl rfl rfl rfl rfl rfl rfl (WO.go rfl ?_) | refine W.loop ?_ | refine W.exit ?_)
      exact W.ret (.ret [_, _] rfl rfl)
  | @rc G s b f n hb hf hn hs2 ih1 ih2 ih3 =>
    intro g hg hs
    obtain ⟨b0, i0⟩ := ih1 g hg (by simp only [T.size] at hs ⊢; omega)
    cases b0 with
    | false =>
      refine ⟨false, ?_⟩
      simp only [rIn] at *
      refine givesW (fn := Tryz.f202) Tryz.func202 rfl rfl rfl ?_
      repeat (first | refine W.condT rfl ?_ | refine W.condF rfl ?_ | refine W.seq ?_ | refine W.block ?_ | refine W.skip ?_ | refine WO.nil ?_ | refine WD.nil (WO.go rfl ?_) | refine W.region rfl (WO.go rfl ?_) | refine W.draw (id := 6) 20 [] rfl (by decide +kernel) rfl (WD.go rfl ?_) | refine W.draw (id := 22) 15 [] rfl (by decide +kernel) rfl (WD.go rfl ?_) | refine W.draw (id := 28) 4 [] rfl (by decide +kernel) rfl (WD.go rfl ?_) | refine W.draw (id := 32) 26 [] rfl (by decide +kernel) rfl (WD.go rfl ?_) | refine W.draw (id := 38) 11 [] rfl (by decide +kernel) rfl (WD.go rfl ?_) | refine W.draw (id := 42) 28 [] rfl (by decide +kernel) rfl (WD.go rfl ?_) | refine W.draw (id := 46) 10 [] rfl (by decide +kernel) rfl (WD.go rfl ?_) | refine WO.givesT i0 rfl rfl rfl rfl rfl rfl rfl rfl rfl (WO.go rfl ?_) | refine WD.givesT i0 rfl rfl rfl rfl rfl rfl rfl rfl rfl (WD.go rfl ?_) | refine WO.append0 rfl rfl rfl rfl rfl rfl rfl rfl rfl (WO.go rfl ?_) | refine WO.appendF (by simp) (by exact lens_ok rfl) (by exact lens_ok rfl) (by first | decide | simp) (by first | decide | simp) rfl rfl rfl rfl rfl rfl rfl rfl rfl rfl (WO.go rfl ?_) | refine WO.appendI (by simp) (by exact lens_ok rfl) (by first | decide | simp) (by first | decide | simp) rfl rfl rfl rfl rfl rfl rfl rfl rfl rfl (WO.go rfl ?_) | refine W.loop ?_ | refine W.exit ?_)
      exact W.ret (.ret [_, _] rfl rfl)
    | true =>
      obtain ⟨b1, i1⟩ := ih2 g hg (by simp only [T.size] at hs ⊢; omega)
      cases b1 with
      | false =>
        refine ⟨false, ?_⟩
        simp only [rIn] at *
        refine givesW (fn := Tryz.f202) Tryz.func202 rfl rfl rfl ?_
        repeat (first | refine W.condT rfl ?_ | refine W.condF rfl ?_ | refine W.seq ?_ | refine W.block ?_ | refine W.skip ?_ | refine WO.nil ?_ | refine WD.nil (WO.go rfl ?_) | refine W.region rfl (WO.go rfl ?_) | refine W.draw (id := 6) 20 [] rfl (by decide +kernel) rfl (WD.go rfl ?_) | refine W.draw (id := 22) 15 [] rfl (by decide +kernel) rfl (WD.go rfl ?_) | refine W.draw (id := 28) 4 [] rfl (by decide +kernel) rfl (WD.go rfl ?_) | refine W.draw (id := 32) 26 [] rfl (by decide +kernel) rfl (WD.go rfl ?_) | refine W.draw (id := 38) 11 [] rfl (by decide +kernel) rfl (WD.go rfl ?_) | refine W.draw (id := 42) 28 [] rfl (by decide +kernel) rfl (WD.go rfl ?_) | refine W.draw (id := 46) 10 [] rfl (by decide +kernel) rfl (WD.go rfl ?_) | refine WO.givesT i0 rfl rfl rfl rfl rfl rfl rfl rfl rfl (WO.go rfl ?_) | refine WD.givesT i0 rfl rfl rfl rfl rfl rfl rfl rfl rfl (WD.go rfl ?_) | refine WO.givesT i1 rfl rfl rfl rfl rfl rfl rfl rfl rfl (WO.go rfl ?_) | refine WD.givesT i1 rfl rfl rfl rfl rfl rfl rfl rfl rfl (WD.go rfl ?_) | refine WO.append0 rfl rfl rfl rfl rfl rfl rfl rfl rfl (WO.go rfl ?_) | refine WO.appendF (by simp) (by exact lens_ok rfl) (by exact lens_ok rfl) (by first | decide | simp) (by first | decide | simp) rfl rfl rfl rfl rfl rfl rfl rfl rfl rfl (WO.go rfl ?_) | refine WO.appendI (by simp) (by exact lens_ok rfl) (by first | decide | simp) (by first | decide | simp) rfl rfl rfl rfl rfl rfl rfl rfl rfl rfl (WO.go rfl ?_) | refine W.loop ?_ | refine W.exit ?_)
        exact W.ret (.ret [_, _] rfl rfl)
      | true =>
        obtain ⟨b2, i2⟩ := ih3 g hg (by simp only [T.size] at hs ⊢; omega)
        cases b2 with
        | false =>
          refine ⟨false, ?_⟩
          simp only [rIn] at *
          refine givesW (fn := Tryz.f202) Tryz.func202 rfl rfl rfl ?_
          repeat (first | refine W.condT rfl ?_ | refine W.condF rfl ?_ | refine W.seq ?_ | refine W.block ?_ | refine W.skip ?_ | refine WO.nil ?_ | refine WD.nil (WO.go rfl ?_) | refine W.region rfl (WO.go rfl ?_) | refine W.draw (id := 6) 20 [] rfl (by decide +kernel) rfl (WD.go rfl ?_) | refine W.draw (id := 22) 15 [] rfl (by decide +kernel) rfl (WD.go rfl ?_) | refine W.draw (id := 28) 4 [] rfl (by decide +kernel) rfl (WD.go rfl ?_) | refine W.draw (id := 32) 26 [] rfl (by decide +kernel) rfl (WD.go rfl ?_) | refine W.draw (id := 38) 11 [] rfl (by decide +kernel) rfl (WD.go rfl ?_) | refine W.draw (id := 42) 28 [] rfl (by decide +kernel) rfl (WD.go rfl ?_) | refine W.draw (id := 46) 10 [] rfl (by decide +kernel) rfl (WD.go rfl ?_) | refine WO.givesT i0 rfl rfl rfl rfl rfl rfl rfl rfl rfl (WO.go rfl ?_) | refine WD.givesT i0 rfl rfl rfl rfl rfl rfl rfl rfl rfl (WD.go rfl ?_) | refine WO.givesT i1 rfl rfl rfl rfl rfl rfl rfl rfl rfl (WO.go rfl ?_) | refine WD.givesT i1 rfl rfl rfl rfl rfl rfl rfl rfl rfl (WD.go rfl ?_) | refine WO.givesT i2 rfl rfl rfl rfl rfl rfl rfl rfl rfl (WO.go rfl ?_) | refine WD.givesT i2 rfl rfl rfl rfl rfl rfl rfl rfl rfl (WD.go rfl ?_) | refine WO.append0 rfl rfl rfl rfl rfl rfl rfl rfl rfl (WO.go rfl ?_) | refine WO.appendF (by simp) (by exact lens_ok rfl) (by exact lens_ok rfl) (by first | decide | simp) (by first | decide | simp) rfl rfl rfl rfl rfl rfl rfl rfl rfl rfl (WO.go rfl ?_) | refine WO.appendI (by simp) (by exact lens_ok rfl) (by first | decide | simp) (by first | decide | simp) rfl rfl rfl rfl rfl rfl rfl rfl rfl rfl (WO.go rfl ?_) | refine W.loop ?_ | refine W.exit ?_)
          exact W.ret (.ret [_, _] rfl rfl)
        | true =>
          refine ⟨true, ?_⟩
          simp only [rIn] at *
          refine givesW (fn := Tryz.f202) Tryz.func202 rfl rfl rfl ?_
          repeat (first | refine W.condT rfl ?_ | refine W.condF rfl ?_ | refine W.seq ?_ | refine W.block ?_ | refine W.skip ?_ | refine WO.nil ?_ | refine WD.nil (WO.go rfl ?_) | refine W.region rfl (WO.go rfl ?_) | refine W.draw (id := 6) 20 [] rfl (by decide +kernel) rfl (WD.go rfl ?_) | refine W.draw (id := 22) 15 [] rfl (by decide +kernel) rfl (WD.go rfl ?_) | refine W.draw (id := 28) 4 [] rfl (by decide +kernel) rfl (WD.go rfl ?_) | refine W.draw (id := 32) 26 [] rfl (by decide +kernel) rfl (WD.go rfl ?_) | refine W.draw (id := 38) 11 [] rfl (by decide +kernel) rfl (WD.go rfl ?_) | refine W.draw (id := 42) 28 [] rfl (by decide +kernel) rfl (WD.go rfl ?_) | refine W.draw (id := 46) 10 [] rfl (by decide +kernel) rfl (WD.go rfl ?_) | refine WO.givesT i0 rfl rfl rfl rfl rfl rfl rfl rfl rfl (WO.go rfl ?_) | refine WD.givesT i0 rfl rfl rfl rfl rfl rfl rfl rfl rfl (WD.go rfl ?_) | refine WO.givesT i1 rfl rfl rfl rfl rfl rfl rfl rfl rfl (WO.go rfl ?_) | refine WD.givesT i1 rfl rfl rfl rfl rfl rfl rfl rfl rfl (WD.go rfl ?_) | refine WO.givesT i2 rfl rfl rfl rfl rfl rfl rfl rfl rfl (WO.go rfl ?_) | refine WD.givesT i2 rfl rfl rfl rfl rfl rfl rfl rfl rfl (WD.go rfl ?_) | refine WO.gives nat_W rfl rfl rfl rfl rfl rfl rfl rfl rfl (WO.go rfl ?_) | refine WD.gives nat_W rfl rfl rfl rfl rfl rfl rfl rfl rfl (WD.go rfl ?_) | refine WO.gives list_W rfl rfl rfl rfl rfl rfl rfl rfl rfl (WO.go rfl ?_) | refine WD.gives list_W rfl rfl rfl rfl rfl rfl rfl rfl rfl (WD.go rfl ?_) | refine WO.gives (same1_W s) rfl rfl rfl rfl rfl rfl rfl rfl rfl (WO.go rfl ?_) | refine WD.gives (same1_W s) rfl rfl rfl rfl rfl rfl rfl rfl rfl (WD.go rfl ?_) | refine WO.gives (fun_W s s) rfl rfl rfl rfl rfl rfl rfl rfl rfl (WO.go rfl ?_) | refine WD.gives (fun_W s s) rfl rfl rfl rfl rfl rfl rfl rfl rfl (WD.go rfl ?_) | refine WO.gives (fun_W .nat (.fn s s)) rfl rfl rfl rfl rfl rfl rfl rfl rfl (WO.go rfl ?_) | refine WD.gives (fun_W .nat (.fn s s)) rfl rfl rfl rfl rfl rfl rfl rfl rfl (WD.go rfl ?_) | refine WO.gives (same1_W (.fn .nat (.fn s s))) rfl rfl rfl rfl rfl rfl rfl rfl rfl (WO.go rfl ?_) | refine WD.gives (same1_W (.fn .nat (.fn s s))) rfl rfl rfl rfl rfl rfl rfl rfl rfl (WD.go rfl ?_) | refine WO.gives (same1_W .nat) rfl rfl rfl rfl rfl rfl rfl rfl rfl (WO.go rfl ?_) | refine WD.gives (same1_W .nat) rfl rfl rfl rfl rfl rfl rfl rfl rfl (WD.go rfl ?_) | refine WO.gives (copyY_W s) rfl rfl rfl rfl rfl rfl rfl rfl rfl (WO.go rfl ?_) | refine WD.gives (copyY_W s) rfl rfl rfl rfl rfl rfl rfl rfl rfl (WD.go rfl ?_) | refine WO.append0 rfl rfl rfl rfl rfl rfl rfl rfl rfl (WO.go rfl ?_) | refine WO.appendF (by simp) (by exact lens_ok rfl) (by exact lens_ok rfl) (by first | decide | simp) (by first | decide | simp) rfl rfl rfl rfl rfl rfl rfl rfl rfl rfl (WO.go rfl ?_) | refine WO.appendI (by simp) (by exact lens_ok rfl) (by first | decide | simp) (by first | decide | simp) rfl rfl rfl rfl rfl rfl rfl rfl rfl rfl (WO.go rfl ?_) | refine W.loop ?_ | refine W.exit ?_)
          exact W.ret (.ret [_, _] rfl rfl)
  | nl =>
    intro g hg hs
    refine ⟨true, ?_⟩
    simp only [rIn] at *
    refine givesW (fn := Tryz.f202) Tryz.func202 rfl rfl rfl ?_
    repeat (first | refine W.condT rfl ?_ | refine W.condF rfl ?_ | refine W.seq ?_ | refine W.block ?_ | refine W.skip ?_ | refine WO.nil ?_ | refine WD.nil (WO.go rfl ?_) | refine W.region rfl (WO.go rfl ?_) | refine W.draw (id := 6) 20 [] rfl (by decide +kernel) rfl (WD.go rfl ?_) | refine W.draw (id := 22) 15 [] rfl (by decide +kernel) rfl (WD.go rfl ?_) | refine W.draw (id := 28) 4 [] rfl (by decide +kernel) rfl (WD.go rfl ?_) | refine W.draw (id := 32) 26 [] rfl (by decide +kernel) rfl (WD.go rfl ?_) | refine W.draw (id := 38) 11 [] rfl (by decide +kernel) rfl (WD.go rfl ?_) | refine W.draw (id := 42) 28 [] rfl (by decide +kernel) rfl (WD.go rfl ?_) | refine W.draw (id := 46) 10 [] rfl (by decide +kernel) rfl (WD.go rfl ?_) | refine WO.gives nat_W rfl rfl rfl rfl rfl rfl rfl rfl rfl (WO.go rfl ?_) | refine WD.gives nat_W rfl rfl rfl rfl rfl rfl rfl rfl rfl (WD.go rfl ?_) | refine WO.gives list_W rfl rfl rfl rfl rfl rfl rfl rfl rfl (WO.go rfl ?_) | refine WD.gives list_W rfl rfl rfl rfl rfl rfl rfl rfl rfl (WD.go rfl ?_) | refine WO.append0 rfl rfl rfl rfl rfl rfl rfl rfl rfl (WO.go rfl ?_) | refine WO.appendF (by simp) (by exact lens_ok rfl) (by exact lens_ok rfl) (by first | decide | simp) (by first | decide | simp) rfl rfl rfl rfl rfl rfl rfl rfl rfl rfl (WO.go rfl ?_) | refine WO.appendI (by simp) (by exact lens_ok rfl) (by first | decide | simp) (by first | decide | simp) rfl rfl rfl rfl rfl rfl rfl rfl rfl rfl (WO.go rfl ?_) | refine W.loop ?_ | refine W.exit ?_)
    exact W.ret (.ret [_, _] rfl rfl)
  | @cn G x y hh hl ih1 ih2 =>
    intro g hg hs
    obtain ⟨b0, i0⟩ := ih1 g hg (by simp only [T.size] at hs ⊢; omega)
    cases b0 with
    | false =>
      refine ⟨false, ?_⟩
      simp only [rIn] at *
      refine givesW (fn := Tryz.f202) Tryz.func202 rfl rfl rfl ?_
      repeat (first | refine W.condT rfl ?_ | refine W.condF rfl ?_ | refine W.seq ?_ | refine W.block ?_ | refine W.skip ?_ | refine WO.nil ?_ | refine WD.nil (WO.go rfl ?_) | refine W.region rfl (WO.go rfl ?_) | refine W.draw (id := 6) 20 [] rfl (by decide +kernel) rfl (WD.go rfl ?_) | refine W.draw (id := 22) 15 [] rfl (by decide +kernel) rfl (WD.go rfl ?_) | refine W.draw (id := 28) 4 [] rfl (by decide +kernel) rfl (WD.go rfl ?_) | refine W.draw (id := 32) 26 [] rfl (by decide +kernel) rfl (WD.go rfl ?_) | refine W.draw (id := 38) 11 [] rfl (by decide +kernel) rfl (WD.go rfl ?_) | refine W.draw (id := 42) 28 [] rfl (by decide +kernel) rfl (WD.go rfl ?_) | refine W.draw (id := 46) 10 [] rfl (by decide +kernel) rfl (WD.go rfl ?_) | refine WO.givesT i0 rfl rfl rfl rfl rfl rfl rfl rfl rfl (WO.go rfl ?_) | refine WD.givesT i0 rfl rfl rfl rfl rfl rfl rfl rfl rfl (WD.go rfl ?_) | refine WO.append0 rfl rfl rfl rfl rfl rfl rfl rfl rfl (WO.go rfl ?_) | refine WO.appendF (by simp) (by exact lens_ok rfl) (by exact lens_ok rfl) (by first | decide | simp) (by first | decide | simp) rfl rfl rfl rfl rfl rfl rfl rfl rfl rfl (WO.go rfl ?_) | refine WO.appendI (by simp) (by exact lens_ok rfl) (by first | decide | simp) (by first | decide | simp) rfl rfl rfl rfl rfl rfl rfl rfl rfl rfl (WO.go rfl ?_) | refine W.loop ?_ | refine W.exit ?_)
      exact W.ret (.ret [_, _] rfl rfl)
    | true =>
      obtain ⟨b1, i1⟩ := ih2 g hg (by simp only [T.size] at hs ⊢; omega)
      cases b1 with
      | false =>
        refine ⟨false, ?_⟩
        simp only [rIn] at *
        refine givesW (fn := Tryz.f202) Tryz.func202 rfl rfl rfl ?_
        repeat (first | refine W.condT rfl ?_ | refine W.condF rfl ?_ | refine W.seq ?_ | refine W.block ?_ | refine W.skip ?_ | refine WO.nil ?_ | refine WD.nil (WO.go rfl ?_) | refine W.region rfl (WO.go rfl ?_) | refine W.draw (id := 6) 20 [] rfl (by decide +kernel) rfl (WD.go rfl ?_) | refine W.draw (id := 22) 15 [] rfl (by decide +kernel) rfl (WD.go rfl ?_) | refine W.draw (id := 28) 4 [] rfl (by decide +kernel) rfl (WD.go rfl ?_) | refine W.draw (id := 32) 26 [] rfl (by decide +kernel) rfl (WD.go rfl ?_) | refine W.draw (id := 38) 11 [] rfl (by decide +kernel) rfl (WD.go rfl ?_) | refine W.draw (id := 42) 28 [] rfl (by decide +kernel) rfl (WD.go rfl ?_) | refine W.draw (id := 46) 10 [] rfl (by decide +kernel) rfl (WD.go rfl ?_) | refine WO.givesT i0 rfl rfl rfl rfl rfl rfl rfl rfl rfl (WO.go rfl ?_) | refine WD.givesT i0 rfl rfl rfl rfl rfl rfl rfl rfl rfl (WD.go rfl ?_) | refine WO.givesT i1 rfl rfl rfl rfl rfl rfl rfl rfl rfl (WO.go rfl ?_) | refine WD.givesT i1 rfl rfl rfl rfl rfl rfl rfl rfl rfl (WD.go rfl ?_) | refine WO.append0 rfl rfl rfl rfl rfl rfl rfl rfl rfl (WO.go rfl ?_) | refine WO.appendF (by simp) (by exact lens_ok rfl) (by exact lens_ok rfl) (by first | decide | simp) (by first | decide | simp) rfl rfl rfl rfl rfl rfl rfl rfl rfl rfl (WO.go rfl ?_) | refine WO.appendI (by simp) (by exact lens_ok rfl) (by first | decide | simp) (by first | decide | simp) rfl rfl rfl rfl rfl rfl rfl rfl rfl rfl (WO.go rfl ?_) | refine W.loop ?_ | refine W.exit ?_)
        exact W.ret (.ret [_, _] rfl rfl)
      | true =>
        refine ⟨true, ?_⟩
        simp only [rIn] at *
        refine givesW (fn := Tryz.f202) Tryz.func202 rfl rfl rfl ?_
        repeat (first | refine W.condT rfl ?_ | refine W.condF rfl ?_ | refine W.seq ?_ | refine W.block ?_ | refine W.skip ?_ | refine WO.nil ?_ | refine WD.nil (WO.go rfl ?_) | refine W.region rfl (WO.go rfl ?_) | refine W.draw (id := 6) 20 [] rfl (by decide +kernel) rfl (WD.go rfl ?_) | refine W.draw (id := 22) 15 [] rfl (by decide +kernel) rfl (WD.go rfl ?_) | refine W.draw (id := 28) 4 [] rfl (by decide +kernel) rfl (WD.go rfl ?_) | refine W.draw (id := 32) 26 [] rfl (by decide +kernel) rfl (WD.go rfl ?_) | refine W.draw (id := 38) 11 [] rfl (by decide +kernel) rfl (WD.go rfl ?_) | refine W.draw (id := 42) 28 [] rfl (by decide +kernel) rfl (WD.go rfl ?_) | refine W.draw (id := 46) 10 [] rfl (by decide +kernel) rfl (WD.go rfl ?_) | refine WO.givesT i0 rfl rfl rfl rfl rfl rfl rfl rfl rfl (WO.go rfl ?_) | refine WD.givesT i0 rfl rfl rfl rfl rfl rfl rfl rfl rfl (WD.go rfl ?_) | refine WO.givesT i1 rfl rfl rfl rfl rfl rfl rfl rfl rfl (WO.go rfl ?_) | refine WD.givesT i1 rfl rfl rfl rfl rfl rfl rfl rfl rfl (WD.go rfl ?_) | refine WO.gives nat_W rfl rfl rfl rfl rfl rfl rfl rfl rfl (WO.go rfl ?_) | refine WD.gives nat_W rfl rfl rfl rfl rfl rfl rfl rfl rfl (WD.go rfl ?_) | refine WO.gives list_W rfl rfl rfl rfl rfl rfl rfl rfl rfl (WO.go rfl ?_) | refine WD.gives list_W rfl rfl rfl rfl rfl rfl rfl rfl rfl (WD.go rfl ?_) | refine WO.gives (same1_W .nat) rfl rfl rfl rfl rfl rfl rfl rfl rfl (WO.go rfl ?_) | refine WD.gives (same1_W .nat) rfl rfl rfl rfl rfl rfl rfl rfl rfl (WD.go rfl ?_) | refine WO.gives (same1_W .list) rfl rfl rfl rfl rfl rfl rfl rfl rfl (WO.go rfl ?_) | refine WD.gives (same1_W .list) rfl rfl rfl rfl rfl rfl rfl rfl rfl (WD.go rfl ?_) | refine WO.append0 rfl rfl rfl rfl rfl rfl rfl rfl rfl (WO.go rfl ?_) | refine WO.appendF (by simp) (by exact lens_ok rfl) (by exact lens_ok rfl) (by first | decide | simp) (by first | decide | simp) rfl rfl rfl rfl rfl rfl rfl rfl rfl rfl (WO.go rfl ?_) | refine WO.appendI (by simp) (by exact lens_ok rfl) (by first | decide | simp) (by first | decide | simp) rfl rfl rfl rfl rfl rfl rfl rfl rfl rfl (WO.go rfl ?_) | refine W.loop ?_ | refine W.exit ?_)
        exact W.ret (.ret [_, _] rfl rfl)
  | @fo G s b f n hb hf hn hs2 ih1 ih2 ih3 =>
    intro g hg hs
    obtain ⟨b0, i0⟩ := ih1 g hg (by simp only [T.size] at hs ⊢; omega)
    cases b0 with
    | false =>
      refine ⟨false, ?_⟩
      simp only [rIn] at *
      refine givesW (fn := Tryz.f202) Tryz.func202 rfl rfl rfl ?_
      repeat (first | refine W.condT rfl ?_ | refine W.condF rfl ?_ | refine W.seq ?_ | refine W.block ?_ | refine W.skip ?_ | refine WO.nil ?_ | refine WD.nil (WO.go rfl ?_) | refine W.region rfl (WO.go rfl ?_) | refine W.draw (id := 6) 20 [] rfl (by decide +kernel) rfl (WD.go rfl ?_) | refine W.draw (id := 22) 15 [] rfl (by decide +kernel) rfl (WD.go rfl ?_) | refine W.draw (id := 28) 4 [] rfl (by decide +kernel) rfl (WD.go rfl ?_) | refine W.draw (id := 32) 26 [] rfl (by decide +kernel) rfl (WD.go rfl ?_) | refine W.draw (id := 38) 11 [] rfl (by decide +kernel) rfl (WD.go rfl ?_) | refine W.draw (id := 42) 28 [] rfl (by decide +kernel) rfl (WD.go rfl ?_) | refine W.draw (id := 46) 10 [] rfl (by decide +kernel) rfl (WD.go rfl ?_) | refine WO.givesT i0 rfl rfl rfl rfl rfl rfl rfl rfl rfl (WO.go rfl ?_) | refine WD.givesT i0 rfl rfl rfl rfl rfl rfl rfl rfl rfl (WD.go rfl ?_) | refine WO.append0 rfl rfl rfl rfl rfl rfl rfl rfl rfl (WO.go rfl ?_) | refine WO.appendF (by simp) (by exact lens_ok rfl) (by exact lens_ok rfl) (by first | decide | simp) (by first | decide | simp) rfl rfl rfl rfl rfl rfl rfl rfl rfl rfl (WO.go rfl ?_) | refine WO.appendI (by simp) (by exact lens_ok rfl) (by first | decide | simp) (by first | decide | simp) rfl rfl rfl rfl rfl rfl rfl rfl rfl rfl (WO.go rfl ?_) | refine W.loop ?_ | refine W.exit ?_)
      exact W.ret (.ret [_, _] rfl rfl)
    | true =>
      obtain ⟨b1, i1⟩ := ih2 g hg (by simp only [T.size] at hs ⊢; omega)
      cases b1 with
      | false =>
        refine ⟨false, ?_⟩
        simp only [rIn] at *
        refine givesW (fn := Tryz.f202) Tryz.func202 rfl rfl rfl ?_
        repeat (first | refine W.condT rfl ?_ | refine W.condF rfl ?_ | refine W.seq ?_ | refine W.block ?_ | refine W.skip ?_ | refine WO.nil ?_ | refine WD.nil (WO.go rfl ?_) | refine W.region rfl (WO.go rfl ?_) | refine W.draw (id := 6) 20 [] rfl (by decide +kernel) rfl (WD.go rfl ?_) | refine W.draw (id := 22) 15 [] rfl (by decide +kernel) rfl (WD.go rfl ?_) | refine W.draw (id := 28) 4 [] rfl (by decide +kernel) rfl (WD.go rfl ?_) | refine W.draw (id := 32) 26 [] rfl (by decide +kernel) rfl (WD.go rfl ?_) | refine W.draw (id := 38) 11 [] rfl (by decide +kernel) rfl (WD.go rfl ?_) | refine W.draw (id := 42) 28 [] rfl (by decide +kernel) rfl (WD.go rfl ?_) | refine W.draw (id := 46) 10 [] rfl (by decide +kernel) rfl (WD.go rfl ?_) | refine WO.givesT i0 rfl rfl rfl rfl rfl rfl rfl rfl rfl (WO.go rfl ?_) | refine WD.givesT i0 rfl rfl rfl rfl rfl rfl rfl rfl rfl (WD.go rfl ?_) | refine WO.givesT i1 rfl rfl rfl rfl rfl rfl rfl rfl rfl (WO.go rfl ?_) | refine WD.givesT i1 rfl rfl rfl rfl rfl rfl rfl rfl rfl (WD.go rfl ?_) | refine WO.append0 rfl rfl rfl rfl rfl rfl rfl rfl rfl (WO.go rfl ?_) | refine WO.appendF (by simp) (by exact lens_ok rfl) (by exact lens_ok rfl) (by first | decide | simp) (by first | decide | simp) rfl rfl rfl rfl rfl rfl rfl rfl rfl rfl (WO.go rfl ?_) | refine WO.appendI (by simp) (by exact lens_ok rfl) (by first | decide | simp) (by first | decide | simp) rfl rfl rfl rfl rfl rfl rfl rfl rfl rfl (WO.go rfl ?_) | refine W.loop ?_ | refine W.exit ?_)
        exact W.ret (.ret [_, _] rfl rfl)
      | true =>
        obtain ⟨b2, i2⟩ := ih3 g hg (by simp only [T.size] at hs ⊢; omega)
        cases b2 with
        | false =>
          refine ⟨false, ?_⟩
          simp only [rIn] at *
          refine givesW (fn := Tryz.f202) Tryz.func202 rfl rfl rfl ?_
          repeat (first | refine W.condT rfl ?_ | refine W.condF rfl ?_ | refine W.seq ?_ | refine W.block ?_ | refine W.skip ?_ | refine WO.nil ?_ | refine WD.nil (WO.go rfl ?_) | refine W.region rfl (WO.go rfl ?_) | refine W.draw (id := 6) 20 [] rfl (by decide +kernel) rfl (WD.go rfl ?_) | refine W.draw (id := 22) 15 [] rfl (by decide +kernel) rfl (WD.go rfl ?_) | refine W.draw (id := 28) 4 [] rfl (by decide +kernel) rfl (WD.go rfl ?_) | refine W.draw (id := 32) 26 [] rfl (by decide +kernel) rfl (WD.go rfl ?_) | refine W.draw (id := 38) 11 [] rfl (by decide +kernel) rfl (WD.go rfl ?_) | refine W.draw (id := 42) 28 [] rfl (by decide +kernel) rfl (WD.go rfl ?_) | refine W.draw (id := 46) 10 [] rfl (by decide +kernel) rfl (WD.go rfl ?_) | refine WO.givesT i0 rfl rfl rfl rfl rfl rfl rfl rfl rfl (WO.go rfl ?_) | refine WD.givesT i0 rfl rfl rfl rfl rfl rfl rfl rfl rfl (WD.go rfl ?_) | refine WO.givesT i1 rfl rfl rfl rfl rfl rfl rfl rfl rfl (WO.go rfl ?_) | refine WD.givesT i1 rfl rfl rfl rfl rfl rfl rfl rfl rfl (WD.go rfl ?_) | refine WO.givesT i2 rfl rfl rfl rfl rfl rfl rfl rfl rfl (WO.go rfl ?_) | refine WD.givesT i2 rfl rfl rfl rfl rfl rfl rfl rfl rfl (WD.go rfl ?_) | refine WO.append0 rfl rfl rfl rfl rfl rfl rfl rfl rfl (WO.go rfl ?_) | refine WO.appendF (by simp) (by exact lens_ok rfl) (by exact lens_ok rfl) (by first | decide | simp) (by first | decide | simp) rfl rfl rfl rfl rfl rfl rfl rfl rfl rfl (WO.go rfl ?_) | refine WO.appendI (by simp) (by exact lens_ok rfl) (by first | decide | simp) (by first | decide | simp) rfl rfl rfl rfl rfl rfl rfl rfl rfl rfl (WO.go rfl ?_) | refine W.loop ?_ | refine W.exit ?_)
          exact W.ret (.ret [_, _] rfl rfl)
        | true =>
          refine ⟨true, ?_⟩
          simp only [rIn] at *
          refine givesW (fn := Tryz.f202) Tryz.func202 rfl rfl rfl ?_
          repeat (first | refine W.condT rfl ?_ | refine W.condF rfl ?_ | refine W.seq ?_ | refine W.block ?_ | refine W.skip ?_ | refine WO.nil ?_ | refine WD.nil (WO.go rfl ?_) | refine W.region rfl (WO.go rfl ?_) | refine W.draw (id := 6) 20 [] rfl (by decide +kernel) rfl (WD.go rfl ?_) | refine W.draw (id := 22) 15 [] rfl (by decide +kernel) rfl (WD.go rfl ?_) | refine W.draw (id := 28) 4 [] rfl (by decide +kernel) rfl (WD.go rfl ?_) | refine W.draw (id := 32) 26 [] rfl (by decide +kernel) rfl (WD.go rfl ?_) | refine W.draw (id := 38) 11 [] rfl (by decide +kernel) rfl (WD.go rfl ?_) | refine W.draw (id := 42) 28 [] rfl (by decide +kernel) rfl (WD.go rfl ?_) | refine W.draw (id := 46) 10 [] rfl (by decide +kernel) rfl (WD.go rfl ?_) | refine WO.givesT i0 rfl rfl rfl rfl rfl rfl rfl rfl rfl (WO.go rfl ?_) | refine WD.givesT i0 rfl rfl rfl rfl rfl rfl rfl rfl rfl (WD.go rfl ?_) | refine WO.givesT i1 rfl rfl rfl rfl rfl rfl rfl rfl rfl (WO.go rfl ?_) | refine WD.givesT i1 rfl rfl rfl rfl rfl rfl rfl rfl rfl (WD.go rfl ?_) | refine WO.givesT i2 rfl rfl rfl rfl rfl rfl rfl rfl rfl (WO.go rfl ?_) | refine WD.givesT i2 rfl rfl rfl rfl rfl rfl rfl rfl rfl (WD.go rfl ?_) | refine WO.gives nat_W rfl rfl rfl rfl rfl rfl rfl rfl rfl (WO.go rfl ?_) | refine WD.gives nat_W rfl rfl rfl rfl rfl rfl rfl rfl rfl (WD.go rfl ?_) | refine WO.gives list_W rfl rfl rfl rfl rfl rfl rfl rfl rfl (WO.go rfl ?_) | refine WD.gives list_W rfl rfl rfl rfl rfl rfl rfl rfl rfl (WD.go rfl ?_) | refine WO.gives (same1_W s) rfl rfl rfl rfl rfl rfl rfl rfl rfl (WO.go rfl ?_) | refine WD.gives (same1_W s) rfl rfl rfl rfl rfl rfl rfl rfl rfl (WD.go rfl ?_) | refine WO.gives (fun_W s s) rfl rfl rfl rfl rfl rfl rfl rfl rfl (WO.go rfl ?_) | refine WD.gives (fun_W s s) rfl rfl rfl rfl rfl rfl rfl rfl rfl (WD.go rfl ?_) | refine WO.gives (fun_W .list (.fn s s)) rfl rfl rfl rfl rfl rfl rfl rfl rfl (WO.go rfl ?_) | refine WD.gives (fun_W .list (.fn s s)) rfl rfl rfl rfl rfl rfl rfl rfl rfl (WD.go rfl ?_) | refine WO.gives (fun_W .nat (.fn .list (.fn s s))) rfl rfl rfl rfl rfl rfl rfl rfl rfl (WO.go rfl ?_) | refine WD.gives (fun_W .nat (.fn .list (.fn s s))) rfl rfl rfl rfl rfl rfl rfl rfl rfl (WD.go rfl ?_) | refine WO.gives (same1_W (.fn .nat (.fn .list (.fn s s)))) rfl rfl rfl rfl rfl rfl rfl rfl rfl (WO.go rfl ?_) | refine WD.gives (same1_W (.fn .nat (.fn .list (.fn s s)))) rfl rfl rfl rfl rfl rfl rfl rfl rfl (WD.go rfl ?_) | refine WO.gives (same1_W .list) rfl rfl rfl rfl rfl rfl rfl rfl rfl (WO.go rfl ?_) | refine WD.gives (same1_W .list) rfl rfl rfl rfl rfl rfl rfl rfl rfl (WD.go rfl ?_) | refine WO.gives (copyY_W s) rfl rfl rfl rfl rfl rfl rfl rfl rfl (WO.go rfl ?_) | refine WD.gives (copyY_W s) rfl rfl rfl rfl rfl rfl rfl rfl rfl (WD.go rfl ?_) | refine WO.append0 rfl rfl rfl rfl rfl rfl rfl rfl rfl (WO.go rfl ?_) | refine WO.appendF (by simp) (by exact lens_ok rfl) (by exact lens_ok rfl) (by first | decide | simp) (by first | decide | simp) rfl rfl rfl rfl rfl rfl rfl rfl rfl rfl (WO.go rfl ?_) | refine WO.appendI (by simp) (by exact lens_ok rfl) (by first | decide | simp) (by first | decide | simp) rfl rfl rfl rfl rfl rfl rfl rfl rfl rfl (WO.go rfl ?_) | refine W.loop ?_ | refine W.exit ?_)
          exact W.ret (.ret [_, _] rfl rfl)
  | @pr G a b x y hx hy hs2 ih1 ih2 =>
    intro g hg hs
    obtain ⟨b0, i0⟩ := ih1 g hg (by simp only [T.size] at hs ⊢; omega)
    cases b0 with
    | false =>
      refine ⟨false, ?_⟩
      simp only [rIn] at *
      refine givesW (fn := Tryz.f202) Tryz.func202 rfl rfl rfl ?_
      repeat (first | refine W.condT rfl ?_ | refine W.condF rfl ?_ | refine W.seq ?_ | refine W.block ?_ | refine W.skip ?_ | refine WO.nil ?_ | refine WD.nil (WO.go rfl ?_) | refine W.region rfl (WO.go rfl ?_) | refine W.draw (id := 6) 20 [] rfl (by decide +kernel) rfl (WD.go rfl ?_) | refine W.draw (id := 22) 15 [] rfl (by decide +kernel) rfl (WD.go rfl ?_) | refine W.draw (id := 28) 4 [] rfl (by decide +kernel) rfl (WD.go rfl ?_) | refine W.draw (id := 32) 26 [] rfl (by decide +kernel) rfl (WD.go rfl ?_) | refine W.draw (id := 38) 11 [] rfl (by decide +kernel) rfl (WD.go rfl ?_) | refine W.draw (id := 42) 28 [] rfl (by decide +kernel) rfl (WD.go rfl ?_) | refine W.draw (id := 46) 10 [] rfl (by decide +kernel) rfl (WD.go rfl ?_) | refine WO.givesT i0 rfl rfl rfl rfl rfl rfl rfl rfl rfl (WO.go rfl ?_) | refine WD.givesT i0 rfl rfl rfl rfl rfl rfl rfl rfl rfl (WD.go rfl ?_) | refine WO.append0 rfl rfl rfl rfl rfl rfl rfl rfl rfl (WO.go rfl ?_) | refine WO.appendF (by simp) (by exact lens_ok rfl) (by exact lens_ok rfl) (by first | decide | simp) (by first | decide | simp) rfl rfl rfl rfl rfl rfl rfl rfl rfl rfl (WO.go rfl ?_) | refine WO.appendI (by simp) (by exact lens_ok rfl) (by first | decide | simp) (by first | decide | simp) rfl rfl rfl rfl rfl rfl rfl rfl rfl rfl (WO.go rfl ?_) | refine W.loop ?_ | refine W.exit ?_)
      exact W.ret (.ret [_, _] rfl rfl)
    | true =>
      obtain ⟨b1, i1⟩ := ih2 g hg (by simp only [T.size] at hs ⊢; omega)
      cases b1 with
      | false =>
        refine ⟨false, ?_⟩
        simp only [rIn] at *
        refine givesW (fn := Tryz.f202) Tryz.func202 rfl rfl rfl ?_
        repeat (first | refine W.condT rfl ?_ | refine W.condF rfl ?_ | refine W.seq ?_ | refine W.block ?_ | refine W.skip ?_ | refine WO.nil ?_ | refine WD.nil (WO.go rfl ?_) | refine W.region rfl (WO.go rfl ?_) | refine W.draw (id := 6) 20 [] rfl (by decide +kernel) rfl (WD.go rfl ?_) | refine W.draw (id := 22) 15 [] rfl (by decide +kernel) rfl (WD.go rfl ?_) | refine W.draw (id := 28) 4 [] rfl (by decide +kernel) rfl (WD.go rfl ?_) | refine W.draw (id := 32) 26 [] rfl (by decide +kernel) rfl (WD.go rfl ?_) | refine W.draw (id := 38) 11 [] rfl (by decide +kernel) rfl (WD.go rfl ?_) | refine W.draw (id := 42) 28 [] rfl (by decide +kernel) rfl (WD.go rfl ?_) | refine W.draw (id := 46) 10 [] rfl (by decide +kernel) rfl (WD.go rfl ?_) | refine WO.givesT i0 rfl rfl rfl rfl rfl rfl rfl rfl rfl (WO.go rfl ?_) | refine WD.givesT i0 rfl rfl rfl rfl rfl rfl rfl rfl rfl (WD.go rfl ?_) | refine WO.givesT i1 rfl rfl rfl rfl rfl rfl rfl rfl rfl (WO.go rfl ?_) | refine WD.givesT i1 rfl rfl rfl rfl rfl rfl rfl rfl rfl (WD.go rfl ?_) | refine WO.append0 rfl rfl rfl rfl rfl rfl rfl rfl rfl (WO.go rfl ?_) | refine WO.appendF (by simp) (by exact lens_ok rfl) (by exact lens_ok rfl) (by first | decide | simp) (by first | decide | simp) rfl rfl rfl rfl rfl rfl rfl rfl rfl rfl (WO.go rfl ?_) | refine WO.appendI (by simp) (by exact lens_ok rfl) (by first | decide | simp) (by first | decide | simp) rfl rfl rfl rfl rfl rfl rfl rfl rfl rfl (WO.go rfl ?_) | refine W.loop ?_ | refine W.exit ?_)
        exact W.ret (.ret [_, _] rfl rfl)
      | true =>
        obtain ⟨bo, ho⟩ := ok02_W (X := X) (.pair a b) (by omega)
        refine ⟨bo, ?_⟩
        cases bo <;> simp only [rIn] at * <;>
        · refine givesW (fn := Tryz.f202) Tryz.func202 rfl rfl rfl ?_
          repeat (first | refine W.condT rfl ?_ | refine W.condF rfl ?_ | refine W.seq ?_ | refine W.block ?_ | refine W.skip ?_ | refine WO.nil ?_ | refine WD.nil (WO.go rfl ?_) | refine W.region rfl (WO.go rfl ?_) | refine W.draw (id := 6) 20 [] rfl (by decide +kernel) rfl (WD.go rfl ?_) | refine W.draw (id := 22) 15 [] rfl (by decide +kernel) rfl (WD.go rfl ?_) | refine W.draw (id := 28) 4 [] rfl (by decide +kernel) rfl (WD.go rfl ?_) | refine W.draw (id := 32) 26 [] rfl (by decide +kernel) rfl (WD.go rfl ?_) | refine W.draw (id := 38) 11 [] rfl (by decide +kernel) rfl (WD.go rfl ?_) | refine W.draw (id := 42) 28 [] rfl (by decide +kernel) rfl (WD.go rfl ?_) | refine W.draw (id := 46) 10 [] rfl (by decide +kernel) rfl (WD.go rfl ?_) | refine WO.givesT i0 rfl rfl rfl rfl rfl rfl rfl rfl rfl (WO.go rfl ?_) | refine WD.givesT i0 rfl rfl rfl rfl rfl rfl rfl rfl rfl (WD.go rfl ?_) | refine WO.givesT i1 rfl rfl rfl rfl rfl rfl rfl rfl rfl (WO.go rfl ?_) | refine WD.givesT i1 rfl rfl rfl rfl rfl rfl rfl rfl rfl (WD.go rfl ?_) | refine WO.gives nat_W rfl rfl rfl rfl rfl rfl rfl rfl rfl (WO.go rfl ?_) | refine WD.gives nat_W rfl rfl rfl rfl rfl rfl rfl rfl rfl (WD.go rfl ?_) | refine WO.gives list_W rfl rfl rfl rfl rfl rfl rfl rfl rfl (WO.go rfl ?_) | refine WD.gives list_W rfl rfl rfl rfl rfl rfl rfl rfl rfl (WD.go rfl ?_) | refine WO.gives (two_W a b) rfl rfl rfl rfl rfl rfl rfl rfl rfl (WO.go rfl ?_) | refine WD.gives (two_W a b) rfl rfl rfl rfl rfl rfl rfl rfl rfl (WD.go rfl ?_) | refine WO.givesT ho rfl rfl rfl rfl rfl rfl rfl rfl rfl (WO.go rfl ?_) | refine WD.givesT ho rfl rfl rfl rfl rfl rfl rfl rfl rfl (WD.go rfl ?_) | refine WO.append0 rfl rfl rfl rfl rfl rfl rfl rfl rfl (WO.go rfl ?_) | refine WO.appendF (by simp) (by exact lens_ok rfl) (by exact lens_ok rfl) (by first | decide | simp) (by first | decide | simp) rfl rfl rfl rfl rfl rfl rfl rfl rfl rfl (WO.go rfl ?_) | refine WO.appendI (by simp) (by exact lens_ok rfl) (by first | decide | simp) (by first | decide | simp) rfl rfl rfl rfl rfl rfl rfl rfl rfl rfl (WO.go rfl ?_) | refine W.loop ?_ | refine W.exit ?_)
          exact W.ret (.ret [_, _] rfl rfl)
  | @fs G a b x hx ih =>
    intro g hg hs
    obtain ⟨b0, i0⟩ := ih g hg (by simp only [T.size] at hs ⊢; omega)
    cases b0 with
    | false =>
      refine ⟨false, ?_⟩
      simp only [rIn] at *
      refine givesW (fn := Tryz.f202) Tryz.func202 rfl rfl rfl ?_
      repeat (first | refine W.condT rfl ?_ | refine W.condF rfl ?_ | refine W.seq ?_ | refine W.block ?_ | refine W.skip ?_ | refine WO.nil ?_ | refine WD.nil (WO.go rfl ?_) | refine W.region rfl (WO.go rfl ?_) | refine W.draw (id := 6) 20 [] rfl (by decide +kernel) rfl (WD.go rfl ?_) | refine W.draw (id := 22) 15 [] rfl (by decide +kernel) rfl (WD.go rfl ?_) | refine W.draw (id := 28) 4 [] rfl (by decide +kernel) rfl (WD.go rfl ?_) | refine W.draw (id := 32) 26 [] rfl (by decide +kernel) rfl (WD.go rfl ?_) | refine W.draw (id := 38) 11 [] rfl (by decide +kernel) rfl (WD.go rfl ?_) | refine W.draw (id := 42) 28 [] rfl (by decide +kernel) rfl (WD.go rfl ?_) | refine W.draw (id := 46) 10 [] rfl (by decide +kernel) rfl (WD.go rfl ?_) | refine WO.givesT i0 rfl rfl rfl rfl rfl rfl rfl rfl rfl (WO.go rfl ?_) | refine WD.givesT i0 rfl rfl rfl rfl rfl rfl rfl rfl rfl (WD.go rfl ?_) | refine WO.append0 rfl rfl rfl rfl rfl rfl rfl rfl rfl (WO.go rfl ?_) | refine WO.appendF (by simp) (by exact lens_ok rfl) (by exact lens_ok rfl) (by first | decide | simp) (by first | decide | simp) rfl rfl rfl rfl rfl rfl rfl rfl rfl rfl (WO.go rfl ?_) | refine WO.appendI (by simp) (by exact lens_ok rfl) (by first | decide | simp) (by first | decide | simp) rfl rfl rfl rfl rfl rfl rfl rfl rfl rfl (WO.go rfl ?_) | refine W.loop ?_ | refine W.exit ?_)
      exact W.ret (.ret [_, _] rfl rfl)
    | true =>
      refine ⟨true, ?_⟩
      simp only [rIn] at *
      refine givesW (fn := Tryz.f202) Tryz.func202 rfl rfl rfl ?_
      repeat (first | refine W.condT rfl ?_ | refine W.condF rfl ?_ | refine W.seq ?_ | refine W.block ?_ | refine W.skip ?_ | refine WO.nil ?_ | refine WD.nil (WO.go rfl ?_) | refine W.region rfl (WO.go rfl ?_) | refine W.draw (id := 6) 20 [] rfl (by decide +kernel) rfl (WD.go rfl ?_) | refine W.draw (id := 22) 15 [] rfl (by decide +kernel) rfl (WD.go rfl ?_) | refine W.draw (id := 28) 4 [] rfl (by decide +kernel) rfl (WD.go rfl ?_) | refine W.draw (id := 32) 26 [] rfl (by decide +kernel) rfl (WD.go rfl ?_) | refine W.draw (id := 38) 11 [] rfl (by decide +kernel) rfl (WD.go rfl ?_) | refine W.draw (id := 42) 28 [] rfl (by decide +kernel) rfl (WD.go rfl ?_) | refine W.draw (id := 46) 10 [] rfl (by decide +kernel) rfl (WD.go rfl ?_) | refine WO.givesT i0 rfl rfl rfl rfl rfl rfl rfl rfl rfl (WO.go rfl ?_) | refine WD.givesT i0 rfl rfl rfl rfl rfl rfl rfl rfl rfl (WD.go rfl ?_) | refine WO.gives nat_W rfl rfl rfl rfl rfl rfl rfl rfl rfl (WO.go rfl ?_) | refine WD.gives nat_W rfl rfl rfl rfl rfl rfl rfl rfl rfl (WD.go rfl ?_) | refine WO.gives list_W rfl rfl rfl rfl rfl rfl rfl rfl rfl (WO.go rfl ?_) | refine WD.gives list_W rfl rfl rfl rfl rfl rfl rfl rfl rfl (WD.go rfl ?_) | refine WO.append0 rfl rfl rfl rfl rfl rfl rfl rfl rfl (WO.go rfl ?_) | refine WO.appendF (by simp) (by exact lens_ok rfl) (by exact lens_ok rfl) (by first | decide | simp) (by first | decide | simp) rfl rfl rfl rfl rfl rfl rfl rfl rfl rfl (WO.go rfl ?_) | refine WO.appendI (by simp) (by exact lens_ok rfl) (by first | decide | simp) (by first | decide | simp) rfl rfl rfl rfl rfl rfl rfl rfl rfl rfl (WO.go rfl ?_) | refine W.loop ?_ | refine W.exit ?_)
      exact W.ret (.ret [_, _] rfl rfl)
  | @sn G a b x hx ih =>
    intro g hg hs
    obtain ⟨b0, i0⟩ := ih g hg (by simp only [T.size] at hs ⊢; omega)
    cases b0 with
    | false =>
      refine ⟨false, ?_⟩
      simp only [rIn] at *
      refine givesW (fn := Tryz.f202) Tryz.func202 rfl rfl rfl ?_
      repeat (first | refine W.condT rfl ?_ | refine W.condF rfl ?_ | refine W.seq ?_ | refine W.block ?_ | refine W.skip ?_ | refine WO.nil ?_ | refine WD.nil (WO.go rfl ?_) | refine W.region rfl (WO.go rfl ?_) | refine W.draw (id := 6) 20 [] rfl (by decide +kernel) rfl (WD.go rfl ?_) | refine W.draw (id := 22) 15 [] rfl (by decide +kernel) rfl (WD.go rfl ?_) | refine W.draw (id := 28) 4 [] rfl (by decide +kernel) rfl (WD.go rfl ?_) | refine W.draw (id := 32) 26 [] rfl (by decide +kernel) rfl (WD.go rfl ?_) | refine W.draw (id := 38) 11 [] rfl (by decide +kernel) rfl (WD.go rfl ?_) | refine W.draw (id := 42) 28 [] rfl (by decide +kernel) rfl (WD.go rfl ?_) | refine W.draw (id := 46) 10 [] rfl (by decide +kernel) rfl (WD.go rfl ?_) | refine WO.givesT i0 rfl rfl rfl rfl rfl rfl rfl rfl rfl (WO.go rfl ?_) | refine WD.givesT i0 rfl rfl rfl rfl rfl rfl rfl rfl rfl (WD.go rfl ?_) | refine WO.append0 rfl rfl rfl rfl rfl rfl rfl rfl rfl (WO.go rfl ?_) | refine WO.appendF (by simp) (by exact lens_ok rfl) (by exact lens_ok rfl) (by first | decide | simp) (by first | decide | simp) rfl rfl rfl rfl rfl rfl rfl rfl rfl rfl (WO.go rfl ?_) | refine WO.appendI (by simp) (by exact lens_ok rfl) (by first | decide | simp) (by first | decide | simp) rfl rfl rfl rfl rfl rfl rfl rfl rfl rfl (WO.go rfl ?_) | refine W.loop ?_ | refine W.exit ?_)
      exact W.ret (.ret [_, _] rfl rfl)
    | true =>
      refine ⟨true, ?_⟩
      simp only [rIn] at *
      refine givesW (fn := Tryz.f202) Tryz.func202 rfl rfl rfl ?_
      repeat (first | refine W.condT rfl ?_ | refine W.condF rfl ?_ | refine W.seq ?_ | refine W.block ?_ | refine W.skip ?_ | refine WO.nil ?_ | refine WD.nil (WO.go rfl ?_) | refine W.region rfl (WO.go rfl ?_) | refine W.draw (id := 6) 20 [] rfl (by decide +kernel) rfl (WD.go rfl ?_) | refine W.draw (id := 22) 15 [] rfl (by decide +kernel) rfl (WD.go rfl ?_) | refine W.draw (id := 28) 4 [] rfl (by decide +kernel) rfl (WD.go rfl ?_) | refine W.draw (id := 32) 26 [] rfl (by decide +kernel) rfl (WD.go rfl ?_) | refine W.draw (id := 38) 11 [] rfl (by decide +kernel) rfl (WD.go rfl ?_) | refine W.draw (id := 42) 28 [] rfl (by decide +kernel) rfl (WD.go rfl ?_) | refine W.draw (id := 46) 10 [] rfl (by decide +kernel) rfl (WD.go rfl ?_) | refine WO.givesT i0 rfl rfl rfl rfl rfl rfl rfl rfl rfl (WO.go rfl ?_) | refine WD.givesT i0 rfl rfl rfl rfl rfl rfl rfl rfl rfl (WD.go rfl ?_) | refine WO.gives nat_W rfl rfl rfl rfl rfl rfl rfl rfl rfl (WO.go rfl ?_) | refine WD.gives nat_W rfl rfl rfl rfl rfl rfl rfl rfl rfl (WD.go rfl ?_) | refine WO.gives list_W rfl rfl rfl rfl rfl rfl rfl rfl rfl (WO.go rfl ?_) | refine WD.gives list_W rfl rfl rfl rfl rfl rfl rfl rfl rfl (WD.go rfl ?_) | refine WO.append0 rfl rfl rfl rfl rfl rfl rfl rfl rfl (WO.go rfl ?_) | refine WO.appendF (by simp) (by exact lens_ok rfl) (by exact lens_ok rfl) (by first | decide | simp) (by first | decide | simp) rfl rfl rfl rfl rfl rfl rfl rfl rfl rfl (WO.go rfl ?_) | refine WO.appendI (by simp) (by exact lens_ok rfl) (by first | decide | simp) (by first | decide | simp) rfl rfl rfl rfl rfl rfl rfl rfl rfl rfl (WO.go rfl ?_) | refine W.loop ?_ | refine W.exit ?_)
      exact W.ret (.ret [_, _] rfl rfl)
  | un =>
    intro g hg hs
    refine ⟨true, ?_⟩
    simp only [rIn] at *
    refine givesW (fn := Tryz.f202) Tryz.func202 rfl rfl rfl ?_
    repeat (first | refine W.condT rfl ?_ | refine W.condF rfl ?_ | refine W.seq ?_ | refine W.block ?_ | refine W.skip ?_ | refine WO.nil ?_ | refine WD.nil (WO.go rfl ?_) | refine W.region rfl (WO.go rfl ?_) | refine W.draw (id := 6) 20 [] rfl (by decide +kernel) rfl (WD.go rfl ?_) | refine W.draw (id := 22) 15 [] rfl (by decide +kernel) rfl (WD.go rfl ?_) | refine W.draw (id := 28) 4 [] rfl (by decide +kernel) rfl (WD.go rfl ?_) | refine W.draw (id := 32) 26 [] rfl (by decide +kernel) rfl (WD.go rfl ?_) | refine W.draw (id := 38) 11 [] rfl (by decide +kernel) rfl (WD.go rfl ?_) | refine W.draw (id := 42) 28 [] rfl (by decide +kernel) rfl (WD.go rfl ?_) | refine W.draw (id := 46) 10 [] rfl (by decide +kernel) rfl (WD.go rfl ?_) | refine WO.gives nat_W rfl rfl rfl rfl rfl rfl rfl rfl rfl (WO.go rfl ?_) | refine WD.gives nat_W rfl rfl rfl rfl rfl rfl rfl rfl rfl (WD.go rfl ?_) | refine WO.gives list_W rfl rfl rfl rfl rfl rfl rfl rfl rfl (WO.go rfl ?_) | refine WD.gives list_W rfl rfl rfl rfl rfl rfl rfl rfl rfl (WD.go rfl ?_) | refine WO.gives unit_W rfl rfl rfl rfl rfl rfl rfl rfl rfl (WO.go rfl ?_) | refine WD.gives unit_W rfl rfl rfl rfl rfl rfl rfl rfl rfl (WD.go rfl ?_) | refine WO.append0 rfl rfl rfl rfl rfl rfl rfl rfl rfl (WO.go rfl ?_) | refine WO.appendF (by simp) (by exact lens_ok rfl) (by exact lens_ok rfl) (by first | decide | simp) (by first | decide | simp) rfl rfl rfl rfl rfl rfl rfl rfl rfl rfl (WO.go rfl ?_) | refine WO.appendI (by simp) (by exact lens_ok rfl) (by first | decide | simp) (by first | decide | simp) rfl rfl rfl rfl rfl rfl rfl rfl rfl rfl (WO.go rfl ?_) | refine W.loop ?_ | refine W.exit ?_)
    exact W.ret (.ret [_, _] rfl rfl)
end Go.Proofs.YtjdlmhbkfammlabGreatDoor
namespace Go.Proofs.YtjdlmhbkfammlabGreatDoor
open Go Go.Sh
set_option linter.unusedVariables false
set_option linter.unusedSimpArgs false
set_option maxHeartbeats 4000000
variable {X : CRel}
theorem typed02_W {m : Nat} {x : T} {a : Y} (g : List Y) (h : HT m g.reverse x a) (hm : m ≤ 1000000) (hs : x.size ≤ 4096) (ht : x.tyLe 64) (hg : g.length ≤ 900000) : ∃ b, Gives (AC X) 143 [.sl .no (g.map cY), .agg (cT x)] (rIn a b) := by
  obtain ⟨b, hi⟩ := infer_W (X := X) h hm g rfl (by omega)
  have hc := check02_W (X := X) x hs ht
  refine ⟨b, ?_⟩
  cases b <;> simp only [rIn] at hi ⊢ <;>
  · refine givesW (fn := Tryz.f143) Tryz.func143 rfl rfl rfl ?_
    repeat (first | refine W.condT rfl ?_ | refine W.condF rfl ?_ | refine W.seq ?_ | refine W.block ?_ | refine W.skip ?_ | refine WO.nil ?_ | refine WD.nil (WO.go rfl ?_) | refine W.region rfl (WO.go rfl ?_) | refine WO.gives hc rfl rfl rfl rfl rfl rfl rfl rfl rfl (WO.go rfl ?_) | refine WD.gives hc rfl rfl rfl rfl rfl rfl rfl rfl rfl (WD.go rfl ?_) | refine WO.givesT hi rfl rfl rfl rfl rfl rfl rfl rfl rfl (WO.go rfl ?_) | refine WD.givesT hi rfl rfl rfl rfl rfl rfl rfl rfl rfl (WD.go rfl ?_) | refine WO.append0 rfl rfl rfl rfl rfl rfl rfl rfl rfl (WO.go rfl ?_) | refine WO.appendF (by simp) (by exact lens_ok rfl) (by exact lens_ok rfl) (by first | decide | simp) (by first | decide | simp) rfl rfl rfl rfl rfl rfl rfl rfl rfl rfl (WO.go rfl ?_) | refine WO.appendI (by simp) (by exact lens_ok rfl) (by first | decide | simp) (by first | decide | simp) rfl rfl rfl rfl rfl rfl rfl rfl rfl rfl (WO.go rfl ?_) | refine W.loop ?_ | refine W.exit ?_)
    exact W.ret (.ret [_, _] rfl rfl)
theorem typed07_W {m : Nat} {G : List Y} {f : Fo} (h : Fo.Ok m G f) (hm : m ≤ 1000000) : f.free → f.size ≤ 4096 → f.tyLe 64 → ∀ g : List Y, g.reverse = G → g.length ≤ 900000 → ∃ e : Int, (e = 0 ∨ e = 4) ∧ Gives (AC X) 217 [.sl .no (g.map cY), .agg (cF f)] (.int .i64 e) := by
  induction h with
  | @eq G a b ha hb =>
    intro _ hs ht g hg hgl
    subst hg
    simp only [Fo.size] at hs
    obtain ⟨b1, h1⟩ := typed02_W (X := X) g ha hm (by omega) ht.1 hgl
    obtain ⟨b2, h2⟩ := typed02_W (X := X) g hb hm (by omega) ht.2 hgl
    have hq : Gives (AC X) 226 [.int .i64 1] (.bool false) := quant07_W (.eq a b)
    cases b1 <;> cases b2 <;> simp only [rIn] at h1 h2
    · refine ⟨4, .inr rfl, ?_⟩
      refine givesW (fn := Tryz.f217) Tryz.func217 rfl rfl rfl ?_
      repeat (first | refine W.condT rfl ?_ | refine W.condF rfl ?_ | refine W.seq ?_ | refine W.block ?_ | refine W.skip ?_ | refine WO.nil ?_ | refine WD.nil (WO.go rfl ?_) | refine W.region rfl (WO.go rfl ?_) | refine W.draw (id := 11) 9 [] rfl (by decide +kernel) rfl (WD.go rfl ?_) | refine WO.givesT h1 rfl rfl rfl rfl rfl rfl rfl rfl rfl (WO.go rfl ?_) | refine WD.givesT h1 rfl rfl rfl rfl rfl rfl rfl rfl rfl (WD.go rfl ?_) | refine WO.givesT h2 rfl rfl rfl rfl rfl rfl rfl rfl rfl (WO.go rfl ?_) | refine WD.givesT h2 rfl rfl rfl rfl rfl rfl rfl rfl rfl (WD.go rfl ?_) | refine WO.gives hq rfl rfl rfl rfl rfl rfl rfl rfl rfl (WO.go rfl ?_) | refine WD.gives hq rfl rfl rfl rfl rfl rfl rfl rfl rfl (WD.go rfl ?_) | refine WO.append0 rfl rfl rfl rfl rfl rfl rfl rfl rfl (WO.go rfl ?_) | refine WO.appendF (by simp) (by exact lens_ok rfl) (by exact lens_ok rfl) (by first | decide | simp) (by first | decide | simp) rfl rfl rfl rfl rfl rfl rfl rfl rfl rfl (WO.go rfl ?_) | refine WO.appendI (by simp) (by exact lens_ok rfl) (by first | decide | simp) (by first | decide | simp) rfl rfl rfl rfl rfl rfl rfl rfl rfl rfl (WO.go rfl ?_) | refine W.loop ?_ | refine W.exit ?_)
      exact W.ret (.ret [_] rfl rfl)
    · refine ⟨4, .inr rfl, ?_⟩
      refine givesW (fn := Tryz.f217) Tryz.func217 rfl rfl rfl ?_
      repeat (first | refine W.condT rfl ?_ | refine W.condF rfl ?_ | refine W.seq ?_ | refine W.block ?_ | refine W.skip ?_ | refine WO.nil ?_ | refine WD.nil (WO.go rfl ?_) | refine W.region rfl (WO.go rfl ?_) | refine W.draw (id := 11) 9 [] rfl (by decide +kernel) rfl (WD.go rfl ?_) | refine WO.givesT h1 rfl rfl rfl rfl rfl rfl rfl rfl rfl (WO.go rfl ?_) | refine WD.givesT h1 rfl rfl rfl rfl rfl rfl rfl rfl rfl (WD.go rfl ?_) | refine WO.givesT h2 rfl rfl rfl rfl rfl rfl rfl rfl rfl (WO.go rfl ?_) | refine WD.givesT h2 rfl rfl rfl rfl rfl rfl rfl rfl rfl (WD.go rfl ?_) | refine WO.gives hq rfl rfl rfl rfl rfl rfl rfl rfl rfl (WO.go rfl ?_) | refine WD.gives hq rfl rfl rfl rfl rfl rfl rfl rfl rfl (WD.go rfl ?_) | refine WO.append0 rfl rfl rfl rfl rfl rfl rfl rfl rfl (WO.go rfl ?_) | refine WO.appendF (by simp) (by exact lens_ok rfl) (by exact lens_ok rfl) (by first | decide | simp) (by first | decide | simp) rfl rfl rfl rfl rfl rfl rfl rfl rfl rfl (WO.go rfl ?_) | refine WO.appendI (by simp) (by exact lens_ok rfl) (by first | decide | simp) (by first | decide | simp) rfl rfl rfl rfl rfl rfl rfl rfl rfl rfl (WO.go rfl ?_) | refine W.loop ?_ | refine W.exit ?_)
      exact W.ret (.ret [_] rfl rfl)
    · refine ⟨4, .inr rfl, ?_⟩
      refine givesW (fn := Tryz.f217) Tryz.func217 rfl rfl rfl ?_
      repeat (first | refine W.condT rfl ?_ | refine W.condF rfl ?_ | refine W.seq ?_ | refine W.block ?_ | refine W.skip ?_ | refine WO.nil ?_ | refine WD.nil (WO.go rfl ?_) | refine W.region rfl (WO.go rfl ?_) | refine W.draw (id := 11) 9 [] rfl (by decide +kernel) rfl (WD.go rfl ?_) | refine WO.givesT h1 rfl rfl rfl rfl rfl rfl rfl rfl rfl (WO.go rfl ?_) | refine WD.givesT h1 rfl rfl rfl rfl rfl rfl rfl rfl rfl (WD.go rfl ?_) | refine WO.givesT h2 rfl rfl rfl rfl rfl rfl rfl rfl rfl (WO.go rfl ?_) | refine WD.givesT h2 rfl rfl rfl rfl rfl rfl rfl rfl rfl (WD.go rfl ?_) | refine WO.gives hq rfl rfl rfl rfl rfl rfl rfl rfl rfl (WO.go rfl ?_) | refine WD.gives hq rfl rfl rfl rfl rfl rfl rfl rfl rfl (WD.go rfl ?_) | refine WO.append0 rfl rfl rfl rfl rfl rfl rfl rfl rfl (WO.go rfl ?_) | refine WO.appendF (by simp) (by exact lens_ok rfl) (by exact lens_ok rfl) (by first | decide | simp) (by first | decide | simp) rfl rfl rfl rfl rfl rfl rfl rfl rfl rfl (WO.go rfl ?_) | refine WO.appendI (by simp) (by exact lens_ok rfl) (by first | decide | simp) (by first | decide | simp) rfl rfl rfl rfl rfl rfl rfl rfl rfl rfl (WO.go rfl ?_) | refine W.loop ?_ | refine W.exit ?_)
      exact W.ret (.ret [_] rfl rfl)
    · refine ⟨0, .inl rfl, ?_⟩
      refine givesW (fn := Tryz.f217) Tryz.func217 rfl rfl rfl ?_
      repeat (first | refine W.condT rfl ?_ | refine W.condF rfl ?_ | refine W.seq ?_ | refine W.block ?_ | refine W.skip ?_ | refine WO.nil ?_ | refine WD.nil (WO.go rfl ?_) | refine W.region rfl (WO.go rfl ?_) | refine W.draw (id := 11) 9 [] rfl (by decide +kernel) rfl (WD.go rfl ?_) | refine WO.givesT h1 rfl rfl rfl rfl rfl rfl rfl rfl rfl (WO.go rfl ?_) | refine WD.givesT h1 rfl rfl rfl rfl rfl rfl rfl rfl rfl (WD.go rfl ?_) | refine WO.givesT h2 rfl rfl rfl rfl rfl rfl rfl rfl rfl (WO.go rfl ?_) | refine WD.givesT h2 rfl rfl rfl rfl rfl rfl rfl rfl rfl (WD.go rfl ?_) | refine WO.gives hq rfl rfl rfl rfl rfl rfl rfl rfl rfl (WO.go rfl ?_) | refine WD.gives hq rfl rfl rfl rfl rfl rfl rfl rfl rfl (WD.go rfl ?_) | refine WO.append0 rfl rfl rfl rfl rfl rfl rfl rfl rfl (WO.go rfl ?_) | refine WO.appendF (by simp) (by exact lens_ok rfl) (by exact lens_ok rfl) (by first | decide | simp) (by first | decide | simp) rfl rfl rfl rfl rfl rfl rfl rfl rfl rfl (WO.go rfl ?_) | refine WO.appendI (by simp) (by exact lens_ok rfl) (by first | decide | simp) (by first | decide | simp) rfl rfl rfl rfl rfl rfl rfl rfl rfl rfl (WO.go rfl ?_) | refine W.loop ?_ | refine W.exit ?_)
      exact W.ret (.ret [_] rfl rfl)
  | @bi G k f1 f2 hf hg2 i1 i2 =>
    intro hfr hs ht g hg hgl
    simp only [Fo.size] at hs
    obtain ⟨e1, he1, h1⟩ := i1 hfr.1 (by omega) ht.1 g hg hgl
    obtain ⟨e2, he2, h2⟩ := i2 hfr.2 (by omega) ht.2 g hg hgl
    have hq := quant07_W (X := X) (.bi k f1 f2)
    simp only at hq
    rcases he1 with rfl | rfl
    · refine ⟨e2, he2, ?_⟩
      cases k <;> rcases he2 with rfl | rfl <;>
      · refine givesW (fn := Tryz.f217) Tryz.func217 rfl rfl rfl ?_
        repeat (first | refine W.condT rfl ?_ | refine W.condF rfl ?_ | refine W.seq ?_ | refine W.block ?_ | refine W.skip ?_ | refine WO.nil ?_ | refine WD.nil (WO.go rfl ?_) | refine W.region rfl (WO.go rfl ?_) | refine W.draw (id := 11) 9 [] rfl (by decide +kernel) rfl (WD.go rfl ?_) | refine WO.gives h1 rfl rfl rfl rfl rfl rfl rfl rfl rfl (WO.go rfl ?_) | refine WD.gives h1 rfl rfl rfl rfl rfl rfl rfl rfl rfl (WD.go rfl ?_) | refine WO.gives h2 rfl rfl rfl rfl rfl rfl rfl rfl rfl (WO.go rfl ?_) | refine WD.gives h2 rfl rfl rfl rfl rfl rfl rfl rfl rfl (WD.go rfl ?_) | refine WO.gives hq rfl rfl rfl rfl rfl rfl rfl rfl rfl (WO.go rfl ?_) | refine WD.gives hq rfl rfl rfl rfl rfl rfl rfl rfl rfl (WD.go rfl ?_) | refine WO.append0 rfl rfl rfl rfl rfl rfl rfl rfl rfl (WO.go rfl ?_) | refine WO.appendF (by simp) (by exact lens_ok rfl) (by exact lens_ok rfl) (by first | decide | simp) (by first | decide | simp) rfl rfl rfl rfl rfl rfl rfl rfl rfl rfl (WO.go rfl ?_) | refine WO.appendI (by simp) (by exact lens_ok rfl) (by first | decide | simp) (by first | decide | simp) rfl rfl rfl rfl rfl rfl rfl rfl rfl rfl (WO.go rfl ?_) | refine W.loop ?_ | refine W.exit ?_)
        exact W.ret (.ret [_] rfl rfl)
    · refine ⟨4, .inr rfl, ?_⟩
      cases k <;>
      · refine givesW (fn := Tryz.f217) Tryz.func217 rfl rfl rfl ?_
        repeat (first | refine W.condT rfl ?_ | refine W.condF rfl ?_ | refine W.seq ?_ | refine W.block ?_ | refine W.skip ?_ | refine WO.nil ?_ | refine WD.nil (WO.go rfl ?_) | refine W.region rfl (WO.go rfl ?_) | refine W.draw (id := 11) 9 [] rfl (by decide +kernel) rfl (WD.go rfl ?_) | refine WO.gives h1 rfl rfl rfl rfl rfl rfl rfl rfl rfl (WO.go rfl ?_) | refine WD.gives h1 rfl rfl rfl rfl rfl rfl rfl rfl rfl (WD.go rfl ?_) | refine WO.gives h2 rfl rfl rfl rfl rfl rfl rfl rfl rfl (WO.go rfl ?_) | refine WD.gives h2 rfl rfl rfl rfl rfl rfl rfl rfl rfl (WD.go rfl ?_) | refine WO.gives hq rfl rfl rfl rfl rfl rfl rfl rfl rfl (WO.go rfl ?_) | refine WD.gives hq rfl rfl rfl rfl rfl rfl rfl rfl rfl (WD.go rfl ?_) | refine WO.append0 rfl rfl rfl rfl rfl rfl rfl rfl rfl (WO.go rfl ?_) | refine WO.appendF (by simp) (by exact lens_ok rfl) (by exact lens_ok rfl) (by first | decide | simp) (by first | decide | simp) rfl rfl rfl rfl rfl rfl rfl rfl rfl rfl (WO.go rfl ?_) | refine WO.appendI (by simp) (by exact lens_ok rfl) (by first | decide | simp) (by first | decide | simp) rfl rfl rfl rfl rfl rfl rfl rfl rfl rfl (WO.go rfl ?_) | refine W.loop ?_ | refine W.exit ?_)
        exact W.ret (.ret [_] rfl rfl)
  | @q G k s f hf ih =>
    intro hfr
    exact hfr.elim
theorem free08_W : ∀ (f : Fo), f.free → Gives (AC X) 161 [.agg (cF f)] (.bool true)
  | .eq a b, _ => by
    refine givesW (fn := Tryz.f161) Tryz.func161 rfl rfl rfl ?_
    repeat (first | refine W.condT rfl ?_ | refine W.condF rfl ?_ | refine W.seq ?_ | refine W.block ?_ | refine W.skip ?_ | refine WO.nil ?_ | refine WD.nil (WO.go rfl ?_) | refine W.region rfl (WO.go rfl ?_) | refine WO.append0 rfl rfl rfl rfl rfl rfl rfl rfl rfl (WO.go rfl ?_) | refine WO.appendF (by simp) (by exact lens_ok rfl) (by exact lens_ok rfl) (by first | decide | simp) (by first | decide | simp) rfl rfl rfl rfl rfl rfl rfl rfl rfl rfl (WO.go rfl ?_) | refine WO.appendI (by simp) (by exact lens_ok rfl) (by first | decide | simp) (by first | decide | simp) rfl rfl rfl rfl rfl rfl rfl rfl rfl rfl (WO.go rfl ?_) | refine W.loop ?_ | refine W.exit ?_)
    exact W.ret (.ret [_] rfl rfl)
  | .bi k f g, h => by
    have h1 := free08_W f h.1
    have h2 := free08_W g h.2
    cases k <;>
    · refine givesW (fn := Tryz.f161) Tryz.func161 rfl rfl rfl ?_
      repeat (first | refine W.condT rfl ?_ | refine W.condF rfl ?_ | refine W.seq ?_ | refine W.block ?_ | refine W.skip ?_ | refine WO.nil ?_ | refine WD.nil (WO.go rfl ?_) | refine W.region rfl (WO.go rfl ?_) | refine WO.gives h1 rfl rfl rfl rfl rfl rfl rfl rfl rfl (WO.go rfl ?_) | refine WD.gives h1 rfl rfl rfl rfl rfl rfl rfl rfl rfl (WD.go rfl ?_) | refine WO.gives h2 rfl rfl rfl rfl rfl rfl rfl rfl rfl (WO.go rfl ?_) | refine WD.gives h2 rfl rfl rfl rfl rfl rfl rfl rfl rfl (WD.go rfl ?_) | refine WO.append0 rfl rfl rfl rfl rfl rfl rfl rfl rfl (WO.go rfl ?_) | refine WO.appendF (by simp) (by exact lens_ok rfl) (by exact lens_ok rfl) (by first | decide | simp) (by first | decide | simp) rfl rfl rfl rfl rfl rfl rfl rfl rfl rfl (WO.go rfl ?_) | refine WO.appendI (by simp) (by exact lens_ok rfl) (by first | decide | simp) (by first | decide | simp) rfl rfl rfl rfl rfl rfl rfl rfl rfl rfl (WO.go rfl ?_) | refine W.loop ?_ | refine W.exit ?_)
      exact W.ret (.ret [_] rfl rfl)
  | .q _ _ _, h => h.elim
theorem Free08_W (f : Fo) (h : f.free) (hs : f.size ≤ 4096) (ht : f.tyLe 64) : Gives (AC X) 73 [.agg (cF f)] (.tup [.bool true, .int .i64 0]) := by
  have h1 := check07_W (X := X) f hs ht
  have h2 := free08_W (X := X) f h
  refine givesW (fn := Tryz.f73) Tryz.func73 rfl rfl rfl ?_
  repeat (first | refine W.condT rfl ?_ | refine W.condF rfl ?_ | refine W.seq ?_ | refine W.block ?_ | refine W.skip ?_ | refine WO.nil ?_ | refine WD.nil (WO.go rfl ?_) | refine W.region rfl (WO.go rfl ?_) | refine WO.gives h1 rfl rfl rfl rfl rfl rfl rfl rfl rfl (WO.go rfl ?_) | refine WD.gives h1 rfl rfl rfl rfl rfl rfl rfl rfl rfl (WD.go rfl ?_) | refine WO.gives h2 rfl rfl rfl rfl rfl rfl rfl rfl rfl (WO.go rfl ?_) | refine WD.gives h2 rfl rfl rfl rfl rfl rfl rfl rfl rfl (WD.go rfl ?_) | refine WO.append0 rfl rfl rfl rfl rfl rfl rfl rfl rfl (WO.go rfl ?_) | refine WO.appendF (by simp) (by exact lens_ok rfl) (by exact lens_ok rfl) (by first | decide | simp) (by first | decide | simp) rfl rfl rfl rfl rfl rfl rfl rfl rfl rfl (WO.go rfl ?_) | refine WO.appendI (by simp) (by exact lens_ok rfl) (by first | decide | simp) (by first | decide | simp) rfl rfl rfl rfl rfl rfl rfl rfl rfl rfl (WO.go rfl ?_) | refine W.loop ?_ | refine W.exit ?_)
  exact W.ret (.ret [_, _] rfl rfl)
theorem freeB_of : ∀ (f : Fo), f.free → freeB f = true
  | .eq _ _, _ => rfl
  | .bi k f g, h => by have h1 := freeB_of f h.1; have h2 := freeB_of g h.2; simp [freeB, h1, h2]
  | .q _ _ _, h => h.elim
theorem context01_W (g : List Y) (hg : g.length ≤ 3) (h : ∀ y ∈ g, y.size ≤ 64) : Gives (AC X) 142 [.sl .no (g.map cY)] (.int .i64 0) := by
  rcases g with _ | ⟨a, _ | ⟨b, _ | ⟨d, _ | ⟨e, g⟩⟩⟩⟩
  case cons.cons.cons.cons => simp at hg
  · refine givesW (fn := Tryz.f142) Tryz.func142 rfl rfl rfl ?_
    repeat (first | refine W.condT rfl ?_ | refine W.condF rfl ?_ | refine W.seq ?_ | refine W.block ?_ | refine W.skip ?_ | refine WO.nil ?_ | refine WD.nil (WO.go rfl ?_) | refine W.region rfl (WO.go rfl ?_) | refine WO.append0 rfl rfl rfl rfl rfl rfl rfl rfl rfl (WO.go rfl ?_) | refine WO.appendF (by simp) (by exact lens_ok rfl) (by exact lens_ok rfl) (by first | decide | simp) (by first | decide | simp) rfl rfl rfl rfl rfl rfl rfl rfl rfl rfl (WO.go rfl ?_) | refine WO.appendI (by simp) (by exact lens_ok rfl) (by first | decide | simp) (by first | decide | simp) rfl rfl rfl rfl rfl rfl rfl rfl rfl rfl (WO.go rfl ?_) | refine W.loop ?_ | refine W.exit ?_)
    exact W.ret (.ret [_] rfl rfl)
  · have h1 := checkY_W (X := X) a (h a (by simp))
    refine givesW (fn := Tryz.f142) Tryz.func142 rfl rfl rfl ?_
    repeat (first | refine W.condT rfl ?_ | refine W.condF rfl ?_ | refine W.seq ?_ | refine W.block ?_ | refine W.skip ?_ | refine WO.nil ?_ | refine WD.nil (WO.go rfl ?_) | refine W.region rfl (WO.go rfl ?_) | refine WO.gives h1 rfl rfl rfl rfl rfl rfl rfl rfl rfl (WO.go rfl ?_) | refine WD.gives h1 rfl rfl rfl rfl rfl rfl rfl rfl rfl (WD.go rfl ?_) | refine WO.append0 rfl rfl rfl rfl rfl rfl rfl rfl rfl (WO.go rfl ?_) | refine WO.appendF (by simp) (by exact lens_ok rfl) (by exact lens_ok rfl) (by first | decide | simp) (by first | decide | simp) rfl rfl rfl rfl rfl rfl rfl rfl rfl rfl (WO.go rfl ?_) | refine WO.appendI (by simp) (by exact lens_ok rfl) (by first | decide | simp) (by first | decide | simp) rfl rfl rfl rfl rfl rfl rfl rfl rfl rfl (WO.go rfl ?_) | refine W.loop ?_ | refine W.exit ?_)
    exact W.ret (.ret [_] rfl rfl)
  · have h1 := checkY_W (X := X) a (h a (by simp))
    have h2 := checkY_W (X := X) b (h b (by simp))
    refine givesW (fn := Tryz.f142) Tryz.func142 rfl rfl rfl ?_
    repeat (first | refine W.condT rfl ?_ | refine W.condF rfl ?_ | refine W.seq ?_ | refine W.block ?_ | refine W.skip ?_ | refine WO.nil ?_ | refine WD.nil (WO.go rfl ?_) | refine W.region rfl (WO.go rfl ?_) | refine WO.gives h1 rfl rfl rfl rfl rfl rfl rfl rfl rfl (WO.go rfl ?_) | refine WD.gives h1 rfl rfl rfl rfl rfl rfl rfl rfl rfl (WD.go rfl ?_) | refine WO.gives h2 rfl rfl rfl rfl rfl rfl rfl rfl rfl (WO.go rfl ?_) | refine WD.gives h2 rfl rfl rfl rfl rfl rfl rfl rfl rfl (WD.go rfl ?_) | refine WO.append0 rfl rfl rfl rfl rfl rfl rfl rfl rfl (WO.go rfl ?_) | refine WO.appendF (by simp) (by exact lens_ok rfl) (by exact lens_ok rfl) (by first | decide | simp) (by first | decide | simp) rfl rfl rfl rfl rfl rfl rfl rfl rfl rfl (WO.go rfl ?_) | refine WO.appendI (by simp) (by exact lens_ok rfl) (by first | decide | simp) (by first | decide | simp) rfl rfl rfl rfl rfl rfl rfl rfl rfl rfl (WO.go rfl ?_) | refine W.loop ?_ | refine W.exit ?_)
    exact W.ret (.ret [_] rfl rfl)
  · have h1 := checkY_W (X := X) a (h a (by simp))
    have h2 := checkY_W (X := X) b (h b (by simp))
    have h3 := checkY_W (X := X) d (h d (by simp))
    refine givesW (fn := Tryz.f142) Tryz.func142 rfl rfl rfl ?_
    repeat (first | refine W.condT rfl ?_ | refine W.condF rfl ?_ | refine W.seq ?_ | refine W.block ?_ | refine W.skip ?_ | refine WO.nil ?_ | refine WD.nil (WO.go rfl ?_) | refine W.region rfl (WO.go rfl ?_) | refine WO.gives h1 rfl rfl rfl rfl rfl rfl rfl rfl rfl (WO.go rfl ?_) | refine WD.gives h1 rfl rfl rfl rfl rfl rfl rfl rfl rfl (WD.go rfl ?_) | refine WO.gives h2 rfl rfl rfl rfl rfl rfl rfl rfl rfl (WO.go rfl ?_) | refine WD.gives h2 rfl rfl rfl rfl rfl rfl rfl rfl rfl (WD.go rfl ?_) | refine WO.gives h3 rfl rfl rfl rfl rfl rfl rfl rfl rfl (WO.go rfl ?_) | refine WD.gives h3 rfl rfl rfl rfl rfl rfl rfl rfl rfl (WD.go rfl ?_) | refine WO.append0 rfl rfl rfl rfl rfl rfl rfl rfl rfl (WO.go rfl ?_) | refine WO.appendF (by simp) (by exact lens_ok rfl) (by exact lens_ok rfl) (by first | decide | simp) (by first | decide | simp) rfl rfl rfl rfl rfl rfl rfl rfl rfl rfl (WO.go rfl ?_) | refine WO.appendI (by simp) (by exact lens_ok rfl) (by first | decide | simp) (by first | decide | simp) rfl rfl rfl rfl rfl rfl rfl rfl rfl rfl (WO.go rfl ?_) | refine W.loop ?_ | refine W.exit ?_)
    exact W.ret (.ret [_] rfl rfl)
theorem Typed07_W {m : Nat} {f : Fo} (g : List Y) (h : Fo.Ok m g.reverse f) (hm : m ≤ 1000000) (hf : f.free) (hs : f.size ≤ 4096) (ht : f.tyLe 64) (hg : g.length ≤ 3) (hgs : ∀ y ∈ g, y.size ≤ 64) : ∃ e : Int, (e = 0 ∨ e = 4) ∧ Gives (AC X) 74 [.sl .no (g.map cY), .agg (cF f)] (.int .i64 e) := by
  obtain ⟨e, he, h1⟩ := typed07_W (X := X) h hm hf hs ht g rfl (by omega)
  have h2 := check07_W (X := X) f hs ht
  have h3 := context01_W (X := X) g hg hgs
  have h4 : Gives (AC X) 162 [.sl .no (g.map cY), .agg (cF f)] (.int .i64 e) := by
    refine givesW (fn := Tryz.f162) Tryz.func162 rfl rfl rfl ?_
    repeat (first | refine W.condT rfl ?_ | refine W.condF rfl ?_ | refine W.seq ?_ | refine W.block ?_ | refine W.skip ?_ | refine WO.nil ?_ | refine WD.nil (WO.go rfl ?_) | refine W.region rfl (WO.go rfl ?_) | refine WO.gives h2 rfl rfl rfl rfl rfl rfl rfl rfl rfl (WO.go rfl ?_) | refine WD.gives h2 rfl rfl rfl rfl rfl rfl rfl rfl rfl (WD.go rfl ?_) | refine WO.gives h1 rfl rfl rfl rfl rfl rfl rfl rfl rfl (WO.go rfl ?_) | refine WD.gives h1 rfl rfl rfl rfl rfl rfl rfl rfl rfl (WD.go rfl ?_) | refine WO.append0 rfl rfl rfl rfl rfl rfl rfl rfl rfl (WO.go rfl ?_) | refine WO.appendF (by simp) (by exact lens_ok rfl) (by exact lens_ok rfl) (by first | decide | simp) (by first | decide | simp) rfl rfl rfl rfl rfl rfl rfl rfl rfl rfl (WO.go rfl ?_) | refine WO.appendI (by simp) (by exact lens_ok rfl) (by first | decide | simp) (by first | decide | simp) rfl rfl rfl rfl rfl rfl rfl rfl rfl rfl (WO.go rfl ?_) | refine W.loop ?_ | refine W.exit ?_)
    exact W.ret (.ret [_] rfl rfl)
  refine ⟨e, he, ?_⟩
  refine givesW (fn := Tryz.f74) Tryz.func74 rfl rfl rfl ?_
  repeat (first | refine W.condT rfl ?_ | refine W.condF rfl ?_ | refine W.seq ?_ | refine W.block ?_ | refine W.skip ?_ | refine WO.nil ?_ | refine WD.nil (WO.go rfl ?_) | refine W.region rfl (WO.go rfl ?_) | refine WO.gives h3 rfl rfl rfl rfl rfl rfl rfl rfl rfl (WO.go rfl ?_) | refine WD.gives h3 rfl rfl rfl rfl rfl rfl rfl rfl rfl (WD.go rfl ?_) | refine WO.gives h4 rfl rfl rfl rfl rfl rfl rfl rfl rfl (WO.go rfl ?_) | refine WD.gives h4 rfl rfl rfl rfl rfl rfl rfl rfl rfl (WD.go rfl ?_) | refine WO.append0 rfl rfl rfl rfl rfl rfl rfl rfl rfl (WO.go rfl ?_) | refine WO.appendF (by simp) (by exact lens_ok rfl) (by exact lens_ok rfl) (by first | decide | simp) (by first | decide | simp) rfl rfl rfl rfl rfl rfl rfl rfl rfl rfl (WO.go rfl ?_) | refine WO.appendI (by simp) (by exact lens_ok rfl) (by first | decide | simp) (by first | decide | simp) rfl rfl rfl rfl rfl rfl rfl rfl rfl rfl (WO.go rfl ?_) | refine W.loop ?_ | refine W.exit ?_)
  exact W.ret (.ret [_] rfl rfl)
theorem matrixFree_W (l : List Int) : Gives (AC X) 9 [.sl .no (ints l)] (.bool true) := by
  have hfew := few_W (X := X) (ints l)
  have haw := awake29_W (X := X)
  rw [ints_len] at hfew
  by_cases hl : l.length ≤ 500
  · rw [decide_eq_true (show (l.length : Int) ≤ 500 by omega)] at hfew
    obtain ⟨st', hnew, hst⟩ := new_W (X := X) l
    obtain ⟨g, j1, hg, hg1, hg2, hg3, hg4⟩ := context_W (X := X) l (by omega) 0 (by omega)
    have hp := parts_W (X := X) l (by omega) g hg4 (by omega) j1 hg2
    rcases hp with ⟨j2, hp, hj2⟩ | ⟨f, w, c, j2, hp, hj2, f1, f2, f3, hw, hc, f4, f5, w1, c1, w2, c2⟩
    · refine givesW (fn := Tryz.f9) Tryz.func9 rfl rfl rfl ?_
      repeat (first | (refine WO.new hnew hst rfl rfl rfl rfl rfl rfl rfl rfl rfl (WO.go rfl ?_)) | refine W.condT rfl ?_ | refine W.condF rfl ?_ | refine W.seq ?_ | refine W.block ?_ | refine W.skip ?_ | refine WO.nil ?_ | refine WD.nil (WO.go rfl ?_) | refine W.region rfl (WO.go rfl ?_) | refine WO.gives haw rfl rfl rfl rfl rfl rfl rfl rfl rfl (WO.go rfl ?_) | refine WD.gives haw rfl rfl rfl rfl rfl rfl rfl rfl rfl (WD.go rfl ?_) | refine WO.gives hfew rfl rfl rfl rfl rfl rfl rfl rfl rfl (WO.go rfl ?_) | refine WD.gives hfew rfl rfl rfl rfl rfl rfl rfl rfl rfl (WD.go rfl ?_) | refine WO.draws hg rfl rfl rfl rfl rfl rfl rfl rfl rfl rfl rfl (WO.go rfl ?_) | refine WD.draws hg rfl rfl rfl rfl rfl rfl rfl rfl rfl rfl rfl rfl (WD.go rfl ?_) | refine WO.givesVT [0] hp (by decide) rfl rfl rfl rfl rfl rfl rfl rfl rfl rfl rfl rfl rfl (WO.go rfl ?_) | refine WO.append0 rfl rfl rfl rfl rfl rfl rfl rfl rfl (WO.go rfl ?_) | refine WO.appendF (by simp) (by exact lens_ok rfl) (by exact lens_ok rfl) (by first | decide | simp) (by first | decide | simp) rfl rfl rfl rfl rfl rfl rfl rfl rfl rfl (WO.go rfl ?_) | refine WO.appendI (by simp) (by exact lens_ok rfl) (by first | decide | simp) (by first | decide | simp) rfl rfl rfl rfl rfl rfl rfl rfl rfl rfl (WO.go rfl ?_) | refine W.loop ?_ | refine W.exit ?_)
      exact W.ret (.ret [_] rfl rfl)
    · have hm := formulaM_W (X := X) f w c 133 g.reverse f1 f2 f3 hw hc f4 f5 w2 c2 w1 c1 (by simp; omega)
      have hM := @MR_M (Fo.bone f) f w c
      have hMo := Fo.M_ok (n := Fo.bone f) (Nat.le_refl _) f1 f3 hw hc
      have hMt := M_tyLe (k := 64) (n := Fo.bone f) (Nat.le_refl _) f1 f5 w2 c2
      have hMf := Fo.M_free (n := Fo.bone f) (w := w) (c := c) (Nat.le_refl _) f1
      revert hm hM
      generalize MR (Fo.bone f) f w c = RR
      intro hm hM
      cases RR with
      | none =>
        refine givesW (fn := Tryz.f9) Tryz.func9 rfl rfl rfl ?_
        repeat (first | (refine WO.new hnew hst rfl rfl rfl rfl rfl rfl rfl rfl rfl (WO.go rfl ?_)) | refine W.condT rfl ?_ | refine W.condF rfl ?_ | refine W.seq ?_ | refine W.block ?_ | refine W.skip ?_ | refine WO.nil ?_ | refine WD.nil (WO.go rfl ?_) | refine W.region rfl (WO.go rfl ?_) | refine WO.gives haw rfl rfl rfl rfl rfl rfl rfl rfl rfl (WO.go rfl ?_) | refine WD.gives haw rfl rfl rfl rfl rfl rfl rfl rfl rfl (WD.go rfl ?_) | refine WO.gives hfew rfl rfl rfl rfl rfl rfl rfl rfl rfl (WO.go rfl ?_) | refine WD.gives hfew rfl rfl rfl rfl rfl rfl rfl rfl rfl (WD.go rfl ?_) | refine WO.draws hg rfl rfl rfl rfl rfl rfl rfl rfl rfl rfl rfl (WO.go rfl ?_) | refine WD.draws hg rfl rfl rfl rfl rfl rfl rfl rfl rfl rfl rfl rfl (WD.go rfl ?_) | refine WO.givesVT [0] hp (by decide) rfl rfl rfl rfl rfl rfl rfl rfl rfl rfl rfl rfl rfl (WO.go rfl ?_) | refine WO.givesT hm rfl rfl rfl rfl rfl rfl rfl rfl rfl (WO.go rfl ?_) | refine WD.givesT hm rfl rfl rfl rfl rfl rfl rfl rfl rfl (WD.go rfl ?_) | refine WO.append0 rfl rfl rfl rfl rfl rfl rfl rfl rfl (WO.go rfl ?_) | refine WO.appendF (by simp) (by exact lens_ok rfl) (by exact lens_ok rfl) (by first | decide | simp) (by first | decide | simp) rfl rfl rfl rfl rfl rfl rfl rfl rfl rfl (WO.go rfl ?_) | refine WO.appendI (by simp) (by exact lens_ok rfl) (by first | decide | simp) (by first | decide | simp) rfl rfl rfl rfl rfl rfl rfl rfl rfl rfl (WO.go rfl ?_) | refine W.loop ?_ | refine W.exit ?_)
        exact W.ret (.ret [_] rfl rfl)
      | some m =>
        obtain ⟨em, hms⟩ := hM rfl
        have hms := hms f4
        rw [← em] at hMo hMt hMf
        have k1 := Free08_W (X := X) m hMf hms hMt
        have k2 := freeM_W (X := X) m
        rw [freeB_of m hMf] at k2
        obtain ⟨e, he, k3⟩ := Typed07_W (X := X) g hMo (by omega) hMf hms hMt hg3 (fun y hy => by have := hg4 y hy; omega)
        rcases he with rfl | rfl <;>
        · refine givesW (fn := Tryz.f9) Tryz.func9 rfl rfl rfl ?_
          repeat (first | (refine WO.new hnew hst rfl rfl rfl rfl rfl rfl rfl rfl rfl (WO.go rfl ?_)) | refine W.condT rfl ?_ | refine W.condF rfl ?_ | refine W.seq ?_ | refine W.block ?_ | refine W.skip ?_ | refine WO.nil ?_ | refine WD.nil (WO.go rfl ?_) | refine W.region rfl (WO.go rfl ?_) | refine WO.gives haw rfl rfl rfl rfl rfl rfl rfl rfl rfl (WO.go rfl ?_) | refine WD.gives haw rfl rfl rfl rfl rfl rfl rfl rfl rfl (WD.go rfl ?_) | refine WO.gives hfew rfl rfl rfl rfl rfl rfl rfl rfl rfl (WO.go rfl ?_) | refine WD.gives hfew rfl rfl rfl rfl rfl rfl rfl rfl rfl (WD.go rfl ?_) | refine WO.draws hg rfl rfl rfl rfl rfl rfl rfl rfl rfl rfl rfl (WO.go rfl ?_) | refine WD.draws hg rfl rfl rfl rfl rfl rfl rfl rfl rfl rfl rfl rfl (WD.go rfl ?_) | refine WO.givesVT [0] hp (by decide) rfl rfl rfl rfl rfl rfl rfl rfl rfl rfl rfl rfl rfl (WO.go rfl ?_) | refine WO.givesT hm rfl rfl rfl rfl rfl rfl rfl rfl rfl (WO.go rfl ?_) | refine WD.givesT hm rfl rfl rfl rfl rfl rfl rfl rfl rfl (WD.go rfl ?_) | refine WO.givesT k1 rfl rfl rfl rfl rfl rfl rfl rfl rfl (WO.go rfl ?_) | refine WD.givesT k1 rfl rfl rfl rfl rfl rfl rfl rfl rfl (WD.go rfl ?_) | refine WO.gives k2 rfl rfl rfl rfl rfl rfl rfl rfl rfl (WO.go rfl ?_) | refine WD.gives k2 rfl rfl rfl rfl rfl rfl rfl rfl rfl (WD.go rfl ?_) | refine WO.gives k3 rfl rfl rfl rfl rfl rfl rfl rfl rfl (WO.go rfl ?_) | refine WD.gives k3 rfl rfl rfl rfl rfl rfl rfl rfl rfl (WD.go rfl ?_) | refine WO.append0 rfl rfl rfl rfl rfl rfl rfl rfl rfl (WO.go rfl ?_) | refine WO.appendF (by simp) (by exact lens_ok rfl) (by exact lens_ok rfl) (by first | decide | simp) (by first | decide | simp) rfl rfl rfl rfl rfl rfl rfl rfl rfl rfl (WO.go rfl ?_) | refine WO.appendI (by simp) (by exact lens_ok rfl) (by first | decide | simp) (by first | decide | simp) rfl rfl rfl rfl rfl rfl rfl rfl rfl rfl (WO.go rfl ?_) | refine W.loop ?_ | refine W.exit ?_)
          exact W.ret (.ret [_] rfl rfl)
  · rw [decide_eq_false (show ¬ (l.length : Int) ≤ 500 by omega)] at hfew
    refine givesW (fn := Tryz.f9) Tryz.func9 rfl rfl rfl ?_
    repeat (first | refine W.condT rfl ?_ | refine W.condF rfl ?_ | refine W.seq ?_ | refine W.block ?_ | refine W.skip ?_ | refine WO.nil ?_ | refine WD.nil (WO.go rfl ?_) | refine W.region rfl (WO.go rfl ?_) | refine WO.gives haw rfl rfl rfl rfl rfl rfl rfl rfl rfl (WO.go rfl ?_) | refine WD.gives haw rfl rfl rfl rfl rfl rfl rfl rfl rfl (WD.go rfl ?_) | refine WO.gives hfew rfl rfl rfl rfl rfl rfl rfl rfl rfl (WO.go rfl ?_) | refine WD.gives hfew rfl rfl rfl rfl rfl rfl rfl rfl rfl (WD.go rfl ?_) | refine WO.append0 rfl rfl rfl rfl rfl rfl rfl rfl rfl (WO.go rfl ?_) | refine WO.appendF (by simp) (by exact lens_ok rfl) (by exact lens_ok rfl) (by first | decide | simp) (by first | decide | simp) rfl rfl rfl rfl rfl rfl rfl rfl rfl rfl (WO.go rfl ?_) | refine WO.appendI (by simp) (by exact lens_ok rfl) (by first | decide | simp) (by first | decide | simp) rfl rfl rfl rfl rfl rfl rfl rfl rfl rfl (WO.go rfl ?_) | refine W.loop ?_ | refine W.exit ?_)
    exact W.ret (.ret [_] rfl rfl)
end Go.Proofs.YtjdlmhbkfammlabGreatDoor
