/- A part of the proof: walks of the functions. -/
import Derived.Test.YtjdlmhbkfammlabGreatDoorSeate
namespace Go.Proofs.YtjdlmhbkfammlabGreatDoor
open Go Go.Sh
set_option linter.unusedVariables false
set_option linter.unusedSimpArgs false
set_option maxHeartbeats 4000000
variable {X : CRel}
/-! package matrix -/
theorem checkTerm_W (x : T) (hs : x.size ≤ 4096) (ht : x.tyLe 64) : Gives (AC X) 170 [.agg (cT x)] (.tup [.int .i64 x.size, .int .i64 0]) := by
  refine givesW (fn := Tryz.f170) Tryz.func170 rfl rfl rfl ?_
  repeat (first | refine W.condT rfl ?_ | refine W.condF rfl ?_ | refine W.seq ?_ | refine W.block ?_ | refine W.skip ?_ | refine WO.nil ?_ | refine WD.nil (WO.go rfl ?_) | refine W.region rfl (WO.go rfl ?_) | refine WO.givesT (termNodes_W x (by omega) ht) rfl rfl rfl rfl rfl rfl rfl rfl rfl (WO.go rfl ?_) | refine WD.givesT (termNodes_W x (by omega) ht) rfl rfl rfl rfl rfl rfl rfl rfl rfl (WD.go rfl ?_) | refine WO.append0 rfl rfl rfl rfl rfl rfl rfl rfl rfl (WO.go rfl ?_) | refine WO.appendF (by simp) (by exact lens_ok rfl) (by exact lens_ok rfl) (by first | decide | simp) (by first | decide | simp) rfl rfl rfl rfl rfl rfl rfl rfl rfl rfl (WO.go rfl ?_) | refine WO.appendI (by simp) (by exact lens_ok rfl) (by first | decide | simp) (by first | decide | simp) rfl rfl rfl rfl rfl rfl rfl rfl rfl rfl (WO.go rfl ?_) | refine W.loop ?_ | refine W.exit ?_)
  refine W.cond rfl (fun h => ?_) (fun _ => ?_)
  · simp at h; omega
  · repeat (first | refine W.condT rfl ?_ | refine W.condF rfl ?_ | refine W.seq ?_ | refine W.block ?_ | refine W.skip ?_ | refine WO.nil ?_ | refine WD.nil (WO.go rfl ?_) | refine W.region rfl (WO.go rfl ?_) | refine WO.append0 rfl rfl rfl rfl rfl rfl rfl rfl rfl (WO.go rfl ?_) | refine WO.appendF (by simp) (by exact lens_ok rfl) (by exact lens_ok rfl) (by first | decide | simp) (by first | decide | simp) rfl rfl rfl rfl rfl rfl rfl rfl rfl rfl (WO.go rfl ?_) | refine WO.appendI (by simp) (by exact lens_ok rfl) (by first | decide | simp) (by first | decide | simp) rfl rfl rfl rfl rfl rfl rfl rfl rfl rfl (WO.go rfl ?_) | refine W.loop ?_ | refine W.exit ?_)
    exact W.ret (.ret [_, _] rfl rfl)
theorem termsCheck_W (x : T) (hs : x.size ≤ 4096) (ht : x.tyLe 64) : Gives (AC X) 102 [.agg (cT x)] (.int .i64 0) := by
  refine givesW (fn := Tryz.f102) Tryz.func102 rfl rfl rfl ?_
  repeat (first | refine W.condT rfl ?_ | refine W.condF rfl ?_ | refine W.seq ?_ | refine W.block ?_ | refine W.skip ?_ | refine WO.nil ?_ | refine WD.nil (WO.go rfl ?_) | refine W.region rfl (WO.go rfl ?_) | refine WO.givesT (checkTerm_W x hs ht) rfl rfl rfl rfl rfl rfl rfl rfl rfl (WO.go rfl ?_) | refine WD.givesT (checkTerm_W x hs ht) rfl rfl rfl rfl rfl rfl rfl rfl rfl (WD.go rfl ?_) | refine WO.append0 rfl rfl rfl rfl rfl rfl rfl rfl rfl (WO.go rfl ?_) | refine WO.appendF (by simp) (by exact lens_ok rfl) (by exact lens_ok rfl) (by first | decide | simp) (by first | decide | simp) rfl rfl rfl rfl rfl rfl rfl rfl rfl rfl (WO.go rfl ?_) | refine WO.appendI (by simp) (by exact lens_ok rfl) (by first | decide | simp) (by first | decide | simp) rfl rfl rfl rfl rfl rfl rfl rfl rfl rfl (WO.go rfl ?_) | refine W.loop ?_ | refine W.exit ?_)
  exact W.ret (.ret [_] rfl rfl)
theorem kinds_W (f : Fo) (w c : Y) (hp : f.pure) (hs : f.size ≤ 4096) (ht : f.tyLe 64) (e : f.bothE = some (w, c)) : Gives (AC X) 210 [.agg (cF f)] (.tup [.agg (cY w), .agg (cY c)]) := by
  have hw := witness_W (X := X) f hp hs ht
  have hc := challenge_W (X := X) f hp hs ht
  rw [e] at hw hc
  refine givesW (fn := Tryz.f210) Tryz.func210 rfl rfl rfl ?_
  repeat (first | refine W.condT rfl ?_ | refine W.condF rfl ?_ | refine W.seq ?_ | refine W.block ?_ | refine W.skip ?_ | refine WO.nil ?_ | refine WD.nil (WO.go rfl ?_) | refine W.region rfl (WO.go rfl ?_) | refine WO.givesT hw rfl rfl rfl rfl rfl rfl rfl rfl rfl (WO.go rfl ?_) | refine WD.givesT hw rfl rfl rfl rfl rfl rfl rfl rfl rfl (WD.go rfl ?_) | refine WO.givesT hc rfl rfl rfl rfl rfl rfl rfl rfl rfl (WO.go rfl ?_) | refine WD.givesT hc rfl rfl rfl rfl rfl rfl rfl rfl rfl (WD.go rfl ?_) | refine WO.append0 rfl rfl rfl rfl rfl rfl rfl rfl rfl (WO.go rfl ?_) | refine WO.appendF (by simp) (by exact lens_ok rfl) (by exact lens_ok rfl) (by first | decide | simp) (by first | decide | simp) rfl rfl rfl rfl rfl rfl rfl rfl rfl rfl (WO.go rfl ?_) | refine WO.appendI (by simp) (by exact lens_ok rfl) (by first | decide | simp) (by first | decide | simp) rfl rfl rfl rfl rfl rfl rfl rfl rfl rfl (WO.go rfl ?_) | refine W.loop ?_ | refine W.exit ?_)
  refine W.any2 _ rfl (by repeat (first | exact trivial | exact rfl | exact Fr.ext2 (fun i => cond2 rfl i _ _ _) rfl rfl | refine And.intro ?_ ?_)) ?_
  repeat (first | refine W.condT rfl ?_ | refine W.condF rfl ?_ | refine W.seq ?_ | refine W.block ?_ | refine W.skip ?_ | refine WO.nil ?_ | refine WD.nil (WO.go rfl ?_) | refine W.region rfl (WO.go rfl ?_) | refine WO.append0 rfl rfl rfl rfl rfl rfl rfl rfl rfl (WO.go rfl ?_) | refine WO.appendF (by simp) (by exact lens_ok rfl) (by exact lens_ok rfl) (by first | decide | simp) (by first | decide | simp) rfl rfl rfl rfl rfl rfl rfl rfl rfl rfl (WO.go rfl ?_) | refine WO.appendI (by simp) (by exact lens_ok rfl) (by first | decide | simp) (by first | decide | simp) rfl rfl rfl rfl rfl rfl rfl rfl rfl rfl (WO.go rfl ?_) | refine W.loop ?_ | refine W.exit ?_)
  exact W.ret (.ret [_, _] rfl rfl)
def rMat : Option Fo → AV
  | some m => .tup [.agg (cF m), .int .i64 0]
  | none => .tup [.agg zF, .int .i64 4]
def kB : Bk → Int
  | .an => 2 | .im => 3
theorem twoM_W (k : Bk) (a b : Fo) (v c w d : T) (ra rb : Option Fo) (ha : Gives (AC X) 160 [.agg (cF a), .agg (cT v), .agg (cT c)] (rMat ra)) (hb : Gives (AC X) 160 [.agg (cF b), .agg (cT w), .agg (cT d)] (rMat rb))
    (hsa : ∀ x, ra = some x → x.size ≤ 4096) (hsb : ∀ x, rb = some x → x.size ≤ 4096) :
    Gives (AC X) 211 [.int .i64 (kB k), .agg (cF a), .agg (cT v), .agg (cT c), .agg (cF b), .agg (cT w), .agg (cT d)] (rMat (twoR k ra rb)) := by
  cases ra with
  | none =>
    refine givesW (fn := Tryz.f211) Tryz.func211 rfl rfl rfl ?_
    repeat (first | refine W.condT rfl ?_ | refine W.condF rfl ?_ | refine W.seq ?_ | refine W.block ?_ | refine W.skip ?_ | refine WO.nil ?_ | refine WD.nil (WO.go rfl ?_) | refine W.region rfl (WO.go rfl ?_) | refine WO.givesT ha rfl rfl rfl rfl rfl rfl rfl rfl rfl (WO.go rfl ?_) | refine WD.givesT ha rfl rfl rfl rfl rfl rfl rfl rfl rfl (WD.go rfl ?_) | refine WO.append0 rfl rfl rfl rfl rfl rfl rfl rfl rfl (WO.go rfl ?_) | refine WO.appendF (by simp) (by exact lens_ok rfl) (by exact lens_ok rfl) (by first | decide | simp) (by first | decide | simp) rfl rfl rfl rfl rfl rfl rfl rfl rfl rfl (WO.go rfl ?_) | refine WO.appendI (by simp) (by exact lens_ok rfl) (by first | decide | simp) (by first | decide | simp) rfl rfl rfl rfl rfl rfl rfl rfl rfl rfl (WO.go rfl ?_) | refine W.loop ?_ | refine W.exit ?_)
    exact W.ret (.ret [_, _] rfl rfl)
  | some x =>
    have hx := hsa x rfl
    cases rb with
    | none =>
      refine givesW (fn := Tryz.f211) Tryz.func211 rfl rfl rfl ?_
      repeat (first | refine W.condT rfl ?_ | refine W.condF rfl ?_ | refine W.seq ?_ | refine W.block ?_ | refine W.skip ?_ | refine WO.nil ?_ | refine WD.nil (WO.go rfl ?_) | refine W.region rfl (WO.go rfl ?_) | refine WO.givesT ha rfl rfl rfl rfl rfl rfl rfl rfl rfl (WO.go rfl ?_) | refine WD.givesT ha rfl rfl rfl rfl rfl rfl rfl rfl rfl (WD.go rfl ?_) | refine WO.givesT hb rfl rfl rfl rfl rfl rfl rfl rfl rfl (WO.go rfl ?_) | refine WD.givesT hb rfl rfl rfl rfl rfl rfl rfl rfl rfl (WD.go rfl ?_) | refine WO.append0 rfl rfl rfl rfl rfl rfl rfl rfl rfl (WO.go rfl ?_) | refine WO.appendF (by simp) (by exact lens_ok rfl) (by exact lens_ok rfl) (by first | decide | simp) (by first | decide | simp) rfl rfl rfl rfl rfl rfl rfl rfl rfl rfl (WO.go rfl ?_) | refine WO.appendI (by simp) (by exact lens_ok rfl) (by first | decide | simp) (by first | decide | simp) rfl rfl rfl rfl rfl rfl rfl rfl rfl rfl (WO.go rfl ?_) | refine W.loop ?_ | refine W.exit ?_)
      exact W.ret (.ret [_, _] rfl rfl)
    | some y =>
      have hy := hsb y rfl
      cases k with
      | an =>
        have hz := sizeS_W (X := X) (.bi .an x y) (by simp only [Fo.size]; omega)
        simp only [twoR]
        refine givesW (fn := Tryz.f211) Tryz.func211 rfl rfl rfl ?_
        repeat (first | refine W.condT rfl ?_ | refine W.condF rfl ?_ | refine W.seq ?_ | refine W.block ?_ | refine W.skip ?_ | refine WO.nil ?_ | refine WD.nil (WO.go rfl ?_) | refine W.region rfl (WO.go rfl ?_) | refine WO.givesT ha rfl rfl rfl rfl rfl rfl rfl rfl rfl (WO.go rfl ?_) | refine WD.givesT ha rfl rfl rfl rfl rfl rfl rfl rfl rfl (WD.go rfl ?_) | refine WO.givesT hb rfl rfl rfl rfl rfl rfl rfl rfl rfl (WO.go rfl ?_) | refine WD.givesT hb rfl rfl rfl rfl rfl rfl rfl rfl rfl (WD.go rfl ?_) | refine WO.gives hz rfl rfl rfl rfl rfl rfl rfl rfl rfl (WO.go rfl ?_) | refine WD.gives hz rfl rfl rfl rfl rfl rfl rfl rfl rfl (WD.go rfl ?_) | refine WO.append0 rfl rfl rfl rfl rfl rfl rfl rfl rfl (WO.go rfl ?_) | refine WO.appendF (by simp) (by exact lens_ok rfl) (by exact lens_ok rfl) (by first | decide | simp) (by first | decide | simp) rfl rfl rfl rfl rfl rfl rfl rfl rfl rfl (WO.go rfl ?_) | refine WO.appendI (by simp) (by exact lens_ok rfl) (by first | decide | simp) (by first | decide | simp) rfl rfl rfl rfl rfl rfl rfl rfl rfl rfl (WO.go rfl ?_) | refine W.loop ?_ | refine W.exit ?_)
        refine W.cond rfl (fun h => ?_) (fun h => ?_)
        · rw [if_neg (by simp at h; omega)]
          repeat (first | refine W.condT rfl ?_ | refine W.condF rfl ?_ | refine W.seq ?_ | refine W.block ?_ | refine W.skip ?_ | refine WO.nil ?_ | refine WD.nil (WO.go rfl ?_) | refine W.region rfl (WO.go rfl ?_) | refine WO.append0 rfl rfl rfl rfl rfl rfl rfl rfl rfl (WO.go rfl ?_) | refine WO.appendF (by simp) (by exact lens_ok rfl) (by exact lens_ok rfl) (by first | decide | simp) (by first | decide | simp) rfl rfl rfl rfl rfl rfl rfl rfl rfl rfl (WO.go rfl ?_) | refine WO.appendI (by simp) (by exact lens_ok rfl) (by first | decide | simp) (by first | decide | simp) rfl rfl rfl rfl rfl rfl rfl rfl rfl rfl (WO.go rfl ?_) | refine W.loop ?_ | refine W.exit ?_)
          exact W.ret (.ret [_, _] rfl rfl)
        · rw [if_pos (by simp at h; omega)]
          repeat (first | refine W.condT rfl ?_ | refine W.condF rfl ?_ | refine W.seq ?_ | refine W.block ?_ | refine W.skip ?_ | refine WO.nil ?_ | refine WD.nil (WO.go rfl ?_) | refine W.region rfl (WO.go rfl ?_) | refine WO.append0 rfl rfl rfl rfl rfl rfl rfl rfl rfl (WO.go rfl ?_) | refine WO.appendF (by simp) (by exact lens_ok rfl) (by exact lens_ok rfl) (by first | decide | simp) (by first | decide | simp) rfl rfl rfl rfl rfl rfl rfl rfl rfl rfl (WO.go rfl ?_) | refine WO.appendI (by simp) (by exact lens_ok rfl) (by first | decide | simp) (by first | decide | simp) rfl rfl rfl rfl rfl rfl rfl rfl rfl rfl (WO.go rfl ?_) | refine W.loop ?_ | refine W.exit ?_)
          exact W.ret (.ret [_, _] rfl rfl)
      | im =>
        have hz := sizeS_W (X := X) (.bi .im x y) (by simp only [Fo.size]; omega)
        simp only [twoR]
        refine givesW (fn := Tryz.f211) Tryz.func211 rfl rfl rfl ?_
        repeat (first | refine W.condT rfl ?_ | refine W.condF rfl ?_ | refine W.seq ?_ | refine W.block ?_ | refine W.skip ?_ | refine WO.nil ?_ | refine WD.nil (WO.go rfl ?_) | refine W.region rfl (WO.go rfl ?_) | refine WO.givesT ha rfl rfl rfl rfl rfl rfl rfl rfl rfl (WO.go rfl ?_) | refine WD.givesT ha rfl rfl rfl rfl rfl rfl rfl rfl rfl (WD.go rfl ?_) | refine WO.givesT hb rfl rfl rfl rfl rfl rfl rfl rfl rfl (WO.go rfl ?_) | refine WD.givesT hb rfl rfl rfl rfl rfl rfl rfl rfl rfl (WD.go rfl ?_) | refine WO.gives hz rfl rfl rfl rfl rfl rfl rfl rfl rfl (WO.go rfl ?_) | refine WD.gives hz rfl rfl rfl rfl rfl rfl rfl rfl rfl (WD.go rfl ?_) | refine WO.append0 rfl rfl rfl rfl rfl rfl rfl rfl rfl (WO.go rfl ?_) | refine WO.appendF (by simp) (by exact lens_ok rfl) (by exact lens_ok rfl) (by first | decide | simp) (by first | decide | simp) rfl rfl rfl rfl rfl rfl rfl rfl rfl rfl (WO.go rfl ?_) | refine WO.appendI (by simp) (by exact lens_ok rfl) (by first | decide | simp) (by first | decide | simp) rfl rfl rfl rfl rfl rfl rfl rfl rfl rfl (WO.go rfl ?_) | refine W.loop ?_ | refine W.exit ?_)
        refine W.cond rfl (fun h => ?_) (fun h => ?_)
        · rw [if_neg (by simp at h; omega)]
          repeat (first | refine W.condT rfl ?_ | refine W.condF rfl ?_ | refine W.seq ?_ | refine W.block ?_ | refine W.skip ?_ | refine WO.nil ?_ | refine WD.nil (WO.go rfl ?_) | refine W.region rfl (WO.go rfl ?_) | refine WO.append0 rfl rfl rfl rfl rfl rfl rfl rfl rfl (WO.go rfl ?_) | refine WO.appendF (by simp) (by exact lens_ok rfl) (by exact lens_ok rfl) (by first | decide | simp) (by first | decide | simp) rfl rfl rfl rfl rfl rfl rfl rfl rfl rfl (WO.go rfl ?_) | refine WO.appendI (by simp) (by exact lens_ok rfl) (by first | decide | simp) (by first | decide | simp) rfl rfl rfl rfl rfl rfl rfl rfl rfl rfl (WO.go rfl ?_) | refine W.loop ?_ | refine W.exit ?_)
          exact W.ret (.ret [_, _] rfl rfl)
        · rw [if_pos (by simp at h; omega)]
          repeat (first | refine W.condT rfl ?_ | refine W.condF rfl ?_ | refine W.seq ?_ | refine W.block ?_ | refine W.skip ?_ | refine WO.nil ?_ | refine WD.nil (WO.go rfl ?_) | refine W.region rfl (WO.go rfl ?_) | refine WO.append0 rfl rfl rfl rfl rfl rfl rfl rfl rfl (WO.go rfl ?_) | refine WO.appendF (by simp) (by exact lens_ok rfl) (by exact lens_ok rfl) (by first | decide | simp) (by first | decide | simp) rfl rfl rfl rfl rfl rfl rfl rfl rfl rfl (WO.go rfl ?_) | refine WO.appendI (by simp) (by exact lens_ok rfl) (by first | decide | simp) (by first | decide | simp) rfl rfl rfl rfl rfl rfl rfl rfl rfl rfl (WO.go rfl ?_) | refine W.loop ?_ | refine W.exit ?_)
          exact W.ret (.ret [_, _] rfl rfl)
theorem withM_W (f : Fo) (x w c : T) (r : Option Fo) (hf : f.size ≤ 4096) (hfl : f.le 1000000000) (hx : x.size ≤ 100000) (hxl : x.le 1000000000)
    (h : x.size ≤ 4096 → (Fo.put 0 x f).size ≤ 4096 → Gives (AC X) 160 [.agg (cF (Fo.put 0 x f)), .agg (cT w), .agg (cT c)] (rMat r)) :
    Gives (AC X) 216 [.agg (cF f), .agg (cT x), .agg (cT w), .agg (cT c)] (rMat (putR f x r)) := by
  have hn := nodesS_W (X := X) x (by omega)
  have hg := grownS_W (X := X) x (by omega) f (by omega)
  have hp := putFormulaS_W (X := X) x (by omega) hxl f (by omega) hfl
  by_cases h1 : x.size ≤ 4096
  · have key : decide ((x.size : Int) > 4096) = false := decide_eq_false (by omega)
    by_cases h2 : (Fo.put 0 x f).size ≤ 4096
    · have key2 : decide (((Fo.put 0 x f).size : Int) > 4096) = false := decide_eq_false (by omega)
      have ho := h h1 h2
      rw [putR, if_pos ⟨h1, h2⟩]
      cases r with
      | none =>
        refine givesW (fn := Tryz.f216) Tryz.func216 rfl rfl rfl ?_
        repeat (first | (refine WO.gives hn rfl rfl rfl rfl rfl rfl rfl rfl rfl (WO.steps 2 rfl (WO.fix 13 (congrArg AV.bool key) (WO.go rfl ?_)))) | refine W.condT rfl ?_ | refine W.condF rfl ?_ | refine W.seq ?_ | refine W.block ?_ | refine W.skip ?_ | refine WO.nil ?_ | refine WD.nil (WO.go rfl ?_) | refine W.region rfl (WO.go rfl ?_) | refine W.draw (id := 3) 8 [] rfl (by decide +kernel) rfl (WD.go rfl ?_) | refine WO.gives hg rfl rfl rfl rfl rfl rfl rfl rfl rfl (WO.go rfl ?_) | refine WD.gives hg rfl rfl rfl rfl rfl rfl rfl rfl rfl (WD.go rfl ?_) | refine WO.gives hp rfl rfl rfl rfl rfl rfl rfl rfl rfl (WO.go rfl ?_) | refine WD.gives hp rfl rfl rfl rfl rfl rfl rfl rfl rfl (WD.go rfl ?_) | refine WO.givesT ho rfl rfl rfl rfl rfl rfl rfl rfl rfl (WO.go rfl ?_) | refine WD.givesT ho rfl rfl rfl rfl rfl rfl rfl rfl rfl (WD.go rfl ?_) | refine WO.append0 rfl rfl rfl rfl rfl rfl rfl rfl rfl (WO.go rfl ?_) | refine WO.appendF (by simp) (by exact lens_ok rfl) (by exact lens_ok rfl) (by first | decide | simp) (by first | decide | simp) rfl rfl rfl rfl rfl rfl rfl rfl rfl rfl (WO.go rfl ?_) | refine WO.appendI (by simp) (by exact lens_ok rfl) (by first | decide | simp) (by first | decide | simp) rfl rfl rfl rfl rfl rfl rfl rfl rfl rfl (WO.go rfl ?_) | refine W.loop ?_ | refine W.exit ?_)
        refine W.cond rfl (fun h => absurd (h.symm.trans key2) (by decide)) (fun _ => ?_)
        repeat (first | refine W.condT rfl ?_ | refine W.condF rfl ?_ | refine W.seq ?_ | refine W.block ?_ | refine W.skip ?_ | refine WO.nil ?_ | refine WD.nil (WO.go rfl ?_) | refine W.region rfl (WO.go rfl ?_) | refine W.draw (id := 3) 8 [] rfl (by decide +kernel) rfl (WD.go rfl ?_) | refine WO.gives hp rfl rfl rfl rfl rfl rfl rfl rfl rfl (WO.go rfl ?_) | refine WD.gives hp rfl rfl rfl rfl rfl rfl rfl rfl rfl (WD.go rfl ?_) | refine WO.givesT ho rfl rfl rfl rfl rfl rfl rfl rfl rfl (WO.go rfl ?_) | refine WD.givesT ho rfl rfl rfl rfl rfl rfl rfl rfl rfl (WD.go rfl ?_) | refine WO.append0 rfl rfl rfl rfl rfl rfl rfl rfl rfl (WO.go rfl ?_) | refine WO.appendF (by simp) (by exact lens_ok rfl) (by exact lens_ok rfl) (by first | decide | simp) (by first | decide | simp) rfl rfl rfl rfl rfl rfl rfl rfl rfl rfl (WO.go rfl ?_) | refine WO.appendI (by simp) (by exact lens_ok rfl) (by first | decide | simp) (by first | decide | simp) rfl rfl rfl rfl rfl rfl rfl rfl rfl rfl (WO.go rfl ?_) | refine W.loop ?_ | refine W.exit ?_)
        exact W.ret (.ret [_, _] rfl rfl)
      | some y =>
        refine givesW (fn := Tryz.f216) Tryz.func216 rfl rfl rfl ?_
        repeat (first | (refine WO.gives hn rfl rfl rfl rfl rfl rfl rfl rfl rfl (WO.steps 2 rfl (WO.fix 13 (congrArg AV.bool key) (WO.go rfl ?_)))) | refine W.condT rfl ?_ | refine W.condF rfl ?_ | refine W.seq ?_ | refine W.block ?_ | refine W.skip ?_ | refine WO.nil ?_ | refine WD.nil (WO.go rfl ?_) | refine W.region rfl (WO.go rfl ?_) | refine W.draw (id := 3) 8 [] rfl (by decide +kernel) rfl (WD.go rfl ?_) | refine WO.gives hg rfl rfl rfl rfl rfl rfl rfl rfl rfl (WO.go rfl ?_) | refine WD.gives hg rfl rfl rfl rfl rfl rfl rfl rfl rfl (WD.go rfl ?_) | refine WO.gives hp rfl rfl rfl rfl rfl rfl rfl rfl rfl (WO.go rfl ?_) | refine WD.gives hp rfl rfl rfl rfl rfl rfl rfl rfl rfl (WD.go rfl ?_) | refine WO.givesT ho rfl rfl rfl rfl rfl rfl rfl rfl rfl (WO.go rfl ?_) | refine WD.givesT ho rfl rfl rfl rfl rfl rfl rfl rfl rfl (WD.go rfl ?_) | refine WO.append0 rfl rfl rfl rfl rfl rfl rfl rfl rfl (WO.go rfl ?_) | refine WO.appendF (by simp) (by exact lens_ok rfl) (by exact lens_ok rfl) (by first | decide | simp) (by first | decide | simp) rfl rfl rfl rfl rfl rfl rfl rfl rfl rfl (WO.go rfl ?_) | refine WO.appendI (by simp) (by exact lens_ok rfl) (by first | decide | simp) (by first | decide | simp) rfl rfl rfl rfl rfl rfl rfl rfl rfl rfl (WO.go rfl ?_) | refine W.loop ?_ | refine W.exit ?_)
        refine W.cond rfl (fun h => absurd (h.symm.trans key2) (by decide)) (fun _ => ?_)
        repeat (first | refine W.condT rfl ?_ | refine W.condF rfl ?_ | refine W.seq ?_ | refine W.block ?_ | refine W.skip ?_ | refine WO.nil ?_ | refine WD.nil (WO.go rfl ?_) | refine W.region rfl (WO.go rfl ?_) | refine W.draw (id := 3) 8 [] rfl (by decide +kernel) rfl (WD.go rfl ?_) | refine WO.gives hp rfl rfl rfl rfl rfl rfl rfl rfl rfl (WO.go rfl ?_) | refine WD.gives hp rfl rfl rfl rfl rfl rfl rfl rfl rfl (WD.go rfl ?_) | refine WO.givesT ho rfl rfl rfl rfl rfl rfl rfl rfl rfl (WO.go rfl ?_) | refine WD.givesT ho rfl rfl rfl rfl rfl rfl rfl rfl rfl (WD.go rfl ?_) | refine WO.append0 rfl rfl rfl rfl rfl rfl rfl rfl rfl (WO.go rfl ?_) | refine WO.appendF (by simp) (by exact lens_ok rfl) (by exact lens_ok rfl) (by first | decide | simp) (by first | decide | simp) rfl rfl rfl rfl rfl rfl rfl rfl rfl rfl (WO.go rfl ?_) | refine WO.appendI (by simp) (by exact lens_ok rfl) (by first | decide | simp) (by first | decide | simp) rfl rfl rfl rfl rfl rfl rfl rfl rfl rfl (WO.go rfl ?_) | refine W.loop ?_ | refine W.exit ?_)
        exact W.ret (.ret [_, _] rfl rfl)
    · have key2 : decide (((Fo.put 0 x f).size : Int) > 4096) = true := decide_eq_true (by omega)
      rw [putR, if_neg (fun h => h2 h.2)]
      refine givesW (fn := Tryz.f216) Tryz.func216 rfl rfl rfl ?_
      repeat (first | (refine WO.gives hn rfl rfl rfl rfl rfl rfl rfl rfl rfl (WO.steps 2 rfl (WO.fix 13 (congrArg AV.bool key) (WO.go rfl ?_)))) | refine W.condT rfl ?_ | refine W.condF rfl ?_ | refine W.seq ?_ | refine W.block ?_ | refine W.skip ?_ | refine WO.nil ?_ | refine WD.nil (WO.go rfl ?_) | refine W.region rfl (WO.go rfl ?_) | refine W.draw (id := 3) 8 [] rfl (by decide +kernel) rfl (WD.go rfl ?_) | refine WO.gives hg rfl rfl rfl rfl rfl rfl rfl rfl rfl (WO.go rfl ?_) | refine WD.gives hg rfl rfl rfl rfl rfl rfl rfl rfl rfl (WD.go rfl ?_) | refine WO.append0 rfl rfl rfl rfl rfl rfl rfl rfl rfl (WO.go rfl ?_) | refine WO.appendF (by simp) (by exact lens_ok rfl) (by exact lens_ok rfl) (by first | decide | simp) (by first | decide | simp) rfl rfl rfl rfl rfl rfl rfl rfl rfl rfl (WO.go rfl ?_) | refine WO.appendI (by simp) (by exact lens_ok rfl) (by first | decide | simp) (by first | decide | simp) rfl rfl rfl rfl rfl rfl rfl rfl rfl rfl (WO.go rfl ?_) | refine W.loop ?_ | refine W.exit ?_)
      refine W.cond rfl (fun _ => ?_) (fun h => absurd (h.symm.trans key2) (by decide))
      repeat (first | refine W.condT rfl ?_ | refine W.condF rfl ?_ | refine W.seq ?_ | refine W.block ?_ | refine W.skip ?_ | refine WO.nil ?_ | refine WD.nil (WO.go rfl ?_) | refine W.region rfl (WO.go rfl ?_) | refine W.draw (id := 3) 8 [] rfl (by decide +kernel) rfl (WD.go rfl ?_) | refine WO.append0 rfl rfl rfl rfl rfl rfl rfl rfl rfl (WO.go rfl ?_) | refine WO.appendF (by simp) (by exact lens_ok rfl) (by exact lens_ok rfl) (by first | decide | simp) (by first | decide | simp) rfl rfl rfl rfl rfl rfl rfl rfl rfl rfl (WO.go rfl ?_) | refine WO.appendI (by simp) (by exact lens_ok rfl) (by first | decide | simp) (by first | decide | simp) rfl rfl rfl rfl rfl rfl rfl rfl rfl rfl (WO.go rfl ?_) | refine W.loop ?_ | refine W.exit ?_)
      exact W.ret (.ret [_, _] rfl rfl)
  · have key : decide ((x.size : Int) > 4096) = true := decide_eq_true (by omega)
    rw [putR, if_neg (fun h => h1 h.1)]
    refine givesW (fn := Tryz.f216) Tryz.func216 rfl rfl rfl ?_
    repeat (first | (refine WO.gives hn rfl rfl rfl rfl rfl rfl rfl rfl rfl (WO.steps 2 rfl (WO.fix 13 (congrArg AV.bool key) (WO.go rfl ?_)))) | refine W.condT rfl ?_ | refine W.condF rfl ?_ | refine W.seq ?_ | refine W.block ?_ | refine W.skip ?_ | refine WO.nil ?_ | refine WD.nil (WO.go rfl ?_) | refine W.region rfl (WO.go rfl ?_) | refine W.draw (id := 3) 8 [] rfl (by decide +kernel) rfl (WD.go rfl ?_) | refine WO.gives hg rfl rfl rfl rfl rfl rfl rfl rfl rfl (WO.go rfl ?_) | refine WD.gives hg rfl rfl rfl rfl rfl rfl rfl rfl rfl (WD.go rfl ?_) | refine WO.append0 rfl rfl rfl rfl rfl rfl rfl rfl rfl (WO.go rfl ?_) | refine WO.appendF (by simp) (by exact lens_ok rfl) (by exact lens_ok rfl) (by first | decide | simp) (by first | decide | simp) rfl rfl rfl rfl rfl rfl rfl rfl rfl rfl (WO.go rfl ?_) | refine WO.appendI (by simp) (by exact lens_ok rfl) (by first | decide | simp) (by first | decide | simp) rfl rfl rfl rfl rfl rfl rfl rfl rfl rfl (WO.go rfl ?_) | refine W.loop ?_ | refine W.exit ?_)
    exact W.ret (.ret [_, _] rfl rfl)
theorem ofM_W : ∀ (n : Nat) (f : Fo) (w c : T) (m : Nat) (G : List Y), Fo.bone f ≤ n → f.pure → (∃ p, f.bothE = some p) → Fo.Ok m G f → HT m G w f.both.1 → HT m G c f.both.2 → f.size ≤ 4096 → f.tyLe 64 → w.tyLe 64 → c.tyLe 64 →
    w.size ≤ 50000 → c.size ≤ 50000 → G.length ≤ 1000 → Gives (AC X) 160 [.agg (cF f), .agg (cT w), .agg (cT c)] (rMat (MR n f w c)) := by
  intro n
  induction n with
  | zero => intro f w c m G hn; cases f <;> simp only [Fo.bone] at hn <;> omega
  | succ n ih =>
    intro f w c m G hn hp he ho hw hc hs ht hwt hct hws hcs hG
    have nw := nodesS_W (X := X) w (by omega)
    have nc := nodesS_W (X := X) c (by omega)
    by_cases h1 : w.size ≤ 4096
    · have key : decide ((w.size : Int) > 4096) = false := decide_eq_false (by omega)
      by_cases h2 : c.size ≤ 4096
      · have key2 : decide ((c.size : Int) > 4096) = false := decide_eq_false (by omega)
        obtain ⟨pp, he⟩ := he
        rcases f with ⟨a, b⟩ | ⟨_ | _, f, g⟩ | ⟨_ | _ | _ | _, s, f⟩
        · simp only [MR]
          rw [if_pos ⟨h1, h2⟩]
          refine givesW (fn := Tryz.f160) Tryz.func160 rfl rfl rfl ?_
          repeat (first | (refine WO.gives nw rfl rfl rfl rfl rfl rfl rfl rfl rfl (WO.steps 2 rfl (WO.fix 32 (congrArg AV.bool key) (WO.go rfl ?_)))) | refine W.condT rfl ?_ | refine W.condF rfl ?_ | refine W.seq ?_ | refine W.block ?_ | refine W.skip ?_ | refine WO.nil ?_ | refine WD.nil (WO.go rfl ?_) | refine W.region rfl (WO.go rfl ?_) | refine W.draw (id := 7) 29 [] rfl (by decide +kernel) rfl (WD.go rfl ?_) | refine W.draw (id := 12) 8 [] rfl (by decide +kernel) rfl (WD.go rfl ?_) | refine W.draw (id := 13) 10 [] rfl (by decide +kernel) rfl (WD.go rfl ?_) | refine W.draw (id := 14) 10 [] rfl (by decide +kernel) rfl (WD.go rfl ?_) | refine W.draw (id := 15) 29 [] rfl (by decide +kernel) rfl (WD.go rfl ?_) | refine W.draw (id := 18) 12 [] rfl (by decide +kernel) rfl (WD.go rfl ?_) | refine W.draw (id := 19) 15 [] rfl (by decide +kernel) rfl (WD.go rfl ?_) | refine W.draw (id := 22) 18 [] rfl (by decide +kernel) rfl (WD.go rfl ?_) | refine WO.gives nc rfl rfl rfl rfl rfl rfl rfl rfl rfl (WO.go rfl ?_) | refine WD.gives nc rfl rfl rfl rfl rfl rfl rfl rfl rfl (WD.go rfl ?_) | refine WO.append0 rfl rfl rfl rfl rfl rfl rfl rfl rfl (WO.go rfl ?_) | refine WO.appendF (by simp) (by exact lens_ok rfl) (by exact lens_ok rfl) (by first | decide | simp) (by first | decide | simp) rfl rfl rfl rfl rfl rfl rfl rfl rfl rfl (WO.go rfl ?_) | refine WO.appendI (by simp) (by exact lens_ok rfl) (by first | decide | simp) (by first | decide | simp) rfl rfl rfl rfl rfl rfl rfl rfl rfl rfl (WO.go rfl ?_) | refine W.loop ?_ | refine W.exit ?_)
          refine W.cond rfl (fun h => absurd (h.symm.trans key2) (by decide)) (fun _ => ?_)
          repeat (first | refine W.condT rfl ?_ | refine W.condF rfl ?_ | refine W.seq ?_ | refine W.block ?_ | refine W.skip ?_ | refine WO.nil ?_ | refine WD.nil (WO.go rfl ?_) | refine W.region rfl (WO.go rfl ?_) | refine W.draw (id := 7) 29 [] rfl (by decide +kernel) rfl (WD.go rfl ?_) | refine W.draw (id := 12) 8 [] rfl (by decide +kernel) rfl (WD.go rfl ?_) | refine W.draw (id := 13) 10 [] rfl (by decide +kernel) rfl (WD.go rfl ?_) | refine W.draw (id := 14) 10 [] rfl (by decide +kernel) rfl (WD.go rfl ?_) | refine W.draw (id := 15) 29 [] rfl (by decide +kernel) rfl (WD.go rfl ?_) | refine W.draw (id := 18) 12 [] rfl (by decide +kernel) rfl (WD.go rfl ?_) | refine W.draw (id := 19) 15 [] rfl (by decide +kernel) rfl (WD.go rfl ?_) | refine W.draw (id := 22) 18 [] rfl (by decide +kernel) rfl (WD.go rfl ?_) | refine WO.append0 rfl rfl rfl rfl rfl rfl rfl rfl rfl (WO.go rfl ?_) | refine WO.appendF (by simp) (by exact lens_ok rfl) (by exact lens_ok rfl) (by first | decide | simp) (by first | decide | simp) rfl rfl rfl rfl rfl rfl rfl rfl rfl rfl (WO.go rfl ?_) | refine WO.appendI (by simp) (by exact lens_ok rfl) (by first | decide | simp) (by first | decide | simp) rfl rfl rfl rfl rfl rfl rfl rfl rfl rfl (WO.go rfl ?_) | refine W.loop ?_ | refine W.exit ?_)
          exact W.ret (.ret [_, _] rfl rfl)
        · simp only [Fo.size] at hs
          simp only [Fo.bone] at hn
          obtain ⟨hef, heg⟩ := bothE_bi he
          have ef := bothE_get hp.1 hef
          have eg := bothE_get hp.2 heg
          cases ho with
          | bi hof hog =>
          simp only [Fo.both] at hw hc
          simp only [MR]
          rw [if_pos ⟨h1, h2⟩]
          obtain ⟨v, p, hfb⟩ : ∃ v p, f.both = (v, p) := ⟨_, _, rfl⟩
          obtain ⟨u, r, hgb⟩ : ∃ u r, g.both = (u, r) := ⟨_, _, rfl⟩
          rw [hfb] at ef
          rw [hgb] at eg
          simp only [hfb, hgb] at hw hc ⊢
          have hk1 := kinds_W (X := X) f v p hp.1 (by omega) ht.1 ef
          have hk2 := kinds_W (X := X) g u r hp.2 (by omega) ht.2 eg
          have z1 := left_size v u w
          have z2 := left_size p r c
          have z3 := right_size v u w
          have z4 := right_size p r c
          have i1 := ih f (T.left v u w) (T.left p r c) m G (by omega) hp.1 hef hof (by rw [hfb]; exact T.left_ty hw) (by rw [hfb]; exact T.left_ty hc) (by omega) ht.1 (left_tyLe hwt) (left_tyLe hct) (by omega) (by omega) hG
          have i2 := ih g (T.right v u w) (T.right p r c) m G (by omega) hp.2 heg hog (by rw [hgb]; exact T.right_ty hw) (by rw [hgb]; exact T.right_ty hc) (by omega) ht.2 (right_tyLe hwt) (right_tyLe hct) (by omega) (by omega) hG
          have htwo := twoM_W (X := X) .an f g _ _ _ _ _ _ i1 i2 (fun x hx => (MR_M hx).2 (by omega)) (fun x hx => (MR_M hx).2 (by omega))
          have l1 := leftC_W (X := X) v u w
          have l2 := leftC_W (X := X) p r c
          have l3 := rightC_W (X := X) v u w
          have l4 := rightC_W (X := X) p r c
          revert htwo
          generalize twoR _ _ _ = RR
          intro htwo
          clear i1 i2
          generalize T.left v u w = x1 at *
          generalize T.left p r c = x2 at *
          generalize T.right v u w = x3 at *
          generalize T.right p r c = x4 at *
          cases RR with
          | none =>
            refine givesW (fn := Tryz.f160) Tryz.func160 rfl rfl rfl ?_
            repeat (first | (refine WO.gives nw rfl rfl rfl rfl rfl rfl rfl rfl rfl (WO.steps 2 rfl (WO.fix 32 (congrArg AV.bool key) (WO.go rfl ?_)))) | refine W.condT rfl ?_ | refine W.condF rfl ?_ | refine W.seq ?_ | refine W.block ?_ | refine W.skip ?_ | refine WO.nil ?_ | refine WD.nil (WO.go rfl ?_) | refine W.region rfl (WO.go rfl ?_) | refine W.draw (id := 7) 29 [] rfl (by decide +kernel) rfl (WD.go rfl ?_) | refine W.draw (id := 12) 8 [] rfl (by decide +kernel) rfl (WD.go rfl ?_) | refine W.draw (id := 13) 10 [] rfl (by decide +kernel) rfl (WD.go rfl ?_) | refine W.draw (id := 14) 10 [] rfl (by decide +kernel) rfl (WD.go rfl ?_) | refine W.draw (id := 15) 29 [] rfl (by decide +kernel) rfl (WD.go rfl ?_) | refine W.draw (id := 18) 12 [] rfl (by decide +kernel) rfl (WD.go rfl ?_) | refine W.draw (id := 19) 15 [] rfl (by decide +kernel) rfl (WD.go rfl ?_) | refine W.draw (id := 22) 18 [] rfl (by decide +kernel) rfl (WD.go rfl ?_) | refine WO.gives nc rfl rfl rfl rfl rfl rfl rfl rfl rfl (WO.go rfl ?_) | refine WD.gives nc rfl rfl rfl rfl rfl rfl rfl rfl rfl (WD.go rfl ?_) | refine WO.append0 rfl rfl rfl rfl rfl rfl rfl rfl rfl (WO.go rfl ?_) | refine WO.appendF (by simp) (by exact lens_ok rfl) (by exact lens_ok rfl) (by first | decide | simp) (by first | decide | simp) rfl rfl rfl rfl rfl rfl rfl rfl rfl rfl (WO.go rfl ?_) | refine WO.appendI (by simp) (by exact lens_ok rfl) (by first | decide | simp) (by first | decide | simp) rfl rfl rfl rfl rfl rfl rfl rfl rfl rfl (WO.go rfl ?_) | refine W.loop ?_ | refine W.exit ?_)
            refine W.cond rfl (fun h => absurd (h.symm.trans key2) (by decide)) (fun _ => ?_)
            repeat (first | refine W.condT rfl ?_ | refine W.condF rfl ?_ | refine W.seq ?_ | refine W.block ?_ | refine W.skip ?_ | refine WO.nil ?_ | refine WD.nil (WO.go rfl ?_) | refine W.region rfl (WO.go rfl ?_) | refine W.draw (id := 7) 29 [] rfl (by decide +kernel) rfl (WD.go rfl ?_) | refine W.draw (id := 12) 8 [] rfl (by decide +kernel) rfl (WD.go rfl ?_) | refine W.draw (id := 13) 10 [] rfl (by decide +kernel) rfl (WD.go rfl ?_) | refine W.draw (id := 14) 10 [] rfl (by decide +kernel) rfl (WD.go rfl ?_) | refine W.draw (id := 15) 29 [] rfl (by decide +kernel) rfl (WD.go rfl ?_) | refine W.draw (id := 18) 12 [] rfl (by decide +kernel) rfl (WD.go rfl ?_) | refine W.draw (id := 19) 15 [] rfl (by decide +kernel) rfl (WD.go rfl ?_) | refine W.draw (id := 22) 18 [] rfl (by decide +kernel) rfl (WD.go rfl ?_) | refine WO.givesT hk1 rfl rfl rfl rfl rfl rfl rfl rfl rfl (WO.go rfl ?_) | refine WD.givesT hk1 rfl rfl rfl rfl rfl rfl rfl rfl rfl (WD.go rfl ?_) | refine WO.givesT hk2 rfl rfl rfl rfl rfl rfl rfl rfl rfl (WO.go rfl ?_) | refine WD.givesT hk2 rfl rfl rfl rfl rfl rfl rfl rfl rfl (WD.go rfl ?_) | refine WO.gives l1 rfl rfl rfl rfl rfl rfl rfl rfl rfl (WO.go rfl ?_) | refine WD.gives l1 rfl rfl rfl rfl rfl rfl rfl rfl rfl (WD.go rfl ?_) | refine WO.gives l2 rfl rfl rfl rfl rfl rfl rfl rfl rfl (WO.go rfl ?_) | refine WD.gives l2 rfl rfl rfl rfl rfl rfl rfl rfl rfl (WD.go rfl ?_) | refine WO.gives l3 rfl rfl rfl rfl rfl rfl rfl rfl rfl (WO.go rfl ?_) | refine WD.gives l3 rfl rfl rfl rfl rfl rfl rfl rfl rfl (WD.go rfl ?_) | refine WO.gives l4 rfl rfl rfl rfl rfl rfl rfl rfl rfl (WO.go rfl ?_) | refine WD.gives l4 rfl rfl rfl rfl rfl rfl rfl rfl rfl (WD.go rfl ?_) | refine WO.givesT htwo rfl rfl rfl rfl rfl rfl rfl rfl rfl (WO.go rfl ?_) | refine WD.givesT htwo rfl rfl rfl rfl rfl rfl rfl rfl rfl (WD.go rfl ?_) | refine WO.append0 rfl rfl rfl rfl rfl rfl rfl rfl rfl (WO.go rfl ?_) | refine WO.appendF (by simp) (by exact lens_ok rfl) (by exact lens_ok rfl) (by first | decide | simp) (by first | decide | simp) rfl rfl rfl rfl rfl rfl rfl rfl rfl rfl (WO.go rfl ?_) | refine WO.appendI (by simp) (by exact lens_ok rfl) (by first | decide | simp) (by first | decide | simp) rfl rfl rfl rfl rfl rfl rfl rfl rfl rfl (WO.go rfl ?_) | refine W.loop ?_ | refine W.exit ?_)
            exact W.ret (.ret [_, _] rfl rfl)
          | some y =>
            refine givesW (fn := Tryz.f160) Tryz.func160 rfl rfl rfl ?_
            repeat (first | (refine WO.gives nw rfl rfl rfl rfl rfl rfl rfl rfl rfl (WO.steps 2 rfl (WO.fix 32 (congrArg AV.bool key) (WO.go rfl ?_)))) | refine W.condT rfl ?_ | refine W.condF rfl ?_ | refine W.seq ?_ | refine W.block ?_ | refine W.skip ?_ | refine WO.nil ?_ | refine WD.nil (WO.go rfl ?_) | refine W.region rfl (WO.go rfl ?_) | refine W.draw (id := 7) 29 [] rfl (by decide +kernel) rfl (WD.go rfl ?_) | refine W.draw (id := 12) 8 [] rfl (by decide +kernel) rfl (WD.go rfl ?_) | refine W.draw (id := 13) 10 [] rfl (by decide +kernel) rfl (WD.go rfl ?_) | refine W.draw (id := 14) 10 [] rfl (by decide +kernel) rfl (WD.go rfl ?_) | refine W.draw (id := 15) 29 [] rfl (by decide +kernel) rfl (WD.go rfl ?_) | refine W.draw (id := 18) 12 [] rfl (by decide +kernel) rfl (WD.go rfl ?_) | refine W.draw (id := 19) 15 [] rfl (by decide +kernel) rfl (WD.go rfl ?_) | refine W.draw (id := 22) 18 [] rfl (by decide +kernel) rfl (WD.go rfl ?_) | refine WO.gives nc rfl rfl rfl rfl rfl rfl rfl rfl rfl (WO.go rfl ?_) | refine WD.gives nc rfl rfl rfl rfl rfl rfl rfl rfl rfl (WD.go rfl ?_) | refine WO.append0 rfl rfl rfl rfl rfl rfl rfl rfl rfl (WO.go rfl ?_) | refine WO.appendF (by simp) (by exact lens_ok rfl) (by exact lens_ok rfl) (by first | decide | simp) (by first | decide | simp) rfl rfl rfl rfl rfl rfl rfl rfl rfl rfl (WO.go rfl ?_) | refine WO.appendI (by simp) (by exact lens_ok rfl) (by first | decide | simp) (by first | decide | simp) rfl rfl rfl rfl rfl rfl rfl rfl rfl rfl (WO.go rfl ?_) | refine W.loop ?_ | refine W.exit ?_)
            refine W.cond rfl (fun h => absurd (h.symm.trans key2) (by decide)) (fun _ => ?_)
            repeat (first | refine W.condT rfl ?_ | refine W.condF rfl ?_ | refine W.seq ?_ | refine W.block ?_ | refine W.skip ?_ | refine WO.nil ?_ | refine WD.nil (WO.go rfl ?_) | refine W.region rfl (WO.go rfl ?_) | refine W.draw (id := 7) 29 [] rfl (by decide +kernel) rfl (WD.go rfl ?_) | refine W.draw (id := 12) 8 [] rfl (by decide +kernel) rfl (WD.go rfl ?_) | refine W.draw (id := 13) 10 [] rfl (by decide +kernel) rfl (WD.go rfl ?_) | refine W.draw (id := 14) 10 [] rfl (by decide +kernel) rfl (WD.go rfl ?_) | refine W.draw (id := 15) 29 [] rfl (by decide +kernel) rfl (WD.go rfl ?_) | refine W.draw (id := 18) 12 [] rfl (by decide +kernel) rfl (WD.go rfl ?_) | refine W.draw (id := 19) 15 [] rfl (by decide +kernel) rfl (WD.go rfl ?_) | refine W.draw (id := 22) 18 [] rfl (by decide +kernel) rfl (WD.go rfl ?_) | refine WO.givesT hk1 rfl rfl rfl rfl rfl rfl rfl rfl rfl (WO.go rfl ?_) | refine WD.givesT hk1 rfl rfl rfl rfl rfl rfl rfl rfl rfl (WD.go rfl ?_) | refine WO.givesT hk2 rfl rfl rfl rfl rfl rfl rfl rfl rfl (WO.go rfl ?_) | refine WD.givesT hk2 rfl rfl rfl rfl rfl rfl rfl rfl rfl (WD.go rfl ?_) | refine WO.gives l1 rfl rfl rfl rfl rfl rfl rfl rfl rfl (WO.go rfl ?_) | refine WD.gives l1 rfl rfl rfl rfl rfl rfl rfl rfl rfl (WD.go rfl ?_) | refine WO.gives l2 rfl rfl rfl rfl rfl rfl rfl rfl rfl (WO.go rfl ?_) | refine WD.gives l2 rfl rfl rfl rfl rfl rfl rfl rfl rfl (WD.go rfl ?_) | refine WO.gives l3 rfl rfl rfl rfl rfl rfl rfl rfl rfl (WO.go rfl ?_) | refine WD.gives l3 rfl rfl rfl rfl rfl rfl rfl rfl rfl (WD.go rfl ?_) | refine WO.gives l4 rfl rfl rfl rfl rfl rfl rfl rfl rfl (WO.go rfl ?_) | refine WD.gives l4 rfl rfl rfl rfl rfl rfl rfl rfl rfl (WD.go rfl ?_) | refine WO.givesT htwo rfl rfl rfl rfl rfl rfl rfl rfl rfl (WO.go rfl ?_) | refine WD.givesT htwo rfl rfl rfl rfl rfl rfl rfl rfl rfl (WD.go rfl ?_) | refine WO.append0 rfl rfl rfl rfl rfl rfl rfl rfl rfl (WO.go rfl ?_) | refine WO.appendF (by simp) (by exact lens_ok rfl) (by exact lens_ok rfl) (by first | decide | simp) (by first | decide | simp) rfl rfl rfl rfl rfl rfl rfl rfl rfl rfl (WO.go rfl ?_) | refine WO.appendI (by simp) (by exact lens_ok rfl) (by first | decide | simp) (by first | decide | simp) rfl rfl rfl rfl rfl rfl rfl rfl rfl rfl (WO.go rfl ?_) | refine W.loop ?_ | refine W.exit ?_)
            exact W.ret (.ret [_, _] rfl rfl)
        · simp only [Fo.size] at hs
          simp only [Fo.bone] at hn
          obtain ⟨hef, heg⟩ := bothE_bi he
          have ef := bothE_get hp.1 hef
          have eg := bothE_get hp.2 heg
          cases ho with
          | bi hof hog =>
          simp only [Fo.both] at hw hc
          simp only [MR]
          rw [if_pos ⟨h1, h2⟩]
          obtain ⟨v, p, hfb⟩ : ∃ v p, f.both = (v, p) := ⟨_, _, rfl⟩
          obtain ⟨u, r, hgb⟩ : ∃ u r, g.both = (u, r) := ⟨_, _, rfl⟩
          rw [hfb] at ef
          rw [hgb] at eg
          simp only [hfb, hgb] at hw hc ⊢
          have hk1 := kinds_W (X := X) f v p hp.1 (by omega) ht.1 ef
          have hk2 := kinds_W (X := X) g u r hp.2 (by omega) ht.2 eg
          have tx := T.left_ty (a := v) (b := r) hc
          have ty := T.right_ty (a := v) (b := r) hc
          have th := T.right_ty (a := Y.fns v u) (b := Y.fns v (Y.fns r p)) hw
          have tg := T.left_ty (a := Y.fns v u) (b := Y.fns v (Y.fns r p)) hw
          have l1 := leftC_W (X := X) v r c
          have l2 := rightC_W (X := X) v r c
          have l3 := leftC_W (X := X) (Y.fns v u) (Y.fns v (Y.fns r p)) w
          have l4 := rightC_W (X := X) (Y.fns v u) (Y.fns v (Y.fns r p)) w
          have z1 := left_size v r c
          have z2 := right_size v r c
          have z3 := left_size (Y.fns v u) (Y.fns v (Y.fns r p)) w
          have z4 := right_size (Y.fns v u) (Y.fns v (Y.fns r p)) w
          have y1 := left_tyLe (a := v) (b := r) hct
          have y2 := right_tyLe (a := v) (b := r) hct
          have y3 := left_tyLe (a := Y.fns v u) (b := Y.fns v (Y.fns r p)) hwt
          have y4 := right_tyLe (a := Y.fns v u) (b := Y.fns v (Y.fns r p)) hwt
          have f1 := funC_W (X := X) r p
          have f2 := funC_W (X := X) v u
          have f3 := funC_W (X := X) v (Y.fns r p)
          generalize T.left v r c = x at *
          generalize T.right v r c = y at *
          generalize T.left (Y.fns v u) (Y.fns v (Y.fns r p)) w = gg at *
          generalize T.right (Y.fns v u) (Y.fns v (Y.fns r p)) w = hh at *
          have t1 := T.call_ty th tx
          have t2 := T.call_ty t1 ty
          have t3 := T.call_ty tg tx
          have c1 := callC_W (X := X) v (Y.fns r p) hh x
          have c2 := callC_W (X := X) r p (T.call v (Y.fns r p) hh x) y
          have c3 := callC_W (X := X) v u gg x
          have z5 := call_size v (Y.fns r p) hh x
          have z6 := call_size r p (T.call v (Y.fns r p) hh x) y
          have z7 := call_size v u gg x
          have y5 := call_tyLe (a := v) (b := Y.fns r p) y4 y1
          have y6 := call_tyLe (a := r) (b := p) y5 y2
          have y7 := call_tyLe (a := v) (b := u) y3 y1
          generalize T.call v (Y.fns r p) hh x = k1 at *
          generalize T.call r p k1 y = k2 at *
          generalize T.call v u gg x = k3 at *
          generalize Y.fns v (Y.fns r p) = s1 at *
          generalize Y.fns r p = s2 at *
          generalize Y.fns v u = s3 at *
          have i1 := ih f x k2 m G (by omega) hp.1 hef hof (by rw [hfb]; exact tx) (by rw [hfb]; exact t2) (by omega) ht.1 y1 y6 (by omega) (by omega) hG
          have i2 := ih g k3 y m G (by omega) hp.2 heg hog (by rw [hgb]; exact t3) (by rw [hgb]; exact ty) (by omega) ht.2 y7 y2 (by omega) (by omega) hG
          have htwo := twoM_W (X := X) .im f g _ _ _ _ _ _ i1 i2 (fun x hx => (MR_M hx).2 (by omega)) (fun x hx => (MR_M hx).2 (by omega))
          revert htwo
          generalize twoR _ _ _ = RR
          intro htwo
          clear i1 i2
          cases RR with
          | none =>
            refine givesW (fn := Tryz.f160) Tryz.func160 rfl rfl rfl ?_
            repeat (first | (refine WO.gives nw rfl rfl rfl rfl rfl rfl rfl rfl rfl (WO.steps 2 rfl (WO.fix 32 (congrArg AV.bool key) (WO.go rfl ?_)))) | refine W.condT rfl ?_ | refine W.condF rfl ?_ | refine W.seq ?_ | refine W.block ?_ | refine W.skip ?_ | refine WO.nil ?_ | refine WD.nil (WO.go rfl ?_) | refine W.region rfl (WO.go rfl ?_) | refine W.draw (id := 7) 29 [] rfl (by decide +kernel) rfl (WD.go rfl ?_) | refine W.draw (id := 12) 8 [] rfl (by decide +kernel) rfl (WD.go rfl ?_) | refine W.draw (id := 13) 10 [] rfl (by decide +kernel) rfl (WD.go rfl ?_) | refine W.draw (id := 14) 10 [] rfl (by decide +kernel) rfl (WD.go rfl ?_) | refine W.draw (id := 15) 29 [] rfl (by decide +kernel) rfl (WD.go rfl ?_) | refine W.draw (id := 18) 12 [] rfl (by decide +kernel) rfl (WD.go rfl ?_) | refine W.draw (id := 19) 15 [] rfl (by decide +kernel) rfl (WD.go rfl ?_) | refine W.draw (id := 22) 18 [] rfl (by decide +kernel) rfl (WD.go rfl ?_) | refine WO.gives nc rfl rfl rfl rfl rfl rfl rfl rfl rfl (WO.go rfl ?_) | refine WD.gives nc rfl rfl rfl rfl rfl rfl rfl rfl rfl (WD.go rfl ?_) | refine WO.append0 rfl rfl rfl rfl rfl rfl rfl rfl rfl (WO.go rfl ?_) | refine WO.appendF (by simp) (by exact lens_ok rfl) (by exact lens_ok rfl) (by first | decide | simp) (by first | decide | simp) rfl rfl rfl rfl rfl rfl rfl rfl rfl rfl (WO.go rfl ?_) | refine WO.appendI (by simp) (by exact lens_ok rfl) (by first | decide | simp) (by first | decide | simp) rfl rfl rfl rfl rfl rfl rfl rfl rfl rfl (WO.go rfl ?_) | refine W.loop ?_ | refine W.exit ?_)
            refine W.cond rfl (fun h => absurd (h.symm.trans key2) (by decide)) (fun _ => ?_)
            repeat (first | refine W.condT rfl ?_ | refine W.condF rfl ?_ | refine W.seq ?_ | refine W.block ?_ | refine W.skip ?_ | refine WO.nil ?_ | refine WD.nil (WO.go rfl ?_) | refine W.region rfl (WO.go rfl ?_) | refine W.draw (id := 7) 29 [] rfl (by decide +kernel) rfl (WD.go rfl ?_) | refine W.draw (id := 12) 8 [] rfl (by decide +kernel) rfl (WD.go rfl ?_) | refine W.draw (id := 13) 10 [] rfl (by decide +kernel) rfl (WD.go rfl ?_) | refine W.draw (id := 14) 10 [] rfl (by decide +kernel) rfl (WD.go rfl ?_) | refine W.draw (id := 15) 29 [] rfl (by decide +kernel) rfl (WD.go rfl ?_) | refine W.draw (id := 18) 12 [] rfl (by decide +kernel) rfl (WD.go rfl ?_) | refine W.draw (id := 19) 15 [] rfl (by decide +kernel) rfl (WD.go rfl ?_) | refine W.draw (id := 22) 18 [] rfl (by decide +kernel) rfl (WD.go rfl ?_) | refine WO.givesT hk1 rfl rfl rfl rfl rfl rfl rfl rfl rfl (WO.go rfl ?_) | refine WD.givesT hk1 rfl rfl rfl rfl rfl rfl rfl rfl rfl (WD.go rfl ?_) | refine WO.givesT hk2 rfl rfl rfl rfl rfl rfl rfl rfl rfl (WO.go rfl ?_) | refine WD.givesT hk2 rfl rfl rfl rfl rfl rfl rfl rfl rfl (WD.go rfl ?_) | refine WO.gives f1 rfl rfl rfl rfl rfl rfl rfl rfl rfl (WO.go rfl ?_) | refine WD.gives f1 rfl rfl rfl rfl rfl rfl rfl rfl rfl (WD.go rfl ?_) | refine WO.gives f2 rfl rfl rfl rfl rfl rfl rfl rfl rfl (WO.go rfl ?_) | refine WD.gives f2 rfl rfl rfl rfl rfl rfl rfl rfl rfl (WD.go rfl ?_) | refine WO.gives f3 rfl rfl rfl rfl rfl rfl rfl rfl rfl (WO.go rfl ?_) | refine WD.gives f3 rfl rfl rfl rfl rfl rfl rfl rfl rfl (WD.go rfl ?_) | refine WO.gives l1 rfl rfl rfl rfl rfl rfl rfl rfl rfl (WO.go rfl ?_) | refine WD.gives l1 rfl rfl rfl rfl rfl rfl rfl rfl rfl (WD.go rfl ?_) | refine WO.gives l2 rfl rfl rfl rfl rfl rfl rfl rfl rfl (WO.go rfl ?_) | refine WD.gives l2 rfl rfl rfl rfl rfl rfl rfl rfl rfl (WD.go rfl ?_) | refine WO.gives l3 rfl rfl rfl rfl rfl rfl rfl rfl rfl (WO.go rfl ?_) | refine WD.gives l3 rfl rfl rfl rfl rfl rfl rfl rfl rfl (WD.go rfl ?_) | refine WO.gives l4 rfl rfl rfl rfl rfl rfl rfl rfl rfl (WO.go rfl ?_) | refine WD.gives l4 rfl rfl rfl rfl rfl rfl rfl rfl rfl (WD.go rfl ?_) | refine WO.gives c1 rfl rfl rfl rfl rfl rfl rfl rfl rfl (WO.go rfl ?_) | refine WD.gives c1 rfl rfl rfl rfl rfl rfl rfl rfl rfl (WD.go rfl ?_) | refine WO.gives c2 rfl rfl rfl rfl rfl rfl rfl rfl rfl (WO.go rfl ?_) | refine WD.gives c2 rfl rfl rfl rfl rfl rfl rfl rfl rfl (WD.go rfl ?_) | refine WO.gives c3 rfl rfl rfl rfl rfl rfl rfl rfl rfl (WO.go rfl ?_) | refine WD.gives c3 rfl rfl rfl rfl rfl rfl rfl rfl rfl (WD.go rfl ?_) | refine WO.givesT htwo rfl rfl rfl rfl rfl rfl rfl rfl rfl (WO.go rfl ?_) | refine WD.givesT htwo rfl rfl rfl rfl rfl rfl rfl rfl rfl (WD.go rfl ?_) | refine WO.append0 rfl rfl rfl rfl rfl rfl rfl rfl rfl (WO.go rfl ?_) | refine WO.appendF (by simp) (by exact lens_ok rfl) (by exact lens_ok rfl) (by first | decide | simp) (by first | decide | simp) rfl rfl rfl rfl rfl rfl rfl rfl rfl rfl (WO.go rfl ?_) | refine WO.appendI (by simp) (by exact lens_ok rfl) (by first | decide | simp) (by first | decide | simp) rfl rfl rfl rfl rfl rfl rfl rfl rfl rfl (WO.go rfl ?_) | refine W.loop ?_ | refine W.exit ?_)
            exact W.ret (.ret [_, _] rfl rfl)
          | some y =>
            refine givesW (fn := Tryz.f160) Tryz.func160 rfl rfl rfl ?_
            repeat (first | (refine WO.gives nw rfl rfl rfl rfl rfl rfl rfl rfl rfl (WO.steps 2 rfl (WO.fix 32 (congrArg AV.bool key) (WO.go rfl ?_)))) | refine W.condT rfl ?_ | refine W.condF rfl ?_ | refine W.seq ?_ | refine W.block ?_ | refine W.skip ?_ | refine WO.nil ?_ | refine WD.nil (WO.go rfl ?_) | refine W.region rfl (WO.go rfl ?_) | refine W.draw (id := 7) 29 [] rfl (by decide +kernel) rfl (WD.go rfl ?_) | refine W.draw (id := 12) 8 [] rfl (by decide +kernel) rfl (WD.go rfl ?_) | refine W.draw (id := 13) 10 [] rfl (by decide +kernel) rfl (WD.go rfl ?_) | refine W.draw (id := 14) 10 [] rfl (by decide +kernel) rfl (WD.go rfl ?_) | refine W.draw (id := 15) 29 [] rfl (by decide +kernel) rfl (WD.go rfl ?_) | refine W.draw (id := 18) 12 [] rfl (by decide +kernel) rfl (WD.go rfl ?_) | refine W.draw (id := 19) 15 [] rfl (by decide +kernel) rfl (WD.go rfl ?_) | refine W.draw (id := 22) 18 [] rfl (by decide +kernel) rfl (WD.go rfl ?_) | refine WO.gives nc rfl rfl rfl rfl rfl rfl rfl rfl rfl (WO.go rfl ?_) | refine WD.gives nc rfl rfl rfl rfl rfl rfl rfl rfl rfl (WD.go rfl ?_) | refine WO.append0 rfl rfl rfl rfl rfl rfl rfl rfl rfl (WO.go rfl ?_) | refine WO.appendF (by simp) (by exact lens_ok rfl) (by exact lens_ok rfl) (by first | decide | simp) (by first | decide | simp) rfl rfl rfl rfl rfl rfl rfl rfl rfl rfl (WO.go rfl ?_) | refine WO.appendI (by simp) (by exact lens_ok rfl) (by first | decide | simp) (by first | decide | simp) rfl rfl rfl rfl rfl rfl rfl rfl rfl rfl (WO.go rfl ?_) | refine W.loop ?_ | refine W.exit ?_)
            refine W.cond rfl (fun h => absurd (h.symm.trans key2) (by decide)) (fun _ => ?_)
            repeat (first | refine W.condT rfl ?_ | refine W.condF rfl ?_ | refine W.seq ?_ | refine W.block ?_ | refine W.skip ?_ | refine WO.nil ?_ | refine WD.nil (WO.go rfl ?_) | refine W.region rfl (WO.go rfl ?_) | refine W.draw (id := 7) 29 [] rfl (by decide +kernel) rfl (WD.go rfl ?_) | refine W.draw (id := 12) 8 [] rfl (by decide +kernel) rfl (WD.go rfl ?_) | refine W.draw (id := 13) 10 [] rfl (by decide +kernel) rfl (WD.go rfl ?_) | refine W.draw (id := 14) 10 [] rfl (by decide +kernel) rfl (WD.go rfl ?_) | refine W.draw (id := 15) 29 [] rfl (by decide +kernel) rfl (WD.go rfl ?_) | refine W.draw (id := 18) 12 [] rfl (by decide +kernel) rfl (WD.go rfl ?_) | refine W.draw (id := 19) 15 [] rfl (by decide +kernel) rfl (WD.go rfl ?_) | refine W.draw (id := 22) 18 [] rfl (by decide +kernel) rfl (WD.go rfl ?_) | refine WO.givesT hk1 rfl rfl rfl rfl rfl rfl rfl rfl rfl (WO.go rfl ?_) | refine WD.givesT hk1 rfl rfl rfl rfl rfl rfl rfl rfl rfl (WD.go rfl ?_) | refine WO.givesT hk2 rfl rfl rfl rfl rfl rfl rfl rfl rfl (WO.go rfl ?_) | refine WD.givesT hk2 rfl rfl rfl rfl rfl rfl rfl rfl rfl (WD.go rfl ?_) | refine WO.gives f1 rfl rfl rfl rfl rfl rfl rfl rfl rfl (WO.go rfl ?_) | refine WD.gives f1 rfl rfl rfl rfl rfl rfl rfl rfl rfl (WD.go rfl ?_) | refine WO.gives f2 rfl rfl rfl rfl rfl rfl rfl rfl rfl (WO.go rfl ?_) | refine WD.gives f2 rfl rfl rfl rfl rfl rfl rfl rfl rfl (WD.go rfl ?_) | refine WO.gives f3 rfl rfl rfl rfl rfl rfl rfl rfl rfl (WO.go rfl ?_) | refine WD.gives f3 rfl rfl rfl rfl rfl rfl rfl rfl rfl (WD.go rfl ?_) | refine WO.gives l1 rfl rfl rfl rfl rfl rfl rfl rfl rfl (WO.go rfl ?_) | refine WD.gives l1 rfl rfl rfl rfl rfl rfl rfl rfl rfl (WD.go rfl ?_) | refine WO.gives l2 rfl rfl rfl rfl rfl rfl rfl rfl rfl (WO.go rfl ?_) | refine WD.gives l2 rfl rfl rfl rfl rfl rfl rfl rfl rfl (WD.go rfl ?_) | refine WO.gives l3 rfl rfl rfl rfl rfl rfl rfl rfl rfl (WO.go rfl ?_) | refine WD.gives l3 rfl rfl rfl rfl rfl rfl rfl rfl rfl (WD.go rfl ?_) | refine WO.gives l4 rfl rfl rfl rfl rfl rfl rfl rfl rfl (WO.go rfl ?_) | refine WD.gives l4 rfl rfl rfl rfl rfl rfl rfl rfl rfl (WD.go rfl ?_) | refine WO.gives c1 rfl rfl rfl rfl rfl rfl rfl rfl rfl (WO.go rfl ?_) | refine WD.gives c1 rfl rfl rfl rfl rfl rfl rfl rfl rfl (WD.go rfl ?_) | refine WO.gives c2 rfl rfl rfl rfl rfl rfl rfl rfl rfl (WO.go rfl ?_) | refine WD.gives c2 rfl rfl rfl rfl rfl rfl rfl rfl rfl (WD.go rfl ?_) | refine WO.gives c3 rfl rfl rfl rfl rfl rfl rfl rfl rfl (WO.go rfl ?_) | refine WD.gives c3 rfl rfl rfl rfl rfl rfl rfl rfl rfl (WD.go rfl ?_) | refine WO.givesT htwo rfl rfl rfl rfl rfl rfl rfl rfl rfl (WO.go rfl ?_) | refine WD.givesT htwo rfl rfl rfl rfl rfl rfl rfl rfl rfl (WD.go rfl ?_) | refine WO.append0 rfl rfl rfl rfl rfl rfl rfl rfl rfl (WO.go rfl ?_) | refine WO.appendF (by simp) (by exact lens_ok rfl) (by exact lens_ok rfl) (by first | decide | simp) (by first | decide | simp) rfl rfl rfl rfl rfl rfl rfl rfl rfl rfl (WO.go rfl ?_) | refine WO.appendI (by simp) (by exact lens_ok rfl) (by first | decide | simp) (by first | decide | simp) rfl rfl rfl rfl rfl rfl rfl rfl rfl rfl (WO.go rfl ?_) | refine W.loop ?_ | refine W.exit ?_)
            exact W.ret (.ret [_, _] rfl rfl)
        · simp only [Fo.size] at hs
          simp only [Fo.bone] at hn
          have hef := bothE_q he
          have ef := bothE_get hp.2 hef
          cases ho with
          | q hof =>
          simp only [Fo.both] at hw hc
          simp only [MR]
          rw [if_pos ⟨h1, h2⟩]
          obtain ⟨v, p, hfb⟩ : ∃ v p, f.both = (v, p) := ⟨_, _, rfl⟩
          rw [hfb] at ef
          simp only [hfb] at hw hc ⊢
          have hk1 := kinds_W (X := X) f v p hp.2 (by omega) ht.2 ef
          have hfl : f.le 1000000000 := Fo.le_of_ok hof (by simp only [List.length_cons]; omega)
          have tx := T.left_ty (a := s) (b := p) hc
          have ty := T.right_ty (a := s) (b := p) hc
          have z1 := left_size s p c
          have z2 := right_size s p c
          have y1 := left_tyLe (a := s) (b := p) hct
          have y2 := right_tyLe (a := s) (b := p) hct
          have l1 := leftC_W (X := X) s p c
          have l2 := rightC_W (X := X) s p c
          generalize T.left s p c = x at *
          generalize T.right s p c = y at *
          have t1 := T.call_ty hw tx
          have c1 := callC_W (X := X) s v w x
          have z3 := call_size s v w x
          have y3 := call_tyLe (a := s) (b := v) hwt y1
          generalize T.call s v w x = k1 at *
          have hxl : x.le 1000000000 := T.le_mono (T.le_of_sc tx.sc) (by omega)
          have hwi := withM_W (X := X) f x k1 y (MR n (Fo.put 0 x f) k1 y) (by omega) hfl (by omega) hxl (fun _ hps => ih (Fo.put 0 x f) k1 y m G (by rw [Fo.bone_put]; omega) (Fo.pure_put _ _ _ hp.2) (by rw [Fo.bothE_put]; exact hef) (Fo.Ok.put0 hof tx) (by rw [Fo.both_put, hfb]; exact t1) (by rw [Fo.both_put, hfb]; exact ty) hps (Fo.tyLe_put y1 ht.2 0) y3 y2 (by omega) (by omega) hG)
          revert hwi
          generalize putR _ _ _ = RR
          intro hwi
          cases RR with
          | none =>
            refine givesW (fn := Tryz.f160) Tryz.func160 rfl rfl rfl ?_
            repeat (first | (refine WO.gives nw rfl rfl rfl rfl rfl rfl rfl rfl rfl (WO.steps 2 rfl (WO.fix 32 (congrArg AV.bool key) (WO.go rfl ?_)))) | refine W.condT rfl ?_ | refine W.condF rfl ?_ | refine W.seq ?_ | refine W.block ?_ | refine W.skip ?_ | refine WO.nil ?_ | refine WD.nil (WO.go rfl ?_) | refine W.region rfl (WO.go rfl ?_) | refine W.draw (id := 7) 29 [] rfl (by decide +kernel) rfl (WD.go rfl ?_) | refine W.draw (id := 12) 8 [] rfl (by decide +kernel) rfl (WD.go rfl ?_) | refine W.draw (id := 13) 10 [] rfl (by decide +kernel) rfl (WD.go rfl ?_) | refine W.draw (id := 14) 10 [] rfl (by decide +kernel) rfl (WD.go rfl ?_) | refine W.draw (id := 15) 29 [] rfl (by decide +kernel) rfl (WD.go rfl ?_) | refine W.draw (id := 18) 12 [] rfl (by decide +kernel) rfl (WD.go rfl ?_) | refine W.draw (id := 19) 15 [] rfl (by decide +kernel) rfl (WD.go rfl ?_) | refine W.draw (id := 22) 18 [] rfl (by decide +kernel) rfl (WD.go rfl ?_) | refine WO.gives nc rfl rfl rfl rfl rfl rfl rfl rfl rfl (WO.go rfl ?_) | refine WD.gives nc rfl rfl rfl rfl rfl rfl rfl rfl rfl (WD.go rfl ?_) | refine WO.append0 rfl rfl rfl rfl rfl rfl rfl rfl rfl (WO.go rfl ?_) | refine WO.appendF (by simp) (by exact lens_ok rfl) (by exact lens_ok rfl) (by first | decide | simp) (by first | decide | simp) rfl rfl rfl rfl rfl rfl rfl rfl rfl rfl (WO.go rfl ?_) | refine WO.appendI (by simp) (by exact lens_ok rfl) (by first | decide | simp) (by first | decide | simp) rfl rfl rfl rfl rfl rfl rfl rfl rfl rfl (WO.go rfl ?_) | refine W.loop ?_ | refine W.exit ?_)
            refine W.cond rfl (fun h => absurd (h.symm.trans key2) (by decide)) (fun _ => ?_)
            repeat (first | refine W.condT rfl ?_ | refine W.condF rfl ?_ | refine W.seq ?_ | refine W.block ?_ | refine W.skip ?_ | refine WO.nil ?_ | refine WD.nil (WO.go rfl ?_) | refine W.region rfl (WO.go rfl ?_) | refine W.draw (id := 7) 29 [] rfl (by decide +kernel) rfl (WD.go rfl ?_) | refine W.draw (id := 12) 8 [] rfl (by decide +kernel) rfl (WD.go rfl ?_) | refine W.draw (id := 13) 10 [] rfl (by decide +kernel) rfl (WD.go rfl ?_) | refine W.draw (id := 14) 10 [] rfl (by decide +kernel) rfl (WD.go rfl ?_) | refine W.draw (id := 15) 29 [] rfl (by decide +kernel) rfl (WD.go rfl ?_) | refine W.draw (id := 18) 12 [] rfl (by decide +kernel) rfl (WD.go rfl ?_) | refine W.draw (id := 19) 15 [] rfl (by decide +kernel) rfl (WD.go rfl ?_) | refine W.draw (id := 22) 18 [] rfl (by decide +kernel) rfl (WD.go rfl ?_) | refine WO.givesT hk1 rfl rfl rfl rfl rfl rfl rfl rfl rfl (WO.go rfl ?_) | refine WD.givesT hk1 rfl rfl rfl rfl rfl rfl rfl rfl rfl (WD.go rfl ?_) | refine WO.gives l1 rfl rfl rfl rfl rfl rfl rfl rfl rfl (WO.go rfl ?_) | refine WD.gives l1 rfl rfl rfl rfl rfl rfl rfl rfl rfl (WD.go rfl ?_) | refine WO.gives l2 rfl rfl rfl rfl rfl rfl rfl rfl rfl (WO.go rfl ?_) | refine WD.gives l2 rfl rfl rfl rfl rfl rfl rfl rfl rfl (WD.go rfl ?_) | refine WO.gives c1 rfl rfl rfl rfl rfl rfl rfl rfl rfl (WO.go rfl ?_) | refine WD.gives c1 rfl rfl rfl rfl rfl rfl rfl rfl rfl (WD.go rfl ?_) | refine WO.givesT hwi rfl rfl rfl rfl rfl rfl rfl rfl rfl (WO.go rfl ?_) | refine WD.givesT hwi rfl rfl rfl rfl rfl rfl rfl rfl rfl (WD.go rfl ?_) | refine WO.append0 rfl rfl rfl rfl rfl rfl rfl rfl rfl (WO.go rfl ?_) | refine WO.appendF (by simp) (by exact lens_ok rfl) (by exact lens_ok rfl) (by first | decide | simp) (by first | decide | simp) rfl rfl rfl rfl rfl rfl rfl rfl rfl rfl (WO.go rfl ?_) | refine WO.appendI (by simp) (by exact lens_ok rfl) (by first | decide | simp) (by first | decide | simp) rfl rfl rfl rfl rfl rfl rfl rfl rfl rfl (WO.go rfl ?_) | refine W.loop ?_ | refine W.exit ?_)
            exact W.ret (.ret [_, _] rfl rfl)
          | some y =>
            refine givesW (fn := Tryz.f160) Tryz.func160 rfl rfl rfl ?_
            repeat (first | (refine WO.gives nw rfl rfl rfl rfl rfl rfl rfl rfl rfl (WO.steps 2 rfl (WO.fix 32 (congrArg AV.bool key) (WO.go rfl ?_)))) | refine W.condT rfl ?_ | refine W.condF rfl ?_ | refine W.seq ?_ | refine W.block ?_ | refine W.skip ?_ | refine WO.nil ?_ | refine WD.nil (WO.go rfl ?_) | refine W.region rfl (WO.go rfl ?_) | refine W.draw (id := 7) 29 [] rfl (by decide +kernel) rfl (WD.go rfl ?_) | refine W.draw (id := 12) 8 [] rfl (by decide +kernel) rfl (WD.go rfl ?_) | refine W.draw (id := 13) 10 [] rfl (by decide +kernel) rfl (WD.go rfl ?_) | refine W.draw (id := 14) 10 [] rfl (by decide +kernel) rfl (WD.go rfl ?_) | refine W.draw (id := 15) 29 [] rfl (by decide +kernel) rfl (WD.go rfl ?_) | refine W.draw (id := 18) 12 [] rfl (by decide +kernel) rfl (WD.go rfl ?_) | refine W.draw (id := 19) 15 [] rfl (by decide +kernel) rfl (WD.go rfl ?_) | refine W.draw (id := 22) 18 [] rfl (by decide +kernel) rfl (WD.go rfl ?_) | refine WO.gives nc rfl rfl rfl rfl rfl rfl rfl rfl rfl (WO.go rfl ?_) | refine WD.gives nc rfl rfl rfl rfl rfl rfl rfl rfl rfl (WD.go rfl ?_) | refine WO.append0 rfl rfl rfl rfl rfl rfl rfl rfl rfl (WO.go rfl ?_) | refine WO.appendF (by simp) (by exact lens_ok rfl) (by exact lens_ok rfl) (by first | decide | simp) (by first | decide | simp) rfl rfl rfl rfl rfl rfl rfl rfl rfl rfl (WO.go rfl ?_) | refine WO.appendI (by simp) (by exact lens_ok rfl) (by first | decide | simp) (by first | decide | simp) rfl rfl rfl rfl rfl rfl rfl rfl rfl rfl (WO.go rfl ?_) | refine W.loop ?_ | refine W.exit ?_)
            refine W.cond rfl (fun h => absurd (h.symm.trans key2) (by decide)) (fun _ => ?_)
            repeat (first | refine W.condT rfl ?_ | refine W.condF rfl ?_ | refine W.seq ?_ | refine W.block ?_ | refine W.skip ?_ | refine WO.nil ?_ | refine WD.nil (WO.go rfl ?_) | refine W.region rfl (WO.go rfl ?_) | refine W.draw (id := 7) 29 [] rfl (by decide +kernel) rfl (WD.go rfl ?_) | refine W.draw (id := 12) 8 [] rfl (by decide +kernel) rfl (WD.go rfl ?_) | refine W.draw (id := 13) 10 [] rfl (by decide +kernel) rfl (WD.go rfl ?_) | refine W.draw (id := 14) 10 [] rfl (by decide +kernel) rfl (WD.go rfl ?_) | refine W.draw (id := 15) 29 [] rfl (by decide +kernel) rfl (WD.go rfl ?_) | refine W.draw (id := 18) 12 [] rfl (by decide +kernel) rfl (WD.go rfl ?_) | refine W.draw (id := 19) 15 [] rfl (by decide +kernel) rfl (WD.go rfl ?_) | refine W.draw (id := 22) 18 [] rfl (by decide +kernel) rfl (WD.go rfl ?_) | refine WO.givesT hk1 rfl rfl rfl rfl rfl rfl rfl rfl rfl (WO.go rfl ?_) | refine WD.givesT hk1 rfl rfl rfl rfl rfl rfl rfl rfl rfl (WD.go rfl ?_) | refine WO.gives l1 rfl rfl rfl rfl rfl rfl rfl rfl rfl (WO.go rfl ?_) | refine WD.gives l1 rfl rfl rfl rfl rfl rfl rfl rfl rfl (WD.go rfl ?_) | refine WO.gives l2 rfl rfl rfl rfl rfl rfl rfl rfl rfl (WO.go rfl ?_) | refine WD.gives l2 rfl rfl rfl rfl rfl rfl rfl rfl rfl (WD.go rfl ?_) | refine WO.gives c1 rfl rfl rfl rfl rfl rfl rfl rfl rfl (WO.go rfl ?_) | refine WD.gives c1 rfl rfl rfl rfl rfl rfl rfl rfl rfl (WD.go rfl ?_) | refine WO.givesT hwi rfl rfl rfl rfl rfl rfl rfl rfl rfl (WO.go rfl ?_) | refine WD.givesT hwi rfl rfl rfl rfl rfl rfl rfl rfl rfl (WD.go rfl ?_) | refine WO.append0 rfl rfl rfl rfl rfl rfl rfl rfl rfl (WO.go rfl ?_) | refine WO.appendF (by simp) (by exact lens_ok rfl) (by exact lens_ok rfl) (by first | decide | simp) (by first | decide | simp) rfl rfl rfl rfl rfl rfl rfl rfl rfl rfl (WO.go rfl ?_) | refine WO.appendI (by simp) (by exact lens_ok rfl) (by first | decide | simp) (by first | decide | simp) rfl rfl rfl rfl rfl rfl rfl rfl rfl rfl (WO.go rfl ?_) | refine W.loop ?_ | refine W.exit ?_)
            exact W.ret (.ret [_, _] rfl rfl)
        · simp only [Fo.size] at hs
          simp only [Fo.bone] at hn
          have hef := bothE_q he
          have ef := bothE_get hp.2 hef
          cases ho with
          | q hof =>
          simp only [Fo.both] at hw hc
          simp only [MR]
          rw [if_pos ⟨h1, h2⟩]
          obtain ⟨v, p, hfb⟩ : ∃ v p, f.both = (v, p) := ⟨_, _, rfl⟩
          rw [hfb] at ef
          simp only [hfb] at hw hc ⊢
          have hk1 := kinds_W (X := X) f v p hp.2 (by omega) ht.2 ef
          have hfl : f.le 1000000000 := Fo.le_of_ok hof (by simp only [List.length_cons]; omega)
          have tx := T.left_ty (a := s) (b := v) hw
          have ty := T.right_ty (a := s) (b := v) hw
          have z1 := left_size s v w
          have z2 := right_size s v w
          have y1 := left_tyLe (a := s) (b := v) hwt
          have y2 := right_tyLe (a := s) (b := v) hwt
          have l1 := leftC_W (X := X) s v w
          have l2 := rightC_W (X := X) s v w
          generalize T.left s v w = x at *
          generalize T.right s v w = y at *
          have hxl : x.le 1000000000 := T.le_mono (T.le_of_sc tx.sc) (by omega)
          have hwi := withM_W (X := X) f x y c (MR n (Fo.put 0 x f) y c) (by omega) hfl (by omega) hxl (fun _ hps => ih (Fo.put 0 x f) y c m G (by rw [Fo.bone_put]; omega) (Fo.pure_put _ _ _ hp.2) (by rw [Fo.bothE_put]; exact hef) (Fo.Ok.put0 hof tx) (by rw [Fo.both_put, hfb]; exact ty) (by rw [Fo.both_put, hfb]; exact hc) hps (Fo.tyLe_put y1 ht.2 0) y2 hct (by omega) (by omega) hG)
          revert hwi
          generalize putR _ _ _ = RR
          intro hwi
          cases RR with
          | none =>
            refine givesW (fn := Tryz.f160) Tryz.func160 rfl rfl rfl ?_
            repeat (first | (refine WO.gives nw rfl rfl rfl rfl rfl rfl rfl rfl rfl (WO.steps 2 rfl (WO.fix 32 (congrArg AV.bool key) (WO.go rfl ?_)))) | refine W.condT rfl ?_ | refine W.condF rfl ?_ | refine W.seq ?_ | refine W.block ?_ | refine W.skip ?_ | refine WO.nil ?_ | refine WD.nil (WO.go rfl ?_) | refine W.region rfl (WO.go rfl ?_) | refine W.draw (id := 7) 29 [] rfl (by decide +kernel) rfl (WD.go rfl ?_) | refine W.draw (id := 12) 8 [] rfl (by decide +kernel) rfl (WD.go rfl ?_) | refine W.draw (id := 13) 10 [] rfl (by decide +kernel) rfl (WD.go rfl ?_) | refine W.draw (id := 14) 10 [] rfl (by decide +kernel) rfl (WD.go rfl ?_) | refine W.draw (id := 15) 29 [] rfl (by decide +kernel) rfl (WD.go rfl ?_) | refine W.draw (id := 18) 12 [] rfl (by decide +kernel) rfl (WD.go rfl ?_) | refine W.draw (id := 19) 15 [] rfl (by decide +kernel) rfl (WD.go rfl ?_) | refine W.draw (id := 22) 18 [] rfl (by decide +kernel) rfl (WD.go rfl ?_) | refine WO.gives nc rfl rfl rfl rfl rfl rfl rfl rfl rfl (WO.go rfl ?_) | refine WD.gives nc rfl rfl rfl rfl rfl rfl rfl rfl rfl (WD.go rfl ?_) | refine WO.append0 rfl rfl rfl rfl rfl rfl rfl rfl rfl (WO.go rfl ?_) | refine WO.appendF (by simp) (by exact lens_ok rfl) (by exact lens_ok rfl) (by first | decide | simp) (by first | decide | simp) rfl rfl rfl rfl rfl rfl rfl rfl rfl rfl (WO.go rfl ?_) | refine WO.appendI (by simp) (by exact lens_ok rfl) (by first | decide | simp) (by first | decide | simp) rfl rfl rfl rfl rfl rfl rfl rfl rfl rfl (WO.go rfl ?_) | refine W.loop ?_ | refine W.exit ?_)
            refine W.cond rfl (fun h => absurd (h.symm.trans key2) (by decide)) (fun _ => ?_)
            repeat (first | refine W.condT rfl ?_ | refine W.condF rfl ?_ | refine W.seq ?_ | refine W.block ?_ | refine W.skip ?_ | refine WO.nil ?_ | refine WD.nil (WO.go rfl ?_) | refine W.region rfl (WO.go rfl ?_) | refine W.draw (id := 7) 29 [] rfl (by decide +kernel) rfl (WD.go rfl ?_) | refine W.draw (id := 12) 8 [] rfl (by decide +kernel) rfl (WD.go rfl ?_) | refine W.draw (id := 13) 10 [] rfl (by decide +kernel) rfl (WD.go rfl ?_) | refine W.draw (id := 14) 10 [] rfl (by decide +kernel) rfl (WD.go rfl ?_) | refine W.draw (id := 15) 29 [] rfl (by decide +kernel) rfl (WD.go rfl ?_) | refine W.draw (id := 18) 12 [] rfl (by decide +kernel) rfl (WD.go rfl ?_) | refine W.draw (id := 19) 15 [] rfl (by decide +kernel) rfl (WD.go rfl ?_) | refine W.draw (id := 22) 18 [] rfl (by decide +kernel) rfl (WD.go rfl ?_) | refine WO.givesT hk1 rfl rfl rfl rfl rfl rfl rfl rfl rfl (WO.go rfl ?_) | refine WD.givesT hk1 rfl rfl rfl rfl rfl rfl rfl rfl rfl (WD.go rfl ?_) | refine WO.gives l1 rfl rfl rfl rfl rfl rfl rfl rfl rfl (WO.go rfl ?_) | refine WD.gives l1 rfl rfl rfl rfl rfl rfl rfl rfl rfl (WD.go rfl ?_) | refine WO.gives l2 rfl rfl rfl rfl rfl rfl rfl rfl rfl (WO.go rfl ?_) | refine WD.gives l2 rfl rfl rfl rfl rfl rfl rfl rfl rfl (WD.go rfl ?_) | refine WO.givesT hwi rfl rfl rfl rfl rfl rfl rfl rfl rfl (WO.go rfl ?_) | refine WD.givesT hwi rfl rfl rfl rfl rfl rfl rfl rfl rfl (WD.go rfl ?_) | refine WO.append0 rfl rfl rfl rfl rfl rfl rfl rfl rfl (WO.go rfl ?_) | refine WO.appendF (by simp) (by exact lens_ok rfl) (by exact lens_ok rfl) (by first | decide | simp) (by first | decide | simp) rfl rfl rfl rfl rfl rfl rfl rfl rfl rfl (WO.go rfl ?_) | refine WO.appendI (by simp) (by exact lens_ok rfl) (by first | decide | simp) (by first | decide | simp) rfl rfl rfl rfl rfl rfl rfl rfl rfl rfl (WO.go rfl ?_) | refine W.loop ?_ | refine W.exit ?_)
            exact W.ret (.ret [_, _] rfl rfl)
          | some y =>
            refine givesW (fn := Tryz.f160) Tryz.func160 rfl rfl rfl ?_
            repeat (first | (refine WO.gives nw rfl rfl rfl rfl rfl rfl rfl rfl rfl (WO.steps 2 rfl (WO.fix 32 (congrArg AV.bool key) (WO.go rfl ?_)))) | refine W.condT rfl ?_ | refine W.condF rfl ?_ | refine W.seq ?_ | refine W.block ?_ | refine W.skip ?_ | refine WO.nil ?_ | refine WD.nil (WO.go rfl ?_) | refine W.region rfl (WO.go rfl ?_) | refine W.draw (id := 7) 29 [] rfl (by decide +kernel) rfl (WD.go rfl ?_) | refine W.draw (id := 12) 8 [] rfl (by decide +kernel) rfl (WD.go rfl ?_) | refine W.draw (id := 13) 10 [] rfl (by decide +kernel) rfl (WD.go rfl ?_) | refine W.draw (id := 14) 10 [] rfl (by decide +kernel) rfl (WD.go rfl ?_) | refine W.draw (id := 15) 29 [] rfl (by decide +kernel) rfl (WD.go rfl ?_) | refine W.draw (id := 18) 12 [] rfl (by decide +kernel) rfl (WD.go rfl ?_) | refine W.draw (id := 19) 15 [] rfl (by decide +kernel) rfl (WD.go rfl ?_) | refine W.draw (id := 22) 18 [] rfl (by decide +kernel) rfl (WD.go rfl ?_) | refine WO.gives nc rfl rfl rfl rfl rfl rfl rfl rfl rfl (WO.go rfl ?_) | refine WD.gives nc rfl rfl rfl rfl rfl rfl rfl rfl rfl (WD.go rfl ?_) | refine WO.append0 rfl rfl rfl rfl rfl rfl rfl rfl rfl (WO.go rfl ?_) | refine WO.appendF (by simp) (by exact lens_ok rfl) (by exact lens_ok rfl) (by first | decide | simp) (by first | decide | simp) rfl rfl rfl rfl rfl rfl rfl rfl rfl rfl (WO.go rfl ?_) | refine WO.appendI (by simp) (by exact lens_ok rfl) (by first | decide | simp) (by first | decide | simp) rfl rfl rfl rfl rfl rfl rfl rfl rfl rfl (WO.go rfl ?_) | refine W.loop ?_ | refine W.exit ?_)
            refine W.cond rfl (fun h => absurd (h.symm.trans key2) (by decide)) (fun _ => ?_)
            repeat (first | refine W.condT rfl ?_ | refine W.condF rfl ?_ | refine W.seq ?_ | refine W.block ?_ | refine W.skip ?_ | refine WO.nil ?_ | refine WD.nil (WO.go rfl ?_) | refine W.region rfl (WO.go rfl ?_) | refine W.draw (id := 7) 29 [] rfl (by decide +kernel) rfl (WD.go rfl ?_) | refine W.draw (id := 12) 8 [] rfl (by decide +kernel) rfl (WD.go rfl ?_) | refine W.draw (id := 13) 10 [] rfl (by decide +kernel) rfl (WD.go rfl ?_) | refine W.draw (id := 14) 10 [] rfl (by decide +kernel) rfl (WD.go rfl ?_) | refine W.draw (id := 15) 29 [] rfl (by decide +kernel) rfl (WD.go rfl ?_) | refine W.draw (id := 18) 12 [] rfl (by decide +kernel) rfl (WD.go rfl ?_) | refine W.draw (id := 19) 15 [] rfl (by decide +kernel) rfl (WD.go rfl ?_) | refine W.draw (id := 22) 18 [] rfl (by decide +kernel) rfl (WD.go rfl ?_) | refine WO.givesT hk1 rfl rfl rfl rfl rfl rfl rfl rfl rfl (WO.go rfl ?_) | refine WD.givesT hk1 rfl rfl rfl rfl rfl rfl rfl rfl rfl (WD.go rfl ?_) | refine WO.gives l1 rfl rfl rfl rfl rfl rfl rfl rfl rfl (WO.go rfl ?_) | refine WD.gives l1 rfl rfl rfl rfl rfl rfl rfl rfl rfl (WD.go rfl ?_) | refine WO.gives l2 rfl rfl rfl rfl rfl rfl rfl rfl rfl (WO.go rfl ?_) | refine WD.gives l2 rfl rfl rfl rfl rfl rfl rfl rfl rfl (WD.go rfl ?_) | refine WO.givesT hwi rfl rfl rfl rfl rfl rfl rfl rfl rfl (WO.go rfl ?_) | refine WD.givesT hwi rfl rfl rfl rfl rfl rfl rfl rfl rfl (WD.go rfl ?_) | refine WO.append0 rfl rfl rfl rfl rfl rfl rfl rfl rfl (WO.go rfl ?_) | refine WO.appendF (by simp) (by exact lens_ok rfl) (by exact lens_ok rfl) (by first | decide | simp) (by first | decide | simp) rfl rfl rfl rfl rfl rfl rfl rfl rfl rfl (WO.go rfl ?_) | refine WO.appendI (by simp) (by exact lens_ok rfl) (by first | decide | simp) (by first | decide | simp) rfl rfl rfl rfl rfl rfl rfl rfl rfl rfl (WO.go rfl ?_) | refine W.loop ?_ | refine W.exit ?_)
            exact W.ret (.ret [_, _] rfl rfl)
        · exact absurd hp.1 (by simp)
        · exact absurd hp.1 (by simp)
      · have key2 : decide ((c.size : Int) > 4096) = true := decide_eq_true (by omega)
        simp only [MR]
        rw [if_neg (fun h => h2 h.2)]
        refine givesW (fn := Tryz.f160) Tryz.func160 rfl rfl rfl ?_
        repeat (first | (refine WO.gives nw rfl rfl rfl rfl rfl rfl rfl rfl rfl (WO.steps 2 rfl (WO.fix 32 (congrArg AV.bool key) (WO.go rfl ?_)))) | refine W.condT rfl ?_ | refine W.condF rfl ?_ | refine W.seq ?_ | refine W.block ?_ | refine W.skip ?_ | refine WO.nil ?_ | refine WD.nil (WO.go rfl ?_) | refine W.region rfl (WO.go rfl ?_) | refine W.draw (id := 7) 29 [] rfl (by decide +kernel) rfl (WD.go rfl ?_) | refine W.draw (id := 12) 8 [] rfl (by decide +kernel) rfl (WD.go rfl ?_) | refine W.draw (id := 13) 10 [] rfl (by decide +kernel) rfl (WD.go rfl ?_) | refine W.draw (id := 14) 10 [] rfl (by decide +kernel) rfl (WD.go rfl ?_) | refine W.draw (id := 15) 29 [] rfl (by decide +kernel) rfl (WD.go rfl ?_) | refine W.draw (id := 18) 12 [] rfl (by decide +kernel) rfl (WD.go rfl ?_) | refine W.draw (id := 19) 15 [] rfl (by decide +kernel) rfl (WD.go rfl ?_) | refine W.draw (id := 22) 18 [] rfl (by decide +kernel) rfl (WD.go rfl ?_) | refine WO.gives nc rfl rfl rfl rfl rfl rfl rfl rfl rfl (WO.go rfl ?_) | refine WD.gives nc rfl rfl rfl rfl rfl rfl rfl rfl rfl (WD.go rfl ?_) | refine WO.append0 rfl rfl rfl rfl rfl rfl rfl rfl rfl (WO.go rfl ?_) | refine WO.appendF (by simp) (by exact lens_ok rfl) (by exact lens_ok rfl) (by first | decide | simp) (by first | decide | simp) rfl rfl rfl rfl rfl rfl rfl rfl rfl rfl (WO.go rfl ?_) | refine WO.appendI (by simp) (by exact lens_ok rfl) (by first | decide | simp) (by first | decide | simp) rfl rfl rfl rfl rfl rfl rfl rfl rfl rfl (WO.go rfl ?_) | refine W.loop ?_ | refine W.exit ?_)
        refine W.cond rfl (fun _ => ?_) (fun h => absurd (h.symm.trans key2) (by decide))
        repeat (first | refine W.condT rfl ?_ | refine W.condF rfl ?_ | refine W.seq ?_ | refine W.block ?_ | refine W.skip ?_ | refine WO.nil ?_ | refine WD.nil (WO.go rfl ?_) | refine W.region rfl (WO.go rfl ?_) | refine W.draw (id := 7) 29 [] rfl (by decide +kernel) rfl (WD.go rfl ?_) | refine W.draw (id := 12) 8 [] rfl (by decide +kernel) rfl (WD.go rfl ?_) | refine W.draw (id := 13) 10 [] rfl (by decide +kernel) rfl (WD.go rfl ?_) | refine W.draw (id := 14) 10 [] rfl (by decide +kernel) rfl (WD.go rfl ?_) | refine W.draw (id := 15) 29 [] rfl (by decide +kernel) rfl (WD.go rfl ?_) | refine W.draw (id := 18) 12 [] rfl (by decide +kernel) rfl (WD.go rfl ?_) | refine W.draw (id := 19) 15 [] rfl (by decide +kernel) rfl (WD.go rfl ?_) | refine W.draw (id := 22) 18 [] rfl (by decide +kernel) rfl (WD.go rfl ?_) | refine WO.append0 rfl rfl rfl rfl rfl rfl rfl rfl rfl (WO.go rfl ?_) | refine WO.appendF (by simp) (by exact lens_ok rfl) (by exact lens_ok rfl) (by first | decide | simp) (by first | decide | simp) rfl rfl rfl rfl rfl rfl rfl rfl rfl rfl (WO.go rfl ?_) | refine WO.appendI (by simp) (by exact lens_ok rfl) (by first | decide | simp) (by first | decide | simp) rfl rfl rfl rfl rfl rfl rfl rfl rfl rfl (WO.go rfl ?_) | refine W.loop ?_ | refine W.exit ?_)
        exact W.ret (.ret [_, _] rfl rfl)
    · have key : decide ((w.size : Int) > 4096) = true := decide_eq_true (by omega)
      simp only [MR]
      rw [if_neg (fun h => h1 h.1)]
      refine givesW (fn := Tryz.f160) Tryz.func160 rfl rfl rfl ?_
      repeat (first | (refine WO.gives nw rfl rfl rfl rfl rfl rfl rfl rfl rfl (WO.steps 2 rfl (WO.fix 32 (congrArg AV.bool key) (WO.go rfl ?_)))) | refine W.condT rfl ?_ | refine W.condF rfl ?_ | refine W.seq ?_ | refine W.block ?_ | refine W.skip ?_ | refine WO.nil ?_ | refine WD.nil (WO.go rfl ?_) | refine W.region rfl (WO.go rfl ?_) | refine W.draw (id := 7) 29 [] rfl (by decide +kernel) rfl (WD.go rfl ?_) | refine W.draw (id := 12) 8 [] rfl (by decide +kernel) rfl (WD.go rfl ?_) | refine W.draw (id := 13) 10 [] rfl (by decide +kernel) rfl (WD.go rfl ?_) | refine W.draw (id := 14) 10 [] rfl (by decide +kernel) rfl (WD.go rfl ?_) | refine W.draw (id := 15) 29 [] rfl (by decide +kernel) rfl (WD.go rfl ?_) | refine W.draw (id := 18) 12 [] rfl (by decide +kernel) rfl (WD.go rfl ?_) | refine W.draw (id := 19) 15 [] rfl (by decide +kernel) rfl (WD.go rfl ?_) | refine W.draw (id := 22) 18 [] rfl (by decide +kernel) rfl (WD.go rfl ?_) | refine WO.append0 rfl rfl rfl rfl rfl rfl rfl rfl rfl (WO.go rfl ?_) | refine WO.appendF (by simp) (by exact lens_ok rfl) (by exact lens_ok rfl) (by first | decide | simp) (by first | decide | simp) rfl rfl rfl rfl rfl rfl rfl rfl rfl rfl (WO.go rfl ?_) | refine WO.appendI (by simp) (by exact lens_ok rfl) (by first | decide | simp) (by first | decide | simp) rfl rfl rfl rfl rfl rfl rfl rfl rfl rfl (WO.go rfl ?_) | refine W.loop ?_ | refine W.exit ?_)
      exact W.ret (.ret [_, _] rfl rfl)
theorem formulaM_W (f : Fo) (w c : T) (m : Nat) (G : List Y) (hp : f.pure) (he : ∃ p, f.bothE = some p) (ho : Fo.Ok m G f) (hw : HT m G w f.both.1) (hc : HT m G c f.both.2) (hs : f.size ≤ 4096) (ht : f.tyLe 64) (hwt : w.tyLe 64) (hct : c.tyLe 64)
    (hws : w.size ≤ 4096) (hcs : c.size ≤ 4096) (hG : G.length ≤ 1000) : Gives (AC X) 72 [.agg (cF f), .agg (cT w), .agg (cT c)] (rMat (MR (Fo.bone f) f w c)) := by
  have hof := ofM_W (X := X) (Fo.bone f) f w c m G (Nat.le_refl _) hp he ho hw hc hs ht hwt hct (by omega) (by omega) hG
  have ef := bothE_get hp he
  have h1 := witness_W (X := X) f hp hs ht
  have h2 := challenge_W (X := X) f hp hs ht
  rw [ef] at h1 h2
  have h3 := termsCheck_W (X := X) w hws hwt
  have h4 := termsCheck_W (X := X) c hcs hct
  have h5 := farFormulaS_W (X := X) f (Fo.le_of_ok ho (by omega))
  have h6 := farS_W (X := X) w (T.le_mono (T.le_of_sc hw.sc) (by omega))
  have h7 := farS_W (X := X) c (T.le_mono (T.le_of_sc hc.sc) (by omega))
  revert hof
  generalize MR _ _ _ _ = RR
  intro hof
  cases RR with
  | none =>
    refine givesW (fn := Tryz.f72) Tryz.func72 rfl rfl rfl ?_
    repeat (first | refine W.condT rfl ?_ | refine W.condF rfl ?_ | refine W.seq ?_ | refine W.block ?_ | refine W.skip ?_ | refine WO.nil ?_ | refine WD.nil (WO.go rfl ?_) | refine W.region rfl (WO.go rfl ?_) | refine WO.givesT h1 rfl rfl rfl rfl rfl rfl rfl rfl rfl (WO.go rfl ?_) | refine WD.givesT h1 rfl rfl rfl rfl rfl rfl rfl rfl rfl (WD.go rfl ?_) | refine WO.givesT h2 rfl rfl rfl rfl rfl rfl rfl rfl rfl (WO.go rfl ?_) | refine WD.givesT h2 rfl rfl rfl rfl rfl rfl rfl rfl rfl (WD.go rfl ?_) | refine WO.gives h3 rfl rfl rfl rfl rfl rfl rfl rfl rfl (WO.go rfl ?_) | refine WD.gives h3 rfl rfl rfl rfl rfl rfl rfl rfl rfl (WD.go rfl ?_) | refine WO.gives h4 rfl rfl rfl rfl rfl rfl rfl rfl rfl (WO.go rfl ?_) | refine WD.gives h4 rfl rfl rfl rfl rfl rfl rfl rfl rfl (WD.go rfl ?_) | refine WO.gives h5 rfl rfl rfl rfl rfl rfl rfl rfl rfl (WO.go rfl ?_) | refine WD.gives h5 rfl rfl rfl rfl rfl rfl rfl rfl rfl (WD.go rfl ?_) | refine WO.gives h6 rfl rfl rfl rfl rfl rfl rfl rfl rfl (WO.go rfl ?_) | refine WD.gives h6 rfl rfl rfl rfl rfl rfl rfl rfl rfl (WD.go rfl ?_) | refine WO.gives h7 rfl rfl rfl rfl rfl rfl rfl rfl rfl (WO.go rfl ?_) | refine WD.gives h7 rfl rfl rfl rfl rfl rfl rfl rfl rfl (WD.go rfl ?_) | refine WO.givesT hof rfl rfl rfl rfl rfl rfl rfl rfl rfl (WO.go rfl ?_) | refine WD.givesT hof rfl rfl rfl rfl rfl rfl rfl rfl rfl (WD.go rfl ?_) | refine WO.append0 rfl rfl rfl rfl rfl rfl rfl rfl rfl (WO.go rfl ?_) | refine WO.appendF (by simp) (by exact lens_ok rfl) (by exact lens_ok rfl) (by first | decide | simp) (by first | decide | simp) rfl rfl rfl rfl rfl rfl rfl rfl rfl rfl (WO.go rfl ?_) | refine WO.appendI (by simp) (by exact lens_ok rfl) (by first | decide | simp) (by first | decide | simp) rfl rfl rfl rfl rfl rfl rfl rfl rfl rfl (WO.go rfl ?_) | refine W.loop ?_ | refine W.exit ?_)
    exact W.ret (.ret [_, _] rfl rfl)
  | some y =>
    refine givesW (fn := Tryz.f72) Tryz.func72 rfl rfl rfl ?_
    repeat (first | refine W.condT rfl ?_ | refine W.condF rfl ?_ | refine W.seq ?_ | refine W.block ?_ | refine W.skip ?_ | refine WO.nil ?_ | refine WD.nil (WO.go rfl ?_) | refine W.region rfl (WO.go rfl ?_) | refine WO.givesT h1 rfl rfl rfl rfl rfl rfl rfl rfl rfl (WO.go rfl ?_) | refine WD.givesT h1 rfl rfl rfl rfl rfl rfl rfl rfl rfl (WD.go rfl ?_) | refine WO.givesT h2 rfl rfl rfl rfl rfl rfl rfl rfl rfl (WO.go rfl ?_) | refine WD.givesT h2 rfl rfl rfl rfl rfl rfl rfl rfl rfl (WD.go rfl ?_) | refine WO.gives h3 rfl rfl rfl rfl rfl rfl rfl rfl rfl (WO.go rfl ?_) | refine WD.gives h3 rfl rfl rfl rfl rfl rfl rfl rfl rfl (WD.go rfl ?_) | refine WO.gives h4 rfl rfl rfl rfl rfl rfl rfl rfl rfl (WO.go rfl ?_) | refine WD.gives h4 rfl rfl rfl rfl rfl rfl rfl rfl rfl (WD.go rfl ?_) | refine WO.gives h5 rfl rfl rfl rfl rfl rfl rfl rfl rfl (WO.go rfl ?_) | refine WD.gives h5 rfl rfl rfl rfl rfl rfl rfl rfl rfl (WD.go rfl ?_) | refine WO.gives h6 rfl rfl rfl rfl rfl rfl rfl rfl rfl (WO.go rfl ?_) | refine WD.gives h6 rfl rfl rfl rfl rfl rfl rfl rfl rfl (WD.go rfl ?_) | refine WO.gives h7 rfl rfl rfl rfl rfl rfl rfl rfl rfl (WO.go rfl ?_) | refine WD.gives h7 rfl rfl rfl rfl rfl rfl rfl rfl rfl (WD.go rfl ?_) | refine WO.givesT hof rfl rfl rfl rfl rfl rfl rfl rfl rfl (WO.go rfl ?_) | refine WD.givesT hof rfl rfl rfl rfl rfl rfl rfl rfl rfl (WD.go rfl ?_) | refine WO.append0 rfl rfl rfl rfl rfl rfl rfl rfl rfl (WO.go rfl ?_) | refine WO.appendF (by simp) (by exact lens_ok rfl) (by exact lens_ok rfl) (by first | decide | simp) (by first | decide | simp) rfl rfl rfl rfl rfl rfl rfl rfl rfl rfl (WO.go rfl ?_) | refine WO.appendI (by simp) (by exact lens_ok rfl) (by first | decide | simp) (by first | decide | simp) rfl rfl rfl rfl rfl rfl rfl rfl rfl rfl (WO.go rfl ?_) | refine W.loop ?_ | refine W.exit ?_)
    exact W.ret (.ret [_, _] rfl rfl)
def freeB : Fo → Bool
  | .eq _ _ => true
  | .bi _ f g => freeB f && freeB g
  | .q _ _ _ => false
theorem freeM_W : ∀ (f : Fo), Gives (AC X) 75 [.agg (cF f)] (.bool (freeB f))
  | .eq a b => by
    refine givesW (fn := Tryz.f75) Tryz.func75 rfl rfl rfl ?_
    repeat (first | refine W.condT rfl ?_ | refine W.condF rfl ?_ | refine W.seq ?_ | refine W.block ?_ | refine W.skip ?_ | refine WO.nil ?_ | refine WD.nil (WO.go rfl ?_) | refine W.region rfl (WO.go rfl ?_) | refine WO.append0 rfl rfl rfl rfl rfl rfl rfl rfl rfl (WO.go rfl ?_) | refine WO.appendF (by simp) (by exact lens_ok rfl) (by exact lens_ok rfl) (by first | decide | simp) (by first | decide | simp) rfl rfl rfl rfl rfl rfl rfl rfl rfl rfl (WO.go rfl ?_) | refine WO.appendI (by simp) (by exact lens_ok rfl) (by first | decide | simp) (by first | decide | simp) rfl rfl rfl rfl rfl rfl rfl rfl rfl rfl (WO.go rfl ?_) | refine W.loop ?_ | refine W.exit ?_)
    exact W.ret (.ret [_] rfl rfl)
  | .bi .an f g => by
    have h1 := freeM_W f
    have h2 := freeM_W g
    simp only [freeB]
    cases e1 : freeB f <;> cases e2 : freeB g <;> rw [e1] at h1 <;> rw [e2] at h2 <;>
    · refine givesW (fn := Tryz.f75) Tryz.func75 rfl rfl rfl ?_
      repeat (first | refine W.condT rfl ?_ | refine W.condF rfl ?_ | refine W.seq ?_ | refine W.block ?_ | refine W.skip ?_ | refine WO.nil ?_ | refine WD.nil (WO.go rfl ?_) | refine W.region rfl (WO.go rfl ?_) | refine WO.gives h1 rfl rfl rfl rfl rfl rfl rfl rfl rfl (WO.go rfl ?_) | refine WD.gives h1 rfl rfl rfl rfl rfl rfl rfl rfl rfl (WD.go rfl ?_) | refine WO.gives h2 rfl rfl rfl rfl rfl rfl rfl rfl rfl (WO.go rfl ?_) | refine WD.gives h2 rfl rfl rfl rfl rfl rfl rfl rfl rfl (WD.go rfl ?_) | refine WO.append0 rfl rfl rfl rfl rfl rfl rfl rfl rfl (WO.go rfl ?_) | refine WO.appendF (by simp) (by exact lens_ok rfl) (by exact lens_ok rfl) (by first | decide | simp) (by first | decide | simp) rfl rfl rfl rfl rfl rfl rfl rfl rfl rfl (WO.go rfl ?_) | refine WO.appendI (by simp) (by exact lens_ok rfl) (by first | decide | simp) (by first | decide | simp) rfl rfl rfl rfl rfl rfl rfl rfl rfl rfl (WO.go rfl ?_) | refine W.loop ?_ | refine W.exit ?_)
      exact W.ret (.ret [_] rfl rfl)
  | .bi .im f g => by
    have h1 := freeM_W f
    have h2 := freeM_W g
    simp only [freeB]
    cases e1 : freeB f <;> cases e2 : freeB g <;> rw [e1] at h1 <;> rw [e2] at h2 <;>
    · refine givesW (fn := Tryz.f75) Tryz.func75 rfl rfl rfl ?_
      repeat (first | refine W.condT rfl ?_ | refine W.condF rfl ?_ | refine W.seq ?_ | refine W.block ?_ | refine W.skip ?_ | refine WO.nil ?_ | refine WD.nil (WO.go rfl ?_) | refine W.region rfl (WO.go rfl ?_) | refine WO.gives h1 rfl rfl rfl rfl rfl rfl rfl rfl rfl (WO.go rfl ?_) | refine WD.gives h1 rfl rfl rfl rfl rfl rfl rfl rfl rfl (WD.go rfl ?_) | refine WO.gives h2 rfl rfl rfl rfl rfl rfl rfl rfl rfl (WO.go rfl ?_) | refine WD.gives h2 rfl rfl rfl rfl rfl rfl rfl rfl rfl (WD.go rfl ?_) | refine WO.append0 rfl rfl rfl rfl rfl rfl rfl rfl rfl (WO.go rfl ?_) | refine WO.appendF (by simp) (by exact lens_ok rfl) (by exact lens_ok rfl) (by first | decide | simp) (by first | decide | simp) rfl rfl rfl rfl rfl rfl rfl rfl rfl rfl (WO.go rfl ?_) | refine WO.appendI (by simp) (by exact lens_ok rfl) (by first | decide | simp) (by first | decide | simp) rfl rfl rfl rfl rfl rfl rfl rfl rfl rfl (WO.go rfl ?_) | refine W.loop ?_ | refine W.exit ?_)
      exact W.ret (.ret [_] rfl rfl)
  | .q .al s f => by
    refine givesW (fn := Tryz.f75) Tryz.func75 rfl rfl rfl ?_
    repeat (first | refine W.condT rfl ?_ | refine W.condF rfl ?_ | refine W.seq ?_ | refine W.block ?_ | refine W.skip ?_ | refine WO.nil ?_ | refine WD.nil (WO.go rfl ?_) | refine W.region rfl (WO.go rfl ?_) | refine WO.append0 rfl rfl rfl rfl rfl rfl rfl rfl rfl (WO.go rfl ?_) | refine WO.appendF (by simp) (by exact lens_ok rfl) (by exact lens_ok rfl) (by first | decide | simp) (by first | decide | simp) rfl rfl rfl rfl rfl rfl rfl rfl rfl rfl (WO.go rfl ?_) | refine WO.appendI (by simp) (by exact lens_ok rfl) (by first | decide | simp) (by first | decide | simp) rfl rfl rfl rfl rfl rfl rfl rfl rfl rfl (WO.go rfl ?_) | refine W.loop ?_ | refine W.exit ?_)
    exact W.ret (.ret [_] rfl rfl)
  | .q .ex s f => by
    refine givesW (fn := Tryz.f75) Tryz.func75 rfl rfl rfl ?_
    repeat (first | refine W.condT rfl ?_ | refine W.condF rfl ?_ | refine W.seq ?_ | refine W.block ?_ | refine W.skip ?_ | refine WO.nil ?_ | refine WD.nil (WO.go rfl ?_) | refine W.region rfl (WO.go rfl ?_) | refine WO.append0 rfl rfl rfl rfl rfl rfl rfl rfl rfl (WO.go rfl ?_) | refine WO.appendF (by simp) (by exact lens_ok rfl) (by exact lens_ok rfl) (by first | decide | simp) (by first | decide | simp) rfl rfl rfl rfl rfl rfl rfl rfl rfl rfl (WO.go rfl ?_) | refine WO.appendI (by simp) (by exact lens_ok rfl) (by first | decide | simp) (by first | decide | simp) rfl rfl rfl rfl rfl rfl rfl rfl rfl rfl (WO.go rfl ?_) | refine W.loop ?_ | refine W.exit ?_)
    exact W.ret (.ret [_] rfl rfl)
  | .q .au s f => by
    refine givesW (fn := Tryz.f75) Tryz.func75 rfl rfl rfl ?_
    repeat (first | refine W.condT rfl ?_ | refine W.condF rfl ?_ | refine W.seq ?_ | refine W.block ?_ | refine W.skip ?_ | refine WO.nil ?_ | refine WD.nil (WO.go rfl ?_) | refine W.region rfl (WO.go rfl ?_) | refine WO.append0 rfl rfl rfl rfl rfl rfl rfl rfl rfl (WO.go rfl ?_) | refine WO.appendF (by simp) (by exact lens_ok rfl) (by exact lens_ok rfl) (by first | decide | simp) (by first | decide | simp) rfl rfl rfl rfl rfl rfl rfl rfl rfl rfl (WO.go rfl ?_) | refine WO.appendI (by simp) (by exact lens_ok rfl) (by first | decide | simp) (by first | decide | simp) rfl rfl rfl rfl rfl rfl rfl rfl rfl rfl (WO.go rfl ?_) | refine W.loop ?_ | refine W.exit ?_)
    exact W.ret (.ret [_] rfl rfl)
  | .q .eu s f => by
    refine givesW (fn := Tryz.f75) Tryz.func75 rfl rfl rfl ?_
    repeat (first | refine W.condT rfl ?_ | refine W.condF rfl ?_ | refine W.seq ?_ | refine W.block ?_ | refine W.skip ?_ | refine WO.nil ?_ | refine WD.nil (WO.go rfl ?_) | refine W.region rfl (WO.go rfl ?_) | refine WO.append0 rfl rfl rfl rfl rfl rfl rfl rfl rfl (WO.go rfl ?_) | refine WO.appendF (by simp) (by exact lens_ok rfl) (by exact lens_ok rfl) (by first | decide | simp) (by first | decide | simp) rfl rfl rfl rfl rfl rfl rfl rfl rfl rfl (WO.go rfl ?_) | refine WO.appendI (by simp) (by exact lens_ok rfl) (by first | decide | simp) (by first | decide | simp) rfl rfl rfl rfl rfl rfl rfl rfl rfl rfl (WO.go rfl ?_) | refine W.loop ?_ | refine W.exit ?_)
    exact W.ret (.ret [_] rfl rfl)
end Go.Proofs.YtjdlmhbkfammlabGreatDoor
namespace Go.Proofs.YtjdlmhbkfammlabGreatDoor
open Go Go.Sh
set_option linter.unusedVariables false
set_option linter.unusedSimpArgs false
set_option maxHeartbeats 4000000
variable {X : CRel}
/-! what the laws of the matrix start from -/
theorem context_W (l : List Int) (hl : l.length ≤ 1000) (i : Nat) (hi : i ≤ l.length) : ∃ (g : List Y) (j : Nat), Draws (AC X) l 52 [] i (.sl .no (g.map cY)) j ∧ i ≤ j ∧ j ≤ l.length ∧ g.length ≤ 3 ∧ ∀ y ∈ g, y.size ≤ 3 := by
  suffices h : ∃ rs st', AC X 52 [.vp 0 0] (deck l i) (resOf rs) st' ∧ ∃ (g : List Y) (j : Nat), rs = [.sl .no (g.map cY)] ∧ st'[0]? = (deck l j)[0]? ∧ i ≤ j ∧ j ≤ l.length ∧ g.length ≤ 3 ∧ ∀ y ∈ g, y.size ≤ 3 by
    obtain ⟨rs, st', h1, g, j, rfl, h2, h3⟩ := h; exact ⟨g, j, ⟨st', h1, h2⟩, h3⟩
  obtain ⟨v, j0, hv, hvv, hjv⟩ : ∃ (v : Int) (j' : Nat), Draws (AC X) l 18 [.int .i64 4] i (.int .i64 v) j' ∧ (0 ≤ v ∧ v < 4) ∧ i ≤ j' ∧ j' ≤ l.length := ⟨_, _, next_W l i 4 (by omega) hl (by decide) (by decide), nextV_lt l i 4 (by decide) (by decide), by unfold nextI; omega, by unfold nextI; omega⟩
  obtain ⟨a, j1, ha, ha1, ha2, ha3⟩ := type_W (X := X) l hl 1 (by omega) j0 (by omega)
  obtain ⟨b, j2, hb, hb1, hb2, hb3⟩ := type_W (X := X) l hl 1 (by omega) j1 (by omega)
  obtain ⟨c, j3, hc, hc1, hc2, hc3⟩ := type_W (X := X) l hl 1 (by omega) j2 (by omega)
  simp only [tyB] at ha3 hb3 hc3
  have hv4 : v = 0 ∨ v = 1 ∨ v = 2 ∨ v = 3 := by omega
  refine callW (fn := Tryz.f52) Tryz.func52 rfl rfl rfl ?_
  rcases hv4 with rfl | rfl | rfl | rfl
  · repeat (first | refine W.condT rfl ?_ | refine W.condF rfl ?_ | refine W.seq ?_ | refine W.block ?_ | refine W.skip ?_ | refine WO.nil ?_ | refine WD.nil (WO.go rfl ?_) | refine W.region rfl (WO.go rfl ?_) | refine WO.draws hv rfl rfl rfl rfl rfl rfl rfl rfl rfl rfl rfl (WO.go rfl ?_) | refine WD.draws hv rfl rfl rfl rfl rfl rfl rfl rfl rfl rfl rfl rfl (WD.go rfl ?_) | refine WO.append0 rfl rfl rfl rfl rfl rfl rfl rfl rfl (WO.go rfl ?_) | refine WO.appendF (by simp) (by exact lens_ok rfl) (by exact lens_ok rfl) (by first | decide | simp) (by first | decide | simp) rfl rfl rfl rfl rfl rfl rfl rfl rfl rfl (WO.go rfl ?_) | refine WO.appendI (by simp) (by exact lens_ok rfl) (by first | decide | simp) (by first | decide | simp) rfl rfl rfl rfl rfl rfl rfl rfl rfl rfl (WO.go rfl ?_) | refine W.loop ?_ | refine W.exit ?_)
    exact W.ret (.ret [_] rfl ⟨[], j0, rfl, rfl, by omega, by omega, by simp, by simp⟩)
  · repeat (first | refine W.condT rfl ?_ | refine W.condF rfl ?_ | refine W.seq ?_ | refine W.block ?_ | refine W.skip ?_ | refine WO.nil ?_ | refine WD.nil (WO.go rfl ?_) | refine W.region rfl (WO.go rfl ?_) | refine WO.draws hv rfl rfl rfl rfl rfl rfl rfl rfl rfl rfl rfl (WO.go rfl ?_) | refine WD.draws hv rfl rfl rfl rfl rfl rfl rfl rfl rfl rfl rfl rfl (WD.go rfl ?_) | refine WO.draws ha rfl rfl rfl rfl rfl rfl rfl rfl rfl rfl rfl (WO.go rfl ?_) | refine WD.draws ha rfl rfl rfl rfl rfl rfl rfl rfl rfl rfl rfl rfl (WD.go rfl ?_) | refine WO.append0 rfl rfl rfl rfl rfl rfl rfl rfl rfl (WO.go rfl ?_) | refine WO.appendF (by simp) (by exact lens_ok rfl) (by exact lens_ok rfl) (by first | decide | simp) (by first | decide | simp) rfl rfl rfl rfl rfl rfl rfl rfl rfl rfl (WO.go rfl ?_) | refine WO.appendI (by simp) (by exact lens_ok rfl) (by first | decide | simp) (by first | decide | simp) rfl rfl rfl rfl rfl rfl rfl rfl rfl rfl (WO.go rfl ?_) | refine W.loop ?_ | refine W.exit ?_)
    exact W.ret (.ret [_] rfl ⟨[a], j1, rfl, rfl, by omega, by omega, by simp, by simp; omega⟩)
  · repeat (first | refine W.condT rfl ?_ | refine W.condF rfl ?_ | refine W.seq ?_ | refine W.block ?_ | refine W.skip ?_ | refine WO.nil ?_ | refine WD.nil (WO.go rfl ?_) | refine W.region rfl (WO.go rfl ?_) | refine WO.draws hv rfl rfl rfl rfl rfl rfl rfl rfl rfl rfl rfl (WO.go rfl ?_) | refine WD.draws hv rfl rfl rfl rfl rfl rfl rfl rfl rfl rfl rfl rfl (WD.go rfl ?_) | refine WO.draws ha rfl rfl rfl rfl rfl rfl rfl rfl rfl rfl rfl (WO.go rfl ?_) | refine WD.draws ha rfl rfl rfl rfl rfl rfl rfl rfl rfl rfl rfl rfl (WD.go rfl ?_) | refine WO.draws hb rfl rfl rfl rfl rfl rfl rfl rfl rfl rfl rfl (WO.go rfl ?_) | refine WD.draws hb rfl rfl rfl rfl rfl rfl rfl rfl rfl rfl rfl rfl (WD.go rfl ?_) | refine WO.append0 rfl rfl rfl rfl rfl rfl rfl rfl rfl (WO.go rfl ?_) | refine WO.appendF (by simp) (by exact lens_ok rfl) (by exact lens_ok rfl) (by first | decide | simp) (by first | decide | simp) rfl rfl rfl rfl rfl rfl rfl rfl rfl rfl (WO.go rfl ?_) | refine WO.appendI (by simp) (by exact lens_ok rfl) (by first | decide | simp) (by first | decide | simp) rfl rfl rfl rfl rfl rfl rfl rfl rfl rfl (WO.go rfl ?_) | refine W.loop ?_ | refine W.exit ?_)
    exact W.ret (.ret [_] rfl ⟨[a, b], j2, rfl, rfl, by omega, by omega, by simp, by simp; omega⟩)
  · repeat (first | refine W.condT rfl ?_ | refine W.condF rfl ?_ | refine W.seq ?_ | refine W.block ?_ | refine W.skip ?_ | refine WO.nil ?_ | refine WD.nil (WO.go rfl ?_) | refine W.region rfl (WO.go rfl ?_) | refine WO.draws hv rfl rfl rfl rfl rfl rfl rfl rfl rfl rfl rfl (WO.go rfl ?_) | refine WD.draws hv rfl rfl rfl rfl rfl rfl rfl rfl rfl rfl rfl rfl (WD.go rfl ?_) | refine WO.draws ha rfl rfl rfl rfl rfl rfl rfl rfl rfl rfl rfl (WO.go rfl ?_) | refine WD.draws ha rfl rfl rfl rfl rfl rfl rfl rfl rfl rfl rfl rfl (WD.go rfl ?_) | refine WO.draws hb rfl rfl rfl rfl rfl rfl rfl rfl rfl rfl rfl (WO.go rfl ?_) | refine WD.draws hb rfl rfl rfl rfl rfl rfl rfl rfl rfl rfl rfl rfl (WD.go rfl ?_) | refine WO.draws hc rfl rfl rfl rfl rfl rfl rfl rfl rfl rfl rfl (WO.go rfl ?_) | refine WD.draws hc rfl rfl rfl rfl rfl rfl rfl rfl rfl rfl rfl rfl (WD.go rfl ?_) | refine WO.append0 rfl rfl rfl rfl rfl rfl rfl rfl rfl (WO.go rfl ?_) | refine WO.appendF (by simp) (by exact lens_ok rfl) (by exact lens_ok rfl) (by first | decide | simp) (by first | decide | simp) rfl rfl rfl rfl rfl rfl rfl rfl rfl rfl (WO.go rfl ?_) | refine WO.appendI (by simp) (by exact lens_ok rfl) (by first | decide | simp) (by first | decide | simp) rfl rfl rfl rfl rfl rfl rfl rfl rfl rfl (WO.go rfl ?_) | refine W.loop ?_ | refine W.exit ?_)
    exact W.ret (.ret [_] rfl ⟨[a, b, c], j3, rfl, rfl, by omega, by omega, by simp, by simp; omega⟩)
theorem parts_W (l : List Int) (hl : l.length ≤ 1000) (g : List Y) (hg : ∀ y ∈ g, y.size ≤ 3) (hgl : g.length ≤ 4) (i : Nat) (hi : i ≤ l.length) :
    (∃ j, GivesV (AC X) 71 [.vp 0 0, .sl .no (g.map cY)] (deck l i) (.tup [.agg zF, .agg zT, .agg zT, .bool false]) (deck l j) ∧ j ≤ l.length) ∨
    ∃ (f : Fo) (w c : T) (j : Nat), GivesV (AC X) 71 [.vp 0 0, .sl .no (g.map cY)] (deck l i) (.tup [.agg (cF f), .agg (cT w), .agg (cT c), .bool true]) (deck l j) ∧ j ≤ l.length ∧ f.pure ∧ (∃ p, f.bothE = some p) ∧ Fo.Ok 133 g.reverse f ∧
      HT 133 g.reverse w f.both.1 ∧ HT 133 g.reverse c f.both.2 ∧ f.size ≤ 4096 ∧ f.tyLe 64 ∧ w.size ≤ 4096 ∧ c.size ≤ 4096 ∧ w.tyLe 64 ∧ c.tyLe 64 := by
  obtain ⟨f, j1, hf, hf1, hf2, hf3, hf4, hf5, hf6⟩ := pure_W (X := X) l hl 3 (by omega) (by omega) 3 g i (by omega) hg (by omega) hi
  simp only [pB, rB] at hf5
  have htl : f.tyLe 64 := Fo.tyLe_mono hf6 (by omega)
  have hw := witness28_W (X := X) f hf3 (by omega) htl
  have hc := challenge28_W (X := X) f hf3 (by omega) htl
  cases ef : f.bothE with
  | none =>
    rw [ef] at hw hc
    refine .inl ⟨j1, ?_, hf2⟩
    refine givesVW (fn := Tryz.f71) Tryz.func71 rfl rfl rfl ?_
    repeat (first | refine W.condT rfl ?_ | refine W.condF rfl ?_ | refine W.seq ?_ | refine W.block ?_ | refine W.skip ?_ | refine WO.nil ?_ | refine WD.nil (WO.go rfl ?_) | refine W.region rfl (WO.go rfl ?_) | refine W.draw (id := 6) 9 [0] rfl (by decide +kernel) rfl (WD.go rfl ?_) | refine WO.draws hf rfl rfl rfl rfl rfl rfl rfl rfl rfl rfl rfl (WO.go rfl ?_) | refine WD.draws hf rfl rfl rfl rfl rfl rfl rfl rfl rfl rfl rfl rfl (WD.go rfl ?_) | refine WO.givesT hw rfl rfl rfl rfl rfl rfl rfl rfl rfl (WO.go rfl ?_) | refine WD.givesT hw rfl rfl rfl rfl rfl rfl rfl rfl rfl (WD.go rfl ?_) | refine WO.givesT hc rfl rfl rfl rfl rfl rfl rfl rfl rfl (WO.go rfl ?_) | refine WD.givesT hc rfl rfl rfl rfl rfl rfl rfl rfl rfl (WD.go rfl ?_) | refine WO.append0 rfl rfl rfl rfl rfl rfl rfl rfl rfl (WO.go rfl ?_) | refine WO.appendF (by simp) (by exact lens_ok rfl) (by exact lens_ok rfl) (by first | decide | simp) (by first | decide | simp) rfl rfl rfl rfl rfl rfl rfl rfl rfl rfl (WO.go rfl ?_) | refine WO.appendI (by simp) (by exact lens_ok rfl) (by first | decide | simp) (by first | decide | simp) rfl rfl rfl rfl rfl rfl rfl rfl rfl rfl (WO.go rfl ?_) | refine W.loop ?_ | refine W.exit ?_)
    exact W.ret (.ret [_, _, _, _] rfl ⟨rfl, rfl⟩)
  | some p =>
    obtain ⟨v, q⟩ := p
    have hle := Fo.bothE_le ef
    have hbo := Fo.bothE_both hf3 ef
    simp only at hle
    rw [ef] at hw hc
    obtain ⟨w, j2, kw, kw1, kw2, kw3, kw4, kw5⟩ := term_W (X := X) l hl 64 (by omega) (by omega) 2 v g j1 (by omega) hle.1 (fun y hy => by have := hg y hy; omega) (by omega) hf2
    obtain ⟨c, j3, kc, kc1, kc2, kc3, kc4, kc5⟩ := term_W (X := X) l hl 64 (by omega) (by omega) 2 q g j2 (by omega) hle.2 (fun y hy => by have := hg y hy; omega) (by omega) kw2
    simp only [rB] at kw4 kc4
    refine .inr ⟨f, w, c, j3, ?_, kc2, hf3, ⟨_, ef⟩, hf4.mono (by omega), by rw [hbo]; exact kw3, by rw [hbo]; exact kc3, by omega, htl, by omega, by omega, kw5, kc5⟩
    refine givesVW (fn := Tryz.f71) Tryz.func71 rfl rfl rfl ?_
    repeat (first | refine W.condT rfl ?_ | refine W.condF rfl ?_ | refine W.seq ?_ | refine W.block ?_ | refine W.skip ?_ | refine WO.nil ?_ | refine WD.nil (WO.go rfl ?_) | refine W.region rfl (WO.go rfl ?_) | refine W.draw (id := 6) 9 [0] rfl (by decide +kernel) rfl (WD.go rfl ?_) | refine WO.draws hf rfl rfl rfl rfl rfl rfl rfl rfl rfl rfl rfl (WO.go rfl ?_) | refine WD.draws hf rfl rfl rfl rfl rfl rfl rfl rfl rfl rfl rfl rfl (WD.go rfl ?_) | refine WO.givesT hw rfl rfl rfl rfl rfl rfl rfl rfl rfl (WO.go rfl ?_) | refine WD.givesT hw rfl rfl rfl rfl rfl rfl rfl rfl rfl (WD.go rfl ?_) | refine WO.givesT hc rfl rfl rfl rfl rfl rfl rfl rfl rfl (WO.go rfl ?_) | refine WD.givesT hc rfl rfl rfl rfl rfl rfl rfl rfl rfl (WD.go rfl ?_) | refine WO.draws kw rfl rfl rfl rfl rfl rfl rfl rfl rfl rfl rfl (WO.go rfl ?_) | refine WD.draws kw rfl rfl rfl rfl rfl rfl rfl rfl rfl rfl rfl rfl (WD.go rfl ?_) | refine WO.draws kc rfl rfl rfl rfl rfl rfl rfl rfl rfl rfl rfl (WO.go rfl ?_) | refine WD.draws kc rfl rfl rfl rfl rfl rfl rfl rfl rfl rfl rfl rfl (WD.go rfl ?_) | refine WO.append0 rfl rfl rfl rfl rfl rfl rfl rfl rfl (WO.go rfl ?_) | refine WO.appendF (by simp) (by exact lens_ok rfl) (by exact lens_ok rfl) (by first | decide | simp) (by first | decide | simp) rfl rfl rfl rfl rfl rfl rfl rfl rfl rfl (WO.go rfl ?_) | refine WO.appendI (by simp) (by exact lens_ok rfl) (by first | decide | simp) (by first | decide | simp) rfl rfl rfl rfl rfl rfl rfl rfl rfl rfl (WO.go rfl ?_) | refine W.loop ?_ | refine W.exit ?_)
    exact W.ret (.ret [_, _, _, _] rfl ⟨rfl, rfl⟩)
def awF29 : Fo := .q .al .nat (.q .ex .nat (.eq (.vr 0) (.vr 1)))
def awM29 : Fo := .eq (.ap (.vr 4) .ze) .ze
theorem awake29_W : Gives (AC X) 70 [] (.bool true) := by
  have h1 : Gives (AC X) 72 [.agg (cF awF29), .agg (cT (.vr 4)), .agg (cT .ze)] (.tup [.agg (cF awM29), .int .i64 0]) :=
    formulaM_W awF29 (.vr 4) .ze 133 [.nat, .nat, .nat, .nat, .fn .nat .nat] (by simp [awF29, Fo.pure]) ⟨_, rfl⟩ (.q (.q (.eq (.vr rfl) (.vr rfl)))) (.vr rfl) .ze (by decide) (by simp [awF29, Fo.tyLe, T.tyLe, Y.size]) trivial trivial (by decide) (by decide) (by decide)
  have h2 : Gives (AC X) 75 [.agg (cF awM29)] (.bool true) := freeM_W awM29
  have h3 : Gives (AC X) 75 [.agg (cF awF29)] (.bool false) := freeM_W awF29
  refine givesW (fn := Tryz.f70) Tryz.func70 rfl rfl rfl ?_
  repeat (first | refine W.condT rfl ?_ | refine W.condF rfl ?_ | refine W.seq ?_ | refine W.block ?_ | refine W.skip ?_ | refine WO.nil ?_ | refine WD.nil (WO.go rfl ?_) | refine W.region rfl (WO.go rfl ?_) | refine WO.givesT h1 rfl rfl rfl rfl rfl rfl rfl rfl rfl (WO.go rfl ?_) | refine WD.givesT h1 rfl rfl rfl rfl rfl rfl rfl rfl rfl (WD.go rfl ?_) | refine WO.gives h2 rfl rfl rfl rfl rfl rfl rfl rfl rfl (WO.go rfl ?_) | refine WD.gives h2 rfl rfl rfl rfl rfl rfl rfl rfl rfl (WD.go rfl ?_) | refine WO.gives h3 rfl rfl rfl rfl rfl rfl rfl rfl rfl (WO.go rfl ?_) | refine WD.gives h3 rfl rfl rfl rfl rfl rfl rfl rfl rfl (WD.go rfl ?_) | refine WO.append0 rfl rfl rfl rfl rfl rfl rfl rfl rfl (WO.go rfl ?_) | refine WO.appendF (by simp) (by exact lens_ok rfl) (by exact lens_ok rfl) (by first | decide | simp) (by first | decide | simp) rfl rfl rfl rfl rfl rfl rfl rfl rfl rfl (WO.go rfl ?_) | refine WO.appendI (by simp) (by exact lens_ok rfl) (by first | decide | simp) (by first | decide | simp) rfl rfl rfl rfl rfl rfl rfl rfl rfl rfl (WO.go rfl ?_) | refine W.loop ?_ | refine W.exit ?_)
  exact W.ret (.ret [_] rfl rfl)
end Go.Proofs.YtjdlmhbkfammlabGreatDoor
namespace Go.Proofs.YtjdlmhbkfammlabGreatDoor
open Go Go.Sh
set_option linter.unusedVariables false
set_option linter.unusedSimpArgs false
set_option maxHeartbeats 4000000
variable {X : CRel}
theorem matrixPut_W (l : List Int) : Gives (AC X) 10 [.sl .no (ints l)] (.bool true) := by
  have hfew := few_W (X := X) (ints l)
  have haw := awake29_W (X := X)
  rw [ints_len] at hfew
  by_cases hl : l.length ≤ 500
  · rw [decide_eq_true (show (l.length : Int) ≤ 500 by omega)] at hfew
    obtain ⟨st', hnew, hst⟩ := new_W (X := X) l
    obtain ⟨g, j1, hg, hg1, hg2, hg3, hg4⟩ := context_W (X := X) l (by omega) 0 (by omega)
    have hp := parts_W (X := X) l (by omega) (g ++ [.nat]) (fun y hy => by
      rcases List.mem_append.1 hy with h1 | h1
      · exact hg4 y h1
      · simp at h1; subst h1; simp [Y.size]) (by simp; omega) j1 hg2
    rw [List.reverse_append] at hp
    rcases hp with ⟨j2, hp, hj2⟩ | ⟨f, w, c, j2, hp, hj2, f1, f2, f3, hw, hc, f4, f5, w1, c1, w2, c2⟩
    · rcases g with _ | ⟨a, _ | ⟨b, _ | ⟨d, _ | ⟨e, g⟩⟩⟩⟩
      case cons.cons.cons.cons => simp at hg3
      all_goals
        refine givesW (fn := Tryz.f10) Tryz.func10 rfl rfl rfl ?_
        repeat (first | (refine WO.new hnew hst rfl rfl rfl rfl rfl rfl rfl rfl rfl (WO.go rfl ?_)) | refine W.condT rfl ?_ | refine W.condF rfl ?_ | refine W.seq ?_ | refine W.block ?_ | refine W.skip ?_ | refine WO.nil ?_ | refine WD.nil (WO.go rfl ?_) | refine W.region rfl (WO.go rfl ?_) | refine WO.gives haw rfl rfl rfl rfl rfl rfl rfl rfl rfl (WO.go rfl ?_) | refine WD.gives haw rfl rfl rfl rfl rfl rfl rfl rfl rfl (WD.go rfl ?_) | refine WO.gives hfew rfl rfl rfl rfl rfl rfl rfl rfl rfl (WO.go rfl ?_) | refine WD.gives hfew rfl rfl rfl rfl rfl rfl rfl rfl rfl (WD.go rfl ?_) | refine WO.draws hg rfl rfl rfl rfl rfl rfl rfl rfl rfl rfl rfl (WO.go rfl ?_) | refine WD.draws hg rfl rfl rfl rfl rfl rfl rfl rfl rfl rfl rfl rfl (WD.go rfl ?_) | refine WO.gives natP_W rfl rfl rfl rfl rfl rfl rfl rfl rfl (WO.go rfl ?_) | refine WD.gives natP_W rfl rfl rfl rfl rfl rfl rfl rfl rfl (WD.go rfl ?_) | refine WO.givesVT [0] hp (by decide) rfl rfl rfl rfl rfl rfl rfl rfl rfl rfl rfl rfl rfl (WO.go rfl ?_) | refine WO.append0 rfl rfl rfl rfl rfl rfl rfl rfl rfl (WO.go rfl ?_) | refine WO.appendF (by simp) (by exact lens_ok rfl) (by exact lens_ok rfl) (by first | decide | simp) (by first | decide | simp) rfl rfl rfl rfl rfl rfl rfl rfl rfl rfl (WO.go rfl ?_) | refine WO.appendI (by simp) (by exact lens_ok rfl) (by first | decide | simp) (by first | decide | simp) rfl rfl rfl rfl rfl rfl rfl rfl rfl rfl (WO.go rfl ?_) | refine W.loop ?_ | refine W.exit ?_)
        exact W.ret (.ret [_] rfl rfl)
    · obtain ⟨u, j3, hu, hu1, hu2, hu3, hu4, hu5⟩ := term_W (X := X) l (by omega) 3 (by omega) (by omega) 2 .nat g j2 (by omega) (by simp only [Y.size]; omega) hg4 (by omega) hj2
      simp only [rB] at hu4
      have hu3 : HT 133 g.reverse u .nat := hu3.mono (by omega)
      have hu5 : u.tyLe 64 := T.tyLe_mono hu5 (by omega)
      have hul : u.le 536870912 := T.le_mono (T.le_of_sc hu3.sc) (by simp; omega)
      have f3 : Fo.Ok 133 (.nat :: g.reverse) f := f3
      have hw : HT 133 (.nat :: g.reverse) w f.both.1 := hw
      have hc : HT 133 (.nat :: g.reverse) c f.both.2 := hc
      have hfl : f.le 536870912 := Fo.le_of_ok f3 (by simp; omega)
      have hwl : w.le 536870912 := T.le_mono (T.le_of_sc hw.sc) (by simp; omega)
      have hcl : c.le 536870912 := T.le_mono (T.le_of_sc hc.sc) (by simp; omega)
      have hm := formulaM_W (X := X) f w c 133 (.nat :: g.reverse) f1 f2 f3 hw hc f4 f5 w2 c2 w1 c1 (by simp; omega)
      have hM := @MR_M (Fo.bone f) f w c
      have hMo := Fo.M_ok (n := Fo.bone f) (Nat.le_refl _) f1 f3 hw hc
      have hMt := M_tyLe (k := 64) (n := Fo.bone f) (Nat.le_refl _) f1 f5 w2 c2
      have hMp := Fo.M_put (n := Fo.bone f) u 0 (w := w) (c := c) (Nat.le_refl _) f1
      have p2 := put07_W (X := X) f u f4 f5 (by omega) hu5 hfl hul
      have p3 := put03_W (X := X) w u w1 w2 (by omega) hu5 hwl hul
      have p4 := put03_W (X := X) c u c1 c2 (by omega) hu5 hcl hul
      have hfn : (Fo.put 0 u f).size ≤ 4096 → (T.put 0 u w).size ≤ 4096 → (T.put 0 u c).size ≤ 4096 → Gives (AC X) 72 [.agg (cF (Fo.put 0 u f)), .agg (cT (T.put 0 u w)), .agg (cT (T.put 0 u c))] (rMat (MR (Fo.bone f) (Fo.put 0 u f) (T.put 0 u w) (T.put 0 u c))) := fun h1 h2 h3 => by
        have := formulaM_W (X := X) (Fo.put 0 u f) (T.put 0 u w) (T.put 0 u c) 133 g.reverse (Fo.pure_put _ _ _ f1) (by rw [Fo.bothE_put]; exact f2) (Fo.Ok.put0 f3 hu3) (by rw [Fo.both_put]; exact HT.put (C := []) hw hu3) (by rw [Fo.both_put]; exact HT.put (C := []) hc hu3) h1 (Fo.tyLe_put hu5 f5 0) (T.tyLe_put hu5 w2 0) (T.tyLe_put hu5 c2 0) h2 h3 (by simp; omega)
        rw [Fo.bone_put] at this
        exact this
      have hM2 := @MR_M (Fo.bone f) (Fo.put 0 u f) (T.put 0 u w) (T.put 0 u c)
      revert hm hM
      generalize MR (Fo.bone f) f w c = RR
      intro hm hM
      cases RR with
      | none =>
        rcases g with _ | ⟨a, _ | ⟨b, _ | ⟨d, _ | ⟨e, g⟩⟩⟩⟩
        case cons.cons.cons.cons => simp at hg3
        all_goals
          refine givesW (fn := Tryz.f10) Tryz.func10 rfl rfl rfl ?_
          repeat (first | (refine WO.new hnew hst rfl rfl rfl rfl rfl rfl rfl rfl rfl (WO.go rfl ?_)) | refine W.condT rfl ?_ | refine W.condF rfl ?_ | refine W.seq ?_ | refine W.block ?_ | refine W.skip ?_ | refine WO.nil ?_ | refine WD.nil (WO.go rfl ?_) | refine W.region rfl (WO.go rfl ?_) | refine WO.gives haw rfl rfl rfl rfl rfl rfl rfl rfl rfl (WO.go rfl ?_) | refine WD.gives haw rfl rfl rfl rfl rfl rfl rfl rfl rfl (WD.go rfl ?_) | refine WO.gives hfew rfl rfl rfl rfl rfl rfl rfl rfl rfl (WO.go rfl ?_) | refine WD.gives hfew rfl rfl rfl rfl rfl rfl rfl rfl rfl (WD.go rfl ?_) | refine WO.draws hg rfl rfl rfl rfl rfl rfl rfl rfl rfl rfl rfl (WO.go rfl ?_) | refine WD.draws hg rfl rfl rfl rfl rfl rfl rfl rfl rfl rfl rfl rfl (WD.go rfl ?_) | refine WO.gives natP_W rfl rfl rfl rfl rfl rfl rfl rfl rfl (WO.go rfl ?_) | refine WD.gives natP_W rfl rfl rfl rfl rfl rfl rfl rfl rfl (WD.go rfl ?_) | refine WO.givesVT [0] hp (by decide) rfl rfl rfl rfl rfl rfl rfl rfl rfl rfl rfl rfl rfl (WO.go rfl ?_) | refine WO.draws hu rfl rfl rfl rfl rfl rfl rfl rfl rfl rfl rfl (WO.go rfl ?_) | refine WD.draws hu rfl rfl rfl rfl rfl rfl rfl rfl rfl rfl rfl rfl (WD.go rfl ?_) | refine WO.givesT hm rfl rfl rfl rfl rfl rfl rfl rfl rfl (WO.go rfl ?_) | refine WD.givesT hm rfl rfl rfl rfl rfl rfl rfl rfl rfl (WD.go rfl ?_) | refine WO.append0 rfl rfl rfl rfl rfl rfl rfl rfl rfl (WO.go rfl ?_) | refine WO.appendF (by simp) (by exact lens_ok rfl) (by exact lens_ok rfl) (by first | decide | simp) (by first | decide | simp) rfl rfl rfl rfl rfl rfl rfl rfl rfl rfl (WO.go rfl ?_) | refine WO.appendI (by simp) (by exact lens_ok rfl) (by first | decide | simp) (by first | decide | simp) rfl rfl rfl rfl rfl rfl rfl rfl rfl rfl (WO.go rfl ?_) | refine W.loop ?_ | refine W.exit ?_)
          exact W.ret (.ret [_] rfl rfl)
      | some m =>
        obtain ⟨em, hms⟩ := hM rfl
        have hms := hms f4
        rw [← em] at hMo hMt hMp
        have hml : m.le 536870912 := Fo.le_of_ok hMo (by simp; omega)
        have p1 := put07_W (X := X) m u hms hMt (by omega) hu5 hml hul
        have hsame := sameF_W (X := X) (Fo.put 0 u m)
        clear hMo hMt em
        revert hfn hM2
        generalize MR (Fo.bone f) (Fo.put 0 u f) (T.put 0 u w) (T.put 0 u c) = R2
        intro hfn hM2
        simp only [rPut] at p1 p2
        simp only [rPutT] at p3 p4
        rcases g with _ | ⟨a, _ | ⟨b, _ | ⟨d, _ | ⟨e, g⟩⟩⟩⟩
        case cons.cons.cons.cons => simp at hg3
        all_goals
          refine givesW (fn := Tryz.f10) Tryz.func10 rfl rfl rfl ?_
          repeat (first | (refine WO.new hnew hst rfl rfl rfl rfl rfl rfl rfl rfl rfl (WO.go rfl ?_)) | refine W.condT rfl ?_ | refine W.condF rfl ?_ | refine W.seq ?_ | refine W.block ?_ | refine W.skip ?_ | refine WO.nil ?_ | refine WD.nil (WO.go rfl ?_) | refine W.region rfl (WO.go rfl ?_) | refine WO.gives haw rfl rfl rfl rfl rfl rfl rfl rfl rfl (WO.go rfl ?_) | refine WD.gives haw rfl rfl rfl rfl rfl rfl rfl rfl rfl (WD.go rfl ?_) | refine WO.gives hfew rfl rfl rfl rfl rfl rfl rfl rfl rfl (WO.go rfl ?_) | refine WD.gives hfew rfl rfl rfl rfl rfl rfl rfl rfl rfl (WD.go rfl ?_) | refine WO.draws hg rfl rfl rfl rfl rfl rfl rfl rfl rfl rfl rfl (WO.go rfl ?_) | refine WD.draws hg rfl rfl rfl rfl rfl rfl rfl rfl rfl rfl rfl rfl (WD.go rfl ?_) | refine WO.gives natP_W rfl rfl rfl rfl rfl rfl rfl rfl rfl (WO.go rfl ?_) | refine WD.gives natP_W rfl rfl rfl rfl rfl rfl rfl rfl rfl (WD.go rfl ?_) | refine WO.givesVT [0] hp (by decide) rfl rfl rfl rfl rfl rfl rfl rfl rfl rfl rfl rfl rfl (WO.go rfl ?_) | refine WO.draws hu rfl rfl rfl rfl rfl rfl rfl rfl rfl rfl rfl (WO.go rfl ?_) | refine WD.draws hu rfl rfl rfl rfl rfl rfl rfl rfl rfl rfl rfl rfl (WD.go rfl ?_) | refine WO.givesT hm rfl rfl rfl rfl rfl rfl rfl rfl rfl (WO.go rfl ?_) | refine WD.givesT hm rfl rfl rfl rfl rfl rfl rfl rfl rfl (WD.go rfl ?_) | refine WO.append0 rfl rfl rfl rfl rfl rfl rfl rfl rfl (WO.go rfl ?_) | refine WO.appendF (by simp) (by exact lens_ok rfl) (by exact lens_ok rfl) (by first | decide | simp) (by first | decide | simp) rfl rfl rfl rfl rfl rfl rfl rfl rfl rfl (WO.go rfl ?_) | refine WO.appendI (by simp) (by exact lens_ok rfl) (by first | decide | simp) (by first | decide | simp) rfl rfl rfl rfl rfl rfl rfl rfl rfl rfl (WO.go rfl ?_) | refine W.loop ?_ | refine W.exit ?_)
          by_cases s1 : (Fo.put 0 u m).size ≤ 4096
          · rw [if_pos s1] at p1
            by_cases s2 : (Fo.put 0 u f).size ≤ 4096
            · rw [if_pos s2] at p2
              by_cases s3 : (T.put 0 u w).size ≤ 4096
              · rw [if_pos s3] at p3
                by_cases s4 : (T.put 0 u c).size ≤ 4096
                · rw [if_pos s4] at p4
                  have hfn := hfn s2 s3 s4
                  cases R2 with
                  | none =>
                    repeat (first | refine W.condT rfl ?_ | refine W.condF rfl ?_ | refine W.seq ?_ | refine W.block ?_ | refine W.skip ?_ | refine WO.nil ?_ | refine WD.nil (WO.go rfl ?_) | refine W.region rfl (WO.go rfl ?_) | refine WO.givesT p1 rfl rfl rfl rfl rfl rfl rfl rfl rfl (WO.go rfl ?_) | refine WD.givesT p1 rfl rfl rfl rfl rfl rfl rfl rfl rfl (WD.go rfl ?_) | refine WO.givesT p2 rfl rfl rfl rfl rfl rfl rfl rfl rfl (WO.go rfl ?_) | refine WD.givesT p2 rfl rfl rfl rfl rfl rfl rfl rfl rfl (WD.go rfl ?_) | refine WO.givesT p3 rfl rfl rfl rfl rfl rfl rfl rfl rfl (WO.go rfl ?_) | refine WD.givesT p3 rfl rfl rfl rfl rfl rfl rfl rfl rfl (WD.go rfl ?_) | refine WO.givesT p4 rfl rfl rfl rfl rfl rfl rfl rfl rfl (WO.go rfl ?_) | refine WD.givesT p4 rfl rfl rfl rfl rfl rfl rfl rfl rfl (WD.go rfl ?_) | refine WO.givesT hfn rfl rfl rfl rfl rfl rfl rfl rfl rfl (WO.go rfl ?_) | refine WD.givesT hfn rfl rfl rfl rfl rfl rfl rfl rfl rfl (WD.go rfl ?_) | refine WO.append0 rfl rfl rfl rfl rfl rfl rfl rfl rfl (WO.go rfl ?_) | refine WO.appendF (by simp) (by exact lens_ok rfl) (by exact lens_ok rfl) (by first | decide | simp) (by first | decide | simp) rfl rfl rfl rfl rfl rfl rfl rfl rfl rfl (WO.go rfl ?_) | refine WO.appendI (by simp) (by exact lens_ok rfl) (by first | decide | simp) (by first | decide | simp) rfl rfl rfl rfl rfl rfl rfl rfl rfl rfl (WO.go rfl ?_) | refine W.loop ?_ | refine W.exit ?_)
                    exact W.ret (.ret [_] rfl rfl)
                  | some y =>
                    have hy : y = Fo.put 0 u m := by rw [hMp]; exact (hM2 rfl).1
                    subst hy
                    repeat (first | refine W.condT rfl ?_ | refine W.condF rfl ?_ | refine W.seq ?_ | refine W.block ?_ | refine W.skip ?_ | refine WO.nil ?_ | refine WD.nil (WO.go rfl ?_) | refine W.region rfl (WO.go rfl ?_) | refine WO.givesT p1 rfl rfl rfl rfl rfl rfl rfl rfl rfl (WO.go rfl ?_) | refine WD.givesT p1 rfl rfl rfl rfl rfl rfl rfl rfl rfl (WD.go rfl ?_) | refine WO.givesT p2 rfl rfl rfl rfl rfl rfl rfl rfl rfl (WO.go rfl ?_) | refine WD.givesT p2 rfl rfl rfl rfl rfl rfl rfl rfl rfl (WD.go rfl ?_) | refine WO.givesT p3 rfl rfl rfl rfl rfl rfl rfl rfl rfl (WO.go rfl ?_) | refine WD.givesT p3 rfl rfl rfl rfl rfl rfl rfl rfl rfl (WD.go rfl ?_) | refine WO.givesT p4 rfl rfl rfl rfl rfl rfl rfl rfl rfl (WO.go rfl ?_) | refine WD.givesT p4 rfl rfl rfl rfl rfl rfl rfl rfl rfl (WD.go rfl ?_) | refine WO.givesT hfn rfl rfl rfl rfl rfl rfl rfl rfl rfl (WO.go rfl ?_) | refine WD.givesT hfn rfl rfl rfl rfl rfl rfl rfl rfl rfl (WD.go rfl ?_) | refine WO.gives hsame rfl rfl rfl rfl rfl rfl rfl rfl rfl (WO.go rfl ?_) | refine WD.gives hsame rfl rfl rfl rfl rfl rfl rfl rfl rfl (WD.go rfl ?_) | refine WO.append0 rfl rfl rfl rfl rfl rfl rfl rfl rfl (WO.go rfl ?_) | refine WO.appendF (by simp) (by exact lens_ok rfl) (by exact lens_ok rfl) (by first | decide | simp) (by first | decide | simp) rfl rfl rfl rfl rfl rfl rfl rfl rfl rfl (WO.go rfl ?_) | refine WO.appendI (by simp) (by exact lens_ok rfl) (by first | decide | simp) (by first | decide | simp) rfl rfl rfl rfl rfl rfl rfl rfl rfl rfl (WO.go rfl ?_) | refine W.loop ?_ | refine W.exit ?_)
                    exact W.ret (.ret [_] rfl rfl)
                · rw [if_neg s4] at p4
                  repeat (first | refine W.condT rfl ?_ | refine W.condF rfl ?_ | refine W.seq ?_ | refine W.block ?_ | refine W.skip ?_ | refine WO.nil ?_ | refine WD.nil (WO.go rfl ?_) | refine W.region rfl (WO.go rfl ?_) | refine WO.givesT p1 rfl rfl rfl rfl rfl rfl rfl rfl rfl (WO.go rfl ?_) | refine WD.givesT p1 rfl rfl rfl rfl rfl rfl rfl rfl rfl (WD.go rfl ?_) | refine WO.givesT p2 rfl rfl rfl rfl rfl rfl rfl rfl rfl (WO.go rfl ?_) | refine WD.givesT p2 rfl rfl rfl rfl rfl rfl rfl rfl rfl (WD.go rfl ?_) | refine WO.givesT p3 rfl rfl rfl rfl rfl rfl rfl rfl rfl (WO.go rfl ?_) | refine WD.givesT p3 rfl rfl rfl rfl rfl rfl rfl rfl rfl (WD.go rfl ?_) | refine WO.givesT p4 rfl rfl rfl rfl rfl rfl rfl rfl rfl (WO.go rfl ?_) | refine WD.givesT p4 rfl rfl rfl rfl rfl rfl rfl rfl rfl (WD.go rfl ?_) | refine WO.append0 rfl rfl rfl rfl rfl rfl rfl rfl rfl (WO.go rfl ?_) | refine WO.appendF (by simp) (by exact lens_ok rfl) (by exact lens_ok rfl) (by first | decide | simp) (by first | decide | simp) rfl rfl rfl rfl rfl rfl rfl rfl rfl rfl (WO.go rfl ?_) | refine WO.appendI (by simp) (by exact lens_ok rfl) (by first | decide | simp) (by first | decide | simp) rfl rfl rfl rfl rfl rfl rfl rfl rfl rfl (WO.go rfl ?_) | refine W.loop ?_ | refine W.exit ?_)
                  exact W.ret (.ret [_] rfl rfl)
              · rw [if_neg s3] at p3
                by_cases s4 : (T.put 0 u c).size ≤ 4096 <;> simp only [s4, if_true, if_false] at p4 <;>
                · repeat (first | refine W.condT rfl ?_ | refine W.condF rfl ?_ | refine W.seq ?_ | refine W.block ?_ | refine W.skip ?_ | refine WO.nil ?_ | refine WD.nil (WO.go rfl ?_) | refine W.region rfl (WO.go rfl ?_) | refine WO.givesT p1 rfl rfl rfl rfl rfl rfl rfl rfl rfl (WO.go rfl ?_) | refine WD.givesT p1 rfl rfl rfl rfl rfl rfl rfl rfl rfl (WD.go rfl ?_) | refine WO.givesT p2 rfl rfl rfl rfl rfl rfl rfl rfl rfl (WO.go rfl ?_) | refine WD.givesT p2 rfl rfl rfl rfl rfl rfl rfl rfl rfl (WD.go rfl ?_) | refine WO.givesT p3 rfl rfl rfl rfl rfl rfl rfl rfl rfl (WO.go rfl ?_) | refine WD.givesT p3 rfl rfl rfl rfl rfl rfl rfl rfl rfl (WD.go rfl ?_) | refine WO.givesT p4 rfl rfl rfl rfl rfl rfl rfl rfl rfl (WO.go rfl ?_) | refine WD.givesT p4 rfl rfl rfl rfl rfl rfl rfl rfl rfl (WD.go rfl ?_) | refine WO.append0 rfl rfl rfl rfl rfl rfl rfl rfl rfl (WO.go rfl ?_) | refine WO.appendF (by simp) (by exact lens_ok rfl) (by exact lens_ok rfl) (by first | decide | simp) (by first | decide | simp) rfl rfl rfl rfl rfl rfl rfl rfl rfl rfl (WO.go rfl ?_) | refine WO.appendI (by simp) (by exact lens_ok rfl) (by first | decide | simp) (by first | decide | simp) rfl rfl rfl rfl rfl rfl rfl rfl rfl rfl (WO.go rfl ?_) | refine W.loop ?_ | refine W.exit ?_)
                  exact W.ret (.ret [_] rfl rfl)
            · rw [if_neg s2] at p2
              by_cases s3 : (T.put 0 u w).size ≤ 4096 <;> simp only [s3, if_true, if_false] at p3 <;>
              by_cases s4 : (T.put 0 u c).size ≤ 4096 <;> simp only [s4, if_true, if_false] at p4 <;>
              · repeat (first | refine W.condT rfl ?_ | refine W.condF rfl ?_ | refine W.seq ?_ | refine W.block ?_ | refine W.skip ?_ | refine WO.nil ?_ | refine WD.nil (WO.go rfl ?_) | refine W.region rfl (WO.go rfl ?_) | refine WO.givesT p1 rfl rfl rfl rfl rfl rfl rfl rfl rfl (WO.go rfl ?_) | refine WD.givesT p1 rfl rfl rfl rfl rfl rfl rfl rfl rfl (WD.go rfl ?_) | refine WO.givesT p2 rfl rfl rfl rfl rfl rfl rfl rfl rfl (WO.go rfl ?_) | refine WD.givesT p2 rfl rfl rfl rfl rfl rfl rfl rfl rfl (WD.go rfl ?_) | refine WO.givesT p3 rfl rfl rfl rfl rfl rfl rfl rfl rfl (WO.go rfl ?_) | refine WD.givesT p3 rfl rfl rfl rfl rfl rfl rfl rfl rfl (WD.go rfl ?_) | refine WO.givesT p4 rfl rfl rfl rfl rfl rfl rfl rfl rfl (WO.go rfl ?_) | refine WD.givesT p4 rfl rfl rfl rfl rfl rfl rfl rfl rfl (WD.go rfl ?_) | refine WO.append0 rfl rfl rfl rfl rfl rfl rfl rfl rfl (WO.go rfl ?_) | refine WO.appendF (by simp) (by exact lens_ok rfl) (by exact lens_ok rfl) (by first | decide | simp) (by first | decide | simp) rfl rfl rfl rfl rfl rfl rfl rfl rfl rfl (WO.go rfl ?_) | refine WO.appendI (by simp) (by exact lens_ok rfl) (by first | decide | simp) (by first | decide | simp) rfl rfl rfl rfl rfl rfl rfl rfl rfl rfl (WO.go rfl ?_) | refine W.loop ?_ | refine W.exit ?_)
                exact W.ret (.ret [_] rfl rfl)
          · rw [if_neg s1] at p1
            by_cases s2 : (Fo.put 0 u f).size ≤ 4096 <;> simp only [s2, if_true, if_false] at p2 <;>
            by_cases s3 : (T.put 0 u w).size ≤ 4096 <;> simp only [s3, if_true, if_false] at p3 <;>
            by_cases s4 : (T.put 0 u c).size ≤ 4096 <;> simp only [s4, if_true, if_false] at p4 <;>
            · repeat (first | refine W.condT rfl ?_ | refine W.condF rfl ?_ | refine W.seq ?_ | refine W.block ?_ | refine W.skip ?_ | refine WO.nil ?_ | refine WD.nil (WO.go rfl ?_) | refine W.region rfl (WO.go rfl ?_) | refine WO.givesT p1 rfl rfl rfl rfl rfl rfl rfl rfl rfl (WO.go rfl ?_) | refine WD.givesT p1 rfl rfl rfl rfl rfl rfl rfl rfl rfl (WD.go rfl ?_) | refine WO.givesT p2 rfl rfl rfl rfl rfl rfl rfl rfl rfl (WO.go rfl ?_) | refine WD.givesT p2 rfl rfl rfl rfl rfl rfl rfl rfl rfl (WD.go rfl ?_) | refine WO.givesT p3 rfl rfl rfl rfl rfl rfl rfl rfl rfl (WO.go rfl ?_) | refine WD.givesT p3 rfl rfl rfl rfl rfl rfl rfl rfl rfl (WD.go rfl ?_) | refine WO.givesT p4 rfl rfl rfl rfl rfl rfl rfl rfl rfl (WO.go rfl ?_) | refine WD.givesT p4 rfl rfl rfl rfl rfl rfl rfl rfl rfl (WD.go rfl ?_) | refine WO.append0 rfl rfl rfl rfl rfl rfl rfl rfl rfl (WO.go rfl ?_) | refine WO.appendF (by simp) (by exact lens_ok rfl) (by exact lens_ok rfl) (by first | decide | simp) (by first | decide | simp) rfl rfl rfl rfl rfl rfl rfl rfl rfl rfl (WO.go rfl ?_) | refine WO.appendI (by simp) (by exact lens_ok rfl) (by first | decide | simp) (by first | decide | simp) rfl rfl rfl rfl rfl rfl rfl rfl rfl rfl (WO.go rfl ?_) | refine W.loop ?_ | refine W.exit ?_)
              exact W.ret (.ret [_] rfl rfl)
  · rw [decide_eq_false (show ¬ (l.length : Int) ≤ 500 by omega)] at hfew
    refine givesW (fn := Tryz.f10) Tryz.func10 rfl rfl rfl ?_
    repeat (first | refine W.condT rfl ?_ | refine W.condF rfl ?_ | refine W.seq ?_ | refine W.block ?_ | refine W.skip ?_ | refine WO.nil ?_ | refine WD.nil (WO.go rfl ?_) | refine W.region rfl (WO.go rfl ?_) | refine WO.gives haw rfl rfl rfl rfl rfl rfl rfl rfl rfl (WO.go rfl ?_) | refine WD.gives haw rfl rfl rfl rfl rfl rfl rfl rfl rfl (WD.go rfl ?_) | refine WO.gives hfew rfl rfl rfl rfl rfl rfl rfl rfl rfl (WO.go rfl ?_) | refine WD.gives hfew rfl rfl rfl rfl rfl rfl rfl rfl rfl (WD.go rfl ?_) | refine WO.append0 rfl rfl rfl rfl rfl rfl rfl rfl rfl (WO.go rfl ?_) | refine WO.appendF (by simp) (by exact lens_ok rfl) (by exact lens_ok rfl) (by first | decide | simp) (by first | decide | simp) rfl rfl rfl rfl rfl rfl rfl rfl rfl rfl (WO.go rfl ?_) | refine WO.appendI (by simp) (by exact lens_ok rfl) (by first | decide | simp) (by first | decide | simp) rfl rfl rfl rfl rfl rfl rfl rfl rfl rfl (WO.go rfl ?_) | refine W.loop ?_ | refine W.exit ?_)
    exact W.ret (.ret [_] rfl rfl)
end Go.Proofs.YtjdlmhbkfammlabGreatDoor
