/- A part of the proof: the shadow of the machine. -/
import Derived.Orders
import Derived.Laws.Cells
import Derived.Laws.CopyRow
import Derived.Maps.AppendAt
import Derived.Below
import Derived.KernelRfl
/-! A shadow of the machine: values are trees. -/
namespace Go.Sh
set_option linter.unusedVariables false
set_option linter.unusedSimpArgs false

inductive Own where
  | no
  | full
  | id (n : Nat) (e : TypeId)

inductive AV where
  | int (k : IntKind) (n : Int)
  | bool (b : Bool)
  | sl (o : Own) (rows : List (List AV))
  | agg (cs : List AV)
  | vp (v off : Nat)
  | ep (row : List AV)
  | fn (f : FuncId) (caps : List AV)
  | tup (vs : List AV)
  | bad

/-- a cell, without what is known of its slice's room -/
def AV.cl : AV → AV
  | .sl _ rows => .sl .no rows
  | v => v
def AV.st : AV → AV
  | .sl _ rows => .sl .no rows
  | .agg cs => .agg (cs.map AV.cl)
  | v => v
def AV.pl : AV → AV
  | .sl _ rows => .sl .no rows
  | .agg cs => .agg (cs.map AV.cl)
  | .vp _ _ => .bad
  | .fn _ _ => .bad
  | .tup _ => .bad
  | v => v
/-- as pl, but it's kept that a slice has no room left -/
def AV.kf : AV → AV
  | .sl (.id _ _) rows => .sl .no rows
  | .sl .full rows => .sl .full rows
  | .sl .no rows => .sl .no rows
  | .agg cs => .agg (cs.map AV.cl)
  | .vp _ _ => .bad
  | .fn _ _ => .bad
  | .tup _ => .bad
  | v => v
def AV.cells : AV → List AV
  | .agg cs => cs
  | v => [v]
/-- a constant's shadow -/
def absz : Value → AV
  | .int k n => .int k n
  | .bool b => .bool b
  | .slice none 0 0 => .sl .full []
  | _ => .bad

/-- what is known of cells that stay as they are -/
abbrev Cm := Nat → Nat → Option Value

/-- values without variables' addresses -/
inductive Rep0 (C : Cm) : AV → Value → Prop
  | int (k : IntKind) (n : Int) : Rep0 C (.int k n) (.int k n)
  | bool (b : Bool) : Rep0 C (.bool b) (.bool b)
  | nil (o : Own) (a : Option Addr) (cap : Nat) (h : o = .full → cap = 0) (h2 : ∀ x, a = some x → True) : Rep0 C (.sl o []) (.slice a 0 cap)
  | sl (o : Own) (rows : List (List AV)) (b off cap L : Nat) (us : Nat → Nat → Value) (hcap : rows.length ≤ cap) (hm : cap ≤ maxLen) (hf : o = .full → cap = rows.length)
      (hc : ∀ i row, rows[i]? = some row → row.length = L ∧ ∀ j, j < L → C b (off + i * L + j) = some (us i j))
      (hr : ∀ i row j x, rows[i]? = some row → row[j]? = some x → Rep0 C x (us i j)) : Rep0 C (.sl o rows) (.slice (some ⟨b, off, none⟩) rows.length cap)
  | agg (cs : List AV) (us : Array Value) (hl : us.size = cs.length) (h1 : ∀ j, j < us.size → (us.getD j undef).oneCell' = true) (hr : ∀ j x, cs[j]? = some x → Rep0 C x (us.getD j undef)) : Rep0 C (.agg cs) (.agg us)
  | ep (row : List AV) (b off : Nat) (us : Nat → Value) (hc : ∀ j, j < row.length → C b (off + j) = some (us j)) (hr : ∀ j x, row[j]? = some x → Rep0 C x (us j)) : Rep0 C (.ep row) (.pointer (some ⟨b, off, none⟩))
  | bad (v : Value) : Rep0 C .bad v

inductive RepT (ρ : Nat → Option Nat) (C : Cm) : AV → Value → Prop
  | v0 {av : AV} {v : Value} (h : Rep0 C av v) : RepT ρ C av v
  | vp {v off b : Nat} (h : ρ v = some b) : RepT ρ C (.vp v off) (.pointer (some ⟨b, off, none⟩))
  | fn {f : FuncId} {caps : List AV} (us : Array Value) (hl : us.size = caps.length) (hr : ∀ j x, caps[j]? = some x → RepT ρ C x (us.getD j undef)) : RepT ρ C (.fn f caps) (.func (.func f) #[] us)
  | tup {vs : List AV} (us : Array Value) (hl : us.size = vs.length) (hr : ∀ j x, vs[j]? = some x → RepT ρ C x (us.getD j undef)) : RepT ρ C (.tup vs) (.tuple us)

section
variable {ρ ρ' : Nat → Option Nat} {C C' : Cm}
theorem Rep0.mono (hC : ∀ b o u, C b o = some u → C' b o = some u) {av : AV} {v : Value} (h : Rep0 C av v) : Rep0 C' av v := by
  induction h with
  | int k n => exact .int k n
  | bool b => exact .bool b
  | nil o a cap h h2 => exact .nil o a cap h h2
  | sl o rows b off cap L us hcap hm hf hc hr ih =>
    exact .sl o rows b off cap L us hcap hm hf (fun i row h => ⟨(hc i row h).1, fun j hj => hC _ _ _ ((hc i row h).2 j hj)⟩) ih
  | agg cs us hl h1 hr ih => exact .agg cs us hl h1 ih
  | ep row b off us hc hr ih => exact .ep row b off us (fun j hj => hC _ _ _ (hc j hj)) ih
  | bad v => exact .bad v
theorem RepT.mono (hC : ∀ b o u, C b o = some u → C' b o = some u) (hρ : ∀ v b, ρ v = some b → ρ' v = some b) {av : AV} {v : Value} (h : RepT ρ C av v) : RepT ρ' C' av v := by
  induction h with
  | v0 h => exact .v0 (h.mono hC)
  | vp h => exact .vp (hρ _ _ h)
  | fn us hl hr ih => exact .fn us hl ih
  | tup us hl hr ih => exact .tup us hl ih
theorem Rep0.cl {av : AV} {v : Value} (h : Rep0 C av v) : Rep0 C av.cl v := by
  cases h with
  | nil o a cap h h2 => exact .nil .no a cap (fun h => by cases h) h2
  | sl o rows b off cap L us hcap hm hf hc hr => exact .sl .no rows b off cap L us hcap hm (fun h => by cases h) hc hr
  | int k n => exact .int k n
  | bool b => exact .bool b
  | agg cs us hl h1 hr => exact .agg cs us hl h1 hr
  | ep row b off us hc hr => exact .ep row b off us hc hr
  | bad v => exact .bad v
theorem Rep0.agg_cl {cs : List AV} {us : Array Value} (hl : us.size = cs.length) (h1 : ∀ j, j < us.size → (us.getD j undef).oneCell' = true) (hr : ∀ j x, cs[j]? = some x → Rep0 C x (us.getD j undef)) : Rep0 C (.agg (cs.map AV.cl)) (.agg us) := by
  refine .agg _ us (by simpa using hl) h1 (fun j x hx => ?_)
  simp only [List.getElem?_map, Option.map_eq_some_iff] at hx
  obtain ⟨y, hy, rfl⟩ := hx
  exact (hr j y hy).cl
theorem Rep0.st {av : AV} {v : Value} (h : Rep0 C av v) : Rep0 C av.st v := by
  cases h with
  | nil o a cap h h2 => exact .nil .no a cap (fun h => by cases h) h2
  | sl o rows b off cap L us hcap hm hf hc hr => exact .sl .no rows b off cap L us hcap hm (fun h => by cases h) hc hr
  | int k n => exact .int k n
  | bool b => exact .bool b
  | agg cs us hl h1 hr => exact agg_cl hl h1 hr
  | ep row b off us hc hr => exact .ep row b off us hc hr
  | bad v => exact .bad v
theorem RepT.st {av : AV} {v : Value} (h : RepT ρ C av v) : RepT ρ C av.st v := by
  cases h with
  | v0 h => exact .v0 h.st
  | vp h => exact .vp h
  | fn us hl hr => exact .fn us hl hr
  | tup us hl hr => exact .tup us hl hr
theorem Rep0.pl {av : AV} {v : Value} (h : Rep0 C av v) : Rep0 C av.pl v := by
  cases h with
  | nil o a cap h h2 => exact .nil .no a cap (fun h => by cases h) h2
  | sl o rows b off cap L us hcap hm hf hc hr => exact .sl .no rows b off cap L us hcap hm (fun h => by cases h) hc hr
  | int k n => exact .int k n
  | bool b => exact .bool b
  | agg cs us hl h1 hr => exact agg_cl hl h1 hr
  | ep row b off us hc hr => exact .ep row b off us hc hr
  | bad v => exact .bad v
theorem RepT.pl {av : AV} {v : Value} (h : RepT ρ C av v) : Rep0 C av.pl v := by
  cases h with
  | v0 h => exact h.pl
  | _ => exact .bad _
theorem Rep0.kf {av : AV} {v : Value} (h : Rep0 C av v) : Rep0 C av.kf v := by
  cases h with
  | nil o a cap h h2 =>
    cases o with
    | id n e => exact .nil .no a cap (fun h => by cases h) h2
    | full => exact .nil .full a cap h h2
    | no => exact .nil .no a cap h h2
  | sl o rows b off cap L us hcap hm hf hc hr =>
    cases o with
    | id n e => exact .sl .no rows b off cap L us hcap hm (fun h => by cases h) hc hr
    | full => exact .sl .full rows b off cap L us hcap hm hf hc hr
    | no => exact .sl .no rows b off cap L us hcap hm hf hc hr
  | int k n => exact .int k n
  | bool b => exact .bool b
  | agg cs us hl h1 hr => exact agg_cl hl h1 hr
  | ep row b off us hc hr => exact .ep row b off us hc hr
  | bad v => exact .bad v
theorem RepT.kf {av : AV} {v : Value} (h : RepT ρ C av v) : Rep0 C av.kf v := by
  cases h with
  | v0 h => exact h.kf
  | _ => exact .bad _
theorem kf_id {x : AV} {n : Nat} {e : TypeId} {rows : List (List AV)} : x.kf ≠ .sl (.id n e) rows := by
  cases x with
  | sl o r => cases o <;> simp [AV.kf]
  | _ => simp [AV.kf]
theorem Rep0.absz (v : Value) : Rep0 C (absz v) v := by
  cases v with
  | int k n => exact .int k n
  | bool b => exact .bool b
  | slice a l c =>
    cases a with
    | some a => exact .bad _
    | none =>
      cases l with
      | succ l => exact .bad _
      | zero =>
        cases c with
        | succ c => exact .bad _
        | zero => exact .nil .full none 0 (fun _ => rfl) (fun _ _ => trivial)
  | _ => exact .bad _
/-- what an own mark of a slice matters for its reading -/
theorem Rep0.own {o : Own} {rows : List (List AV)} {v : Value} (h : Rep0 C (.sl o rows) v) : Rep0 C (.sl .no rows) v := h.st
theorem RepT.sl0 {o : Own} {rows : List (List AV)} {v : Value} (h : RepT ρ C (.sl o rows) v) : Rep0 C (.sl o rows) v := by cases h with | v0 h => exact h
theorem RepT.int0 {k : IntKind} {n : Int} {v : Value} (h : RepT ρ C (.int k n) v) : v = .int k n := by cases h with | v0 h => cases h; rfl
theorem RepT.bool0 {b : Bool} {v : Value} (h : RepT ρ C (.bool b) v) : v = .bool b := by cases h with | v0 h => cases h; rfl
theorem RepT.agg0 {cs : List AV} {v : Value} (h : RepT ρ C (.agg cs) v) : Rep0 C (.agg cs) v := by cases h with | v0 h => exact h
theorem RepT.ep0 {row : List AV} {v : Value} (h : RepT ρ C (.ep row) v) : Rep0 C (.ep row) v := by cases h with | v0 h => exact h
theorem RepT.vp0 {i off : Nat} {v : Value} (h : RepT ρ C (.vp i off) v) : ∃ b, ρ i = some b ∧ v = .pointer (some ⟨b, off, none⟩) := by
  cases h with
  | v0 h => cases h
  | vp h => exact ⟨_, h, rfl⟩
/-- the length of what a slice reads as -/
theorem Rep0.len {o : Own} {rows : List (List AV)} {v : Value} (h : Rep0 C (.sl o rows) v) : ∃ a cap, v = .slice a rows.length cap ∧ rows.length ≤ cap := by
  cases h with
  | nil o a cap h h2 => exact ⟨a, cap, rfl, Nat.zero_le _⟩
  | sl o rows b off cap L us hcap hm hf hc hr => exact ⟨_, cap, rfl, hcap⟩
end

theorem add_eq (b o n : Nat) : (⟨b, o, none⟩ : Addr).add n = ⟨b, o + n, none⟩ := by
  unfold Addr.add
  split
  · rename_i h; subst h; rfl
  · rfl

/-! the types' table -/
structure TI where
  size : Nat
  bytes : Nat
  agg : Bool
  zero : List AV
  elem : Option TypeId
  arr : Option (Nat × TypeId)
  flds : List (TypeId × Nat)
  int : Option IntKind
  isBool : Bool
def TI.desc (d : TypeDesc) (size bytes : Nat) (zero : List AV) : TI :=
  match d with
  | .struct fs => ⟨size, bytes, true, zero, none, none, fs.toList.map (fun f => (f.type, f.offset)), none, false⟩
  | .array n e => ⟨size, bytes, true, zero, none, some (n, e), [], none, false⟩
  | .slice e => ⟨size, bytes, false, zero, some e, none, [], none, false⟩
  | .int k => ⟨size, bytes, false, zero, none, none, [], some k, false⟩
  | .bool => ⟨size, bytes, false, zero, none, none, [], none, true⟩
  | _ => ⟨size, bytes, false, zero, none, none, [], none, false⟩
def TI.of (P : Program) (t : TypeId) : Option TI :=
  match P.info? t, P.underlying t with
  | some i, some d => match i.zero with
    | some z => if z.cells.size = i.size ∧ z.cells.all Value.oneCell' = true then some (TI.desc d i.size i.bytes (z.cells.toList.map absz)) else none
    | none => none
  | _, _ => none
theorem TI.of_some {P : Program} {t : TypeId} {ti : TI} (h : TI.of P t = some ti) :
    ∃ i d z, P.info? t = some i ∧ P.underlying t = some d ∧ i.zero = some z ∧ (z.cells.size = i.size ∧ ∀ j, j < z.cells.size → (z.cells.getD j undef).oneCell' = true) ∧ ti = TI.desc d i.size i.bytes (z.cells.toList.map absz) := by
  unfold TI.of at h
  split at h
  · rename_i i d hi hd
    split at h
    · rename_i z hz
      split at h
      · rename_i hs
        refine ⟨i, d, z, hi, hd, hz, ⟨hs.1, fun j hj => ?_⟩, (Option.some.inj h).symm⟩
        have := Array.all_eq_true_iff_forall_mem.1 hs.2 z.cells[j] (Array.getElem_mem hj)
        simpa [Array.getD, hj] using this
      · exact absurd h (by simp)
    · exact absurd h (by simp)
  · exact absurd h (by simp)
theorem TI.desc_size (d : TypeDesc) (s b : Nat) (z : List AV) : (TI.desc d s b z).size = s := by cases d <;> rfl
theorem TI.desc_bytes (d : TypeDesc) (s b : Nat) (z : List AV) : (TI.desc d s b z).bytes = b := by cases d <;> rfl
theorem TI.desc_zero (d : TypeDesc) (s b : Nat) (z : List AV) : (TI.desc d s b z).zero = z := by cases d <;> rfl
theorem TI.desc_elem {d : TypeDesc} {s b : Nat} {z : List AV} {e : TypeId} (h : (TI.desc d s b z).elem = some e) : d = .slice e := by
  cases d <;> simp_all [TI.desc]
theorem TI.desc_arr {d : TypeDesc} {s b : Nat} {z : List AV} {n : Nat} {e : TypeId} (h : (TI.desc d s b z).arr = some (n, e)) : d = .array n e := by
  cases d <;> simp_all [TI.desc]
theorem TI.desc_int {d : TypeDesc} {s b : Nat} {z : List AV} {k : IntKind} (h : (TI.desc d s b z).int = some k) : d = .int k := by
  cases d <;> simp_all [TI.desc]
theorem TI.desc_bool {d : TypeDesc} {s b : Nat} {z : List AV} (h : (TI.desc d s b z).isBool = true) : d = .bool := by
  cases d <;> simp_all [TI.desc]
theorem TI.desc_fld {d : TypeDesc} {s b : Nat} {z : List AV} {f : Nat} {x : TypeId × Nat} (h : (TI.desc d s b z).flds[f]? = some x) : ∃ fs, d = .struct fs ∧ ∃ g, fs[f]? = some g ∧ g.type = x.1 ∧ g.offset = x.2 := by
  cases d with
  | struct fs =>
    refine ⟨fs, rfl, ?_⟩
    simp only [TI.desc, List.getElem?_map, Array.getElem?_toList] at h
    cases hg : fs[f]? with
    | none => rw [hg] at h; exact absurd h (by simp)
    | some g => rw [hg] at h; injection h with h; exact ⟨g, rfl, by rw [← h], by rw [← h]⟩
  | _ => exact absurd h (by simp [TI.desc])
section
variable {P : Program} {t : TypeId} {ti : TI}
theorem TI.sizeOf (h : TI.of P t = some ti) (w : World) : (Go.sizeOf t).run P w = .ok ti.size w := by
  obtain ⟨i, d, z, hi, hd, hz, hs, rfl⟩ := TI.of_some h
  rw [TI.desc_size]
  simp [Go.sizeOf, typeInfo, hi]
theorem TI.isAgg (h : TI.of P t = some ti) (w : World) : (Go.isAgg t).run P w = .ok ti.agg w := by
  obtain ⟨i, d, z, hi, hd, hz, hs, rfl⟩ := TI.of_some h
  simp only [Go.isAgg, Sem.run_bind, run_underlying hd, Result.andThen_ok]
  cases d <;> rfl
theorem TI.und (h : TI.of P t = some ti) : ∃ i d z, P.info? t = some i ∧ P.underlying t = some d ∧ i.zero = some z ∧ (z.cells.size = i.size ∧ ∀ j, j < z.cells.size → (z.cells.getD j undef).oneCell' = true) ∧ ti = TI.desc d i.size i.bytes (z.cells.toList.map absz) := TI.of_some h
end
end Go.Sh
namespace Go.Sh
set_option linter.unusedVariables false
set_option linter.unusedSimpArgs false

def aBin (op : BinOp) : AV → AV → Option AV
  | .int k a, .int k' b => if k = k' then match op with
      | .add => some (.int k (k.wrap (a + b)))
      | .sub => some (.int k (k.wrap (a - b)))
      | .mul => some (.int k (k.wrap (a * b)))
      | .quo => if b = 0 then none else some (.int k (k.wrap (a.tdiv b)))
      | .rem => if b = 0 then none else some (.int k (a.tmod b))
      | .eql => some (.bool (a == b))
      | .neq => some (.bool (a != b))
      | .lss => some (.bool (decide (a < b)))
      | .leq => some (.bool (decide (a ≤ b)))
      | .gtr => some (.bool (decide (a > b)))
      | .geq => some (.bool (decide (a ≥ b)))
      | _ => none
    else none
  | _, _ => none
def AV.ok : AV → Bool
  | .bad => false
  | .tup _ => false
  | _ => true
def aFill (place : Nat → Option (Nat × Nat)) (cells : List AV) : List (Nat × AV) → Option (List AV)
  | [] => some cells
  | (i, v) :: rest =>
    match place i with
    | none => none
    | some (off, size) =>
      if v.ok = true ∧ v.cells.length = size ∧ off + v.cells.length ≤ cells.length then aFill place (cells.take off ++ v.cells.map AV.kf ++ cells.drop (off + v.cells.length)) rest else none
/-- a part of a row of cells -/
def aPart (ti : TI) (cs : List AV) (off : Nat) : Option AV :=
  if ti.agg = true then (if off + ti.size ≤ cs.length then some (.agg ((cs.drop off).take ti.size)) else none) else cs[off]?

/-- a bound of a slice expression -/
def aBnd (d : Nat) : Option AV → Option Nat
  | none => some d
  | some (.int _ n) => if 0 ≤ n then some n.toNat else none
  | _ => none
/-- a part of a slice; told with its room: nothing beyond -/
def aSlice (sz : Nat) (rows : List (List AV)) (lo hi mx : Option AV) : Option AV :=
  match aBnd 0 lo, aBnd rows.length hi, mx with
  | some l, some h, none => if l ≤ h ∧ h ≤ rows.length ∧ rows.all (fun r => Nat.beq r.length sz) = true then some (.sl .no ((rows.take h).drop l)) else none
  | some l, some h, some m => match hi, aBnd 0 (some m) with
    | some _, some m => if l ≤ h ∧ h = m ∧ m ≤ rows.length ∧ rows.all (fun r => Nat.beq r.length sz) = true then some (.sl .full ((rows.take h).drop l)) else none
    | _, _ => none
  | _, _, _ => none
variable (TT : TypeId → Option TI)
/-- operations that leave the world alone -/
def aPure (st : List (Option (List AV))) (ev : Operand → AV) : Op → Option AV
  | .move x => some (ev x)
  | .assign x => some (ev x)
  | .pick c a b => match ev c with
    | .bool t => some (if t then ev a else ev b)
    | _ => none
  | .binOp op t x y _ => match ev x, ev y with
    | .bool a, .bool b => match op, (TT t).map TI.isBool with
      | .eql, some true => some (.bool (a == b))
      | .neq, some true => some (.bool (a != b))
      | _, _ => none
    | a, b => aBin op a b
  | .unOp op _ x => match op, ev x with
    | .neg, .int k n => some (.int k (k.wrap (0 - n)))
    | .not, .bool b => some (.bool (!b))
    | _, _ => none
  | .convert s d x => match ev x, (TT s), (TT d).bind TI.int with
    | .int _ n, some _, some k => some (.int k (k.wrap n))
    | _, _, _ => none
  | .extract x i => match ev x with
    | .tup vs => (vs[i]?).map AV.st
    | _ => none
  | .nilCheck x => match ev x with
    | .vp v o => some (.vp v o)
    | .ep r => some (.ep r)
    | _ => none
  | .makeFunc (.func f) first captured => if first.size = 0 then some (.fn f (captured.toList.map fun x => (ev x).st)) else none
  | .fieldAddr s x f => match (TT s).bind (fun ti => ti.flds[f]?) with
    | some (ft, off) => match (TT ft).map TI.size, ev x with
      | some (_ + 1), .vp v o => some (.vp v (o + off))
      | some (_ + 1), .ep row => some (.ep (row.drop off))
      | _, _ => none
    | none => none
  | .field s x f => match (TT s).bind (fun ti => ti.flds[f]?), ev x with
    | some (ft, off), .agg cs => match TT ft with
      | some fi => (aPart fi cs off).map AV.st
      | none => none
    | _, _ => none
  | .indexAddr t x i => match TT t, ev i with
    | some ti, .int k n => match ti.elem, ti.arr, ev x with
      | some e, _, .sl _ rows => match TT e with
        | some ei => if 0 ≤ n then (match rows[n.toNat]? with
            | some row => if row.length = ei.size then some (.ep row) else none
            | none => none) else none
        | none => none
      | none, some (len, e), .ep row => match TT e with
        | some ei => if 0 ≤ n ∧ n < (len : Int) then some (.ep (row.drop (n.toNat * ei.size))) else none
        | none => none
      | none, some (len, e), .vp v o => match TT e with
        | some ei => if 0 ≤ n ∧ n < (len : Int) then some (.vp v (o + n.toNat * ei.size)) else none
        | none => none
      | _, _, _ => none
    | _, _ => none
  | .index t x i => match TT t, ev i, ev x with
    | some ti, .int k n, .agg cs => match ti.arr with
      | some (len, e) => match TT e with
        | some ei => if 0 ≤ n ∧ n < (len : Int) then (aPart ei cs (n.toNat * ei.size)).map AV.st else none
        | none => none
      | none => none
    | _, _, _ => none
  | .load t x => match TT t, ev x with
    | some ti, .ep row => if ti.agg = true then (if ti.size ≤ row.length then some (.agg (row.take ti.size)) else none) else (row[0]?).map AV.st
    | some ti, .vp v o => match st[v]? with
      | some (some cs) => if ti.agg = true then (if o + ti.size ≤ cs.length then some (.agg (((cs.drop o).take ti.size).map AV.kf)) else none) else cs[o]?
      | _ => none
    | _, _ => none
  | .build t parts => match TT t with
    | some ti => match ti.arr with
      | some (n, e) => match TT e with
        | some ei => (aFill (fun i => some (i * ei.size, ei.size)) ti.zero (parts.toList.map fun p => (p.1, ev p.2))).map AV.agg
        | none => none
      | none => if ti.agg = true ∧ ti.flds.all (fun f => (TT f.1).isSome) = true then
          (aFill (fun i => (ti.flds[i]?).bind fun f => (TT f.1).map fun fi => (f.2, fi.size)) ti.zero (parts.toList.map fun p => (p.1, ev p.2))).map AV.agg else none
    | none => none
  | .slice t x lo hi mx => match (TT t).bind TI.elem, ev x with
    | some e, .sl _ rows => match TT e with
      | some ei => aSlice ei.size rows (lo.map ev) (hi.map ev) (mx.map ev)
      | none => none
    | _, _ => none
  | .call c => match c.callee with
    | .builtin .len => match c.argTypes[0]?, c.args[0]? with
      | some t, some x => match (TT t).bind TI.elem, ev x with
        | some _, .sl _ rows => some (.int .i64 rows.length)
        | _, _ => none
      | _, _ => none
    | .builtin .max => match c.args.toList with
      | [x, y] => match ev x, ev y with
        | .int k a, .int k' b => some (.int k (if b > a then b else a))
        | _, _ => none
      | _ => none
    | .builtin .min => match c.args.toList with
      | [x, y] => match ev x, ev y with
        | .int k a, .int k' b => some (.int k (if b < a then b else a))
        | _, _ => none
      | _ => none
    | _ => none
  | _ => none
/-- operations whose result may be a slice of the call's own -/
def keepsOwn : Op → Bool
  | .move _ | .assign _ | .pick .. | .load .. => true
  | _ => false
end Go.Sh
namespace Go.Sh
set_option linter.unusedVariables false
set_option linter.unusedSimpArgs false

/-- a variable's row -/
def VarAt (ρ : Nat → Option Nat) (C : Cm) (w : World) (b : Nat) (cs : List AV) : Prop :=
  ∃ cur e, w.heap[b]? = some (.cells cur e (0, 0)) ∧ cur.size = cs.length ∧ (∀ j x, cs[j]? = some x → RepT ρ C x (cur.getD j undef)) ∧ ∀ j, j < cur.size → (cur.getD j undef).oneCell' = true
def StAt (ρ : Nat → Option Nat) (C : Cm) (w : World) (st : List (Option (List AV))) : Prop :=
  ∀ v cs, st[v]? = some (some cs) → ∃ b, ρ v = some b ∧ VarAt ρ C w b cs
def Holds (C : Cm) (w : World) : Prop := ∀ b o u, C b o = some u → w.cell? ⟨b, o, none⟩ = some u ∧ u.oneCell' = true

theorem VarAt.cell {ρ : Nat → Option Nat} {C : Cm} {w : World} {b : Nat} {cs : List AV} (h : VarAt ρ C w b cs) {j : Nat} {x : AV} (hx : cs[j]? = some x) :
    ∃ u, w.cell? ⟨b, j, none⟩ = some u ∧ RepT ρ C x u := by
  obtain ⟨cur, e, hb, hs, hr, h1⟩ := h
  have hj : j < cur.size := by rw [hs]; exact (List.getElem?_eq_some_iff.1 hx).1
  refine ⟨cur.getD j undef, ?_, hr j x hx⟩
  simp [World.cell?, hb, hj]

section
variable {P : Program} {TT : TypeId → Option TI} {st : List (Option (List AV))} {ev : Operand → AV} {rv : Operand → Value} {ρ : Nat → Option Nat} {C : Cm} {w : World}

theorem exec_v {o : Oper} {s : Sem Value} {v : Value} (h : (execOp rv o) = (do pure (Next.value (← s)))) (hs : s.run P w = .ok v w) : (execOp rv o).run P w = .ok (.value v) w := by
  rw [h]; simp only [Sem.run_bind, hs, Result.andThen_ok, Sem.run_pure]

theorem bin_sound {op : BinOp} {x y : AV} {a b : Value} {av : AV} {t : TypeId} (hx : RepT ρ C x a) (hy : RepT ρ C y b) (h : aBin op x y = some av) :
    ∃ v, (binOp op t a b).run P w = .ok v w ∧ Rep0 C av v ∧ (∀ X Y, (eqGuard op t X Y a b).run P w = .ok () w) := by
  cases x with
  | int k n =>
    cases y with
    | int k' m =>
      obtain rfl := hx.int0
      obtain rfl := hy.int0
      simp only [aBin] at h
      split at h
      · rename_i hk
        subst hk
        have hg : ∀ X Y, (eqGuard op t X Y (.int k n) (.int k m)).run P w = .ok () w := by
          intro X Y
          unfold eqGuard
          cases op <;> rfl
        cases op <;> simp only [Option.some.injEq, reduceCtorEq] at h <;> first
          | (subst h; exact ⟨_, rfl, by constructor, hg⟩)
          | (subst h; refine ⟨_, by simp only [binOp, Op.intArith, ne_eq, not_true_eq_false, if_false]; rfl, by constructor, hg⟩)
          | (subst h; refine ⟨_, by simp only [binOp, Op.intCmp, ne_eq, not_true_eq_false, if_false]; rfl, by constructor, hg⟩)
          | (split at h
             · exact absurd h (by simp)
             · rename_i h0
               injection h with h
               subst h
               exact ⟨_, by simp only [binOp, Op.intDiv, ne_eq, not_true_eq_false, if_false, h0]; rfl, by constructor, hg⟩)
      · exact absurd h (by simp)
    | _ => simp only [aBin, reduceCtorEq] at h
  | _ => simp only [aBin, reduceCtorEq] at h
end
end Go.Sh
namespace Go.Sh
set_option linter.unusedVariables false
set_option linter.unusedSimpArgs false

section
variable {P : Program} {TT : TypeId → Option TI} {st : List (Option (List AV))} {ev : Operand → AV} {rv : Operand → Value} {ρ : Nat → Option Nat} {C : Cm} {w : World}

theorem part_sound {t : TypeId} {ti : TI} (hT : TI.of P t = some ti) {cs : List AV} {us : Array Value} (hl : us.size = cs.length) (h1 : ∀ j, j < us.size → (us.getD j undef).oneCell' = true) (hr : ∀ j x, cs[j]? = some x → Rep0 C x (us.getD j undef))
    {off : Nat} {av : AV} (h : aPart ti cs off = some av) : ∃ v, (Go.part t us off).run P w = .ok v w ∧ Rep0 C av v := by
  unfold aPart at h
  unfold Go.part
  simp only [Sem.run_bind, TI.isAgg hT, Result.andThen_ok]
  by_cases ha : ti.agg = true
  · rw [if_pos ha] at h
    rw [if_pos ha]
    split at h
    · rename_i hs
      injection h with h
      subst h
      simp only [Sem.run_bind, TI.sizeOf hT, Result.andThen_ok, Sem.run_pure]
      have hget : ∀ j, j < ti.size → (us.extract off (off + ti.size)).getD j undef = us.getD (off + j) undef := by
        intro j hj
        have hlt : off + j < us.size := by omega
        have hlt2 : j < (us.extract off (off + ti.size)).size := by simp only [Array.size_extract]; omega
        simp only [Array.getD_eq_getD_getElem?]
        rw [Array.getElem?_eq_getElem hlt2, Array.getElem?_eq_getElem hlt]
        simp
      refine ⟨_, rfl, .agg _ _ ?_ ?_ ?_⟩
      · simp only [Array.size_extract, List.length_take, List.length_drop]; omega
      · intro j hj
        simp only [Array.size_extract] at hj
        rw [hget j (by omega)]; exact h1 _ (by omega)
      · intro j x hx
        rw [List.getElem?_take] at hx
        split at hx
        · rename_i hj
          rw [List.getElem?_drop] at hx
          have := hr _ _ hx
          rw [hget j hj]; exact this
        · exact absurd hx (by simp)
    · exact absurd h (by simp)
  · rw [if_neg ha] at h
    rw [if_neg ha]
    have hj : off < us.size := by rw [hl]; exact (List.getElem?_eq_some_iff.1 h).1
    have := hr _ _ h
    rw [Array.getElem?_eq_getElem hj]
    refine ⟨_, rfl, ?_⟩
    simpa [Array.getD, hj] using this

theorem run_loadVar_ep {t : TypeId} {ti : TI} (hT : TI.of P t = some ti) {b off : Nat} (us : Nat → Value) (n : Nat) (hc : ∀ j, j < n → w.cell? ⟨b, off + j, none⟩ = some (us j)) (hs : ti.size ≤ n) (h0 : ti.agg = false → 0 < n) :
    (loadVar t ⟨b, off, none⟩).run P w = .ok (if ti.agg = true then .agg ((List.range ti.size).map us).toArray else us 0) w := by
  unfold loadVar
  simp only [Sem.run_bind, TI.isAgg hT, Result.andThen_ok]
  by_cases ha : ti.agg = true
  · rw [if_pos ha, if_pos ha]
    have := run_loadCells (P := P) w ⟨b, off, none⟩ ti.size us (fun j hj => by rw [add_eq]; exact hc j (by omega))
    simp only [Sem.run_bind, TI.sizeOf hT, Result.andThen_ok, this, Sem.run_pure]
  · rw [if_neg ha, if_neg ha]
    have := hc 0 (h0 (by simpa using ha))
    rw [Nat.add_zero] at this
    rw [run_load, this]

theorem getD_map_range {us : Nat → Value} {n j : Nat} (h : j < n) : (((List.range n).map us).toArray).getD j undef = us j := by
  simp [Array.getD, h]

/-- cells that are replaced -/
theorem foldl_set (vs : List Value) : ∀ (k off : Nat) (cs : Array Value), off + k + vs.length ≤ cs.size →
    (vs.zipIdx k).foldl (fun cs (x : Value × Nat) => cs.setIfInBounds (off + x.2) x.1) cs = (cs.toList.take (off + k) ++ vs ++ cs.toList.drop (off + k + vs.length)).toArray := by
  induction vs with
  | nil => intro k off cs h; simp
  | cons v vs ih =>
    intro k off cs h
    simp only [List.length_cons] at h
    rw [List.zipIdx_cons, List.foldl_cons, ih (k + 1) off _ (by rw [Array.size_setIfInBounds]; omega)]
    congr 1
    have e := list_seg_step cs.toList (off + k) v vs (by simp; omega)
    simp only [Array.toList_setIfInBounds]
    rw [show off + (k + 1) = off + k + 1 by omega]
    simpa [Nat.add_assoc, Nat.add_comm 1] using e

theorem run_mapM_list {α β : Type} (f : α → Sem β) (g : α → β) : ∀ (l : List α), (∀ x ∈ l, (f x).run P w = .ok (g x) w) → (l.mapM f).run P w = .ok (l.map g) w
  | [], _ => rfl
  | x :: l, h => by
    rw [List.mapM_cons]
    simp only [Sem.run_bind, h x (by simp), Result.andThen_ok, run_mapM_list f g l (fun y hy => h y (by simp [hy])), Sem.run_pure, List.map_cons]
theorem run_mapM {α β : Type} (f : α → Sem β) (g : α → β) (xs : Array α) (h : ∀ x ∈ xs, (f x).run P w = .ok (g x) w) : (xs.mapM f).run P w = .ok (xs.map g) w := by
  rw [Array.mapM_eq_mapM_toList]
  have := run_mapM_list (P := P) (w := w) f g xs.toList (fun x hx => h x (by simpa using hx))
  rw [← bind_pure_comp]
  simp only [Sem.run_bind, this, Result.andThen_ok, Function.comp, Sem.run_pure]
  congr 1
  apply Array.ext'
  simp

theorem RepT.cells {av : AV} {v : Value} (h : RepT ρ C av v) (hb : av.ok = true) : v.cells.size = av.cells.length ∧ (∀ j, j < v.cells.size → (v.cells.getD j undef).oneCell' = true) ∧ ∀ j x, av.cells[j]? = some x → RepT ρ C x (v.cells.getD j undef) := by
  have one : ∀ {x : AV} {u : Value}, RepT ρ C x u → x.cells = [x] → u.cells = #[u] → u.oneCell' = true → u.cells.size = x.cells.length ∧ (∀ j, j < u.cells.size → (u.cells.getD j undef).oneCell' = true) ∧ ∀ j y, x.cells[j]? = some y → RepT ρ C y (u.cells.getD j undef) := by
    intro x u hx h1 h2 h3
    rw [h1, h2]
    refine ⟨rfl, fun j hj => ?_, fun j y hy => ?_⟩
    · have : j = 0 := by simp at hj; omega
      subst this; simpa using h3
    cases j with
    | zero => simp only [List.getElem?_cons_zero, Option.some.injEq] at hy; subst hy; simpa using hx
    | succ j => exact absurd hy (by simp)
  cases h with
  | vp h => exact one (.vp h) rfl rfl rfl
  | fn us hl hr => exact one (.fn us hl hr) rfl rfl rfl
  | tup us hl hr => exact absurd hb (by simp [AV.ok])
  | v0 h =>
    cases h with
    | agg cs us hl h1 hr => exact ⟨hl, h1, fun j x hx => .v0 (hr j x hx)⟩
    | int k n => exact one (.v0 (.int k n)) rfl rfl rfl
    | bool b => exact one (.v0 (.bool b)) rfl rfl rfl
    | nil o a cap h h2 => exact one (.v0 (.nil o a cap h h2)) rfl rfl rfl
    | sl o rows b off cap L us hcap hm hf hc hr => exact one (.v0 (.sl o rows b off cap L us hcap hm hf hc hr)) rfl rfl rfl
    | ep row b off us hc hr => exact one (.v0 (.ep row b off us hc hr)) rfl rfl rfl
    | bad v => exact absurd hb (by simp [AV.ok])

theorem getD_toList (xs : Array Value) (j : Nat) : xs.toList.getD j undef = xs.getD j undef := by
  simp [List.getD, Array.getD_eq_getD_getElem?]

theorem fill_sound {place : Nat → Option (Nat × Nat)} : ∀ (parts : List (Nat × AV)) (vals : List (Nat × Value)) (cs : List AV) (us : Array Value) (out : List AV),
    vals.map (·.1) = parts.map (·.1) → (∀ (j : Nat) (p : Nat × AV) (v : Nat × Value), parts[j]? = some p → vals[j]? = some v → RepT ρ C p.2 v.2) → us.size = cs.length → (∀ j, j < us.size → (us.getD j undef).oneCell' = true) → (∀ j x, cs[j]? = some x → Rep0 C x (us.getD j undef)) →
    aFill place cs parts = some out → ∃ us', Instr.fill place us vals = some us' ∧ us'.size = out.length ∧ (∀ j, j < us'.size → (us'.getD j undef).oneCell' = true) ∧ ∀ j x, out[j]? = some x → Rep0 C x (us'.getD j undef)
  | [], vals, cs, us, out, hk, _, hl, h1, hr, h => by
    have : vals = [] := by cases vals with | nil => rfl | cons v vs => exact absurd hk (by simp)
    subst this
    simp only [aFill, Option.some.injEq] at h
    subst h
    exact ⟨us, rfl, hl, h1, hr⟩
  | (i, av) :: parts, vals, cs, us, out, hk, hv, hl, ho1, hr, h => by
    cases vals with
    | nil => exact absurd hk (by simp)
    | cons v vals =>
      obtain ⟨i', v⟩ := v
      simp only [List.map_cons, List.cons.injEq] at hk
      obtain ⟨rfl, hk⟩ := hk
      simp only [aFill] at h
      cases hp : place i' with
      | none => rw [hp] at h; exact absurd h (by simp)
      | some os =>
        obtain ⟨off, size⟩ := os
        rw [hp] at h
        simp only [] at h
        split at h
        · rename_i hc
          obtain ⟨hok, hs, ho⟩ := hc
          have hav : RepT ρ C av v := hv 0 _ _ rfl rfl
          have hcell : v.cells.size = av.cells.length ∧ (∀ j, j < v.cells.size → (v.cells.getD j undef).oneCell' = true) ∧ ∀ j x, (av.cells.map AV.kf)[j]? = some x → Rep0 C x (v.cells.getD j undef) := by
            obtain ⟨h1, h3, h2⟩ := hav.cells hok
            refine ⟨h1, h3, fun j x hx => ?_⟩
            rw [List.getElem?_map] at hx
            cases hy : av.cells[j]? with
            | none => rw [hy] at hx; exact absurd hx (by simp)
            | some y => rw [hy] at hx; injection hx with hx; subst hx; exact (h2 j y hy).kf
          have hfold : v.cells.zipIdx.foldl (fun cs (x : Value × Nat) => cs.setIfInBounds (off + x.2) x.1) us = (us.toList.take off ++ v.cells.toList ++ us.toList.drop (off + v.cells.size)).toArray := by
            have := foldl_set v.cells.toList 0 off us (by simp; omega)
            rw [← Array.foldl_toList, Array.toList_zipIdx]
            simpa using this
          have hstep : Instr.fill place us ((i', v) :: vals) = Instr.fill place (us.toList.take off ++ v.cells.toList ++ us.toList.drop (off + v.cells.size)).toArray vals := by
            rw [Instr.fill]
            simp only [hp]
            rw [if_neg (by simp only [ne_eq, Bool.or_eq_true, decide_eq_true_eq, not_or, Decidable.not_not]; omega)]
            rw [← hfold]
          rw [hstep]
          have hlen : (us.toList.take off).length = off := by simp; omega
          have hclen : (cs.take off).length = off := by simp; omega
          refine fill_sound parts vals _ _ out hk (fun j p v hp hv' => hv (j + 1) p v (by simpa using hp) (by simpa using hv')) ?_ ?_ ?_ h
          · simp; omega
          · intro j hj
            rw [← getD_toList]
            simp only [List.size_toArray, List.length_append, List.length_take, List.length_drop, Array.length_toList] at hj
            simp only []
            rcases Nat.lt_or_ge j off with hj1 | hj1
            · have := ho1 j (by omega)
              rw [List.append_assoc, List.getD, List.getElem?_append_left (by omega), List.getElem?_take, if_pos hj1]
              simpa [List.getD, Array.getD_eq_getD_getElem?] using this
            · rcases Nat.lt_or_ge j (off + av.cells.length) with hj2 | hj2
              · have := hcell.2.1 (j - off) (by omega)
                rw [List.append_assoc, List.getD, List.getElem?_append_right (by omega), List.getElem?_append_left (by simp; omega), hlen]
                simpa [List.getD, Array.getD_eq_getD_getElem?] using this
              · have := ho1 j (by omega)
                rw [List.getD, List.getElem?_append_right (by simp; omega), List.getElem?_drop]
                have e1 : off + v.cells.size + (j - (us.toList.take off ++ v.cells.toList).length) = j := by
                  simp only [List.length_append, hlen, Array.length_toList]; omega
                rw [e1]
                simpa [List.getD, Array.getD_eq_getD_getElem?] using this
          · intro j x hx
            rw [← getD_toList]
            simp only []
            rcases Nat.lt_or_ge j off with hj | hj
            · rw [List.append_assoc, List.getElem?_append_left (by omega), List.getElem?_take, if_pos hj] at hx
              have := hr j x hx
              rw [List.append_assoc, List.getD, List.getElem?_append_left (by omega), List.getElem?_take, if_pos hj]
              simpa [List.getD, Array.getD_eq_getD_getElem?] using this
            · rcases Nat.lt_or_ge j (off + av.cells.length) with hj2 | hj2
              · rw [List.append_assoc, List.getElem?_append_right (by omega), List.getElem?_append_left (by simp; omega), hclen] at hx
                have := hcell.2.2 _ x hx
                rw [List.append_assoc, List.getD, List.getElem?_append_right (by omega), List.getElem?_append_left (by simp; omega), hlen]
                simpa [List.getD, Array.getD_eq_getD_getElem?] using this
              · rw [List.getElem?_append_right (by simp; omega), List.getElem?_drop] at hx
                have := hr _ x hx
                rw [List.getD, List.getElem?_append_right (by simp; omega), List.getElem?_drop]
                have e1 : off + v.cells.size + (j - (us.toList.take off ++ v.cells.toList).length) = off + av.cells.length + (j - (cs.take off ++ av.cells.map AV.kf).length) := by
                  simp only [List.length_append, hlen, hclen, List.length_map, Array.length_toList, hcell.1]
                rw [e1]
                simpa [List.getD, Array.getD_eq_getD_getElem?] using this
        · exact absurd h (by simp)
end
end Go.Sh
namespace Go.Sh
set_option linter.unusedVariables false
set_option linter.unusedSimpArgs false

section
variable {P : Program} {TT : TypeId → Option TI} {st : List (Option (List AV))} {ev : Operand → AV} {rv : Operand → Value} {ρ : Nat → Option Nat} {C : Cm} {w : World}

/-- where an own slice that an operation yields comes from -/
def Src (st : List (Option (List AV))) (ev : Operand → AV) (rv : Operand → Value) (ρ : Nat → Option Nat) (w : World) (op : Op) (av : AV) (v : Value) : Prop :=
  ∀ n e rows, av = .sl (.id n e) rows → (∃ x ∈ op.operands, ev x = av ∧ v = rv x) ∨ (∃ i o cs b, st[i]? = some (some cs) ∧ cs[o]? = some av ∧ ρ i = some b ∧ w.cell? ⟨b, o, none⟩ = some v)
theorem Src.stt {op : Op} {x : AV} {v : Value} : Src st ev rv ρ w op x.st v := by
  intro n e rows h
  cases x <;> exact absurd h (by simp [AV.st])

theorem pure_fieldAddr (hTT : ∀ t ti, TT t = some ti → TI.of P t = some ti) {s : TypeId} {x : Operand} {f : Nat} {o : Oper} (ho : o.op = .fieldAddr s x f) {av : AV}
    (hx : RepT ρ C (ev x) (rv x)) (h : aPure TT st ev (.fieldAddr s x f) = some av) :
    ∃ v, (execOp rv o).run P w = .ok (.value v) w ∧ RepT ρ C av v ∧ Src st ev rv ρ w o.op av v := by
  simp only [aPure] at h
  split at h
  · rename_i ft off hf
    obtain ⟨ti, hti, hf⟩ := Option.bind_eq_some_iff.1 hf
    obtain ⟨i, d, z, hi, hd, hz, hs, rfl⟩ := TI.of_some (hTT _ _ hti)
    obtain ⟨fs, rfl, g, hg, hg1, hg2⟩ := TI.desc_fld hf
    simp only [] at hg1 hg2
    split at h
    · rename_i n k v' off' hn hev
      injection h with h; subst h
      rw [hev] at hx
      obtain ⟨b, hb, hrv⟩ := hx.vp0
      obtain ⟨fi, hfi, hfs⟩ := Option.map_eq_some_iff.1 hn
      have hsz := TI.sizeOf (hTT _ _ hfi) w
      refine ⟨.pointer (some ⟨b, off' + off, none⟩), exec_v (s := Instr.fieldAt s (rv x) f) (by simp only [execOp, ho]) ?_, .vp hb, fun _ _ _ h => by cases h⟩
      simp only [Instr.fieldAt, Sem.run_bind, run_underlying hd, Result.andThen_ok, hg, hrv, Instr.sureAddr, Sem.run_pure, fieldPlace, hg1, hsz]
      rw [hfs, if_neg (by omega), hg2, add_eq]
      rfl
    · rename_i n k row hn hev
      injection h with h; subst h
      rw [hev] at hx
      have h0 := hx.ep0
      obtain ⟨fi, hfi, hfs⟩ := Option.map_eq_some_iff.1 hn
      have hsz := TI.sizeOf (hTT _ _ hfi) w
      generalize hrv : rv x = vv at h0
      cases h0 with
      | ep _ b o' us hc hr =>
        refine ⟨.pointer (some ⟨b, o' + off, none⟩), exec_v (s := Instr.fieldAt s (rv x) f) (by simp only [execOp, ho]) ?_, .v0 (.ep _ b (o' + off) (fun j => us (off + j)) ?_ ?_), fun _ _ _ h => by cases h⟩
        · simp only [Instr.fieldAt, Sem.run_bind, run_underlying hd, Result.andThen_ok, hg, hrv, Instr.sureAddr, Sem.run_pure, fieldPlace, hg1, hsz]
          rw [hfs, if_neg (by omega), hg2, add_eq]
          rfl
        · intro j hj
          rw [List.length_drop] at hj
          rw [Nat.add_assoc]; exact hc (off + j) (by omega)
        · intro j y hy
          rw [List.getElem?_drop] at hy
          exact hr _ _ hy
    · exact absurd h (by simp)
  · exact absurd h (by simp)

theorem ep_at {row : List AV} {v : Value} (h : Rep0 C (.ep row) v) (hC : Holds C w) : ∃ (b off : Nat) (us : Nat → Value), v = .pointer (some ⟨b, off, none⟩) ∧ (∀ j, j < row.length → w.cell? ⟨b, off + j, none⟩ = some (us j) ∧ (us j).oneCell' = true) ∧ (∀ j x, row[j]? = some x → Rep0 C x (us j)) := by
  cases h with
  | ep _ b off us hc hr => exact ⟨b, off, us, rfl, fun j hj => hC _ _ _ (hc j hj), hr⟩

theorem pure_load (hTT : ∀ t ti, TT t = some ti → TI.of P t = some ti) (hC : Holds C w) (hst : StAt ρ C w st) {t : TypeId} {x : Operand} {o : Oper} (ho : o.op = .load t x) {av : AV}
    (hx : RepT ρ C (ev x) (rv x)) (h : aPure TT st ev (.load t x) = some av) :
    ∃ v, (execOp rv o).run P w = .ok (.value v) w ∧ RepT ρ C av v ∧ Src st ev rv ρ w o.op av v := by
  simp only [aPure] at h
  split at h
  · rename_i ti row hti hev
    have hT := hTT _ _ hti
    rw [hev] at hx
    obtain ⟨b, off, us, hrv, hc, hr⟩ := ep_at hx.ep0 hC
    have he : (execOp rv o) = (do pure (Next.value (← Instr.loadAt t (rv x)))) := by simp only [execOp, ho]
    by_cases ha : ti.agg = true
    · rw [if_pos ha] at h
      split at h
      · rename_i hs
        injection h with h; subst h
        have hl := run_loadVar_ep (P := P) (w := w) hT us row.length (fun j hj => (hc j hj).1) hs (fun h => by rw [ha] at h; cases h)
        rw [if_pos ha] at hl
        refine ⟨_, exec_v he (by simp only [Instr.loadAt, Sem.run_bind, hrv, Instr.sureAddr, Sem.run_pure, Result.andThen_ok]; exact hl), .v0 (.agg _ _ (by simp; omega) (fun j hj => ?_) ?_), fun _ _ _ h => by cases h⟩
        · simp only [List.size_toArray, List.length_map, List.length_range] at hj
          rw [getD_map_range hj]; exact (hc j (by omega)).2
        intro j y hy
        rw [List.getElem?_take] at hy
        split at hy
        · rename_i hj; rw [getD_map_range hj]; exact hr _ _ hy
        · exact absurd hy (by simp)
      · exact absurd h (by simp)
    · rw [if_neg ha] at h
      obtain ⟨y, hy, rfl⟩ := Option.map_eq_some_iff.1 h
      have h0 : 0 < row.length := (List.getElem?_eq_some_iff.1 hy).1
      have hl : (loadVar t ⟨b, off, none⟩).run P w = .ok (us 0) w := by
        unfold loadVar
        simp only [Sem.run_bind, TI.isAgg hT, Result.andThen_ok]
        rw [if_neg ha, run_load]
        have := (hc 0 h0).1
        rw [Nat.add_zero] at this
        rw [this]
      exact ⟨_, exec_v he (by simp only [Instr.loadAt, Sem.run_bind, hrv, Instr.sureAddr, Sem.run_pure, Result.andThen_ok]; exact hl), .v0 (hr 0 y hy).st, Src.stt⟩
  · rename_i ti i off hti hev
    have hT := hTT _ _ hti
    rw [hev] at hx
    obtain ⟨b, hb, hrv⟩ := hx.vp0
    have he : (execOp rv o) = (do pure (Next.value (← Instr.loadAt t (rv x)))) := by simp only [execOp, ho]
    split at h
    · rename_i cs hcs
      obtain ⟨b', hb', hva⟩ := hst i cs hcs
      obtain rfl : b' = b := Option.some.inj (hb'.symm.trans hb)
      obtain ⟨cur, e, hbl, hsz, hr, h1⟩ := hva
      have hcell : ∀ j, j < cur.size → w.cell? ⟨b', j, none⟩ = some (cur.getD j undef) := fun j hj => by simp [World.cell?, hbl, hj]
      by_cases ha : ti.agg = true
      · rw [if_pos ha] at h
        split at h
        · rename_i hs
          injection h with h; subst h
          have hl := run_loadVar_ep (P := P) (w := w) (b := b') (off := off) hT (fun j => cur.getD (off + j) undef) ti.size (fun j hj => hcell _ (by omega)) (Nat.le_refl _) (fun h => by rw [ha] at h; cases h)
          rw [if_pos ha] at hl
          refine ⟨_, exec_v he (by simp only [Instr.loadAt, Sem.run_bind, hrv, Instr.sureAddr, Sem.run_pure, Result.andThen_ok]; exact hl), .v0 (.agg _ _ (by simp; omega) (fun j hj => ?_) ?_), fun _ _ _ h => by cases h⟩
          · simp only [List.size_toArray, List.length_map, List.length_range] at hj
            rw [getD_map_range hj]; exact h1 _ (by omega)
          intro j y hy
          rw [List.getElem?_map] at hy
          obtain ⟨y', hy', rfl⟩ := Option.map_eq_some_iff.1 hy
          rw [List.getElem?_take] at hy'
          split at hy'
          · rename_i hj
            rw [List.getElem?_drop] at hy'
            rw [getD_map_range hj]
            exact (hr _ _ hy').kf
          · exact absurd hy' (by simp)
        · exact absurd h (by simp)
      · rw [if_neg ha] at h
        have hj : off < cur.size := by rw [hsz]; exact (List.getElem?_eq_some_iff.1 h).1
        have hl : (loadVar t ⟨b', off, none⟩).run P w = .ok (cur.getD off undef) w := by
          unfold loadVar
          simp only [Sem.run_bind, TI.isAgg hT, Result.andThen_ok]
          rw [if_neg ha, run_load, hcell off hj]
        exact ⟨_, exec_v he (by simp only [Instr.loadAt, Sem.run_bind, hrv, Instr.sureAddr, Sem.run_pure, Result.andThen_ok]; exact hl), hr _ _ h, fun n e rows hav => .inr ⟨i, off, cs, b', hcs, h, hb, hcell off hj⟩⟩
    · exact absurd h (by simp)
  · exact absurd h (by simp)
end
end Go.Sh
namespace Go.Sh
set_option linter.unusedVariables false
set_option linter.unusedSimpArgs false

section
variable {P : Program} {TT : TypeId → Option TI} {st : List (Option (List AV))} {ev : Operand → AV} {rv : Operand → Value} {ρ : Nat → Option Nat} {C : Cm} {w : World}

theorem aBnd_some {d n : Nat} {ev : Operand → AV} {rv : Operand → Value} (hx : ∀ y, RepT ρ C (ev y) (rv y)) {x : Option Operand} (h : aBnd d (x.map ev) = some n) : (x = none ∧ n = d) ∨ ∃ y k, x = some y ∧ rv y = .int k (n : Int) := by
  cases x with
  | none => simp only [Option.map_none, aBnd, Option.some.injEq] at h; exact .inl ⟨rfl, h.symm⟩
  | some y =>
    right
    simp only [Option.map_some] at h
    have hr := hx y
    generalize ev y = av at h hr
    unfold aBnd at h
    split at h
    · rename_i he; cases he
    · rename_i k m he
      injection he with he
      subst he
      split at h
      · rename_i h0
        injection h with h; subst h
        exact ⟨y, k, rfl, by rw [hr.int0, Int.toNat_of_nonneg h0]⟩
      · cases h
    · cases h
theorem run_bound {w : World} (k : IntKind) (n d : Nat) (c : BoundsCode) (h : n ≤ d) : (Instr.sliceBound (.int k (n : Int)) d c).run P w = .ok n w := by
  have h1 : (n : Int) ≤ (d : Int) := by omega
  simp [Instr.sliceBound, asIntOf, h1, go_sem]
theorem pure_slice (hTT : ∀ t ti, TT t = some ti → TI.of P t = some ti) {t : TypeId} {x : Operand} {lo hi mx : Option Operand} {o : Oper} (ho : o.op = .slice t x lo hi mx) {av : AV}
    (hx : ∀ y, RepT ρ C (ev y) (rv y)) (h : aPure TT st ev (.slice t x lo hi mx) = some av) :
    ∃ v, (execOp rv o).run P w = .ok (.value v) w ∧ RepT ρ C av v ∧ Src st ev rv ρ w o.op av v := by
  have he : (execOp rv o) = (do pure (Next.value (← Instr.sliceAt t (rv x) (lo.map rv) (hi.map rv) (mx.map rv)))) := by simp only [execOp, ho]
  simp only [aPure] at h
  split at h
  · rename_i e o' rows hel hevx
    split at h
    · rename_i ei hei
      have hsz := TI.sizeOf (hTT _ _ hei) w
      obtain ⟨ti, hti, hel⟩ := Option.bind_eq_some_iff.1 hel
      obtain ⟨inf, d, z, hinf, hd, hz, hs, rfl⟩ := TI.of_some (hTT _ _ hti)
      obtain rfl := TI.desc_elem hel
      have hrx := hx x
      rw [hevx] at hrx
      have h0 := hrx.sl0
      -- what the bounds come to
      obtain ⟨l, hh, m, ow, hlh, hhm, hhr, hall, rfl, hrun, hfull⟩ : ∃ (l hh : Nat) (m : Nat → Nat) (ow : Own), l ≤ hh ∧ (∀ cap, rows.length ≤ cap → hh ≤ m cap ∧ m cap ≤ cap) ∧ hh ≤ rows.length ∧ rows.all (fun r => Nat.beq r.length ei.size) = true ∧ av = .sl ow ((rows.take hh).drop l) ∧
          (∀ cap, rows.length ≤ cap → (Instr.sliceBounds true rows.length cap (lo.map rv) (hi.map rv) (mx.map rv)).run P w = .ok (l, hh, m cap) w) ∧ ((ow = .no) ∨ (ow = .full ∧ ∀ cap, m cap = hh)) := by
        unfold aSlice at h
        split at h
        · rename_i l hh hl1 hh1 hm1
          split at h
          · rename_i hc
            injection h with h
            have hmx : mx = none := by cases mx with | none => rfl | some y => simp at hm1
            subst hmx
            refine ⟨l, hh, fun cap => cap, .no, hc.1, fun cap hcap => ⟨(by show hh ≤ cap; omega), Nat.le_refl _⟩, hc.2.1, hc.2.2, h.symm, fun cap hcap => ?_, .inl rfl⟩
            rcases aBnd_some hx hl1 with ⟨rfl, rfl⟩ | ⟨y, k, rfl, hy⟩ <;> rcases aBnd_some hx hh1 with ⟨rfl, rfl⟩ | ⟨y2, k2, rfl, hy2⟩ <;>
              simp only [Option.map_none, Option.map_some, Instr.sliceBounds, Sem.run_bind, Sem.run_pure, Result.andThen_ok, *, if_true] <;>
              (try rw [run_bound _ _ _ _ (by omega)]) <;> simp only [Result.andThen_ok, Sem.run_bind, Sem.run_pure] <;> (try rw [run_bound _ _ _ _ (by omega)]) <;> (try simp only [Result.andThen_ok, Sem.run_bind, Sem.run_pure])
          · cases h
        · rename_i l hh m0 hl1 hh1 hm1
          split at h
          · rename_i hv m hhi hm2
            split at h
            · rename_i hc
              obtain ⟨c1, c2, c3, c4⟩ := hc
              subst c2
              injection h with h
              obtain ⟨y3, rfl⟩ : ∃ y, mx = some y := by cases mx with | none => simp at hm1 | some y => exact ⟨y, rfl⟩
              obtain ⟨y2, rfl⟩ : ∃ y, hi = some y := by cases hi with | none => simp at hhi | some y => exact ⟨y, rfl⟩
              have hm3 : aBnd 0 ((some y3).map ev) = some hh := by simp only [Option.map_some, Option.some.injEq] at hm1 ⊢; rw [hm1]; exact hm2
              refine ⟨l, hh, fun _ => hh, .full, c1, fun cap hcap => ⟨Nat.le_refl _, (by show hh ≤ cap; omega)⟩, c3, c4, h.symm, fun cap hcap => ?_, .inr ⟨rfl, fun _ => rfl⟩⟩
              rcases aBnd_some hx hm3 with ⟨h9, _⟩ | ⟨y4, k4, h9, hy4⟩
              · cases h9
              · injection h9 with h9; subst h9
                rcases aBnd_some hx hh1 with ⟨h9, _⟩ | ⟨y5, k5, h9, hy5⟩
                · cases h9
                · injection h9 with h9; subst h9
                  rcases aBnd_some hx hl1 with ⟨rfl, rfl⟩ | ⟨y, k, rfl, hy⟩ <;>
                    simp only [Option.map_none, Option.map_some, Instr.sliceBounds, Sem.run_bind, Sem.run_pure, Result.andThen_ok, hy4, hy5, if_true] <;>
                    rw [run_bound _ _ _ _ (by omega)] <;> simp only [Result.andThen_ok, Sem.run_bind, Sem.run_pure] <;> rw [run_bound _ _ _ _ (by omega)] <;> simp only [Result.andThen_ok, Sem.run_bind, Sem.run_pure] <;>
                    (try (rw [hy, run_bound _ _ _ _ (by omega)]; simp only [Result.andThen_ok, Sem.run_bind, Sem.run_pure]))
            · cases h
          · cases h
        · cases h
      generalize hrv : rv x = vv at h0
      have hne : ∀ n e rows', (AV.sl ow ((rows.take hh).drop l)) ≠ .sl (.id n e) rows' := by
        intro n e rows' hc
        injection hc with hc _
        rcases hfull with h1 | ⟨h1, _⟩ <;> rw [h1] at hc <;> cases hc
      have hstep : ∀ (a : Option Addr) (cap : Nat), vv = .slice a rows.length cap → rows.length ≤ cap → (execOp rv o).run P w = .ok (.value (.slice (if m cap = l then a else a.map (·.add (l * ei.size))) (hh - l) (m cap - l))) w := by
        intro a cap hvv hcap
        refine exec_v he ?_
        rw [hrv, hvv]
        simp only [Instr.sliceAt, Sem.run_bind, run_underlying hd, Result.andThen_ok, Instr.slice, hrun cap hcap, hsz, Sem.run_pure]
      cases h0 with
      | nil _ a cap g1 g2 =>
        have e1 : hh = 0 := by simpa using hhr
        subst e1
        have e2 : l = 0 := by omega
        subst e2
        refine ⟨_, hstep a cap rfl (Nat.zero_le _), .v0 ?_, fun n e r h => absurd h (hne n e r)⟩
        refine .nil ow _ _ (fun ho => ?_) (fun _ _ => trivial)
        rcases hfull with h1 | ⟨_, h1⟩
        · rw [h1] at ho; cases ho
        · rw [h1]
      | sl _ _ b off cap L us hcap hmx hf hc hr =>
        have hL : ∀ r ∈ rows, r.length = ei.size := fun r hr => Nat.eq_of_beq_eq_true (List.all_eq_true.1 hall r hr)
        refine ⟨_, hstep _ cap rfl hcap, .v0 ?_, fun n e r h => absurd h (hne n e r)⟩
        obtain ⟨h5, h6⟩ := hhm cap hcap
        by_cases hz : l = hh
        · subst hz
          have e0 : (rows.take l).drop l = [] := by simp
          rw [e0, Nat.sub_self]
          refine .nil ow _ _ (fun ho => ?_) (fun _ _ => trivial)
          rcases hfull with h1 | ⟨_, h1⟩
          · rw [h1] at ho; cases ho
          · rw [h1, Nat.sub_self]
        · rw [if_neg (by omega)]
          simp only [Option.map_some, add_eq]
          have hlen : ((rows.take hh).drop l).length = hh - l := by simp; omega
          have hget : ∀ (i : Nat) (row : List AV), ((rows.take hh).drop l)[i]? = some row → rows[l + i]? = some row := by
            intro i row hi
            rw [List.getElem?_drop, List.getElem?_take] at hi
            split at hi
            · exact hi
            · cases hi
          have key := Rep0.sl (C := C) ow ((rows.take hh).drop l) b (off + l * ei.size) (m cap - l) L (fun i j => us (l + i) j) (by rw [hlen]; omega) (by omega)
            (fun ho => by
              rcases hfull with h1 | ⟨_, h1⟩
              · rw [h1] at ho; cases ho
              · rw [hlen, h1])
            (fun i row hi => by
              have hi := hget i row hi
              obtain ⟨c1, c2⟩ := hc _ _ hi
              have c3 := hL row (List.mem_of_getElem? hi)
              refine ⟨c1, fun j hj => ?_⟩
              have := c2 j hj
              rw [show off + l * ei.size + i * L + j = off + (l + i) * L + j by rw [← c3, c1, Nat.add_mul]; omega]
              exact this)
            (fun i row j x hi hj => hr _ _ _ _ (hget i row hi) hj)
          rw [hlen] at key
          exact key
    · cases h
  · cases h
theorem pure_index1 (hTT : ∀ t ti, TT t = some ti → TI.of P t = some ti) (hC : Holds C w) {t : TypeId} {x i : Operand} {o : Oper} (ho : o.op = .indexAddr t x i) {av : AV}
    (hx : ∀ y, RepT ρ C (ev y) (rv y)) (h : aPure TT st ev (.indexAddr t x i) = some av) :
    ∃ v, (execOp rv o).run P w = .ok (.value v) w ∧ RepT ρ C av v ∧ Src st ev rv ρ w o.op av v := by
  have he : (execOp rv o) = (do pure (Next.value (← Instr.indexAt t (rv x) (rv i)))) := by simp only [execOp, ho]
  simp only [aPure] at h
  split at h
  · rename_i ti k n hti hev
    obtain ⟨inf, d, z, hi, hd, hz, hs, rfl⟩ := TI.of_some (hTT _ _ hti)
    have hri : rv i = .int k n := by have := hx i; rw [hev] at this; exact this.int0
    split at h
    · rename_i e _ o' rows hel hevx
      obtain rfl := TI.desc_elem hel
      have hrx := hx x
      rw [hevx] at hrx
      have h0 := hrx.sl0
      split at h
      · rename_i ei hei
        have hsz := TI.sizeOf (hTT _ _ hei) w
        split at h
        · rename_i hn
          split at h
          · rename_i row hrow
            split at h
            · rename_i hrl
              injection h with h; subst h
              have hlt : n.toNat < rows.length := (List.getElem?_eq_some_iff.1 hrow).1
              generalize hrv : rv x = vv at h0
              cases h0 with
              | nil => exact absurd hlt (by simp)
              | sl _ _ b off cap L us hcap hm hf hc hr =>
                obtain ⟨hL, hcc⟩ := hc _ _ hrow
                refine ⟨.pointer (some ⟨b, off + n.toNat * ei.size, none⟩), exec_v he ?_, .v0 (.ep _ b _ (fun j => us n.toNat j) (fun j hj => ?_) (fun j y hy => hr _ _ _ _ hrow hy)), fun _ _ _ h => by cases h⟩
                · simp only [Instr.indexAt, hri, asIntOf, Sem.run_bind, run_underlying hd, hrv, Result.andThen_ok, Sem.run_pure]
                  rw [Sem.run_ite, if_pos ⟨hn, by omega⟩]
                  simp only [Sem.run_bind, hsz, Result.andThen_ok, Sem.run_pure, add_eq]
                · rw [← hrl, hL]; exact hcc j (by omega)
            · exact absurd h (by simp)
          · exact absurd h (by simp)
        · exact absurd h (by simp)
      · exact absurd h (by simp)
    · rename_i len e row _ harr hevx
      obtain rfl := TI.desc_arr harr
      have hrx := hx x
      rw [hevx] at hrx
      have h0 := hrx.ep0
      split at h
      · rename_i ei hei
        have hsz := TI.sizeOf (hTT _ _ hei) w
        split at h
        · rename_i hn
          injection h with h; subst h
          generalize hrv : rv x = vv at h0
          cases h0 with
          | ep _ b off us hc hr =>
            refine ⟨.pointer (some ⟨b, off + n.toNat * ei.size, none⟩), exec_v he ?_, .v0 (.ep _ b _ (fun j => us (n.toNat * ei.size + j)) (fun j hj => ?_) (fun j y hy => ?_)), fun _ _ _ h => by cases h⟩
            · simp only [Instr.indexAt, hri, asIntOf, Sem.run_bind, run_underlying hd, hrv, Result.andThen_ok, Sem.run_pure, Instr.sureAddr]
              rw [Sem.run_ite, if_pos hn]
              simp only [Sem.run_bind, hsz, Result.andThen_ok, Sem.run_pure, add_eq]
            · rw [List.length_drop] at hj
              rw [Nat.add_assoc]; exact hc _ (by omega)
            · rw [List.getElem?_drop] at hy; exact hr _ _ hy
        · exact absurd h (by simp)
      · exact absurd h (by simp)
    · rename_i len e v' off' _ harr hevx
      obtain rfl := TI.desc_arr harr
      have hrx := hx x
      rw [hevx] at hrx
      obtain ⟨b, hb, hrv⟩ := hrx.vp0
      split at h
      · rename_i ei hei
        have hsz := TI.sizeOf (hTT _ _ hei) w
        split at h
        · rename_i hn
          injection h with h; subst h
          refine ⟨.pointer (some ⟨b, off' + n.toNat * ei.size, none⟩), exec_v he ?_, .vp hb, fun _ _ _ h => by cases h⟩
          simp only [Instr.indexAt, hri, asIntOf, Sem.run_bind, run_underlying hd, hrv, Result.andThen_ok, Sem.run_pure, Instr.sureAddr]
          rw [Sem.run_ite, if_pos hn]
          simp only [Sem.run_bind, hsz, Result.andThen_ok, Sem.run_pure, add_eq]
        · exact absurd h (by simp)
      · exact absurd h (by simp)
    · exact absurd h (by simp)
  · exact absurd h (by simp)

theorem pure_field (hTT : ∀ t ti, TT t = some ti → TI.of P t = some ti) {s : TypeId} {x : Operand} {f : Nat} {o : Oper} (ho : o.op = .field s x f) {av : AV}
    (hx : ∀ y, RepT ρ C (ev y) (rv y)) (h : aPure TT st ev (.field s x f) = some av) :
    ∃ v, (execOp rv o).run P w = .ok (.value v) w ∧ RepT ρ C av v ∧ Src st ev rv ρ w o.op av v := by
  have he : (execOp rv o) = (do pure (Next.value (← Instr.field s (rv x) f))) := by simp only [execOp, ho]
  simp only [aPure] at h
  split at h
  · rename_i ft off cs hf hev
    obtain ⟨ti, hti, hf⟩ := Option.bind_eq_some_iff.1 hf
    obtain ⟨i, d, z, hi, hd, hz, hs, rfl⟩ := TI.of_some (hTT _ _ hti)
    obtain ⟨fs, rfl, g, hg, hg1, hg2⟩ := TI.desc_fld hf
    simp only [] at hg1 hg2
    have hrx := hx x
    rw [hev] at hrx
    have h0 := hrx.agg0
    split at h
    · rename_i fi hfi
      obtain ⟨y, hy, rfl⟩ := Option.map_eq_some_iff.1 h
      generalize hrv : rv x = vv at h0
      cases h0 with
      | agg _ us hl h1 hr =>
        obtain ⟨v, hv, hrep⟩ := part_sound (P := P) (w := w) (hTT _ _ hfi) hl h1 hr hy
        refine ⟨v, exec_v he ?_, .v0 hrep.st, Src.stt⟩
        simp only [Instr.field, Sem.run_bind, run_underlying hd, Result.andThen_ok, hg, hrv, asAgg, Sem.run_pure, hg1, hg2, hv]
    · exact absurd h (by simp)
  · exact absurd h (by simp)

theorem pure_index2 (hTT : ∀ t ti, TT t = some ti → TI.of P t = some ti) {t : TypeId} {x i : Operand} {o : Oper} (ho : o.op = .index t x i) {av : AV}
    (hx : ∀ y, RepT ρ C (ev y) (rv y)) (h : aPure TT st ev (.index t x i) = some av) :
    ∃ v, (execOp rv o).run P w = .ok (.value v) w ∧ RepT ρ C av v ∧ Src st ev rv ρ w o.op av v := by
  have he : (execOp rv o) = (do pure (Next.value (← Instr.index t (rv x) (rv i)))) := by simp only [execOp, ho]
  simp only [aPure] at h
  split at h
  · rename_i ti k n cs hti hev hevx
    obtain ⟨inf, d, z, hi, hd, hz, hs, rfl⟩ := TI.of_some (hTT _ _ hti)
    have hri : rv i = .int k n := by have := hx i; rw [hev] at this; exact this.int0
    have hrx := hx x
    rw [hevx] at hrx
    have h0 := hrx.agg0
    split at h
    · rename_i len e harr
      obtain rfl := TI.desc_arr harr
      split at h
      · rename_i ei hei
        have hsz := TI.sizeOf (hTT _ _ hei) w
        split at h
        · rename_i hn
          obtain ⟨y, hy, rfl⟩ := Option.map_eq_some_iff.1 h
          generalize hrv : rv x = vv at h0
          cases h0 with
          | agg _ us hl h1 hr =>
            obtain ⟨v, hv, hrep⟩ := part_sound (P := P) (w := w) (hTT _ _ hei) hl h1 hr hy
            refine ⟨v, exec_v he ?_, .v0 hrep.st, Src.stt⟩
            simp only [Instr.index, hri, asIntOf, Sem.run_bind, run_underlying hd, hrv, Result.andThen_ok, Sem.run_pure]
            rw [Sem.run_ite, if_pos hn]
            simp only [Sem.run_bind, hsz, Result.andThen_ok, hv]
        · exact absurd h (by simp)
      · exact absurd h (by simp)
    · exact absurd h (by simp)
  · exact absurd h (by simp)

theorem pure_build (hTT : ∀ t ti, TT t = some ti → TI.of P t = some ti) {t : TypeId} {parts : Array (Nat × Operand)} {o : Oper} (ho : o.op = .build t parts) {av : AV}
    (hx : ∀ y, RepT ρ C (ev y) (rv y)) (h : aPure TT st ev (.build t parts) = some av) :
    ∃ v, (execOp rv o).run P w = .ok (.value v) w ∧ RepT ρ C av v ∧ Src st ev rv ρ w o.op av v := by
  have he : (execOp rv o) = (do pure (Next.value (← Instr.build t (parts.map fun (i, x) => (i, rv x))))) := by simp only [execOp, ho]
  have hk : (parts.map fun (p : Nat × Operand) => (p.1, rv p.2)).toList.map (·.1) = (parts.toList.map fun p => (p.1, ev p.2)).map (·.1) := by simp
  have hv : ∀ (j : Nat) (p : Nat × AV) (v : Nat × Value), (parts.toList.map fun p => (p.1, ev p.2))[j]? = some p → (parts.map fun (p : Nat × Operand) => (p.1, rv p.2)).toList[j]? = some v → RepT ρ C p.2 v.2 := by
    intro j p v hp hv
    simp only [Array.toList_map, List.getElem?_map] at hp hv
    cases hq : parts.toList[j]? with
    | none => rw [hq] at hp; exact absurd hp (by simp)
    | some q => rw [hq] at hp hv; injection hp with hp; injection hv with hv; subst hp; subst hv; exact hx _
  simp only [aPure] at h
  split at h
  · rename_i ti hti
    obtain ⟨inf, d, z, hi, hd, hz, hs, rfl⟩ := TI.of_some (hTT _ _ hti)
    have hzero : (zeroValue t).run P w = .ok z w := by simp [zeroValue, typeInfo, hi, hz]
    have hzl : z.cells.size = (TI.desc d inf.size inf.bytes (z.cells.toList.map absz)).zero.length := by rw [TI.desc_zero]; simp
    have hzr : ∀ j x, (TI.desc d inf.size inf.bytes (z.cells.toList.map absz)).zero[j]? = some x → Rep0 C x (z.cells.getD j undef) := by
      intro j x hxx
      rw [TI.desc_zero, List.getElem?_map] at hxx
      obtain ⟨y, hy, rfl⟩ := Option.map_eq_some_iff.1 hxx
      have : z.cells.getD j undef = y := by
        rw [Array.getElem?_toList] at hy
        simp [Array.getD_eq_getD_getElem?, hy]
      rw [this]; exact Rep0.absz y
    split at h
    · rename_i n e harr
      obtain rfl := TI.desc_arr harr
      split at h
      · rename_i ei hei
        have hsz := TI.sizeOf (hTT _ _ hei) w
        obtain ⟨out, hout, rfl⟩ := Option.map_eq_some_iff.1 h
        obtain ⟨us', hf, hl', h1', hr'⟩ := fill_sound (ρ := ρ) _ _ _ _ _ hk hv hzl hs.2 hzr hout
        refine ⟨.agg us', exec_v he ?_, .v0 (.agg _ _ hl' h1' hr'), fun _ _ _ h => by cases h⟩
        simp only [Instr.build, Sem.run_bind, hzero, run_underlying hd, Result.andThen_ok, hsz]
        rw [hf]; rfl
      · exact absurd h (by simp)
    · split at h
      · rename_i harr hagg
        obtain ⟨ha, hall⟩ := hagg
        obtain ⟨out, hout, rfl⟩ := Option.map_eq_some_iff.1 h
        obtain ⟨us', hf, hl', h1', hr'⟩ := fill_sound (ρ := ρ) _ _ _ _ _ hk hv hzl hs.2 hzr hout
        refine ⟨.agg us', exec_v he ?_, .v0 (.agg _ _ hl' h1' hr'), fun _ _ _ h => by cases h⟩
        cases d with
        | struct fs =>
          have hm : (fs.mapM fun (f : Field) => do pure (f.offset, ← Go.sizeOf f.type)).run P w = .ok (fs.map fun (f : Field) => (f.offset, ((TT f.type).map TI.size).getD 0)) w := by
            refine run_mapM _ _ _ (fun f hf => ?_)
            have : (TT f.type).isSome = true := by
              have := List.all_eq_true.1 hall (f.type, f.offset) (by simp only [TI.desc]; exact List.mem_map.2 ⟨f, by simpa using hf, rfl⟩)
              exact this
            obtain ⟨fi, hfi⟩ := Option.isSome_iff_exists.1 this
            simp only [Sem.run_bind, TI.sizeOf (hTT _ _ hfi) w, Result.andThen_ok, Sem.run_pure, hfi]; rfl
          have hplace : (fun (i : Nat) => (fs.map fun (f : Field) => (f.offset, ((TT f.type).map TI.size).getD 0))[i]?) = (fun (i : Nat) => ((TI.desc (.struct fs) inf.size inf.bytes (z.cells.toList.map absz)).flds[i]?).bind fun (f : TypeId × Nat) => (TT f.1).map fun fi => (f.2, fi.size)) := by
            funext i
            simp only [TI.desc, Array.getElem?_map, List.getElem?_map, Array.getElem?_toList]
            cases hf : fs[i]? with
            | none => rfl
            | some f =>
              have : (TT f.type).isSome = true := by
                have := List.all_eq_true.1 hall (f.type, f.offset) (by simp only [TI.desc]; exact List.mem_map.2 ⟨f, by simpa using Array.mem_of_getElem? hf, rfl⟩)
                exact this
              obtain ⟨fi, hfi⟩ := Option.isSome_iff_exists.1 this
              simp [hfi]
          simp only [Instr.build, Sem.run_bind, hzero, run_underlying hd, Result.andThen_ok, hm]
          rw [hplace, hf]; rfl
        | array n e => exact absurd harr (by simp [TI.desc])
        | _ => exact absurd ha (by simp [TI.desc])
      · exact absurd h (by simp)
  · exact absurd h (by simp)
end
end Go.Sh
namespace Go.Sh
set_option linter.unusedVariables false
set_option linter.unusedSimpArgs false

section
variable {P : Program} {TT : TypeId → Option TI} {st : List (Option (List AV))} {ev : Operand → AV} {rv : Operand → Value} {ρ : Nat → Option Nat} {C : Cm} {w : World}

theorem pure_bin (hTT : ∀ t ti, TT t = some ti → TI.of P t = some ti) {op : BinOp} {t yt : TypeId} {x y : Operand} {o : Oper} (ho : o.op = .binOp op t x y yt) {av : AV}
    (hx : ∀ y, RepT ρ C (ev y) (rv y)) (h : aPure TT st ev (.binOp op t x y yt) = some av) :
    ∃ v, (execOp rv o).run P w = .ok (.value v) w ∧ RepT ρ C av v ∧ Src st ev rv ρ w o.op av v := by
  have he : (execOp rv o) = (do pure (Next.value (← (do eqGuard op t x y (rv x) (rv y); Go.binOp op t (rv x) (rv y))))) := by simp only [execOp, ho]
  simp only [aPure] at h
  split at h
  · rename_i a b hax hby
    have hrx : rv x = .bool a := by have := hx x; rw [hax] at this; exact this.bool0
    have hry : rv y = .bool b := by have := hx y; rw [hby] at this; exact this.bool0
    have fin : ∀ {r : Bool}, (Op.equal t (.bool a) (.bool b)).run P w = .ok (a == b) w → (op = .eql ∧ av = .bool (a == b)) ∨ (op = .neq ∧ av = .bool (a != b)) → ∃ v, (execOp rv o).run P w = .ok (.value v) w ∧ RepT ρ C av v ∧ Src st ev rv ρ w o.op av v := by
      intro r hr hor
      have hg : (eqGuard op t x y (rv x) (rv y)).run P w = .ok () w := by
        rw [hrx, hry]; unfold eqGuard; cases op <;> rfl
      rw [hrx, hry] at hg
      rcases hor with ⟨rfl, rfl⟩ | ⟨rfl, rfl⟩
      · refine ⟨.bool (a == b), exec_v he ?_, .v0 (.bool _), fun _ _ _ h => by cases h⟩
        simp only [Sem.run_bind, hrx, hry, hg, Result.andThen_ok, Go.binOp, hr, Sem.run_pure]
      · refine ⟨.bool (a != b), exec_v he ?_, .v0 (.bool _), fun _ _ _ h => by cases h⟩
        simp only [Sem.run_bind, hrx, hry, hg, Result.andThen_ok, Go.binOp, hr, Sem.run_pure]; rfl
    have heq : (TT t).map TI.isBool = some true → (Op.equal t (.bool a) (.bool b)).run P w = .ok (a == b) w := by
      intro hb
      obtain ⟨ti, hti, hb⟩ := Option.map_eq_some_iff.1 hb
      obtain ⟨inf, d, z, hi, hd, hz, hs, rfl⟩ := TI.of_some (hTT _ _ hti)
      obtain rfl := TI.desc_bool hb
      show (Op.equalIn (9999 + 1) t (.bool a) (.bool b)).run P w = _
      rw [Op.equalIn]
      simp only [Sem.run_bind, run_underlying hd, Result.andThen_ok, Sem.run_pure]
    split at h
    · rename_i hb; injection h with h; exact fin (r := true) (heq hb) (.inl ⟨rfl, h.symm⟩)
    · rename_i hb; injection h with h; exact fin (r := true) (heq hb) (.inr ⟨rfl, h.symm⟩)
    · exact absurd h (by simp)
  · obtain ⟨v, hv, hrep, hg⟩ := bin_sound (P := P) (w := w) (t := t) (hx x) (hx y) h
    refine ⟨v, exec_v he ?_, .v0 hrep, ?_⟩
    · simp only [Sem.run_bind, hg x y, Result.andThen_ok, hv]
    · intro n e rows hav
      subst hav
      cases hex : ev x <;> rw [hex] at h <;> try (simp only [aBin, reduceCtorEq] at h)
      cases hey : ev y <;> rw [hey] at h <;> try (simp only [aBin, reduceCtorEq] at h)
      try simp only [aBin] at h
      split at h
      · cases op <;> simp only [Option.some.injEq, reduceCtorEq] at h <;> (split at h <;> simp at h)
      · exact absurd h (by simp)

theorem pure_sound (hTT : ∀ t ti, TT t = some ti → TI.of P t = some ti) (hC : Holds C w) (hst : StAt ρ C w st) {o : Oper} {av : AV}
    (hx : ∀ y, RepT ρ C (ev y) (rv y)) (h : aPure TT st ev o.op = some av) :
    ∃ v, (execOp rv o).run P w = .ok (.value v) w ∧ RepT ρ C av v ∧ Src st ev rv ρ w o.op av v := by
  generalize ho : o.op = op at h
  rw [← ho]
  cases op with
  | move x =>
    simp only [aPure, Option.some.injEq] at h; subst h
    exact ⟨rv x, by simp only [execOp, ho]; rfl, hx x, fun n e rows h => .inl ⟨x, by rw [ho]; simp [Op.operands], rfl, rfl⟩⟩
  | assign x =>
    simp only [aPure, Option.some.injEq] at h; subst h
    exact ⟨rv x, by simp only [execOp, ho]; rfl, hx x, fun n e rows h => .inl ⟨x, by rw [ho]; simp [Op.operands], rfl, rfl⟩⟩
  | pick c a b =>
    simp only [aPure] at h
    split at h
    · rename_i t hc
      injection h with h; subst h
      have hrc : rv c = .bool t := by have := hx c; rw [hc] at this; exact this.bool0
      have he : (execOp rv o).run P w = .ok (.value (if t then rv a else rv b)) w := by
        simp only [execOp, ho, hrc, asBool, Sem.run_bind, Sem.run_pure, Result.andThen_ok]
      refine ⟨_, he, ?_, fun n e rows h => .inl ?_⟩
      · cases t
        · exact hx b
        · exact hx a
      · cases t
        · exact ⟨b, by rw [ho]; simp [Op.operands], rfl, rfl⟩
        · exact ⟨a, by rw [ho]; simp [Op.operands], rfl, rfl⟩
    · exact absurd h (by simp)
  | binOp op t x y yt => exact pure_bin hTT ho hx h
  | unOp op t x =>
    simp only [aPure] at h
    split at h
    · rename_i k n hev
      injection h with h; subst h
      have hr : rv x = .int k n := by have := hx x; rw [hev] at this; exact this.int0
      exact ⟨.int k (k.wrap (0 - n)), exec_v (s := Op.unary .neg (rv x)) (by simp only [execOp, ho]) (by rw [hr]; rfl), .v0 (.int _ _), fun _ _ _ h => by cases h⟩
    · rename_i b hev
      injection h with h; subst h
      have hr : rv x = .bool b := by have := hx x; rw [hev] at this; exact this.bool0
      exact ⟨.bool (!b), exec_v (s := Op.unary .not (rv x)) (by simp only [execOp, ho]) (by rw [hr]; rfl), .v0 (.bool _), fun _ _ _ h => by cases h⟩
    · exact absurd h (by simp)
  | convert s d x =>
    simp only [aPure] at h
    split at h
    · rename_i k' n ts k hev hs hk
      injection h with h; subst h
      have hr : rv x = .int k' n := by have := hx x; rw [hev] at this; exact this.int0
      obtain ⟨ti, hti, hk⟩ := Option.bind_eq_some_iff.1 hk
      obtain ⟨i, dd, z, hi, hd, hz, hsz, rfl⟩ := TI.of_some (hTT _ _ hti)
      obtain rfl := TI.desc_int hk
      obtain ⟨i2, dd2, z2, hi2, hd2, hz2, hsz2, rfl⟩ := TI.of_some (hTT _ _ hs)
      refine ⟨.int k (k.wrap n), exec_v (s := Go.convert s d (rv x)) (by simp only [execOp, ho]) ?_, .v0 (.int _ _), fun _ _ _ h => by cases h⟩
      simp only [Go.convert, Sem.run_bind, run_underlying hd2, run_underlying hd, Result.andThen_ok, hr]
      rfl
    · exact absurd h (by simp)
  | extract x i =>
    simp only [aPure] at h
    split at h
    · rename_i vs hev
      obtain ⟨y, hy, rfl⟩ := Option.map_eq_some_iff.1 h
      have hr := hx x
      rw [hev] at hr
      generalize hrv : rv x = vv at hr
      cases hr with
      | v0 hr => cases hr
      | tup us hl hr =>
        have hi : i < us.size := by rw [hl]; exact (List.getElem?_eq_some_iff.1 hy).1
        refine ⟨us.getD i undef, exec_v (s := Instr.extract (rv x) i) (by simp only [execOp, ho]) ?_, (hr i y hy).st, Src.stt⟩
        simp [Instr.extract, hrv, hi]
    · exact absurd h (by simp)
  | nilCheck x =>
    simp only [aPure] at h
    split at h
    · rename_i v' o' hev
      injection h with h; subst h
      have hr := hx x
      rw [hev] at hr
      obtain ⟨b, hb, hrv⟩ := hr.vp0
      exact ⟨_, by simp only [execOp, ho, hrv]; rfl, .vp hb, fun _ _ _ h => by cases h⟩
    · rename_i r hev
      injection h with h; subst h
      have hr := hx x
      rw [hev] at hr
      obtain ⟨b, off, us, hrv, hc, hrr⟩ := ep_at hr.ep0 hC
      refine ⟨_, by simp only [execOp, ho, hrv]; rfl, ?_, fun _ _ _ h => by cases h⟩
      rw [← hrv]; exact hr
    · exact absurd h (by simp)
  | makeFunc f first captured =>
    cases f with
    | func f =>
      simp only [aPure] at h
      split at h
      · rename_i h0
        injection h with h; subst h
        have hfirst : first = #[] := by simpa using h0
        subst hfirst
        refine ⟨.func (.func f) #[] (captured.map rv), exec_v (s := Instr.makeFunc (.func f) ((#[] : Array Operand).map rv) (captured.map rv)) (by simp only [execOp, ho]) (by simp [Instr.makeFunc]), .fn _ (by simp) ?_, fun _ _ _ h => by cases h⟩
        intro j y hy
        rw [List.getElem?_map] at hy
        obtain ⟨q, hq, rfl⟩ := Option.map_eq_some_iff.1 hy
        rw [Array.getElem?_toList] at hq
        have : (captured.map rv).getD j undef = rv q := by simp [Array.getD_eq_getD_getElem?, hq]
        rw [this]; exact (hx q).st
      · exact absurd h (by simp)
    | _ => exact absurd h (by simp [aPure])
  | fieldAddr s x f => exact pure_fieldAddr hTT ho (hx x) h
  | field s x f => exact pure_field hTT ho hx h
  | slice t x lo hi mx => exact pure_slice hTT ho hx h
  | indexAddr t x i => exact pure_index1 hTT hC ho hx h
  | index t x i => exact pure_index2 hTT ho hx h
  | load t x => exact pure_load hTT hC hst ho (hx x) h
  | build t parts => exact pure_build hTT ho hx h
  | call c =>
    have two : ∀ {x y : Operand}, c.args.toList = [x, y] → c.args = #[x, y] := fun h => by
      apply Array.ext'; simpa using h
    simp only [aPure] at h
    split at h
    · rename_i hcal
      split at h
      · rename_i t x hat hax
        split at h
        · rename_i e o' rows hel hev
          injection h with h; subst h
          obtain ⟨ti, hti, hel⟩ := Option.bind_eq_some_iff.1 hel
          obtain ⟨i, dd, z, hi, hd, hz, hsz, rfl⟩ := TI.of_some (hTT _ _ hti)
          obtain rfl := TI.desc_elem hel
          have hr := hx x
          rw [hev] at hr
          obtain ⟨a, cap, hrv, _⟩ := hr.sl0.len
          refine ⟨.int .i64 rows.length, ?_, .v0 (.int _ _), fun _ _ _ h => by cases h⟩
          have hargs : (c.args.map rv)[0]? = some (.slice a rows.length cap) := by simp [hax, hrv]
          simp only [execOp, ho, resolve, hcal, Sem.run_bind, Sem.run_pure, Result.andThen_ok, invoke, builtin, Builtin.len_, hat, hargs, run_underlying hd]
          rfl
        · exact absurd h (by simp)
      · exact absurd h (by simp)
    · rename_i hcal
      split at h
      · rename_i x y hxy
        split at h
        · rename_i k a k' b hex hey
          injection h with h; subst h
          have hr1 : rv x = .int k a := by have := hx x; rw [hex] at this; exact this.int0
          have hr2 : rv y = .int k' b := by have := hx y; rw [hey] at this; exact this.int0
          refine ⟨.int k (if b > a then b else a), ?_, .v0 (.int _ _), fun _ _ _ h => by cases h⟩
          simp only [execOp, ho, resolve, hcal, two hxy, Sem.run_bind, Sem.run_pure, Result.andThen_ok, invoke, builtin, Builtin.max_, List.map_toArray, List.map_cons, List.map_nil, hr1, hr2, List.foldlM_cons, List.foldlM_nil, Builtin.max2]
        · exact absurd h (by simp)
      · exact absurd h (by simp)
    · rename_i hcal
      split at h
      · rename_i x y hxy
        split at h
        · rename_i k a k' b hex hey
          injection h with h; subst h
          have hr1 : rv x = .int k a := by have := hx x; rw [hex] at this; exact this.int0
          have hr2 : rv y = .int k' b := by have := hx y; rw [hey] at this; exact this.int0
          refine ⟨.int k (if b < a then b else a), ?_, .v0 (.int _ _), fun _ _ _ h => by cases h⟩
          simp only [execOp, ho, resolve, hcal, two hxy, Sem.run_bind, Sem.run_pure, Result.andThen_ok, invoke, builtin, Builtin.min_, List.map_toArray, List.map_cons, List.map_nil, hr1, hr2, List.foldlM_cons, List.foldlM_nil, Builtin.min2]
        · exact absurd h (by simp)
      · exact absurd h (by simp)
    · exact absurd h (by simp)
  | _ => exact absurd h (by simp [aPure])
end
end Go.Sh
namespace Go.Sh
set_option linter.unusedVariables false
set_option linter.unusedSimpArgs false

structure Fr where
  tm : Nat → AV
  st : List (Option (List AV))
  nid : Nat
def Fr.put (fr : Fr) (d : Option Tmp) (av : AV) : Fr :=
  match d with
  | some d => { fr with tm := fun i => cond (Nat.beq i d) av (fr.tm i) }
  | none => fr
/-- a slice of the call's own: its block, its length, its capacity, its element type and that type's cells -/
structure OB where
  b : Nat
  n : Nat
  cap : Nat
  e : TypeId
  sz : Nat
structure Base where
  w : World
  k : Nat
  ρ : Nat → Option Nat
  C : Cm
  nt : Nat
  sz : TypeId → Nat
structure Env where
  C : Cm
  ρ : Nat → Option Nat
  η : Nat → Option OB
def OwnAt (C : Cm) (w : World) (ob : OB) : Prop :=
  ∃ cur, w.heap[ob.b]? = some (.cells cur ob.e (0, 0)) ∧ cur.size = ob.cap * ob.sz ∧ ob.n ≤ ob.cap ∧ ob.cap ≤ maxLen ∧ 0 < ob.sz ∧
    (∀ o, o < ob.n * ob.sz → C ob.b o = cur[o]?) ∧ (∀ o, ob.n * ob.sz ≤ o → C ob.b o = none)
def OwnV (η : Nat → Option OB) (n : Nat) (e : TypeId) (rows : List (List AV)) (v : Value) : Prop :=
  ∃ ob, η n = some ob ∧ ob.e = e ∧ ob.n = rows.length ∧ v = .slice (some ⟨ob.b, 0, none⟩) ob.n ob.cap ∧ ∀ r ∈ rows, r.length = ob.sz
structure Inv (B : Base) (E : Env) (fr : Fr) (a : Act) (w : World) : Prop where
  os : w.os = B.w.os
  tape : w.tape = B.w.tape
  out : w.output = B.w.output
  size : B.w.heap.size ≤ w.heap.size
  old : ∀ b, b < B.w.heap.size → (∀ v, v < B.k → B.ρ v ≠ some b) → w.heap[b]? = B.w.heap[b]?
  cold : ∀ b o, b < B.w.heap.size → E.C b o = B.C b o
  rold : ∀ v, v < B.k → E.ρ v = B.ρ v
  hold : Holds E.C w
  var : ∀ v cs, fr.st[v]? = some (some cs) → ∃ b, E.ρ v = some b ∧ VarAt E.ρ E.C w b cs ∧ (∀ o, E.C b o = none) ∧ (B.k ≤ v → B.w.heap.size ≤ b)
  vinj : ∀ v v' b, E.ρ v = some b → E.ρ v' = some b → v = v'
  rfin : ∀ v, (∀ cs, fr.st[v]? ≠ some (some cs)) → E.ρ v = none
  kst : B.k ≤ fr.st.length
  own : ∀ i ob, E.η i = some ob → OwnAt E.C w ob ∧ B.w.heap.size ≤ ob.b ∧ i < fr.nid ∧ ∀ v, E.ρ v ≠ some ob.b
  oinj : ∀ i j ob ob', E.η i = some ob → E.η j = some ob' → ob.b = ob'.b → i = j
  tm : ∀ t, RepT E.ρ E.C (fr.tm t) (a.tmps.getD t undef)
  tmo : ∀ t n e rows, fr.tm t = .sl (.id n e) rows → OwnV E.η n e rows (a.tmps.getD t undef)
  vao : ∀ v cs j n e rows b u, fr.st[v]? = some (some cs) → cs[j]? = some (.sl (.id n e) rows) → E.ρ v = some b → w.cell? ⟨b, j, none⟩ = some u → OwnV E.η n e rows u
  defers : a.defers = []
  tsz : a.tmps.size = B.nt
  osz : ∀ i ob, E.η i = some ob → ob.sz = B.sz ob.e

section
variable {B : Base} {E : Env} {fr : Fr} {a : Act} {w : World}

theorem Inv.stAt (h : Inv B E fr a w) : StAt E.ρ E.C w fr.st := fun v cs hv => let ⟨b, hb, hva, _⟩ := h.var v cs hv; ⟨b, hb, hva⟩

theorem put_tm_none (fr : Fr) (av : AV) : fr.put none av = fr := rfl
theorem put_getD {tm : Array Value} {d t : Nat} {v : Value} (hd : d < tm.size) : (tm.setIfInBounds d v).getD t undef = if t = d then v else tm.getD t undef := by
  simp only [Array.getD_eq_getD_getElem?, Array.getElem?_setIfInBounds]
  by_cases h : d = t
  · subst h; simp [hd]
  · rw [if_neg h, if_neg (Ne.symm h)]

theorem Inv.put (h : Inv B E fr a w) {d : Option Tmp} {av : AV} {v : Value} (hd : ∀ d', d = some d' → d' < B.nt) (hr : RepT E.ρ E.C av v)
    (ho : ∀ n e rows, av = .sl (.id n e) rows → OwnV E.η n e rows v) : Inv B E (fr.put d av) (a.put d v) w := by
  cases d with
  | none => exact h
  | some d =>
    have hlt : d < a.tmps.size := by rw [h.tsz]; exact hd d rfl
    have hg : ∀ t, (a.put (some d) v).tmps.getD t undef = if t = d then v else a.tmps.getD t undef := fun t => put_getD hlt
    have hf : ∀ t, (fr.put (some d) av).tm t = if t = d then av else fr.tm t := by
      intro t
      show cond (Nat.beq t d) av (fr.tm t) = _
      by_cases e : t = d
      · subst e; simp
      · rw [if_neg e]
        have : Nat.beq t d = false := Bool.eq_false_iff.2 (fun h => e (Nat.eq_of_beq_eq_true h))
        rw [this]; rfl
    refine { h with tm := ?_, tmo := ?_, tsz := ?_ }
    · intro t
      rw [hg, hf]
      split
      · exact hr
      · exact h.tm t
    · intro t n e rows he
      rw [hf] at he
      rw [hg]
      split
      · rename_i ht; rw [if_pos ht] at he; exact ho n e rows he
      · rename_i ht; rw [if_neg ht] at he; exact h.tmo t n e rows he
    · show (a.tmps.setIfInBounds d v).size = _
      rw [Array.size_setIfInBounds]; exact h.tsz

theorem cell_of_heap {w w' : World} {a : Addr} (h : w'.heap[a.block]? = w.heap[a.block]?) : w'.cell? a = w.cell? a := by simp [World.cell?, h]
theorem lt_of_heap {w : World} {b : Nat} {x : Obj} (h : w.heap[b]? = some x) : b < w.heap.size := (Array.getElem?_eq_some_iff.1 h).1

/-- the world grows; what is known of it grows in the new blocks -/
theorem Inv.grow (h : Inv B E fr a w) {w' : World} {C' : Cm} (hos : w'.os = w.os) (htape : w'.tape = w.tape) (hout : w'.output = w.output) (hsz : w.heap.size ≤ w'.heap.size)
    (hb : ∀ b, b < w.heap.size → w'.heap[b]? = w.heap[b]?) (hC : ∀ b o, b < w.heap.size → C' b o = E.C b o)
    (hn : ∀ b o u, w.heap.size ≤ b → C' b o = some u → w'.cell? ⟨b, o, none⟩ = some u ∧ u.oneCell' = true) : Inv B { E with C := C' } fr a w' := by
  have hle : ∀ b o u, E.C b o = some u → C' b o = some u := by
    intro b o u hu
    have := World.block_lt_of_cell? w _ (h.hold b o u hu).1
    rw [hC b o this]; exact hu
  refine ⟨hos.trans h.os, htape.trans h.tape, hout.trans h.out, Nat.le_trans h.size hsz, ?_, ?_, h.rold, ?_, ?_, h.vinj, h.rfin, h.kst, ?_, h.oinj, ?_, h.tmo, ?_, h.defers, h.tsz, h.osz⟩
  · intro b hlt hne
    rw [hb b (Nat.lt_of_lt_of_le hlt h.size)]; exact h.old b hlt hne
  · intro b o hlt
    exact (hC b o (Nat.lt_of_lt_of_le hlt h.size)).trans (h.cold b o hlt)
  · intro b o u hu
    rcases Nat.lt_or_ge b w.heap.size with hlt | hge
    · have hu' : E.C b o = some u := by rw [← hC b o hlt]; exact hu
      have := h.hold b o u hu'
      exact ⟨by rw [cell_of_heap (hb b hlt)]; exact this.1, this.2⟩
    · exact hn b o u hge hu
  · intro v cs hv
    obtain ⟨b, hρ, ⟨cur, e, hbl, hs, hr, h1⟩, hc, hk⟩ := h.var v cs hv
    have hlt := lt_of_heap hbl
    exact ⟨b, hρ, ⟨cur, e, (hb b hlt).trans hbl, hs, fun j x hx => (hr j x hx).mono hle (fun _ _ h => h), h1⟩, fun o => (hC b o hlt).trans (hc o), hk⟩
  · intro i ob hi
    obtain ⟨⟨cur, hbl, h1, h2, h3, h4, h5, h6⟩, h7, h8, h9⟩ := h.own i ob hi
    have hlt := lt_of_heap hbl
    exact ⟨⟨cur, (hb _ hlt).trans hbl, h1, h2, h3, h4, fun o ho => (hC _ o hlt).trans (h5 o ho), fun o ho => (hC _ o hlt).trans (h6 o ho)⟩, h7, h8, h9⟩
  · intro t; exact (h.tm t).mono hle (fun _ _ h => h)
  · intro v cs j n e rows b u hv hj hρ hu
    obtain ⟨b', hρ', ⟨cur, e', hbl, _⟩, _⟩ := h.var v cs hv
    obtain rfl : b' = b := Option.some.inj (hρ'.symm.trans hρ)
    rw [cell_of_heap (hb b' (lt_of_heap hbl))] at hu
    exact h.vao v cs j n e rows b' u hv hj hρ hu

theorem Inv.drew (h : Inv B E fr a w) : Inv B E fr a w.drew := by
  have := h.grow (w' := w.drew) (C' := E.C) rfl rfl rfl (Nat.le_refl _) (fun _ _ => rfl) (fun _ _ _ => rfl) (fun b o u hb hu => absurd (World.block_lt_of_cell? w _ (h.hold b o u hu).1) (by show ¬ b < w.heap.size; omega))
  exact this

/-- a block of the call's own becomes a variable -/
theorem Inv.setVar (h : Inv B E fr a w) {i b : Nat} {cs : List AV} (hi : fr.st[i]? = some none) (hva : VarAt E.ρ E.C w b cs) (hb : B.w.heap.size ≤ b) (hc : ∀ o, E.C b o = none) (hρ : ∀ v, E.ρ v ≠ some b) (hη : ∀ i ob, E.η i = some ob → ob.b ≠ b)
    (hvo : ∀ j n e rows u, cs[j]? = some (.sl (.id n e) rows) → w.cell? ⟨b, j, none⟩ = some u → OwnV E.η n e rows u) (hk : B.k ≤ i) :
    Inv B { E with ρ := fun v => if v = i then some b else E.ρ v } { fr with st := fr.st.set i (some cs) } a w := by
  have hilt : i < fr.st.length := (List.getElem?_eq_some_iff.1 hi).1
  have hri : E.ρ i = none := h.rfin i (fun cs e => by rw [hi] at e; cases e)
  have hle : ∀ v b', E.ρ v = some b' → (if v = i then some b else E.ρ v) = some b' := by
    intro v b' hv
    have : v ≠ i := fun e => by rw [e, hri] at hv; cases hv
    rw [if_neg this]; exact hv
  have hget : ∀ (v : Nat) (cs' : List AV), (fr.st.set i (some cs))[v]? = some (some cs') → (v = i ∧ cs' = cs) ∨ (v ≠ i ∧ fr.st[v]? = some (some cs')) := by
    intro v cs' hv
    by_cases e : v = i
    · subst e
      rw [List.getElem?_set_self hilt] at hv
      injection hv with hv; injection hv with hv
      exact .inl ⟨rfl, hv.symm⟩
    · rw [List.getElem?_set_ne (Ne.symm e)] at hv
      exact .inr ⟨e, hv⟩
  refine ⟨h.os, h.tape, h.out, h.size, h.old, h.cold, ?_, h.hold, ?_, ?_, ?_, ?_, ?_, h.oinj, ?_, h.tmo, ?_, h.defers, h.tsz, h.osz⟩
  · intro v hv
    have : v ≠ i := by omega
    show (if v = i then some b else E.ρ v) = _
    rw [if_neg this]; exact h.rold v hv
  · intro v cs' hv
    rcases hget v cs' hv with ⟨rfl, rfl⟩ | ⟨hne, hv⟩
    · obtain ⟨cur, e, hbl, hs, hr, h1⟩ := hva
      exact ⟨b, if_pos rfl, ⟨cur, e, hbl, hs, fun j x hx => (hr j x hx).mono (fun _ _ _ h => h) hle, h1⟩, hc, fun _ => hb⟩
    · obtain ⟨b', hρ', ⟨cur, e', hbl, hs, hr, h1⟩, hc', hk⟩ := h.var v cs' hv
      exact ⟨b', hle v b' hρ', ⟨cur, e', hbl, hs, fun j x hx => (hr j x hx).mono (fun _ _ _ h => h) hle, h1⟩, hc', hk⟩
  · intro v v' b' hv hv'
    simp only [] at hv hv'
    split at hv <;> split at hv'
    · rename_i e1 e2; rw [e1, e2]
    · injection hv with hv; subst hv; exact absurd hv' (hρ v')
    · injection hv' with hv'; subst hv'; exact absurd hv (hρ v)
    · exact h.vinj v v' b' hv hv'
  · intro v hv
    show (if v = i then some b else E.ρ v) = none
    have hne : v ≠ i := fun e => by subst e; exact hv cs (List.getElem?_set_self hilt)
    rw [if_neg hne]
    exact h.rfin v (fun cs' e => hv cs' (by show (fr.st.set i (some cs))[v]? = _; rw [List.getElem?_set_ne (Ne.symm hne)]; exact e))
  · show B.k ≤ (fr.st.set i (some cs)).length
    rw [List.length_set]; exact h.kst
  · intro j ob hj
    obtain ⟨h1, h2, h3, h4⟩ := h.own j ob hj
    refine ⟨h1, h2, h3, fun v => ?_⟩
    show (if v = i then some b else E.ρ v) ≠ _
    split
    · intro e; injection e with e; exact hη j ob hj e.symm
    · exact h4 v
  · intro t; exact (h.tm t).mono (fun _ _ _ h => h) hle
  · intro v cs' j n e rows b' u hv hj hρ' hu
    rcases hget v cs' hv with ⟨rfl, rfl⟩ | ⟨hne, hv⟩
    · have : b = b' := by
        have h2 : (if v = v then some b else E.ρ v) = some b' := hρ'
        rw [if_pos rfl] at h2; exact Option.some.inj h2
      subst this
      exact hvo j n e rows u hj hu
    · have h2 : (if v = i then some b else E.ρ v) = some b' := hρ'
      rw [if_neg hne] at h2
      exact h.vao v cs' j n e rows b' u hv hj h2 hu
/-- places for variables to come -/
theorem Inv.room (h : Inv B E fr a w) (n : Nat) : Inv B E { fr with st := fr.st ++ List.replicate n none } a w := by
  have hget : ∀ (v : Nat) (cs : List AV), (fr.st ++ List.replicate n none)[v]? = some (some cs) ↔ fr.st[v]? = some (some cs) := by
    intro v cs
    rcases Nat.lt_or_ge v fr.st.length with hlt | hge
    · rw [List.getElem?_append_left hlt]
    · rw [List.getElem?_append_right hge, List.getElem?_replicate]
      constructor
      · intro e; split at e <;> simp at e
      · intro e; have := (List.getElem?_eq_some_iff.1 e).1; omega
  exact { h with
    var := fun v cs hv => h.var v cs ((hget v cs).1 hv)
    rfin := fun v hv => h.rfin v (fun cs e => hv cs ((hget v cs).2 e))
    kst := by show B.k ≤ (fr.st ++ List.replicate n none).length; rw [List.length_append]; have := h.kst; omega
    vao := fun v cs j n' e rows b u h1 => h.vao v cs j n' e rows b u ((hget v cs).1 h1) }

/-- a block of the call's own becomes an own slice -/
theorem Inv.setOwn (h : Inv B E fr a w) {i : Nat} {ob : OB} (hi : E.η i = none) (hin : i < fr.nid) (ha : OwnAt E.C w ob) (hsz : ob.sz = B.sz ob.e) (hb : B.w.heap.size ≤ ob.b) (hρ : ∀ v, E.ρ v ≠ some ob.b) (hη : ∀ i ob', E.η i = some ob' → ob'.b ≠ ob.b) :
    Inv B { E with η := fun j => if j = i then some ob else E.η j } fr a w := by
  have hle : ∀ n e rows v, OwnV E.η n e rows v → OwnV (fun j => if j = i then some ob else E.η j) n e rows v := by
    rintro n e rows v ⟨ob', h1, h2⟩
    have : n ≠ i := fun e => by rw [e, hi] at h1; cases h1
    exact ⟨ob', by show (if n = i then some ob else E.η n) = _; rw [if_neg this]; exact h1, h2⟩
  refine ⟨h.os, h.tape, h.out, h.size, h.old, h.cold, h.rold, h.hold, h.var, h.vinj, h.rfin, h.kst, ?_, ?_, h.tm, fun t n e rows he => hle _ _ _ _ (h.tmo t n e rows he), fun v cs j n e rows b u h1 h2 h3 h4 => hle _ _ _ _ (h.vao v cs j n e rows b u h1 h2 h3 h4), h.defers, h.tsz, ?_⟩
  · intro j ob' hj
    simp only [] at hj
    split at hj
    · rename_i e; injection hj with hj; subst hj; subst e
      exact ⟨ha, hb, hin, hρ⟩
    · exact h.own j ob' hj
  · intro j1 j o1 o2 hj1 hj he
    simp only [] at hj1 hj
    split at hj1 <;> split at hj
    · rename_i e1 e2; rw [e1, e2]
    · injection hj1 with hj1; subst hj1; exact absurd he.symm (hη j o2 hj)
    · injection hj with hj; subst hj; exact absurd he (hη j1 o1 hj1)
    · exact h.oinj j1 j o1 o2 hj1 hj he
  · intro j ob' hj
    simp only [] at hj
    split at hj
    · injection hj with hj; subst hj; exact hsz
    · exact h.osz j ob' hj
/-- more numbers for own slices -/
theorem Inv.moreIds (h : Inv B E fr a w) {n : Nat} (hn : fr.nid ≤ n) : Inv B E { fr with nid := n } a w :=
  { h with own := fun i ob hi => let ⟨h1, h2, h3, h4⟩ := h.own i ob hi; ⟨h1, h2, Nat.lt_of_lt_of_le h3 hn, h4⟩ }
theorem Inv.freeId (h : Inv B E fr a w) {i : Nat} (hi : fr.nid ≤ i) : E.η i = none := by
  cases he : E.η i with
  | none => rfl
  | some ob => have := (h.own i ob he).2.2.1; omega
end
end Go.Sh
namespace Go.Sh
set_option linter.unusedVariables false
set_option linter.unusedSimpArgs false

def AV.scells : AV → List AV
  | .agg cs => cs.map AV.kf
  | v => [v]
def AV.kill (i : Nat) : AV → AV
  | .sl (.id n e) rows => .sl (cond (Nat.beq n i) .no (.id n e)) rows
  | v => v
def Fr.kill (fr : Fr) (i : Nat) : Fr := { fr with tm := fun t => (fr.tm t).kill i, st := fr.st.map (·.map (·.map (AV.kill i))) }

theorem scells_length (v : AV) : v.scells.length = v.cells.length := by cases v <;> simp [AV.scells, AV.cells]

section
variable {P : Program} {B : Base} {E : Env} {fr : Fr} {a : Act} {w : World} {ρ : Nat → Option Nat} {C : Cm}

theorem RepT.scells {av : AV} {v : Value} (h : RepT ρ C av v) (hb : av.ok = true) : v.cells.size = av.scells.length ∧ (∀ j, j < v.cells.size → (v.cells.getD j undef).oneCell' = true) ∧
    (∀ j x, av.scells[j]? = some x → RepT ρ C x (v.cells.getD j undef)) ∧ (∀ j n e rows, av.scells[j]? = some (.sl (.id n e) rows) → av = .sl (.id n e) rows ∧ j = 0 ∧ v.cells.getD 0 undef = v) := by
  obtain ⟨h1, h2, h3⟩ := h.cells hb
  refine ⟨by rw [scells_length]; exact h1, h2, ?_, ?_⟩
  · intro j x hx
    cases av with
    | agg cs =>
      simp only [AV.scells, List.getElem?_map] at hx
      obtain ⟨y, hy, rfl⟩ := Option.map_eq_some_iff.1 hx
      exact .v0 (h3 j y hy).kf
    | _ => exact h3 j x hx
  · intro j n e rows hj
    cases av with
    | agg cs =>
      simp only [AV.scells, List.getElem?_map] at hj
      obtain ⟨y, hy, hy2⟩ := Option.map_eq_some_iff.1 hj
      exact absurd hy2 kf_id
    | sl o r =>
      cases j with
      | zero =>
        simp only [AV.scells, List.getElem?_cons_zero, Option.some.injEq] at hj
        refine ⟨hj, rfl, ?_⟩
        obtain ⟨a', cap, hv, _⟩ := h.sl0.len
        rw [hv]; rfl
      | succ j => exact absurd hj (by simp [AV.scells])
    | _ =>
      cases j with
      | zero => simp [AV.scells] at hj
      | succ j => exact absurd hj (by simp [AV.scells])

/-- a new block of cells: a variable at place i -/
theorem Inv.newVar (h : Inv B E fr a w) {i : Nat} (hi : fr.st[i]? = some none) (hk : B.k ≤ i) {cs : List AV} {arr : Array Value} (e : TypeId) (hs : arr.size = cs.length)
    (h1 : ∀ j, j < arr.size → (arr.getD j undef).oneCell' = true) (hr : ∀ j x, cs[j]? = some x → RepT E.ρ E.C x (arr.getD j undef))
    (ho : ∀ j n e rows, cs[j]? = some (.sl (.id n e) rows) → OwnV E.η n e rows (arr.getD j undef)) :
    Inv B { E with ρ := fun v => if v = i then some w.heap.size else E.ρ v } { fr with st := fr.st.set i (some cs) } a (w.alloc (.cells arr e)) := by
  have hg := h.grow (w' := w.alloc (.cells arr e)) (C' := E.C) rfl rfl rfl (by show _ ≤ (w.heap.push _).size; simp) (fun b hb => Go.RowKit.Below.heap_alloc w _ b hb) (fun _ _ _ => rfl)
    (fun b o u hb hu => absurd (World.block_lt_of_cell? w _ (h.hold b o u hu).1) (by show ¬ b < w.heap.size; omega))
  have hnew : (w.alloc (.cells arr e)).heap[w.heap.size]? = some (.cells arr e (0, 0)) := heap_alloc_new w _
  have hlt : ∀ v b, E.ρ v = some b → b < w.heap.size := by
    intro v b hv
    by_cases hex : ∃ cs, fr.st[v]? = some (some cs)
    · obtain ⟨cs', hcs⟩ := hex
      obtain ⟨b', hb', ⟨cur, e', hbl, _⟩, _⟩ := h.var v cs' hcs
      obtain rfl : b' = b := Option.some.inj (hb'.symm.trans hv)
      exact lt_of_heap hbl
    · rw [h.rfin v (fun cs e => hex ⟨cs, e⟩)] at hv; cases hv
  refine hg.setVar hi (cs := cs) (b := w.heap.size) ⟨arr, e, hnew, hs, hr, h1⟩ h.size (fun o => ?_) (fun v e' => ?_) (fun j ob hj e' => ?_) (fun j n e' rows u hj hu => ?_) hk
  · cases hc : E.C w.heap.size o with
    | none => rfl
    | some u => exact absurd (World.block_lt_of_cell? w _ (h.hold _ _ _ hc).1) (by show ¬ w.heap.size < w.heap.size; omega)
  · have := hlt v _ e'; omega
  · obtain ⟨⟨cur, hbl, _⟩, _⟩ := h.own j ob hj
    have := lt_of_heap hbl; omega
  · have hjl : j < arr.size := by rw [hs]; exact (List.getElem?_eq_some_iff.1 hj).1
    have : u = arr.getD j undef := by
      have e2 : (w.alloc (.cells arr e)).cell? ⟨w.heap.size, j, none⟩ = some (arr.getD j undef) := by rw [World.cell?_alloc_new]; simp [Array.getD, hjl]
      rw [e2] at hu; exact (Option.some.inj hu).symm
    rw [this]; exact ho j n e' rows hj

theorem Inv.var_lt (h : Inv B E fr a w) {v b : Nat} (hv : E.ρ v = some b) : b < w.heap.size ∧ ∃ cs, fr.st[v]? = some (some cs) := by
  by_cases hex : ∃ cs, fr.st[v]? = some (some cs)
  · obtain ⟨cs', hcs⟩ := hex
    obtain ⟨b', hb', ⟨cur, e', hbl, _⟩, _⟩ := h.var v cs' hcs
    obtain rfl : b' = b := Option.some.inj (hb'.symm.trans hv)
    exact ⟨lt_of_heap hbl, cs', hcs⟩
  · rw [h.rfin v (fun cs e => hex ⟨cs, e⟩)] at hv; cases hv

/-- a new block of cells that stay (the first m of them): slices and what is put together -/
theorem Inv.newRow (h : Inv B E fr a w) (arr : Array Value) (e : TypeId) (m : Nat) (h1 : ∀ j, j < m → j < arr.size → (arr.getD j undef).oneCell' = true) :
    Inv B { E with C := fun b o => if b = w.heap.size then (if o < m then arr[o]? else none) else E.C b o } fr a (w.alloc (.cells arr e)) := by
  have hnew : (w.alloc (.cells arr e)).heap[w.heap.size]? = some (.cells arr e (0, 0)) := heap_alloc_new w _
  refine h.grow (w' := w.alloc (.cells arr e)) rfl rfl rfl (by show _ ≤ (w.heap.push _).size; simp) (fun b hb => Go.RowKit.Below.heap_alloc w _ b hb) (fun b o hb => if_neg (by omega)) ?_
  intro b o u hb hu
  split at hu
  · rename_i hbe
    subst hbe
    split at hu
    · rename_i ho
      have hlt : o < arr.size := (Array.getElem?_eq_some_iff.1 hu).1
      refine ⟨by rw [World.cell?_alloc_new]; exact hu, ?_⟩
      have := h1 o ho hlt
      have e2 : arr.getD o undef = u := by simp [Array.getD_eq_getD_getElem?, hu]
      rw [e2] at this; exact this
    · cases hu
  · exact absurd (World.block_lt_of_cell? w _ (h.hold b o u hu).1) (by show ¬ b < w.heap.size; omega)
end
end Go.Sh
namespace Go.Sh
set_option linter.unusedVariables false
set_option linter.unusedSimpArgs false

abbrev Gl := Nat → Option (List AV)
def Fr.ev (fr : Fr) (G : Gl) : Operand → AV
  | .tmp t => fr.tm t
  | .const c => absz c
  | .global g => match G g with
    | some row => .ep row
    | none => .bad
  | .func f => .fn f []
def GOk (P : Program) (G : Gl) (B : Base) : Prop := Holds B.C B.w ∧ (∀ g row, G g = some row → Rep0 B.C (.ep row) (.pointer (some ⟨g, 0, none⟩))) ∧ ∀ e i, P.info? e = some i → B.sz e = i.size

theorem exec_vw {P : Program} {rv : Operand → Value} {o : Oper} {w w' : World} {s : Sem Value} {v : Value} (h : (execOp rv o) = (do pure (Next.value (← s)))) (hs : s.run P w = .ok v w') : (execOp rv o).run P w = .ok (.value v) w' := by
  rw [h]; simp only [Sem.run_bind, hs, Result.andThen_ok, Sem.run_pure]

section
variable {P : Program} {TT : TypeId → Option TI} {G : Gl} {B : Base} {E : Env} {fr : Fr} {a : Act} {w : World} {o : Oper} {K : Act → World → Prop} {Q : Exit → Act → World → Prop}

theorem Inv.cle {P : Program} {G : Gl} (h : Inv B E fr a w) (hG : GOk P G B) : ∀ b o u, B.C b o = some u → E.C b o = some u := by
  intro b o u hu
  rw [h.cold b o (World.block_lt_of_cell? B.w _ (hG.1 b o u hu).1)]; exact hu
theorem Inv.ev {P : Program} (h : Inv B E fr a w) (hG : GOk P G B) (x : Operand) : RepT E.ρ E.C (fr.ev G x) (a.eval x) := by
  cases x with
  | tmp t => exact h.tm t
  | const c => exact .v0 (Rep0.absz c)
  | global g =>
    simp only [Fr.ev]
    split
    · rename_i row hg; exact .v0 ((hG.2.1 g row hg).mono (h.cle hG))
    · exact .v0 (.bad _)
  | func f => exact .fn #[] rfl (fun j x hx => absurd hx (by simp))
theorem Inv.evo (h : Inv B E fr a w) (x : Operand) (n : Nat) (e : TypeId) (rows : List (List AV)) (hx : fr.ev G x = .sl (.id n e) rows) : OwnV E.η n e rows (a.eval x) := by
  cases x with
  | tmp t => exact h.tmo t n e rows hx
  | const c =>
    simp only [Fr.ev] at hx
    cases c with
    | slice a l c =>
      cases a with
      | some a => exact absurd hx (by simp [absz])
      | none =>
        cases l with
        | succ l => exact absurd hx (by simp [absz])
        | zero =>
          cases c with
          | succ c => exact absurd hx (by simp [absz])
          | zero => exact absurd hx (by simp [absz])
    | _ => exact absurd hx (by simp [absz])
  | global g =>
    simp only [Fr.ev] at hx
    split at hx <;> exact absurd hx (by simp)
  | func f => exact absurd hx (by simp [Fr.ev])

theorem pure_wp (hTT : ∀ t ti, TT t = some ti → TI.of P t = some ti) (h : Inv B E fr a w) (hG : GOk P G B) (hd : ∀ d', o.dst = some d' → d' < B.nt) {av : AV} (hp : aPure TT fr.st (fr.ev G) o.op = some av)
    (hK : ∀ v, (∀ n e rows, av = .sl (.id n e) rows → OwnV E.η n e rows v) → RepT E.ρ E.C av v → (Inv B E (fr.put o.dst av) (a.put o.dst v) w → K (a.put o.dst v) w)) : o.wp P a w K Q := by
  obtain ⟨v, hv, hr, hs⟩ := pure_sound (P := P) hTT h.hold h.stAt (h.ev hG) hp
  have hown : ∀ n e rows, av = .sl (.id n e) rows → OwnV E.η n e rows v := by
    intro n e rows hav
    rcases hs n e rows hav with ⟨x, _, hx, rfl⟩ | ⟨i, o', cs, b, h1, h2, h3, h4⟩
    · exact h.evo x n e rows (hx.trans hav)
    · exact h.vao i cs o' n e rows b v h1 (hav ▸ h2) h3 h4
  unfold Oper.wp
  rw [hv]
  exact hK v hown hr (h.put hd hr hown)

theorem list_set_append (l : List (Option (List AV))) (x : Option (List AV)) : (l ++ [none]).set l.length x = l ++ [x] := by
  rw [List.set_append_right _ _ (Nat.le_refl _), Nat.sub_self]; rfl

theorem alloc_run {ti : TI} {t : TypeId} (hT : TI.of P t = some ti) (ho : o.op = .alloc t) : ∃ z : Value, z.cells.size = ti.zero.length ∧ (∀ j, j < z.cells.size → (z.cells.getD j undef).oneCell' = true) ∧ (∀ C j x, ti.zero[j]? = some x → Rep0 C x (z.cells.getD j undef)) ∧
    (∀ w, (execOp a.eval o).run P w = .ok (.value (.pointer (some ⟨w.heap.size, 0, none⟩))) (w.alloc (.cells z.cells t))) := by
  obtain ⟨i, d, z, hi, hd, hz, hs, rfl⟩ := TI.of_some hT
  refine ⟨z, by rw [TI.desc_zero]; simp, hs.2, ?_, ?_⟩
  · intro C j x hxx
    rw [TI.desc_zero, List.getElem?_map] at hxx
    obtain ⟨y, hy, rfl⟩ := Option.map_eq_some_iff.1 hxx
    have : z.cells.getD j undef = y := by
      rw [Array.getElem?_toList] at hy
      simp [Array.getD_eq_getD_getElem?, hy]
    rw [this]; exact Rep0.absz y
  · intro w
    refine exec_vw (rv := a.eval) (o := o) (s := Instr.alloc t true (.tuple #[])) (by simp only [execOp, ho]) ?_
    simp [Instr.alloc, zeroValue, typeInfo, hi, hz, newVar, newRow]

theorem absz_id {v : Value} {n : Nat} {e : TypeId} {rows : List (List AV)} : absz v ≠ .sl (.id n e) rows := by
  intro hx
  cases v with
  | slice a l c =>
    cases a with
    | some a => exact absurd hx (by simp [absz])
    | none =>
      cases l with
      | succ l => exact absurd hx (by simp [absz])
      | zero =>
        cases c with
        | succ c => exact absurd hx (by simp [absz])
        | zero => exact absurd hx (by simp [absz])
  | _ => exact absurd hx (by simp [absz])
theorem zero_id {ti : TI} {t : TypeId} (hT : TI.of P t = some ti) {j n : Nat} {e : TypeId} {rows : List (List AV)} : ti.zero[j]? ≠ some (.sl (.id n e) rows) := by
  obtain ⟨i, d, z, hi, hd, hz, hs, rfl⟩ := TI.of_some hT
  rw [TI.desc_zero, List.getElem?_map]
  intro h
  obtain ⟨y, hy, h⟩ := Option.map_eq_some_iff.1 h
  exact absz_id h

theorem alloc_wp (hTT : ∀ t ti, TT t = some ti → TI.of P t = some ti) (h : Inv B E fr a w) (hd : ∀ d', o.dst = some d' → d' < B.nt) {t : TypeId} {ti : TI} (ho : o.op = .alloc t) (ht : TT t = some ti)
    {i : Nat} (hi : fr.st[i]? = some none) (hk : B.k ≤ i)
    (hK : ∀ E' a' w', E'.η = E.η → Inv B E' ({ fr with st := fr.st.set i (some ti.zero) }.put o.dst (.vp i 0)) a' w' → K a' w') : o.wp P a w K Q := by
  obtain ⟨z, hz1, hz2, hz3, hrun⟩ := alloc_run (o := o) (a := a) (hTT _ _ ht) ho
  unfold Oper.wp
  rw [hrun w]
  have hn := h.newVar hi hk (cs := ti.zero) t hz1 hz2 (fun j x hx => .v0 (hz3 _ j x hx)) (fun j n e rows hj => absurd hj (zero_id (hTT _ _ ht)))
  refine hK _ _ _ ?_ (hn.put hd (.vp (by show (if i = i then _ else _) = _; rw [if_pos rfl])) (fun _ _ _ h => by cases h))
  rfl

theorem box_wp (h : Inv B E fr a w) (hG : GOk P G B) (hd : ∀ d', o.dst = some d' → d' < B.nt) {t : TypeId} {x : Operand} (ho : o.op = .box t x) (hok : (fr.ev G x).ok = true)
    {i : Nat} (hi : fr.st[i]? = some none) (hk : B.k ≤ i)
    (hK : ∀ E' a' w', E'.η = E.η → Inv B E' ({ fr with st := fr.st.set i (some (fr.ev G x).scells) }.put o.dst (.vp i 0)) a' w' → K a' w') : o.wp P a w K Q := by
  obtain ⟨h1, h2, h3, h4⟩ := (h.ev hG x).scells hok
  have hrun : (execOp a.eval o).run P w = .ok (.value (.pointer (some ⟨w.heap.size, 0, none⟩))) (w.alloc (.cells (a.eval x).cells t)) := by
    refine exec_vw (rv := a.eval) (o := o) (s := Instr.box t (a.eval x)) (by simp only [execOp, ho]) ?_
    simp [Instr.box, newVar, newRow]
  unfold Oper.wp
  rw [hrun]
  have hn := h.newVar hi hk (cs := (fr.ev G x).scells) t h1 h2 h3 (fun j n e rows hj => by
    obtain ⟨e1, rfl, e2⟩ := h4 j n e rows hj
    rw [e2]; exact h.evo x n e rows e1)
  refine hK _ _ _ ?_ (hn.put hd (.vp (by show (if i = i then _ else _) = _; rw [if_pos rfl])) (fun _ _ _ h => by cases h))
  rfl
end
end Go.Sh
namespace Go.Sh
set_option linter.unusedVariables false
set_option linter.unusedSimpArgs false

theorem seg_get {us : Array Value} {vs : List Value} {off : Nat} (h : off + vs.length ≤ us.size) (j : Nat) :
    (us.toList.take off ++ vs ++ us.toList.drop (off + vs.length)).toArray.getD j undef = if off ≤ j ∧ j < off + vs.length then vs.getD (j - off) undef else us.getD j undef := by
  rw [← getD_toList]
  simp only []
  have hlen : (us.toList.take off).length = off := by simp; omega
  rcases Nat.lt_or_ge j off with hj | hj
  · rw [if_neg (by omega), List.append_assoc, List.getD, List.getElem?_append_left (by omega), List.getElem?_take, if_pos hj]
    simp [Array.getD_eq_getD_getElem?]
  · rcases Nat.lt_or_ge j (off + vs.length) with hj2 | hj2
    · rw [if_pos ⟨hj, hj2⟩, List.append_assoc, List.getD, List.getElem?_append_right (by omega), List.getElem?_append_left (by omega), hlen]
      rfl
    · rw [if_neg (by omega), List.getD, List.getElem?_append_right (by simp; omega), List.getElem?_drop]
      have e1 : off + vs.length + (j - (us.toList.take off ++ vs).length) = j := by
        simp only [List.length_append, hlen]; omega
      rw [e1]
      simp [Array.getD_eq_getD_getElem?]

theorem fill_one {place : Nat → Option (Nat × Nat)} {us : Array Value} {i off size : Nat} {v : Value} {rest : List (Nat × Value)} (hp : place i = some (off, size)) (hs : v.cells.size = size) (hl : off + size ≤ us.size) :
    Instr.fill place us ((i, v) :: rest) = Instr.fill place (us.toList.take off ++ v.cells.toList ++ us.toList.drop (off + v.cells.toList.length)).toArray rest := by
  rw [Instr.fill]
  simp only [hp]
  rw [if_neg (by simp only [ne_eq, Bool.or_eq_true, decide_eq_true_eq, not_or, Decidable.not_not]; omega)]
  have hfold : v.cells.zipIdx.foldl (fun cs (x : Value × Nat) => cs.setIfInBounds (off + x.2) x.1) us = (us.toList.take off ++ v.cells.toList ++ us.toList.drop (off + v.cells.size)).toArray := by
    have := foldl_set v.cells.toList 0 off us (by simp; omega)
    rw [← Array.foldl_toList, Array.toList_zipIdx]
    simpa using this
  rw [Array.length_toList, ← hfold]

theorem fill_rows (sz : Nat) : ∀ (vals : List (Nat × Value)) (k : Nat) (us : Array Value), vals.map (·.1) = List.range' k vals.length → (∀ v ∈ vals, v.2.cells.size = sz) → (k + vals.length) * sz ≤ us.size →
    ∃ us', Instr.fill (fun i => some (i * sz, sz)) us vals = some us' ∧ us'.size = us.size ∧ (∀ j, j < k * sz → us'.getD j undef = us.getD j undef) ∧
      (∀ i j v, vals[i]? = some v → j < sz → us'.getD ((k + i) * sz + j) undef = v.2.cells.getD j undef)
  | [], k, us, _, _, _ => ⟨us, rfl, rfl, fun _ _ => rfl, fun i j v h => absurd h (by simp)⟩
  | (i, v) :: vals, k, us, hk, hs, hl => by
    simp only [List.map_cons, List.length_cons, List.range'_succ, List.cons.injEq] at hk
    obtain ⟨rfl, hk⟩ := hk
    have hv := hs (i, v) (by simp)
    simp only [] at hv
    simp only [List.length_cons] at hl
    have hl2 : (i + 1) * sz + vals.length * sz ≤ us.size := by rw [← Nat.add_mul]; rw [show i + 1 + vals.length = i + (vals.length + 1) by omega]; exact hl
    have hl3 : (i + 1) * sz = i * sz + sz := Nat.succ_mul i sz
    rw [fill_one (off := i * sz) (size := sz) rfl hv (by omega)]
    have hsize : (us.toList.take (i * sz) ++ v.cells.toList ++ us.toList.drop (i * sz + v.cells.toList.length)).toArray.size = us.size := by
      simp only [List.size_toArray, List.length_append, List.length_take, List.length_drop, Array.length_toList]; omega
    obtain ⟨us', h1, h2, h3, h4⟩ := fill_rows sz vals (i + 1) (us.toList.take (i * sz) ++ v.cells.toList ++ us.toList.drop (i * sz + v.cells.toList.length)).toArray hk (fun x hx => hs x (by simp [hx])) (by
      rw [hsize, Nat.add_mul]; omega)
    refine ⟨us', h1, h2.trans hsize, fun j hj => ?_, fun i' j v' hv' hj => ?_⟩
    · rw [h3 j (by omega), seg_get (by rw [Array.length_toList]; omega), if_neg (by omega)]
    · cases i' with
      | zero =>
        simp only [List.getElem?_cons_zero, Option.some.injEq] at hv'
        subst hv'
        rw [Nat.add_zero, h3 _ (by omega), seg_get (by rw [Array.length_toList]; omega), if_pos (by rw [Array.length_toList]; omega), getD_toList]
        congr 1; omega
      | succ i' =>
        simp only [List.getElem?_cons_succ] at hv'
        have := h4 i' j v' hv' hj
        rw [show i + (i' + 1) = i + 1 + i' by omega]; exact this

section
variable {P : Program} {TT : TypeId → Option TI} {G : Gl} {B : Base} {E : Env} {fr : Fr} {a : Act} {w : World} {o : Oper} {K : Act → World → Prop} {Q : Exit → Act → World → Prop}

theorem buildSlice_run {t e : TypeId} {len : Nat} {parts : Array (Nat × Operand)} {ti ei : TI} (hT : TI.of P t = some ti) (hel : ti.elem = some e) (hE : TI.of P e = some ei) (ho : o.op = .buildSlice t len parts)
    (hix : parts.toList.map (·.1) = List.range' 0 len) (hsz : ∀ p ∈ parts.toList, (a.eval p.2).cells.size = ei.size) (hlen : len * ei.size ≤ 16777216) :
    ∃ us : Array Value, us.size = len * ei.size ∧ (∀ i j p, parts.toList[i]? = some p → j < ei.size → us.getD (i * ei.size + j) undef = (a.eval p.2).cells.getD j undef) ∧
      ∀ w, (execOp a.eval o).run P w = .ok (.value (.slice (some ⟨w.heap.size, 0, none⟩) len len)) (w.alloc (.cells us e)) := by
  obtain ⟨i, d, z, hi, hd, hz, hs, rfl⟩ := TI.of_some hT
  obtain rfl := TI.desc_elem hel
  obtain ⟨i2, d2, z2, hi2, hd2, hz2, hs2, hei⟩ := TI.of_some hE
  have hpl : parts.toList.length = len := by have := congrArg List.length hix; simpa using this
  have hsize : i2.size = ei.size := by rw [hei, TI.desc_size]
  let vals : List (Nat × Value) := parts.toList.map fun p => (p.1, a.eval p.2)
  have hv1 : vals.map (·.1) = List.range' 0 vals.length := by
    simp only [vals, List.map_map, List.length_map, hpl]; rw [← hix]; rfl
  have hzero : ∀ w, (if len * ei.size = 0 then (pure #[] : Sem (Array Value)) else do pure (← zeroValue e).cells).run P w = .ok (if len * ei.size = 0 then #[] else z2.cells) w := by
    intro w
    by_cases h0 : len * ei.size = 0
    · rw [if_pos h0, if_pos h0]; rfl
    · rw [if_neg h0, if_neg h0]; simp [zeroValue, typeInfo, hi2, hz2]
  obtain ⟨us, h1, h2, h3, h4⟩ := fill_rows ei.size vals 0 ((Array.range (len * ei.size)).map fun k => (if len * ei.size = 0 then #[] else z2.cells)[k % (if len * ei.size = 0 then (#[] : Array Value) else z2.cells).size]!) hv1
    (fun v hv => by simp only [vals, List.mem_map] at hv; obtain ⟨p, hp, rfl⟩ := hv; exact hsz p hp) (by simp [vals, hpl])
  refine ⟨us, by rw [h2]; simp, fun i j p hp hj => ?_, fun w => ?_⟩
  · have := h4 i j (p.1, a.eval p.2) (by simp only [vals, List.getElem?_map, hp]; rfl) hj
    rwa [Nat.zero_add] at this
  · refine exec_vw (rv := a.eval) (o := o) (s := Instr.buildSlice t len (parts.map fun (i, x) => (i, a.eval x))) (by simp only [execOp, ho]) ?_
    have hsz2 := TI.sizeOf hE
    have hfill : Instr.fill (fun i => some (i * ei.size, ei.size)) ((Array.range (len * ei.size)).map fun k => (if len * ei.size = 0 then #[] else z2.cells)[k % (if len * ei.size = 0 then (#[] : Array Value) else z2.cells).size]!) (parts.map fun (p : Nat × Operand) => (p.1, a.eval p.2)).toList = some us := by
      rw [← h1]; simp [vals]
    simp only [Instr.buildSlice, Sem.run_bind, run_underlying hd, Result.andThen_ok, hsz2, Sem.run_pure]
    rw [Sem.run_ite, if_neg (by omega)]
    by_cases h0 : len * ei.size = 0
    · simp only [if_pos h0] at hfill
      rw [if_pos h0]
      simp only [Sem.run_bind, Sem.run_pure, Result.andThen_ok]
      rw [hfill]
      simp [newRow]
    · simp only [if_neg h0] at hfill
      rw [if_neg h0]
      simp only [Sem.run_bind, Sem.run_pure, Result.andThen_ok, zeroValue, typeInfo, run_program, hi2, hz2]
      rw [hfill]
      simp [newRow]

theorem slice_wp (hTT : ∀ t ti, TT t = some ti → TI.of P t = some ti) (h : Inv B E fr a w) (hG : GOk P G B) (hd : ∀ d', o.dst = some d' → d' < B.nt) {t e : TypeId} {len : Nat} {parts : Array (Nat × Operand)} {ti ei : TI}
    (ho : o.op = .buildSlice t len parts) (ht : TT t = some ti) (hel : ti.elem = some e) (he : TT e = some ei) (hix : parts.toList.map (·.1) = List.range' 0 len)
    (hsz : ∀ p ∈ parts.toList, (fr.ev G p.2).ok = true ∧ (fr.ev G p.2).cells.length = ei.size) (hlen : len * ei.size ≤ 16777216) (h0 : 0 < ei.size) {i : Nat} (hi : E.η i = none) (hin : i < fr.nid)
    (hK : ∀ E' v w', (∀ k, k ≠ i → E'.η k = E.η k) → Inv B E' (fr.put o.dst (.sl (.id i e) (parts.toList.map fun p => (fr.ev G p.2).cells.map AV.pl))) (a.put o.dst v) w' → K (a.put o.dst v) w') : o.wp P a w K Q := by
  obtain ⟨us, hus, hcell, hrun⟩ := buildSlice_run (P := P) (a := a) (o := o) (hTT _ _ ht) hel (hTT _ _ he) ho hix (fun p hp => by
    obtain ⟨h1, h2⟩ := hsz p hp
    rw [((h.ev hG p.2).cells h1).1, h2]) hlen
  unfold Oper.wp
  rw [hrun w]
  have hpl : parts.toList.length = len := by have := congrArg List.length hix; simpa using this
  -- a cell's row and place
  have hrow : ∀ o', o' < us.size → ∃ p, parts.toList[o' / ei.size]? = some p ∧ us.getD o' undef = (a.eval p.2).cells.getD (o' % ei.size) undef ∧ o' % ei.size < ei.size := by
    intro o' ho'
    have hm : o' % ei.size < ei.size := Nat.mod_lt _ h0
    have hq : o' / ei.size < len := by rw [hus] at ho'; exact (Nat.div_lt_iff_lt_mul h0).2 ho'
    have hq' : o' / ei.size < parts.toList.length := by omega
    refine ⟨parts.toList[o' / ei.size], List.getElem?_eq_getElem hq', ?_, hm⟩
    have := hcell (o' / ei.size) (o' % ei.size) _ (List.getElem?_eq_getElem hq') hm
    rwa [Nat.mul_comm, Nat.div_add_mod] at this
  have hn := h.newRow us e us.size (fun j hj _ => by
    obtain ⟨p, hp, hg, hm⟩ := hrow j hj
    rw [hg]
    obtain ⟨h1, h2⟩ := hsz p (List.mem_of_getElem? hp)
    have hc := (h.ev hG p.2).cells h1
    exact hc.2.1 _ (by rw [hc.1, h2]; exact hm))
  have hCeq : ∀ o', o' < us.size → (if w.heap.size = w.heap.size then (if o' < us.size then us[o']? else none) else E.C w.heap.size o') = some (us.getD o' undef) := by
    intro o' ho'
    rw [if_pos rfl, if_pos ho', Array.getElem?_eq_getElem ho']; simp [Array.getD, ho']
  have hle : ∀ b o u, E.C b o = some u → (if b = w.heap.size then (if o < us.size then us[o]? else none) else E.C b o) = some u := by
    intro b o' u hu
    have := World.block_lt_of_cell? w _ (h.hold b o' u hu).1
    rw [if_neg (by show ¬ b = w.heap.size; have : b < w.heap.size := this; omega)]; exact hu
  have hob : OwnAt (fun b o => if b = w.heap.size then (if o < us.size then us[o]? else none) else E.C b o) (w.alloc (.cells us e)) ⟨w.heap.size, len, len, e, ei.size⟩ := by
    refine ⟨us, heap_alloc_new w _, hus, Nat.le_refl _, ?_, h0, fun o' ho' => ?_, fun o' ho' => ?_⟩
    · have : len ≤ len * ei.size := Nat.le_mul_of_pos_right _ h0
      show len ≤ maxLen
      unfold maxLen; omega
    · show (if w.heap.size = w.heap.size then _ else _) = _
      rw [if_pos rfl, if_pos (by rw [hus]; exact ho')]
    · show (if w.heap.size = w.heap.size then _ else _) = _
      rw [if_pos rfl, if_neg (by rw [hus]; have : len * ei.size ≤ o' := ho'; omega)]
  have hs := hn.setOwn (i := i) (ob := ⟨w.heap.size, len, len, e, ei.size⟩) hi hin hob (by
    obtain ⟨i2, d2, z2, hi2, hd2, hz2, hs2, hei⟩ := TI.of_some (hTT _ _ he)
    show ei.size = B.sz e
    rw [hG.2.2 e i2 hi2, hei, TI.desc_size]) h.size (fun v e' => by have := (h.var_lt e').1; simp only [] at this; omega)
    (fun j ob' hj e' => by obtain ⟨⟨cur, hbl, _⟩, _⟩ := h.own j ob' hj; have := lt_of_heap hbl; simp only [] at e'; omega)
  refine hK _ _ _ (fun k hk => if_neg hk) (hs.put hd (.v0 ?_) ?_)
  · have hL : ∀ i' row, (parts.toList.map fun p => (fr.ev G p.2).cells.map AV.pl)[i']? = some row → row.length = ei.size ∧ ∀ j, j < ei.size → (if w.heap.size = w.heap.size then (if (0 + i' * ei.size + j) < us.size then us[0 + i' * ei.size + j]? else none) else E.C w.heap.size (0 + i' * ei.size + j)) = some (us.getD (i' * ei.size + j) undef) := by
      intro i' row hr
      rw [List.getElem?_map] at hr
      obtain ⟨p, hp, rfl⟩ := Option.map_eq_some_iff.1 hr
      refine ⟨by rw [List.length_map]; exact (hsz p (List.mem_of_getElem? hp)).2, fun j hj => ?_⟩
      have hlt : i' < len := by rw [← hpl]; exact (List.getElem?_eq_some_iff.1 hp).1
      have : i' * ei.size + j < us.size := by
        rw [hus]
        calc i' * ei.size + j < i' * ei.size + ei.size := by omega
          _ = (i' + 1) * ei.size := (Nat.succ_mul _ _).symm
          _ ≤ len * ei.size := Nat.mul_le_mul_right _ hlt
      rw [Nat.zero_add]; exact hCeq _ this
    have := Rep0.sl (C := fun b o => if b = w.heap.size then (if o < us.size then us[o]? else none) else E.C b o) (.id i e) (parts.toList.map fun p => (fr.ev G p.2).cells.map AV.pl) w.heap.size 0 len ei.size (fun i' j => us.getD (i' * ei.size + j) undef)
      (by simp only [List.length_map]; omega) (by have : len ≤ len * ei.size := Nat.le_mul_of_pos_right _ h0
                                                  unfold maxLen; omega) (fun h => by cases h) hL (by
      intro i' row j x hr hx
      rw [List.getElem?_map] at hr
      obtain ⟨p, hp, rfl⟩ := Option.map_eq_some_iff.1 hr
      rw [List.getElem?_map] at hx
      obtain ⟨y, hy, rfl⟩ := Option.map_eq_some_iff.1 hx
      obtain ⟨h1, h2⟩ := hsz p (List.mem_of_getElem? hp)
      have hj : j < ei.size := by rw [← h2]; exact (List.getElem?_eq_some_iff.1 hy).1
      rw [hcell i' j p hp hj]
      exact (((h.ev hG p.2).cells h1).2.2 j y hy).pl.mono hle)
    simp only [List.length_map, hpl] at this
    exact this
  · intro n e' rows he'
    injection he' with h1 h2
    injection h1 with h1 h3
    subst h1; subst h2; subst h3
    refine ⟨⟨w.heap.size, len, len, e, ei.size⟩, if_pos rfl, rfl, by simp only [List.length_map]; exact hpl.symm, rfl, ?_⟩
    intro r hr
    obtain ⟨p, hp, rfl⟩ := List.mem_map.1 hr
    rw [List.length_map]; exact (hsz p hp).2
end
end Go.Sh
namespace Go.Sh
set_option linter.unusedVariables false
set_option linter.unusedSimpArgs false

section
variable {P : Program} {TT : TypeId → Option TI} {G : Gl} {B : Base} {E : Env} {fr : Fr} {a : Act} {w : World} {o : Oper} {K : Act → World → Prop} {Q : Exit → Act → World → Prop}

/-- a variable's row is written -/
theorem Inv.updVar (h : Inv B E fr a w) {i b : Nat} {cs cs' : List AV} {cur arr : Array Value} {e : TypeId} (hi : fr.st[i]? = some (some cs)) (hb : E.ρ i = some b) (hcur : w.heap[b]? = some (.cells cur e (0, 0)))
    (hs : arr.size = cs'.length) (hr : ∀ j x, cs'[j]? = some x → RepT E.ρ E.C x (arr.getD j undef)) (h1 : ∀ j, j < arr.size → (arr.getD j undef).oneCell' = true)
    (ho : ∀ j n e rows, cs'[j]? = some (.sl (.id n e) rows) → OwnV E.η n e rows (arr.getD j undef)) :
    Inv B E { fr with st := fr.st.set i (some cs') } a (w.setRow b arr) := by
  have hilt : i < fr.st.length := (List.getElem?_eq_some_iff.1 hi).1
  have hsame : (w.setRow b arr).heap[b]? = some (.cells arr e (0, 0)) := setRow_heap w b cur arr e (0, 0) hcur
  have hoth : ∀ k, k ≠ b → (w.setRow b arr).heap[k]? = w.heap[k]? := fun k hk => setRow_other w b k arr hk
  have hcb : ∀ o, E.C b o = none := by
    obtain ⟨b', hb', _, hc, _⟩ := h.var i cs hi
    obtain rfl : b' = b := Option.some.inj (hb'.symm.trans hb)
    exact hc
  have hCne : ∀ b' o u, E.C b' o = some u → b' ≠ b := fun b' o u hu e => by rw [e, hcb] at hu; cases hu
  have hget : ∀ (v : Nat) (c : List AV), (fr.st.set i (some cs'))[v]? = some (some c) → (v = i ∧ c = cs') ∨ (v ≠ i ∧ fr.st[v]? = some (some c)) := by
    intro v c hv
    by_cases e : v = i
    · subst e
      rw [List.getElem?_set_self hilt] at hv
      injection hv with hv; injection hv with hv
      exact .inl ⟨rfl, hv.symm⟩
    · rw [List.getElem?_set_ne (Ne.symm e)] at hv
      exact .inr ⟨e, hv⟩
  refine ⟨h.os, h.tape, h.out, by rw [setRow_size]; exact h.size, ?_, h.cold, h.rold, ?_, ?_, h.vinj, ?_, by show B.k ≤ (fr.st.set i (some cs')).length; rw [List.length_set]; exact h.kst, ?_, h.oinj, h.tm, h.tmo, ?_, h.defers, h.tsz, h.osz⟩
  · intro k hk hne
    by_cases e' : k = b
    · subst e'
      by_cases hik : i < B.k
      · exact absurd (h.rold i hik ▸ hb) (hne i hik)
      · obtain ⟨b', hb', _, _, hge⟩ := h.var i cs hi
        obtain rfl : b' = k := Option.some.inj (hb'.symm.trans hb)
        have := hge (by omega); omega
    · rw [hoth k e']; exact h.old k hk hne
  · intro b' o u hu
    have hne := hCne b' o u hu
    have := h.hold b' o u hu
    exact ⟨by rw [cell_of_heap (hoth b' hne)]; exact this.1, this.2⟩
  · intro v c hv
    rcases hget v c hv with ⟨rfl, rfl⟩ | ⟨hne, hv⟩
    · obtain ⟨b', hb', _, hc, hge⟩ := h.var v cs hi
      obtain rfl : b' = b := Option.some.inj (hb'.symm.trans hb)
      exact ⟨b', hb', ⟨arr, e, hsame, hs, hr, h1⟩, hc, hge⟩
    · obtain ⟨b', hb', ⟨cur', e', hbl, hs', hr', h1'⟩, hc, hge⟩ := h.var v c hv
      have hnb : b' ≠ b := fun e2 => hne (h.vinj v i b' hb' (e2 ▸ hb))
      exact ⟨b', hb', ⟨cur', e', (hoth b' hnb).trans hbl, hs', hr', h1'⟩, hc, hge⟩
  · intro v hv
    refine h.rfin v (fun c e' => ?_)
    by_cases e2 : v = i
    · subst e2; exact hv cs' (List.getElem?_set_self hilt)
    · exact hv c (by show (fr.st.set i (some cs'))[v]? = _; rw [List.getElem?_set_ne (Ne.symm e2)]; exact e')
  · intro j ob hj
    obtain ⟨⟨cur', hbl, h2⟩, h3, h4, h5⟩ := h.own j ob hj
    have hnb : ob.b ≠ b := fun e2 => h5 i (e2 ▸ hb)
    exact ⟨⟨cur', (hoth _ hnb).trans hbl, h2⟩, h3, h4, h5⟩
  · intro v c j n e' rows b' u hv hj hρ hu
    rcases hget v c hv with ⟨rfl, rfl⟩ | ⟨hne, hv⟩
    · obtain rfl : b' = b := Option.some.inj (hρ.symm.trans hb)
      rw [cell_setRow_same w b' j cur arr e (0, 0) hcur] at hu
      have : arr.getD j undef = u := by simp [Array.getD_eq_getD_getElem?, hu]
      rw [← this]; exact ho j n e' rows hj
    · have hnb : b' ≠ b := fun e2 => hne (h.vinj v i b' hρ (e2 ▸ hb))
      rw [cell_setRow_other w b arr _ hnb] at hu
      exact h.vao v c j n e' rows b' u hv hj hρ hu

theorem store_wp (hTT : ∀ t ti, TT t = some ti → TI.of P t = some ti) (h : Inv B E fr a w) (hG : GOk P G B) (hd : ∀ d', o.dst = some d' → d' < B.nt) {t : TypeId} {x v : Operand} {ti : TI} (ho : o.op = .store t x v) (ht : TT t = some ti)
    {i off : Nat} {cs : List AV} (hx : fr.ev G x = .vp i off) (hi : fr.st[i]? = some (some cs)) (hok : (fr.ev G v).ok = true) (hvl : (fr.ev G v).cells.length = ti.size) (hfit : off + ti.size ≤ cs.length)
    (hK : ∀ a' w', Inv B E ({ fr with st := fr.st.set i (some (cs.take off ++ (fr.ev G v).scells ++ cs.drop (off + ti.size))) }.put o.dst .bad) a' w' → K a' w') : o.wp P a w K Q := by
  have hrx := h.ev hG x
  rw [hx] at hrx
  obtain ⟨b, hb, hrv⟩ := hrx.vp0
  obtain ⟨h1, h2, h3, h4⟩ := (h.ev hG v).scells hok
  obtain ⟨b', hb', ⟨cur, e, hbl, hs, hr, hone⟩, hc, hge⟩ := h.var i cs hi
  obtain rfl : b' = b := Option.some.inj (hb'.symm.trans hb)
  have hvs : (a.eval v).cells.size = ti.size := by rw [h1, scells_length, hvl]
  have hfit2 : off + (a.eval v).cells.toList.length ≤ cur.size := by rw [Array.length_toList, hvs, hs]; exact hfit
  have hst := run_storeCells_at (P := P) b' off e (a.eval v).cells.toList 0 cur w hbl (by omega) (fun u hu => by
    obtain ⟨j, hj, rfl⟩ := List.getElem_of_mem hu
    have := h2 j (by simpa using hj)
    simpa [Array.getD, show j < (a.eval v).cells.size by simpa using hj] using this)
  rw [Nat.add_zero] at hst
  have hrun : (execOp a.eval o).run P w = .ok .skip (w.setRow b' (cur.toList.take off ++ (a.eval v).cells.toList ++ cur.toList.drop (off + (a.eval v).cells.toList.length)).toArray) := by
    simp only [execOp, ho, Instr.storeAt, hrv, Instr.sureAddr, storeVar, Sem.run_bind, Sem.run_pure, Result.andThen_ok, TI.sizeOf (hTT _ _ ht)]
    rw [Sem.run_ite, if_neg (by omega), hst]
    rfl
  have hget := fun j => seg_get hfit2 j
  unfold Oper.wp
  rw [hrun]
  have hclen : (cs.take off).length = off := by simp; omega
  have hslen : (fr.ev G v).scells.length = ti.size := by rw [scells_length, hvl]
  -- where a cell of the new row comes from
  have hcase : ∀ (j : Nat) (y : AV), (cs.take off ++ (fr.ev G v).scells ++ cs.drop (off + ti.size))[j]? = some y →
      ((off ≤ j ∧ j < off + ti.size) ∧ (fr.ev G v).scells[j - off]? = some y) ∨ (¬ (off ≤ j ∧ j < off + ti.size) ∧ cs[j]? = some y) := by
    intro j y hy
    rcases Nat.lt_or_ge j off with hj | hj
    · rw [List.append_assoc, List.getElem?_append_left (by omega), List.getElem?_take, if_pos hj] at hy
      exact .inr ⟨by omega, hy⟩
    · rcases Nat.lt_or_ge j (off + ti.size) with hj2 | hj2
      · rw [List.append_assoc, List.getElem?_append_right (by omega), List.getElem?_append_left (by omega), hclen] at hy
        exact .inl ⟨⟨hj, hj2⟩, hy⟩
      · rw [List.getElem?_append_right (by simp; omega), List.getElem?_drop] at hy
        refine .inr ⟨by omega, ?_⟩
        rw [← hy]; congr 1
        simp only [List.length_append, hclen, hslen]; omega
  have hval : ∀ j, (cur.toList.take off ++ (a.eval v).cells.toList ++ cur.toList.drop (off + (a.eval v).cells.toList.length)).toArray.getD j undef =
      if off ≤ j ∧ j < off + ti.size then (a.eval v).cells.getD (j - off) undef else cur.getD j undef := by
    intro j
    rw [hget j, getD_toList, Array.length_toList, hvs]
  have hsz : (cur.toList.take off ++ (a.eval v).cells.toList ++ cur.toList.drop (off + (a.eval v).cells.toList.length)).toArray.size = cur.size := by
    simp only [List.size_toArray, List.length_append, List.length_take, List.length_drop, Array.length_toList]
    rw [Array.length_toList] at hfit2; omega
  have hu := h.updVar (cs' := cs.take off ++ (fr.ev G v).scells ++ cs.drop (off + ti.size)) hi hb hbl (by rw [hsz, hs]; simp [hslen]; omega)
    (fun j y hy => by
      rw [hval]
      rcases hcase j y hy with ⟨hin, hy'⟩ | ⟨hout, hy'⟩
      · rw [if_pos hin]; exact h3 _ _ hy'
      · rw [if_neg hout]; exact hr _ _ hy')
    (fun j hj => by
      rw [hval]; rw [hsz] at hj
      by_cases hin : off ≤ j ∧ j < off + ti.size
      · rw [if_pos hin]; exact h2 _ (by omega)
      · rw [if_neg hin]; exact hone j hj)
    (fun j n e' rows hy => by
      rw [hval]
      rcases hcase j _ hy with ⟨hin, hy'⟩ | ⟨hout, hy'⟩
      · rw [if_pos hin]
        obtain ⟨e1, e2, e3⟩ := h4 _ n e' rows hy'
        rw [e2, e3]; exact h.evo v n e' rows e1
      · rw [if_neg hout]
        have hjl : j < cur.size := by rw [hs]; exact (List.getElem?_eq_some_iff.1 hy').1
        exact h.vao i cs j n e' rows b' _ hi hy' hb (by simp [World.cell?, hbl, hjl]))
  exact hK _ _ (hu.put hd (.v0 (.bad _)) (fun _ _ _ h => by cases h))
end
end Go.Sh
namespace Go.Sh
set_option linter.unusedVariables false
set_option linter.unusedSimpArgs false

theorem Rep0.kill {C : Cm} {i : Nat} {av : AV} {v : Value} (h : Rep0 C av v) : Rep0 C (av.kill i) v := by
  cases av with
  | sl o rows =>
    cases o with
    | id n e =>
      simp only [AV.kill]
      cases Nat.beq n i
      · exact h
      · exact h.own
    | _ => exact h
  | _ => exact h
theorem RepT.kill {ρ : Nat → Option Nat} {C : Cm} {i : Nat} {av : AV} {v : Value} (h : RepT ρ C av v) : RepT ρ C (av.kill i) v := by
  cases av with
  | sl o rows => exact .v0 h.sl0.kill
  | _ => exact h
theorem kill_id {i n : Nat} {e : TypeId} {rows : List (List AV)} {av : AV} (h : av.kill i = .sl (.id n e) rows) : av = .sl (.id n e) rows ∧ n ≠ i := by
  cases av with
  | sl o r =>
    cases o with
    | id m f =>
      simp only [AV.kill] at h
      cases hb : Nat.beq m i
      · rw [hb] at h
        simp only [cond_false] at h
        injection h with h1 h2
        injection h1 with h1 h3
        subst h1; subst h2; subst h3
        exact ⟨rfl, fun e => by subst e; rw [Nat.beq_refl] at hb; cases hb⟩
      · rw [hb] at h
        simp only [cond_true] at h
        injection h with h1 h2
        cases h1
    | _ => simp [AV.kill] at h
  | _ => simp [AV.kill] at h

section
variable {P : Program} {TT : TypeId → Option TI} {G : Gl} {B : Base} {E : Env} {fr : Fr} {a : Act} {w : World} {o : Oper} {K : Act → World → Prop} {Q : Exit → Act → World → Prop}

theorem Inv.kill (h : Inv B E fr a w) (i : Nat) : Inv B { E with η := fun j => if j = i then none else E.η j } (fr.kill i) a w := by
  have hle : ∀ n e rows v, n ≠ i → OwnV E.η n e rows v → OwnV (fun j => if j = i then none else E.η j) n e rows v := by
    rintro n e rows v hn ⟨ob', h1, h2⟩
    exact ⟨ob', by show (if n = i then none else E.η n) = _; rw [if_neg hn]; exact h1, h2⟩
  have hget : ∀ (v : Nat) (c : List AV), (fr.kill i).st[v]? = some (some c) → ∃ c', fr.st[v]? = some (some c') ∧ c = c'.map (AV.kill i) := by
    intro v c hv
    simp only [Fr.kill, List.getElem?_map] at hv
    obtain ⟨x, hx, hx2⟩ := Option.map_eq_some_iff.1 hv
    cases x with
    | none => cases hx2
    | some c' => exact ⟨c', hx, (Option.some.inj hx2).symm⟩
  refine ⟨h.os, h.tape, h.out, h.size, h.old, h.cold, h.rold, h.hold, ?_, h.vinj, ?_, by show B.k ≤ (fr.st.map _).length; rw [List.length_map]; exact h.kst, ?_, ?_, fun t => (h.tm t).kill, ?_, ?_, h.defers, h.tsz, fun j ob hj => ?_⟩
  · intro v c hv
    obtain ⟨c', hc', rfl⟩ := hget v c hv
    obtain ⟨b, hb, ⟨cur, e, hbl, hs, hr, h1⟩, hc, hge⟩ := h.var v c' hc'
    refine ⟨b, hb, ⟨cur, e, hbl, by rw [List.length_map]; exact hs, fun j x hx => ?_, h1⟩, hc, hge⟩
    rw [List.getElem?_map] at hx
    obtain ⟨y, hy, rfl⟩ := Option.map_eq_some_iff.1 hx
    exact (hr j y hy).kill
  · intro v hv
    refine h.rfin v (fun c e' => hv (c.map (AV.kill i)) ?_)
    simp only [Fr.kill, List.getElem?_map, e']; rfl
  · intro j ob hj
    simp only [] at hj
    split at hj
    · cases hj
    · exact h.own j ob hj
  · intro j1 j2 o1 o2 h1 h2 he
    simp only [] at h1 h2
    split at h1
    · cases h1
    · split at h2
      · cases h2
      · exact h.oinj j1 j2 o1 o2 h1 h2 he
  · intro t n e rows he
    obtain ⟨h1, h2⟩ := kill_id he
    exact hle _ _ _ _ h2 (h.tmo t n e rows h1)
  · intro v c j n e rows b u hv hj hρ hu
    obtain ⟨c', hc', rfl⟩ := hget v c hv
    rw [List.getElem?_map] at hj
    obtain ⟨y, hy, hy2⟩ := Option.map_eq_some_iff.1 hj
    obtain ⟨h1, h2⟩ := kill_id hy2
    exact hle _ _ _ _ h2 (h.vao v c' j n e rows b u hc' (h1 ▸ hy) hρ hu)
  · simp only [] at hj
    split at hj
    · cases hj
    · exact h.osz j ob hj

/-- a block of the call's own becomes an own slice that reads as rows -/
theorem Inv.newOwn (h : Inv B E fr a w) {i : Nat} (hi : E.η i = none) (hin : i < fr.nid) {rows : List (List AV)} {arr : Array Value} {sz cap : Nat} (e : TypeId) (hsz : sz = B.sz e) (h0 : 0 < sz) (hs : arr.size = cap * sz) (hcap : rows.length ≤ cap) (hm : cap ≤ maxLen)
    (hL : ∀ r ∈ rows, r.length = sz) (hr : ∀ k row j x, rows[k]? = some row → row[j]? = some x → Rep0 E.C x (arr.getD (k * sz + j) undef)) (h1 : ∀ j, j < rows.length * sz → (arr.getD j undef).oneCell' = true) :
    ∃ E', (∀ k, k ≠ i → E'.η k = E.η k) ∧ Inv B E' fr a (w.alloc (.cells arr e)) ∧ Rep0 E'.C (.sl (.id i e) rows) (.slice (some ⟨w.heap.size, 0, none⟩) rows.length cap) ∧ OwnV E'.η i e rows (.slice (some ⟨w.heap.size, 0, none⟩) rows.length cap) := by
  have hn := h.newRow arr e (rows.length * sz) (fun j hj _ => h1 j hj)
  have hfit : rows.length * sz ≤ arr.size := by rw [hs]; exact Nat.mul_le_mul_right _ hcap
  have hle : ∀ b o u, E.C b o = some u → (if b = w.heap.size then (if o < rows.length * sz then arr[o]? else none) else E.C b o) = some u := by
    intro b o' u hu
    have := World.block_lt_of_cell? w _ (h.hold b o' u hu).1
    rw [if_neg (by show ¬ b = w.heap.size; have : b < w.heap.size := this; omega)]; exact hu
  have hob : OwnAt (fun b o => if b = w.heap.size then (if o < rows.length * sz then arr[o]? else none) else E.C b o) (w.alloc (.cells arr e)) ⟨w.heap.size, rows.length, cap, e, sz⟩ := by
    refine ⟨arr, heap_alloc_new w _, hs, hcap, hm, h0, fun o' ho' => ?_, fun o' ho' => ?_⟩
    · show (if w.heap.size = w.heap.size then _ else _) = _
      rw [if_pos rfl, if_pos ho']
    · show (if w.heap.size = w.heap.size then _ else _) = _
      rw [if_pos rfl, if_neg (by have : rows.length * sz ≤ o' := ho'; omega)]
  have hs' := hn.setOwn (i := i) (ob := ⟨w.heap.size, rows.length, cap, e, sz⟩) hi hin hob hsz h.size (fun v e' => by have := (h.var_lt e').1; simp only [] at this; omega)
    (fun j ob' hj e' => by obtain ⟨⟨cur, hbl, _⟩, _⟩ := h.own j ob' hj; have := lt_of_heap hbl; simp only [] at e'; omega)
  refine ⟨_, fun k hk => if_neg hk, hs', ?_, ⟨_, if_pos rfl, rfl, rfl, rfl, hL⟩⟩
  refine Rep0.sl (.id i e) rows w.heap.size 0 cap sz (fun k j => arr.getD (k * sz + j) undef) hcap hm (fun h => by cases h) ?_ ?_
  · intro k row hk
    refine ⟨hL row (List.mem_of_getElem? hk), fun j hj => ?_⟩
    have hlt : k < rows.length := (List.getElem?_eq_some_iff.1 hk).1
    have hb : k * sz + j < rows.length * sz := by
      calc k * sz + j < k * sz + sz := by omega
        _ = (k + 1) * sz := (Nat.succ_mul _ _).symm
        _ ≤ rows.length * sz := Nat.mul_le_mul_right _ hlt
    show (if w.heap.size = w.heap.size then (if 0 + k * sz + j < rows.length * sz then arr[0 + k * sz + j]? else none) else _) = _
    rw [Nat.zero_add, if_pos rfl, if_pos hb, Array.getElem?_eq_getElem (by omega)]
    simp [Array.getD, show k * sz + j < arr.size by omega]
  · intro k row j x hk hj
    exact (hr k row j x hk hj).mono hle

/-- an own slice grows in its block -/
theorem Inv.growOwn (h : Inv B E fr a w) {i j : Nat} {ob : OB} (hi : E.η i = some ob) (hj : j ≠ i) (hjn : E.η j = none) (hjl : j < fr.nid) {cur arr : Array Value} (hcur : w.heap[ob.b]? = some (.cells cur ob.e (0, 0))) (hs : arr.size = cur.size)
    (hpre : ∀ o, o < ob.n * ob.sz → arr.getD o undef = cur.getD o undef) {rows news : List (List AV)} (hn : rows.length = ob.n) (hcap : rows.length + news.length ≤ ob.cap) (hL : ∀ r ∈ rows ++ news, r.length = ob.sz)
    (hr : ∀ k row q x, (rows ++ news)[k]? = some row → row[q]? = some x → Rep0 E.C x (arr.getD (k * ob.sz + q) undef)) (h1 : ∀ o, o < (rows.length + news.length) * ob.sz → (arr.getD o undef).oneCell' = true) :
    ∃ E', Inv B E' (fr.kill i) a (w.setRow ob.b arr) ∧ Rep0 E'.C (.sl (.id j ob.e) (rows ++ news)) (.slice (some ⟨ob.b, 0, none⟩) (rows ++ news).length ob.cap) ∧ OwnV E'.η j ob.e (rows ++ news) (.slice (some ⟨ob.b, 0, none⟩) (rows ++ news).length ob.cap) := by
  obtain ⟨⟨cur', hbl, hsz, hnc, hcm, h0, hC1, hC2⟩, hge, hlt, hnv⟩ := h.own i ob hi
  obtain rfl : cur' = cur := by rw [hbl] at hcur; injection hcur with e; injection e
  have hsame : (w.setRow ob.b arr).heap[ob.b]? = some (.cells arr ob.e (0, 0)) := setRow_heap w ob.b cur' arr ob.e (0, 0) hbl
  have hoth : ∀ k, k ≠ ob.b → (w.setRow ob.b arr).heap[k]? = w.heap[k]? := fun k hk => setRow_other w ob.b k arr hk
  have hk := h.kill i
  have htot : (rows.length + news.length) * ob.sz ≤ arr.size := by rw [hs, hsz]; exact Nat.mul_le_mul_right _ hcap
  have hmono : ob.n * ob.sz ≤ (rows.length + news.length) * ob.sz := Nat.mul_le_mul_right _ (by omega)
  let C' : Cm := fun b o => if b = ob.b then (if o < (rows.length + news.length) * ob.sz then arr[o]? else none) else E.C b o
  have hget : ∀ o, o < arr.size → arr[o]? = some (arr.getD o undef) := fun o ho => by rw [Array.getElem?_eq_getElem ho]; simp [Array.getD, ho]
  have hgetc : ∀ o, o < cur'.size → cur'[o]? = some (cur'.getD o undef) := fun o ho => by rw [Array.getElem?_eq_getElem ho]; simp [Array.getD, ho]
  have hle : ∀ b o u, E.C b o = some u → C' b o = some u := by
    intro b o u hu
    show (if b = ob.b then _ else _) = _
    by_cases hb : b = ob.b
    · subst hb
      rw [if_pos rfl]
      have ho : o < ob.n * ob.sz := by
        rcases Nat.lt_or_ge o (ob.n * ob.sz) with h2 | h2
        · exact h2
        · rw [hC2 o h2] at hu; cases hu
      rw [if_pos (by omega), hget o (by omega), hpre o ho]
      rw [hC1 o ho, hgetc o (by omega)] at hu
      exact hu
    · rw [if_neg hb]; exact hu
  have hvne : ∀ v b, E.ρ v = some b → b ≠ ob.b := fun v b hv e => hnv v (e ▸ hv)
  -- the world with the new row
  have hw : Inv B { C := C', ρ := E.ρ, η := fun q => if q = i then none else E.η q } (fr.kill i) a (w.setRow ob.b arr) := by
    refine ⟨hk.os, hk.tape, hk.out, by rw [setRow_size]; exact hk.size, ?_, ?_, hk.rold, ?_, ?_, hk.vinj, hk.rfin, hk.kst, ?_, hk.oinj, fun t => (hk.tm t).mono hle (fun _ _ h => h), hk.tmo, ?_, hk.defers, hk.tsz, hk.osz⟩
    · intro b hb hne
      rw [hoth b (by omega)]; exact hk.old b hb hne
    · intro b o hb
      show (if b = ob.b then _ else _) = _
      rw [if_neg (by omega)]; exact h.cold b o hb
    · intro b o u hu
      have hu : (if b = ob.b then (if o < (rows.length + news.length) * ob.sz then arr[o]? else none) else E.C b o) = some u := hu
      by_cases hb : b = ob.b
      · subst hb
        rw [if_pos rfl] at hu
        split at hu
        · rename_i ho
          refine ⟨by rw [cell_setRow_same w ob.b o cur' arr ob.e (0, 0) hbl]; exact hu, ?_⟩
          have := h1 o ho
          rw [hget o (by omega)] at hu
          rw [← Option.some.inj hu]; exact this
        · cases hu
      · rw [if_neg hb] at hu
        have := h.hold b o u hu
        exact ⟨by rw [cell_setRow_other w ob.b arr _ hb]; exact this.1, this.2⟩
    · intro v c hv
      obtain ⟨b, hb, ⟨c2, e2, hbl2, hs2, hr2, h12⟩, hc2, hge2⟩ := hk.var v c hv
      have hne := hvne v b hb
      exact ⟨b, hb, ⟨c2, e2, (hoth b hne).trans hbl2, hs2, fun j x hx => (hr2 j x hx).mono hle (fun _ _ h => h), h12⟩, fun o => by show (if b = ob.b then _ else _) = _; rw [if_neg hne]; exact hc2 o, hge2⟩
    · intro q ob2 hq
      obtain ⟨⟨c2, hbl2, g1, g2, g3, g4, g5, g6⟩, g7, g8, g9⟩ := hk.own q ob2 hq
      have hq' : (if q = i then none else E.η q) = some ob2 := hq
      have hqi : q ≠ i := fun e => by rw [if_pos e] at hq'; cases hq'
      rw [if_neg hqi] at hq'
      have hne : ob2.b ≠ ob.b := fun e => hqi (h.oinj q i ob2 ob hq' hi e)
      exact ⟨⟨c2, (hoth _ hne).trans hbl2, g1, g2, g3, g4, fun o ho => by show (if ob2.b = ob.b then _ else _) = _; rw [if_neg hne]; exact g5 o ho, fun o ho => by show (if ob2.b = ob.b then _ else _) = _; rw [if_neg hne]; exact g6 o ho⟩, g7, g8, g9⟩
    · intro v c q n e rows' b u hv hq hρ hu
      have hne := hvne v b hρ
      rw [cell_setRow_other w ob.b arr _ hne] at hu
      exact hk.vao v c q n e rows' b u hv hq hρ hu
  have hob : OwnAt C' (w.setRow ob.b arr) ⟨ob.b, (rows ++ news).length, ob.cap, ob.e, ob.sz⟩ := by
    refine ⟨arr, hsame, by rw [hs, hsz], by rw [List.length_append]; exact hcap, hcm, h0, fun o ho => ?_, fun o ho => ?_⟩
    · simp only [List.length_append] at ho
      show (if ob.b = ob.b then _ else _) = _
      rw [if_pos rfl, if_pos ho]
    · simp only [List.length_append] at ho
      show (if ob.b = ob.b then _ else _) = _
      rw [if_pos rfl, if_neg (by omega)]
  have hfin := hw.setOwn (i := j) (ob := ⟨ob.b, (rows ++ news).length, ob.cap, ob.e, ob.sz⟩) (by show (if j = i then none else E.η j) = none; rw [if_neg hj]; exact hjn) hjl hob (h.osz i ob hi) hge (fun v e' => hnv v e')
    (fun q ob2 hq e' => by
      have hq' : (if q = i then none else E.η q) = some ob2 := hq
      have hqi : q ≠ i := fun e => by rw [if_pos e] at hq'; cases hq'
      rw [if_neg hqi] at hq'
      exact hqi (h.oinj q i ob2 ob hq' hi e'))
  refine ⟨_, hfin, ?_, ⟨_, if_pos rfl, rfl, rfl, rfl, hL⟩⟩
  refine Rep0.sl (.id j ob.e) (rows ++ news) ob.b 0 ob.cap ob.sz (fun k q => arr.getD (k * ob.sz + q) undef) (by rw [List.length_append]; exact hcap) hcm (fun h => by cases h) ?_ ?_
  · intro k row hkr
    refine ⟨hL row (List.mem_of_getElem? hkr), fun q hq => ?_⟩
    have hlt2 : k < (rows ++ news).length := (List.getElem?_eq_some_iff.1 hkr).1
    rw [List.length_append] at hlt2
    have hb : k * ob.sz + q < (rows.length + news.length) * ob.sz := by
      calc k * ob.sz + q < k * ob.sz + ob.sz := by omega
        _ = (k + 1) * ob.sz := (Nat.succ_mul _ _).symm
        _ ≤ (rows.length + news.length) * ob.sz := Nat.mul_le_mul_right _ hlt2
    show (if ob.b = ob.b then (if 0 + k * ob.sz + q < (rows.length + news.length) * ob.sz then arr[0 + k * ob.sz + q]? else none) else _) = _
    rw [Nat.zero_add, if_pos rfl, if_pos hb, hget _ (by omega)]
  · intro k row q x hkr hq
    exact (hr k row q x hkr hq).mono hle
end
end Go.Sh
namespace Go.Sh
set_option linter.unusedVariables false
set_option linter.unusedSimpArgs false

theorem rows_list {C : Cm} {w : World} (hC : Holds C w) {o : Own} {rows : List (List AV)} {v : Value} (h : Rep0 C (.sl o rows) v) (hne : rows ≠ []) {sz : Nat} (hL : ∀ r ∈ rows, r.length = sz) (h0 : 0 < sz) :
    ∃ (b off cap : Nat) (l : List Value), v = .slice (some ⟨b, off, none⟩) rows.length cap ∧ rows.length ≤ cap ∧ (o = .full → cap = rows.length) ∧ l.length = rows.length * sz ∧ (∀ j u, l[j]? = some u → w.cell? ((⟨b, off, none⟩ : Addr).add j) = some u) ∧
      (∀ u ∈ l, u.oneCell' = true) ∧ (∀ j u, l[j]? = some u → C b (off + j) = some u) ∧ (∀ k row q x, rows[k]? = some row → row[q]? = some x → Rep0 C x (l.getD (k * sz + q) undef)) := by
  cases h with
  | nil o a cap h h2 => exact absurd rfl hne
  | sl o rows b off cap L us hcap hm hf hc hr =>
    have hLs : L = sz := by
      cases rows with
      | nil => exact absurd rfl hne
      | cons r rs => have := (hc 0 r rfl).1; rw [← this]; exact hL r (by simp)
    subst hLs
    have hat : ∀ j, j < rows.length * L → C b (off + j) = some (us (j / L) (j % L)) := by
      intro j hj
      have hm : j % L < L := Nat.mod_lt _ h0
      have hq : j / L < rows.length := (Nat.div_lt_iff_lt_mul h0).2 hj
      have := (hc (j / L) _ (List.getElem?_eq_getElem hq)).2 (j % L) hm
      rwa [Nat.add_assoc, Nat.mul_comm, Nat.div_add_mod] at this
    have hl : ∀ j u, ((List.range (rows.length * L)).map fun j => us (j / L) (j % L))[j]? = some u → C b (off + j) = some u := by
      intro j u hu
      rw [List.getElem?_map] at hu
      obtain ⟨k, hk, rfl⟩ := Option.map_eq_some_iff.1 hu
      have hj : j < rows.length * L := by
        have := (List.getElem?_eq_some_iff.1 hk).1; simpa using this
      rw [List.getElem?_range hj] at hk
      injection hk with hk; subst hk
      exact hat j hj
    refine ⟨b, off, cap, (List.range (rows.length * L)).map fun j => us (j / L) (j % L), rfl, hcap, hf, by simp, ?_, ?_, hl, ?_⟩
    · intro j u hu
      rw [add_eq]; exact (hC _ _ _ (hl j u hu)).1
    · intro u hu
      obtain ⟨j, hj⟩ := List.mem_iff_getElem?.1 hu
      exact (hC _ _ _ (hl j _ hj)).2
    · intro k row q x hk hq
      have hqL : q < L := by rw [← (hc k row hk).1]; exact (List.getElem?_eq_some_iff.1 hq).1
      have hkl : k < rows.length := (List.getElem?_eq_some_iff.1 hk).1
      have hb : k * L + q < rows.length * L := by
        calc k * L + q < k * L + L := by omega
          _ = (k + 1) * L := (Nat.succ_mul _ _).symm
          _ ≤ rows.length * L := Nat.mul_le_mul_right _ hkl
      have h1 : (k * L + q) / L = k := by rw [Nat.mul_comm, Nat.mul_add_div h0, Nat.div_eq_of_lt hqL]; omega
      have h2 : (k * L + q) % L = q := by rw [Nat.mul_comm, Nat.mul_add_mod, Nat.mod_eq_of_lt hqL]
      have : ((List.range (rows.length * L)).map fun j => us (j / L) (j % L)).getD (k * L + q) undef = us k q := by
        simp [List.getD, hb, h1, h2]
      rw [this]; exact hr k row q x hk hq

section
variable {P : Program} {TT : TypeId → Option TI} {G : Gl} {B : Base} {E : Env} {fr : Fr} {a : Act} {w : World} {o : Oper} {K : Act → World → Prop} {Q : Exit → Act → World → Prop}

/-- what a slice in a new block reads as -/
theorem two_lists {C : Cm} {rows rows2 : List (List AV)} {sz : Nat} {l1 l2 : List Value} {z : List Value} (h1 : l1.length = rows.length * sz) (h2 : l2.length = rows2.length * sz)
    (hr1 : ∀ k row q x, rows[k]? = some row → row[q]? = some x → Rep0 C x (l1.getD (k * sz + q) undef)) (hr2 : ∀ k row q x, rows2[k]? = some row → row[q]? = some x → Rep0 C x (l2.getD (k * sz + q) undef))
    (hL : ∀ r ∈ rows ++ rows2, r.length = sz) :
    ∀ k row q x, (rows ++ rows2)[k]? = some row → row[q]? = some x → Rep0 C x ((l1 ++ l2 ++ z).toArray.getD (k * sz + q) undef) := by
  intro k row q x hk hq
  have hqs : q < sz := by rw [← hL row (List.mem_of_getElem? hk)]; exact (List.getElem?_eq_some_iff.1 hq).1
  rw [← getD_toList]
  simp only []
  rcases Nat.lt_or_ge k rows.length with hlt | hge
  · rw [List.getElem?_append_left hlt] at hk
    have hb : k * sz + q < rows.length * sz := by
      calc k * sz + q < k * sz + sz := by omega
        _ = (k + 1) * sz := (Nat.succ_mul _ _).symm
        _ ≤ rows.length * sz := Nat.mul_le_mul_right _ hlt
    have := hr1 k row q x hk hq
    rw [List.append_assoc, List.getD, List.getElem?_append_left (by omega)]
    exact this
  · rw [List.getElem?_append_right hge] at hk
    have hkl := (List.getElem?_eq_some_iff.1 hk).1
    have e1 : k * sz + q = rows.length * sz + ((k - rows.length) * sz + q) := by
      rw [← Nat.add_assoc, ← Nat.add_mul]; congr 2; omega
    have hb : (k - rows.length) * sz + q < rows2.length * sz := by
      calc (k - rows.length) * sz + q < (k - rows.length) * sz + sz := by omega
        _ = (k - rows.length + 1) * sz := (Nat.succ_mul _ _).symm
        _ ≤ rows2.length * sz := Nat.mul_le_mul_right _ hkl
    have := hr2 _ row q x hk hq
    rw [e1, List.append_assoc, List.getD, List.getElem?_append_right (by omega), List.getElem?_append_left (by omega), h1, Nat.add_sub_cancel_left]
    exact this

theorem append_run_nothing {t : TypeId} {ti ei : TI} {e : TypeId} (hT : TI.of P t = some ti) (hel : ti.elem = some e) (hE : TI.of P e = some ei) (ty : TypeId) (b : Option Addr) (n c : Nat) (hnc : n ≤ c) (b2 : Option Addr) (c2 : Nat) :
    (Builtin.append_ #[t, t] ty #[.slice b n c, .slice b2 0 c2]).run P w = .ok (.slice b n c) w := by
  obtain ⟨i, d, z, hi, hd, hz, hs, rfl⟩ := TI.of_some hT
  obtain rfl := TI.desc_elem hel
  obtain ⟨i2, d2, z2, hi2, hd2, hz2, hs2, rfl⟩ := TI.of_some hE
  have hf : (Builtin.firstCells i2.size 0 (.slice b2 0 c2)).run P w = .ok #[] w := by
    cases b2 with
    | none => rfl
    | some b2 => simp [Builtin.firstCells, loadCells, loadCellsFrom]
  simp [Builtin.append_, run_underlying hd, sizeOf, typeInfo, hi2, Builtin.lenOf, hnc, hf]
  cases b <;> rfl

theorem call_append {s x : Operand} {t : TypeId} (ho : o.op = .call { callee := .builtin .append, args := #[s, x], argTypes := #[t, t] }) {v : Value} {w' : World}
    (hrun : (Builtin.append_ #[t, t] o.type #[a.eval s, a.eval x]).run P w = .ok v w') : (execOp a.eval o).run P w = .ok (.value v) w' := by
  simp only [execOp, ho, resolve, invoke, builtin, Sem.run_bind, Sem.run_pure, Result.andThen_ok, List.map_toArray, List.map_cons, List.map_nil, hrun]

/-- append of nothing -/
theorem append0_wp (hTT : ∀ t ti, TT t = some ti → TI.of P t = some ti) (h : Inv B E fr a w) (hG : GOk P G B) (hd : ∀ d', o.dst = some d' → d' < B.nt) {s x : Operand} {t e : TypeId} {ti ei : TI}
    (ho : o.op = .call { callee := .builtin .append, args := #[s, x], argTypes := #[t, t] }) (ht : TT t = some ti) (hel : ti.elem = some e) (he : TT e = some ei) {os ox : Own} {rows : List (List AV)}
    (hs : fr.ev G s = .sl os rows) (hx : fr.ev G x = .sl ox [])
    (hK : Inv B E (fr.put o.dst (.sl os rows)) (a.put o.dst (a.eval s)) w → K (a.put o.dst (a.eval s)) w) : o.wp P a w K Q := by
  have hrs := h.ev hG s
  have hrx := h.ev hG x
  rw [hs] at hrs
  rw [hx] at hrx
  obtain ⟨b, c, hv, hnc⟩ := hrs.sl0.len
  obtain ⟨b2, c2, hv2, _⟩ := hrx.sl0.len
  unfold Oper.wp
  rw [call_append ho (v := a.eval s) (w' := w) (by rw [hv, hv2]; exact append_run_nothing (hTT _ _ ht) hel (hTT _ _ he) _ _ _ _ hnc _ _)]
  exact hK (h.put hd hrs (fun n e rows' he' => h.evo (G := G) s n e rows' (hs.trans he')))
end
end Go.Sh
namespace Go.Sh
set_option linter.unusedVariables false
set_option linter.unusedSimpArgs false

section
variable {P : Program} {TT : TypeId → Option TI} {G : Gl} {B : Base} {E : Env} {fr : Fr} {a : Act} {w : World} {o : Oper} {K : Act → World → Prop} {Q : Exit → Act → World → Prop}

theorem toArray_app (l1 l2 : List Value) (z : Array Value) : l1.toArray ++ l2.toArray ++ z = (l1 ++ l2 ++ z.toList).toArray := by
  apply Array.ext'; simp

/-- append into a new block -/
theorem append_new (h : Inv B E fr a w) (hd : ∀ d', o.dst = some d' → d' < B.nt) {e : TypeId} {rows rows2 : List (List AV)} {sz : Nat} (hse : sz = B.sz e) (h0 : 0 < sz) (hL : ∀ r ∈ rows ++ rows2, r.length = sz)
    {l1 l2 : List Value} {z : Value} (hz : z.cells.size = sz) (h1 : l1.length = rows.length * sz) (h2 : l2.length = rows2.length * sz)
    (hr1 : ∀ k row q x, rows[k]? = some row → row[q]? = some x → Rep0 E.C x (l1.getD (k * sz + q) undef)) (hr2 : ∀ k row q x, rows2[k]? = some row → row[q]? = some x → Rep0 E.C x (l2.getD (k * sz + q) undef))
    (ho1 : ∀ u ∈ l1, u.oneCell' = true) (ho2 : ∀ u ∈ l2, u.oneCell' = true) {old : Nat} (hmax : rows.length + rows2.length ≤ maxLen) {j : Nat} (hj : E.η j = none) (hjl : j < fr.nid) {eT : TypeId}
    (hrun : (execOp a.eval o).run P w = .ok (.value (.slice (some ⟨w.heap.size, 0, none⟩) (rows.length + rows2.length) (grownCap w (rows.length + rows2.length) old e)))
      (w.drew.alloc (.cells (l1.toArray ++ l2.toArray ++ Builtin.zeroCells z.cells (grownCap w (rows.length + rows2.length) old e - (rows.length + rows2.length))) e)))
    (hK : ∀ E' v w', (∀ k, k ≠ j → E'.η k = E.η k) → Inv B E' (fr.put o.dst (.sl (.id j e) (rows ++ rows2))) (a.put o.dst v) w' → K (a.put o.dst v) w') : o.wp P a w K Q := by
  have hge := grownCap_ge w (rows.length + rows2.length) old e
  have hcm := grownCap_le_maxLen w (rows.length + rows2.length) old e hmax
  unfold Oper.wp
  rw [hrun, toArray_app]
  obtain ⟨E', hη, hinv, hrep, hown⟩ := h.drew.newOwn (i := j) hj hjl (rows := rows ++ rows2) (arr := (l1 ++ l2 ++ (Builtin.zeroCells z.cells (grownCap w (rows.length + rows2.length) old e - (rows.length + rows2.length))).toList).toArray) (sz := sz) (cap := grownCap w (rows.length + rows2.length) old e) e hse h0
    (by simp only [List.size_toArray, List.length_append, Array.length_toList, size_zeroCells, hz, h1, h2, ← Nat.add_mul]
        congr 1; omega)
    (by rw [List.length_append]; exact hge) hcm hL (two_lists h1 h2 hr1 hr2 hL)
    (by
      intro k hk
      rw [List.length_append, Nat.add_mul] at hk
      rw [← getD_toList]
      simp only []
      rcases Nat.lt_or_ge k l1.length with hlt | hge'
      · rw [List.append_assoc, List.getD, List.getElem?_append_left hlt, List.getElem?_eq_getElem hlt]
        exact ho1 _ (List.getElem_mem hlt)
      · have hlt2 : k - l1.length < l2.length := by omega
        rw [List.append_assoc, List.getD, List.getElem?_append_right hge', List.getElem?_append_left hlt2, List.getElem?_eq_getElem hlt2]
        exact ho2 _ (List.getElem_mem hlt2))
  rw [List.length_append] at hrep hown
  refine hK E' _ _ hη (hinv.put hd (.v0 hrep) ?_)
  intro n e' rows' he'
  injection he' with q1 q2
  injection q1 with q1 q3
  subst q1; subst q2; subst q3
  exact hown

theorem append_full_wp (hTT : ∀ t ti, TT t = some ti → TI.of P t = some ti) (h : Inv B E fr a w) (hG : GOk P G B) (hd : ∀ d', o.dst = some d' → d' < B.nt) {s x : Operand} {t e : TypeId} {ti ei : TI}
    (ho : o.op = .call { callee := .builtin .append, args := #[s, x], argTypes := #[t, t] }) (ht : TT t = some ti) (hel : ti.elem = some e) (he : TT e = some ei) {ox : Own} {rows rows2 : List (List AV)}
    (hs : fr.ev G s = .sl .full rows) (hx : fr.ev G x = .sl ox rows2) (hne : rows2 ≠ []) (h0 : 0 < ei.size) (hL : ∀ r ∈ rows, r.length = ei.size) (hL2 : ∀ r ∈ rows2, r.length = ei.size)
    (hb : (rows.length + rows2.length) * ei.bytes ≤ 140737488355328) (hm : rows.length + rows2.length ≤ 9223372036854775807) {j : Nat} (hj : E.η j = none) (hjl : j < fr.nid)
    (hK : ∀ E' v w', (∀ k, k ≠ j → E'.η k = E.η k) → Inv B E' (fr.put o.dst (.sl (.id j e) (rows ++ rows2))) (a.put o.dst v) w' → K (a.put o.dst v) w') : o.wp P a w K Q := by
  have hrs := h.ev hG s
  have hrx := h.ev hG x
  rw [hs] at hrs
  rw [hx] at hrx
  obtain ⟨i, d, z, hi, hdd, hz, hsz, rfl⟩ := TI.of_some (hTT _ _ ht)
  obtain rfl := TI.desc_elem hel
  obtain ⟨i2, d2, z2, hi2, hd2, hz2, hs2, rfl⟩ := TI.of_some (hTT _ _ he)
  rw [TI.desc_size] at h0 hL hL2
  rw [TI.desc_bytes] at hb
  obtain ⟨b2, off2, cap2, l2, hv2, hc2, _, hl2, hc2', ho2, _, hr2⟩ := rows_list h.hold hrx.sl0 hne hL2 h0
  have hLL : ∀ r ∈ rows ++ rows2, r.length = i2.size := fun r hr => (List.mem_append.1 hr).elim (hL r) (hL2 r)
  have hn2 : 0 < rows2.length := List.length_pos_iff.2 hne
  by_cases hr0 : rows = []
  · subst hr0
    have hv : a.eval s = .slice none 0 0 ∨ ∃ q, a.eval s = .slice (some q) 0 0 := by
      generalize a.eval s = vv at hrs
      have hq := hrs.sl0
      cases hq with
      | nil _ a' c' g1 g2 =>
        rw [g1 rfl]
        cases a' with
        | none => exact .inl rfl
        | some x => exact .inr ⟨x, rfl⟩
      | sl _ _ b off cap L us hcap hm' hf hc hr => rw [hf rfl]; exact .inr ⟨_, rfl⟩
    refine append_new (P := P) (rows := []) (l1 := []) (l2 := l2) (z := z2) (sz := i2.size) (old := 0) (eT := t) h hd (hG.2.2 e i2 hi2).symm h0 (by simpa using hL2) hs2.1 (by simp) hl2 (fun k row q x hk => absurd hk (by simp)) hr2 (by simp) ho2 (by unfold maxLen; omega) hj hjl ?_ hK
    refine call_append ho ?_
    rcases hv with hv | ⟨q1, hv⟩
    · rw [hv, hv2, run_append_nil (P := P) w t o.type e i2 z2 hdd hi2 hz2 ⟨b2, off2, none⟩ rows2.length cap2 l2 hl2 hc2' hn2 (by simp at hm; omega) (by simp at hb; omega)]
      simp
    · rw [hv, hv2]
      have := run_append_grow (P := P) w t o.type e i2 z2 hdd hi2 hz2 q1 0 0 [] (by simp) (fun j u hu => absurd hu (by simp)) ⟨b2, off2, none⟩ rows2.length cap2 l2 hl2 hc2' (by omega) (by simp at hm ⊢; omega) (growslice_fits (by omega) (by simpa using hb))
      exact this
  · obtain ⟨b1, off1, cap1, l1, hv1, hc1, hf1, hl1, hc1', ho1, _, hr1⟩ := rows_list h.hold hrs.sl0 hr0 hL h0
    obtain rfl := hf1 rfl
    refine append_new (P := P) (rows := rows) (l1 := l1) (l2 := l2) (z := z2) (sz := i2.size) (old := rows.length) (eT := t) h hd (hG.2.2 e i2 hi2).symm h0 hLL hs2.1 hl1 hl2 hr1 hr2 ho1 ho2 (by unfold maxLen; omega) hj hjl ?_ hK
    refine call_append ho ?_
    rw [hv1, hv2]
    exact run_append_grow (P := P) w t o.type e i2 z2 hdd hi2 hz2 ⟨b1, off1, none⟩ rows.length rows.length l1 hl1 hc1' ⟨b2, off2, none⟩ rows2.length cap2 l2 hl2 hc2' (by omega) (by omega) (growslice_fits (by omega) hb)

theorem append_id_wp (hTT : ∀ t ti, TT t = some ti → TI.of P t = some ti) (h : Inv B E fr a w) (hG : GOk P G B) (hd : ∀ d', o.dst = some d' → d' < B.nt) {s x : Operand} {t e : TypeId} {ti ei : TI}
    (ho : o.op = .call { callee := .builtin .append, args := #[s, x], argTypes := #[t, t] }) (ht : TT t = some ti) (hel : ti.elem = some e) (he : TT e = some ei) {ox : Own} {rows rows2 : List (List AV)} {i : Nat}
    (hs : fr.ev G s = .sl (.id i e) rows) (hx : fr.ev G x = .sl ox rows2) (hne : rows2 ≠ []) (h0 : 0 < ei.size) (hL2 : ∀ r ∈ rows2, r.length = ei.size)
    (hb : (rows.length + rows2.length) * ei.bytes ≤ 140737488355328) (hm : rows.length + rows2.length ≤ 9223372036854775807) {j : Nat} (hj : E.η j = none) (hjl : j < fr.nid)
    (hK : ∀ E' v w', Inv B E' ((fr.kill i).put o.dst (.sl (.id j e) (rows ++ rows2))) (a.put o.dst v) w' → K (a.put o.dst v) w') : o.wp P a w K Q := by
  have hrs := h.ev hG s
  have hrx := h.ev hG x
  obtain ⟨ob, hob, hoe, hon, hv1, hLo⟩ := h.evo (G := G) s i e rows hs
  rw [hs] at hrs
  rw [hx] at hrx
  obtain ⟨inf, d, z, hi, hdd, hz, hsz, rfl⟩ := TI.of_some (hTT _ _ ht)
  obtain rfl := TI.desc_elem hel
  obtain ⟨i2, d2, z2, hi2, hd2, hz2, hs2, rfl⟩ := TI.of_some (hTT _ _ he)
  rw [TI.desc_size] at h0 hL2
  rw [TI.desc_bytes] at hb
  obtain ⟨b2, off2, cap2, l2, hv2, hc2, _, hl2, hc2', ho2, _, hr2⟩ := rows_list h.hold hrx.sl0 hne hL2 h0
  have hji : j ≠ i := fun e => by rw [e, hob] at hj; cases hj
  obtain ⟨⟨cur, hbl, hcs, hnc, hcm, hsz0, hC1, hC2⟩, hge, hlt, hnv⟩ := h.own i ob hob
  have hn2 : 0 < rows2.length := List.length_pos_iff.2 hne
  subst hoe
  have hsze : ob.sz = i2.size := (h.osz i ob hob).trans (hG.2.2 ob.e i2 hi2)
  rw [← hsze] at hL2 hl2 hr2 h0
  have hLL : ∀ r ∈ rows ++ rows2, r.length = ob.sz := fun r hr => (List.mem_append.1 hr).elim (hLo r) (hL2 r)
  have hprefix : ob.n * ob.sz ≤ cur.size := by rw [hcs]; exact Nat.mul_le_mul_right _ hnc
  have hcell : ∀ o', o' < ob.n * ob.sz → cur[o']? = some (cur.getD o' undef) := fun o' ho' => by rw [Array.getElem?_eq_getElem (by omega)]; simp [Array.getD, show o' < cur.size by omega]
  -- the old rows in the block
  have hold : ∃ l1 : List Value, l1.length = rows.length * ob.sz ∧ (∀ k, k < l1.length → l1.getD k undef = cur.getD k undef) ∧ (∀ u ∈ l1, u.oneCell' = true) ∧ (∀ j u, l1[j]? = some u → w.cell? ((⟨ob.b, 0, none⟩ : Addr).add j) = some u) ∧
      (∀ k row q x, rows[k]? = some row → row[q]? = some x → Rep0 E.C x (l1.getD (k * ob.sz + q) undef)) := by
    by_cases hr0 : rows = []
    · subst hr0
      exact ⟨[], by simp, fun k hk => absurd hk (by simp), by simp, fun j u hu => absurd hu (by simp), fun k row q x hk => absurd hk (by simp)⟩
    · obtain ⟨b1, off1, cap1, l1, hv1', hc1, _, hl1, hc1', ho1, hCl, hr1⟩ := rows_list h.hold hrs.sl0 hr0 hLo h0
      rw [hv1] at hv1'
      injection hv1' with e1 e2 e3
      injection e1 with e1
      injection e1 with e1 e4
      subst e1; subst e4
      refine ⟨l1, hl1, fun k hk => ?_, ho1, hc1', hr1⟩
      have := hCl k _ (List.getElem?_eq_getElem hk)
      rw [Nat.zero_add, hC1 k (by rw [hon, ← hl1]; exact hk), hcell k (by rw [hon, ← hl1]; exact hk)] at this
      rw [List.getD, List.getElem?_eq_getElem hk]
      exact (Option.some.inj this).symm
  obtain ⟨l1, hl1, hl1c, ho1, hc1', hr1⟩ := hold
  by_cases hroom : rows.length + rows2.length ≤ ob.cap
  · -- in the block
    have hfit : ob.n * i2.size + l2.length ≤ cur.size := by
      rw [← hsze, hl2, hon, hcs, ← Nat.add_mul]; exact Nat.mul_le_mul_right _ hroom
    have hrun := run_append_room (P := P) w t o.type ob.e i2 hdd hi2 ob.b ob.n ob.cap cur hbl ⟨b2, off2, none⟩ rows2.length cap2 l2 (by rw [hl2, hsze]) hc2' ho2 (by rw [hon]; exact hroom) hfit
    unfold Oper.wp
    rw [call_append ho (by rw [hv1, hv2]; exact hrun)]
    rw [← hsze] at hfit ⊢
    obtain ⟨E', hinv, hrep, hown⟩ := h.growOwn (i := i) (j := j) (rows := rows) (news := rows2) (arr := (cur.toList.take (ob.n * ob.sz) ++ l2 ++ cur.toList.drop (ob.n * ob.sz + l2.length)).toArray) hob hji hj hjl hbl
      (by simp only [List.size_toArray, List.length_append, List.length_take, List.length_drop, Array.length_toList]; omega)
      (fun o' ho' => by rw [seg_get hfit, if_neg (by omega)]) hon.symm hroom hLL
      (fun k row q x hk hq => by
        have e1 : cur.toList.take (ob.n * ob.sz) = l1 := by
          apply List.ext_getElem?
          intro k
          by_cases hk : k < l1.length
          · have h3 := hl1c k hk
            rw [List.getD, List.getElem?_eq_getElem hk] at h3
            rw [List.getElem?_take, if_pos (by rw [hon, ← hl1]; exact hk), Array.getElem?_toList, hcell k (by rw [hon, ← hl1]; exact hk), List.getElem?_eq_getElem hk]
            exact congrArg some h3.symm
          · rw [List.getElem?_eq_none (by omega : l1.length ≤ k), List.getElem?_take, if_neg (by rw [hon, ← hl1]; exact hk)]
        rw [e1]
        exact two_lists hl1 hl2 hr1 hr2 hLL k row q x hk hq)
      (fun o' ho' => by
        rw [Nat.add_mul] at ho'
        rw [seg_get hfit]
        by_cases hin : ob.n * ob.sz ≤ o' ∧ o' < ob.n * ob.sz + l2.length
        · rw [if_pos hin, List.getD, List.getElem?_eq_getElem (by omega)]
          exact ho2 _ (List.getElem_mem _)
        · rw [if_neg hin]
          have hlt' : o' < l1.length := by rw [hl1]; rw [hon] at hin; omega
          rw [← hl1c o' hlt', List.getD, List.getElem?_eq_getElem hlt']
          exact ho1 _ (List.getElem_mem hlt'))
    rw [List.length_append, ← hon] at hrep hown
    refine hK E' _ _ (hinv.put hd (.v0 hrep) ?_)
    intro n e' rows' he'
    injection he' with q1 q2
    injection q1 with q1 q3
    subst q1; subst q2; subst q3
    exact hown
  · -- in a new one
    have hk := h.kill i
    refine append_new (P := P) (rows := rows) (l1 := l1) (l2 := l2) (z := z2) (sz := ob.sz) (old := ob.cap) (eT := t) hk hd (h.osz i ob hob) h0 hLL (by rw [hsze]; exact hs2.1) hl1 hl2 hr1 hr2 ho1 ho2 (by unfold maxLen; omega) (by show (if j = i then none else E.η j) = none; rw [if_neg hji]; exact hj) hjl ?_ (fun E' v w' _ hi => hK E' v w' hi)
    refine call_append ho ?_
    rw [hv1, hv2, hon]
    exact run_append_grow (P := P) w t o.type ob.e i2 z2 hdd hi2 hz2 ⟨ob.b, 0, none⟩ rows.length ob.cap l1 (by rw [hl1, hsze]) hc1' ⟨b2, off2, none⟩ rows2.length cap2 l2 (by rw [hl2, hsze]) hc2' (by omega) (by omega) (growslice_fits (by omega) hb)
end
end Go.Sh
namespace Go.Sh
set_option linter.unusedVariables false
set_option linter.unusedSimpArgs false

abbrev St := List (Option (List AV))
/-- what a callee left of the variables vs -/
def wb : St → List Nat → St → St
  | st, v :: vs, x :: st' => wb (st.set v (x.map (List.map AV.pl))) vs st'
  | st, _, _ => st
/-- no variable's address in it -/
def AV.pf : AV → Bool
  | .vp _ _ => false
  | .fn _ _ => false
  | .tup _ => false
  | _ => true
/-- what a value is for a function that is handed the variables vs -/
inductive Ren (vs : List Nat) : AV → AV → Prop
  | pf {x : AV} (h : x.pf = true) : Ren vs x x.pl
  | vp {v off i : Nat} (h : vs[i]? = some v) : Ren vs (.vp v off) (.vp i off)
  | fn0 {f : FuncId} : Ren vs (.fn f []) (.fn f [])
  | fn {f : FuncId} {caps caps' : List AV} (hl : caps'.length = caps.length) (h : ∀ (j : Nat) (x y : AV), caps[j]? = some x → caps'[j]? = some y → Ren vs x y) : Ren vs (.fn f caps) (.fn f caps')

/-- what is called: function, arguments, variables' rows; what it returns, and the rows behind it -/
abbrev CRel := FuncId → List AV → St → AV → St → Prop

def Base.ok (P : Program) (G : Gl) (w : World) (C : Cm) : Prop := Holds C w ∧ ∀ g row, G g = some row → Rep0 C (.ep row) (.pointer (some ⟨g, 0, none⟩))
def FnOk (P : Program) (f : FuncId) : Prop := ∃ fn, P.funcs[f]? = some fn ∧ fn.body.isNone = false ∧ (fn.name == "runtime.NumGoroutine") = false
/-- the machine's call does what the shadow says -/
def CallOk (P : Program) (G : Gl) (f : FuncId) (args : List AV) (st : St) (res : AV) (st' : St) : Prop :=
  FnOk P f ∧ ∀ (w : World) (C : Cm) (ρ : Nat → Option Nat) (vals : Array Value), Holds C w → (∀ g row, G g = some row → Rep0 C (.ep row) (.pointer (some ⟨g, 0, none⟩))) →
    (∀ v, v < st.length → ∃ cs, st[v]? = some (some cs)) →
    (∀ v cs, st[v]? = some (some cs) → ∃ b, ρ v = some b ∧ VarAt ρ C w b cs ∧ (∀ o, C b o = none) ∧ ∀ (j n : Nat) (e : TypeId) (rows : List (List AV)), cs[j]? ≠ some (.sl (.id n e) rows)) →
    (∀ v v' b, ρ v = some b → ρ v' = some b → v = v') → (∀ v, st.length ≤ v → ρ v = none) →
    vals.size = args.length → (∀ i x, args[i]? = some x → RepT ρ C x (vals.getD i undef) ∧ ∀ n e rows, x ≠ .sl (.id n e) rows) →
    Calls P f vals w fun e w' => ∃ v C' ρ', e = .returned v ∧ w'.os = w.os ∧ w'.tape = w.tape ∧ w'.output = w.output ∧ w.heap.size ≤ w'.heap.size ∧
      (∀ b, b < w.heap.size → (∀ v, v < st.length → ρ v ≠ some b) → w'.heap[b]? = w.heap[b]?) ∧ (∀ b o, b < w.heap.size → C' b o = C b o) ∧ Holds C' w' ∧ (∀ v, v < st.length → ρ' v = ρ v) ∧ st.length ≤ st'.length ∧
      (∀ v cs, st'[v]? = some (some cs) → ∃ b, ρ' v = some b ∧ VarAt ρ' C' w' b cs ∧ (∀ o, C' b o = none) ∧ (st.length ≤ v → w.heap.size ≤ b)) ∧ RepT ρ' C' res v

section
variable (P : Program) (TT : TypeId → Option TI) (G : Gl) (CR : CRel)
/-- one operation -/
inductive AOp : Fr → Oper → Fr → Prop
  | pure {fr : Fr} {o : Oper} {av : AV} (h : aPure TT fr.st (fr.ev G) o.op = some av) : AOp fr o (fr.put o.dst av)
  | alloc {fr : Fr} {o : Oper} {t : TypeId} {ti : TI} (ho : o.op = .alloc t) (ht : TT t = some ti) : AOp fr o (({ fr with st := fr.st ++ [some ti.zero] } : Fr).put o.dst (.vp fr.st.length 0))
  | box {fr : Fr} {o : Oper} {t : TypeId} {x : Operand} (ho : o.op = .box t x) (hok : (fr.ev G x).ok = true) : AOp fr o (({ fr with st := fr.st ++ [some (fr.ev G x).scells] } : Fr).put o.dst (.vp fr.st.length 0))
  | slice {fr : Fr} {o : Oper} {t e : TypeId} {len : Nat} {parts : Array (Nat × Operand)} {ti ei : TI} (ho : o.op = .buildSlice t len parts) (ht : TT t = some ti) (hel : ti.elem = some e) (he : TT e = some ei)
      (hix : parts.toList.map (·.1) = List.range' 0 len) (hsz : ∀ p ∈ parts.toList, (fr.ev G p.2).ok = true ∧ (fr.ev G p.2).cells.length = ei.size) (hlen : len * ei.size ≤ 16777216) (h0 : 0 < ei.size) :
      AOp fr o (({ fr with nid := fr.nid + 1 } : Fr).put o.dst (.sl (.id fr.nid e) (parts.toList.map fun p => (fr.ev G p.2).cells.map AV.pl)))
  | store {fr : Fr} {o : Oper} {t : TypeId} {x v : Operand} {ti : TI} {i off : Nat} {cs : List AV} (ho : o.op = .store t x v) (ht : TT t = some ti) (hx : fr.ev G x = .vp i off) (hi : fr.st[i]? = some (some cs))
      (hok : (fr.ev G v).ok = true) (hvl : (fr.ev G v).cells.length = ti.size) (hfit : off + ti.size ≤ cs.length) :
      AOp fr o (({ fr with st := fr.st.set i (some (cs.take off ++ (fr.ev G v).scells ++ cs.drop (off + ti.size))) } : Fr).put o.dst .bad)
  | append0 {fr : Fr} {o : Oper} {s x : Operand} {t e : TypeId} {ti ei : TI} {os ox : Own} {rows : List (List AV)} (ho : o.op = .call { callee := .builtin .append, args := #[s, x], argTypes := #[t, t] }) (ht : TT t = some ti) (hel : ti.elem = some e) (he : TT e = some ei)
      (hs : fr.ev G s = .sl os rows) (hx : fr.ev G x = .sl ox []) : AOp fr o (fr.put o.dst (.sl os rows))
  | appendF {fr : Fr} {o : Oper} {s x : Operand} {t e : TypeId} {ti ei : TI} {ox : Own} {rows rows2 : List (List AV)} (ho : o.op = .call { callee := .builtin .append, args := #[s, x], argTypes := #[t, t] }) (ht : TT t = some ti) (hel : ti.elem = some e) (he : TT e = some ei)
      (hs : fr.ev G s = .sl .full rows) (hx : fr.ev G x = .sl ox rows2) (hne : rows2 ≠ []) (h0 : 0 < ei.size) (hL : ∀ r ∈ rows, r.length = ei.size) (hL2 : ∀ r ∈ rows2, r.length = ei.size)
      (hb : (rows.length + rows2.length) * ei.bytes ≤ 140737488355328) (hm : rows.length + rows2.length ≤ 9223372036854775807) :
      AOp fr o (({ fr with nid := fr.nid + 1 } : Fr).put o.dst (.sl (.id fr.nid e) (rows ++ rows2)))
  | appendI {fr : Fr} {o : Oper} {s x : Operand} {t e : TypeId} {ti ei : TI} {ox : Own} {rows rows2 : List (List AV)} {i : Nat} (ho : o.op = .call { callee := .builtin .append, args := #[s, x], argTypes := #[t, t] }) (ht : TT t = some ti) (hel : ti.elem = some e) (he : TT e = some ei)
      (hs : fr.ev G s = .sl (.id i e) rows) (hx : fr.ev G x = .sl ox rows2) (hne : rows2 ≠ []) (h0 : 0 < ei.size) (hL2 : ∀ r ∈ rows2, r.length = ei.size)
      (hb : (rows.length + rows2.length) * ei.bytes ≤ 140737488355328) (hm : rows.length + rows2.length ≤ 9223372036854775807) :
      AOp fr o ((({ fr with nid := fr.nid + 1 } : Fr).kill i).put o.dst (.sl (.id fr.nid e) (rows ++ rows2)))
  /-- a call that is handed no variable -/
  | call {fr : Fr} {o : Oper} {c : Call} {fv : Operand} {f : FuncId} {args : List AV} {res : AV} {st' : St} (ho : o.op = .call c) (hc : c.callee = .value fv) (hf : fr.ev G fv = .fn f [])
      (hargs : ∀ x ∈ c.args.toList, (fr.ev G x).pf = true) (ha : args = c.args.toList.map fun x => (fr.ev G x).pl) (hcall : CR f args [] res st') (hres : res.pf = true ∨ ∃ vs, res = .tup vs ∧ ∀ x ∈ vs, AV.pf x = true) :
      AOp fr o (fr.put o.dst res.st)
  /-- a call that is handed no variable and returns the address of a new one -/
  | callNew {fr : Fr} {o : Oper} {c : Call} {fv : Operand} {f : FuncId} {args cs : List AV} {i off : Nat} {st' : St} (ho : o.op = .call c) (hc : c.callee = .value fv) (hf : fr.ev G fv = .fn f [])
      (hargs : ∀ x ∈ c.args.toList, (fr.ev G x).pf = true) (ha : args = c.args.toList.map fun x => (fr.ev G x).pl) (hcall : CR f args [] (.vp i off) st') (hst : st'[i]? = some (some cs)) (hcs : ∀ x ∈ cs, AV.pf x = true) :
      AOp fr o (({ fr with st := fr.st ++ [some (cs.map AV.pl)] } : Fr).put o.dst (.vp fr.st.length off))
  /-- a call that is handed the variables vs -/
  | callV {fr : Fr} {o : Oper} {c : Call} {fv : Operand} {f : FuncId} {caps args : List AV} {res : AV} {vs : List Nat} {st0 st' : St} (ho : o.op = .call c) (hc : c.callee = .value fv) (hf : fr.ev G fv = .fn f caps)
      (hal : args.length = c.args.size + caps.length) (hargs : ∀ (j : Nat) (x y : AV), (c.args.toList.map (fr.ev G) ++ caps)[j]? = some x → args[j]? = some y → Ren vs x y) (hnd : vs.Nodup) (hl : st0.length = vs.length) (hl' : vs.length ≤ st'.length)
      (hst : ∀ (i v : Nat), vs[i]? = some v → ∃ cs : List AV, fr.st[v]? = some (some cs) ∧ st0[i]? = some (some (cs.map AV.pl)) ∧ ∀ x ∈ cs, AV.pf x = true) (hcall : CR f args st0 res st') (hres : res.pf = true ∨ ∃ vs, res = .tup vs ∧ ∀ x ∈ vs, AV.pf x = true)
      (hst' : ∀ i, i < vs.length → ∃ cs : List AV, st'[i]? = some (some cs) ∧ ∀ x ∈ cs, AV.pf x = true) :
      AOp fr o (({ fr with st := wb fr.st vs st' } : Fr).put o.dst res.st)

variable {P TT G CR} {B : Base} {E : Env} {fr fr' : Fr} {a : Act} {w : World} {o : Oper} {K : Act → World → Prop} {Q : Exit → Act → World → Prop}

theorem pl_id {x : AV} {n : Nat} {e : TypeId} {rows : List (List AV)} : x.pl ≠ .sl (.id n e) rows := by cases x <;> simp [AV.pl]
theorem st_id {x : AV} {n : Nat} {e : TypeId} {rows : List (List AV)} : x.st ≠ .sl (.id n e) rows := by cases x <;> simp [AV.st]
theorem RepT.pf0 {ρ : Nat → Option Nat} {C : Cm} {x : AV} {v : Value} (h : RepT ρ C x v) (hp : x.pf = true) : Rep0 C x v := by
  cases h with
  | v0 h => exact h
  | _ => exact absurd hp (by simp [AV.pf])

theorem call_run {c : Call} {fv : Operand} {f : FuncId} {fn : Func} {us : Array Value} (ho : o.op = .call c) (hc : c.callee = .value fv) (hv : a.eval fv = .func (.func f) #[] us) (hfn : P.funcs[f]? = some fn) (hb : fn.body.isNone = false) (hn : (fn.name == "runtime.NumGoroutine") = false) :
    (execOp a.eval o).run P w = .ok (.enter f (c.args.map a.eval ++ us)) w := by
  simp only [execOp, ho, resolve, hc, hv, Deferred.ofValue, Sem.run_bind, Sem.run_pure, Result.andThen_ok, invoke, callFunc, run_program, hfn, hn, hb]
  simp
end
end Go.Sh
namespace Go.Sh
set_option linter.unusedVariables false
set_option linter.unusedSimpArgs false

section
variable {P : Program} {TT : TypeId → Option TI} {G : Gl} {CR : CRel} {B : Base} {E : Env} {fr fr' : Fr} {a : Act} {w : World} {o : Oper} {K : Act → World → Prop} {Q : Exit → Act → World → Prop}

theorem room_set (st : St) (cs : List AV) : (st ++ List.replicate 1 none).set st.length (some cs) = st ++ [some cs] := by
  rw [List.set_append_right _ _ (Nat.le_refl _), Nat.sub_self]; rfl
theorem room_get (st : St) : (st ++ List.replicate 1 (none : Option (List AV)))[st.length]? = some none := by
  rw [List.getElem?_append_right (Nat.le_refl _), Nat.sub_self]; rfl

theorem wb_get : ∀ (vs : List Nat) (st st' : St), vs.Nodup → vs.length ≤ st'.length → (∀ v ∈ vs, v < st.length) →
    (∀ v : Nat, v ∉ vs → (wb st vs st')[v]? = st[v]?) ∧ (∀ i v : Nat, vs[i]? = some v → (wb st vs st')[v]? = (st'[i]?).map (fun (x : Option (List AV)) => x.map (List.map AV.pl))) ∧ (wb st vs st').length = st.length
  | [], st, st', _, _, _ => ⟨fun _ _ => by simp [wb], fun i v h => absurd h (by simp), by simp [wb]⟩
  | v :: vs, st, [], _, hl, _ => by simp at hl
  | v :: vs, st, x :: st', hnd, hl, hlt => by
    obtain ⟨hv, hnd⟩ := List.nodup_cons.1 hnd
    obtain ⟨h1, h2, h3⟩ := wb_get vs (st.set v (x.map (List.map AV.pl))) st' hnd (by simpa using hl) (fun u hu => by rw [List.length_set]; exact hlt u (by simp [hu]))
    refine ⟨fun u hu => ?_, fun i u hu => ?_, by simp only [wb]; rw [h3, List.length_set]⟩
    · simp only [List.mem_cons, not_or] at hu
      simp only [wb]
      rw [h1 u hu.2, List.getElem?_set_ne (Ne.symm hu.1)]
    · simp only [wb]
      cases i with
      | zero =>
        simp only [List.getElem?_cons_zero, Option.some.injEq] at hu
        subst hu
        rw [h1 v hv, List.getElem?_set_self (hlt v (by simp))]
        rfl
      | succ i => exact h2 i u (by simpa using hu)

/-- behind a call that was handed the variables vs -/
theorem Inv.call (h : Inv B E fr a w) {vs : List Nat} {st2 : St} {w' : World} {C' : Cm} (hos : w'.os = w.os) (htape : w'.tape = w.tape) (hout : w'.output = w.output) (hsz : w.heap.size ≤ w'.heap.size)
    (hb : ∀ b, b < w.heap.size → (∀ v ∈ vs, E.ρ v ≠ some b) → w'.heap[b]? = w.heap[b]?) (hC : ∀ b o, b < w.heap.size → C' b o = E.C b o) (hhold : Holds C' w') (hlen : st2.length = fr.st.length)
    (hin : ∀ v ∈ vs, ∃ cs b, st2[v]? = some (some cs) ∧ E.ρ v = some b ∧ VarAt E.ρ C' w' b cs ∧ (∀ x ∈ cs, ∀ n e rows, x ≠ .sl (.id n e) rows)) (hnin : ∀ v, v ∉ vs → st2[v]? = fr.st[v]?) :
    Inv B { E with C := C' } { fr with st := st2 } a w' := by
  have hle : ∀ b o u, E.C b o = some u → C' b o = some u := by
    intro b o u hu
    have := World.block_lt_of_cell? w _ (h.hold b o u hu).1
    rw [hC b o this]; exact hu
  have hsome : ∀ v : Nat, (∃ cs : List AV, st2[v]? = some (some cs)) ↔ ∃ cs, fr.st[v]? = some (some cs) := by
    intro v
    by_cases hv : v ∈ vs
    · obtain ⟨cs, b, h1, h2, _⟩ := hin v hv
      exact ⟨fun _ => (h.var_lt h2).2, fun _ => ⟨cs, h1⟩⟩
    · rw [hnin v hv]
  have hapart : ∀ v b, v ∉ vs → E.ρ v = some b → w'.heap[b]? = w.heap[b]? := by
    intro v b hv hρ
    exact hb b (h.var_lt hρ).1 (fun u hu e => hv ((h.vinj v u b hρ e) ▸ hu))
  refine ⟨hos.trans h.os, htape.trans h.tape, hout.trans h.out, Nat.le_trans h.size hsz, ?_, ?_, h.rold, hhold, ?_, h.vinj, ?_, by show B.k ≤ st2.length; rw [hlen]; exact h.kst, ?_, h.oinj, fun t => (h.tm t).mono hle (fun _ _ h => h), h.tmo, ?_, h.defers, h.tsz, h.osz⟩
  · intro b hlt hne
    rw [hb b (Nat.lt_of_lt_of_le hlt h.size) ?_]
    · exact h.old b hlt hne
    · intro v hv e
      obtain ⟨cs, hcs⟩ := (h.var_lt e).2
      obtain ⟨b', hb', _, _, hge⟩ := h.var v cs hcs
      obtain rfl : b' = b := Option.some.inj (hb'.symm.trans e)
      by_cases hk : v < B.k
      · exact hne v hk ((h.rold v hk) ▸ e)
      · have := hge (by omega); omega
  · intro b o hlt
    exact (hC b o (Nat.lt_of_lt_of_le hlt h.size)).trans (h.cold b o hlt)
  · intro v cs hv
    have hv : st2[v]? = some (some cs) := hv
    by_cases hm : v ∈ vs
    · obtain ⟨cs', b, h1, h2, h3, h4⟩ := hin v hm
      rw [h1] at hv; injection hv with hv; injection hv with hv; subst hv
      obtain ⟨c0, hc0⟩ := (h.var_lt h2).2
      obtain ⟨b', hb', _, hc, hge⟩ := h.var v c0 hc0
      obtain rfl : b' = b := Option.some.inj (hb'.symm.trans h2)
      exact ⟨b', hb', h3, fun o => (hC b' o (h.var_lt hb').1).trans (hc o), hge⟩
    · rw [hnin v hm] at hv
      obtain ⟨b, hρ, ⟨cur, e, hbl, hs, hr, h1⟩, hc, hk⟩ := h.var v cs hv
      exact ⟨b, hρ, ⟨cur, e, (hapart v b hm hρ).trans hbl, hs, fun j x hx => (hr j x hx).mono hle (fun _ _ h => h), h1⟩, fun o => (hC b o (lt_of_heap hbl)).trans (hc o), hk⟩
  · intro v hv
    exact h.rfin v (fun cs e => by obtain ⟨c2, hc2⟩ := (hsome v).2 ⟨cs, e⟩; exact hv c2 hc2)
  · intro i ob hi
    obtain ⟨⟨cur, hbl, h1, h2, h3, h4, h5, h6⟩, h7, h8, h9⟩ := h.own i ob hi
    have hlt := lt_of_heap hbl
    exact ⟨⟨cur, (hb _ hlt (fun v _ => h9 v)).trans hbl, h1, h2, h3, h4, fun o ho => (hC _ o hlt).trans (h5 o ho), fun o ho => (hC _ o hlt).trans (h6 o ho)⟩, h7, h8, h9⟩
  · intro v cs j n e rows b u hv hj hρ hu
    have hv : st2[v]? = some (some cs) := hv
    by_cases hm : v ∈ vs
    · obtain ⟨cs', b2, h1, h2, h3, h4⟩ := hin v hm
      rw [h1] at hv; injection hv with hv; injection hv with hv; subst hv
      exact absurd rfl (h4 _ (List.mem_of_getElem? hj) n e rows)
    · rw [hnin v hm] at hv
      rw [cell_of_heap (hapart v b hm hρ)] at hu
      exact h.vao v cs j n e rows b u hv hj hρ hu

theorem Ren.sound {ρ : Nat → Option Nat} {C : Cm} {vs : List Nat} {x y : AV} (hr : Ren vs x y) : ∀ {v : Value}, RepT ρ C x v → RepT (fun i => (vs[i]?).bind ρ) C y v ∧ ∀ n e rows, y ≠ .sl (.id n e) rows := by
  induction hr with
  | pf hp => intro v h; exact ⟨.v0 (h.pf0 hp).pl, fun n e rows => pl_id⟩
  | vp hi =>
    intro v h
    obtain ⟨b, hb, rfl⟩ := h.vp0
    exact ⟨.vp (by simp only [hi, Option.bind_some]; exact hb), fun n e rows h => by cases h⟩
  | fn0 =>
    intro v h
    cases h with
    | v0 h => cases h
    | fn us hl hr => exact ⟨.fn us hl (fun j x hx => absurd hx (by simp)), fun n e rows h => by cases h⟩
  | fn hl hh ih =>
    intro v h
    cases h with
    | v0 h => cases h
    | fn us hl' hr =>
      refine ⟨.fn us (hl'.trans hl.symm) (fun j y hy => ?_), fun n e rows h => by cases h⟩
      have hj := (List.getElem?_eq_some_iff.1 hy).1
      rw [hl] at hj
      exact (ih j _ y (List.getElem?_eq_getElem hj) hy (hr j _ (List.getElem?_eq_getElem hj))).1

theorem VarAt.pl {ρ ρ' : Nat → Option Nat} {C : Cm} {b : Nat} {cs : List AV} (h : VarAt ρ C w b cs) (hp : ∀ x ∈ cs, AV.pf x = true) : VarAt ρ' C w b (cs.map AV.pl) := by
  obtain ⟨cur, e, hbl, hs, hr, h1⟩ := h
  refine ⟨cur, e, hbl, by rw [List.length_map]; exact hs, fun j x hx => ?_, h1⟩
  rw [List.getElem?_map] at hx
  obtain ⟨y, hy, rfl⟩ := Option.map_eq_some_iff.1 hx
  exact .v0 ((hr j y hy).pf0 (hp y (List.mem_of_getElem? hy))).pl

theorem call_wp (hCR : ∀ f args st res st', CR f args st res st' → CallOk P G f args st res st') (h : Inv B E fr a w) (hG : GOk P G B) (hd : ∀ d', o.dst = some d' → d' < B.nt) {c : Call} {fv : Operand} {f : FuncId} {args : List AV} {res : AV} {st' : St} (ho : o.op = .call c) (hc : c.callee = .value fv) (hf : fr.ev G fv = .fn f [])
    (hargs : ∀ x ∈ c.args.toList, (fr.ev G x).pf = true) (ha : args = c.args.toList.map fun x => (fr.ev G x).pl) (hcall : CR f args [] res st') (hres : res.pf = true ∨ ∃ vs, res = .tup vs ∧ ∀ x ∈ vs, AV.pf x = true)
    (hK : ∀ E' a' w', E'.η = E.η → Inv B E' (fr.put o.dst res.st) a' w' → K a' w') : o.wp P a w K Q := by
  subst ha
  obtain ⟨⟨fn, hfn, hb, hn⟩, hok⟩ := hCR _ _ _ _ _ hcall
  have hrf := h.ev hG fv
  rw [hf] at hrf
  have hv : a.eval fv = .func (.func f) #[] #[] := by
    generalize a.eval fv = vv at hrf
    cases hrf with
    | v0 h => cases h
    | fn us hl _ => have : us = #[] := by simpa using hl
                    rw [this]
  unfold Oper.wp
  rw [call_run ho hc hv hfn hb hn, Array.append_empty]
  show Calls P f (c.args.map a.eval) w _
  have hcl := hok w E.C (fun _ => none) (c.args.map a.eval) h.hold (fun g row hg => (hG.2.1 g row hg).mono (h.cle hG)) (fun v hv => absurd hv (by simp)) (fun v cs hv => absurd hv (by simp)) (fun v v' b hv => by cases hv) (fun _ _ => rfl)
    (by simp) (by
      intro i x hx
      rw [List.getElem?_map] at hx
      obtain ⟨y, hy, rfl⟩ := Option.map_eq_some_iff.1 hx
      rw [Array.getElem?_toList] at hy
      have e1 : (c.args.map a.eval).getD i undef = a.eval y := by simp [Array.getD_eq_getD_getElem?, hy]
      rw [e1]
      exact ⟨.v0 (h.ev hG y).pl, fun n e rows => pl_id⟩)
  refine hcl.mono ?_
  rintro e w' ⟨v, C', ρ', rfl, hos, ht, hout, hsz, hbl, hC, hhold, _, _, _, hrep⟩
  have hgrow := h.grow (C' := C') hos ht hout hsz (fun b hb => hbl b hb (fun v hv => absurd hv (by simp))) hC (fun b o u _ hu => hhold b o u hu)
  have hrep' : RepT E.ρ C' res v := by
    rcases hres with hp | ⟨vs, rfl, hvs⟩
    · exact .v0 (hrep.pf0 hp)
    · cases hrep with
      | v0 h => cases h
      | tup us hl hr => exact .tup us hl (fun j x hx => .v0 ((hr j x hx).pf0 (hvs x (List.mem_of_getElem? hx))))
  refine hK _ _ _ ?_ (hgrow.put hd hrep'.st (fun n e rows he => absurd he st_id))
  rfl

theorem callNew_wp (hCR : ∀ f args st res st', CR f args st res st' → CallOk P G f args st res st') (h : Inv B E fr a w) (hG : GOk P G B) (hd : ∀ d', o.dst = some d' → d' < B.nt) {c : Call} {fv : Operand} {f : FuncId} {args cs : List AV} {i off : Nat} {st' : St} (ho : o.op = .call c) (hc : c.callee = .value fv) (hf : fr.ev G fv = .fn f [])
    (hargs : ∀ x ∈ c.args.toList, (fr.ev G x).pf = true) (ha : args = c.args.toList.map fun x => (fr.ev G x).pl) (hcall : CR f args [] (.vp i off) st') (hst : st'[i]? = some (some cs)) (hcs : ∀ x ∈ cs, AV.pf x = true)
    (hK : ∀ E' a' w', Inv B E' (({ fr with st := fr.st ++ [some (cs.map AV.pl)] } : Fr).put o.dst (.vp fr.st.length off)) a' w' → K a' w') : o.wp P a w K Q := by
  subst ha
  obtain ⟨⟨fn, hfn, hb, hn⟩, hok⟩ := hCR _ _ _ _ _ hcall
  have hrf := h.ev hG fv
  rw [hf] at hrf
  have hv : a.eval fv = .func (.func f) #[] #[] := by
    generalize a.eval fv = vv at hrf
    cases hrf with
    | v0 h => cases h
    | fn us hl _ => have : us = #[] := by simpa using hl
                    rw [this]
  unfold Oper.wp
  rw [call_run ho hc hv hfn hb hn, Array.append_empty]
  show Calls P f (c.args.map a.eval) w _
  have hcl := hok w E.C (fun _ => none) (c.args.map a.eval) h.hold (fun g row hg => (hG.2.1 g row hg).mono (h.cle hG)) (fun v hv => absurd hv (by simp)) (fun v cs hv => absurd hv (by simp)) (fun v v' b hv => by cases hv) (fun _ _ => rfl)
    (by simp) (by
      intro i x hx
      rw [List.getElem?_map] at hx
      obtain ⟨y, hy, rfl⟩ := Option.map_eq_some_iff.1 hx
      rw [Array.getElem?_toList] at hy
      have e1 : (c.args.map a.eval).getD i undef = a.eval y := by simp [Array.getD_eq_getD_getElem?, hy]
      rw [e1]
      exact ⟨.v0 (h.ev hG y).pl, fun n e rows => pl_id⟩)
  refine hcl.mono ?_
  rintro e w' ⟨v, C', ρ', rfl, hos, ht, hout, hsz, hbl, hC, hhold, _, _, hvars, hrep⟩
  have hgrow := h.grow (C' := C') hos ht hout hsz (fun b hb => hbl b hb (fun v hv => absurd hv (by simp))) hC (fun b o u _ hu => hhold b o u hu)
  obtain ⟨b, hρb, hva, hCn, hge⟩ := hvars i cs hst
  have hge := hge (Nat.zero_le _)
  obtain ⟨b2, hb2, rfl⟩ := hrep.vp0
  obtain rfl : b = b2 := Option.some.inj (hρb.symm.trans hb2)
  have hroom := hgrow.room 1
  have hset := hroom.setVar (i := fr.st.length) (b := b) (cs := cs.map AV.pl) (room_get _) (hva.pl hcs) (Nat.le_trans h.size hge) hCn
    (fun v hv => by have := (h.var_lt hv).1; omega) (fun j ob hj e => by
      obtain ⟨⟨cur, hbl2, _⟩, _⟩ := h.own j ob hj
      have := lt_of_heap hbl2; omega)
    (fun j n e rows u hj => by
      rw [List.getElem?_map] at hj
      obtain ⟨y, _, hy2⟩ := Option.map_eq_some_iff.1 hj
      exact absurd hy2 pl_id) h.kst
  have e1 := room_set fr.st (cs.map AV.pl)
  simp only [] at hset
  rw [e1] at hset
  exact hK _ _ _ (hset.put hd (.vp (by show (if fr.st.length = fr.st.length then _ else _) = _; rw [if_pos rfl])) (fun _ _ _ h => by cases h))

theorem callV_wp (hCR : ∀ f args st res st', CR f args st res st' → CallOk P G f args st res st') (h : Inv B E fr a w) (hG : GOk P G B) (hd : ∀ d', o.dst = some d' → d' < B.nt) {c : Call} {fv : Operand} {f : FuncId} {caps args : List AV} {res : AV} {vs : List Nat} {st0 st' : St} (ho : o.op = .call c) (hc : c.callee = .value fv) (hf : fr.ev G fv = .fn f caps)
    (hal : args.length = c.args.size + caps.length) (hargs : ∀ (j : Nat) (x y : AV), (c.args.toList.map (fr.ev G) ++ caps)[j]? = some x → args[j]? = some y → Ren vs x y) (hnd : vs.Nodup) (hl : st0.length = vs.length) (hl' : vs.length ≤ st'.length)
    (hst : ∀ (i v : Nat), vs[i]? = some v → ∃ cs : List AV, fr.st[v]? = some (some cs) ∧ st0[i]? = some (some (cs.map AV.pl)) ∧ ∀ x ∈ cs, AV.pf x = true) (hcall : CR f args st0 res st') (hres : res.pf = true ∨ ∃ vs, res = .tup vs ∧ ∀ x ∈ vs, AV.pf x = true)
    (hst' : ∀ i, i < vs.length → ∃ cs : List AV, st'[i]? = some (some cs) ∧ ∀ x ∈ cs, AV.pf x = true)
    (hK : ∀ E' a' w', E'.η = E.η → Inv B E' (({ fr with st := wb fr.st vs st' } : Fr).put o.dst res.st) a' w' → K a' w') : o.wp P a w K Q := by
  obtain ⟨⟨fn, hfn, hb, hn⟩, hok⟩ := hCR _ _ _ _ _ hcall
  have hrf := h.ev hG fv
  rw [hf] at hrf
  obtain ⟨us, hv, husl, husr⟩ : ∃ us : Array Value, a.eval fv = .func (.func f) #[] us ∧ us.size = caps.length ∧ ∀ (j : Nat) (x : AV), caps[j]? = some x → RepT E.ρ E.C x (us.getD j undef) := by
    generalize a.eval fv = vv at hrf
    cases hrf with
    | v0 h => cases h
    | fn us hl hr => exact ⟨us, rfl, hl, hr⟩
  unfold Oper.wp
  rw [call_run ho hc hv hfn hb hn]
  show Calls P f (c.args.map a.eval ++ us) w _
  have hvlt : ∀ v ∈ vs, v < fr.st.length := by
    intro v hv
    obtain ⟨i, hi⟩ := List.mem_iff_getElem?.1 hv
    obtain ⟨cs, hcs, _⟩ := hst i v hi
    exact (List.getElem?_eq_some_iff.1 hcs).1
  have hvar : ∀ i v : Nat, vs[i]? = some v → ∃ (cs : List AV) (b : Nat), fr.st[v]? = some (some cs) ∧ st0[i]? = some (some (cs.map AV.pl)) ∧ (∀ x ∈ cs, AV.pf x = true) ∧ E.ρ v = some b ∧ VarAt E.ρ E.C w b cs ∧ (∀ o, E.C b o = none) := by
    intro i v hi
    obtain ⟨cs, h1, h2, h3⟩ := hst i v hi
    obtain ⟨b, h4, h5, h6, _⟩ := h.var v cs h1
    exact ⟨cs, b, h1, h2, h3, h4, h5, h6⟩
  have hcl := hok w E.C (fun i => (vs[i]?).bind E.ρ) (c.args.map a.eval ++ us) h.hold (fun g row hg => (hG.2.1 g row hg).mono (h.cle hG))
    (fun i hi => by
      obtain ⟨cs, b, _, h2, _⟩ := hvar i vs[i] (List.getElem?_eq_getElem (by omega))
      exact ⟨_, h2⟩)
    (fun i cs hi => by
      have hlt : i < vs.length := by rw [← hl]; exact (List.getElem?_eq_some_iff.1 hi).1
      obtain ⟨cs', b, h1, h2, h3, h4, h5, h6⟩ := hvar i vs[i] (List.getElem?_eq_getElem hlt)
      rw [h2] at hi; injection hi with hi; injection hi with hi; subst hi
      refine ⟨b, by simp only [List.getElem?_eq_getElem hlt, Option.bind_some]; exact h4, h5.pl h3, h6, fun j n e rows hj => ?_⟩
      rw [List.getElem?_map] at hj
      obtain ⟨y, hy, hy2⟩ := Option.map_eq_some_iff.1 hj
      exact absurd hy2 pl_id)
    (fun i j b hi hj => by
      obtain ⟨v, h1, h2⟩ := Option.bind_eq_some_iff.1 hi
      obtain ⟨v', h3, h4⟩ := Option.bind_eq_some_iff.1 hj
      obtain rfl := h.vinj v v' b h2 h4
      have hi' := (List.getElem?_eq_some_iff.1 h1).1
      exact (List.getElem?_inj hi' hnd).1 (h1.trans h3.symm))
    (fun i hi => by rw [List.getElem?_eq_none (by omega)]; rfl)
    (by simp [hal, husl])
    (by
      intro i y hy
      have hi := (List.getElem?_eq_some_iff.1 hy).1
      rw [hal] at hi
      have hi2 : i < (c.args.toList.map (fr.ev G) ++ caps).length := by simp; omega
      have hr := hargs i _ y (List.getElem?_eq_getElem hi2) hy
      refine hr.sound ?_
      rcases Nat.lt_or_ge i c.args.size with hlt | hge
      · have e1 : (c.args.map a.eval ++ us).getD i undef = a.eval c.args[i] := by
          simp [Array.getD_eq_getD_getElem?, Array.getElem?_append, hlt]
        have e2 : (c.args.toList.map (fr.ev G) ++ caps)[i] = fr.ev G c.args[i] := by
          rw [List.getElem_append_left (by simpa using hlt)]; simp
        rw [e1, e2]; exact h.ev hG _
      · have e1 : (c.args.map a.eval ++ us).getD i undef = us.getD (i - c.args.size) undef := by
          simp only [Array.getD_eq_getD_getElem?, Array.getElem?_append, Array.size_map, if_neg (show ¬ i < c.args.size by omega)]
        have hlt2 : i - c.args.size < caps.length := by omega
        have e2 : (c.args.toList.map (fr.ev G) ++ caps)[i] = caps[i - c.args.size] := by
          rw [List.getElem_append_right (by simpa using hge)]; simp
        rw [e1, e2]; exact husr _ _ (List.getElem?_eq_getElem hlt2))
  refine hcl.mono ?_
  rintro e w' ⟨v, C', ρ', rfl, hos, ht, hout, hsz, hbl, hC, hhold, hρ, _, hst2, hrep⟩
  obtain ⟨g1, g2, g3⟩ := wb_get vs fr.st st' hnd hl' hvlt
  have hcall := h.call (vs := vs) (st2 := wb fr.st vs st') (C' := C') hos ht hout hsz
    (fun b hb hne => hbl b hb (fun i hi e => by
      obtain ⟨v, h1, h2⟩ := Option.bind_eq_some_iff.1 e
      exact hne v (List.mem_of_getElem? h1) h2)) hC hhold g3
    (fun v hv => by
      obtain ⟨i, hi⟩ := List.mem_iff_getElem?.1 hv
      have hlt := (List.getElem?_eq_some_iff.1 hi).1
      obtain ⟨cs, hcs, hcp⟩ := hst' i hlt
      obtain ⟨b, h1, h2, h3, _⟩ := hst2 i cs hcs
      obtain ⟨_, b2, _, _, _, h4, _, _⟩ := hvar i v hi
      have e1 : ρ' i = E.ρ v := by
        rw [hρ i (by omega)]; simp only [hi, Option.bind_some]
      obtain rfl : b2 = b := by rw [e1, h4] at h1; exact Option.some.inj h1
      refine ⟨cs.map AV.pl, b2, by rw [g2 i v hi, hcs]; rfl, h4, h2.pl hcp, fun x hx n e rows => ?_⟩
      obtain ⟨y, _, rfl⟩ := List.mem_map.1 hx
      exact pl_id) (fun v hv => g1 v hv)
  have hrep' : RepT E.ρ C' res v := by
    rcases hres with hp | ⟨vs, rfl, hvs⟩
    · exact .v0 (hrep.pf0 hp)
    · cases hrep with
      | v0 h => cases h
      | tup us hl hr => exact .tup us hl (fun j x hx => .v0 ((hr j x hx).pf0 (hvs x (List.mem_of_getElem? hx))))
  refine hK _ _ _ ?_ (hcall.put hd hrep'.st (fun n e rows he => absurd he st_id))
  rfl

theorem AOp.sound (hTT : ∀ t ti, TT t = some ti → TI.of P t = some ti) (hCR : ∀ f args st res st', CR f args st res st' → CallOk P G f args st res st') (hr : AOp TT G CR fr o fr') (h : Inv B E fr a w) (hG : GOk P G B)
    (hd : ∀ d', o.dst = some d' → d' < B.nt) (hK : ∀ E' a' w', Inv B E' fr' a' w' → K a' w') : o.wp P a w K Q := by
  cases hr with
  | pure hp => exact pure_wp hTT h hG hd hp (fun v _ _ hi => hK _ _ _ hi)
  | @alloc t ti ho ht =>
    have h2 := h.room 1
    refine alloc_wp hTT h2 hd ho ht (i := fr.st.length) (room_get _) (by have := h.kst; exact this) (fun E' a' w' _ hi => hK E' a' w' ?_)
    have e := room_set fr.st ti.zero
    simp only [] at hi
    rw [e] at hi; exact hi
  | @box t x ho hok =>
    have h2 := h.room 1
    refine box_wp (G := G) h2 hG hd ho hok (i := fr.st.length) (room_get _) (by have := h.kst; exact this) (fun E' a' w' _ hi => hK E' a' w' ?_)
    have e := room_set fr.st (fr.ev G x).scells
    simp only [] at hi
    have e2 : Fr.ev { tm := fr.tm, st := fr.st ++ List.replicate 1 none, nid := fr.nid } G x = fr.ev G x := by cases x <;> rfl
    rw [e2, e] at hi; exact hi
  | @slice t e len parts ti ei ho ht hel he hix hsz hlen h0 =>
    have h2 := h.moreIds (Nat.le_succ fr.nid)
    have e2 : ∀ x, Fr.ev { tm := fr.tm, st := fr.st, nid := fr.nid + 1 } G x = fr.ev G x := fun x => by cases x <;> rfl
    refine slice_wp hTT h2 hG hd ho ht hel he hix (fun p hp => by have e3 := e2 p.2; simp only [Nat.succ_eq_add_one]; rw [e3]; exact hsz p hp) hlen h0 (i := fr.nid) (h.freeId (Nat.le_refl _)) (Nat.lt_succ_self _) (fun E' v w' _ hi => hK E' _ w' ?_)
    have e3 : (fun p : Nat × Operand => (Fr.ev { tm := fr.tm, st := fr.st, nid := fr.nid.succ } G p.2).cells.map AV.pl) = fun p => (fr.ev G p.2).cells.map AV.pl := by funext p; rw [show fr.nid.succ = fr.nid + 1 from rfl, e2]
    rw [e3] at hi; exact hi
  | @store t x v ti i off cs ho ht hx hi hok hvl hfit => exact store_wp hTT h hG hd ho ht hx hi hok hvl hfit (fun a' w' hi => hK _ a' w' hi)
  | @append0 s x t e ti ei os ox rows ho ht hel he hs hx => exact append0_wp hTT h hG hd ho ht hel he hs hx (fun hi => hK _ _ _ hi)
  | @appendF s x t e ti ei ox rows rows2 ho ht hel he hs hx hne h0 hL hL2 hb hm =>
    have h2 := h.moreIds (Nat.le_succ fr.nid)
    have e2 : ∀ x, Fr.ev { tm := fr.tm, st := fr.st, nid := fr.nid.succ } G x = fr.ev G x := fun x => by cases x <;> rfl
    exact append_full_wp hTT h2 hG hd ho ht hel he ((e2 s).trans hs) ((e2 x).trans hx) hne h0 hL hL2 hb hm (j := fr.nid) (h.freeId (Nat.le_refl _)) (Nat.lt_succ_self _) (fun E' v w' _ hi => hK E' _ w' hi)
  | @appendI s x t e ti ei ox rows rows2 i ho ht hel he hs hx hne h0 hL2 hb hm =>
    have h2 := h.moreIds (Nat.le_succ fr.nid)
    have e2 : ∀ x, Fr.ev { tm := fr.tm, st := fr.st, nid := fr.nid.succ } G x = fr.ev G x := fun x => by cases x <;> rfl
    exact append_id_wp hTT h2 hG hd ho ht hel he ((e2 s).trans hs) ((e2 x).trans hx) hne h0 hL2 hb hm (j := fr.nid) (h.freeId (Nat.le_refl _)) (Nat.lt_succ_self _) (fun E' v w' hi => hK E' _ w' hi)
  | @call c fv f args res st' ho hc hf hargs ha hcall hres => exact call_wp hCR h hG hd ho hc hf hargs ha hcall hres (fun E' a' w' _ hi => hK E' a' w' hi)
  | @callNew c fv f args cs i off st' ho hc hf hargs ha hcall hst hcs => exact callNew_wp hCR h hG hd ho hc hf hargs ha hcall hst hcs (fun E' a' w' hi => hK E' a' w' hi)
  | @callV c fv f caps args res vs st0 st' ho hc hf hal hargs hnd hl hl' hst hcall hres hst' => exact callV_wp hCR h hG hd ho hc hf hal hargs hnd hl hl' hst hcall hres hst' (fun E' a' w' _ hi => hK E' a' w' hi)
end
end Go.Sh
namespace Go.Sh
set_option linter.unusedVariables false
set_option linter.unusedSimpArgs false
/-! dead variables and own slices are forgotten -/
def tidyId : List (Nat × Nat) → Nat → Option Nat
  | [], _ => none
  | (a, b) :: r, n => match Nat.beq a n with
    | true => some b
    | false => tidyId r n
def tidyOk : List (Nat × Nat) → Nat → Bool
  | [], _ => true
  | (a, b) :: r, m => Nat.blt b m && r.all (fun p => !(Nat.beq p.1 a) && !(Nat.beq p.2 b)) && tidyOk r m
def tidyEta (η : Nat → Option OB) : List (Nat × Nat) → Nat → Option OB
  | [], _ => none
  | (a, b) :: r, n => match Nat.beq b n with
    | true => η a
    | false => tidyEta η r n
/-- of what a closure holds -/
def AV.tidy0 (k : Nat) : AV → AV
  | .vp v off => match Nat.blt v k with
    | true => .vp v off
    | false => .bad
  | .fn f [] => .fn f []
  | .fn _ _ => .bad
  | .tup _ => .bad
  | .int k n => .int k n
  | .bool b => .bool b
  | .sl _ rows => .sl .no rows
  | .agg cs => .agg cs
  | .ep row => .ep row
  | .bad => .bad
def AV.tidy (k : Nat) (ren : List (Nat × Nat)) : AV → AV
  | .sl (.id n e) rows => match tidyId ren n with
    | some n' => .sl (.id n' e) rows
    | none => .sl .no rows
  | .sl .no rows => .sl .no rows
  | .sl .full rows => .sl .full rows
  | .vp v off => match Nat.blt v k with
    | true => .vp v off
    | false => .bad
  | .fn f caps => .fn f (caps.map (AV.tidy0 k))
  | .tup _ => .bad
  | .int k n => .int k n
  | .bool b => .bool b
  | .agg cs => .agg cs
  | .ep row => .ep row
  | .bad => .bad
def Fr.tidy (fr : Fr) (k : Nat) (ren : List (Nat × Nat)) (m : Nat) : Fr :=
  { tm := fun t => (fr.tm t).tidy k ren, st := (fr.st.take k).map (Option.map (List.map (AV.tidy k ren))), nid := m }

theorem tidyId_spec {η : Nat → Option OB} {m : Nat} : ∀ {ren : List (Nat × Nat)}, tidyOk ren m = true → ∀ {n n' : Nat}, tidyId ren n = some n' → n' < m ∧ tidyEta η ren n' = η n ∧ (n, n') ∈ ren
  | [], _, n, n', h => by cases h
  | (a, b) :: r, hok, n, n', h => by
    simp only [tidyOk, Bool.and_eq_true] at hok
    obtain ⟨⟨h1, h2⟩, h3⟩ := hok
    simp only [tidyId] at h
    split at h
    · rename_i he
      injection h with h; subst h
      have := Nat.eq_of_beq_eq_true he
      subst this
      refine ⟨Nat.le_of_ble_eq_true h1, ?_, by simp⟩
      simp only [tidyEta]
      rw [show Nat.beq b b = true by simp]
    · obtain ⟨h4, h5, h6⟩ := tidyId_spec (η := η) h3 h
      refine ⟨h4, ?_, by simp [h6]⟩
      have := List.all_eq_true.1 h2 _ h6
      simp only [Bool.and_eq_true, Bool.not_eq_true'] at this
      simp only [tidyEta]
      have hb : Nat.beq b n' = false := by
        cases hb : Nat.beq b n' with
        | false => rfl
        | true => have e := Nat.eq_of_beq_eq_true hb; subst e; have h7 := this.2; simp at h7
      rw [hb]; exact h5
theorem tidyEta_spec {η : Nat → Option OB} {m : Nat} : ∀ {ren : List (Nat × Nat)}, tidyOk ren m = true → ∀ {n : Nat} {ob : OB}, tidyEta η ren n = some ob → ∃ a, η a = some ob ∧ tidyId ren a = some n
  | [], _, n, ob, h => by cases h
  | (a, b) :: r, hok, n, ob, h => by
    simp only [tidyOk, Bool.and_eq_true] at hok
    obtain ⟨⟨h1, h2⟩, h3⟩ := hok
    simp only [tidyEta] at h
    split at h
    · rename_i he
      have := Nat.eq_of_beq_eq_true he
      subst this
      refine ⟨a, h, ?_⟩
      simp only [tidyId]
      rw [show Nat.beq a a = true by simp]
    · obtain ⟨c, hc, hc2⟩ := tidyEta_spec h3 h
      refine ⟨c, hc, ?_⟩
      have hmem := (tidyId_spec (η := η) h3 hc2).2.2
      have := List.all_eq_true.1 h2 _ hmem
      simp only [Bool.and_eq_true, Bool.not_eq_true'] at this
      simp only [tidyId]
      have hb : Nat.beq a c = false := by
        cases hb : Nat.beq a c with
        | false => rfl
        | true => have e := Nat.eq_of_beq_eq_true hb; subst e; have h7 := this.1; simp at h7
      rw [hb]; exact hc2

theorem Rep0.tidy {C : Cm} {k : Nat} {ren : List (Nat × Nat)} {av : AV} {v : Value} (h : Rep0 C av v) : Rep0 C (av.tidy k ren) v := by
  cases h with
  | nil o a cap h h2 =>
    cases o with
    | id n e =>
      simp only [AV.tidy]
      split
      · exact .nil _ a cap (fun h => by cases h) h2
      · exact .nil _ a cap (fun h => by cases h) h2
    | _ => exact .nil _ a cap h h2
  | sl o rows b off cap L us hcap hm hf hc hr =>
    cases o with
    | id n e =>
      simp only [AV.tidy]
      split
      · exact .sl _ rows b off cap L us hcap hm (fun h => by cases h) hc hr
      · exact .sl _ rows b off cap L us hcap hm (fun h => by cases h) hc hr
    | _ => exact .sl _ rows b off cap L us hcap hm hf hc hr
  | int k n => exact .int k n
  | bool b => exact .bool b
  | agg cs us hl h1 hr => exact .agg cs us hl h1 hr
  | ep row b off us hc hr => exact .ep row b off us hc hr
  | bad v => exact .bad v
theorem RepT.tidy0 {ρ : Nat → Option Nat} {C : Cm} {k : Nat} {av : AV} {v : Value} (h : RepT ρ C av v) : RepT (fun v => if v < k then ρ v else none) C (av.tidy0 k) v := by
  cases h with
  | v0 h =>
    cases h with
    | nil o a cap h h2 => exact .v0 (.nil .no a cap (fun h => by cases h) h2)
    | sl o rows b off cap L us hcap hm hf hc hr => exact .v0 (.sl .no rows b off cap L us hcap hm (fun h => by cases h) hc hr)
    | int k n => exact .v0 (.int k n)
    | bool b => exact .v0 (.bool b)
    | agg cs us hl h1 hr => exact .v0 (.agg cs us hl h1 hr)
    | ep row b off us hc hr => exact .v0 (.ep row b off us hc hr)
    | bad v => exact .v0 (.bad v)
  | @vp i off b h =>
    simp only [AV.tidy0]
    split
    · rename_i hk
      have hk : i < k := Nat.le_of_ble_eq_true hk
      exact .vp (by rw [if_pos hk]; exact h)
    · exact .v0 (.bad _)
  | @fn f caps us hl hr =>
    cases caps with
    | nil => exact .fn us hl (fun j x hx => absurd hx (by simp))
    | cons x l => exact .v0 (.bad _)
  | tup us hl hr => exact .v0 (.bad _)
theorem RepT.tidy {ρ : Nat → Option Nat} {C : Cm} {k : Nat} {ren : List (Nat × Nat)} {av : AV} {v : Value} (h : RepT ρ C av v) : RepT (fun v => if v < k then ρ v else none) C (av.tidy k ren) v := by
  cases h with
  | v0 h => exact .v0 h.tidy
  | @vp i off b h =>
    simp only [AV.tidy]
    split
    · rename_i hk
      have hk : i < k := Nat.le_of_ble_eq_true hk
      exact .vp (by rw [if_pos hk]; exact h)
    · exact .v0 (.bad _)
  | @fn f caps us hl hr =>
    simp only [AV.tidy]
    refine .fn us (by simpa using hl) (fun j x hx => ?_)
    simp only [List.getElem?_map, Option.map_eq_some_iff] at hx
    obtain ⟨y, hy, rfl⟩ := hx
    exact (hr j y hy).tidy0
  | tup us hl hr => exact .v0 (.bad _)
theorem tidy_id {k : Nat} {ren : List (Nat × Nat)} {av : AV} {n : Nat} {e : TypeId} {rows : List (List AV)} (h : av.tidy k ren = .sl (.id n e) rows) : ∃ n0, av = .sl (.id n0 e) rows ∧ tidyId ren n0 = some n := by
  cases av with
  | sl o rows' =>
    cases o with
    | id n0 e0 =>
      simp only [AV.tidy] at h
      split at h
      · rename_i n' hn
        injection h with h1 h2
        injection h1 with h3 h4
        subst h3; subst h4; subst h2
        exact ⟨n0, rfl, hn⟩
      · cases h
    | _ => cases h
  | vp v off => simp only [AV.tidy] at h; split at h <;> cases h
  | _ => cases h

section
variable {B : Base} {E : Env} {fr : Fr} {a : Act} {w : World}
theorem tidy_get {fr : Fr} {k v : Nat} {ren : List (Nat × Nat)} {m : Nat} {cs : List AV} (h : (fr.tidy k ren m).st[v]? = some (some cs)) : v < k ∧ ∃ cs0, fr.st[v]? = some (some cs0) ∧ cs = cs0.map (AV.tidy k ren) := by
  simp only [Fr.tidy, List.getElem?_map, Option.map_eq_some_iff, List.getElem?_take] at h
  obtain ⟨x, hx, hx2⟩ := h
  split at hx
  · rename_i hlt
    cases x with
    | none => obtain ⟨_, h, _⟩ := hx2; cases h
    | some cs0 => obtain ⟨a, ha, hx2⟩ := hx2; injection ha with ha; subst ha; exact ⟨hlt, cs0, hx, hx2.symm⟩
  · cases hx
theorem Inv.tidy (h : Inv B E fr a w) {k m : Nat} {ren : List (Nat × Nat)} (hk : B.k ≤ k) (hok : tidyOk ren m = true) :
    Inv B { E with ρ := fun v => if v < k then E.ρ v else none, η := tidyEta E.η ren } (fr.tidy k ren m) a w := by
  have hown : ∀ n e rows v, OwnV E.η n e rows v → ∀ n', tidyId ren n = some n' → OwnV (tidyEta E.η ren) n' e rows v := by
    rintro n e rows v ⟨ob, h1, h2⟩ n' hn
    exact ⟨ob, (tidyId_spec hok hn).2.1.trans h1, h2⟩
  have hρ : ∀ {v b : Nat}, (if v < k then E.ρ v else none) = some b → v < k ∧ E.ρ v = some b := by
    intro v b hv
    split at hv
    · rename_i hlt; exact ⟨hlt, hv⟩
    · cases hv
  refine ⟨h.os, h.tape, h.out, h.size, h.old, h.cold, ?_, h.hold, ?_, ?_, ?_, ?_, ?_, ?_, fun t => (h.tm t).tidy, ?_, ?_, h.defers, h.tsz, ?_⟩
  · intro v hv
    show (if v < k then E.ρ v else none) = _
    rw [if_pos (by omega)]; exact h.rold v hv
  · intro v cs hv
    obtain ⟨hlt, cs0, hcs, rfl⟩ := tidy_get hv
    obtain ⟨b, hb, ⟨cur, e, hbl, hs, hr, h1⟩, hc, hk2⟩ := h.var v cs0 hcs
    refine ⟨b, by show (if v < k then E.ρ v else none) = _; rw [if_pos hlt]; exact hb, ⟨cur, e, hbl, by simpa using hs, fun j x hx => ?_, h1⟩, hc, hk2⟩
    simp only [List.getElem?_map, Option.map_eq_some_iff] at hx
    obtain ⟨y, hy, rfl⟩ := hx
    exact (hr j y hy).tidy
  · intro v v' b hv hv'
    exact h.vinj v v' b (hρ hv).2 (hρ hv').2
  · intro v hv
    show (if v < k then E.ρ v else none) = none
    split
    · rename_i hlt
      refine h.rfin v (fun cs hcs => hv (cs.map (AV.tidy k ren)) ?_)
      simp [Fr.tidy, List.getElem?_map, List.getElem?_take, hlt, hcs]
    · rfl
  · have := h.kst
    simp only [Fr.tidy, List.length_map, List.length_take]; omega
  · intro i ob hi
    obtain ⟨a0, ha, ha2⟩ := tidyEta_spec hok hi
    obtain ⟨h1, h2, h3, h4⟩ := h.own a0 ob ha
    refine ⟨h1, h2, (tidyId_spec (η := E.η) hok ha2).1, fun v hv => h4 v (hρ hv).2⟩
  · intro i j ob ob' hi hj he
    obtain ⟨a1, ha1, ha2⟩ := tidyEta_spec hok hi
    obtain ⟨b1, hb1, hb2⟩ := tidyEta_spec hok hj
    have := h.oinj a1 b1 ob ob' ha1 hb1 he
    subst this
    rw [ha2] at hb2; exact Option.some.inj hb2
  · intro t n e rows ht
    obtain ⟨n0, h1, h2⟩ := tidy_id ht
    exact hown _ _ _ _ (h.tmo t n0 e rows h1) n h2
  · intro v cs j n e rows b u hv hj hb hu
    obtain ⟨hlt, cs0, hcs, rfl⟩ := tidy_get hv
    simp only [List.getElem?_map, Option.map_eq_some_iff] at hj
    obtain ⟨y, hy, hy2⟩ := hj
    obtain ⟨n0, rfl, h2⟩ := tidy_id hy2
    exact hown _ _ _ _ (h.vao v cs0 j n0 e rows b u hcs hy (hρ hb).2 hu) n h2
  · intro i ob hi
    obtain ⟨a0, ha, _⟩ := tidyEta_spec hok hi
    exact h.osz a0 ob ha
/-- of one variable, what is known of its slices' room is forgotten -/
def Fr.plain (fr : Fr) (i : Nat) : Fr := match fr.st[i]? with
  | some (some cs) => { fr with st := fr.st.set i (some (cs.map AV.pl)) }
  | _ => fr
theorem Inv.plain (h : Inv B E fr a w) (i : Nat) : Inv B E (fr.plain i) a w := by
  unfold Fr.plain
  split
  · rename_i cs0 hcs0
    have hlt := (List.getElem?_eq_some_iff.1 hcs0).1
    have hget : ∀ (v : Nat) (cs : List AV), (fr.st.set i (some (cs0.map AV.pl)))[v]? = some (some cs) → (v = i ∧ cs = cs0.map AV.pl) ∨ (v ≠ i ∧ fr.st[v]? = some (some cs)) := by
      intro v cs hv
      by_cases e : v = i
      · subst e
        rw [List.getElem?_set_self hlt] at hv
        injection hv with hv; injection hv with hv
        exact .inl ⟨rfl, hv.symm⟩
      · rw [List.getElem?_set_ne (Ne.symm e)] at hv
        exact .inr ⟨e, hv⟩
    refine { h with var := ?_, rfin := ?_, kst := ?_, vao := ?_ }
    · intro v cs hv
      rcases hget v cs hv with ⟨rfl, rfl⟩ | ⟨_, hv⟩
      · obtain ⟨b, hb, ⟨cur, e, hbl, hs, hr, h1⟩, hc, hk2⟩ := h.var v cs0 hcs0
        refine ⟨b, hb, ⟨cur, e, hbl, by simpa using hs, fun j x hx => ?_, h1⟩, hc, hk2⟩
        simp only [List.getElem?_map, Option.map_eq_some_iff] at hx
        obtain ⟨y, hy, rfl⟩ := hx
        exact .v0 (hr j y hy).pl
      · exact h.var v cs hv
    · intro v hv
      refine h.rfin v (fun cs hcs => ?_)
      by_cases e : v = i
      · subst e; exact hv _ (List.getElem?_set_self hlt)
      · exact hv cs (by show (fr.st.set i _)[v]? = _; rw [List.getElem?_set_ne (Ne.symm e)]; exact hcs)
    · show B.k ≤ (fr.st.set i _).length
      rw [List.length_set]; exact h.kst
    · intro v cs j n e rows b u hv hj hb hu
      rcases hget v cs hv with ⟨rfl, rfl⟩ | ⟨_, hv⟩
      · simp only [List.getElem?_map, Option.map_eq_some_iff] at hj
        obtain ⟨y, hy, hy2⟩ := hj
        exact absurd hy2 pl_id
      · exact h.vao v cs j n e rows b u hv hj hb hu
  · exact h
end
end Go.Sh
namespace Go.Sh
set_option linter.unusedVariables false
set_option linter.unusedSimpArgs false

inductive AX where
  | normal
  | exit (id : Nat)
  | ret

/-- a guard's value at which an operation isn't run: the other truth, or none (skipped itself) -/
def noV (v : AV) (b : Bool) : Bool := match v with
  | .bool b' => b' != b
  | .tup [] => true
  | _ => false
section
variable (P : Program) (TT : TypeId → Option TI) (G : Gl) (CR : CRel) (nt k0 : Nat)
/-- the operations of a region, one after the other -/
inductive AOps (ops : Array Oper) : List Nat → Fr → Fr → Prop
  | nil {fr : Fr} : AOps ops [] fr fr
  | op {i : Nat} {rest : List Nat} {fr fr1 fr' : Fr} {o : Oper} (ho : ops[i]? = some o) (hg : o.guard = none) (h1 : AOp TT G CR fr o fr1) (h2 : AOps ops rest fr1 fr') : AOps ops (i :: rest) fr fr'
  | gop {i : Nat} {rest : List Nat} {fr fr1 fr' : Fr} {o : Oper} {j d : Nat} {b : Bool} (ho : ops[i]? = some o) (hg : o.guard = some (j, b)) (hj : (ops[j]?).bind (·.dst) = some d) (hb : fr.tm d = .bool b) (h1 : AOp TT G CR fr o fr1) (h2 : AOps ops rest fr1 fr') : AOps ops (i :: rest) fr fr'
  | skip {i : Nat} {rest : List Nat} {fr fr' : Fr} {o : Oper} {j d : Nat} {b : Bool} {v : AV} (ho : ops[i]? = some o) (hg : o.guard = some (j, b)) (hj : (ops[j]?).bind (·.dst) = some d) (hb : fr.tm d = v) (hne : noV v b = true) (h2 : AOps ops rest (fr.put o.dst (.tup [])) fr') : AOps ops (i :: rest) fr fr'

def dstOk (nt : Nat) (ops : Array Oper) : Bool := ops.toList.all fun o => match o.dst with
  | some d => Nat.blt d nt
  | none => true

/-- what a region does: told where it's used (sequential, or in whatever order) -/
inductive ARun (RD : Array Oper → Fr → Fr → Prop) : Code → Fr → AX → Fr → Prop
  | skip {fr : Fr} : ARun RD .skip fr .normal fr
  | region {id : Nat} {ops : Array Oper} {fr fr' : Fr} (hd : dstOk nt ops = true) (h : AOps TT G CR ops (List.range ops.size) fr fr') : ARun RD (.region id ops false) fr .normal fr'
  | draw {id : Nat} {ops : Array Oper} {fr fr' : Fr} (hd : dstOk nt ops = true) (h : RD ops fr fr') : ARun RD (.region id ops true) fr .normal fr'
  | seq {x y : Code} {fr fr1 fr' : Fr} {e : AX} (h1 : ARun RD x fr .normal fr1) (h2 : ARun RD y fr1 e fr') : ARun RD (.seq x y) fr e fr'
  | seqX {x y : Code} {fr fr' : Fr} {e : AX} (h1 : ARun RD x fr e fr') (he : e ≠ .normal) : ARun RD (.seq x y) fr e fr'
  | condT {c : Operand} {x y : Code} {fr fr' : Fr} {e : AX} (hc : fr.ev G c = .bool true) (h : ARun RD x fr e fr') : ARun RD (.cond c x y) fr e fr'
  | condF {c : Operand} {x y : Code} {fr fr' : Fr} {e : AX} (hc : fr.ev G c = .bool false) (h : ARun RD y fr e fr') : ARun RD (.cond c x y) fr e fr'
  | block {id : Nat} {c : Code} {fr fr' : Fr} {e : AX} (h : ARun RD c fr e fr') (he : e ≠ .exit id) : ARun RD (.block id c) fr e fr'
  | blockX {id : Nat} {c : Code} {fr fr' : Fr} (h : ARun RD c fr (.exit id) fr') : ARun RD (.block id c) fr .normal fr'
  | loop {c : Code} {fr fr1 fr' : Fr} {e : AX} (h1 : ARun RD c fr .normal fr1) (h2 : ARun RD (.loop c) fr1 e fr') : ARun RD (.loop c) fr e fr'
  | loopX {c : Code} {fr fr' : Fr} {e : AX} (h : ARun RD c fr e fr') (he : e ≠ .normal) : ARun RD (.loop c) fr e fr'
  | exit {id : Nat} {fr : Fr} : ARun RD (.exit id) fr (.exit id) fr
  | ret {fr : Fr} : ARun RD .ret fr .ret fr
  | tidy {c : Code} {fr fr' : Fr} {e : AX} (k m : Nat) (ren : List (Nat × Nat)) (hk : Nat.ble k0 k = true) (hr : tidyOk ren m = true) (h : ARun RD c (fr.tidy k ren m) e fr') : ARun RD c fr e fr'
  | plain {c : Code} {fr fr' : Fr} {e : AX} (i : Nat) (h : ARun RD c (fr.plain i) e fr') : ARun RD c fr e fr'

/-- results -/
def aRes (TT : TypeId → Option TI) (fr : Fr) : ResultVar → Option AV
  | .tmp t => some (fr.tm t).st
  | .cell a t => (aPure TT fr.st (fr.ev (fun _ => none)) (.load t (.tmp a))).map AV.st

end
end Go.Sh
namespace Go.Sh
section
variable {P : Program} {TT : TypeId → Option TI} {G : Gl} {CR : CRel} {nt : Nat} {B : Base} {E : Env} {fr fr' : Fr} {a : Act} {w : World} {o : Oper} {K : Act → World → Prop} {Q : Exit → Act → World → Prop}

theorem Inv.yielded (h : Inv B E fr a w) {ops : Array Oper} {j d : Nat} {b : Bool} (hj : (ops[j]?).bind (fun (o : Oper) => o.dst) = some d) (hb : fr.tm d = .bool b) : Go.yielded ops a.tmps j = some b := by
  have hv : a.tmps.getD d undef = .bool b := by have := h.tm d; rw [hb] at this; exact this.bool0
  have hlt : d < a.tmps.size := by
    rcases Nat.lt_or_ge d a.tmps.size with h1 | h1
    · exact h1
    · rw [Array.getD_eq_getD_getElem?, Array.getElem?_eq_none h1] at hv
      exact absurd hv (by simp [undef])
  have h2 : a.tmps[d]? = some (.bool b) := by
    rw [Array.getElem?_eq_getElem hlt]
    simpa [Array.getD, hlt] using hv
  unfold Go.yielded
  rw [hj]
  simp only [Option.bind_some, h2]

theorem RepT.tup0 {ρ : Nat → Option Nat} {C : Cm} : RepT ρ C (.tup []) undef := .tup #[] rfl (fun _ _ h => by cases h)
theorem Inv.yieldedNe (h : Inv B E fr a w) {ops : Array Oper} {j d : Nat} {b : Bool} {v : AV} (hj : (ops[j]?).bind (fun (o : Oper) => o.dst) = some d) (hb : fr.tm d = v) (hne : noV v b = true) : Go.yielded ops a.tmps j ≠ some b := by
  unfold noV at hne
  split at hne
  · rename_i b'
    rw [h.yielded hj hb]
    intro he
    injection he with he
    subst he
    simp at hne
  · have hr := h.tm d
    rw [hb] at hr
    have hv : a.tmps.getD d undef = .tuple #[] := by
      generalize a.tmps.getD d undef = x at hr
      cases hr with
      | v0 h => cases h
      | tup us hl _ => have : us = #[] := by simpa using hl
                       rw [this]
    unfold Go.yielded
    rw [hj]
    simp only [Option.bind_some]
    cases h2 : a.tmps[d]? with
    | none => simp
    | some x =>
      rw [Array.getD_eq_getD_getElem?, h2] at hv
      simp only [Option.getD_some] at hv
      subst hv
      simp
  · cases hne
theorem AOps.sound (hTT : ∀ t ti, TT t = some ti → TI.of P t = some ti) (hCR : ∀ f args st res st', CR f args st res st' → CallOk P G f args st res st') (hG : GOk P G B) {ops : Array Oper} (hd : dstOk B.nt ops = true) {l : List Nat} (hr : AOps TT G CR ops l fr fr') :
    ∀ {E : Env} {a : Act} {w : World}, Inv B E fr a w → (∀ E' a' w', Inv B E' fr' a' w' → Q .normal a' w') → wpOps P ops Q l a w := by
  have hdo : ∀ (i : Nat) (o : Oper), ops[i]? = some o → ∀ d', o.dst = some d' → d' < B.nt := by
    intro i o ho d' hd'
    have := List.all_eq_true.1 hd o (by simpa using Array.mem_of_getElem? ho)
    rw [hd'] at this
    exact Nat.le_of_ble_eq_true this
  induction hr with
  | nil => intro E a w h hK; exact hK _ _ _ h
  | op ho hg h1 h2 ih =>
    intro E a w h hK
    simp only [wpOps, ho]
    rw [if_pos (by unfold Region.wanted; rw [hg])]
    exact .inl (AOp.sound hTT hCR h1 h hG (hdo _ _ ho) (fun E' a' w' hi => ih hi hK))
  | gop ho hg hj hb h1 h2 ih =>
    intro E a w h hK
    simp only [wpOps, ho]
    rw [if_pos (by unfold Region.wanted; rw [hg]; simp only []; rw [h.yielded hj hb]; simp)]
    exact .inl (AOp.sound hTT hCR h1 h hG (hdo _ _ ho) (fun E' a' w' hi => ih hi hK))
  | skip ho hg hj hb hne h2 ih =>
    intro E a w h hK
    simp only [wpOps, ho]
    rw [if_neg (by unfold Region.wanted; rw [hg]; simpa using h.yieldedNe hj hb hne)]
    exact ih (h.put (hdo _ _ ho) .tup0 (fun _ _ _ h => by cases h)) hK

/-- a shadow's exit, and the machine's -/
def AX.to : AX → Exit
  | .normal => .normal
  | .exit id => .exit id
  | .ret => .ret

def wpL (P : Program) (c : Code) (Q : Exit → Act → World → Prop) (a : Act) (w : World) : Prop :=
  ∀ (b : Frame) (k : List Item) (cs : List Frame), ∃ e a' w', Q e a' w' ∧ Arrives P (lone (b.at a (.code c :: .inLoop c :: k)) cs w) b k cs e a' w'
theorem wp_of_wpL {c : Code} (h : wpL P c Q a w) : (Code.loop c).wp P Q a w := by
  intro b k cs
  obtain ⟨e, a', w', hq, harr⟩ := h b k cs
  exact ⟨e, a', w', hq, .of_steps (.one step_loop) harr⟩
theorem wpL_once {c : Code} (h : c.wp P (Exit.then (fun a w => wpL P c Q a w) Q) a w) : wpL P c Q a w := by
  intro b k cs
  obtain ⟨e, a₁, w₁, hq, harr⟩ := h b (.inLoop c :: k) cs
  cases e with
  | normal =>
    obtain ⟨e₂, a₂, w₂, hq₂, harr₂⟩ := hq b k cs
    exact ⟨e₂, a₂, w₂, hq₂, .of_steps (Steps.trans harr (.one step_inLoop)) harr₂⟩
  | exit id => exact ⟨_, a₁, w₁, hq, .pass (x := .inLoop c) rfl (fun _ _ => .inl (by simp)) harr⟩
  | goto l => exact ⟨_, a₁, w₁, hq, .pass (x := .inLoop c) rfl (fun _ _ => .inl (by simp)) harr⟩
  | ret => exact ⟨_, a₁, w₁, hq, .pass (x := .inLoop c) rfl (fun _ _ => .inl (by simp)) harr⟩
  | panic ch => exact ⟨_, a₁, w₁, hq, .pass (x := .inLoop c) rfl (fun _ _ => .inl (by simp)) harr⟩
  | outgrown => exact ⟨_, a₁, w₁, hq, .pass (x := .inLoop c) rfl (fun _ _ => .inl (by simp)) harr⟩

/-- what is shown behind a piece of code -/
def Post (B : Base) (x : AX) (fr' : Fr) (e : Exit) (a' : Act) (w' : World) : Prop := e = x.to ∧ ∃ E', Inv B E' fr' a' w'

theorem ARun.sound (hTT : ∀ t ti, TT t = some ti → TI.of P t = some ti) (hCR : ∀ f args st res st', CR f args st res st' → CallOk P G f args st res st') (hG : GOk P G B) {RD : Array Oper → Fr → Fr → Prop}
    (hRD : ∀ id ops fr fr', RD ops fr fr' → dstOk B.nt ops = true → ∀ E a w, Inv B E fr a w → (Code.region id ops true).wp P (Post B .normal fr') a w)
    {c : Code} {x : AX} (hr : ARun TT G CR B.nt B.k RD c fr x fr') :
    (∀ {E : Env} {a : Act} {w : World}, Inv B E fr a w → c.wp P (Post B x fr') a w) ∧ (∀ c', c = .loop c' → ∀ {E : Env} {a : Act} {w : World}, Inv B E fr a w → wpL P c' (Post B x fr') a w) := by
  have hto : ∀ {x : AX}, x ≠ .normal → x.to ≠ .normal := by intro x hx; cases x <;> simp_all [AX.to]
  induction hr with
  | skip => exact ⟨fun h => wp_skip ⟨rfl, _, h⟩, fun _ h => by cases h⟩
  | region hd h => exact ⟨fun hi => wp_region (AOps.sound hTT hCR hG hd h hi (fun E' a' w' h' => ⟨rfl, E', h'⟩)), fun _ h => by cases h⟩
  | draw hd h => exact ⟨fun hi => hRD _ _ _ _ h hd _ _ _ hi, fun _ h => by cases h⟩
  | seq h1 h2 ih1 ih2 =>
    refine ⟨fun hi => wp_seq (wp_mono (ih1.1 hi) ?_), fun _ h => by cases h⟩
    rintro e a' w' ⟨rfl, E', hi'⟩
    exact ih2.1 hi'
  | seqX h1 he ih =>
    refine ⟨fun hi => wp_seq (wp_mono (ih.1 hi) ?_), fun _ h => by cases h⟩
    rintro e a' w' ⟨rfl, E', hi'⟩
    have := hto he
    cases hx : AX.to _ <;> first | exact absurd hx this | exact ⟨hx.symm, E', hi'⟩
  | @condT c x y fr fr' e hc h ih => exact ⟨fun hi => wp_cond_true (by have := hi.ev hG c; rw [hc] at this; exact this.bool0) (ih.1 hi), fun _ h => by cases h⟩
  | @condF c x y fr fr' e hc h ih => exact ⟨fun hi => wp_cond_false (by have := hi.ev hG c; rw [hc] at this; exact this.bool0) (ih.1 hi), fun _ h => by cases h⟩
  | @block id c fr fr' e h he ih =>
    refine ⟨fun hi => wp_block (wp_mono (ih.1 hi) ?_), fun _ h => by cases h⟩
    rintro e' a' w' ⟨rfl, E', hi'⟩
    cases e with
    | normal => exact ⟨rfl, E', hi'⟩
    | ret => exact ⟨rfl, E', hi'⟩
    | exit id' =>
      show (if id' = id then _ else _)
      rw [if_neg (fun e => he (by rw [e]))]
      exact ⟨rfl, E', hi'⟩
  | @blockX id c fr fr' h ih =>
    refine ⟨fun hi => wp_block (wp_mono (ih.1 hi) ?_), fun _ h => by cases h⟩
    rintro e' a' w' ⟨rfl, E', hi'⟩
    show (if id = id then _ else _)
    rw [if_pos rfl]
    exact ⟨rfl, E', hi'⟩
  | @loop c fr fr1 fr' e h1 h2 ih1 ih2 =>
    have key : ∀ {E : Env} {a : Act} {w : World}, Inv B E fr a w → wpL P c (Post B e fr') a w := by
      intro E a w hi
      refine wpL_once (wp_mono (ih1.1 hi) ?_)
      rintro e' a' w' ⟨rfl, E', hi'⟩
      exact ih2.2 c rfl hi'
    exact ⟨fun hi => wp_of_wpL (key hi), fun c' hc => by injection hc with hc; subst hc; exact key⟩
  | @loopX c fr fr' e h he ih =>
    have key : ∀ {E : Env} {a : Act} {w : World}, Inv B E fr a w → wpL P c (Post B e fr') a w := by
      intro E a w hi
      refine wpL_once (wp_mono (ih.1 hi) ?_)
      rintro e' a' w' ⟨rfl, E', hi'⟩
      have := hto he
      cases hx : AX.to e <;> first | exact absurd hx this | exact ⟨hx.symm, E', hi'⟩
    exact ⟨fun hi => wp_of_wpL (key hi), fun c' hc => by injection hc with hc; subst hc; exact key⟩
  | exit => exact ⟨fun hi => wp_exit ⟨rfl, _, hi⟩, fun _ h => by cases h⟩
  | ret => exact ⟨fun hi => wp_ret ⟨rfl, _, hi⟩, fun _ h => by cases h⟩
  | plain i _ ih => exact ⟨fun hi => ih.1 (hi.plain i), fun c' hc => fun {E a w} hi => ih.2 c' hc (hi.plain i)⟩
  | tidy k m ren hk hr _ ih => exact ⟨fun hi => ih.1 (hi.tidy (Nat.le_of_ble_eq_true hk) hr), fun c' hc => fun {E a w} hi => ih.2 c' hc (hi.tidy (Nat.le_of_ble_eq_true hk) hr)⟩
end
end Go.Sh
namespace Go.Sh
set_option linter.unusedVariables false
set_option linter.unusedSimpArgs false

def start (args : List AV) (st : St) : Fr := { tm := fun t => args.getD t .bad, st := st, nid := 0 }
def resOf : List AV → AV
  | [r] => r
  | rs => .tup rs
/-- a relation on regions that draw their order, over a relation on calls -/
abbrev RRel := CRel → Nat → Array Oper → Fr → Fr → Prop
/-- the body of a function -/
def ABody (P : Program) (TT : TypeId → Option TI) (G : Gl) (RD : RRel) (CR : CRel) (f : FuncId) (args : List AV) (st : St) (res : AV) (st' : St) : Prop :=
  ∃ fn c e fr' rs, P.funcs[f]? = some fn ∧ fn.body = some c ∧ (fn.name == "runtime.NumGoroutine") = false ∧ ARun TT G CR fn.ntmps st.length (RD CR fn.ntmps) c (start args st) e fr' ∧ (e = .normal ∨ e = .ret) ∧ args.length ≤ fn.ntmps ∧
    fn.results.toList.map (aRes TT fr') = rs.map some ∧ res = resOf rs ∧ st' = fr'.st

section
variable {P : Program} {TT : TypeId → Option TI} {G : Gl} {CR : CRel} {B : Base} {E : Env} {fr fr' : Fr} {a : Act} {w : World}

theorem aRes_sound (hTT : ∀ t ti, TT t = some ti → TI.of P t = some ti) (h : Inv B E fr a w) {r : ResultVar} {av : AV} (hr : aRes TT fr r = some av) :
    ∃ v, (match r with | .tmp t => (pure (a.tmps.getD t undef) : Sem Value) | .cell x t => do loadVar t (← asAddr (a.tmps.getD x undef))).run P w = .ok v w ∧ RepT E.ρ E.C av v := by
  cases r with
  | tmp t =>
    simp only [aRes, Option.some.injEq] at hr
    subst hr
    exact ⟨_, rfl, (h.tm t).st⟩
  | cell x t =>
    simp only [aRes] at hr
    obtain ⟨y, hy, rfl⟩ := Option.map_eq_some_iff.1 hr
    have hev : ∀ z, RepT E.ρ E.C (fr.ev (fun _ => none) z) (a.eval z) := by
      intro z
      cases z with
      | tmp t => exact h.tm t
      | const c => exact .v0 (Rep0.absz c)
      | global g => exact .v0 (.bad _)
      | func f => exact .fn #[] rfl (fun j x hx => absurd hx (by simp))
    let o : Oper := { dst := none, op := .load t (.tmp x), type := 0, pos := "", after := #[], guard := none }
    obtain ⟨v, hv, hrep, _⟩ := pure_load (P := P) (o := o) hTT h.hold h.stAt rfl (hev (.tmp x)) hy
    refine ⟨v, ?_, hrep.st⟩
    have hv' : (do pure (Next.value (← Instr.loadAt t (a.eval (.tmp x)))) : Sem Next).run P w = .ok (.value v) w := hv
    simp only [Sem.run_bind, Instr.loadAt] at hv' ⊢
    have he : a.eval (.tmp x) = a.tmps.getD x undef := rfl
    rw [he] at hv'
    cases hval : a.tmps.getD x undef with
    | pointer p =>
      cases p with
      | some ad =>
        rw [hval] at hv'
        simp only [Instr.sureAddr, asAddr, Sem.run_pure, Result.andThen_ok] at hv' ⊢
        generalize (loadVar t ad).run P w = r at *
        cases r with
        | ok u w' => simp only [Result.andThen_ok] at hv'; injection hv' with h1 h2; injection h1 with h1; rw [h1, h2]
        | halt hh w' => cases hv'
      | none => rw [hval] at hv'; simp [Instr.sureAddr] at hv'
    | _ => rw [hval] at hv'; simp [Instr.sureAddr] at hv'

theorem run_mapM_rel {α β γ : Type} (f : α → Sem β) (R : γ → β → Prop) (g : α → Option γ) : ∀ (l : List α) (rs : List γ), l.map g = rs.map some → (∀ x ∈ l, ∀ r, g x = some r → ∃ v, (f x).run P w = .ok v w ∧ R r v) →
    ∃ vs : List β, (l.mapM f).run P w = .ok vs w ∧ vs.length = rs.length ∧ ∀ (j : Nat) (r : γ) (v : β), rs[j]? = some r → vs[j]? = some v → R r v
  | [], rs, h, _ => by
    cases rs with
    | nil => exact ⟨[], rfl, rfl, fun j r v h => absurd h (by simp)⟩
    | cons r rs => simp at h
  | x :: l, rs, h, hf => by
    cases rs with
    | nil => simp at h
    | cons r rs =>
      simp only [List.map_cons, List.cons.injEq] at h
      obtain ⟨v, hv, hR⟩ := hf x (by simp) r h.1
      obtain ⟨vs, hvs, hl, hRs⟩ := run_mapM_rel f R g l rs h.2 (fun y hy => hf y (by simp [hy]))
      refine ⟨v :: vs, ?_, by simp [hl], ?_⟩
      · rw [List.mapM_cons]; simp only [Sem.run_bind, hv, Result.andThen_ok, hvs, Sem.run_pure]
      · intro j r' v' h1 h2
        cases j with
        | zero => simp at h1 h2; rw [← h1, ← h2]; exact hR
        | succ j => exact hRs j r' v' (by simpa using h1) (by simpa using h2)

theorem results_sound (hTT : ∀ t ti, TT t = some ti → TI.of P t = some ti) (h : Inv B E fr a w) {fn : Func} {rs : List AV} (hr : fn.results.toList.map (aRes TT fr) = rs.map some) :
    ∃ v, (results fn a.tmps).run P w = .ok v w ∧ RepT E.ρ E.C (resOf rs) v := by
  obtain ⟨vs, hvs, hl, hR⟩ := run_mapM_rel (P := P) (w := w) (fun r : ResultVar => match r with | .tmp t => (pure (a.tmps.getD t undef) : Sem Value) | .cell x t => do loadVar t (← asAddr (a.tmps.getD x undef))) (RepT E.ρ E.C) (aRes TT fr) fn.results.toList rs hr
    (fun x _ r hx => aRes_sound hTT h hx)
  have hrun : (results fn a.tmps).run P w = .ok (if h : vs.toArray.size = 1 then vs.toArray[0] else .tuple vs.toArray) w := by
    unfold results
    have : (fn.results.mapM fun r : ResultVar => match r with | .tmp t => (pure (a.tmps.getD t undef) : Sem Value) | .cell x t => do loadVar t (← asAddr (a.tmps.getD x undef))).run P w = .ok vs.toArray w := by
      rw [Array.mapM_eq_mapM_toList, ← bind_pure_comp]
      simp only [Sem.run_bind, hvs, Result.andThen_ok, Function.comp, Sem.run_pure]
    simp only [Sem.run_bind]
    erw [this]
    rfl
  refine ⟨_, hrun, ?_⟩
  cases rs with
  | nil =>
    have : vs = [] := List.eq_nil_of_length_eq_zero (by simpa using hl)
    subst this
    exact .tup #[] rfl (fun j x hx => absurd hx (by simp))
  | cons r rs =>
    cases rs with
    | nil =>
      cases vs with
      | nil => simp at hl
      | cons v vs =>
        cases vs with
        | cons _ _ => simp at hl
        | nil => exact hR 0 r v rfl rfl
    | cons r2 rs =>
      have hne : vs.toArray.size ≠ 1 := by simp [hl]
      rw [dif_neg hne]
      refine .tup vs.toArray (by simp [hl]) (fun j x hx => ?_)
      have hj : j < vs.length := by rw [hl]; exact (List.getElem?_eq_some_iff.1 hx).1
      have := hR j x _ hx (List.getElem?_eq_getElem hj)
      have e2 : vs.toArray.getD j undef = vs[j] := by simp [Array.getD, hj]
      rw [e2]; exact this

theorem ABody.sound (hTT : ∀ t ti, TT t = some ti → TI.of P t = some ti) (hCR : ∀ f args st res st', CR f args st res st' → CallOk P G f args st res st') {RD : RRel}
    (hRD : ∀ (B : Base), GOk P G B → ∀ id ops fr fr', RD CR B.nt ops fr fr' → dstOk B.nt ops = true → ∀ E a w, Inv B E fr a w → (Code.region id ops true).wp P (Post B .normal fr') a w)
    {f : FuncId} {args : List AV} {st : St} {res : AV} {st' : St} (h : ABody P TT G RD CR f args st res st') : CallOk P G f args st res st' := by
  obtain ⟨fn, c, e, fr', rs, hfn, hbody, hname, hrun, he, hlen, hres, rfl, rfl⟩ := h
  refine ⟨⟨fn, hfn, by rw [hbody]; rfl, hname⟩, ?_⟩
  intro w C ρ vals hC hGl hpres hst hinj hfin hvl hargs
  let B : Base := { w := w, k := st.length, ρ := ρ, C := C, nt := fn.ntmps, sz := fun e => ((P.info? e).map (·.size)).getD 0 }
  have hG : GOk P G B := ⟨hC, hGl, fun e i hi => by show ((P.info? e).map (·.size)).getD 0 = _; rw [hi]; rfl⟩
  have hlt : ∀ v b, ρ v = some b → b < w.heap.size := by
    intro v b hv
    rcases Nat.lt_or_ge v st.length with h1 | h1
    · obtain ⟨cs, hcs⟩ := hpres v h1
      obtain ⟨b', hb', ⟨cur, e, hbl, _⟩, _⟩ := hst v cs hcs
      obtain rfl : b' = b := Option.some.inj (hb'.symm.trans hv)
      exact lt_of_heap hbl
    · rw [hfin v h1] at hv; cases hv
  have hget : ∀ t, (vals ++ Array.replicate (fn.ntmps - vals.size) undef).getD t undef = vals.getD t undef := by
    intro t
    simp only [Array.getD_eq_getD_getElem?, Array.getElem?_append, Array.getElem?_replicate]
    split
    · rfl
    · rename_i h1
      rw [Array.getElem?_eq_none (by omega)]
      split <;> rfl
  have hi : Inv B { C := C, ρ := ρ, η := fun _ => none } (start args st) { tmps := vals ++ Array.replicate (fn.ntmps - vals.size) undef, defers := [] } w := by
    refine ⟨rfl, rfl, rfl, Nat.le_refl _, fun _ _ _ => rfl, fun _ _ _ => rfl, fun _ _ => rfl, hC, ?_, hinj, ?_, Nat.le_refl _, fun i ob h => (by cases h), fun i j ob ob' h => (by cases h), ?_, ?_, ?_, rfl, ?_, fun i ob h => (by cases h)⟩
    · intro v cs hv
      obtain ⟨b, h1, h2, h3, _⟩ := hst v cs hv
      refine ⟨b, h1, h2, h3, fun hk => ?_⟩
      have := (List.getElem?_eq_some_iff.1 hv).1
      have hk : st.length ≤ v := hk
      have this : v < st.length := this
      omega
    · intro v hv
      rcases Nat.lt_or_ge v st.length with h1 | h1
      · obtain ⟨cs, hcs⟩ := hpres v h1
        exact absurd hcs (hv cs)
      · exact hfin v h1
    · intro t
      rw [hget]
      show RepT ρ C (args.getD t .bad) _
      rw [List.getD]
      cases hx : args[t]? with
      | none => exact .v0 (.bad _)
      | some x => exact (hargs t x hx).1
    · intro t n e rows ht
      have ht : args.getD t .bad = .sl (.id n e) rows := ht
      rw [List.getD] at ht
      cases hx : args[t]? with
      | none => rw [hx] at ht; cases ht
      | some x => rw [hx] at ht; exact absurd ht ((hargs t x hx).2 n e rows)
    · intro v cs j n e rows b u hv hj
      obtain ⟨b', _, _, _, hno⟩ := hst v cs hv
      exact absurd hj (hno j n e rows)
    · show (vals ++ Array.replicate (fn.ntmps - vals.size) undef).size = fn.ntmps
      simp; omega
  have hwp := (ARun.sound hTT hCR hG (RD := RD CR fn.ntmps) (fun id ops fr fr' h hd E a w hi => hRD B hG id ops fr fr' h hd E a w hi) hrun).1 hi
  refine calls_of_wp hfn hbody (wp_mono hwp ?_)
  rintro e' a' w' ⟨rfl, E', hi'⟩
  have hpost : bodyPost P fn (fun e w' => ∃ v C' ρ', e = .returned v ∧ w'.os = w.os ∧ w'.tape = w.tape ∧ w'.output = w.output ∧ w.heap.size ≤ w'.heap.size ∧
      (∀ b, b < w.heap.size → (∀ v, v < st.length → ρ v ≠ some b) → w'.heap[b]? = w.heap[b]?) ∧ (∀ b o, b < w.heap.size → C' b o = C b o) ∧ Holds C' w' ∧ (∀ v, v < st.length → ρ' v = ρ v) ∧ st.length ≤ fr'.st.length ∧
      (∀ v cs, fr'.st[v]? = some (some cs) → ∃ b, ρ' v = some b ∧ VarAt ρ' C' w' b cs ∧ (∀ o, C' b o = none) ∧ (st.length ≤ v → w.heap.size ≤ b)) ∧ RepT ρ' C' (resOf rs) v) .ret a' w' := by
    obtain ⟨v, hv, hrep⟩ := results_sound hTT hi' hres
    exact ⟨hi'.defers, v, hv, v, E'.C, E'.ρ, rfl, hi'.os, hi'.tape, hi'.out, hi'.size, hi'.old, hi'.cold, hi'.hold, hi'.rold, hi'.kst, hi'.var, hrep⟩
  rcases he with rfl | rfl
  · exact hpost
  · exact hpost
end

section
variable {P : Program} {TT : TypeId → Option TI} {G : Gl}
theorem AOp.mono {CR CR' : CRel} (hC : ∀ f args st res st', CR f args st res st' → CR' f args st res st') {fr fr' : Fr} {o : Oper} (h : AOp TT G CR fr o fr') : AOp TT G CR' fr o fr' := by
  cases h with
  | pure h => exact .pure h
  | alloc ho ht => exact .alloc ho ht
  | box ho hok => exact .box ho hok
  | slice ho ht hel he hix hsz hlen h0 => exact .slice ho ht hel he hix hsz hlen h0
  | store ho ht hx hi hok hvl hfit => exact .store ho ht hx hi hok hvl hfit
  | append0 ho ht hel he hs hx => exact .append0 ho ht hel he hs hx
  | appendF ho ht hel he hs hx hne h0 hL hL2 hb hm => exact .appendF ho ht hel he hs hx hne h0 hL hL2 hb hm
  | appendI ho ht hel he hs hx hne h0 hL2 hb hm => exact .appendI ho ht hel he hs hx hne h0 hL2 hb hm
  | call ho hc hf hargs ha hcall hres => exact .call ho hc hf hargs ha (hC _ _ _ _ _ hcall) hres
  | callNew ho hc hf hargs ha hcall hst hcs => exact .callNew ho hc hf hargs ha (hC _ _ _ _ _ hcall) hst hcs
  | callV ho hc hf hal hargs hnd hl hl' hst hcall hres hst' => exact .callV ho hc hf hal hargs hnd hl hl' hst (hC _ _ _ _ _ hcall) hres hst'
theorem AOps.mono {CR CR' : CRel} (hC : ∀ f args st res st', CR f args st res st' → CR' f args st res st') {ops : Array Oper} {l : List Nat} {fr fr' : Fr} (h : AOps TT G CR ops l fr fr') : AOps TT G CR' ops l fr fr' := by
  induction h with
  | nil => exact .nil
  | op ho hg h1 _ ih => exact .op ho hg (h1.mono hC) ih
  | gop ho hg hj hb h1 _ ih => exact .gop ho hg hj hb (h1.mono hC) ih
  | skip ho hg hj hb hne _ ih => exact .skip ho hg hj hb hne ih
theorem ARun.mono {CR CR' : CRel} (hC : ∀ f args st res st', CR f args st res st' → CR' f args st res st') {nt k0 : Nat} {RD RD' : Array Oper → Fr → Fr → Prop} (hR : ∀ ops fr fr', RD ops fr fr' → RD' ops fr fr')
    {c : Code} {fr fr' : Fr} {e : AX} (h : ARun TT G CR nt k0 RD c fr e fr') : ARun TT G CR' nt k0 RD' c fr e fr' := by
  induction h with
  | skip => exact .skip
  | region hd h => exact .region hd (h.mono hC)
  | draw hd h => exact .draw hd (hR _ _ _ h)
  | seq _ _ i1 i2 => exact .seq i1 i2
  | seqX _ he ih => exact .seqX ih he
  | condT hc _ ih => exact .condT hc ih
  | condF hc _ ih => exact .condF hc ih
  | block _ he ih => exact .block ih he
  | blockX _ ih => exact .blockX ih
  | loop _ _ i1 i2 => exact .loop i1 i2
  | loopX _ he ih => exact .loopX ih he
  | exit => exact .exit
  | ret => exact .ret
  | plain i _ ih => exact .plain i ih
  | tidy k m ren hk hr _ ih => exact .tidy k m ren hk hr ih
end

/-- calls to a depth -/
def ACallN (P : Program) (TT : TypeId → Option TI) (G : Gl) (RD : RRel) (X : CRel) : Nat → CRel
  | 0 => X
  | n + 1 => fun f args st res st' => X f args st res st' ∨ ABody P TT G RD (ACallN P TT G RD X n) f args st res st'
end Go.Sh
namespace Go.Sh
set_option linter.unusedVariables false
set_option linter.unusedSimpArgs false
/-! regions that draw their order: first operations that come up in whatever order, then some one after the other -/

def maskAt (FV : List Nat) : Nat → St → St
  | _, [] => []
  | k, x :: st => (if FV.contains k then none else x) :: maskAt FV (k + 1) st
theorem maskAt_get (FV : List Nat) : ∀ (st : St) (k v : Nat) (cs : List AV), (maskAt FV k st)[v]? = some (some cs) → st[v]? = some (some cs) ∧ k + v ∉ FV
  | [], k, v, cs, h => by simp [maskAt] at h
  | x :: st, k, v, cs, h => by
    cases v with
    | zero =>
      simp only [maskAt, List.getElem?_cons_zero, Option.some.injEq] at h
      split at h
      · cases h
      · rename_i hc
        exact ⟨by rw [List.getElem?_cons_zero, h], by simpa using hc⟩
    | succ v =>
      simp only [maskAt, List.getElem?_cons_succ] at h
      obtain ⟨h1, h2⟩ := maskAt_get FV st (k + 1) v cs h
      exact ⟨by rw [List.getElem?_cons_succ]; exact h1, by rw [show k + (v + 1) = k + 1 + v by omega]; exact h2⟩

def isVal (o : Oper) : Bool := match o.op with
  | .call c => match c.callee with
    | .value _ => true
    | _ => false
  | _ => false

/-- the temporary whose address a store writes to -/
def stoT (o : Oper) : Option Tmp := match o.op with
  | .store _ (.tmp a) _ => some a
  | _ => none
theorem maskAt_length (FV : List Nat) : ∀ (st : St) (k : Nat), (maskAt FV k st).length = st.length
  | [], k => rfl
  | x :: st, k => by simp [maskAt, maskAt_length FV st (k + 1)]

section
variable (P : Program) (TT : TypeId → Option TI) (G : Gl) (CR : CRel) (M : St) (FV : List Nat)
inductive D1 : Fr → Oper → Fr → Prop
  | pure {fr : Fr} {o : Oper} {av : AV} (h : aPure TT M (fr.ev G) o.op = some av) : D1 fr o (fr.put o.dst av)
  | alloc {fr : Fr} {o : Oper} {t : TypeId} {ti : TI} (ho : o.op = .alloc t) (ht : TT t = some ti) : D1 fr o (({ fr with st := fr.st ++ [some ti.zero] } : Fr).put o.dst (.vp fr.st.length 0))
  | box {fr : Fr} {o : Oper} {t : TypeId} {x : Operand} (ho : o.op = .box t x) (hok : (fr.ev G x).ok = true) : D1 fr o (({ fr with st := fr.st ++ [some (fr.ev G x).scells] } : Fr).put o.dst (.vp fr.st.length 0))
  | slice {fr : Fr} {o : Oper} {t e : TypeId} {len : Nat} {parts : Array (Nat × Operand)} {ti ei : TI} (ho : o.op = .buildSlice t len parts) (ht : TT t = some ti) (hel : ti.elem = some e) (he : TT e = some ei)
      (hix : parts.toList.map (·.1) = List.range' 0 len) (hsz : ∀ p ∈ parts.toList, (fr.ev G p.2).ok = true ∧ (fr.ev G p.2).cells.length = ei.size) (hlen : len * ei.size ≤ 16777216) (h0 : 0 < ei.size) :
      D1 fr o (({ fr with nid := fr.nid + 1 } : Fr).put o.dst (.sl (.id fr.nid e) (parts.toList.map fun p => (fr.ev G p.2).cells.map AV.pl)))
  | appendF {fr : Fr} {o : Oper} {s x : Operand} {t e : TypeId} {ti ei : TI} {ox : Own} {rows rows2 : List (List AV)} (ho : o.op = .call { callee := .builtin .append, args := #[s, x], argTypes := #[t, t] }) (ht : TT t = some ti) (hel : ti.elem = some e) (he : TT e = some ei)
      (hs : fr.ev G s = .sl .full rows) (hx : fr.ev G x = .sl ox rows2) (hne : rows2 ≠ []) (h0 : 0 < ei.size) (hL : ∀ r ∈ rows, r.length = ei.size) (hL2 : ∀ r ∈ rows2, r.length = ei.size)
      (hb : (rows.length + rows2.length) * ei.bytes ≤ 140737488355328) (hm : rows.length + rows2.length ≤ 9223372036854775807) :
      D1 fr o (({ fr with nid := fr.nid + 1 } : Fr).put o.dst (.sl (.id fr.nid e) (rows ++ rows2)))
  | append0 {fr : Fr} {o : Oper} {s x : Operand} {t e : TypeId} {ti ei : TI} {os ox : Own} {rows : List (List AV)} (ho : o.op = .call { callee := .builtin .append, args := #[s, x], argTypes := #[t, t] }) (ht : TT t = some ti) (hel : ti.elem = some e) (he : TT e = some ei)
      (hs : fr.ev G s = .sl os rows) (hx : fr.ev G x = .sl ox []) : D1 fr o (fr.put o.dst (.sl os rows))
  /-- into a variable that is new in this region -/
  | store {fr : Fr} {o : Oper} {t : TypeId} {a : Tmp} {v : Operand} {ti : TI} {i off : Nat} {cs : List AV} (ho : o.op = .store t (.tmp a) v) (ht : TT t = some ti) (hx : fr.tm a = .vp i off) (hi : fr.st[i]? = some (some cs)) (hn : M.length ≤ i)
      (hok : (fr.ev G v).ok = true) (hvl : (fr.ev G v).cells.length = ti.size) (hfit : off + ti.size ≤ cs.length) :
      D1 fr o (({ fr with st := fr.st.set i (some (cs.take off ++ (fr.ev G v).scells ++ cs.drop (off + ti.size))) } : Fr).put o.dst .bad)
  | call {fr : Fr} {o : Oper} {c : Call} {fv : Operand} {f : FuncId} {args : List AV} {res : AV} {st' : St} (ho : o.op = .call c) (hc : c.callee = .value fv) (hf : fr.ev G fv = .fn f [])
      (hargs : ∀ x ∈ c.args.toList, (fr.ev G x).pf = true) (ha : args = c.args.toList.map fun x => (fr.ev G x).pl) (hcall : CR f args [] res st') (hres : res.pf = true ∨ ∃ vs, res = .tup vs ∧ ∀ x ∈ vs, AV.pf x = true) :
      D1 fr o (fr.put o.dst res.st)
  | callV {fr : Fr} {o : Oper} {c : Call} {fv : Operand} {f : FuncId} {caps args : List AV} {res : AV} {vs : List Nat} {st0 st' : St} (ho : o.op = .call c) (hc : c.callee = .value fv) (hf : fr.ev G fv = .fn f caps)
      (hal : args.length = c.args.size + caps.length) (hargs : ∀ (j : Nat) (x y : AV), (c.args.toList.map (fr.ev G) ++ caps)[j]? = some x → args[j]? = some y → Ren vs x y) (hnd : vs.Nodup) (hl : st0.length = vs.length) (hl' : vs.length ≤ st'.length)
      (hst : ∀ (i v : Nat), vs[i]? = some v → ∃ cs : List AV, fr.st[v]? = some (some cs) ∧ st0[i]? = some (some (cs.map AV.pl)) ∧ ∀ x ∈ cs, AV.pf x = true) (hcall : CR f args st0 res st') (hres : res.pf = true ∨ ∃ vs, res = .tup vs ∧ ∀ x ∈ vs, AV.pf x = true)
      (hst' : ∀ i, i < vs.length → ∃ cs : List AV, st'[i]? = some (some cs) ∧ ∀ x ∈ cs, AV.pf x = true) (hFV : ∀ v ∈ vs, v ∈ FV) :
      D1 fr o (({ fr with st := wb fr.st vs st' } : Fr).put o.dst res.st)
/-- one operation of the first part, with its guard -/
inductive DSt (ops : Array Oper) (i : Nat) : Fr → Fr → Prop
  | op {fr fr1 : Fr} {o : Oper} (ho : ops[i]? = some o) (hg : o.guard = none) (h1 : D1 TT G CR M FV fr o fr1) : DSt ops i fr fr1
  | gop {fr fr1 : Fr} {o : Oper} {j d : Nat} {b : Bool} (ho : ops[i]? = some o) (hg : o.guard = some (j, b)) (hj : (ops[j]?).bind (·.dst) = some d) (hb : fr.tm d = .bool b) (h1 : D1 TT G CR M FV fr o fr1) : DSt ops i fr fr1
  | skip {fr : Fr} {o : Oper} {j d : Nat} {b b' : Bool} (ho : ops[i]? = some o) (hg : o.guard = some (j, b)) (hj : (ops[j]?).bind (·.dst) = some d) (hb : fr.tm d = .bool b') (hne : b' ≠ b) : DSt ops i fr (fr.put o.dst .bad)
inductive AD (ops : Array Oper) : List Nat → Fr → Fr → Prop
  | nil {fr : Fr} : AD ops [] fr fr
  | cons {i : Nat} {l : List Nat} {fr fr1 fr' : Fr} (h1 : DSt TT G CR M FV ops i fr fr1) (h2 : AD ops l fr1 fr') : AD ops (i :: l) fr fr'
end

section
variable {P : Program} {TT : TypeId → Option TI} {G : Gl} {CR : CRel} {M : St} {FV : List Nat}
theorem AD.frames {ops : Array Oper} : ∀ (len s : Nat) {fr fr' : Fr}, AD TT G CR M FV ops (List.range' s len) fr fr' → ∃ F : Nat → Fr, F s = fr ∧ F (s + len) = fr' ∧ ∀ i, s ≤ i → i < s + len → DSt TT G CR M FV ops i (F i) (F (i + 1))
  | 0, s, fr, fr', h => by
    cases h
    exact ⟨fun _ => fr, rfl, rfl, fun i h1 h2 => by omega⟩
  | len + 1, s, fr, fr', h => by
    rw [List.range'_succ] at h
    cases h with
    | @cons _ _ _ fr1 _ h1 h2 =>
      obtain ⟨F, h3, h4, h5⟩ := AD.frames len (s + 1) h2
      refine ⟨fun i => if i ≤ s then fr else F i, if_pos (Nat.le_refl _), ?_, ?_⟩
      · show (if s + (len + 1) ≤ s then fr else F (s + (len + 1))) = fr'
        rw [if_neg (by omega), ← h4]; congr 1; omega
      · intro i hi1 hi2
        by_cases e : i = s
        · subst e
          show DSt TT G CR M FV ops i (if i ≤ i then fr else F i) (if i + 1 ≤ i then fr else F (i + 1))
          rw [if_pos (Nat.le_refl _), if_neg (by omega), h3]; exact h1
        · show DSt TT G CR M FV ops i (if i ≤ s then fr else F i) (if i + 1 ≤ s then fr else F (i + 1))
          rw [if_neg (by omega), if_neg (by omega)]
          exact h5 i (by omega) (by omega)

theorem put_tm {fr : Fr} {d : Option Tmp} {av : AV} {t : Nat} : (fr.put d av).tm t = if d = some t then av else fr.tm t := by
  cases d with
  | none => simp [Fr.put]
  | some d =>
    show cond (Nat.beq t d) av (fr.tm t) = _
    by_cases e : t = d
    · subst e; simp
    · have h1 : Nat.beq t d = false := Bool.eq_false_iff.2 (fun h => e (Nat.eq_of_beq_eq_true h))
      rw [h1, if_neg (fun h => e (Option.some.inj h).symm)]; rfl
theorem put_st {fr : Fr} {d : Option Tmp} {av : AV} : (fr.put d av).st = fr.st := by cases d <;> rfl
theorem put_nid {fr : Fr} {d : Option Tmp} {av : AV} : (fr.put d av).nid = fr.nid := by cases d <;> rfl

/-- what an operation of the first part leaves alone -/
theorem D1.shape {fr fr1 : Fr} {o : Oper} (h : D1 TT G CR M FV fr o fr1) : (∀ t, o.dst ≠ some t → fr1.tm t = fr.tm t) ∧ fr.nid ≤ fr1.nid ∧ fr.st.length ≤ fr1.st.length ∧
    (∀ v, v < fr.st.length → (v ∉ FV ∨ isVal o = false) → (v < M.length ∨ ∀ a off, stoT o = some a → fr.tm a ≠ .vp v off) → fr1.st[v]? = fr.st[v]?) ∧ (isVal o = true → fr1.st.length = fr.st.length) := by
  cases h with
  | pure h => exact ⟨fun t ht => by rw [put_tm, if_neg ht], by rw [put_nid]; exact Nat.le_refl _, by rw [put_st]; exact Nat.le_refl _, fun v hv _ _ => by rw [put_st], fun _ => by rw [put_st]⟩
  | append0 ho ht hel he hs hx => exact ⟨fun t ht => by rw [put_tm, if_neg ht], by rw [put_nid]; exact Nat.le_refl _, by rw [put_st]; exact Nat.le_refl _, fun v hv _ _ => by rw [put_st], fun _ => by rw [put_st]⟩
  | alloc ho ht => exact ⟨fun t ht => by rw [put_tm, if_neg ht], by rw [put_nid]; exact Nat.le_refl _, by rw [put_st]; simp, fun v hv _ _ => by rw [put_st, List.getElem?_append_left hv], fun hv => by simp [isVal, ho] at hv⟩
  | box ho hok => exact ⟨fun t ht => by rw [put_tm, if_neg ht], by rw [put_nid]; exact Nat.le_refl _, by rw [put_st]; simp, fun v hv _ _ => by rw [put_st, List.getElem?_append_left hv], fun hv => by simp [isVal, ho] at hv⟩
  | slice ho ht hel he hix hsz hlen h0 => exact ⟨fun t ht => by rw [put_tm, if_neg ht], by rw [put_nid]; exact Nat.le_succ _, by rw [put_st]; exact Nat.le_refl _, fun v hv _ _ => by rw [put_st], fun _ => by rw [put_st]⟩
  | appendF ho ht hel he hs hx hne h0 hL hL2 hb hm => exact ⟨fun t ht => by rw [put_tm, if_neg ht], by rw [put_nid]; exact Nat.le_succ _, by rw [put_st]; exact Nat.le_refl _, fun v hv _ _ => by rw [put_st], fun _ => by rw [put_st]⟩
  | @store t a v ti i off cs ho ht hx hi hn hok hvl hfit =>
    refine ⟨fun t ht => by rw [put_tm, if_neg ht], by rw [put_nid]; exact Nat.le_refl _, by rw [put_st]; simp, fun w hw _ hst => ?_, fun _ => by rw [put_st]; simp⟩
    rw [put_st]
    have hne : i ≠ w := by
      rintro rfl
      rcases hst with h1 | h1
      · omega
      · exact h1 a off (by simp [stoT, ho]) hx
    exact List.getElem?_set_ne hne
  | call ho hc hf hargs ha hcall hres => exact ⟨fun t ht => by rw [put_tm, if_neg ht], by rw [put_nid]; exact Nat.le_refl _, by rw [put_st]; exact Nat.le_refl _, fun v hv _ _ => by rw [put_st], fun _ => by rw [put_st]⟩
  | @callV c fv f caps args res vs st0 st' ho hc hf hal hargs hnd hl hl' hst hcall hres hst' hFV =>
    have hvlt : ∀ v ∈ vs, v < fr.st.length := by
      intro v hv
      obtain ⟨i, hi⟩ := List.mem_iff_getElem?.1 hv
      obtain ⟨cs, hcs, _⟩ := hst i v hi
      exact (List.getElem?_eq_some_iff.1 hcs).1
    obtain ⟨g1, g2, g3⟩ := wb_get vs fr.st st' hnd hl' hvlt
    refine ⟨fun t ht => by rw [put_tm, if_neg ht], by rw [put_nid]; exact Nat.le_refl _, by rw [put_st]; show _ ≤ (wb fr.st vs st').length; omega, fun v hv hor _ => ?_, fun _ => by rw [put_st]; exact g3⟩
    rw [put_st]
    rcases hor with h1 | h1
    · exact g1 v (fun hm => h1 (hFV v hm))
    · simp [isVal, ho, hc] at h1
theorem DSt.shape {ops : Array Oper} {i : Nat} {fr fr1 : Fr} {o : Oper} (ho : ops[i]? = some o) (h : DSt TT G CR M FV ops i fr fr1) : (∀ t, o.dst ≠ some t → fr1.tm t = fr.tm t) ∧ fr.nid ≤ fr1.nid ∧ fr.st.length ≤ fr1.st.length ∧
    (∀ v, v < fr.st.length → (v ∉ FV ∨ isVal o = false) → (v < M.length ∨ ∀ a off, stoT o = some a → fr.tm a ≠ .vp v off) → fr1.st[v]? = fr.st[v]?) ∧ (isVal o = true → fr1.st.length = fr.st.length) := by
  cases h with
  | op ho' hg h1 => rw [ho] at ho'; injection ho' with ho'; subst ho'; exact h1.shape
  | gop ho' hg hj hb h1 => rw [ho] at ho'; injection ho' with ho'; subst ho'; exact h1.shape
  | skip ho' hg hj hb hne =>
    rw [ho] at ho'; injection ho' with ho'; subst ho'
    exact ⟨fun t ht => by rw [put_tm, if_neg ht], by rw [put_nid]; exact Nat.le_refl _, by rw [put_st]; exact Nat.le_refl _, fun v hv _ _ => by rw [put_st], fun _ => by rw [put_st]⟩

/-- an operation sees its operands alone -/
theorem aPure_congr {st : St} {ev ev' : Operand → AV} {op : Op} (h : ∀ x ∈ op.operands, ev x = ev' x) : aPure TT st ev op = aPure TT st ev' op := by
  cases op with
  | move x => simp only [aPure, h x (by simp [Op.operands])]
  | assign x => simp only [aPure, h x (by simp [Op.operands])]
  | pick c a b => simp only [aPure, h c (by simp [Op.operands]), h a (by simp [Op.operands]), h b (by simp [Op.operands])]
  | binOp op t x y yt => simp only [aPure, h x (by simp [Op.operands]), h y (by simp [Op.operands])]
  | unOp op t x => simp only [aPure, h x (by simp [Op.operands])]
  | convert s d x => simp only [aPure, h x (by simp [Op.operands])]
  | extract x i => simp only [aPure, h x (by simp [Op.operands])]
  | nilCheck x => simp only [aPure, h x (by simp [Op.operands])]
  | makeFunc f first captured =>
    cases f with
    | func f =>
      have : captured.toList.map (fun x => (ev x).st) = captured.toList.map (fun x => (ev' x).st) := List.map_congr_left (fun x hx => by rw [h x (by simp [Op.operands]; exact .inr (by simpa using hx))])
      simp only [aPure, this]
    | _ => rfl
  | fieldAddr s x f => simp only [aPure, h x (by simp [Op.operands])]
  | field s x f => simp only [aPure, h x (by simp [Op.operands])]
  | indexAddr t x i => simp only [aPure, h x (by simp [Op.operands]), h i (by simp [Op.operands])]
  | index t x i => simp only [aPure, h x (by simp [Op.operands]), h i (by simp [Op.operands])]
  | load t x => simp only [aPure, h x (by simp [Op.operands])]
  | slice t x lo hi mx =>
    have e1 : lo.map ev = lo.map ev' := by cases lo with | none => rfl | some y => simp [h y (by simp [Op.operands])]
    have e2 : hi.map ev = hi.map ev' := by cases hi with | none => rfl | some y => simp [h y (by simp [Op.operands])]
    have e3 : mx.map ev = mx.map ev' := by cases mx with | none => rfl | some y => simp [h y (by simp [Op.operands])]
    simp only [aPure, h x (by simp [Op.operands]), e1, e2, e3]
  | build t parts =>
    have : (parts.toList.map fun p => (p.1, ev p.2)) = parts.toList.map fun p => (p.1, ev' p.2) := List.map_congr_left (fun p hp => by rw [h p.2 (by simp only [Op.operands, List.mem_toArray, List.mem_map]; exact ⟨p, hp, rfl⟩)])
    simp only [aPure, this]
  | call c =>
    have hargs : ∀ x ∈ c.args.toList, ev x = ev' x := fun x hx => h x (by simp only [Op.operands, Call.operands, Array.mem_append]; exact .inr (by simpa using hx))
    simp only [aPure]
    split
    · split
      · rename_i t x hat hax
        rw [hargs x (by simpa using Array.mem_of_getElem? hax)]
      · rfl
    · split
      · rename_i x y hxy
        rw [hargs x (by rw [hxy]; simp), hargs y (by rw [hxy]; simp)]
      · rfl
    · split
      · rename_i x y hxy
        rw [hargs x (by rw [hxy]; simp), hargs y (by rw [hxy]; simp)]
      · rfl
    · rfl
  | _ => rfl
/-- what is known of more variables -/
theorem aPure_mono {st st2 : St} (hst : ∀ (v : Nat) (cs : List AV), st[v]? = some (some cs) → st2[v]? = some (some cs)) {ev : Operand → AV} {op : Op} {av : AV} (h : aPure TT st ev op = some av) : aPure TT st2 ev op = some av := by
  cases op with
  | load t x =>
    simp only [aPure] at h ⊢
    split
    · rename_i ti row h1 h2
      rw [h1, h2] at h; exact h
    · rename_i ti v o h1 h2
      rw [h1, h2] at h
      simp only [] at h
      split at h
      · rename_i cs hcs
        rw [hst v cs hcs]; exact h
      · exact absurd h (by simp)
    · rename_i h1 h2
      revert h
      split
      · rename_i ti row h3 h4; exact fun _ => absurd h4 (h1 ti row h3)
      · rename_i ti v o h3 h4; exact fun _ => absurd h4 (h2 ti v o h3)
      · exact fun h => h
  | makeFunc f first captured => cases f <;> exact h
  | _ => exact h
end
end Go.Sh
