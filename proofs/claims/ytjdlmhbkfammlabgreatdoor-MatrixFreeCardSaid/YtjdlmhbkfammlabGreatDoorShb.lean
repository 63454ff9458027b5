/- A part of the proof: the shadow of the machine. -/
import Derived.Test.YtjdlmhbkfammlabGreatDoorSha
namespace Go.Sh
set_option linter.unusedVariables false
set_option linter.unusedSimpArgs false

def dstAt (ops : Array Oper) (i : Nat) : Option Tmp := (ops[i]?).bind fun o => o.dst
def readsT (ops : Array Oper) (o : Oper) : List Tmp :=
  o.op.operands.toList.filterMap (fun | .tmp t => some t | _ => none) ++ (match o.guard with
    | some (g, _) => (dstAt ops g).toList
    | none => [])
def valAt (ops : Array Oper) (i : Nat) : Bool := match ops[i]? with
  | some o => isVal o
  | none => false
def stoAt (ops : Array Oper) (i : Nat) : Option Tmp := (ops[i]?).bind stoT
def allocAt (ops : Array Oper) (i : Nat) : Bool := match ops[i]? with
  | some o => match o.op with
    | .alloc _ => true
    | _ => false
  | none => false
def drawJ (ops : Array Oper) (B : Array Nat) (m j : Nat) : Bool := match ops[j]? with
  | none => false
  | some o =>
    o.after.toList.all (fun e => !Region.binds .any e || decide (e.on < j)) &&
    (List.range ops.size).all (fun i => !(B.getD j 0).testBit i || o.after.toList.any (fun e => Region.binds .any e && (e.on == i || (B.getD e.on 0).testBit i))) &&
    (decide (m ≤ j) || (List.range m).all (fun i => (i == j || o.dst.isNone || o.dst != dstAt ops i) && (!(readsT ops o).any (fun t => dstAt ops i == some t) || (B.getD j 0).testBit i) && (!(decide (i < j) && isVal o && valAt ops i) || (B.getD j 0).testBit i))) &&
    (decide (j < m) || (List.range m).all (fun i => (B.getD j 0).testBit i)) &&
    (decide (m ≤ j) || match stoT o with
      | none => true
      | some a => (List.range m).any (fun i => allocAt ops i && dstAt ops i == some a) && (List.range m).all (fun k => k == j || !(stoAt ops k == some a)))
/-- from m on the operations come up one after the other -/
def tailOk (ops : Array Oper) (m : Nat) : Bool := (List.range ops.size).all fun j => decide (j < m) || (List.range j).all (fun i => ((Region.before ops).getD j 0).testBit i)
theorem tailOk_spec {ops : Array Oper} {m : Nat} (h : tailOk ops m = true) : ∀ i j, i < j → m ≤ j → j < ops.size → ((Region.before ops).getD j 0).testBit i = true := by
  intro i j hij hmj hj
  unfold tailOk at h
  have := List.all_eq_true.1 h j (List.mem_range.2 hj)
  simp only [Bool.or_eq_true, decide_eq_true_eq, List.all_eq_true] at this
  exact this.resolve_left (by omega) i (List.mem_range.2 hij)
def drawOk (ops : Array Oper) (m : Nat) : Bool := decide (m ≤ ops.size) && (List.range ops.size).all fun j => drawJ ops (Region.before ops) m j

structure DrawOk (ops : Array Oper) (m : Nat) (bit : Nat → Nat → Bool) : Prop where
  le : m ≤ ops.size
  d0 : ∀ j o, ops[j]? = some o → ∀ e ∈ o.after.toList, Region.binds .any e = true → e.on < j
  dB : ∀ j o i, ops[j]? = some o → i < ops.size → bit j i = true → ∃ e ∈ o.after.toList, Region.binds .any e = true ∧ (e.on = i ∨ bit e.on i = true)
  d1 : ∀ i j d, i < m → j < m → dstAt ops i = some d → dstAt ops j = some d → i = j
  d2 : ∀ i j o t, i < m → j < m → ops[j]? = some o → t ∈ readsT ops o → dstAt ops i = some t → bit j i = true
  d3 : ∀ i j, i < j → j < m → valAt ops i = true → valAt ops j = true → bit j i = true
  d4 : ∀ i j, i < m → m ≤ j → j < ops.size → bit j i = true
  d5 : ∀ j a, j < m → stoAt ops j = some a → (∃ i, i < m ∧ allocAt ops i = true ∧ dstAt ops i = some a) ∧ ∀ k, k < m → stoAt ops k = some a → k = j
theorem drawOk_spec {ops : Array Oper} {m : Nat} (h : drawOk ops m = true) : DrawOk ops m fun j i => ((Region.before ops).getD j 0).testBit i := by
  unfold drawOk at h
  rw [Bool.and_eq_true, decide_eq_true_eq, List.all_eq_true] at h
  obtain ⟨hm, hall⟩ := h
  have hj : ∀ j o, ops[j]? = some o → _ := fun j o ho => by
    have := hall j (List.mem_range.2 (Array.getElem?_eq_some_iff.1 ho).1)
    unfold drawJ at this
    rw [ho] at this
    simp only [Bool.and_eq_true, List.all_eq_true, Bool.or_eq_true, decide_eq_true_eq] at this
    exact this
  refine ⟨hm, ?_, ?_, ?_, ?_, ?_, ?_, ?_⟩
  · intro j o ho e he hb
    have := (hj j o ho).1.1.1.1 e he
    simpa [hb] using this
  · intro j o i ho hi hb
    have := (hj j o ho).1.1.1.2 i (List.mem_range.2 hi)
    rw [hb] at this
    simp only [Bool.not_true, Bool.false_eq_true, false_or, List.any_eq_true, Bool.and_eq_true, Bool.or_eq_true, beq_iff_eq] at this
    exact this
  · intro i j d hi hjm h1 h2
    obtain ⟨o, ho, hd⟩ := Option.bind_eq_some_iff.1 h2
    have := ((hj j o ho).1.1.2.resolve_left (by omega) i (List.mem_range.2 hi)).1.1
    rcases this with (h3 | h3) | h3
    · simpa using h3
    · simp [hd] at h3
    · simp [hd, h1] at h3
  · intro i j o t hi hjm ho ht hd
    have := ((hj j o ho).1.1.2.resolve_left (by omega) i (List.mem_range.2 hi)).1.2
    rcases this with h3 | h3
    · simp only [Bool.not_eq_true', List.any_eq_false, beq_iff_eq] at h3
      exact absurd hd (h3 t ht)
    · exact h3
  · intro i j hij hjm h1 h2
    unfold valAt at h2
    split at h2
    · rename_i o ho
      have := ((hj j o ho).1.1.2.resolve_left (by omega) i (List.mem_range.2 (by omega))).2
      rcases this with h3 | h3
      · simp [hij, h1, h2] at h3
      · exact h3
    · cases h2
  · intro i j him hmj hjn
    have ho : ops[j]? = some ops[j] := Array.getElem?_eq_getElem hjn
    exact (hj j _ ho).1.2.resolve_left (by omega) i (List.mem_range.2 him)
  · intro j a hjm h1
    obtain ⟨o, ho, hs⟩ := Option.bind_eq_some_iff.1 h1
    have := (hj j o ho).2.resolve_left (by omega)
    rw [hs] at this
    simp only [Bool.and_eq_true, List.any_eq_true, List.all_eq_true, List.mem_range, beq_iff_eq, Bool.or_eq_true, Bool.not_eq_true', beq_eq_false_iff_ne] at this
    obtain ⟨⟨i, h2, h3, h4⟩, h5⟩ := this
    exact ⟨⟨i, h2, h3, h4⟩, fun k hk hka => (h5 k hk).resolve_right (fun h6 => h6 hka)⟩

section
variable {ops : Array Oper} {m : Nat} {bit : Nat → Nat → Bool} {listed : Array Bool}
abbrev Lst (listed : Array Bool) (i : Nat) : Prop := listed.getD i false = true
def Closed (ops : Array Oper) (listed : Array Bool) : Prop := ∀ j o, ops[j]? = some o → Lst listed j → ∀ e ∈ o.after.toList, Region.binds .any e = true → Lst listed e.on
theorem DrawOk.bits (h : DrawOk ops m bit) (hc : Closed ops listed) : ∀ (j : Nat) (o : Oper), ops[j]? = some o → (∀ e ∈ o.after.toList, Region.binds .any e = true → Lst listed e.on) → ∀ i, i < ops.size → bit j i = true → Lst listed i := by
  intro j
  induction j using Nat.strongRecOn with
  | _ j ih =>
    intro o ho hall i hi hb
    obtain ⟨e, he, hbe, h1⟩ := h.dB j o i ho hi hb
    have hl := hall e he hbe
    rcases h1 with h1 | h1
    · rw [← h1]; exact hl
    · have hlt := h.d0 j o ho e he hbe
      have hjn := (Array.getElem?_eq_some_iff.1 ho).1
      have ho' : ops[e.on]? = some ops[e.on] := Array.getElem?_eq_getElem (by omega)
      exact ih e.on hlt _ ho' (hc _ _ ho' hl) i hi h1
theorem lst_set {j : Nat} (hj : j < listed.size) (i : Nat) : Lst (listed.setIfInBounds j true) i ↔ i = j ∨ Lst listed i := by
  unfold Lst
  by_cases e : i = j
  · subst e; simp [hj]
  · simp only [Array.getD_eq_getD_getElem?, Array.getElem?_setIfInBounds_ne (Ne.symm e)]
    simp [e]
theorem ready_iff {j : Nat} (hs : listed.size = ops.size) : j ∈ Region.ready .any ops listed ↔ ¬ Lst listed j ∧ ∃ o, ops[j]? = some o ∧ ∀ e ∈ o.after.toList, Region.binds .any e = true → Lst listed e.on := by
  rw [mem_ready]
  constructor
  · rintro ⟨h0, o, ho, hall⟩
    refine ⟨fun hl => ?_, o, ho, fun e he hb => hall e (by simpa using he) hb⟩
    have hlt : j < listed.size := by rw [hs]; exact (Array.getElem?_eq_some_iff.1 ho).1
    unfold Lst at hl
    simp [hlt] at h0 hl
    rw [h0] at hl; cases hl
  · rintro ⟨h0, o, ho, hall⟩
    have hlt : j < listed.size := by rw [hs]; exact (Array.getElem?_eq_some_iff.1 ho).1
    refine ⟨?_, o, ho, fun e he hb => hall e (by simpa using he) hb⟩
    unfold Lst at h0
    simp [hlt] at h0 ⊢
    exact h0
theorem Closed.set {j : Nat} (hc : Closed ops listed) (hs : listed.size = ops.size) (hj : j ∈ Region.ready .any ops listed) : Closed ops (listed.setIfInBounds j true) := by
  obtain ⟨_, oj, hoj, hall⟩ := (ready_iff hs).1 hj
  have hlt : j < listed.size := by rw [hs]; exact (Array.getElem?_eq_some_iff.1 hoj).1
  intro k o ho hl e he hb
  rw [lst_set hlt] at hl ⊢
  rcases hl with rfl | hl
  · rw [hoj] at ho; injection ho with ho; subst ho
    exact .inr (hall e he hb)
  · exact .inr (hc k o ho hl e he hb)
/-- how many have not come up -/
def left (listed : Array Bool) (n : Nat) : List Nat := (List.range n).filter fun i => !listed.getD i false
theorem left_set {j : Nat} (hj : j < listed.size) (hun : ¬ Lst listed j) (hjn : j < ops.size) : (left (listed.setIfInBounds j true) ops.size).length < (left listed ops.size).length := by
  unfold left
  have e : (fun i => !(listed.setIfInBounds j true).getD i false) = fun i => (!listed.getD i false) && !(i == j) := by
    funext i
    have := lst_set (listed := listed) hj i
    unfold Lst at this
    cases h1 : (listed.setIfInBounds j true).getD i false <;> cases h2 : listed.getD i false <;> by_cases h3 : i = j <;> simp_all
  rw [e, ← List.filter_filter]
  have hmem : j ∈ (List.range ops.size).filter fun i => !listed.getD i false := by
    rw [List.mem_filter]
    exact ⟨List.mem_range.2 hjn, by unfold Lst at hun; simpa using hun⟩
  have key : ∀ l : List Nat, j ∈ l → (l.filter fun i => !(i == j)).length < l.length := by
    intro l hl
    induction l with
    | nil => cases hl
    | cons x l ih =>
      by_cases e : x = j
      · subst e
        have : (List.filter (fun i => !(i == x)) (x :: l)) = l.filter fun i => !(i == x) := by simp
        rw [this]
        exact Nat.lt_succ_of_le (List.length_filter_le _ _)
      · have h1 : (List.filter (fun i => !(i == j)) (x :: l)) = x :: l.filter fun i => !(i == j) := by simp [e]
        rw [h1]
        exact Nat.succ_lt_succ (ih (by simpa [Ne.symm e] using hl))
  have e2 : List.filter (fun i => !listed.getD i false) (List.filter (fun i => !(i == j)) (List.range ops.size)) = List.filter (fun i => !(i == j)) (List.filter (fun i => !listed.getD i false) (List.range ops.size)) := by
    rw [List.filter_filter, List.filter_filter]; congr 1; funext i; exact Bool.and_comm _ _
  first | exact key _ hmem | (rw [e2]; exact key _ hmem)
/-- as long as one has not come up, one is ready -/
theorem DrawOk.progress (h : DrawOk ops m bit) (hs : listed.size = ops.size) (hr : Region.ready .any ops listed = []) : ∀ j, j < ops.size → Lst listed j := by
  intro j
  induction j using Nat.strongRecOn with
  | _ j ih =>
    intro hj
    by_cases hl : Lst listed j
    · exact hl
    · have ho : ops[j]? = some ops[j] := Array.getElem?_eq_getElem hj
      have : j ∈ Region.ready .any ops listed := (ready_iff hs).2 ⟨hl, _, ho, fun e he hb => by
        have := h.d0 j _ ho e he hb
        exact ih e.on this (by omega)⟩
      rw [hr] at this; cases this
/-- what may come up, told with lists -/
def rdy (ops : Array Oper) (done : List Nat) : List Nat := (List.range ops.size).filter fun i => !(done.contains i) && (match ops[i]? with
  | some o => o.after.toList.all fun e => !(Region.binds .any e) || done.contains e.on
  | none => false)
theorem rdy_iff {done : List Nat} (hs : listed.size = ops.size) (hl : ∀ k, Lst listed k ↔ k ∈ done) (j : Nat) : j ∈ Region.ready .any ops listed ↔ j ∈ rdy ops done := by
  rw [ready_iff hs]
  unfold rdy
  rw [List.mem_filter]
  constructor
  · rintro ⟨h1, o, ho, h2⟩
    refine ⟨List.mem_range.2 (Array.getElem?_eq_some_iff.1 ho).1, ?_⟩
    rw [ho]
    have h3 : done.contains j = false := by
      cases h : done.contains j with
      | false => rfl
      | true => exact absurd ((hl j).2 (by simpa using h)) h1
    simp only [h3, Bool.not_false, Bool.true_and, List.all_eq_true]
    intro e he
    cases hb : Region.binds .any e with
    | false => rfl
    | true =>
      have := (hl e.on).1 (h2 e he hb)
      simpa using this
  · rintro ⟨h1, h2⟩
    cases ho : ops[j]? with
    | none => rw [ho] at h2; simp at h2
    | some o =>
      rw [ho] at h2
      simp only [Bool.and_eq_true, List.all_eq_true] at h2
      refine ⟨fun h => ?_, o, rfl, fun e he hb => ?_⟩
      · have := (hl j).1 h
        have h3 := h2.1
        simp at h3; exact h3 this
      · have := h2.2 e he
        rw [hb] at this
        exact (hl e.on).2 (by simpa using this)
end
end Go.Sh
namespace Go.Sh
set_option linter.unusedVariables false
set_option linter.unusedSimpArgs false

section
variable {P : Program} {TT : TypeId → Option TI} {G : Gl} {CR : CRel} {M : St} {FV : List Nat} {ops : Array Oper} {m : Nat} {bit : Nat → Nat → Bool}
theorem DSt.oper {i : Nat} {fr fr1 : Fr} (h : DSt TT G CR M FV ops i fr fr1) : ∃ o, ops[i]? = some o := by
  cases h with
  | op ho => exact ⟨_, ho⟩
  | gop ho => exact ⟨_, ho⟩
  | skip ho => exact ⟨_, ho⟩

theorem DrawOk.lt (h : DrawOk ops m bit) : ∀ (j i : Nat), j < ops.size → i < ops.size → bit j i = true → i < j := by
  intro j
  induction j using Nat.strongRecOn with
  | _ j ih =>
    intro i hj hi hb
    have ho : ops[j]? = some ops[j] := Array.getElem?_eq_getElem hj
    obtain ⟨e, he, hbe, h1⟩ := h.dB j _ i ho hi hb
    have hlt := h.d0 j _ ho e he hbe
    rcases h1 with h1 | h1
    · omega
    · have := ih e.on hlt i (by omega) hi h1; omega

/-- the frames of the first part -/
structure Chain (TT : TypeId → Option TI) (G : Gl) (CR : CRel) (FV : List Nat) (ops : Array Oper) (m : Nat) (F : Nat → Fr) : Prop where
  step : ∀ i, i < m → DSt TT G CR (maskAt FV 0 (F 0).st) FV ops i (F i) (F (i + 1))
  fv : ∀ v ∈ FV, v < (F 0).st.length

variable {F : Nat → Fr}
theorem Chain.len (h : Chain TT G CR FV ops m F) : ∀ (i d : Nat), i + d ≤ m → (F i).st.length ≤ (F (i + d)).st.length
  | i, 0, _ => Nat.le_refl _
  | i, d + 1, hm => by
    obtain ⟨o, ho⟩ := (h.step (i + d) (by omega)).oper
    exact Nat.le_trans (h.len i d (by omega)) ((h.step (i + d) (by omega)).shape ho).2.2.1
theorem Chain.nid (h : Chain TT G CR FV ops m F) : ∀ (i d : Nat), i + d ≤ m → (F i).nid ≤ (F (i + d)).nid
  | i, 0, _ => Nat.le_refl _
  | i, d + 1, hm => by
    obtain ⟨o, ho⟩ := (h.step (i + d) (by omega)).oper
    exact Nat.le_trans (h.nid i d (by omega)) ((h.step (i + d) (by omega)).shape ho).2.1
theorem Chain.tm (h : Chain TT G CR FV ops m F) {t : Nat} : ∀ (i d : Nat), i + d ≤ m → (∀ k, i ≤ k → k < i + d → dstAt ops k ≠ some t) → (F (i + d)).tm t = (F i).tm t
  | i, 0, _, _ => rfl
  | i, d + 1, hm, hk => by
    obtain ⟨o, ho⟩ := (h.step (i + d) (by omega)).oper
    have h1 := ((h.step (i + d) (by omega)).shape ho).1 t (fun e => hk (i + d) (by omega) (by omega) (by simp [dstAt, ho, e]))
    exact h1.trans (h.tm i d (by omega) (fun k h1 h2 => hk k h1 (by omega)))
theorem Chain.mlen (h : Chain TT G CR FV ops m F) : (maskAt FV 0 (F 0).st).length = (F 0).st.length := maskAt_length _ _ _
theorem Chain.st (h : Chain TT G CR FV ops m F) {v : Nat} (h0 : v < (F 0).st.length) : ∀ (i d : Nat), i + d ≤ m → v < (F i).st.length → (v ∉ FV ∨ ∀ k, i ≤ k → k < i + d → valAt ops k = false) → (F (i + d)).st[v]? = (F i).st[v]?
  | i, 0, _, _, _ => rfl
  | i, d + 1, hm, hv, hk => by
    obtain ⟨o, ho⟩ := (h.step (i + d) (by omega)).oper
    have h1 := ((h.step (i + d) (by omega)).shape ho).2.2.2.1 v (Nat.lt_of_lt_of_le hv (h.len i d (by omega))) (hk.imp id (fun hk => by have := hk (i + d) (by omega) (by omega); simpa [valAt, ho] using this)) (.inl (by rw [h.mlen]; exact h0))
    exact h1.trans (h.st h0 i d (by omega) hv (hk.imp id (fun hk k h1 h2 => hk k h1 (by omega))))
/-- operation k writes to the new variable v -/
def Sto (ops : Array Oper) (m : Nat) (F : Nat → Fr) (k v : Nat) : Prop := k < m ∧ ∃ a off, stoAt ops k = some a ∧ (F k).tm a = .vp v off
theorem Chain.st2 (h : Chain TT G CR FV ops m F) {v : Nat} (hf : v ∉ FV) : ∀ (i d : Nat), i + d ≤ m → v < (F i).st.length → (∀ k, i ≤ k → k < i + d → ¬ Sto ops m F k v) → (F (i + d)).st[v]? = (F i).st[v]?
  | i, 0, _, _, _ => rfl
  | i, d + 1, hm, hv, hk => by
    obtain ⟨o, ho⟩ := (h.step (i + d) (by omega)).oper
    have h1 := ((h.step (i + d) (by omega)).shape ho).2.2.2.1 v (Nat.lt_of_lt_of_le hv (h.len i d (by omega))) (.inl hf) (.inr fun a off ha he => hk (i + d) (by omega) (by omega) ⟨by omega, a, off, by simp [stoAt, ho, ha], he⟩)
    exact h1.trans (h.st2 hf i d (by omega) hv (fun k h1 h2 => hk k h1 (by omega)))
theorem Chain.born (h : Chain TT G CR FV ops m F) {v : Nat} : ∀ (d : Nat), d ≤ m → (F 0).st.length ≤ v → v < (F d).st.length → ∃ i, i < d ∧ (F i).st.length ≤ v ∧ v < (F (i + 1)).st.length
  | 0, _, h1, h2 => by omega
  | d + 1, hd, h1, h2 => by
    rcases Nat.lt_or_ge v (F d).st.length with h3 | h3
    · obtain ⟨i, hi, h4⟩ := h.born d (by omega) h1 h3
      exact ⟨i, by omega, h4⟩
    · exact ⟨d, by omega, h3, h2⟩

/-- where a variable that is written to comes from -/
theorem Chain.sto (hb : DrawOk ops m bit) (h : Chain TT G CR FV ops m F) {k v : Nat} (hs : Sto ops m F k v) : ∃ i a, i < k ∧ bit k i = true ∧ stoAt ops k = some a ∧ dstAt ops i = some a ∧ allocAt ops i = true ∧ v = (F i).st.length ∧ v < (F (i + 1)).st.length := by
  obtain ⟨hk, a, off, ha, he⟩ := hs
  obtain ⟨⟨i, hi, hal, hd⟩, _⟩ := hb.d5 k a hk ha
  obtain ⟨ok, hok, hst⟩ := Option.bind_eq_some_iff.1 ha
  have hread : a ∈ readsT ops ok := by
    unfold stoT at hst
    split at hst
    · rename_i t a' x hop
      injection hst with hst; subst hst
      unfold readsT
      exact List.mem_append_left _ (List.mem_filterMap.2 ⟨.tmp a', by rw [hop]; simp [Op.operands], rfl⟩)
    · cases hst
  have hbit := hb.d2 i k ok a hi hk hok hread hd
  have hle := hb.le
  have hik := hb.lt k i (by omega) (by omega) hbit
  refine ⟨i, a, hik, hbit, ha, hd, hal, ?_⟩
  have htm : (F (i + 1)).tm a = .vp v off := by
    have := h.tm (t := a) (i + 1) (k - (i + 1)) (by omega) (fun q h1 h2 e => by have := hb.d1 q i a (by omega) hi e hd; omega)
    rw [show i + 1 + (k - (i + 1)) = k by omega] at this
    exact this.symm.trans he
  have hstep := h.step i hi
  generalize F (i + 1) = f' at hstep htm ⊢
  unfold allocAt at hal
  unfold dstAt at hd
  have key : ∀ (o : Oper), ops[i]? = some o → D1 TT G CR (maskAt FV 0 (F 0).st) FV (F i) o f' → v = (F i).st.length ∧ v < f'.st.length := by
    intro o ho h1
    rw [ho] at hal hd
    simp only [Option.bind_some] at hd
    simp only at hal
    split at hal
    · rename_i t hop
      cases h1 with
      | alloc ho' ht =>
        rw [hd] at htm
        simp [Fr.put] at htm
        refine ⟨htm.1.symm, ?_⟩
        rw [put_st, ← htm.1]; simp
      | pure hp => rw [hop] at hp; cases hp
      | box ho' _ => rw [hop] at ho'; cases ho'
      | slice ho' => rw [hop] at ho'; cases ho'
      | appendF ho' => rw [hop] at ho'; cases ho'
      | append0 ho' => rw [hop] at ho'; cases ho'
      | store ho' => rw [hop] at ho'; cases ho'
      | call ho' => rw [hop] at ho'; cases ho'
      | callV ho' => rw [hop] at ho'; cases ho'
    · cases hal
  cases hstep with
  | op ho hg h1 => exact key _ ho h1
  | gop ho hg hj hb h1 => exact key _ ho h1
  | skip ho hg hj hb hne =>
    rw [ho] at hd
    simp only [Option.bind_some] at hd
    rw [hd] at htm
    simp [Fr.put] at htm
theorem Chain.sto_one (hb : DrawOk ops m bit) (h : Chain TT G CR FV ops m F) {k k' v : Nat} (h1 : Sto ops m F k v) (h2 : Sto ops m F k' v) : k = k' := by
  obtain ⟨i, a, h3, _, h5, h6, _, h8, h9⟩ := h.sto hb h1
  obtain ⟨i', a', h3', _, h5', h6', _, h8', h9'⟩ := h.sto hb h2
  have hii : i = i' := by
    have hk := h1.1
    have hk' := h2.1
    rcases Nat.lt_trichotomy i i' with hl | hl | hl
    · have := h.len (i + 1) (i' - (i + 1)) (by omega)
      rw [show i + 1 + (i' - (i + 1)) = i' by omega] at this; omega
    · exact hl
    · have := h.len (i' + 1) (i - (i' + 1)) (by omega)
      rw [show i' + 1 + (i - (i' + 1)) = i by omega] at this; omega
  subst hii
  rw [h6] at h6'; injection h6' with h6'; subst h6'
  exact ((hb.d5 k' a h2.1 h5').2 k h1.1 h5)

/-- a frame in the midst of the first part -/
structure Mid (ops : Array Oper) (m : Nat) (F : Nat → Fr) (listed : Array Bool) (c : Nat) (g : Fr) (η : Nat → Option OB) : Prop where
  T : ∀ t, (∀ i, i < m → dstAt ops i = some t → Lst listed i) → g.tm t = (F m).tm t
  S1 : ∀ v, v < (F 0).st.length → g.st[v]? = (F c).st[v]?
  S2 : ∀ i v, i < m → (F i).st.length ≤ v → v < (F (i + 1)).st.length → (Lst listed i → (∀ k, Sto ops m F k v → Lst listed k) → g.st[v]? = (F m).st[v]?) ∧ (Lst listed i → ∀ k, Sto ops m F k v → ¬ Lst listed k → g.st[v]? = (F k).st[v]?) ∧ (¬ Lst listed i → g.st[v]? = some none)
  S4 : ∀ k i v, Sto ops m F k v → i < m → (F i).st.length ≤ v → v < (F (i + 1)).st.length → Lst listed k → Lst listed i
  S3 : g.st.length = (F m).st.length
  N : g.nid = (F m).nid
  Z : ∀ i k, i < m → ¬ Lst listed i → (F i).nid ≤ k → k < (F (i + 1)).nid → η k = none
  V : ∀ i, i < m → valAt ops i = true → (Lst listed i ↔ i < c)
  hc : c ≤ m

variable {listed : Array Bool} {c : Nat} {g : Fr} {η : Nat → Option OB}
theorem Mid.start (h : Chain TT G CR FV ops m F) (hno : ∀ i, i < m → ¬ Lst listed i) (hη : ∀ k, (F 0).nid ≤ k → η k = none) :
    Mid ops m F listed 0 { F 0 with st := (F 0).st ++ List.replicate ((F m).st.length - (F 0).st.length) none, nid := (F m).nid } η := by
  refine ⟨?_, ?_, ?_, fun k i v hs _ _ _ hl => absurd hl (hno k hs.1), ?_, rfl, ?_, ?_, Nat.zero_le _⟩
  · intro t ht
    have := h.tm (t := t) 0 m (by omega) (fun k _ hk e => hno k (by omega) (ht k (by omega) e))
    rw [Nat.zero_add] at this
    exact this.symm
  · intro v hv; exact List.getElem?_append_left hv
  · intro i v hi h1 h2
    refine ⟨fun h => absurd h (hno i hi), fun h => absurd h (hno i hi), fun _ => ?_⟩
    have h3 := h.len 0 i (by omega)
    have h4 := h.len (i + 1) (m - (i + 1)) (by omega)
    rw [Nat.zero_add] at h3
    rw [show i + 1 + (m - (i + 1)) = m by omega] at h4
    show ((F 0).st ++ List.replicate _ none)[v]? = _
    rw [List.getElem?_append_right (by omega), List.getElem?_replicate, if_pos (by omega)]
  · have h3 := h.len 0 m (by omega)
    rw [Nat.zero_add] at h3
    simp; omega
  · intro i k hi _ h1 _
    have h3 := h.nid 0 i (by omega)
    rw [Nat.zero_add] at h3
    exact hη k (by omega)
  · intro i hi _
    exact ⟨fun h => absurd h (hno i hi), fun h => by omega⟩

theorem Mid.done (h : Chain TT G CR FV ops m F) (hm : Mid ops m F listed c g η) (hall : ∀ i, i < m → Lst listed i) : g = F m := by
  have h1 : g.tm = (F m).tm := funext fun t => hm.T t (fun i hi _ => hall i hi)
  have h2 : g.st = (F m).st := by
    apply List.ext_getElem?
    intro v
    rcases Nat.lt_or_ge v (F 0).st.length with hv | hv
    · rw [hm.S1 v hv]
      have hcl := h.len 0 c (by have := hm.hc; omega)
      rw [Nat.zero_add] at hcl
      have := h.st (v := v) hv c (m - c) (by have := hm.hc; omega) (by omega) (.inr fun k h1 h2 => by
        cases hv : valAt ops k with
        | false => rfl
        | true => have := (hm.V k (by omega) hv).1 (hall k (by omega)); omega)
      rw [show c + (m - c) = m by have := hm.hc; omega] at this
      exact this.symm
    · rcases Nat.lt_or_ge v (F m).st.length with hv2 | hv2
      · obtain ⟨i, hi, h3, h4⟩ := h.born m (Nat.le_refl _) hv hv2
        exact (hm.S2 i v hi h3 h4).1 (hall i hi) (fun k hk => hall k hk.1)
      · rw [List.getElem?_eq_none hv2, List.getElem?_eq_none (by rw [hm.S3]; exact hv2)]
  cases g; simp only at h1 h2; subst h1; subst h2
  have := hm.N
  simp only at this
  rw [this]

/-- behind one more operation -/
theorem Mid.next (hb : DrawOk ops m bit) (h : Chain TT G CR FV ops m F) (hm : Mid ops m F listed c g η) {j : Nat} {o : Oper} (hj : j < m) (hjl : j < listed.size) (ho : ops[j]? = some o) (hun : ¬ Lst listed j) (hbits : ∀ i, i < ops.size → bit j i = true → Lst listed i)
    {g' : Fr} {η' : Nat → Option OB} (ha : ∀ t, g'.tm t = if o.dst = some t then (F (j + 1)).tm t else g.tm t)
    (hb1 : isVal o = true → (∀ v, v < (F 0).st.length → g.st[v]? = (F j).st[v]?) → ∀ v, v < (F 0).st.length → g'.st[v]? = (F (j + 1)).st[v]?)
    (hb2 : isVal o = false → ∀ v, v < (F 0).st.length → g'.st[v]? = g.st[v]?)
    (hc1 : ∀ v, (F j).st.length ≤ v → v < (F (j + 1)).st.length → g'.st[v]? = (F (j + 1)).st[v]?) (hc2 : ∀ v, (F 0).st.length ≤ v → (v < (F j).st.length ∨ (F (j + 1)).st.length ≤ v) → ¬ Sto ops m F j v → g'.st[v]? = g.st[v]?)
    (hc3 : ∀ v, Sto ops m F j v → g.st[v]? = (F j).st[v]? → g'.st[v]? = (F (j + 1)).st[v]?)
    (hd1 : g'.st.length = g.st.length) (hd2 : g'.nid = g.nid) (he : ∀ k, (k < (F j).nid ∨ (F (j + 1)).nid ≤ k) → η' k = η k) :
    ∃ c', Mid ops m F (listed.setIfInBounds j true) c' g' η' := by
  have hle := hb.le
  have hT : ∀ t, (∀ i, i < m → dstAt ops i = some t → Lst (listed.setIfInBounds j true) i) → g'.tm t = (F m).tm t := by
    intro t ht
    rw [ha]
    split
    · rename_i e
      have hdj : dstAt ops j = some t := by simp [dstAt, ho, e]
      have := h.tm (t := t) (j + 1) (m - (j + 1)) (by omega) (fun k h1 h2 e2 => by have := hb.d1 k j t (by omega) hj e2 hdj; omega)
      rw [show j + 1 + (m - (j + 1)) = m by omega] at this
      exact this.symm
    · rename_i e
      refine hm.T t (fun i hi hd => ?_)
      rcases (lst_set hjl i).1 (ht i hi hd) with rfl | h1
      · exact absurd (by simpa [dstAt, ho] using hd) e
      · exact h1
  have hlenj := h.len 0 j (by omega)
  rw [Nat.zero_add] at hlenj
  have hnj : ∀ v, (F j).st.length ≤ v → ¬ Sto ops m F j v := by
    intro v hv hs
    obtain ⟨i, a, h3, _, _, _, _, h8, h9⟩ := h.sto hb hs
    have := h.len (i + 1) (j - (i + 1)) (by omega)
    rw [show i + 1 + (j - (i + 1)) = j by omega] at this; omega
  have hborn : ∀ i i' v, i < m → i' < m → (F i).st.length ≤ v → v < (F (i + 1)).st.length → (F i').st.length ≤ v → v < (F (i' + 1)).st.length → i = i' := by
    intro i i' v hi hi' h1 h2 h3 h4
    rcases Nat.lt_trichotomy i i' with hl | hl | hl
    · have := h.len (i + 1) (i' - (i + 1)) (by omega)
      rw [show i + 1 + (i' - (i + 1)) = i' by omega] at this; omega
    · exact hl
    · have := h.len (i' + 1) (i - (i' + 1)) (by omega)
      rw [show i' + 1 + (i - (i' + 1)) = i by omega] at this; omega
  have hS4 : ∀ k i v, Sto ops m F k v → i < m → (F i).st.length ≤ v → v < (F (i + 1)).st.length → Lst (listed.setIfInBounds j true) k → Lst (listed.setIfInBounds j true) i := by
    intro k i v hs hi h1 h2 hl
    rw [lst_set hjl] at hl ⊢
    rcases hl with rfl | hl
    · obtain ⟨i', a, h3, hbit, _, _, _, h8, h9⟩ := h.sto hb hs
      obtain rfl := hborn i i' v hi (by omega) h1 h2 (by omega) h9
      exact .inr (hbits i (by omega) hbit)
    · exact .inr (hm.S4 k i v hs hi h1 h2 hl)
  have hS2 : ∀ i v, i < m → (F i).st.length ≤ v → v < (F (i + 1)).st.length → (Lst (listed.setIfInBounds j true) i → (∀ k, Sto ops m F k v → Lst (listed.setIfInBounds j true) k) → g'.st[v]? = (F m).st[v]?) ∧
      (Lst (listed.setIfInBounds j true) i → ∀ k, Sto ops m F k v → ¬ Lst (listed.setIfInBounds j true) k → g'.st[v]? = (F k).st[v]?) ∧ (¬ Lst (listed.setIfInBounds j true) i → g'.st[v]? = some none) := by
    intro i v hi h1 h2
    have h0i := h.len 0 i (by omega)
    rw [Nat.zero_add] at h0i
    have hfv : v ∉ FV := fun hf => by have := h.fv v hf; omega
    have h3 := hm.S2 i v hi h1 h2
    have h4 := hm.S4
    simp only [lst_set hjl]
    by_cases hsj : Sto ops m F j v
    · -- j writes to it
      obtain ⟨i', a, hij, hbit, _, _, _, h8, h9⟩ := h.sto hb hsj
      obtain rfl := hborn i i' v hi (by omega) h1 h2 (by omega) h9
      have hli : Lst listed i := hbits i (by omega) hbit
      refine ⟨fun _ _ => ?_, fun _ k hk hnk => absurd (.inl (h.sto_one hb hk hsj)) hnk, fun hn => absurd (.inr hli) hn⟩
      rw [hc3 v hsj (h3.2.1 hli j hsj hun)]
      have hvl : v < (F (j + 1)).st.length := by
        have := h.len (i + 1) (j + 1 - (i + 1)) (by omega)
        rw [show i + 1 + (j + 1 - (i + 1)) = j + 1 by omega] at this; omega
      have := h.st2 hfv (j + 1) (m - (j + 1)) (by omega) hvl (fun k h5 h6 hk => by have := h.sto_one hb hk hsj; omega)
      rw [show j + 1 + (m - (j + 1)) = m by omega] at this
      exact this.symm
    · by_cases hij : i = j
      · subst hij
        have hnone : ∀ k, Sto ops m F k v → ¬ Lst listed k := fun k hk hl => hun (hm.S4 k i v hk hi h1 h2 hl)
        refine ⟨fun _ hall => ?_, fun _ k hk _ => ?_, fun hn => absurd (.inl rfl) hn⟩
        · rw [hc1 v h1 h2]
          have := h.st2 hfv (i + 1) (m - (i + 1)) (by omega) h2 (fun k h5 h6 hk => by
            rcases hall k hk with h7 | h7
            · omega
            · exact hnone k hk h7)
          rw [show i + 1 + (m - (i + 1)) = m by omega] at this
          exact this.symm
        · rw [hc1 v h1 h2]
          obtain ⟨i', a, hik, _, _, _, _, h8, h9⟩ := h.sto hb hk
          have hkm := hk.1
          obtain rfl := hborn i i' v hi (by omega) h1 h2 (by omega) h9
          have := h.st2 hfv (i + 1) (k - (i + 1)) (by omega) h2 (fun q h5 h6 hq => by have := h.sto_one hb hq hk; omega)
          rw [show i + 1 + (k - (i + 1)) = k by omega] at this
          exact this.symm
      · have heq : g'.st[v]? = g.st[v]? := by
          refine hc2 v (by omega) ?_ hsj
          rcases Nat.lt_or_gt_of_ne hij with hl | hl
          · have := h.len (i + 1) (j - (i + 1)) (by omega)
            rw [show i + 1 + (j - (i + 1)) = j by omega] at this
            exact .inl (by omega)
          · have := h.len (j + 1) (i - (j + 1)) (by omega)
            rw [show j + 1 + (i - (j + 1)) = i by omega] at this
            exact .inr (by omega)
        rw [heq]
        refine ⟨fun hl hall => h3.1 (hl.resolve_left hij) (fun k hk => (hall k hk).resolve_left (fun e => hsj (e ▸ hk))), fun hl k hk hnk => h3.2.1 (hl.resolve_left hij) k hk (fun h => hnk (.inr h)), fun hn => h3.2.2 (fun h => hn (.inr h))⟩
  have hZ : ∀ i k, i < m → ¬ Lst (listed.setIfInBounds j true) i → (F i).nid ≤ k → k < (F (i + 1)).nid → η' k = none := by
    intro i k hi hl h1 h2
    rw [lst_set hjl] at hl
    have hne : i ≠ j := fun e => hl (.inl e)
    rw [he k ?_]
    · exact hm.Z i k hi (fun h => hl (.inr h)) h1 h2
    · rcases Nat.lt_or_gt_of_ne hne with hij | hij
      · have := h.nid (i + 1) (j - (i + 1)) (by omega)
        rw [show i + 1 + (j - (i + 1)) = j by omega] at this
        exact .inl (by omega)
      · have := h.nid (j + 1) (i - (j + 1)) (by omega)
        rw [show j + 1 + (i - (j + 1)) = i by omega] at this
        exact .inr (by omega)
  cases hv : isVal o with
  | false =>
    refine ⟨c, hT, fun v hlt => by rw [hb2 hv v hlt]; exact hm.S1 v hlt, hS2, hS4, hd1.trans hm.S3, hd2.trans hm.N, hZ, ?_, hm.hc⟩
    intro i hi hvi
    rw [lst_set hjl, ← hm.V i hi hvi]
    refine ⟨fun h1 => h1.resolve_left (fun e => ?_), .inr⟩
    subst e
    simp [valAt, ho, hv] at hvi
  | true =>
    have hvj : valAt ops j = true := by simp [valAt, ho, hv]
    have hcj : c ≤ j := by
      rcases Nat.lt_or_ge j c with h1 | h1
      · exact absurd ((hm.V j hj hvj).2 h1) hun
      · exact h1
    have hbefore : ∀ k, c ≤ k → k < j → valAt ops k = false := by
      intro k h1 h2
      cases hvk : valAt ops k with
      | false => rfl
      | true =>
        have := (hm.V k (by omega) hvk).1 (hbits k (by omega) (hb.d3 k j h2 hj hvk hvj))
        omega
    have hcl := h.len 0 c (by omega)
    rw [Nat.zero_add] at hcl
    have hstage : ∀ v, v < (F 0).st.length → g.st[v]? = (F j).st[v]? := by
      intro v hlt
      rw [hm.S1 v hlt]
      have := h.st (v := v) hlt c (j - c) (by omega) (by omega) (.inr fun k h1 h2 => hbefore k h1 (by omega))
      rw [show c + (j - c) = j by omega] at this
      exact this.symm
    refine ⟨j + 1, hT, hb1 hv hstage, hS2, hS4, hd1.trans hm.S3, hd2.trans hm.N, hZ, ?_, hj⟩
    intro i hi hvi
    rw [lst_set hjl]
    constructor
    · rintro (rfl | hl)
      · exact Nat.lt_succ_self _
      · have := (hm.V i hi hvi).1 hl; omega
    · intro hlt
      rcases Nat.lt_or_ge i j with h1 | h1
      · exact .inr (hbits i (by omega) (hb.d3 i j h1 hj hvi hvj))
      · exact .inl (by omega)

/-- what an operation sees -/
theorem Mid.reads (hb : DrawOk ops m bit) (h : Chain TT G CR FV ops m F) (hm : Mid ops m F listed c g η) {j : Nat} {o : Oper} (hj : j < m) (ho : ops[j]? = some o) (hbits : ∀ i, i < ops.size → bit j i = true → Lst listed i) {t : Tmp} (ht : t ∈ readsT ops o) : g.tm t = (F j).tm t := by
  have hle := hb.le
  rw [hm.T t (fun i hi hd => hbits i (by omega) (hb.d2 i j o t hi hj ho ht hd))]
  have := h.tm (t := t) j (m - j) (by omega) (fun k h1 h2 e => by
    have := hb.lt j k (by omega) (by omega) (hb.d2 k j o t (by omega) hj ho ht e)
    omega)
  rw [show j + (m - j) = m by omega] at this
  exact this
theorem Mid.ev (hb : DrawOk ops m bit) (h : Chain TT G CR FV ops m F) (hm : Mid ops m F listed c g η) {j : Nat} {o : Oper} (hj : j < m) (ho : ops[j]? = some o) (hbits : ∀ i, i < ops.size → bit j i = true → Lst listed i) : ∀ x ∈ o.op.operands, (F j).ev G x = g.ev G x := by
  intro x hx
  cases x with
  | tmp t =>
    refine (hm.reads hb h hj ho hbits ?_).symm
    unfold readsT
    exact List.mem_append_left _ (List.mem_filterMap.2 ⟨.tmp t, by simpa using hx, rfl⟩)
  | _ => rfl
end
end Go.Sh
namespace Go.Sh
set_option linter.unusedVariables false
set_option linter.unusedSimpArgs false

section
variable {P : Program} {TT : TypeId → Option TI} {G : Gl} {CR : CRel} {FV : List Nat} {ops : Array Oper} {m : Nat} {bit : Nat → Nat → Bool} {F : Nat → Fr} {listed : Array Bool} {c : Nat} {g : Fr} {B : Base} {E : Env} {a : Act} {w : World} {Q : Exit → Act → World → Prop} {K : Act → World → Prop}

theorem ops_call {c : Call} {x : Operand} (hx : x ∈ c.args) : x ∈ (Op.call c).operands := by
  simp only [Op.operands, Call.operands, Array.mem_append]; exact .inr hx

/-- one operation of the first part, in the midst of it -/
theorem D1.mid (hTT : ∀ t ti, TT t = some ti → TI.of P t = some ti) (hCR : ∀ f args st res st', CR f args st res st' → CallOk P G f args st res st') (hG : GOk P G B) (hb : DrawOk ops m bit) (h : Chain TT G CR FV ops m F) (hm : Mid ops m F listed c g E.η)
    (hk : B.k ≤ (F 0).st.length) {j : Nat} {o : Oper} (hj : j < m) (hjl : j < listed.size) (ho : ops[j]? = some o) (hun : ¬ Lst listed j) (hbits : ∀ i, i < ops.size → bit j i = true → Lst listed i) (hd : ∀ d', o.dst = some d' → d' < B.nt)
    (hi : Inv B E g a w) (h1 : D1 TT G CR (maskAt FV 0 (F 0).st) FV (F j) o (F (j + 1)))
    (hK : ∀ E' g' c' a' w', Inv B E' g' a' w' → Mid ops m F (listed.setIfInBounds j true) c' g' E'.η → K a' w') : o.wp P a w K Q := by
  have hle := hb.le
  have hev := hm.ev (G := G) hb h hj ho hbits
  have hlenj := h.len 0 j (by omega)
  rw [Nat.zero_add] at hlenj
  have hjm := h.len (j + 1) (m - (j + 1)) (by omega)
  rw [show j + 1 + (m - (j + 1)) = m by omega] at hjm
  have hnm := h.nid (j + 1) (m - (j + 1)) (by omega)
  rw [show j + 1 + (m - (j + 1)) = m by omega] at hnm
  have hput : ∀ {g1 f1 : Fr} {av : AV}, (∀ t, g1.tm t = g.tm t) → ∀ t, (g1.put o.dst av).tm t = if o.dst = some t then (f1.put o.dst av).tm t else g.tm t := by
    intro g1 f1 av hg t
    rw [put_tm, put_tm]
    split <;> simp_all
  have hM : ∀ (v : Nat) (cs : List AV), (maskAt FV 0 (F 0).st)[v]? = some (some cs) → g.st[v]? = some (some cs) := by
    intro v cs hv
    obtain ⟨h2, h3⟩ := maskAt_get FV _ _ _ _ hv
    rw [Nat.zero_add] at h3
    have hlt := (List.getElem?_eq_some_iff.1 h2).1
    rw [hm.S1 v hlt]
    have := h.st (v := v) hlt 0 c (by have := hm.hc; omega) hlt (.inl h3)
    rw [Nat.zero_add] at this
    rw [this]; exact h2
  generalize hF' : F (j + 1) = f' at h1
  have hnext := fun (g' : Fr) (η' : Nat → Option OB) ha hb1 hb2 hc1 hc2 hc3 hd1 hd2 he => hm.next hb h hj hjl ho hun hbits (g' := g') (η' := η') ha hb1 hb2 hc1 hc2 hc3 hd1 hd2 he
  rw [hF'] at hnext hjm hnm
  have hfree : ∀ v, (F j).st.length ≤ v → v < f'.st.length → g.st[v]? = some none := fun v h2 h3 => (hm.S2 j v hj h2 (by rw [hF']; exact h3)).2.2 hun
  have hid : ∀ k, (F j).nid ≤ k → k < f'.nid → E.η k = none := fun k h2 h3 => hm.Z j k hj hun h2 (by rw [hF']; exact h3)
  have hns : stoT o = none → ∀ v, Sto ops m F j v → ∀ {q : Prop}, q := by
    rintro hn v ⟨_, a, off, ha, _⟩
    rw [stoAt, ho] at ha
    simp only [Option.bind_some] at ha
    rw [hn] at ha; cases ha
  cases h1 with
  | @pure av hp =>
    have hnst : stoT o = none := by
      unfold stoT
      split
      · rename_i t a x hop; rw [hop] at hp; cases hp
      · rfl
    have hp2 := aPure_mono hM ((aPure_congr hev).symm.trans hp)
    refine pure_wp hTT hi hG hd hp2 (fun v _ _ hi' => ?_)
    obtain ⟨c', hm'⟩ := hnext (g.put o.dst av) E.η (hput (fun _ => rfl)) (fun _ hs v hv => by rw [put_st, put_st]; exact hs v hv) (fun _ v hv => by rw [put_st]) (fun v h2 h3 => by rw [put_st] at h3; omega) (fun v _ _ _ => by rw [put_st]) (fun v hs _ => hns hnst v hs) (by rw [put_st]) (by rw [put_nid]) (fun _ _ => rfl)
    exact hK E _ c' _ _ hi' hm'
  | @append0 s x t e ti ei os ox rows hop ht hel he hs hx =>
    have hs2 : g.ev G s = .sl os rows := (hev s (by rw [hop]; exact ops_call (by simp))).symm.trans hs
    have hx2 : g.ev G x = .sl ox [] := (hev x (by rw [hop]; exact ops_call (by simp))).symm.trans hx
    refine append0_wp hTT hi hG hd hop ht hel he hs2 hx2 (fun hi' => ?_)
    obtain ⟨c', hm'⟩ := hnext (g.put o.dst (.sl os rows)) E.η (hput (fun _ => rfl)) (fun _ hs v hv => by rw [put_st, put_st]; exact hs v hv) (fun _ v hv => by rw [put_st]) (fun v h2 h3 => by rw [put_st] at h3; omega) (fun v _ _ _ => by rw [put_st]) (fun v hs _ => hns (by simp [stoT, hop]) v hs) (by rw [put_st]) (by rw [put_nid]) (fun _ _ => rfl)
    exact hK E _ c' _ _ hi' hm'
  | @alloc t ti hop ht =>
    rw [put_st] at hfree hjm
    simp only [List.length_append, List.length_singleton] at hfree hjm
    have hat := hfree (F j).st.length (Nat.le_refl _) (Nat.lt_succ_self _)
    have hlt := (List.getElem?_eq_some_iff.1 hat).1
    refine alloc_wp hTT hi hd hop ht hat (by omega) (fun E' a' w' hη hi' => ?_)
    obtain ⟨c', hm'⟩ := hnext (({ g with st := g.st.set (F j).st.length (some ti.zero) } : Fr).put o.dst (.vp (F j).st.length 0)) E'.η (hput (fun _ => rfl)) (fun hv => by simp [isVal, hop] at hv) (fun _ v hv => by rw [put_st]; exact List.getElem?_set_ne (by omega))
      (fun v h2 h3 => by
        rw [put_st] at h3 ⊢
        simp only [List.length_append, List.length_singleton] at h3
        rw [put_st]
        obtain rfl : v = (F j).st.length := by omega
        rw [List.getElem?_set_self hlt, List.getElem?_append_right (Nat.le_refl _), Nat.sub_self]; rfl)
      (fun v h2 h3 _ => by
        rw [put_st] at h3 ⊢
        simp only [List.length_append, List.length_singleton] at h3
        exact List.getElem?_set_ne (by omega))
      (fun v hs _ => hns (by simp [stoT, hop]) v hs) (by rw [put_st, List.length_set]) (by rw [put_nid]) (fun _ _ => by rw [hη])
    exact hK E' _ c' _ _ hi' hm'
  | @box t x hop hok =>
    rw [put_st] at hfree hjm
    simp only [List.length_append, List.length_singleton] at hfree hjm
    have hat := hfree (F j).st.length (Nat.le_refl _) (Nat.lt_succ_self _)
    have hlt := (List.getElem?_eq_some_iff.1 hat).1
    have hx : (F j).ev G x = g.ev G x := hev x (by rw [hop]; simp [Op.operands])
    refine box_wp hi hG hd hop (hx ▸ hok) hat (by omega) (fun E' a' w' hη hi' => ?_)
    rw [hx] at hnext
    obtain ⟨c', hm'⟩ := hnext (({ g with st := g.st.set (F j).st.length (some (g.ev G x).scells) } : Fr).put o.dst (.vp (F j).st.length 0)) E'.η (hput (fun _ => rfl)) (fun hv => by simp [isVal, hop] at hv) (fun _ v hv => by rw [put_st]; exact List.getElem?_set_ne (by omega))
      (fun v h2 h3 => by
        rw [put_st] at h3 ⊢
        simp only [List.length_append, List.length_singleton] at h3
        rw [put_st]
        obtain rfl : v = (F j).st.length := by omega
        rw [List.getElem?_set_self hlt, List.getElem?_append_right (Nat.le_refl _), Nat.sub_self]; rfl)
      (fun v h2 h3 _ => by
        rw [put_st] at h3 ⊢
        simp only [List.length_append, List.length_singleton] at h3
        exact List.getElem?_set_ne (by omega))
      (fun v hs _ => hns (by simp [stoT, hop]) v hs) (by rw [put_st, List.length_set]) (by rw [put_nid]) (fun _ _ => by rw [hη])
    exact hK E' _ c' _ _ hi' hm'
  | @slice t e len parts ti ei hop ht hel he hix hsz hlen h0 =>
    rw [put_nid] at hid hnm
    have hid' := hid (F j).nid (Nat.le_refl _) (Nat.lt_succ_self _)
    have hx : ∀ p ∈ parts.toList, (F j).ev G p.2 = g.ev G p.2 := fun p hp => hev p.2 (by rw [hop]; simp only [Op.operands, List.mem_toArray, List.mem_map]; exact ⟨p, hp, rfl⟩)
    have hrows : (parts.toList.map fun p => ((F j).ev G p.2).cells.map AV.pl) = parts.toList.map fun p => (g.ev G p.2).cells.map AV.pl := List.map_congr_left (fun p hp => by rw [hx p hp])
    rw [hrows] at hnext
    refine slice_wp hTT hi hG hd hop ht hel he hix (fun p hp => by rw [← hx p hp]; exact hsz p hp) hlen h0 hid' (by rw [hm.N]; exact hnm) (fun E' v w' hη hi' => ?_)
    obtain ⟨c', hm'⟩ := hnext _ E'.η (hput (fun _ => rfl)) (fun hv => by simp [isVal, hop] at hv) (fun _ v hv => by rw [put_st]) (fun v h2 h3 => by rw [put_st] at h3; exact absurd h3 (Nat.not_lt.2 h2)) (fun v _ _ _ => by rw [put_st]) (fun v hs _ => hns (by simp [stoT, hop]) v hs) (by rw [put_st]) (by rw [put_nid])
      (fun k hk => hη k (by rw [put_nid] at hk; simp only at hk; omega))
    exact hK E' _ c' _ _ hi' hm'
  | @appendF s x t e ti ei ox rows rows2 hop ht hel he hs hx hne h0 hL hL2 hbb hmm =>
    rw [put_nid] at hid hnm
    have hid' := hid (F j).nid (Nat.le_refl _) (Nat.lt_succ_self _)
    have hs2 : g.ev G s = .sl .full rows := (hev s (by rw [hop]; exact ops_call (by simp))).symm.trans hs
    have hx2 : g.ev G x = .sl ox rows2 := (hev x (by rw [hop]; exact ops_call (by simp))).symm.trans hx
    refine append_full_wp hTT hi hG hd hop ht hel he hs2 hx2 hne h0 hL hL2 hbb hmm hid' (by rw [hm.N]; exact hnm) (fun E' v w' hη hi' => ?_)
    obtain ⟨c', hm'⟩ := hnext _ E'.η (hput (fun _ => rfl)) (fun hv => by simp [isVal, hop] at hv) (fun _ v hv => by rw [put_st]) (fun v h2 h3 => by rw [put_st] at h3; exact absurd h3 (Nat.not_lt.2 h2)) (fun v _ _ _ => by rw [put_st]) (fun v hs _ => hns (by simp [stoT, hop]) v hs) (by rw [put_st]) (by rw [put_nid])
      (fun k hk => hη k (by rw [put_nid] at hk; simp only at hk; omega))
    exact hK E' _ c' _ _ hi' hm'
  | @store t a' v ti i off cs hop ht hx hi2 hn hok hvl hfit =>
    rw [h.mlen] at hn
    have hread : a' ∈ readsT ops o := by
      unfold readsT
      exact List.mem_append_left _ (List.mem_filterMap.2 ⟨.tmp a', by rw [hop]; simp [Op.operands], rfl⟩)
    have hsto : Sto ops m F j i := ⟨hj, a', off, by simp [stoAt, ho, stoT, hop], hx⟩
    obtain ⟨i0, a0, hij, hbit, _, _, _, h8, h9⟩ := h.sto hb hsto
    have hx2 : g.tm a' = .vp i off := (hm.reads hb h hj ho hbits hread).trans hx
    have hgi : g.st[i]? = some (some cs) := ((hm.S2 i0 i (by omega) (by omega) h9).2.1 (hbits i0 (by omega) hbit) j hsto hun).trans hi2
    have hlt := (List.getElem?_eq_some_iff.1 hgi).1
    have hltj := (List.getElem?_eq_some_iff.1 hi2).1
    have hv : (F j).ev G v = g.ev G v := hev v (by rw [hop]; simp [Op.operands])
    rw [hv] at hok hvl hnext
    refine store_wp hTT hi hG hd hop ht (x := .tmp a') hx2 hgi hok hvl hfit (fun a' w' hi' => ?_)
    obtain ⟨c', hm'⟩ := hnext (({ g with st := g.st.set i (some (cs.take off ++ (g.ev G v).scells ++ cs.drop (off + ti.size))) } : Fr).put o.dst .bad) E.η (hput (fun _ => rfl)) (fun hv => by simp [isVal, hop] at hv) (fun _ v hv => by rw [put_st]; exact List.getElem?_set_ne (by omega)) (fun v h2 h3 => by rw [put_st] at h3; simp only [List.length_set] at h3; omega)
      (fun v h2 _ hne => by
        rw [put_st]
        have hvi : i ≠ v := by rintro rfl; exact hne hsto
        exact List.getElem?_set_ne hvi)
      (fun v hs _ => by
        have hvi : v = i := by
          obtain ⟨_, b, off', hb1, hb2⟩ := hs
          obtain ⟨_, b', off'', hb1', hb2'⟩ := hsto
          rw [hb1] at hb1'; injection hb1' with hb1'; subst hb1'
          rw [hb2] at hb2'; injection hb2'
        subst hvi
        rw [put_st, put_st]
        show (g.st.set v _)[v]? = ((F j).st.set v _)[v]?
        rw [List.getElem?_set_self hlt, List.getElem?_set_self hltj])
      (by rw [put_st]; simp) (by rw [put_nid]) (fun _ _ => rfl)
    exact hK E _ c' _ _ hi' hm'
  | @call cl fv f args res st' hop hc hf hargs ha hcall hres =>
    have hf2 : g.ev G fv = .fn f [] := (hev fv (by rw [hop]; simp [Op.operands, Call.operands, hc])).symm.trans hf
    have hx : ∀ x ∈ cl.args.toList, (F j).ev G x = g.ev G x := fun x hx => hev x (by rw [hop]; exact ops_call (by simpa using hx))
    have ha2 : args = cl.args.toList.map fun x => (g.ev G x).pl := ha.trans (List.map_congr_left (fun x hx' => by rw [hx x hx']))
    refine call_wp hCR hi hG hd hop hc hf2 (fun x hx' => by rw [← hx x hx']; exact hargs x hx') ha2 hcall hres (fun E' a' w' hη hi' => ?_)
    obtain ⟨c', hm'⟩ := hnext _ E'.η (hput (fun _ => rfl)) (fun _ hs v hv => by rw [put_st, put_st]; exact hs v hv) (fun _ v hv => by rw [put_st]) (fun v h2 h3 => by rw [put_st] at h3; exact absurd h3 (Nat.not_lt.2 h2)) (fun v _ _ _ => by rw [put_st]) (fun v hs _ => hns (by simp [stoT, hop]) v hs) (by rw [put_st]) (by rw [put_nid]) (fun _ _ => by rw [hη])
    exact hK E' _ c' _ _ hi' hm'
  | @callV cl fv f caps args res vs st0 st' hop hc hf hal hargs hnd hl hl' hst hcall hres hst' hFV =>
    have hf2 : g.ev G fv = .fn f caps := (hev fv (by rw [hop]; simp [Op.operands, Call.operands, hc])).symm.trans hf
    have hx : ∀ x ∈ cl.args.toList, (F j).ev G x = g.ev G x := fun x hx => hev x (by rw [hop]; exact ops_call (by simpa using hx))
    have hxm : cl.args.toList.map ((F j).ev G) = cl.args.toList.map (g.ev G) := List.map_congr_left hx
    rw [hxm] at hargs
    have hval : isVal o = true := by simp [isVal, hop, hc]
    have hvj : valAt ops j = true := by simp [valAt, ho, hval]
    have hcj : c ≤ j := by
      rcases Nat.lt_or_ge j c with h1 | h1
      · exact absurd ((hm.V j hj hvj).2 h1) hun
      · exact h1
    have hcl := h.len 0 c (by omega)
    rw [Nat.zero_add] at hcl
    have hstage : ∀ v, v < (F 0).st.length → g.st[v]? = (F j).st[v]? := by
      intro v hlt
      rw [hm.S1 v hlt]
      have := h.st (v := v) hlt c (j - c) (by omega) (by omega) (.inr fun k h1 h2 => by
        cases hvk : valAt ops k with
        | false => rfl
        | true =>
          have := (hm.V k (by omega) hvk).1 (hbits k (by omega) (hb.d3 k j (by omega) hj hvk hvj))
          omega)
      rw [show c + (j - c) = j by omega] at this
      exact this.symm
    have hlt : ∀ v ∈ vs, v < (F 0).st.length := fun v hv => h.fv v (hFV v hv)
    have hgl : (F 0).st.length ≤ g.st.length := by
      rw [hm.S3]
      have := h.len 0 m (by omega)
      rw [Nat.zero_add] at this; exact this
    refine callV_wp hCR hi hG hd hop hc hf2 hal hargs hnd hl hl' (fun i v hv => by
      obtain ⟨cs, h2, h3⟩ := hst i v hv
      exact ⟨cs, (hstage v (hlt v (List.mem_of_getElem? hv))).trans h2, h3⟩) hcall hres hst' (fun E' a' w' hη hi' => ?_)
    obtain ⟨g1, g2, g3⟩ := wb_get vs g.st st' hnd hl' (fun v hv => Nat.lt_of_lt_of_le (hlt v hv) hgl)
    obtain ⟨f1, f2, f3⟩ := wb_get vs (F j).st st' hnd hl' (fun v hv => Nat.lt_of_lt_of_le (hlt v hv) hlenj)
    obtain ⟨c', hm'⟩ := hnext (({ g with st := wb g.st vs st' } : Fr).put o.dst res.st) E'.η (hput (fun _ => rfl)) (fun _ hs v hv => by
        rw [put_st, put_st]
        show (wb g.st vs st')[v]? = (wb (F j).st vs st')[v]?
        by_cases hvm : v ∈ vs
        · obtain ⟨i, hi2⟩ := List.mem_iff_getElem?.1 hvm
          rw [g2 i v hi2, f2 i v hi2]
        · rw [g1 v hvm, f1 v hvm]; exact hs v hv)
      (fun hv => by rw [hval] at hv; cases hv) (fun v h2 h3 => by rw [put_st] at h3; have h3 : v < (wb (F j).st vs st').length := h3; omega)
      (fun v h2 _ _ => by rw [put_st]; exact g1 v (fun hvm => by have := hlt v hvm; omega)) (fun v hs _ => hns (by simp [stoT, hop]) v hs) (by rw [put_st]; exact g3) (by rw [put_nid]) (fun _ _ => by rw [hη])
    exact hK E' _ c' _ _ hi' hm'
end
end Go.Sh
namespace Go.Sh
set_option linter.unusedVariables false
set_option linter.unusedSimpArgs false

section
variable {P : Program} {TT : TypeId → Option TI} {G : Gl} {CR : CRel} {FV : List Nat} {ops : Array Oper} {m : Nat} {bit : Nat → Nat → Bool} {F : Nat → Fr} {listed : Array Bool} {c : Nat} {g : Fr} {B : Base} {E : Env} {a : Act} {w : World} {Q : Exit → Act → World → Prop} {K : Act → World → Prop}

theorem DSt.mid (hTT : ∀ t ti, TT t = some ti → TI.of P t = some ti) (hCR : ∀ f args st res st', CR f args st res st' → CallOk P G f args st res st') (hG : GOk P G B) (hb : DrawOk ops m bit) (h : Chain TT G CR FV ops m F) (hm : Mid ops m F listed c g E.η)
    (hk : B.k ≤ (F 0).st.length) {j : Nat} (hj : j < m) (hjl : j < listed.size) (hun : ¬ Lst listed j) (hbits : ∀ i, i < ops.size → bit j i = true → Lst listed i) (hd : dstOk B.nt ops = true)
    (hi : Inv B E g a w) (hK : ∀ E' g' c' a' w', Inv B E' g' a' w' → Mid ops m F (listed.setIfInBounds j true) c' g' E'.η → K a' w') : wpOp P ops Q j K a w := by
  have hdo : ∀ (o : Oper), ops[j]? = some o → ∀ d', o.dst = some d' → d' < B.nt := by
    intro o ho d' hd'
    have := List.all_eq_true.1 hd o (by simpa using Array.mem_of_getElem? ho)
    rw [hd'] at this
    exact Nat.le_of_ble_eq_true this
  have hgr : ∀ (o : Oper) (i d : Nat) (b : Bool), ops[j]? = some o → o.guard = some (i, b) → (ops[i]?).bind (fun (o : Oper) => o.dst) = some d → g.tm d = (F j).tm d := by
    intro o i d b ho hg hd
    refine hm.reads hb h hj ho hbits ?_
    unfold readsT dstAt
    rw [hg]
    refine List.mem_append_right _ ?_
    simp only []
    rw [hd]; simp
  have hst := h.step j hj
  generalize hF' : F (j + 1) = f' at hst
  cases hst with
  | @op fr1 o ho hg h1 =>
    unfold wpOp
    simp only [ho]
    rw [if_pos (by unfold Region.wanted; rw [hg])]
    exact .inl (D1.mid hTT hCR hG hb h hm hk hj hjl ho hun hbits (hdo o ho) hi (hF'.symm ▸ h1) hK)
  | @gop fr1 o i d b ho hg hd' hbv h1 =>
    unfold wpOp
    simp only [ho]
    rw [if_pos (by unfold Region.wanted; rw [hg]; simp only []; rw [hi.yielded hd' ((hgr o i d b ho hg hd').trans hbv)]; simp)]
    exact .inl (D1.mid hTT hCR hG hb h hm hk hj hjl ho hun hbits (hdo o ho) hi (hF'.symm ▸ h1) hK)
  | @skip o i d b b' ho hg hd' hbv hne =>
    unfold wpOp
    simp only [ho]
    rw [if_neg (by unfold Region.wanted; rw [hg]; simp only []; rw [hi.yielded hd' ((hgr o i d b ho hg hd').trans hbv)]; simpa using hne)]
    have hi' := hi.put (hdo o ho) (RepT.v0 (.bad undef)) (fun _ _ _ h => by cases h)
    obtain ⟨c', hm'⟩ := hm.next hb h hj hjl ho hun hbits (g' := g.put o.dst .bad) (η' := E.η)
      (fun t => by rw [hF', put_tm, put_tm]; split <;> simp_all) (fun _ hs v hv => by rw [hF', put_st, put_st]; exact hs v hv) (fun _ v hv => by rw [put_st]) (fun v h2 h3 => by rw [hF', put_st] at h3; omega) (fun v _ _ _ => by rw [put_st]) (fun v _ h2 => by rw [hF', put_st, put_st]; exact h2) (by rw [put_st]) (by rw [put_nid]) (fun _ _ => rfl)
    exact hK E _ c' _ _ hi' hm'

/-- the second part: one after the other -/
theorem wpAny_tail (hT : ∀ i j, i < j → m ≤ j → j < ops.size → bit j i = true) (hTT : ∀ t ti, TT t = some ti → TI.of P t = some ti) (hCR : ∀ f args st res st', CR f args st res st' → CallOk P G f args st res st') (hG : GOk P G B) (hb : DrawOk ops m bit) (hd : dstOk B.nt ops = true) {fr' : Fr}
    (hQ : ∀ E' a' w', Inv B E' fr' a' w' → Q .normal a' w') :
    ∀ (fuel j : Nat) (listed : Array Bool) (fr : Fr) (E : Env) (a : Act) (w : World), m ≤ j → j ≤ ops.size → ops.size - j ≤ fuel → listed.size = ops.size → (∀ i, i < ops.size → (Lst listed i ↔ i < j)) → Closed ops listed →
      AOps TT G CR ops (List.range' j (ops.size - j)) fr fr' → Inv B E fr a w → wpAny P .any ops Q fuel listed a w := by
  have hdo : ∀ (i : Nat) (o : Oper), ops[i]? = some o → ∀ d', o.dst = some d' → d' < B.nt := by
    intro i o ho d' hd'
    have := List.all_eq_true.1 hd o (by simpa using Array.mem_of_getElem? ho)
    rw [hd'] at this
    exact Nat.le_of_ble_eq_true this
  intro fuel
  induction fuel with
  | zero =>
    intro j listed fr E a w h1 h2 h3 hs hl hc hr hi
    have : ops.size - j = 0 := by omega
    rw [this] at hr
    cases hr
    refine ⟨?_, hQ _ _ _ hi⟩
    cases hre : Region.ready .any ops listed with
    | nil => rfl
    | cons x xs =>
      have hx : x ∈ Region.ready .any ops listed := by rw [hre]; simp
      obtain ⟨h4, o, ho, _⟩ := (ready_iff hs).1 hx
      have hlt := (Array.getElem?_eq_some_iff.1 ho).1
      exact absurd ((hl x hlt).2 (by omega)) h4
  | succ fuel ih =>
    intro j listed fr E a w h1 h2 h3 hs hl hc hr hi
    refine ⟨fun hre => ?_, fun i hir => ?_⟩
    · have hall := hb.progress hs hre
      have hj : j = ops.size := by
        rcases Nat.lt_or_ge j ops.size with h4 | h4
        · have := (hl j h4).1 (hall j h4); omega
        · omega
      subst hj
      rw [Nat.sub_self] at hr
      cases hr
      exact hQ _ _ _ hi
    · obtain ⟨hun, o, ho, hready⟩ := (ready_iff hs).1 hir
      have hlt := (Array.getElem?_eq_some_iff.1 ho).1
      have hge : j ≤ i := by
        rcases Nat.lt_or_ge i j with h4 | h4
        · exact absurd ((hl i hlt).2 h4) hun
        · exact h4
      have hij : i = j := by
        rcases Nat.lt_or_ge j i with h4 | h4
        · have := hb.bits hc i o ho hready j (by omega) (hT j i h4 (by omega) hlt)
          have := (hl j (by omega)).1 this; omega
        · omega
      subst hij
      have hsz : i < listed.size := by omega
      have hn : ops.size - i = (ops.size - (i + 1)) + 1 := by omega
      rw [hn, List.range'_succ] at hr
      have hl' : ∀ k, k < ops.size → (Lst (listed.setIfInBounds i true) k ↔ k < i + 1) := by
        intro k hk
        rw [lst_set hsz, hl k hk]; omega
      have hnext : ∀ {E' : Env} {a' : Act} {w' : World} {fr1 : Fr}, AOps TT G CR ops (List.range' (i + 1) (ops.size - (i + 1))) fr1 fr' → Inv B E' fr1 a' w' → wpAny P .any ops Q fuel (listed.setIfInBounds i true) a' w' :=
        fun {E' a' w' fr1} hr' hi' => ih (i + 1) _ fr1 E' a' w' (by omega) (by omega) (by omega) (by simp [hs]) hl' (hc.set hs hir) hr' hi'
      unfold wpOp
      simp only [ho]
      cases hr with
      | op ho' hg h5 h6 =>
        rw [ho] at ho'; injection ho' with ho'; subst ho'
        rw [if_pos (by unfold Region.wanted; rw [hg])]
        exact .inl (AOp.sound hTT hCR h5 hi hG (hdo _ _ ho) (fun E' a' w' hi' => hnext h6 hi'))
      | gop ho' hg hj' hbv h5 h6 =>
        rw [ho] at ho'; injection ho' with ho'; subst ho'
        rw [if_pos (by unfold Region.wanted; rw [hg]; simp only []; rw [hi.yielded hj' hbv]; simp)]
        exact .inl (AOp.sound hTT hCR h5 hi hG (hdo _ _ ho) (fun E' a' w' hi' => hnext h6 hi'))
      | skip ho' hg hj' hbv hne h6 =>
        rw [ho] at ho'; injection ho' with ho'; subst ho'
        rw [if_neg (by unfold Region.wanted; rw [hg]; simpa using hi.yieldedNe hj' hbv hne)]
        exact hnext h6 (hi.put (hdo _ _ ho) .tup0 (fun _ _ _ h => by cases h))

/-- whatever comes up first, in the end the frame is fr' -/
def AAny (TT : TypeId → Option TI) (G : Gl) (CR : CRel) (ops : Array Oper) (fr' : Fr) : Nat → List Nat → Fr → Prop
  | 0, done, fr => rdy ops done = [] ∧ fr = fr'
  | n + 1, done, fr => (rdy ops done = [] → fr = fr') ∧ ∀ i ∈ rdy ops done, ∃ fr1, AOps TT G CR ops [i] fr fr1 ∧ AAny TT G CR ops fr' n (i :: done) fr1
theorem wpAny_any (hTT : ∀ t ti, TT t = some ti → TI.of P t = some ti) (hCR : ∀ f args st res st', CR f args st res st' → CallOk P G f args st res st') (hG : GOk P G B) (hd : dstOk B.nt ops = true) {fr' : Fr}
    (hQ : ∀ E' a' w', Inv B E' fr' a' w' → Q .normal a' w') :
    ∀ (n fuel : Nat) (listed : Array Bool) (done : List Nat) (fr : Fr) (E : Env) (a : Act) (w : World), n ≤ fuel → listed.size = ops.size → (∀ k, Lst listed k ↔ k ∈ done) → AAny TT G CR ops fr' n done fr → Inv B E fr a w → wpAny P .any ops Q fuel listed a w := by
  have hdo : ∀ (i : Nat) (o : Oper), ops[i]? = some o → ∀ d', o.dst = some d' → d' < B.nt := by
    intro i o ho d' hd'
    have := List.all_eq_true.1 hd o (by simpa using Array.mem_of_getElem? ho)
    rw [hd'] at this
    exact Nat.le_of_ble_eq_true this
  have hnil : ∀ {listed : Array Bool} {done : List Nat}, listed.size = ops.size → (∀ k, Lst listed k ↔ k ∈ done) → (rdy ops done = [] ↔ Region.ready .any ops listed = []) := by
    intro listed done hs hl
    constructor
    · intro h
      cases hr : Region.ready .any ops listed with
      | nil => rfl
      | cons x xs =>
        have : x ∈ rdy ops done := (rdy_iff hs hl x).1 (by rw [hr]; simp)
        rw [h] at this; cases this
    · intro h
      cases hr : rdy ops done with
      | nil => rfl
      | cons x xs =>
        have : x ∈ Region.ready .any ops listed := (rdy_iff hs hl x).2 (by rw [hr]; simp)
        rw [h] at this; cases this
  intro n
  induction n with
  | zero =>
    intro fuel listed done fr E a w _ hs hl h hi
    obtain ⟨h1, rfl⟩ := h
    have h2 := (hnil hs hl).1 h1
    cases fuel with
    | zero => exact ⟨h2, hQ _ _ _ hi⟩
    | succ fuel => exact ⟨fun _ => hQ _ _ _ hi, fun i hir => by rw [h2] at hir; cases hir⟩
  | succ n ih =>
    intro fuel listed done fr E a w hf hs hl h hi
    obtain ⟨h1, h2⟩ := h
    obtain ⟨fuel, rfl⟩ : ∃ k, fuel = k + 1 := ⟨fuel - 1, by omega⟩
    refine ⟨fun hre => by obtain rfl := h1 ((hnil hs hl).2 hre); exact hQ _ _ _ hi, fun i hir => ?_⟩
    obtain ⟨fr1, hr, hn⟩ := h2 i ((rdy_iff hs hl i).1 hir)
    have hlt : i < listed.size := by
      obtain ⟨_, o, ho, _⟩ := (ready_iff hs).1 hir
      rw [hs]; exact (Array.getElem?_eq_some_iff.1 ho).1
    have hl' : ∀ k, Lst (listed.setIfInBounds i true) k ↔ k ∈ i :: done := fun k => by rw [lst_set hlt, hl k]; simp
    have hs' : (listed.setIfInBounds i true).size = ops.size := by simp [hs]
    unfold wpOp
    cases hr with
    | op ho hg h5 h6 =>
      cases h6
      simp only [ho]
      rw [if_pos (by unfold Region.wanted; rw [hg])]
      exact .inl (AOp.sound hTT hCR h5 hi hG (hdo _ _ ho) (fun E' a' w' hi' => ih _ _ _ _ _ _ _ (by omega) hs' hl' hn hi'))
    | gop ho hg hj' hbv h5 h6 =>
      cases h6
      simp only [ho]
      rw [if_pos (by unfold Region.wanted; rw [hg]; simp only []; rw [hi.yielded hj' hbv]; simp)]
      exact .inl (AOp.sound hTT hCR h5 hi hG (hdo _ _ ho) (fun E' a' w' hi' => ih _ _ _ _ _ _ _ (by omega) hs' hl' hn hi'))
    | skip ho hg hj' hbv hne h6 =>
      cases h6
      simp only [ho]
      rw [if_neg (by unfold Region.wanted; rw [hg]; simpa using hi.yieldedNe hj' hbv hne)]
      exact ih _ _ _ _ _ _ _ (by omega) hs' hl' hn (hi.put (hdo _ _ ho) .tup0 (fun _ _ _ h => by cases h))

/-- what follows the first part -/
def ATail (TT : TypeId → Option TI) (G : Gl) (CR : CRel) (ops : Array Oper) (m : Nat) (fm fr' : Fr) : Prop :=
  (tailOk ops m = true ∧ AOps TT G CR ops (List.range' m (ops.size - m)) fm fr') ∨ AAny TT G CR ops fr' (ops.size - m) (List.range m) fm

/-- the first part -/
theorem wpAny_head (hTT : ∀ t ti, TT t = some ti → TI.of P t = some ti) (hCR : ∀ f args st res st', CR f args st res st' → CallOk P G f args st res st') (hG : GOk P G B) (hb : DrawOk ops m bit) (hd : dstOk B.nt ops = true) {fr' : Fr}
    (h : Chain TT G CR FV ops m F) (hk : B.k ≤ (F 0).st.length) (hr : ((∀ i j, i < j → m ≤ j → j < ops.size → bit j i = true) ∧ AOps TT G CR ops (List.range' m (ops.size - m)) (F m) fr') ∨ AAny TT G CR ops fr' (ops.size - m) (List.range m) (F m))
    (hQ : ∀ E' a' w', Inv B E' fr' a' w' → Q .normal a' w') :
    ∀ (fuel : Nat) (listed : Array Bool) (c : Nat) (g : Fr) (E : Env) (a : Act) (w : World), (left listed ops.size).length ≤ fuel → listed.size = ops.size → (∀ i, m ≤ i → i < ops.size → ¬ Lst listed i) → Closed ops listed →
      Mid ops m F listed c g E.η → Inv B E g a w → wpAny P .any ops Q fuel listed a w := by
  have hle := hb.le
  have hbig : ∀ {listed : Array Bool}, listed.size = ops.size → (∀ i, i < m → Lst listed i) → (∀ i, m ≤ i → i < ops.size → ¬ Lst listed i) → ∀ k, Lst listed k ↔ k ∈ List.range m := by
    intro listed hs h1 h2 k
    rw [List.mem_range]
    constructor
    · intro hk
      rcases Nat.lt_or_ge k m with h4 | h4
      · exact h4
      · rcases Nat.lt_or_ge k ops.size with h5 | h5
        · exact absurd hk (h2 k h4 h5)
        · unfold Lst at hk
          rw [Array.getD_eq_getD_getElem?, Array.getElem?_eq_none (by omega)] at hk
          cases hk
    · exact h1 k
  intro fuel
  induction fuel with
  | zero =>
    intro listed c g E a w h3 hs hno hc hm hi
    have hall : ∀ i, i < ops.size → Lst listed i := by
      intro i hlt
      by_cases hl : Lst listed i
      · exact hl
      · have : i ∈ left listed ops.size := by
          unfold left
          rw [List.mem_filter]
          refine ⟨List.mem_range.2 hlt, ?_⟩
          unfold Lst at hl; simpa using hl
        have := List.length_pos_of_mem this
        omega
    have hmn : m = ops.size := by
      rcases Nat.lt_or_ge m ops.size with h4 | h4
      · exact absurd (hall m h4) (hno m (Nat.le_refl _) h4)
      · omega
    have hg := hm.done h (fun i hi => hall i (by omega))
    subst hg
    rcases hr with ⟨hT, hr⟩ | hr
    · exact wpAny_tail hT hTT hCR hG hb hd hQ 0 m listed (F m) E a w (Nat.le_refl _) hle (by omega) hs (fun i hi => ⟨fun _ => by omega, fun _ => hall i hi⟩) hc hr hi
    · exact wpAny_any hTT hCR hG hd hQ (ops.size - m) 0 listed (List.range m) (F m) E a w (by omega) hs (hbig hs (fun i hi => hall i (by omega)) hno) hr hi
  | succ fuel ih =>
    intro listed c g E a w h3 hs hno hc hm hi
    by_cases hall : ∀ i, i < m → Lst listed i
    · have hg := hm.done h hall
      subst hg
      have hcnt : ops.size - m ≤ fuel + 1 := by
        refine Nat.le_trans ?_ h3
        have hsub : (List.range' m (ops.size - m)).length ≤ (left listed ops.size).length := by
          have e1 : List.range ops.size = List.range' 0 m ++ List.range' m (ops.size - m) := by
            rw [List.range_eq_range']
            have := @List.range'_append 0 m (ops.size - m) 1
            simp only [Nat.one_mul, Nat.zero_add] at this
            rw [this]; congr 1; omega
          unfold left
          rw [e1, List.filter_append, List.length_append]
          have e2 : List.filter (fun i => !listed.getD i false) (List.range' m (ops.size - m)) = List.range' m (ops.size - m) := by
            rw [List.filter_eq_self]
            intro x hx
            rw [List.mem_range'_1] at hx
            have := hno x hx.1 (by omega)
            unfold Lst at this; simpa using this
          rw [e2]; omega
        simpa using hsub
      rcases hr with ⟨hT, hr⟩ | hr
      · exact wpAny_tail hT hTT hCR hG hb hd hQ (fuel + 1) m listed (F m) E a w (Nat.le_refl _) hle hcnt hs (fun i hi => ⟨fun hl => by
          rcases Nat.lt_or_ge i m with h4 | h4
          · exact h4
          · exact absurd hl (hno i h4 hi), fun h4 => hall i h4⟩) hc hr hi
      · exact wpAny_any hTT hCR hG hd hQ (ops.size - m) (fuel + 1) listed (List.range m) (F m) E a w hcnt hs (hbig hs hall hno) hr hi
    · refine ⟨fun hre => absurd (fun i (hi : i < m) => hb.progress hs hre i (by omega)) hall, fun j hjr => ?_⟩
      obtain ⟨hun, o, ho, hready⟩ := (ready_iff hs).1 hjr
      have hlt := (Array.getElem?_eq_some_iff.1 ho).1
      have hbits := hb.bits hc j o ho hready
      have hj : j < m := by
        rcases Nat.lt_or_ge j m with h4 | h4
        · exact h4
        · exact absurd (fun i (hi : i < m) => hbits i (by omega) (hb.d4 i j (by omega) h4 hlt)) hall
      refine DSt.mid hTT hCR hG hb h hm hk hj (by omega) hun hbits hd hi (fun E' g' c' a' w' hi' hm' => ih _ c' g' E' a' w' ?_ (by simp [hs]) ?_ (hc.set hs hjr) hm' hi')
      · have := left_set (ops := ops) (listed := listed) (j := j) (by omega) hun hlt
        omega
      · intro i h4 h5
        rw [lst_set (by omega)]
        rintro (rfl | hl)
        · omega
        · exact hno i h4 h5 hl

/-- a region that draws its order -/
def ADraw (TT : TypeId → Option TI) (G : Gl) : RRel := fun CR nt ops fr fr' => ∃ (m : Nat) (FV : List Nat) (fm : Fr), drawOk ops m = true ∧ (∀ v ∈ FV, v < fr.st.length) ∧
  AD TT G CR (maskAt FV 0 fr.st) FV ops (List.range' 0 m) fr fm ∧ ATail TT G CR ops m fm fr'

theorem ADraw.sound (hmix : P.follows .mixedOrders = true) (hTT : ∀ t ti, TT t = some ti → TI.of P t = some ti) (hCR : ∀ f args st res st', CR f args st res st' → CallOk P G f args st res st') (B : Base) (hG : GOk P G B) (id : Nat) (ops : Array Oper) (fr fr' : Fr)
    (h : ADraw TT G CR B.nt ops fr fr') (hd : dstOk B.nt ops = true) (E : Env) (a : Act) (w : World) (hi : Inv B E fr a w) : (Code.region id ops true).wp P (Post B .normal fr') a w := by
  obtain ⟨m, FV, fm, hok, hfv, had, hr⟩ := h
  have hb := drawOk_spec hok
  have hr := hr.imp (fun h => And.intro (tailOk_spec h.1) h.2) (fun h => h)
  obtain ⟨F, h0, hm, hstep⟩ := AD.frames m 0 had
  rw [Nat.zero_add] at hm
  subst h0; subst hm
  have hch : Chain TT G CR FV ops m F := ⟨fun i hi => hstep i (Nat.zero_le _) (by omega), hfv⟩
  refine wp_region_any hmix ?_
  have hno : ∀ i, ¬ Lst (Array.replicate ops.size false) i := by
    intro i hl
    unfold Lst at hl
    simp only [Array.getD_eq_getD_getElem?, Array.getElem?_replicate] at hl
    split at hl <;> simp at hl
  have hi2 := (hi.drew.room ((F m).st.length - (F 0).st.length)).moreIds (n := (F m).nid) (by have := hch.nid 0 m (by omega); rw [Nat.zero_add] at this; exact this)
  refine wpAny_head hTT hCR hG hb hd hch hi.kst hr (fun E' a' w' h' => ⟨rfl, E', h'⟩) ops.size _ 0 _ E a _ ?_ (by simp) (fun i _ _ => hno i) (fun k o _ hl => absurd hl (hno k)) (Mid.start hch (fun i _ => hno i) (fun k hk => hi.freeId hk)) hi2
  unfold left
  exact Nat.le_trans (List.length_filter_le _ _) (by simp)
end
end Go.Sh
namespace Go.Sh
set_option linter.unusedVariables false
set_option linter.unusedSimpArgs false

section
variable {P : Program} {TT : TypeId → Option TI} {G : Gl} {CR CR' : CRel} {M : St} {FV : List Nat} {ops : Array Oper}
theorem D1.mono (hC : ∀ f args st res st', CR f args st res st' → CR' f args st res st') {fr fr' : Fr} {o : Oper} (h : D1 TT G CR M FV fr o fr') : D1 TT G CR' M FV fr o fr' := by
  cases h with
  | pure h => exact .pure h
  | alloc ho ht => exact .alloc ho ht
  | box ho hok => exact .box ho hok
  | slice ho ht hel he hix hsz hlen h0 => exact .slice ho ht hel he hix hsz hlen h0
  | appendF ho ht hel he hs hx hne h0 hL hL2 hb hm => exact .appendF ho ht hel he hs hx hne h0 hL hL2 hb hm
  | append0 ho ht hel he hs hx => exact .append0 ho ht hel he hs hx
  | store ho ht hx hi hn hok hvl hfit => exact .store ho ht hx hi hn hok hvl hfit
  | call ho hc hf hargs ha hcall hres => exact .call ho hc hf hargs ha (hC _ _ _ _ _ hcall) hres
  | callV ho hc hf hal hargs hnd hl hl' hst hcall hres hst' hFV => exact .callV ho hc hf hal hargs hnd hl hl' hst (hC _ _ _ _ _ hcall) hres hst' hFV
theorem DSt.mono (hC : ∀ f args st res st', CR f args st res st' → CR' f args st res st') {fr fr' : Fr} {i : Nat} (h : DSt TT G CR M FV ops i fr fr') : DSt TT G CR' M FV ops i fr fr' := by
  cases h with
  | op ho hg h1 => exact .op ho hg (h1.mono hC)
  | gop ho hg hj hb h1 => exact .gop ho hg hj hb (h1.mono hC)
  | skip ho hg hj hb hne => exact .skip ho hg hj hb hne
theorem AD.mono (hC : ∀ f args st res st', CR f args st res st' → CR' f args st res st') {l : List Nat} {fr fr' : Fr} (h : AD TT G CR M FV ops l fr fr') : AD TT G CR' M FV ops l fr fr' := by
  induction h with
  | nil => exact .nil
  | cons h1 _ ih => exact .cons (h1.mono hC) ih
theorem AAny.mono (hC : ∀ f args st res st', CR f args st res st' → CR' f args st res st') {fr' : Fr} : ∀ (n : Nat) (done : List Nat) (fr : Fr), AAny TT G CR ops fr' n done fr → AAny TT G CR' ops fr' n done fr
  | 0, _, _, h => h
  | n + 1, _, _, h => ⟨h.1, fun i hi => let ⟨fr1, h1, h2⟩ := h.2 i hi; ⟨fr1, h1.mono hC, AAny.mono hC n _ _ h2⟩⟩
theorem ATail.mono (hC : ∀ f args st res st', CR f args st res st' → CR' f args st res st') {m : Nat} {fm fr' : Fr} (h : ATail TT G CR ops m fm fr') : ATail TT G CR' ops m fm fr' :=
  h.imp (fun h => ⟨h.1, h.2.mono hC⟩) (AAny.mono hC _ _ _)
theorem ADraw.mono (hC : ∀ f args st res st', CR f args st res st' → CR' f args st res st') {nt : Nat} {fr fr' : Fr} (h : ADraw TT G CR nt ops fr fr') : ADraw TT G CR' nt ops fr fr' := by
  obtain ⟨m, FV, fm, h1, h2, h3, h4⟩ := h
  exact ⟨m, FV, fm, h1, h2, h3.mono hC, h4.mono hC⟩
theorem ABody.mono (hC : ∀ f args st res st', CR f args st res st' → CR' f args st res st') {f : FuncId} {args : List AV} {st : St} {res : AV} {st' : St} (h : ABody P TT G (ADraw TT G) CR f args st res st') : ABody P TT G (ADraw TT G) CR' f args st res st' := by
  obtain ⟨fn, c, e, fr', rs, h1, h2, h3, h4, h5⟩ := h
  exact ⟨fn, c, e, fr', rs, h1, h2, h3, h4.mono hC (fun _ _ _ h => h.mono hC), h5⟩

section
variable {S : Nat → CRel} (hS : ∀ n f args st res st', S n f args st res st' → S (n + 1) f args st res st')
abbrev Lim (S : Nat → CRel) : CRel := fun f args st res st' => ∃ n, S n f args st res st'
include hS
theorem lim_le {i j : Nat} (hij : i ≤ j) : ∀ f args st res st', S i f args st res st' → S j f args st res st' := by
  obtain ⟨d, rfl⟩ := Nat.exists_eq_add_of_le hij
  induction d with
  | zero => exact fun _ _ _ _ _ h => h
  | succ d ih => exact fun _ _ _ _ _ h => hS _ _ _ _ _ _ (ih (Nat.le_add_right _ _) _ _ _ _ _ h)
omit hS in
theorem AOp.lim {fr fr' : Fr} {o : Oper} (h : AOp TT G (Lim S) fr o fr') : ∃ n, AOp TT G (S n) fr o fr' := by
  cases h with
  | pure h => exact ⟨0, .pure h⟩
  | alloc ho ht => exact ⟨0, .alloc ho ht⟩
  | box ho hok => exact ⟨0, .box ho hok⟩
  | slice ho ht hel he hix hsz hlen h0 => exact ⟨0, .slice ho ht hel he hix hsz hlen h0⟩
  | store ho ht hx hi hok hvl hfit => exact ⟨0, .store ho ht hx hi hok hvl hfit⟩
  | append0 ho ht hel he hs hx => exact ⟨0, .append0 ho ht hel he hs hx⟩
  | appendF ho ht hel he hs hx hne h0 hL hL2 hb hm => exact ⟨0, .appendF ho ht hel he hs hx hne h0 hL hL2 hb hm⟩
  | appendI ho ht hel he hs hx hne h0 hL2 hb hm => exact ⟨0, .appendI ho ht hel he hs hx hne h0 hL2 hb hm⟩
  | call ho hc hf hargs ha hcall hres => obtain ⟨n, hcall⟩ := hcall; exact ⟨n, .call ho hc hf hargs ha hcall hres⟩
  | callNew ho hc hf hargs ha hcall hst hcs => obtain ⟨n, hcall⟩ := hcall; exact ⟨n, .callNew ho hc hf hargs ha hcall hst hcs⟩
  | callV ho hc hf hal hargs hnd hl hl' hst hcall hres hst' => obtain ⟨n, hcall⟩ := hcall; exact ⟨n, .callV ho hc hf hal hargs hnd hl hl' hst hcall hres hst'⟩
theorem AOps.lim {l : List Nat} {fr fr' : Fr} (h : AOps TT G (Lim S) ops l fr fr') : ∃ n, AOps TT G (S n) ops l fr fr' := by
  induction h with
  | nil => exact ⟨0, .nil⟩
  | op ho hg h1 _ ih =>
    obtain ⟨i, h1⟩ := h1.lim; obtain ⟨j, h2⟩ := ih
    exact ⟨max i j, .op ho hg (h1.mono (lim_le hS (Nat.le_max_left i j))) (h2.mono (lim_le hS (Nat.le_max_right i j)))⟩
  | gop ho hg hj hb h1 _ ih =>
    obtain ⟨i, h1⟩ := h1.lim; obtain ⟨j, h2⟩ := ih
    exact ⟨max i j, .gop ho hg hj hb (h1.mono (lim_le hS (Nat.le_max_left i j))) (h2.mono (lim_le hS (Nat.le_max_right i j)))⟩
  | skip ho hg hj hb hne _ ih => obtain ⟨j, h2⟩ := ih; exact ⟨j, .skip ho hg hj hb hne h2⟩
omit hS in
theorem D1.lim {fr fr' : Fr} {o : Oper} (h : D1 TT G (Lim S) M FV fr o fr') : ∃ n, D1 TT G (S n) M FV fr o fr' := by
  cases h with
  | pure h => exact ⟨0, .pure h⟩
  | alloc ho ht => exact ⟨0, .alloc ho ht⟩
  | box ho hok => exact ⟨0, .box ho hok⟩
  | slice ho ht hel he hix hsz hlen h0 => exact ⟨0, .slice ho ht hel he hix hsz hlen h0⟩
  | appendF ho ht hel he hs hx hne h0 hL hL2 hb hm => exact ⟨0, .appendF ho ht hel he hs hx hne h0 hL hL2 hb hm⟩
  | append0 ho ht hel he hs hx => exact ⟨0, .append0 ho ht hel he hs hx⟩
  | store ho ht hx hi hn hok hvl hfit => exact ⟨0, .store ho ht hx hi hn hok hvl hfit⟩
  | call ho hc hf hargs ha hcall hres => obtain ⟨n, hcall⟩ := hcall; exact ⟨n, .call ho hc hf hargs ha hcall hres⟩
  | callV ho hc hf hal hargs hnd hl hl' hst hcall hres hst' hFV => obtain ⟨n, hcall⟩ := hcall; exact ⟨n, .callV ho hc hf hal hargs hnd hl hl' hst hcall hres hst' hFV⟩
omit hS in
theorem DSt.lim {fr fr' : Fr} {i : Nat} (h : DSt TT G (Lim S) M FV ops i fr fr') : ∃ n, DSt TT G (S n) M FV ops i fr fr' := by
  cases h with
  | op ho hg h1 => obtain ⟨n, h1⟩ := h1.lim; exact ⟨n, .op ho hg h1⟩
  | gop ho hg hj hb h1 => obtain ⟨n, h1⟩ := h1.lim; exact ⟨n, .gop ho hg hj hb h1⟩
  | skip ho hg hj hb hne => exact ⟨0, .skip ho hg hj hb hne⟩
theorem AD.lim {l : List Nat} {fr fr' : Fr} (h : AD TT G (Lim S) M FV ops l fr fr') : ∃ n, AD TT G (S n) M FV ops l fr fr' := by
  induction h with
  | nil => exact ⟨0, .nil⟩
  | cons h1 _ ih =>
    obtain ⟨i, h1⟩ := h1.lim; obtain ⟨j, h2⟩ := ih
    exact ⟨max i j, .cons (h1.mono (lim_le hS (Nat.le_max_left i j))) (h2.mono (lim_le hS (Nat.le_max_right i j)))⟩
omit hS in
theorem lim_all {p : Nat → Nat → Prop} (hp : ∀ {n m i}, n ≤ m → p n i → p m i) : ∀ (l : List Nat), (∀ i ∈ l, ∃ n, p n i) → ∃ n, ∀ i ∈ l, p n i
  | [], _ => ⟨0, fun _ h => by cases h⟩
  | x :: l, h => by
    obtain ⟨a, ha⟩ := h x (List.mem_cons_self ..)
    obtain ⟨b, hb⟩ := lim_all (p := p) hp l (fun i hi => h i (List.mem_cons_of_mem _ hi))
    refine ⟨max a b, fun i hi => ?_⟩
    rcases List.mem_cons.1 hi with rfl | hi
    · exact hp (Nat.le_max_left a b) ha
    · exact hp (Nat.le_max_right a b) (hb i hi)
theorem AAny.lim {fr' : Fr} : ∀ (n : Nat) (done : List Nat) (fr : Fr), AAny TT G (Lim S) ops fr' n done fr → ∃ k, AAny TT G (S k) ops fr' n done fr
  | 0, _, _, h => ⟨0, h⟩
  | n + 1, done, fr, h => by
    obtain ⟨h1, h2⟩ := h
    have := lim_all (p := fun k i => ∃ fr1, AOps TT G (S k) ops [i] fr fr1 ∧ AAny TT G (S k) ops fr' n (i :: done) fr1)
      (by
        intro a b i hab hx
        obtain ⟨fr1, h3, h4⟩ := hx
        exact ⟨fr1, h3.mono (lim_le hS hab), AAny.mono (lim_le hS hab) n _ _ h4⟩) (rdy ops done) (fun i hi => by
        obtain ⟨fr1, h3, h4⟩ := h2 i hi
        obtain ⟨a, h3⟩ := h3.lim hS
        obtain ⟨b, h4⟩ := AAny.lim n _ _ h4
        exact ⟨max a b, fr1, h3.mono (lim_le hS (Nat.le_max_left a b)), AAny.mono (lim_le hS (Nat.le_max_right a b)) n _ _ h4⟩)
    obtain ⟨k, hk⟩ := this
    exact ⟨k, h1, hk⟩
theorem ATail.lim {m : Nat} {fm fr' : Fr} (h : ATail TT G (Lim S) ops m fm fr') : ∃ k, ATail TT G (S k) ops m fm fr' := by
  rcases h with ⟨h1, h2⟩ | h
  · obtain ⟨k, h2⟩ := h2.lim hS; exact ⟨k, .inl ⟨h1, h2⟩⟩
  · obtain ⟨k, h⟩ := AAny.lim hS _ _ _ h; exact ⟨k, .inr h⟩
theorem ADraw.lim {nt : Nat} {fr fr' : Fr} (h : ADraw TT G (Lim S) nt ops fr fr') : ∃ n, ADraw TT G (S n) nt ops fr fr' := by
  obtain ⟨m, FV, fm, h1, h2, h3, h4⟩ := h
  obtain ⟨i, h3⟩ := h3.lim hS
  obtain ⟨j, h4⟩ := h4.lim hS
  exact ⟨max i j, m, FV, fm, h1, h2, h3.mono (lim_le hS (Nat.le_max_left i j)), h4.mono (lim_le hS (Nat.le_max_right i j))⟩
theorem ARun.lim {nt k0 : Nat} {c : Code} {fr fr' : Fr} {e : AX} (h : ARun TT G (Lim S) nt k0 (ADraw TT G (Lim S) nt) c fr e fr') : ∃ n, ARun TT G (S n) nt k0 (ADraw TT G (S n) nt) c fr e fr' := by
  induction h with
  | skip => exact ⟨0, .skip⟩
  | region hd h => obtain ⟨n, h⟩ := h.lim hS; exact ⟨n, .region hd h⟩
  | draw hd h => obtain ⟨n, h⟩ := h.lim hS; exact ⟨n, .draw hd h⟩
  | seq _ _ i1 i2 =>
    obtain ⟨i, h1⟩ := i1; obtain ⟨j, h2⟩ := i2
    exact ⟨max i j, .seq (h1.mono (lim_le hS (Nat.le_max_left i j)) (fun _ _ _ h => h.mono (lim_le hS (Nat.le_max_left i j)))) (h2.mono (lim_le hS (Nat.le_max_right i j)) (fun _ _ _ h => h.mono (lim_le hS (Nat.le_max_right i j))))⟩
  | seqX _ he ih => obtain ⟨n, h⟩ := ih; exact ⟨n, .seqX h he⟩
  | condT hc _ ih => obtain ⟨n, h⟩ := ih; exact ⟨n, .condT hc h⟩
  | condF hc _ ih => obtain ⟨n, h⟩ := ih; exact ⟨n, .condF hc h⟩
  | block _ he ih => obtain ⟨n, h⟩ := ih; exact ⟨n, .block h he⟩
  | blockX _ ih => obtain ⟨n, h⟩ := ih; exact ⟨n, .blockX h⟩
  | loop _ _ i1 i2 =>
    obtain ⟨i, h1⟩ := i1; obtain ⟨j, h2⟩ := i2
    exact ⟨max i j, .loop (h1.mono (lim_le hS (Nat.le_max_left i j)) (fun _ _ _ h => h.mono (lim_le hS (Nat.le_max_left i j)))) (h2.mono (lim_le hS (Nat.le_max_right i j)) (fun _ _ _ h => h.mono (lim_le hS (Nat.le_max_right i j))))⟩
  | loopX _ he ih => obtain ⟨n, h⟩ := ih; exact ⟨n, .loopX h he⟩
  | exit => exact ⟨0, .exit⟩
  | ret => exact ⟨0, .ret⟩
  | plain i _ ih => obtain ⟨n, h⟩ := ih; exact ⟨n, .plain i h⟩
  | tidy k m ren hk hr _ ih => obtain ⟨n, h⟩ := ih; exact ⟨n, .tidy k m ren hk hr h⟩
end

abbrev ACn (P : Program) (TT : TypeId → Option TI) (G : Gl) (X : CRel) : Nat → CRel := ACallN P TT G (ADraw TT G) X
/-- a call, in the shadow; X: what is shown otherwise -/
def ACall (P : Program) (TT : TypeId → Option TI) (G : Gl) (X : CRel) : CRel := Lim (ACn P TT G X)
theorem ACn.up (X : CRel) : ∀ n f args st res st', ACn P TT G X n f args st res st' → ACn P TT G X (n + 1) f args st res st'
  | 0, f, args, st, res, st', h => .inl h
  | n + 1, f, args, st, res, st', h => h.imp id (fun h => h.mono (ACn.up X n))
theorem ACall.ext {X : CRel} {f : FuncId} {args : List AV} {st : St} {res : AV} {st' : St} (h : X f args st res st') : ACall P TT G X f args st res st' := ⟨0, h⟩
theorem ACall.body {X : CRel} {f : FuncId} {args : List AV} {st : St} {res : AV} {st' : St} (h : ABody P TT G (ADraw TT G) (ACall P TT G X) f args st res st') : ACall P TT G X f args st res st' := by
  obtain ⟨fn, c, e, fr', rs, h1, h2, h3, h4, h5⟩ := h
  obtain ⟨n, h4⟩ := ARun.lim (S := ACn P TT G X) (ACn.up X) h4
  exact ⟨n + 1, .inr ⟨fn, c, e, fr', rs, h1, h2, h3, h4, h5⟩⟩
theorem ACall.sound (hmix : P.follows .mixedOrders = true) (hTT : ∀ t ti, TT t = some ti → TI.of P t = some ti) {X : CRel} (hX : ∀ f args st res st', X f args st res st' → CallOk P G f args st res st')
    {f : FuncId} {args : List AV} {st : St} {res : AV} {st' : St} (h : ACall P TT G X f args st res st') : CallOk P G f args st res st' := by
  obtain ⟨n, h⟩ := h
  induction n generalizing f args st res st' with
  | zero => exact hX _ _ _ _ _ h
  | succ n ih =>
    rcases h with h | h
    · exact hX _ _ _ _ _ h
    · exact ABody.sound hTT (fun f args st res st' h => ih h) (fun B hG id ops fr fr' h hd E a w hi => ADraw.sound hmix hTT (fun f args st res st' h => ih h) B hG id ops fr fr' h hd E a w hi) h
end
end Go.Sh
namespace Go.Sh
set_option linter.unusedVariables false
set_option linter.unusedSimpArgs false
/-! running the shadow -/

/-- looks at a value's form before it goes on -/
def force1 {α : Type} (av : AV) (k : AV → Option α) : Option α := match av with
  | .int i n => k (.int i n)
  | .bool b => k (.bool b)
  | .sl o rows => k (.sl o rows)
  | .agg cs => k (.agg cs)
  | .vp v off => k (.vp v off)
  | .ep row => k (.ep row)
  | .fn f caps => k (.fn f caps)
  | .tup vs => k (.tup vs)
  | .bad => k .bad
theorem force1_eq {α : Type} (av : AV) (k : AV → Option α) : force1 av k = k av := by cases av <;> rfl
def forceL {α : Type} : List AV → (List AV → Option α) → Option α
  | [], k => k []
  | x :: xs, k => force1 x fun y => forceL xs fun ys => k (y :: ys)
theorem forceL_eq {α : Type} : ∀ (l : List AV) (k : List AV → Option α), forceL l k = k l
  | [], k => rfl
  | x :: xs, k => by simp only [forceL, force1_eq, forceL_eq xs]
def forceR {α : Type} : List (List AV) → (List (List AV) → Option α) → Option α
  | [], k => k []
  | x :: xs, k => forceL x fun y => forceR xs fun ys => k (y :: ys)
theorem forceR_eq {α : Type} : ∀ (l : List (List AV)) (k : List (List AV) → Option α), forceR l k = k l
  | [], k => rfl
  | x :: xs, k => by simp only [forceR, forceL_eq, forceR_eq xs]
def forceS {α : Type} : St → (St → Option α) → Option α
  | [], k => k []
  | some x :: xs, k => forceS xs fun ys => k (some x :: ys)
  | none :: xs, k => forceS xs fun ys => k (none :: ys)
theorem forceS_eq {α : Type} : ∀ (l : St) (k : St → Option α), forceS l k = k l
  | [], k => rfl
  | some x :: xs, k => by simp only [forceS, forceS_eq xs]
  | none :: xs, k => by simp only [forceS, forceS_eq xs]
/-- looks at a value, and at what it's made of -/
def force {α : Type} (av : AV) (k : AV → Option α) : Option α := match av with
  | .int i n => k (.int i n)
  | .bool b => k (.bool b)
  | .sl o rows => k (.sl o rows)
  | .agg cs => forceL cs fun cs => k (.agg cs)
  | .vp v off => k (.vp v off)
  | .ep row => k (.ep row)
  | .fn f caps => forceL caps fun caps => k (.fn f caps)
  | .tup vs => forceL vs fun vs => k (.tup vs)
  | .bad => k .bad
theorem force_eq {α : Type} (av : AV) (k : AV → Option α) : force av k = k av := by cases av <;> simp only [force, forceL_eq]

/-- a result is put away; where to is looked up first -/
def putd (fr : Fr) (d : Option Tmp) (av : AV) : Option Fr := match d with
  | some d => some (fr.put (some d) av)
  | none => some (fr.put none av)
theorem putd_eq (fr : Fr) (d : Option Tmp) (av : AV) : putd fr d av = some (fr.put d av) := by cases d <;> rfl
def sliceOk (ei : TI) (len : Nat) (parts : List Nat) (rows : List AV) : Bool :=
  decide (parts = List.range' 0 len) && rows.all (fun x => x.ok && Nat.beq x.cells.length ei.size) && Nat.ble (len * ei.size) 16777216 && Nat.blt 0 ei.size
variable (TT : TypeId → Option TI) (G : Gl)
/-- one operation, if it calls nothing -/
def stepNew (fr : Fr) (o : Oper) : Option (Option Fr) :=
  match o.op with
  | .alloc t => some (match TT t with
    | some ti => forceL ti.zero fun z => forceS (fr.st ++ [some z]) fun st => putd { fr with st := st } o.dst (.vp fr.st.length 0)
    | none => none)
  | .box t x => some (force (fr.ev G x) fun v => match v.ok with
    | true => forceL v.scells fun z => forceS (fr.st ++ [some z]) fun st => putd { fr with st := st } o.dst (.vp fr.st.length 0)
    | false => none)
  | .buildSlice t len parts => some (match TT t with
    | some ti => match ti.elem with
      | some e => match TT e with
        | some ei => match sliceOk ei len (parts.toList.map (·.1)) (parts.toList.map fun p => fr.ev G p.2) with
          | true => forceR (parts.toList.map fun p => (fr.ev G p.2).cells.map AV.pl) fun rows => putd { fr with nid := fr.nid + 1 } o.dst (.sl (.id fr.nid e) rows)
          | false => none
        | none => none
      | none => none
    | none => none)
  | _ => none
def step1 (fr : Fr) (o : Oper) : Option Fr :=
  match stepNew TT G fr o with
  | some r => r
  | none => match o.op with
    | .store t x v => match TT t, fr.ev G x with
      | some ti, .vp i off => match fr.st[i]? with
        | some (some cs) => force (fr.ev G v) fun av => match av.ok && Nat.beq av.cells.length ti.size && Nat.ble (off + ti.size) cs.length with
          | true => forceL (cs.take off ++ av.scells ++ cs.drop (off + ti.size)) fun z => forceS (fr.st.set i (some z)) fun st => putd { fr with st := st } o.dst .bad
          | false => none
        | _ => none
      | _, _ => none
    | op => match aPure TT fr.st (fr.ev G) op with
      | some av => force av fun av => putd fr o.dst av
      | none => none
/-- the next n operations of a list; a guard is looked up -/
def steps (ops : Array Oper) : Nat → List Nat → Fr → Option (List Nat × Fr)
  | 0, l, fr => some (l, fr)
  | _ + 1, [], fr => none
  | n + 1, i :: l, fr => match ops[i]? with
    | none => none
    | some o => match o.guard with
      | none => match step1 TT G fr o with
        | some fr1 => steps ops n l fr1
        | none => none
      | some (j, b) => match (ops[j]?).bind (·.dst) with
        | none => none
        | some d => match fr.tm d with
          | .bool b' => match b', b with
            | true, true => (match step1 TT G fr o with
              | some fr1 => steps ops n l fr1
              | none => none)
            | false, false => (match step1 TT G fr o with
              | some fr1 => steps ops n l fr1
              | none => none)
            | true, false => (match putd fr o.dst (.tup []) with
              | some fr1 => steps ops n l fr1
              | none => none)
            | false, true => (match putd fr o.dst (.tup []) with
              | some fr1 => steps ops n l fr1
              | none => none)
          | .tup [] => (match putd fr o.dst (.tup []) with
            | some fr1 => steps ops n l fr1
            | none => none)
          | _ => none

section
variable {P : Program} {TT : TypeId → Option TI} {G : Gl} {CR : CRel} {nt : Nat} {ops : Array Oper} {fr fr1 fr' : Fr} {o : Oper}
theorem sliceOk_spec {ei : TI} {len : Nat} {parts : Array (Nat × Operand)} (h : sliceOk ei len (parts.toList.map (·.1)) (parts.toList.map fun p => fr.ev G p.2) = true) :
    parts.toList.map (·.1) = List.range' 0 len ∧ (∀ p ∈ parts.toList, (fr.ev G p.2).ok = true ∧ (fr.ev G p.2).cells.length = ei.size) ∧ len * ei.size ≤ 16777216 ∧ 0 < ei.size := by
  simp only [sliceOk, Bool.and_eq_true, decide_eq_true_eq] at h
  obtain ⟨⟨⟨h1, h2⟩, h3⟩, h4⟩ := h
  refine ⟨h1, fun p hp => ?_, Nat.le_of_ble_eq_true h3, Nat.le_of_ble_eq_true h4⟩
  have := List.all_eq_true.1 h2 _ (List.mem_map_of_mem hp)
  rw [Bool.and_eq_true] at this
  exact ⟨this.1, Nat.eq_of_beq_eq_true this.2⟩
theorem stepNew_sound {r : Option Fr} (h : stepNew TT G fr o = some r) (hr : r = some fr1) : AOp TT G CR fr o fr1 := by
  subst hr
  unfold stepNew at h
  split at h
  · rename_i t ho
    injection h with h
    split at h
    · rename_i ti ht; rw [forceL_eq, forceS_eq, putd_eq] at h; injection h with h; subst h; exact .alloc ho ht
    · cases h
  · rename_i t x ho
    injection h with h
    rw [force_eq] at h
    split at h
    · rename_i hok; rw [forceL_eq, forceS_eq, putd_eq] at h; injection h with h; subst h; exact .box ho hok
    · cases h
  · rename_i t len parts ho
    injection h with h
    split at h
    · rename_i ti ht
      split at h
      · rename_i e hel
        split at h
        · rename_i ei he
          split at h
          · rename_i hok
            rw [forceR_eq, putd_eq] at h
            injection h with h; subst h
            obtain ⟨h1, h2, h3, h4⟩ := sliceOk_spec hok
            exact .slice ho ht hel he h1 h2 h3 h4
          · cases h
        · cases h
      · cases h
    · cases h
  · cases h
theorem stepNew_soundD {M : St} {FV : List Nat} {r : Option Fr} (h : stepNew TT G fr o = some r) (hr : r = some fr1) : D1 TT G CR M FV fr o fr1 := by
  subst hr
  unfold stepNew at h
  split at h
  · rename_i t ho
    injection h with h
    split at h
    · rename_i ti ht; rw [forceL_eq, forceS_eq, putd_eq] at h; injection h with h; subst h; exact .alloc ho ht
    · cases h
  · rename_i t x ho
    injection h with h
    rw [force_eq] at h
    split at h
    · rename_i hok; rw [forceL_eq, forceS_eq, putd_eq] at h; injection h with h; subst h; exact .box ho hok
    · cases h
  · rename_i t len parts ho
    injection h with h
    split at h
    · rename_i ti ht
      split at h
      · rename_i e hel
        split at h
        · rename_i ei he
          split at h
          · rename_i hok
            rw [forceR_eq, putd_eq] at h
            injection h with h; subst h
            obtain ⟨h1, h2, h3, h4⟩ := sliceOk_spec hok
            exact .slice ho ht hel he h1 h2 h3 h4
          · cases h
        · cases h
      · cases h
    · cases h
  · cases h
theorem step1_sound (h : step1 TT G fr o = some fr1) : AOp TT G CR fr o fr1 := by
  unfold step1 at h
  split at h
  · rename_i r hr; exact stepNew_sound hr h
  · split at h
    · rename_i t x v ho
      split at h
      · rename_i ti i off ht hx
        split at h
        · rename_i cs hcs
          rw [force_eq] at h
          split at h
          · rename_i hb
            rw [forceL_eq, forceS_eq, putd_eq] at h
            injection h with h; subst h
            rw [Bool.and_eq_true, Bool.and_eq_true] at hb
            exact .store ho ht hx hcs hb.1.1 (Nat.eq_of_beq_eq_true hb.1.2) (Nat.le_of_ble_eq_true hb.2)
          · cases h
        · cases h
      · cases h
    · split at h
      · rename_i av hp
        rw [force_eq, putd_eq] at h
        injection h with h; subst h
        exact .pure hp
      · cases h
theorem steps_sound : ∀ (n : Nat) {l l' : List Nat} {fr fr1 : Fr}, steps TT G ops n l fr = some (l', fr1) → AOps TT G CR ops l' fr1 fr' → AOps TT G CR ops l fr fr'
  | 0, l, l', fr, fr1, h, hr => by simp only [steps, Option.some.injEq, Prod.mk.injEq] at h; obtain ⟨rfl, rfl⟩ := h; exact hr
  | n + 1, [], l', fr, fr1, h, hr => by simp [steps] at h
  | n + 1, i :: l, l', fr, fr1, h, hr => by
    simp only [steps] at h
    split at h
    · cases h
    · rename_i o ho
      split at h
      · rename_i hg
        split at h
        · rename_i fr2 h2; exact .op ho hg (step1_sound h2) (steps_sound n h hr)
        · cases h
      · rename_i j b hg
        split at h
        · cases h
        · rename_i d hd
          split at h
          · rename_i b' hb
            split at h
            · split at h
              · rename_i fr2 h2; exact .gop ho hg hd hb (step1_sound h2) (steps_sound n h hr)
              · cases h
            · split at h
              · rename_i fr2 h2; exact .gop ho hg hd hb (step1_sound h2) (steps_sound n h hr)
              · cases h
            · rw [putd_eq] at h; exact .skip ho hg hd hb (by decide) (steps_sound n h hr)
            · rw [putd_eq] at h; exact .skip ho hg hd hb (by decide) (steps_sound n h hr)
          · rename_i hb; rw [putd_eq] at h; exact .skip ho hg hd hb rfl (steps_sound n h hr)
          · cases h
end
end Go.Sh
namespace Go.Sh
set_option linter.unusedVariables false
set_option linter.unusedSimpArgs false

section
variable (TT : TypeId → Option TI) (G : Gl)
def step1D (M : St) (fr : Fr) (o : Oper) : Option Fr :=
  match stepNew TT G fr o with
  | some r => r
  | none => match o.op with
    | .store t (.tmp a) v => match TT t, fr.tm a with
      | some ti, .vp i off => match fr.st[i]? with
        | some (some cs) => force (fr.ev G v) fun av => match av.ok && Nat.beq av.cells.length ti.size && Nat.ble (off + ti.size) cs.length && Nat.ble M.length i with
          | true => forceL (cs.take off ++ av.scells ++ cs.drop (off + ti.size)) fun z => forceS (fr.st.set i (some z)) fun st => putd { fr with st := st } o.dst .bad
          | false => none
        | _ => none
      | _, _ => none
    | op => match aPure TT M (fr.ev G) op with
      | some av => force av fun av => putd fr o.dst av
      | none => none
def stepsD (M : St) (ops : Array Oper) : Nat → List Nat → Fr → Option (List Nat × Fr)
  | 0, l, fr => some (l, fr)
  | _ + 1, [], fr => none
  | n + 1, i :: l, fr => match ops[i]? with
    | none => none
    | some o => match o.guard with
      | none => match step1D TT G M fr o with
        | some fr1 => stepsD M ops n l fr1
        | none => none
      | some (j, b) => match (ops[j]?).bind (·.dst) with
        | none => none
        | some d => match fr.tm d with
          | .bool b' => match b', b with
            | true, true => (match step1D TT G M fr o with
              | some fr1 => stepsD M ops n l fr1
              | none => none)
            | false, false => (match step1D TT G M fr o with
              | some fr1 => stepsD M ops n l fr1
              | none => none)
            | true, false => (match putd fr o.dst .bad with
              | some fr1 => stepsD M ops n l fr1
              | none => none)
            | false, true => (match putd fr o.dst .bad with
              | some fr1 => stepsD M ops n l fr1
              | none => none)
          | _ => none
end

section
variable {P : Program} {TT : TypeId → Option TI} {G : Gl} {CR : CRel} {nt k0 : Nat} {ops : Array Oper} {fr fr1 fr' : Fr} {o : Oper} {M : St} {FV : List Nat}
theorem step1D_sound (h : step1D TT G M fr o = some fr1) : D1 TT G CR M FV fr o fr1 := by
  unfold step1D at h
  split at h
  · rename_i r hr; exact stepNew_soundD hr h
  · split at h
    · rename_i t a v ho
      split at h
      · rename_i ti i off ht hx
        split at h
        · rename_i cs hcs
          rw [force_eq] at h
          split at h
          · rename_i hb
            rw [forceL_eq, forceS_eq, putd_eq] at h
            injection h with h; subst h
            rw [Bool.and_eq_true, Bool.and_eq_true, Bool.and_eq_true] at hb
            exact .store ho ht hx hcs (Nat.le_of_ble_eq_true hb.2) hb.1.1.1 (Nat.eq_of_beq_eq_true hb.1.1.2) (Nat.le_of_ble_eq_true hb.1.2)
          · cases h
        · cases h
      · cases h
    · split at h
      · rename_i av hp
        rw [force_eq, putd_eq] at h
        injection h with h; subst h
        exact .pure hp
      · cases h
theorem stepsD_sound : ∀ (n : Nat) {l l' : List Nat} {fr fr1 : Fr}, stepsD TT G M ops n l fr = some (l', fr1) → AD TT G CR M FV ops l' fr1 fr' → AD TT G CR M FV ops l fr fr'
  | 0, l, l', fr, fr1, h, hr => by simp only [stepsD, Option.some.injEq, Prod.mk.injEq] at h; obtain ⟨rfl, rfl⟩ := h; exact hr
  | n + 1, [], l', fr, fr1, h, hr => by simp [stepsD] at h
  | n + 1, i :: l, l', fr, fr1, h, hr => by
    simp only [stepsD] at h
    split at h
    · cases h
    · rename_i o ho
      split at h
      · rename_i hg
        split at h
        · rename_i fr2 h2; exact .cons (.op ho hg (step1D_sound h2)) (stepsD_sound n h hr)
        · cases h
      · rename_i j b hg
        split at h
        · cases h
        · rename_i d hd
          split at h
          · rename_i b' hb
            split at h
            · split at h
              · rename_i fr2 h2; exact .cons (.gop ho hg hd hb (step1D_sound h2)) (stepsD_sound n h hr)
              · cases h
            · split at h
              · rename_i fr2 h2; exact .cons (.gop ho hg hd hb (step1D_sound h2)) (stepsD_sound n h hr)
              · cases h
            · rw [putd_eq] at h; exact .cons (.skip ho hg hd hb (by decide)) (stepsD_sound n h hr)
            · rw [putd_eq] at h; exact .cons (.skip ho hg hd hb (by decide)) (stepsD_sound n h hr)
          · cases h

/-! what is shown of code, from a frame on -/
variable (TT G CR) in
def W (nt k0 : Nat) (c : Code) (Q : AX → Fr → Prop) (fr : Fr) : Prop := ∃ e fr', ARun TT G CR nt k0 (ADraw TT G CR nt) c fr e fr' ∧ Q e fr'
variable (TT G CR) in
def WO (ops : Array Oper) (l : List Nat) (Q : Fr → Prop) (fr : Fr) : Prop := ∃ fr', AOps TT G CR ops l fr fr' ∧ Q fr'
variable (TT G CR) in
def WD (M : St) (FV : List Nat) (ops : Array Oper) (l : List Nat) (Q : Fr → Prop) (fr : Fr) : Prop := ∃ fr', AD TT G CR M FV ops l fr fr' ∧ Q fr'

variable {Q : AX → Fr → Prop} {R : Fr → Prop} {x y c : Code} {l l' : List Nat}
theorem W.skip (h : Q .normal fr) : W TT G CR nt k0 .skip Q fr := ⟨_, _, .skip, h⟩
theorem W.ret (h : Q .ret fr) : W TT G CR nt k0 .ret Q fr := ⟨_, _, .ret, h⟩
theorem W.exit {id : Nat} (h : Q (.exit id) fr) : W TT G CR nt k0 (.exit id) Q fr := ⟨_, _, .exit, h⟩
/-- what comes next, if what came ended as it should -/
def nextW (Q1 : Fr → Prop) (Q : AX → Fr → Prop) : AX → Fr → Prop
  | .normal, fr => Q1 fr
  | e, fr => Q e fr
theorem W.seq (h : W TT G CR nt k0 x (nextW (W TT G CR nt k0 y Q) Q) fr) : W TT G CR nt k0 (.seq x y) Q fr := by
  obtain ⟨e, fr1, h1, h2⟩ := h
  cases e with
  | normal => obtain ⟨e2, fr2, h3, h4⟩ := h2; exact ⟨e2, fr2, .seq h1 h3, h4⟩
  | exit id => exact ⟨_, _, .seqX h1 (by simp), h2⟩
  | ret => exact ⟨_, _, .seqX h1 (by simp), h2⟩
theorem W.cond {o : Operand} {b : Bool} (hb : fr.ev G o = .bool b) (h1 : b = true → W TT G CR nt k0 x Q fr) (h2 : b = false → W TT G CR nt k0 y Q fr) : W TT G CR nt k0 (.cond o x y) Q fr := by
  cases b with
  | true => obtain ⟨e, fr', h3, h4⟩ := h1 rfl; exact ⟨e, fr', .condT hb h3, h4⟩
  | false => obtain ⟨e, fr', h3, h4⟩ := h2 rfl; exact ⟨e, fr', .condF hb h3, h4⟩
def blockW (id : Nat) (Q : AX → Fr → Prop) : AX → Fr → Prop
  | .exit i, fr => if i = id then Q .normal fr else Q (.exit i) fr
  | e, fr => Q e fr
theorem W.block {id : Nat} (h : W TT G CR nt k0 c (blockW id Q) fr) : W TT G CR nt k0 (.block id c) Q fr := by
  obtain ⟨e, fr', h1, h2⟩ := h
  cases e with
  | normal => exact ⟨_, _, .block h1 (by simp), h2⟩
  | ret => exact ⟨_, _, .block h1 (by simp), h2⟩
  | exit i =>
    simp only [blockW] at h2
    split at h2
    · rename_i e; subst e; exact ⟨_, _, .blockX h1, h2⟩
    · rename_i e; exact ⟨_, _, .block h1 (by simpa using e), h2⟩
theorem W.loop (h : W TT G CR nt k0 c (nextW (W TT G CR nt k0 (.loop c) Q) Q) fr) : W TT G CR nt k0 (.loop c) Q fr := by
  obtain ⟨e, fr1, h1, h2⟩ := h
  cases e with
  | normal => obtain ⟨e2, fr2, h3, h4⟩ := h2; exact ⟨e2, fr2, .loop h1 h3, h4⟩
  | exit id => exact ⟨_, _, .loopX h1 (by simp), h2⟩
  | ret => exact ⟨_, _, .loopX h1 (by simp), h2⟩
theorem W.tidy (k m : Nat) (ren : List (Nat × Nat)) (hk : Nat.ble k0 k = true) (hr : tidyOk ren m = true) (h : W TT G CR nt k0 c Q (fr.tidy k ren m)) : W TT G CR nt k0 c Q fr := by
  obtain ⟨e, fr', h1, h2⟩ := h; exact ⟨e, fr', .tidy k m ren hk hr h1, h2⟩
theorem W.plain (i : Nat) (h : W TT G CR nt k0 c Q (fr.plain i)) : W TT G CR nt k0 c Q fr := by
  obtain ⟨e, fr', h1, h2⟩ := h; exact ⟨e, fr', .plain i h1, h2⟩
theorem W.mono {Q' : AX → Fr → Prop} (h : W TT G CR nt k0 c Q fr) (hq : ∀ e fr', Q e fr' → Q' e fr') : W TT G CR nt k0 c Q' fr := by
  obtain ⟨e, fr', h1, h2⟩ := h; exact ⟨e, fr', h1, hq _ _ h2⟩
theorem W.region {id : Nat} (hd : dstOk nt ops = true) (h : WO TT G CR ops (List.range ops.size) (Q .normal) fr) : W TT G CR nt k0 (.region id ops false) Q fr := by
  obtain ⟨fr', h1, h2⟩ := h; exact ⟨_, _, .region hd h1, h2⟩
theorem W.draw {id : Nat} (m : Nat) (FV : List Nat) (hd : dstOk nt ops = true) (hok : (drawOk ops m && tailOk ops m) = true) (hf : FV.all (fun v => Nat.blt v fr.st.length) = true)
    (h : WD TT G CR (maskAt FV 0 fr.st) FV ops (List.range' 0 m) (WO TT G CR ops (List.range' m (ops.size - m)) (Q .normal)) fr) : W TT G CR nt k0 (.region id ops true) Q fr := by
  obtain ⟨fm, h1, fr', h2, h3⟩ := h
  rw [Bool.and_eq_true] at hok
  refine ⟨_, _, .draw hd ⟨m, FV, fm, hok.1, fun v hv => ?_, h1, .inl ⟨hok.2, h2⟩⟩, h3⟩
  have := List.all_eq_true.1 hf v hv
  exact Nat.lt_of_lt_of_le (Nat.lt_succ_self v) (Nat.le_of_ble_eq_true this)
def AllL : List Nat → (Nat → Prop) → Prop
  | [], _ => True
  | i :: l, p => p i ∧ AllL l p
theorem AllL_mem {p : Nat → Prop} : ∀ {l : List Nat}, AllL l p → ∀ i ∈ l, p i
  | [], _, i, h => by cases h
  | x :: l, h, i, hi => by
    rcases List.mem_cons.1 hi with rfl | hi
    · exact h.1
    · exact AllL_mem h.2 i hi
/-- all frames that a region may end in, whatever comes up first -/
def finalsL (TT : TypeId → Option TI) (G : Gl) (ops : Array Oper) (K : Fr → Prop) : Nat → List Nat → Fr → Prop
  | 0, done, fr => rdy ops done = [] ∧ K fr
  | n + 1, done, fr => match rdy ops done with
    | [] => K fr
    | i :: l => AllL (i :: l) fun j => match steps TT G ops 1 [j] fr with
      | some ([], fr1) => finalsL TT G ops K n (j :: done) fr1
      | _ => False
theorem finalsL_any {fr2 : Fr} : ∀ (n : Nat) (done : List Nat) (fr : Fr), finalsL TT G ops (· = fr2) n done fr → AAny TT G CR ops fr2 n done fr
  | 0, _, _, h => h
  | n + 1, done, fr, h => by
    unfold finalsL at h
    split at h
    · rename_i hr
      exact ⟨fun _ => h, fun i hi => by rw [hr] at hi; cases hi⟩
    · rename_i i l hr
      refine ⟨fun he => (by rw [he] at hr; cases hr), fun j hj => ?_⟩
      rw [hr] at hj
      have hj2 := AllL_mem h j hj
      split at hj2
      · rename_i fr1 hst
        exact ⟨fr1, steps_sound 1 hst .nil, finalsL_any n (j :: done) _ hj2⟩
      · cases hj2
/-- first some operations in whatever order, then the others, told one by one, in whatever order -/
theorem W.drawAny {id : Nat} (m : Nat) (FV : List Nat) (hd : dstOk nt ops = true) (hok : drawOk ops m = true) (hf : FV.all (fun v => Nat.blt v fr.st.length) = true)
    (h : WD TT G CR (maskAt FV 0 fr.st) FV ops (List.range' 0 m) (fun fm => ∃ fr2, finalsL TT G ops (· = fr2) (ops.size - m) (List.range m) fm ∧ Q .normal fr2) fr) : W TT G CR nt k0 (.region id ops true) Q fr := by
  obtain ⟨fm, h1, fr', h2, h3⟩ := h
  refine ⟨_, _, .draw hd ⟨m, FV, fm, hok, fun v hv => ?_, h1, .inr (finalsL_any _ _ _ h2)⟩, h3⟩
  have := List.all_eq_true.1 hf v hv
  exact Nat.lt_of_lt_of_le (Nat.lt_succ_self v) (Nat.le_of_ble_eq_true this)
theorem W.any2 {id : Nat} (fr2 : Fr) (hd : dstOk nt ops = true) (hok : drawOk ops 0 = true) (h : finalsL TT G ops (· = fr2) ops.size [] fr) (h2 : Q .normal fr2) : W TT G CR nt k0 (.region id ops true) Q fr :=
  W.drawAny 0 [] hd hok rfl ⟨_, .nil, fr2, h, h2⟩
theorem WO.nil (h : R fr) : WO TT G CR ops [] R fr := ⟨_, .nil, h⟩
theorem WO.steps (n : Nat) (h : steps TT G ops n l fr = some (l', fr1)) (h2 : WO TT G CR ops l' R fr1) : WO TT G CR ops l R fr := by
  obtain ⟨fr', h3, h4⟩ := h2; exact ⟨fr', steps_sound n h h3, h4⟩
theorem WD.nil (h : R fr) : WD TT G CR M FV ops [] R fr := ⟨_, .nil, h⟩
theorem WD.steps (n : Nat) (h : stepsD TT G M ops n l fr = some (l', fr1)) (h2 : WD TT G CR M FV ops l' R fr1) : WD TT G CR M FV ops l R fr := by
  obtain ⟨fr', h3, h4⟩ := h2; exact ⟨fr', stepsD_sound n h h3, h4⟩
/-- an operation's guard says that it is wanted -/
def gOk (ops : Array Oper) (fr : Fr) (o : Oper) : Bool := match o.guard with
  | none => true
  | some (j, b) => match (ops[j]?).bind (·.dst) with
    | some d => (match fr.tm d with
      | .bool b' => (match b', b with
        | true, true => true
        | false, false => true
        | _, _ => false)
      | _ => false)
    | none => false
theorem gOk_spec (h : gOk ops fr o = true) : o.guard = none ∨ ∃ j d b, o.guard = some (j, b) ∧ (ops[j]?).bind (·.dst) = some d ∧ fr.tm d = .bool b := by
  unfold gOk at h
  split at h
  · rename_i hg; exact .inl hg
  · rename_i j b hg
    right
    split at h
    · rename_i d hd
      split at h
      · rename_i b' hb
        split at h
        · exact ⟨j, d, true, hg, hd, hb⟩
        · exact ⟨j, d, false, hg, hd, hb⟩
        · cases h
      · cases h
    · cases h
theorem WO.op {i : Nat} (ho : ops[i]? = some o) (hg : gOk ops fr o = true) (h : AOp TT G CR fr o fr1) (h2 : WO TT G CR ops l R fr1) : WO TT G CR ops (i :: l) R fr := by
  obtain ⟨fr', h3, h4⟩ := h2
  rcases gOk_spec hg with h5 | ⟨j, d, b, h5, h6, h7⟩
  · exact ⟨fr', .op ho h5 h h3, h4⟩
  · exact ⟨fr', .gop ho h5 h6 h7 h h3, h4⟩
theorem WD.op {i : Nat} (ho : ops[i]? = some o) (hg : gOk ops fr o = true) (h : D1 TT G CR M FV fr o fr1) (h2 : WD TT G CR M FV ops l R fr1) : WD TT G CR M FV ops (i :: l) R fr := by
  obtain ⟨fr', h3, h4⟩ := h2
  rcases gOk_spec hg with h5 | ⟨j, d, b, h5, h6, h7⟩
  · exact ⟨fr', .cons (.op ho h5 h) h3, h4⟩
  · exact ⟨fr', .cons (.gop ho h5 h6 h7 h) h3, h4⟩
theorem WO.pure {i d : Nat} (av : AV) (ho : ops[i]? = some o) (hg : gOk ops fr o = true) (hd : o.dst = some d) (h : aPure TT fr.st (fr.ev G) o.op = some av) (h2 : WO TT G CR ops l R (fr.put (some d) av)) : WO TT G CR ops (i :: l) R fr :=
  .op ho hg (.pure h) (by rw [hd]; exact h2)
theorem WD.pure {i d : Nat} (av : AV) (ho : ops[i]? = some o) (hg : gOk ops fr o = true) (hd : o.dst = some d) (h : aPure TT M (fr.ev G) o.op = some av) (h2 : WD TT G CR M FV ops l R (fr.put (some d) av)) : WD TT G CR M FV ops (i :: l) R fr :=
  .op ho hg (.pure h) (by rw [hd]; exact h2)
/-- a call that is handed no variable -/
theorem WO.call {i d : Nat} {cl : Call} {fv : Operand} {f : FuncId} {args : List AV} {res : AV} {st' : St} (ho : ops[i]? = some o) (hg : gOk ops fr o = true) (hd : o.dst = some d) (hop : o.op = .call cl) (hc : cl.callee = .value fv) (hf : fr.ev G fv = .fn f [])
    (hargs : (cl.args.toList.all fun x => (fr.ev G x).pf) = true) (ha : (cl.args.toList.map fun x => (fr.ev G x).pl) = args) (hcall : CR f args [] res st') (hres : res.pf = true) (h2 : WO TT G CR ops l R (fr.put (some d) res.st)) : WO TT G CR ops (i :: l) R fr :=
  .op ho hg (.call hop hc hf (List.all_eq_true.1 hargs) ha.symm hcall (.inl hres)) (by rw [hd]; exact h2)
theorem WO.callT {i d : Nat} {cl : Call} {fv : Operand} {f : FuncId} {args : List AV} {vs : List AV} {st' : St} (ho : ops[i]? = some o) (hg : gOk ops fr o = true) (hd : o.dst = some d) (hop : o.op = .call cl) (hc : cl.callee = .value fv) (hf : fr.ev G fv = .fn f [])
    (hargs : (cl.args.toList.all fun x => (fr.ev G x).pf) = true) (ha : (cl.args.toList.map fun x => (fr.ev G x).pl) = args) (hcall : CR f args [] (.tup vs) st') (hres : vs.all AV.pf = true) (h2 : WO TT G CR ops l R (fr.put (some d) (.tup vs))) : WO TT G CR ops (i :: l) R fr :=
  .op ho hg (.call hop hc hf (List.all_eq_true.1 hargs) ha.symm hcall (.inr ⟨vs, rfl, List.all_eq_true.1 hres⟩)) (by rw [hd]; exact h2)
theorem WD.call {i d : Nat} {cl : Call} {fv : Operand} {f : FuncId} {args : List AV} {res : AV} {st' : St} (ho : ops[i]? = some o) (hg : gOk ops fr o = true) (hd : o.dst = some d) (hop : o.op = .call cl) (hc : cl.callee = .value fv) (hf : fr.ev G fv = .fn f [])
    (hargs : (cl.args.toList.all fun x => (fr.ev G x).pf) = true) (ha : (cl.args.toList.map fun x => (fr.ev G x).pl) = args) (hcall : CR f args [] res st') (hres : res.pf = true) (h2 : WD TT G CR M FV ops l R (fr.put (some d) res.st)) : WD TT G CR M FV ops (i :: l) R fr :=
  .op ho hg (.call hop hc hf (List.all_eq_true.1 hargs) ha.symm hcall (.inl hres)) (by rw [hd]; exact h2)
theorem WD.callT {i d : Nat} {cl : Call} {fv : Operand} {f : FuncId} {args : List AV} {vs : List AV} {st' : St} (ho : ops[i]? = some o) (hg : gOk ops fr o = true) (hd : o.dst = some d) (hop : o.op = .call cl) (hc : cl.callee = .value fv) (hf : fr.ev G fv = .fn f [])
    (hargs : (cl.args.toList.all fun x => (fr.ev G x).pf) = true) (ha : (cl.args.toList.map fun x => (fr.ev G x).pl) = args) (hcall : CR f args [] (.tup vs) st') (hres : vs.all AV.pf = true) (h2 : WD TT G CR M FV ops l R (fr.put (some d) (.tup vs))) : WD TT G CR M FV ops (i :: l) R fr :=
  .op ho hg (.call hop hc hf (List.all_eq_true.1 hargs) ha.symm hcall (.inr ⟨vs, rfl, List.all_eq_true.1 hres⟩)) (by rw [hd]; exact h2)
/-- a function's body -/
theorem bodyW {P : Program} {f : FuncId} {fn : Func} {c : Code} {args : List AV} {st st' : St} {res : AV} (hfn : P.funcs[f]? = some fn) (hb : fn.body = some c) (hn : (fn.name == "runtime.NumGoroutine") = false) (hl : Nat.ble args.length fn.ntmps = true)
    (h : W TT G CR fn.ntmps st.length c (fun e fr' => (e = .normal ∨ e = .ret) ∧ ∃ rs, fn.results.toList.map (aRes TT fr') = rs.map some ∧ res = resOf rs ∧ st' = fr'.st) (start args st)) : ABody P TT G (ADraw TT G) CR f args st res st' := by
  obtain ⟨e, fr', h1, h2, rs, h3, h4, h5⟩ := h
  exact ⟨fn, c, e, fr', rs, hfn, hb, hn, h1, h2, Nat.le_of_ble_eq_true hl, h3, h4, h5⟩

variable (CR) in
/-- a function's result, where it's handed no variable -/
def Gives (f : FuncId) (args : List AV) (res : AV) : Prop := ∃ st', CR f args [] res st'
/-- how a body ends that returns rs -/
structure EndW (TT : TypeId → Option TI) (fn : Func) (R : List AV → St → Prop) (e : AX) (fr' : Fr) : Prop where
  how : e = .normal ∨ e = .ret
  out : ∃ rs, fn.results.toList.map (aRes TT fr') = rs.map some ∧ R rs fr'.st
theorem EndW.ret {fn : Func} {R : List AV → St → Prop} (rs : List AV) (h : fn.results.toList.map (aRes TT fr') = rs.map some) (hr : R rs fr'.st) : EndW TT fn R .ret fr' := ⟨.inr rfl, rs, h, hr⟩
theorem EndW.normal {fn : Func} {R : List AV → St → Prop} (rs : List AV) (h : fn.results.toList.map (aRes TT fr') = rs.map some) (hr : R rs fr'.st) : EndW TT fn R .normal fr' := ⟨.inl rfl, rs, h, hr⟩
theorem callW {P : Program} {X : CRel} {f : FuncId} {fn : Func} {c : Code} {args : List AV} {st : St} {R : List AV → St → Prop} (hfn : P.funcs[f]? = some fn) (hb : fn.body = some c) (hn : (fn.name == "runtime.NumGoroutine") = false) (hl : Nat.ble args.length fn.ntmps = true)
    (h : W TT G (ACall P TT G X) fn.ntmps st.length c (EndW TT fn R) (start args st)) : ∃ rs st', ACall P TT G X f args st (resOf rs) st' ∧ R rs st' := by
  obtain ⟨e, fr', h1, ⟨h2, rs, h3, h4⟩⟩ := h
  exact ⟨rs, fr'.st, .body ⟨fn, c, e, fr', rs, hfn, hb, hn, h1, h2, Nat.le_of_ble_eq_true hl, h3, rfl, rfl⟩, h4⟩
theorem givesW {P : Program} {X : CRel} {f : FuncId} {fn : Func} {c : Code} {args : List AV} {res : AV} (hfn : P.funcs[f]? = some fn) (hb : fn.body = some c) (hn : (fn.name == "runtime.NumGoroutine") = false) (hl : Nat.ble args.length fn.ntmps = true)
    (h : W TT G (ACall P TT G X) fn.ntmps 0 c (EndW TT fn (fun rs _ => resOf rs = res)) (start args [])) : Gives (ACall P TT G X) f args res := by
  obtain ⟨rs, st', h1, rfl⟩ := callW (st := []) hfn hb hn hl h
  exact ⟨st', h1⟩
theorem WO.gives {i d : Nat} {cl : Call} {fv : Operand} {f : FuncId} {args : List AV} {res : AV} (hcall : Gives CR f args res) (ho : ops[i]? = some o) (hg : gOk ops fr o = true) (hd : o.dst = some d) (hop : o.op = .call cl) (hc : cl.callee = .value fv) (hf : fr.ev G fv = .fn f [])
    (hargs : (cl.args.toList.all fun x => (fr.ev G x).pf) = true) (ha : (cl.args.toList.map fun x => (fr.ev G x).pl) = args) (hres : res.pf = true) (h2 : WO TT G CR ops l R (fr.put (some d) res.st)) : WO TT G CR ops (i :: l) R fr :=
  let ⟨_, h⟩ := hcall; .call ho hg hd hop hc hf hargs ha h hres h2
theorem WO.givesT {i d : Nat} {cl : Call} {fv : Operand} {f : FuncId} {args : List AV} {vs : List AV} (hcall : Gives CR f args (.tup vs)) (ho : ops[i]? = some o) (hg : gOk ops fr o = true) (hd : o.dst = some d) (hop : o.op = .call cl) (hc : cl.callee = .value fv) (hf : fr.ev G fv = .fn f [])
    (hargs : (cl.args.toList.all fun x => (fr.ev G x).pf) = true) (ha : (cl.args.toList.map fun x => (fr.ev G x).pl) = args) (hres : vs.all AV.pf = true) (h2 : WO TT G CR ops l R (fr.put (some d) (.tup vs))) : WO TT G CR ops (i :: l) R fr :=
  let ⟨_, h⟩ := hcall; .callT ho hg hd hop hc hf hargs ha h hres h2
theorem WD.gives {i d : Nat} {cl : Call} {fv : Operand} {f : FuncId} {args : List AV} {res : AV} (hcall : Gives CR f args res) (ho : ops[i]? = some o) (hg : gOk ops fr o = true) (hd : o.dst = some d) (hop : o.op = .call cl) (hc : cl.callee = .value fv) (hf : fr.ev G fv = .fn f [])
    (hargs : (cl.args.toList.all fun x => (fr.ev G x).pf) = true) (ha : (cl.args.toList.map fun x => (fr.ev G x).pl) = args) (hres : res.pf = true) (h2 : WD TT G CR M FV ops l R (fr.put (some d) res.st)) : WD TT G CR M FV ops (i :: l) R fr :=
  let ⟨_, h⟩ := hcall; .call ho hg hd hop hc hf hargs ha h hres h2
theorem WD.givesT {i d : Nat} {cl : Call} {fv : Operand} {f : FuncId} {args : List AV} {vs : List AV} (hcall : Gives CR f args (.tup vs)) (ho : ops[i]? = some o) (hg : gOk ops fr o = true) (hd : o.dst = some d) (hop : o.op = .call cl) (hc : cl.callee = .value fv) (hf : fr.ev G fv = .fn f [])
    (hargs : (cl.args.toList.all fun x => (fr.ev G x).pf) = true) (ha : (cl.args.toList.map fun x => (fr.ev G x).pl) = args) (hres : vs.all AV.pf = true) (h2 : WD TT G CR M FV ops l R (fr.put (some d) (.tup vs))) : WD TT G CR M FV ops (i :: l) R fr :=
  let ⟨_, h⟩ := hcall; .callT ho hg hd hop hc hf hargs ha h hres h2
/-- an element of a slice -/
theorem index_pure {st : St} {ev : Operand → AV} {t e : TypeId} {x i : Operand} {ti ei : TI} {k : IntKind} {n : Int} {o : Own} {rows : List (List AV)} {row : List AV} (ht : TT t = some ti) (hel : ti.elem = some e) (he : TT e = some ei) (hi : ev i = .int k n) (hx : ev x = .sl o rows)
    (h0 : 0 ≤ n) (hr : rows[n.toNat]? = some row) (hL : row.length = ei.size) : aPure TT st ev (.indexAddr t x i) = some (.ep row) := by
  simp only [aPure, ht, hi, hel, hx, he, if_pos h0, hr, if_pos hL]
theorem WO.index {i d : Nat} {t e : TypeId} {x y : Operand} {ti ei : TI} {k : IntKind} {n : Int} {ow : Own} {rows : List (List AV)} {row : List AV} (h0 : 0 ≤ n) (hr : rows[n.toNat]? = some row) (ho : ops[i]? = some o) (hg : gOk ops fr o = true) (hd : o.dst = some d) (hop : o.op = .indexAddr t x y)
    (ht : TT t = some ti) (hel : ti.elem = some e) (he : TT e = some ei) (hi : fr.ev G y = .int k n) (hx : fr.ev G x = .sl ow rows) (hL : row.length = ei.size) (h2 : WO TT G CR ops l R (fr.put (some d) (.ep row))) : WO TT G CR ops (i :: l) R fr :=
  .pure _ ho hg hd (by rw [hop]; exact index_pure ht hel he hi hx h0 hr hL) h2
theorem WD.index {i d : Nat} {t e : TypeId} {x y : Operand} {ti ei : TI} {k : IntKind} {n : Int} {ow : Own} {rows : List (List AV)} {row : List AV} (h0 : 0 ≤ n) (hr : rows[n.toNat]? = some row) (ho : ops[i]? = some o) (hg : gOk ops fr o = true) (hd : o.dst = some d) (hop : o.op = .indexAddr t x y)
    (ht : TT t = some ti) (hel : ti.elem = some e) (he : TT e = some ei) (hi : fr.ev G y = .int k n) (hx : fr.ev G x = .sl ow rows) (hL : row.length = ei.size) (h2 : WD TT G CR M FV ops l R (fr.put (some d) (.ep row))) : WD TT G CR M FV ops (i :: l) R fr :=
  .pure _ ho hg hd (by rw [hop]; exact index_pure ht hel he hi hx h0 hr hL) h2
/-! append -/
abbrev Lens (n : Nat) (rows : List (List AV)) : Prop := ∀ r ∈ rows, r.length = n
theorem WO.append0 {i d : Nat} {s x : Operand} {t e : TypeId} {ti ei : TI} {os ox : Own} {rows : List (List AV)} (ho : ops[i]? = some o) (hg : gOk ops fr o = true) (hd : o.dst = some d) (hop : o.op = .call { callee := .builtin .append, args := #[s, x], argTypes := #[t, t] }) (ht : TT t = some ti) (hel : ti.elem = some e) (he : TT e = some ei)
    (hs : fr.ev G s = .sl os rows) (hx : fr.ev G x = .sl ox []) (h2 : WO TT G CR ops l R (fr.put (some d) (.sl os rows))) : WO TT G CR ops (i :: l) R fr :=
  .op ho hg (.append0 hop ht hel he hs hx) (by rw [hd]; exact h2)
theorem WO.appendF {i d : Nat} {s x : Operand} {t e : TypeId} {ti ei : TI} {ox : Own} {rows rows2 : List (List AV)} (hne : rows2 ≠ []) (hL : Lens ei.size rows) (hL2 : Lens ei.size rows2) (hn : (rows.length + rows2.length) * ei.bytes ≤ 140737488355328) (hm : rows.length + rows2.length ≤ 9223372036854775807)
    (ho : ops[i]? = some o) (hg : gOk ops fr o = true) (hd : o.dst = some d) (hop : o.op = .call { callee := .builtin .append, args := #[s, x], argTypes := #[t, t] }) (ht : TT t = some ti) (hel : ti.elem = some e) (he : TT e = some ei)
    (hs : fr.ev G s = .sl .full rows) (hx : fr.ev G x = .sl ox rows2) (h0 : Nat.blt 0 ei.size = true) (h2 : WO TT G CR ops l R (({ fr with nid := fr.nid + 1 } : Fr).put (some d) (.sl (.id fr.nid e) (rows ++ rows2)))) : WO TT G CR ops (i :: l) R fr :=
  .op ho hg (.appendF hop ht hel he hs hx hne (Nat.le_of_ble_eq_true h0) hL hL2 hn hm) (by rw [hd]; exact h2)
theorem WO.appendI {i d j : Nat} {s x : Operand} {t e : TypeId} {ti ei : TI} {ox : Own} {rows rows2 : List (List AV)} (hne : rows2 ≠ []) (hL2 : Lens ei.size rows2) (hn : (rows.length + rows2.length) * ei.bytes ≤ 140737488355328) (hm : rows.length + rows2.length ≤ 9223372036854775807)
    (ho : ops[i]? = some o) (hg : gOk ops fr o = true) (hd : o.dst = some d) (hop : o.op = .call { callee := .builtin .append, args := #[s, x], argTypes := #[t, t] }) (ht : TT t = some ti) (hel : ti.elem = some e) (he : TT e = some ei)
    (hs : fr.ev G s = .sl (.id j e) rows) (hx : fr.ev G x = .sl ox rows2) (h0 : Nat.blt 0 ei.size = true) (h2 : WO TT G CR ops l R ((({ fr with nid := fr.nid + 1 } : Fr).kill j).put (some d) (.sl (.id fr.nid e) (rows ++ rows2)))) : WO TT G CR ops (i :: l) R fr :=
  .op ho hg (.appendI hop ht hel he hs hx hne (Nat.le_of_ble_eq_true h0) hL2 hn hm) (by rw [hd]; exact h2)
theorem WD.append0 {i d : Nat} {s x : Operand} {t e : TypeId} {ti ei : TI} {os ox : Own} {rows : List (List AV)} (ho : ops[i]? = some o) (hg : gOk ops fr o = true) (hd : o.dst = some d) (hop : o.op = .call { callee := .builtin .append, args := #[s, x], argTypes := #[t, t] }) (ht : TT t = some ti) (hel : ti.elem = some e) (he : TT e = some ei)
    (hs : fr.ev G s = .sl os rows) (hx : fr.ev G x = .sl ox []) (h2 : WD TT G CR M FV ops l R (fr.put (some d) (.sl os rows))) : WD TT G CR M FV ops (i :: l) R fr :=
  .op ho hg (.append0 hop ht hel he hs hx) (by rw [hd]; exact h2)
theorem WD.appendF {i d : Nat} {s x : Operand} {t e : TypeId} {ti ei : TI} {ox : Own} {rows rows2 : List (List AV)} (hne : rows2 ≠ []) (hL : Lens ei.size rows) (hL2 : Lens ei.size rows2) (hn : (rows.length + rows2.length) * ei.bytes ≤ 140737488355328) (hm : rows.length + rows2.length ≤ 9223372036854775807)
    (ho : ops[i]? = some o) (hg : gOk ops fr o = true) (hd : o.dst = some d) (hop : o.op = .call { callee := .builtin .append, args := #[s, x], argTypes := #[t, t] }) (ht : TT t = some ti) (hel : ti.elem = some e) (he : TT e = some ei)
    (hs : fr.ev G s = .sl .full rows) (hx : fr.ev G x = .sl ox rows2) (h0 : Nat.blt 0 ei.size = true) (h2 : WD TT G CR M FV ops l R (({ fr with nid := fr.nid + 1 } : Fr).put (some d) (.sl (.id fr.nid e) (rows ++ rows2)))) : WD TT G CR M FV ops (i :: l) R fr :=
  .op ho hg (.appendF hop ht hel he hs hx hne (Nat.le_of_ble_eq_true h0) hL hL2 hn hm) (by rw [hd]; exact h2)
/-! a table of types -/
def tabFind : List (Nat × TI) → Nat → Option TI
  | [], _ => none
  | (k, v) :: r, t => match Nat.beq k t with
    | true => some v
    | false => tabFind r t
def TabOk (P : Program) : List (Nat × TI) → Prop
  | [] => True
  | (k, v) :: r => TI.of P k = some v ∧ TabOk P r
theorem tabFind_ok (P : Program) : ∀ (l : List (Nat × TI)), TabOk P l → ∀ t ti, tabFind l t = some ti → TI.of P t = some ti
  | [], _, t, ti, h => by cases h
  | (k, v) :: r, ⟨h1, h2⟩, t, ti, h => by
    simp only [tabFind] at h
    split at h
    · rename_i he
      injection h with h; subst h
      rw [← Nat.eq_of_beq_eq_true he]; exact h1
    · exact tabFind_ok P r h2 t ti h
/-- a part of a code -/
def codeAt : Code → List Nat → Code
  | .seq x _, 0 :: p => codeAt x p
  | .seq _ y, 1 :: p => codeAt y p
  | .cond _ x _, 0 :: p => codeAt x p
  | .cond _ _ y, 1 :: p => codeAt y p
  | .block _ c, 0 :: p => codeAt c p
  | .loop c, 0 :: p => codeAt c p
  | c, _ => c
/-! a frame of which some temporaries are known -/
def look : List (Nat × AV) → (Nat → AV) → Nat → AV
  | [], b, i => b i
  | (t, v) :: l, b, i => cond (Nat.beq i t) v (look l b i)
def Fr.at (b : Nat → AV) (l : List (Nat × AV)) (st : St) (nid : Nat) : Fr := { tm := look l b, st := st, nid := nid }
def Agree (tm : Nat → AV) : List (Nat × AV) → Prop
  | [] => True
  | (t, v) :: l => tm t = v ∧ Agree tm l
theorem look_agree {tm : Nat → AV} : ∀ {l : List (Nat × AV)}, Agree tm l → look l tm = tm
  | [], _ => rfl
  | (t, v) :: l, ⟨h1, h2⟩ => by
    funext i
    simp only [look, look_agree h2]
    cases hb : Nat.beq i t with
    | false => rfl
    | true => have := Nat.eq_of_beq_eq_true hb; subst this; exact h1.symm
theorem Fr.at_eq (l : List (Nat × AV)) (st : St) (nid : Nat) (hl : Agree fr.tm l) (hs : fr.st = st) (hn : fr.nid = nid) : fr = Fr.at fr.tm l st nid := by
  cases fr; simp only at hs hn; subst hs; subst hn
  simp only [Fr.at, look_agree hl]
theorem Fr.at_intro {p : Fr → Prop} (l : List (Nat × AV)) (st : St) (nid : Nat) (hl : Agree fr.tm l) (hs : fr.st = st) (hn : fr.nid = nid) (h : ∀ b, p (Fr.at b l st nid)) : p fr := by
  rw [Fr.at_eq l st nid hl hs hn]; exact h _
theorem W.at (l : List (Nat × AV)) (st : St) (nid : Nat) (hl : Agree fr.tm l) (hs : fr.st = st) (hn : fr.nid = nid) (h : ∀ b, W TT G CR nt k0 c Q (Fr.at b l st nid)) : W TT G CR nt k0 c Q fr := by
  have e : fr = Fr.at fr.tm l st nid := by
    cases fr; simp only at hs hn; subst hs; subst hn
    simp only [Fr.at, look_agree hl]
  rw [e]; exact h _
end
end Go.Sh
namespace Go.Sh
set_option linter.unusedVariables false
set_option linter.unusedSimpArgs false
/-! as far as it goes -/
section
variable (TT : TypeId → Option TI) (G : Gl)
def go (ops : Array Oper) : List Nat → Fr → List Nat × Fr
  | [], fr => ([], fr)
  | i :: l, fr => match steps TT G ops 1 [i] fr with
    | some (_, fr1) => go ops l fr1
    | none => (i :: l, fr)
def goD (M : St) (ops : Array Oper) : List Nat → Fr → List Nat × Fr
  | [], fr => ([], fr)
  | i :: l, fr => match stepsD TT G M ops 1 [i] fr with
    | some (_, fr1) => goD M ops l fr1
    | none => (i :: l, fr)
end
section
variable {TT : TypeId → Option TI} {G : Gl} {CR : CRel} {ops : Array Oper} {fr fr1 fr' : Fr} {M : St} {FV : List Nat} {R : Fr → Prop} {l l' : List Nat} {nt k0 : Nat} {Q : AX → Fr → Prop} {x y : Code}
theorem steps_one {i : Nat} {z : List Nat} (h : steps TT G ops 1 [i] fr = some (z, fr1)) (l : List Nat) : steps TT G ops 1 (i :: l) fr = some (l, fr1) := by
  simp only [steps] at h ⊢
  split at h
  · cases h
  · rename_i o ho
    split at h
    · rename_i hg
      split at h
      · rename_i fr2 h2; simp only [Option.some.injEq, Prod.mk.injEq] at h; simp only [h2, h.2]
      · cases h
    · rename_i j b hg
      split at h
      · cases h
      · rename_i d hd
        split at h
        · rename_i b' hb
          split at h
          · split at h
            · rename_i fr2 h2; simp only [Option.some.injEq, Prod.mk.injEq] at h; simp only [h2, h.2]
            · cases h
          · split at h
            · rename_i fr2 h2; simp only [Option.some.injEq, Prod.mk.injEq] at h; simp only [h2, h.2]
            · cases h
          · split at h
            · rename_i fr2 h2; simp only [Option.some.injEq, Prod.mk.injEq] at h; simp only [h2, h.2]
            · cases h
          · split at h
            · rename_i fr2 h2; simp only [Option.some.injEq, Prod.mk.injEq] at h; simp only [h2, h.2]
            · cases h
        · split at h
          · rename_i fr2 h2; simp only [Option.some.injEq, Prod.mk.injEq] at h; simp only [h2, h.2]
          · cases h
        · cases h
theorem stepsD_one {i : Nat} {z : List Nat} (h : stepsD TT G M ops 1 [i] fr = some (z, fr1)) (l : List Nat) : stepsD TT G M ops 1 (i :: l) fr = some (l, fr1) := by
  simp only [stepsD] at h ⊢
  split at h
  · cases h
  · rename_i o ho
    split at h
    · rename_i hg
      split at h
      · rename_i fr2 h2; simp only [Option.some.injEq, Prod.mk.injEq] at h; simp only [h2, h.2]
      · cases h
    · rename_i j b hg
      split at h
      · cases h
      · rename_i d hd
        split at h
        · rename_i b' hb
          split at h
          · split at h
            · rename_i fr2 h2; simp only [Option.some.injEq, Prod.mk.injEq] at h; simp only [h2, h.2]
            · cases h
          · split at h
            · rename_i fr2 h2; simp only [Option.some.injEq, Prod.mk.injEq] at h; simp only [h2, h.2]
            · cases h
          · split at h
            · rename_i fr2 h2; simp only [Option.some.injEq, Prod.mk.injEq] at h; simp only [h2, h.2]
            · cases h
          · split at h
            · rename_i fr2 h2; simp only [Option.some.injEq, Prod.mk.injEq] at h; simp only [h2, h.2]
            · cases h
        · cases h
theorem WO.go : ∀ {l l' : List Nat} {fr fr1 : Fr}, Sh.go TT G ops l fr = (l', fr1) → WO TT G CR ops l' R fr1 → WO TT G CR ops l R fr
  | [], l', fr, fr1, h, h2 => by simp only [Sh.go, Prod.mk.injEq] at h; obtain ⟨rfl, rfl⟩ := h; exact h2
  | i :: l, l', fr, fr1, h, h2 => by
    simp only [Sh.go] at h
    split at h
    · rename_i z fr2 hs
      exact WO.steps 1 (steps_one hs l) (WO.go h h2)
    · simp only [Prod.mk.injEq] at h; obtain ⟨rfl, rfl⟩ := h; exact h2
theorem WD.go : ∀ {l l' : List Nat} {fr fr1 : Fr}, Sh.goD TT G M ops l fr = (l', fr1) → WD TT G CR M FV ops l' R fr1 → WD TT G CR M FV ops l R fr
  | [], l', fr, fr1, h, h2 => by simp only [Sh.goD, Prod.mk.injEq] at h; obtain ⟨rfl, rfl⟩ := h; exact h2
  | i :: l, l', fr, fr1, h, h2 => by
    simp only [Sh.goD] at h
    split at h
    · rename_i z fr2 hs
      exact WD.steps 1 (stepsD_one hs l) (WD.go h h2)
    · simp only [Prod.mk.injEq] at h; obtain ⟨rfl, rfl⟩ := h; exact h2
theorem W.condT {o : Operand} (hb : fr.ev G o = .bool true) (h : W TT G CR nt k0 x Q fr) : W TT G CR nt k0 (.cond o x y) Q fr := W.cond hb (fun _ => h) (fun h => by cases h)
theorem W.condF {o : Operand} (hb : fr.ev G o = .bool false) (h : W TT G CR nt k0 y Q fr) : W TT G CR nt k0 (.cond o x y) Q fr := W.cond hb (fun h => by cases h) (fun _ => h)
end
end Go.Sh
/-! clean types and terms -/
inductive Y where
  | nat | list | unit
  | pair (a b : Y)
  | fn (a b : Y)
namespace Y
def size : Y → Nat
  | nat => 1 | list => 1 | unit => 1
  | pair a b => 1 + a.size + b.size
  | fn a b => 1 + a.size + b.size
theorem size_pos (a : Y) : 1 ≤ a.size := by cases a <;> simp only [size] <;> omega
end Y
inductive T where
  | vr (i : Nat) | lm (s : Y) (b : T) | ap (f a : T) | ze | su (n : T) | rc (s : Y) (b f n : T)
  | nl | cn (h l : T) | fo (s : Y) (b f l : T) | pr (a b : T) | fs (p : T) | sn (p : T) | un
namespace T
def size : T → Nat
  | vr _ => 1
  | lm _ b => 1 + b.size
  | ap f a => 1 + f.size + a.size
  | ze => 1
  | su n => 1 + n.size
  | rc _ b f n => 1 + b.size + f.size + n.size
  | nl => 1
  | cn h l => 1 + h.size + l.size
  | fo _ b f l => 1 + b.size + f.size + l.size
  | pr a b => 1 + a.size + b.size
  | fs p => 1 + p.size
  | sn p => 1 + p.size
  | un => 1
theorem size_pos (x : T) : 1 ≤ x.size := by cases x <;> simp only [size] <;> omega
/-- free variables from c on become greater by n -/
def up (c n : Nat) : T → T
  | vr i => if c ≤ i then vr (i + n) else vr i
  | lm s b => lm s (up (c + 1) n b)
  | ap f a => ap (up c n f) (up c n a)
  | ze => ze
  | su m => su (up c n m)
  | rc s b f m => rc s (up c n b) (up c n f) (up c n m)
  | nl => nl
  | cn h l => cn (up c n h) (up c n l)
  | fo s b f l => fo s (up c n b) (up c n f) (up c n l)
  | pr a b => pr (up c n a) (up c n b)
  | fs p => fs (up c n p)
  | sn p => sn (up c n p)
  | un => un
/-- variable c is taken away, with u (below c variables) in its place -/
def put (c : Nat) (u : T) : T → T
  | vr i => if i = c then up 0 c u else if c < i then vr (i - 1) else vr i
  | lm s b => lm s (put (c + 1) u b)
  | ap f a => ap (put c u f) (put c u a)
  | ze => ze
  | su m => su (put c u m)
  | rc s b f m => rc s (put c u b) (put c u f) (put c u m)
  | nl => nl
  | cn h l => cn (put c u h) (put c u l)
  | fo s b f l => fo s (put c u b) (put c u f) (put c u l)
  | pr a b => pr (put c u a) (put c u b)
  | fs p => fs (put c u p)
  | sn p => sn (put c u p)
  | un => un
/-- all free variables are below n -/
def sc (n : Nat) : T → Prop
  | vr i => i < n
  | lm _ b => sc (n + 1) b
  | ap f a => sc n f ∧ sc n a
  | ze => True
  | su m => sc n m
  | rc _ b f m => sc n b ∧ sc n f ∧ sc n m
  | nl => True
  | cn h l => sc n h ∧ sc n l
  | fo _ b f l => sc n b ∧ sc n f ∧ sc n l
  | pr a b => sc n a ∧ sc n b
  | fs p => sc n p
  | sn p => sc n p
  | un => True
/-- all indexes are at most n -/
def le (n : Nat) : T → Prop
  | vr i => i ≤ n
  | lm _ b => le n b
  | ap f a => le n f ∧ le n a
  | ze => True
  | su m => le n m
  | rc _ b f m => le n b ∧ le n f ∧ le n m
  | nl => True
  | cn h l => le n h ∧ le n l
  | fo _ b f l => le n b ∧ le n f ∧ le n l
  | pr a b => le n a ∧ le n b
  | fs p => le n p
  | sn p => le n p
  | un => True
theorem size_up (c n : Nat) (x : T) : (up c n x).size = x.size := by
  induction x generalizing c with
  | vr i => simp only [up]; split <;> rfl
  | _ => simp_all only [up, size]
theorem up_zero (c : Nat) (x : T) : up c 0 x = x := by
  induction x generalizing c with
  | vr i => simp only [up]; split <;> rfl
  | _ => simp_all only [up]
theorem up_sc {n : Nat} {x : T} (h : sc n x) : ∀ {c m : Nat}, n ≤ c → up c m x = x := by
  induction x generalizing n with
  | vr i => intro c m hc; simp only [sc] at h; simp only [up]; rw [if_neg (by omega)]
  | lm s b ih => intro c m hc; simp only [sc] at h; simp only [up]; rw [ih h (by omega)]
  | ap f a i1 i2 => intro c m hc; simp only [sc] at h; simp only [up]; rw [i1 h.1 hc, i2 h.2 hc]
  | ze => intros; rfl
  | su m ih => intro c m hc; simp only [sc] at h; simp only [up]; rw [ih h hc]
  | rc s b f m i1 i2 i3 => intro c m hc; simp only [sc] at h; simp only [up]; rw [i1 h.1 hc, i2 h.2.1 hc, i3 h.2.2 hc]
  | nl => intros; rfl
  | cn f a i1 i2 => intro c m hc; simp only [sc] at h; simp only [up]; rw [i1 h.1 hc, i2 h.2 hc]
  | fo s b f m i1 i2 i3 => intro c m hc; simp only [sc] at h; simp only [up]; rw [i1 h.1 hc, i2 h.2.1 hc, i3 h.2.2 hc]
  | pr f a i1 i2 => intro c m hc; simp only [sc] at h; simp only [up]; rw [i1 h.1 hc, i2 h.2 hc]
  | fs m ih => intro c m hc; simp only [sc] at h; simp only [up]; rw [ih h hc]
  | sn m ih => intro c m hc; simp only [sc] at h; simp only [up]; rw [ih h hc]
  | un => intros; rfl
theorem put_sc {n : Nat} {x : T} (h : sc n x) : ∀ {c : Nat} {u : T}, n ≤ c → put c u x = x := by
  induction x generalizing n with
  | vr i => intro c u hc; simp only [sc] at h; simp only [put]; rw [if_neg (by omega), if_neg (by omega)]
  | lm s b ih => intro c u hc; simp only [sc] at h; simp only [put]; rw [ih h (by omega)]
  | ap f a i1 i2 => intro c u hc; simp only [sc] at h; simp only [put]; rw [i1 h.1 hc, i2 h.2 hc]
  | ze => intros; rfl
  | su m ih => intro c u hc; simp only [sc] at h; simp only [put]; rw [ih h hc]
  | rc s b f m i1 i2 i3 => intro c u hc; simp only [sc] at h; simp only [put]; rw [i1 h.1 hc, i2 h.2.1 hc, i3 h.2.2 hc]
  | nl => intros; rfl
  | cn f a i1 i2 => intro c u hc; simp only [sc] at h; simp only [put]; rw [i1 h.1 hc, i2 h.2 hc]
  | fo s b f m i1 i2 i3 => intro c u hc; simp only [sc] at h; simp only [put]; rw [i1 h.1 hc, i2 h.2.1 hc, i3 h.2.2 hc]
  | pr f a i1 i2 => intro c u hc; simp only [sc] at h; simp only [put]; rw [i1 h.1 hc, i2 h.2 hc]
  | fs m ih => intro c u hc; simp only [sc] at h; simp only [put]; rw [ih h hc]
  | sn m ih => intro c u hc; simp only [sc] at h; simp only [put]; rw [ih h hc]
  | un => intros; rfl
theorem sc_mono {x : T} : ∀ {n m : Nat}, sc n x → n ≤ m → sc m x := by
  induction x with
  | vr i => intro n m h hm; simp only [sc] at *; omega
  | lm s b ih => intro n m h hm; exact ih h (by omega)
  | ap f a i1 i2 => intro n m h hm; exact ⟨i1 h.1 hm, i2 h.2 hm⟩
  | ze => intros; trivial
  | su m ih => intro n m h hm; exact ih h hm
  | rc s b f m i1 i2 i3 => intro n m h hm; exact ⟨i1 h.1 hm, i2 h.2.1 hm, i3 h.2.2 hm⟩
  | nl => intros; trivial
  | cn f a i1 i2 => intro n m h hm; exact ⟨i1 h.1 hm, i2 h.2 hm⟩
  | fo s b f m i1 i2 i3 => intro n m h hm; exact ⟨i1 h.1 hm, i2 h.2.1 hm, i3 h.2.2 hm⟩
  | pr f a i1 i2 => intro n m h hm; exact ⟨i1 h.1 hm, i2 h.2 hm⟩
  | fs m ih => intro n m h hm; exact ih h hm
  | sn m ih => intro n m h hm; exact ih h hm
  | un => intros; trivial
theorem le_mono {x : T} : ∀ {n m : Nat}, le n x → n ≤ m → le m x := by
  induction x with
  | vr i => intro n m h hm; simp only [le] at *; omega
  | lm s b ih => intro n m h hm; exact ih h (by omega)
  | ap f a i1 i2 => intro n m h hm; exact ⟨i1 h.1 hm, i2 h.2 hm⟩
  | ze => intros; trivial
  | su m ih => intro n m h hm; exact ih h hm
  | rc s b f m i1 i2 i3 => intro n m h hm; exact ⟨i1 h.1 hm, i2 h.2.1 hm, i3 h.2.2 hm⟩
  | nl => intros; trivial
  | cn f a i1 i2 => intro n m h hm; exact ⟨i1 h.1 hm, i2 h.2 hm⟩
  | fo s b f m i1 i2 i3 => intro n m h hm; exact ⟨i1 h.1 hm, i2 h.2.1 hm, i3 h.2.2 hm⟩
  | pr f a i1 i2 => intro n m h hm; exact ⟨i1 h.1 hm, i2 h.2 hm⟩
  | fs m ih => intro n m h hm; exact ih h hm
  | sn m ih => intro n m h hm; exact ih h hm
  | un => intros; trivial
/-- an index is below the scope and the nodes above it -/
theorem le_of_sc {x : T} : ∀ {n : Nat}, sc n x → le (n + x.size) x := by
  induction x with
  | vr i => intro n h; simp only [sc, le, size] at *; omega
  | lm s b ih => intro n h; exact le_mono (ih (n := n + 1) h) (by simp only [size]; omega)
  | ap f a i1 i2 => intro n h; exact ⟨le_mono (i1 h.1) (by simp only [size]; omega), le_mono (i2 h.2) (by simp only [size]; omega)⟩
  | ze => intros; trivial
  | su m ih => intro n h; exact le_mono (ih (n := n) h) (by simp only [size]; omega)
  | rc s b f m i1 i2 i3 => intro n h; exact ⟨le_mono (i1 h.1) (by simp only [size]; omega), le_mono (i2 h.2.1) (by simp only [size]; omega), le_mono (i3 h.2.2) (by simp only [size]; omega)⟩
  | nl => intros; trivial
  | cn f a i1 i2 => intro n h; exact ⟨le_mono (i1 h.1) (by simp only [size]; omega), le_mono (i2 h.2) (by simp only [size]; omega)⟩
  | fo s b f m i1 i2 i3 => intro n h; exact ⟨le_mono (i1 h.1) (by simp only [size]; omega), le_mono (i2 h.2.1) (by simp only [size]; omega), le_mono (i3 h.2.2) (by simp only [size]; omega)⟩
  | pr f a i1 i2 => intro n h; exact ⟨le_mono (i1 h.1) (by simp only [size]; omega), le_mono (i2 h.2) (by simp only [size]; omega)⟩
  | fs m ih => intro n h; exact le_mono (ih (n := n) h) (by simp only [size]; omega)
  | sn m ih => intro n h; exact le_mono (ih (n := n) h) (by simp only [size]; omega)
  | un => intros; trivial
end T
/-! typing; m bounds the sizes of the types that are made -/
inductive HT (m : Nat) : List Y → T → Y → Prop
  | vr {G : List Y} {i : Nat} {a : Y} (h : G[i]? = some a) : HT m G (.vr i) a
  | lm {G : List Y} {s b : Y} {x : T} (h : HT m (s :: G) x b) (hs : (Y.fn s b).size ≤ m) : HT m G (.lm s x) (.fn s b)
  | ap {G : List Y} {s b : Y} {f x : T} (h : HT m G f (.fn s b)) (h2 : HT m G x s) : HT m G (.ap f x) b
  | ze {G : List Y} : HT m G .ze .nat
  | su {G : List Y} {x : T} (h : HT m G x .nat) : HT m G (.su x) .nat
  | rc {G : List Y} {s : Y} {b f n : T} (hb : HT m G b s) (hf : HT m G f (.fn .nat (.fn s s))) (hn : HT m G n .nat) (hs : s.size ≤ m) : HT m G (.rc s b f n) s
  | nl {G : List Y} : HT m G .nl .list
  | cn {G : List Y} {h l : T} (hh : HT m G h .nat) (hl : HT m G l .list) : HT m G (.cn h l) .list
  | fo {G : List Y} {s : Y} {b f n : T} (hb : HT m G b s) (hf : HT m G f (.fn .nat (.fn .list (.fn s s)))) (hn : HT m G n .list) (hs : s.size ≤ m) : HT m G (.fo s b f n) s
  | pr {G : List Y} {a b : Y} {x y : T} (hx : HT m G x a) (hy : HT m G y b) (hs : (Y.pair a b).size ≤ m) : HT m G (.pr x y) (.pair a b)
  | fs {G : List Y} {a b : Y} {x : T} (hx : HT m G x (.pair a b)) : HT m G (.fs x) a
  | sn {G : List Y} {a b : Y} {x : T} (hx : HT m G x (.pair a b)) : HT m G (.sn x) b
  | un {G : List Y} : HT m G .un .unit
namespace HT
theorem mono {m m' : Nat} {G : List Y} {x : T} {a : Y} (h : HT m G x a) (hm : m ≤ m') : HT m' G x a := by
  induction h with
  | vr h => exact .vr h
  | lm h hs ih => exact .lm ih (by omega)
  | ap h h2 i1 i2 => exact .ap i1 i2
  | ze => exact .ze
  | su h ih => exact .su ih
  | rc hb hf hn hs i1 i2 i3 => exact .rc i1 i2 i3 (by omega)
  | nl => exact .nl
  | cn hh hl i1 i2 => exact .cn i1 i2
  | fo hb hf hn hs i1 i2 i3 => exact .fo i1 i2 i3 (by omega)
  | pr hx hy hs i1 i2 => exact .pr i1 i2 (by omega)
  | fs hx ih => exact .fs ih
  | sn hx ih => exact .sn ih
  | un => exact .un
theorem sc {m : Nat} {G : List Y} {x : T} {a : Y} (h : HT m G x a) : x.sc G.length := by
  induction h with
  | vr h => exact (List.getElem?_eq_some_iff.1 h).1
  | lm h hs ih => exact ih
  | ap h h2 i1 i2 => exact ⟨i1, i2⟩
  | ze => trivial
  | su h ih => exact ih
  | rc hb hf hn hs i1 i2 i3 => exact ⟨i1, i2, i3⟩
  | nl => trivial
  | cn hh hl i1 i2 => exact ⟨i1, i2⟩
  | fo hb hf hn hs i1 i2 i3 => exact ⟨i1, i2, i3⟩
  | pr hx hy hs i1 i2 => exact ⟨i1, i2⟩
  | fs hx ih => exact ih
  | sn hx ih => exact ih
  | un => trivial
/-- weakening: D is put in, behind c variables -/
theorem up {m : Nat} {x : T} : ∀ {C G : List Y} {a : Y}, HT m (C ++ G) x a → ∀ D : List Y, HT m (C ++ D ++ G) (x.up C.length D.length) a := by
  induction x with
  | vr i =>
    intro C G a h D
    cases h with
    | vr h =>
      simp only [T.up]
      split
      · rename_i hc
        refine .vr ?_
        rw [List.getElem?_append_right hc] at h
        rw [List.getElem?_append_right (by simp only [List.length_append]; omega), ← h]
        congr 1
        simp only [List.length_append]; omega
      · rename_i hc
        refine .vr ?_
        rw [List.getElem?_append_left (by omega)] at h
        rw [List.append_assoc, List.getElem?_append_left (by omega), h]
  | lm s b ih =>
    intro C G a h D
    cases h with
    | lm h hs =>
      refine .lm ?_ hs
      have := ih (C := s :: C) (G := G) h D
      exact this
  | ap f x i1 i2 => intro C G a h D; cases h with | ap h h2 => exact .ap (i1 h D) (i2 h2 D)
  | ze => intro C G a h D; cases h; exact .ze
  | su n ih => intro C G a h D; cases h with | su h => exact .su (ih h D)
  | rc s b f n i1 i2 i3 => intro C G a h D; cases h with | rc hb hf hn hs => exact .rc (i1 hb D) (i2 hf D) (i3 hn D) hs
  | nl => intro C G a h D; cases h; exact .nl
  | cn f x i1 i2 => intro C G a h D; cases h with | cn h h2 => exact .cn (i1 h D) (i2 h2 D)
  | fo s b f n i1 i2 i3 => intro C G a h D; cases h with | fo hb hf hn hs => exact .fo (i1 hb D) (i2 hf D) (i3 hn D) hs
  | pr x y i1 i2 => intro C G a h D; cases h with | pr h h2 hs => exact .pr (i1 h D) (i2 h2 D) hs
  | fs p ih => intro C G a h D; cases h with | fs h => exact .fs (ih h D)
  | sn p ih => intro C G a h D; cases h with | sn h => exact .sn (ih h D)
  | un => intro C G a h D; cases h; exact .un
theorem up0 {m : Nat} {x : T} {G : List Y} {a : Y} (h : HT m G x a) (D : List Y) : HT m (D ++ G) (x.up 0 D.length) a := up (C := []) h D
/-- putting in -/
theorem put {m : Nat} {u : T} {t : Y} {x : T} : ∀ {C G : List Y} {a : Y}, HT m (C ++ t :: G) x a → HT m G u t → HT m (C ++ G) (T.put C.length u x) a := by
  induction x with
  | vr i =>
    intro C G a h hu
    cases h with
    | vr h =>
      simp only [T.put]
      split
      · rename_i hc
        subst hc
        rw [List.getElem?_append_right (Nat.le_refl _), Nat.sub_self] at h
        simp only [List.getElem?_cons_zero, Option.some.injEq] at h
        subst h
        exact up0 hu C
      · split
        · rename_i hc hc2
          refine .vr ?_
          rw [List.getElem?_append_right (by omega)] at h
          rw [List.getElem?_append_right (by omega)]
          obtain ⟨j, hj⟩ : ∃ j, i - C.length = j + 1 := ⟨i - C.length - 1, by omega⟩
          rw [hj, List.getElem?_cons_succ] at h
          rw [← h]; congr 1; omega
        · rename_i hc hc2
          refine .vr ?_
          rw [List.getElem?_append_left (by omega)] at h
          rw [List.getElem?_append_left (by omega), h]
  | lm s b ih =>
    intro C G a h hu
    cases h with
    | lm h hs =>
      refine .lm ?_ hs
      exact ih (C := s :: C) (G := G) h hu
  | ap f x i1 i2 => intro C G a h D; cases h with | ap h h2 => exact .ap (i1 h D) (i2 h2 D)
  | ze => intro C G a h D; cases h; exact .ze
  | su n ih => intro C G a h D; cases h with | su h => exact .su (ih h D)
  | rc s b f n i1 i2 i3 => intro C G a h D; cases h with | rc hb hf hn hs => exact .rc (i1 hb D) (i2 hf D) (i3 hn D) hs
  | nl => intro C G a h D; cases h; exact .nl
  | cn f x i1 i2 => intro C G a h D; cases h with | cn h h2 => exact .cn (i1 h D) (i2 h2 D)
  | fo s b f n i1 i2 i3 => intro C G a h D; cases h with | fo hb hf hn hs => exact .fo (i1 hb D) (i2 hf D) (i3 hn D) hs
  | pr x y i1 i2 => intro C G a h D; cases h with | pr h h2 hs => exact .pr (i1 h D) (i2 h2 D) hs
  | fs p ih => intro C G a h D; cases h with | fs h => exact .fs (ih h D)
  | sn p ih => intro C G a h D; cases h with | sn h => exact .sn (ih h D)
  | un => intro C G a h D; cases h; exact .un
theorem put0 {m : Nat} {u : T} {t : Y} {x : T} {G : List Y} {a : Y} (h : HT m (t :: G) x a) (hu : HT m G u t) : HT m G (T.put 0 u x) a := put (C := []) h hu
/-- a term has one type -/
theorem det {m m' : Nat} {x : T} : ∀ {G : List Y} {a b : Y}, HT m G x a → HT m' G x b → a = b := by
  induction x with
  | vr i => intro G a b h k; cases h with | vr h => cases k with | vr k => rw [h] at k; exact Option.some.inj k
  | lm s x ih => intro G a b h k; cases h with | lm h _ => cases k with | lm k _ => rw [ih h k]
  | ap f x i1 i2 => intro G a b h k; cases h with | ap h h2 => cases k with | ap k k2 => have := i1 h k; injection this
  | ze => intro G a b h k; cases h; cases k; rfl
  | su n ih => intro G a b h k; cases h; cases k; rfl
  | rc s x f n i1 i2 i3 => intro G a b h k; cases h; cases k; rfl
  | nl => intro G a b h k; cases h; cases k; rfl
  | cn f x i1 i2 => intro G a b h k; cases h; cases k; rfl
  | fo s x f n i1 i2 i3 => intro G a b h k; cases h; cases k; rfl
  | pr x y i1 i2 => intro G a b h k; cases h with | pr h h2 _ => cases k with | pr k k2 _ => rw [i1 h k, i2 h2 k2]
  | fs p ih => intro G a b h k; cases h with | fs h => cases k with | fs k => have := ih h k; injection this
  | sn p ih => intro G a b h k; cases h with | sn h => cases k with | sn k => have := ih h k; injection this
  | un => intro G a b h k; cases h; cases k; rfl
end HT
namespace T
theorem up_up (u : T) : ∀ {c j n k : Nat}, j ≤ c → c ≤ j + n → up c k (up j n u) = up j (n + k) u := by
  induction u with
  | vr i =>
    intro c j n k h1 h2
    simp only [up]
    by_cases h : j ≤ i
    · rw [if_pos h, if_pos h]; simp only [up]; rw [if_pos (by omega)]; congr 1; omega
    · rw [if_neg h, if_neg h]; simp only [up]; rw [if_neg (by omega)]
  | lm s b ih => intro c j n k h1 h2; simp only [up]; rw [ih (by omega) (by omega)]
  | ap f a i1 i2 => intro c j n k h1 h2; simp only [up]; rw [i1 h1 h2, i2 h1 h2]
  | ze => intros; rfl
  | su m ih => intro c j n k h1 h2; simp only [up]; rw [ih h1 h2]
  | rc s b f m i1 i2 i3 => intro c j n k h1 h2; simp only [up]; rw [i1 h1 h2, i2 h1 h2, i3 h1 h2]
  | nl => intros; rfl
  | cn f a i1 i2 => intro c j n k h1 h2; simp only [up]; rw [i1 h1 h2, i2 h1 h2]
  | fo s b f m i1 i2 i3 => intro c j n k h1 h2; simp only [up]; rw [i1 h1 h2, i2 h1 h2, i3 h1 h2]
  | pr f a i1 i2 => intro c j n k h1 h2; simp only [up]; rw [i1 h1 h2, i2 h1 h2]
  | fs m ih => intro c j n k h1 h2; simp only [up]; rw [ih h1 h2]
  | sn m ih => intro c j n k h1 h2; simp only [up]; rw [ih h1 h2]
  | un => intros; rfl
theorem put_cancel (v u : T) : ∀ {k j n : Nat}, j ≤ k → k ≤ j + n → put k v (up j (n + 1) u) = up j n u := by
  induction u with
  | vr i =>
    intro k j n h1 h2
    simp only [up]
    by_cases h : j ≤ i
    · rw [if_pos h, if_pos h]; simp only [put]; rw [if_neg (by omega), if_pos (by omega)]; congr 1
    · rw [if_neg h, if_neg h]; simp only [put]; rw [if_neg (by omega), if_neg (by omega)]
  | lm s b ih => intro k j n h1 h2; simp only [up, put]; rw [ih (by omega) (by omega)]
  | ap f a i1 i2 => intro k j n h1 h2; simp only [up, put]; rw [i1 h1 h2, i2 h1 h2]
  | ze => intros; rfl
  | su m ih => intro k j n h1 h2; simp only [up, put]; rw [ih h1 h2]
  | rc s b f m i1 i2 i3 => intro k j n h1 h2; simp only [up, put]; rw [i1 h1 h2, i2 h1 h2, i3 h1 h2]
  | nl => intros; rfl
  | cn f a i1 i2 => intro k j n h1 h2; simp only [up, put]; rw [i1 h1 h2, i2 h1 h2]
  | fo s b f m i1 i2 i3 => intro k j n h1 h2; simp only [up, put]; rw [i1 h1 h2, i2 h1 h2, i3 h1 h2]
  | pr f a i1 i2 => intro k j n h1 h2; simp only [up, put]; rw [i1 h1 h2, i2 h1 h2]
  | fs m ih => intro k j n h1 h2; simp only [up, put]; rw [ih h1 h2]
  | sn m ih => intro k j n h1 h2; simp only [up, put]; rw [ih h1 h2]
  | un => intros; rfl
theorem put_up (u v : T) : ∀ {c j k : Nat}, j ≤ c → put (c + k) u (up j k v) = up j k (put c u v) := by
  induction v with
  | vr i =>
    intro c j k h1
    simp only [up, put]
    by_cases h : i = c
    · subst h; rw [if_pos h1, if_pos rfl]; simp only [put, if_true]; rw [up_up u (Nat.zero_le _) (by omega)]
    · by_cases h2 : c < i
      · rw [if_pos (by omega), if_neg h, if_pos h2]; simp only [put, up]; rw [if_neg (by omega), if_pos (by omega), if_pos (by omega)]; congr 1; omega
      · rw [if_neg h, if_neg h2]
        by_cases h3 : j ≤ i
        · rw [if_pos h3]; simp only [put, up]; rw [if_neg (by omega), if_neg (by omega), if_pos h3]
        · rw [if_neg h3]; simp only [put, up]; rw [if_neg (by omega), if_neg (by omega), if_neg h3]
  | lm s b ih => intro c j k h1; simp only [up, put]; rw [← ih (by omega), Nat.add_right_comm]
  | ap f a i1 i2 => intro c j k h1; simp only [up, put]; rw [i1 h1, i2 h1]
  | ze => intros; rfl
  | su m ih => intro c j k h1; simp only [up, put]; rw [ih h1]
  | rc s b f m i1 i2 i3 => intro c j k h1; simp only [up, put]; rw [i1 h1, i2 h1, i3 h1]
  | nl => intros; rfl
  | cn f a i1 i2 => intro c j k h1; simp only [up, put]; rw [i1 h1, i2 h1]
  | fo s b f m i1 i2 i3 => intro c j k h1; simp only [up, put]; rw [i1 h1, i2 h1, i3 h1]
  | pr f a i1 i2 => intro c j k h1; simp only [up, put]; rw [i1 h1, i2 h1]
  | fs m ih => intro c j k h1; simp only [up, put]; rw [ih h1]
  | sn m ih => intro c j k h1; simp only [up, put]; rw [ih h1]
  | un => intros; rfl
theorem put_put (u v x : T) : ∀ {c k : Nat}, put (c + k) u (put k v x) = put k (put c u v) (put (c + k + 1) u x) := by
  induction x with
  | vr i =>
    intro c k
    simp only [put]
    by_cases h : i = k
    · rw [if_pos h, if_neg (by omega), if_neg (by omega)]; simp only [put]; rw [if_pos h]; exact put_up u v (Nat.zero_le _)
    · rw [if_neg h]
      by_cases h2 : i = c + k + 1
      · rw [if_pos h2, if_pos (by omega)]; simp only [put]; rw [if_pos (by omega), put_cancel _ _ (by omega) (by omega)]
      · rw [if_neg h2]
        by_cases h3 : c + k + 1 < i
        · rw [if_pos h3, if_pos (by omega)]; simp only [put]; rw [if_neg (by omega), if_pos (by omega), if_neg (by omega), if_pos (by omega)]
        · rw [if_neg h3]; simp only [put]; rw [if_neg h]
          by_cases h4 : k < i
          · rw [if_pos h4]; simp only [put]; rw [if_neg (by omega), if_neg (by omega)]
          · rw [if_neg h4]; simp only [put]; rw [if_neg (by omega), if_neg (by omega)]
  | lm s b ih => intro c k; simp only [put]; congr 1; exact ih (c := c) (k := k + 1)
  | ap f a i1 i2 => intro c k; simp only [put]; rw [i1, i2]
  | ze => intros; rfl
  | su m ih => intro c k; simp only [put]; rw [ih]
  | rc s b f m i1 i2 i3 => intro c k; simp only [put]; rw [i1, i2, i3]
  | nl => intros; rfl
  | cn f a i1 i2 => intro c k; simp only [put]; rw [i1, i2]
  | fo s b f m i1 i2 i3 => intro c k; simp only [put]; rw [i1, i2, i3]
  | pr f a i1 i2 => intro c k; simp only [put]; rw [i1, i2]
  | fs m ih => intro c k; simp only [put]; rw [ih]
  | sn m ih => intro c k; simp only [put]; rw [ih]
  | un => intros; rfl
end T
/-! formulas, their witnesses and challenges, and the matrix -/
inductive Bk where | an | im
inductive Qk where | al | ex | au | eu
inductive Fo where
  | eq (a b : T)
  | bi (k : Bk) (f g : Fo)
  | q (k : Qk) (s : Y) (f : Fo)
namespace Fo
def size : Fo → Nat
  | eq a b => 1 + a.size + b.size
  | bi _ f g => 1 + f.size + g.size
  | q _ _ f => 1 + f.size
def up (c n : Nat) : Fo → Fo
  | eq a b => eq (a.up c n) (b.up c n)
  | bi k f g => bi k (up c n f) (up c n g)
  | q k s f => q k s (up (c + 1) n f)
def put (c : Nat) (u : T) : Fo → Fo
  | eq a b => eq (T.put c u a) (T.put c u b)
  | bi k f g => bi k (put c u f) (put c u g)
  | q k s f => q k s (put (c + 1) u f)
/-- nodes without those of terms -/
def bone : Fo → Nat
  | eq _ _ => 1
  | bi _ f g => 1 + bone f + bone g
  | q _ _ f => 1 + bone f
theorem bone_put (u : T) (f : Fo) : ∀ c, bone (put c u f) = bone f := by
  induction f with
  | eq => intros; rfl
  | bi k f g i1 i2 => intro c; simp only [put, bone, i1, i2]
  | q k s f ih => intro c; simp only [put, bone, ih]
theorem put_put (u v : T) (f : Fo) : ∀ {c k : Nat}, put (c + k) u (put k v f) = put k (T.put c u v) (put (c + k + 1) u f) := by
  induction f with
  | eq a b => intro c k; simp only [put, T.put_put]
  | bi k f g i1 i2 => intro c k; simp only [put, i1, i2]
  | q k s f ih => intro c k; simp only [put]; congr 1; exact ih (c := c) (k := k + 1)
/-- typed -/
inductive Ok (m : Nat) : List Y → Fo → Prop
  | eq {G : List Y} {a b : T} (ha : HT m G a .nat) (hb : HT m G b .nat) : Ok m G (.eq a b)
  | bi {G : List Y} {k : Bk} {f g : Fo} (hf : Ok m G f) (hg : Ok m G g) : Ok m G (.bi k f g)
  | q {G : List Y} {k : Qk} {s : Y} {f : Fo} (hf : Ok m (s :: G) f) : Ok m G (.q k s f)
theorem Ok.mono {m m' : Nat} {G : List Y} {f : Fo} (h : Ok m G f) (hm : m ≤ m') : Ok m' G f := by
  induction h with
  | eq ha hb => exact .eq (ha.mono hm) (hb.mono hm)
  | bi _ _ i1 i2 => exact .bi i1 i2
  | q _ ih => exact .q ih
theorem Ok.put {m : Nat} {u : T} {t : Y} {f : Fo} : ∀ {C G : List Y}, Ok m (C ++ t :: G) f → HT m G u t → Ok m (C ++ G) (Fo.put C.length u f) := by
  induction f with
  | eq a b => intro C G h hu; cases h with | eq ha hb => exact .eq (HT.put ha hu) (HT.put hb hu)
  | bi k f g i1 i2 => intro C G h hu; cases h with | bi hf hg => exact .bi (i1 hf hu) (i2 hg hu)
  | q k s f ih => intro C G h hu; cases h with | q hf => exact .q (ih (C := s :: C) (G := G) hf hu)
theorem Ok.put0 {m : Nat} {u : T} {t : Y} {f : Fo} {G : List Y} (h : Ok m (t :: G) f) (hu : HT m G u t) : Ok m G (Fo.put 0 u f) := Ok.put (C := []) h hu
/-- without uniform quantifiers -/
def pure : Fo → Prop
  | eq _ _ => True
  | bi _ f g => pure f ∧ pure g
  | q k _ f => (k = .al ∨ k = .ex) ∧ pure f
/-- without quantifiers -/
def free : Fo → Prop
  | eq _ _ => True
  | bi _ f g => free f ∧ free g
  | q _ _ _ => False
theorem pure_put (u : T) (f : Fo) : ∀ c, pure f → pure (put c u f) := by
  induction f with
  | eq => intros; trivial
  | bi k f g i1 i2 => intro c h; exact ⟨i1 c h.1, i2 c h.2⟩
  | q k s f ih => intro c h; exact ⟨h.1, ih _ h.2⟩
end Fo
namespace Y
def isUn : Y → Bool
  | unit => true
  | _ => false
def prs (a b : Y) : Y := if a.isUn then b else if b.isUn then a else pair a b
def fns (a b : Y) : Y := if b.isUn then unit else if a.isUn then b else fn a b
theorem isUn_eq {a : Y} (h : a.isUn = true) : a = unit := by cases a <;> first | rfl | exact absurd h (by simp [isUn])
end Y
namespace T
def join (a b : Y) (s t : T) : T := if a.isUn then t else if b.isUn then s else pr s t
def left (a b : Y) (t : T) : T := if a.isUn then un else if b.isUn then t else fs t
def right (a b : Y) (t : T) : T := if b.isUn then un else if a.isUn then t else sn t
def call (a b : Y) (f t : T) : T := if b.isUn then un else if a.isUn then f else ap f t
theorem put_left (c : Nat) (u t : T) (a b : Y) : put c u (left a b t) = left a b (put c u t) := by unfold left; split; rfl; split <;> rfl
theorem put_right (c : Nat) (u t : T) (a b : Y) : put c u (right a b t) = right a b (put c u t) := by unfold right; split; rfl; split <;> rfl
theorem put_call (c : Nat) (u f t : T) (a b : Y) : put c u (call a b f t) = call a b (put c u f) (put c u t) := by unfold call; split; rfl; split <;> rfl
theorem left_ty {m : Nat} {G : List Y} {a b : Y} {t : T} (h : HT m G t (Y.prs a b)) : HT m G (left a b t) a := by
  unfold left; unfold Y.prs at h
  split
  · rename_i ha; rw [Y.isUn_eq ha]; exact .un
  · rename_i ha; rw [if_neg ha] at h
    split
    · rename_i hb; rw [if_pos hb] at h; exact h
    · rename_i hb; rw [if_neg hb] at h; exact .fs h
theorem right_ty {m : Nat} {G : List Y} {a b : Y} {t : T} (h : HT m G t (Y.prs a b)) : HT m G (right a b t) b := by
  unfold right; unfold Y.prs at h
  split
  · rename_i hb; rw [Y.isUn_eq hb]; exact .un
  · rename_i hb; rw [if_neg hb] at h
    split
    · rename_i ha; rw [if_pos ha] at h; exact h
    · rename_i ha; rw [if_neg ha] at h; exact .sn h
theorem call_ty {m : Nat} {G : List Y} {a b : Y} {f t : T} (h : HT m G f (Y.fns a b)) (ht : HT m G t a) : HT m G (call a b f t) b := by
  unfold call; unfold Y.fns at h
  split
  · rename_i hb; rw [Y.isUn_eq hb]; exact .un
  · rename_i hb; rw [if_neg hb] at h
    split
    · rename_i ha; rw [if_pos ha] at h; exact h
    · rename_i ha; rw [if_neg ha] at h; exact .ap h ht
end T
namespace Fo
/-- the types of witnesses and of challenges -/
def both : Fo → Y × Y
  | eq _ _ => (.unit, .unit)
  | bi .an f g => (Y.prs (both f).1 (both g).1, Y.prs (both f).2 (both g).2)
  | bi .im f g => (Y.prs (Y.fns (both f).1 (both g).1) (Y.fns (both f).1 (Y.fns (both g).2 (both f).2)), Y.prs (both f).1 (both g).2)
  | q .al s f => (Y.fns s (both f).1, Y.prs s (both f).2)
  | q .ex s f => (Y.prs s (both f).1, (both f).2)
  | q .au _ f => both f
  | q .eu _ f => both f
theorem both_put (u : T) (f : Fo) : ∀ c, both (put c u f) = both f := by
  induction f with
  | eq => intros; rfl
  | bi k f g i1 i2 => intro c; cases k <;> simp only [put, both, i1, i2]
  | q k s f ih => intro c; cases k <;> simp only [put, both, ih]
def M : Nat → Fo → T → T → Fo
  | 0, f, _, _ => f
  | n + 1, f, w, c => match f with
    | eq a b => eq a b
    | bi .an f g => bi .an (M n f (T.left (both f).1 (both g).1 w) (T.left (both f).2 (both g).2 c)) (M n g (T.right (both f).1 (both g).1 w) (T.right (both f).2 (both g).2 c))
    | bi .im f g =>
      let v := (both f).1; let p := (both f).2; let u := (both g).1; let r := (both g).2
      let x := T.left v r c; let y := T.right v r c
      let h := T.right (Y.fns v u) (Y.fns v (Y.fns r p)) w; let g' := T.left (Y.fns v u) (Y.fns v (Y.fns r p)) w
      bi .im (M n f x (T.call r p (T.call v (Y.fns r p) h x) y)) (M n g (T.call v u g' x) y)
    | q .al s f => M n (put 0 (T.left s (both f).2 c) f) (T.call s (both f).1 w (T.left s (both f).2 c)) (T.right s (both f).2 c)
    | q .ex s f => M n (put 0 (T.left s (both f).1 w) f) (T.right s (both f).1 w) c
    | q .au s f => q .au s f
    | q .eu s f => q .eu s f
theorem M_free {n : Nat} : ∀ {f : Fo} {w c : T}, bone f ≤ n → pure f → free (M n f w c) := by
  induction n with
  | zero => intro f w c hn _; cases f <;> simp only [bone] at hn <;> omega
  | succ n ih =>
    intro f w c hn hp
    cases f with
    | eq a b => trivial
    | bi k f g => simp only [bone] at hn; cases k <;> exact ⟨ih (by omega) hp.1, ih (by omega) hp.2⟩
    | q k s f =>
      simp only [bone] at hn
      cases k with
      | al => simp only [M]; exact ih (by rw [bone_put]; omega) (pure_put _ _ _ hp.2)
      | ex => simp only [M]; exact ih (by rw [bone_put]; omega) (pure_put _ _ _ hp.2)
      | au => exact absurd hp.1 (by simp)
      | eu => exact absurd hp.1 (by simp)
theorem M_ok {n m : Nat} {G : List Y} : ∀ {f : Fo} {w c : T}, bone f ≤ n → pure f → Ok m G f → HT m G w (both f).1 → HT m G c (both f).2 → Ok m G (M n f w c) := by
  induction n with
  | zero => intro f w c hn _; cases f <;> simp only [bone] at hn <;> omega
  | succ n ih =>
    intro f w c hn hp ho hw hc
    cases f with
    | eq a b => exact ho
    | bi k f g =>
      simp only [bone] at hn
      cases ho with
      | bi hf hg =>
        cases k with
        | an => exact .bi (ih (by omega) hp.1 hf (T.left_ty hw) (T.left_ty hc)) (ih (by omega) hp.2 hg (T.right_ty hw) (T.right_ty hc))
        | im => exact .bi (ih (by omega) hp.1 hf (T.left_ty hc) (T.call_ty (T.call_ty (T.right_ty hw) (T.left_ty hc)) (T.right_ty hc))) (ih (by omega) hp.2 hg (T.call_ty (T.left_ty hw) (T.left_ty hc)) (T.right_ty hc))
    | q k s f =>
      simp only [bone] at hn
      cases ho with
      | q hf =>
        cases k with
        | al => simp only [M]; exact ih (by rw [bone_put]; omega) (pure_put _ _ _ hp.2) (Ok.put0 hf (T.left_ty hc)) (by rw [both_put]; exact T.call_ty hw (T.left_ty hc)) (by rw [both_put]; exact T.right_ty hc)
        | ex => simp only [M]; exact ih (by rw [bone_put]; omega) (pure_put _ _ _ hp.2) (Ok.put0 hf (T.left_ty hw)) (by rw [both_put]; exact T.right_ty hw) (by rw [both_put]; exact hc)
        | au => exact absurd hp.1 (by simp)
        | eu => exact absurd hp.1 (by simp)
theorem M_put {n : Nat} (u : T) (k : Nat) : ∀ {f : Fo} {w c : T}, bone f ≤ n → pure f → put k u (M n f w c) = M n (put k u f) (T.put k u w) (T.put k u c) := by
  induction n with
  | zero => intro f w c hn _; cases f <;> simp only [bone] at hn <;> omega
  | succ n ih =>
    intro f w c hn hp
    cases f with
    | eq a b => rfl
    | bi q f g =>
      simp only [bone] at hn
      cases q with
      | an => simp only [M, put, both_put, ih (f := f) (by omega) hp.1, ih (f := g) (by omega) hp.2, T.put_left, T.put_right]
      | im => simp only [M, put, both_put, ih (f := f) (by omega) hp.1, ih (f := g) (by omega) hp.2, T.put_left, T.put_right, T.put_call]
    | q q s f =>
      simp only [bone] at hn
      have hpp : ∀ v : T, put k u (put 0 v f) = put 0 (T.put k u v) (put (k + 1) u f) := fun v => put_put u v f (c := k) (k := 0)
      cases q with
      | al => simp only [M, put, both_put]; rw [ih (by rw [bone_put]; omega) (pure_put _ _ _ hp.2)]; simp only [hpp, T.put_left, T.put_right, T.put_call]
      | ex => simp only [M, put, both_put]; rw [ih (by rw [bone_put]; omega) (pure_put _ _ _ hp.2)]; simp only [hpp, T.put_left, T.put_right]
      | au => exact absurd hp.1 (by simp)
      | eu => exact absurd hp.1 (by simp)
theorem M_self {n : Nat} : ∀ {f : Fo} {w c : T}, free f → M n f w c = f := by
  induction n with
  | zero => intros; rfl
  | succ n ih =>
    intro f w c hf
    cases f with
    | eq a b => rfl
    | bi k f g => cases k <;> simp only [M, ih hf.1, ih hf.2]
    | q k s f => exact absurd hf (by simp [free])
end Fo
namespace Go.Sh
set_option linter.unusedVariables false
/-! types and terms as the machine holds them -/
def kY : Y → Int
  | .nat => 1 | .list => 2 | .pair _ _ => 3 | .fn _ _ => 4 | .unit => 5
def rY : Y → List (List AV)
  | .pair a b => [[.int .i64 (kY a), .sl .no (rY a)], [.int .i64 (kY b), .sl .no (rY b)]]
  | .fn a b => [[.int .i64 (kY a), .sl .no (rY a)], [.int .i64 (kY b), .sl .no (rY b)]]
  | _ => []
abbrev cY (t : Y) : List AV := [.int .i64 (kY t), .sl .no (rY t)]
def kT : T → Int
  | .vr _ => 1 | .lm _ _ => 2 | .ap _ _ => 3 | .ze => 4 | .su _ => 5 | .rc _ _ _ _ => 6 | .nl => 7 | .cn _ _ => 8 | .fo _ _ _ _ => 9 | .pr _ _ => 10 | .fs _ => 11 | .sn _ => 12 | .un => 13
def iT : T → Int
  | .vr i => i | _ => 0
def tkT : T → Int
  | .lm s _ => kY s | .rc s _ _ _ => kY s | .fo s _ _ _ => kY s | _ => 0
def trT : T → List (List AV)
  | .lm s _ => rY s | .rc s _ _ _ => rY s | .fo s _ _ _ => rY s | _ => []
def row (k i tk : Int) (tr r : List (List AV)) : List AV := [.int .i64 k, .int .i64 i, .int .i64 tk, .sl .no tr, .sl .no r]
def rT : T → List (List AV)
  | .vr _ => []
  | .lm _ b => [row (kT b) (iT b) (tkT b) (trT b) (rT b)]
  | .ap f a => [row (kT f) (iT f) (tkT f) (trT f) (rT f), row (kT a) (iT a) (tkT a) (trT a) (rT a)]
  | .ze => []
  | .su n => [row (kT n) (iT n) (tkT n) (trT n) (rT n)]
  | .rc _ b f n => [row (kT b) (iT b) (tkT b) (trT b) (rT b), row (kT f) (iT f) (tkT f) (trT f) (rT f), row (kT n) (iT n) (tkT n) (trT n) (rT n)]
  | .nl => []
  | .cn h l => [row (kT h) (iT h) (tkT h) (trT h) (rT h), row (kT l) (iT l) (tkT l) (trT l) (rT l)]
  | .fo _ b f n => [row (kT b) (iT b) (tkT b) (trT b) (rT b), row (kT f) (iT f) (tkT f) (trT f) (rT f), row (kT n) (iT n) (tkT n) (trT n) (rT n)]
  | .pr a b => [row (kT a) (iT a) (tkT a) (trT a) (rT a), row (kT b) (iT b) (tkT b) (trT b) (rT b)]
  | .fs p => [row (kT p) (iT p) (tkT p) (trT p) (rT p)]
  | .sn p => [row (kT p) (iT p) (tkT p) (trT p) (rT p)]
  | .un => []
abbrev cT (t : T) : List AV := [.int .i64 (kT t), .int .i64 (iT t), .int .i64 (tkT t), .sl .no (trT t), .sl .no (rT t)]
def num : Nat → T
  | 0 => .ze
  | n + 1 => .su (num n)
/-- the types that a type is made of -/
def _root_.Y.args : Y → List Y
  | .pair a b => [a, b]
  | .fn a b => [a, b]
  | _ => []
theorem rY_args (t : Y) : rY t = t.args.map cY := by cases t <;> rfl
def _root_.T.args : T → List T
  | .vr _ => [] | .lm _ b => [b] | .ap f a => [f, a] | .ze => [] | .su n => [n] | .rc _ b f n => [b, f, n] | .nl => [] | .cn h l => [h, l] | .fo _ b f n => [b, f, n] | .pr a b => [a, b] | .fs p => [p] | .sn p => [p] | .un => []
def _root_.T.tyArgs : T → List Y
  | .lm s _ => s.args | .rc s _ _ _ => s.args | .fo s _ _ _ => s.args | _ => []
theorem trT_args (t : T) : trT t = t.tyArgs.map cY := by cases t <;> first | rfl | exact rY_args _
theorem rT_args (t : T) : rT t = t.args.map cT := by cases t <;> rfl
theorem _root_.Y.ind {p : Y → Prop} (h : ∀ t : Y, (∀ a ∈ t.args, p a) → p t) : ∀ t, p t
  | .nat => h _ (fun a ha => by simp [Y.args] at ha)
  | .list => h _ (fun a ha => by simp [Y.args] at ha)
  | .unit => h _ (fun a ha => by simp [Y.args] at ha)
  | .pair a b => h _ (fun x hx => by
    have hx : x = a ∨ x = b := by simpa [Y.args] using hx
    have ha := Y.ind h a
    have hb := Y.ind h b
    rcases hx with rfl | rfl <;> assumption)
  | .fn a b => h _ (fun x hx => by
    have hx : x = a ∨ x = b := by simpa [Y.args] using hx
    have ha := Y.ind h a
    have hb := Y.ind h b
    rcases hx with rfl | rfl <;> assumption)
theorem _root_.Y.args_len (t : Y) : t.args.length ≤ 2 := by cases t <;> simp [Y.args]
theorem _root_.T.args_len (t : T) : t.args.length ≤ 3 := by cases t <;> simp [T.args]
theorem _root_.T.ind {p : T → Prop} (h : ∀ t : T, (∀ a ∈ t.args, p a) → p t) (t : T) : p t := by
  induction t with
  | vr i => exact h _ (fun a ha => by simp [T.args] at ha)
  | ze => exact h _ (fun a ha => by simp [T.args] at ha)
  | nl => exact h _ (fun a ha => by simp [T.args] at ha)
  | un => exact h _ (fun a ha => by simp [T.args] at ha)
  | lm s b ih => exact h _ (fun a ha => by have ha : a = b := by simpa [T.args] using ha
                                           subst ha; exact ih)
  | su b ih => exact h _ (fun a ha => by have ha : a = b := by simpa [T.args] using ha
                                         subst ha; exact ih)
  | fs b ih => exact h _ (fun a ha => by have ha : a = b := by simpa [T.args] using ha
                                         subst ha; exact ih)
  | sn b ih => exact h _ (fun a ha => by have ha : a = b := by simpa [T.args] using ha
                                         subst ha; exact ih)
  | ap f x i1 i2 => exact h _ (fun a ha => by have ha : a = f ∨ a = x := by simpa [T.args] using ha
                                              rcases ha with rfl | rfl <;> assumption)
  | cn f x i1 i2 => exact h _ (fun a ha => by have ha : a = f ∨ a = x := by simpa [T.args] using ha
                                              rcases ha with rfl | rfl <;> assumption)
  | pr f x i1 i2 => exact h _ (fun a ha => by have ha : a = f ∨ a = x := by simpa [T.args] using ha
                                              rcases ha with rfl | rfl <;> assumption)
  | rc s b f n i1 i2 i3 => exact h _ (fun a ha => by have ha : a = b ∨ a = f ∨ a = n := by simpa [T.args] using ha
                                                     rcases ha with rfl | rfl | rfl <;> assumption)
  | fo s b f n i1 i2 i3 => exact h _ (fun a ha => by have ha : a = b ∨ a = f ∨ a = n := by simpa [T.args] using ha
                                                     rcases ha with rfl | rfl | rfl <;> assumption)
def _root_.Y.same : Y → Y → Bool
  | .nat, .nat => true
  | .list, .list => true
  | .unit, .unit => true
  | .pair a b, .pair c d => a.same c && b.same d
  | .fn a b, .fn c d => a.same c && b.same d
  | _, _ => false
theorem _root_.Y.same_iff : ∀ {a b : Y}, a.same b = true ↔ a = b := by
  intro a
  induction a with
  | nat => intro b; cases b <;> simp [Y.same]
  | list => intro b; cases b <;> simp [Y.same]
  | unit => intro b; cases b <;> simp [Y.same]
  | pair a b iha ihb => intro c; cases c <;> simp [Y.same, iha, ihb]
  | fn a b iha ihb => intro c; cases c <;> simp [Y.same, iha, ihb]
def sameL : List Y → List Y → Bool
  | x :: xs, y :: ys => x.same y && sameL xs ys
  | _, _ => true
theorem _root_.Y.same_eq (a b : Y) (h : kY a = kY b) : a.same b = sameL a.args b.args ∧ a.args.length = b.args.length := by
  cases a <;> cases b <;> simp [kY] at h <;> exact ⟨by simp [Y.same, sameL, Y.args], rfl⟩
theorem _root_.Y.same_ne (a b : Y) (h : kY a ≠ kY b) : a.same b = false := by
  cases a <;> cases b <;> first | rfl | (simp [kY] at h)
/-- what has been gathered by appending to nil -/
def gat (e : Nat) (rows : List (List AV)) : AV := match rows with
  | [] => .sl .full []
  | _ => .sl (.id 0 e) rows
def gatN (rows : List (List AV)) : Nat := match rows with
  | [] => 0
  | _ => 1
theorem gat_sl (e : Nat) (rows : List (List AV)) : ∃ o, gat e rows = .sl o rows := by cases rows <;> exact ⟨_, rfl⟩
theorem Lens.nil (n : Nat) : Lens n [] := fun r h => by cases h
theorem Lens.cons {n : Nat} {r : List AV} {l : List (List AV)} (h : r.length = n) (hl : Lens n l) : Lens n (r :: l) := fun x hx => by
  rcases List.mem_cons.1 hx with rfl | hx
  · exact h
  · exact hl x hx
theorem Lens.map {α : Type} {n : Nat} {f : α → List AV} {l : List α} (h : ∀ x, (f x).length = n) : Lens n (l.map f) := fun r hr => by
  obtain ⟨x, _, rfl⟩ := List.mem_map.1 hr
  exact h x
abbrev z37 : List AV := [.int .i64 0, .int .i64 0, .int .i64 0, .sl .full [], .sl .full []]
theorem wrap_id {n : Int} (h : -9223372036854775808 ≤ n) (h2 : n < 9223372036854775808) : IntKind.i64.wrap n = n := by
  rw [IntKind.wrap_i64]; omega
/-! decks -/
def ints (l : List Int) : List (List AV) := l.map fun x => [.int .i64 x]
def deck (l : List Int) (i : Nat) : St := [some [.sl .no (ints l), .int .i64 i]]
theorem ints_len (l : List Int) : (ints l).length = l.length := by simp [ints]
theorem ints_get {l : List Int} {i : Nat} {x : Int} (h : l[i]? = some x) : (ints l)[i]? = some [.int .i64 x] := by simp [ints, h]
/-- the next choice -/
def nextV (l : List Int) (i : Nat) (n : Int) : Int := match l[i]? with
  | some x => IntKind.i64.wrap (x.tmod n + n) |>.tmod n
  | none => 0
def nextI (l : List Int) (i : Nat) : Nat := min (i + 1) l.length
theorem nextV_lt (l : List Int) (i : Nat) (n : Int) (hn : 0 < n) (hn2 : n ≤ 1000) : 0 ≤ nextV l i n ∧ nextV l i n < n := by
  unfold nextV
  split
  · rename_i x _
    have h1 : -n < x.tmod n := by
      rcases Int.le_total 0 x with h | h
      · have := Int.tmod_nonneg n h; omega
      · have h2 := Int.tmod_nonneg n (show 0 ≤ -x by omega)
        have h3 := Int.tmod_lt_of_pos (-x) hn
        rw [Int.neg_tmod] at h2 h3; omega
    have h2 := Int.tmod_lt_of_pos x hn
    rw [wrap_id (by omega) (by omega)]
    exact ⟨Int.tmod_nonneg n (by omega), Int.tmod_lt_of_pos _ hn⟩
  · exact ⟨Int.le_refl _, hn⟩
/-- a call that is handed a deck and nothing else that varies -/
def Draws (CR : CRel) (l : List Int) (f : FuncId) (args : List AV) (i : Nat) (res : AV) (j : Nat) : Prop := ∃ st', CR f (.vp 0 0 :: args) (deck l i) res st' ∧ st'[0]? = (deck l j)[0]?

section
variable {TT : TypeId → Option TI} {G : Gl} {CR : CRel} {ops : Array Oper} {fr fr1 fr' : Fr} {o : Oper} {M : St} {FV : List Nat} {R : Fr → Prop} {l : List Nat}
theorem wb_deck {st st' : St} {d : List Int} {i j : Nat} (hs : st[0]? = (deck d i)[0]?) (h : st'[0]? = (deck d j)[0]?) : wb st [0] st' = st.set 0 (some [.sl .no (ints d), .int .i64 j]) := by
  cases st' with
  | nil => simp [deck] at h
  | cons x st' =>
    have hx : x = some [.sl .no (ints d), .int .i64 j] := by simpa [deck] using h
    subst hx
    simp [wb, AV.pl]
theorem draws_op {cl : Call} {fv : Operand} {f : FuncId} {args xs : List AV} {res : AV} {d : List Int} {i j : Nat} (hcall : Draws CR d f args i res j) (hop : o.op = .call cl) (hc : cl.callee = .value fv) (hf : fr.ev G fv = .fn f [])
    (hxs : cl.args.toList.map (fr.ev G) = .vp 0 0 :: xs) (hpf : xs.all AV.pf = true) (ha : xs.map AV.pl = args) (hst : fr.st[0]? = some (some [.sl .no (ints d), .int .i64 i])) (hres : res.pf = true) :
    ∃ (args0 : List AV) (st' : St), args0.length = cl.args.size + 0 ∧ (∀ (k : Nat) (x y : AV), (cl.args.toList.map (fr.ev G) ++ [])[k]? = some x → args0[k]? = some y → Ren [0] x y) ∧
      (∀ (k v : Nat), [0][k]? = some v → ∃ cs : List AV, fr.st[v]? = some (some cs) ∧ (deck d i)[k]? = some (some (cs.map AV.pl)) ∧ ∀ x ∈ cs, AV.pf x = true) ∧ CR f args0 (deck d i) res st' ∧ 1 ≤ st'.length ∧
      (∀ k, k < 1 → ∃ cs : List AV, st'[k]? = some (some cs) ∧ ∀ x ∈ cs, AV.pf x = true) ∧ wb fr.st [0] st' = fr.st.set 0 (some [.sl .no (ints d), .int .i64 j]) := by
  obtain ⟨st', h1, h2⟩ := hcall
  subst ha
  refine ⟨.vp 0 0 :: xs.map AV.pl, st', ?_, ?_, ?_, h1, ?_, ?_, wb_deck (hst.trans rfl) h2⟩
  · have := congrArg List.length hxs
    simp at this ⊢; omega
  · intro k x y hx hy
    rw [List.append_nil, hxs] at hx
    cases k with
    | zero => simp at hx hy; subst hx; subst hy; exact .vp rfl
    | succ k =>
      simp only [List.getElem?_cons_succ, List.getElem?_map] at hx hy
      rw [hx] at hy; injection hy with hy; subst hy
      exact .pf (List.all_eq_true.1 hpf _ (List.mem_of_getElem? hx))
  · intro k v hk
    cases k with
    | zero =>
      simp at hk; subst hk
      exact ⟨_, hst, rfl, by simp [AV.pf]⟩
    | succ k => simp at hk
  · have := (List.getElem?_eq_some_iff.1 (h2.trans rfl)).1; omega
  · intro k hk
    obtain rfl : k = 0 := by omega
    exact ⟨_, h2.trans rfl, by simp [AV.pf]⟩
theorem WO.draws {k t : Nat} {cl : Call} {fv : Operand} {f : FuncId} {args xs : List AV} {res : AV} {d : List Int} {i j : Nat} (hcall : Draws CR d f args i res j) (ho : ops[k]? = some o) (hg : gOk ops fr o = true) (hd : o.dst = some t) (hop : o.op = .call cl) (hc : cl.callee = .value fv) (hf : fr.ev G fv = .fn f [])
    (hxs : cl.args.toList.map (fr.ev G) = .vp 0 0 :: xs) (hpf : xs.all AV.pf = true) (ha : xs.map AV.pl = args) (hst : fr.st[0]? = some (some [.sl .no (ints d), .int .i64 i])) (hres : res.pf = true)
    (h2 : WO TT G CR ops l R (({ fr with st := fr.st.set 0 (some [.sl .no (ints d), .int .i64 j]) } : Fr).put (some t) res.st)) : WO TT G CR ops (k :: l) R fr := by
  obtain ⟨args0, st', h3, h4, h5, h6, h7, h8, h9⟩ := draws_op (G := G) hcall hop hc hf hxs hpf ha hst hres
  refine .op ho hg (.callV hop hc hf h3 h4 (by simp) rfl h7 h5 h6 (.inl hres) h8) ?_
  rw [hd, h9]; exact h2
theorem WD.draws {k t : Nat} {cl : Call} {fv : Operand} {f : FuncId} {args xs : List AV} {res : AV} {d : List Int} {i j : Nat} (hcall : Draws CR d f args i res j) (ho : ops[k]? = some o) (hg : gOk ops fr o = true) (hd : o.dst = some t) (hop : o.op = .call cl) (hc : cl.callee = .value fv) (hf : fr.ev G fv = .fn f [])
    (hxs : cl.args.toList.map (fr.ev G) = .vp 0 0 :: xs) (hpf : xs.all AV.pf = true) (ha : xs.map AV.pl = args) (hst : fr.st[0]? = some (some [.sl .no (ints d), .int .i64 i])) (hres : res.pf = true) (hFV : FV.contains 0 = true)
    (h2 : WD TT G CR M FV ops l R (({ fr with st := fr.st.set 0 (some [.sl .no (ints d), .int .i64 j]) } : Fr).put (some t) res.st)) : WD TT G CR M FV ops (k :: l) R fr := by
  obtain ⟨args0, st', h3, h4, h5, h6, h7, h8, h9⟩ := draws_op (G := G) hcall hop hc hf hxs hpf ha hst hres
  refine .op ho hg (.callV hop hc hf h3 h4 (by simp) rfl h7 h5 h6 (.inl hres) h8 (fun v hv => by simp at hv; subst hv; simpa using hFV)) ?_
  rw [hd, h9]; exact h2
end
theorem kY_un (t : Y) : (kY t == 5) = t.isUn := by cases t <;> rfl
end Go.Sh
namespace Go.Sh
set_option linter.unusedVariables false
set_option linter.unusedSimpArgs false
/-! loops by an invariant -/
section
variable {TT : TypeId → Option TI} {G : Gl} {CR : CRel} {ops : Array Oper} {fr fr1 fr' : Fr} {nt k0 : Nat} {Q : AX → Fr → Prop} {c : Code}
theorem W.loopI {ι : Type} (I : ι → Fr → Prop) (r : ι → Nat) (hs : ∀ i fr, I i fr → W TT G CR nt k0 c (nextW (fun fr' => ∃ j, r j < r i ∧ I j fr') Q) fr) (i : ι) (h0 : I i fr) : W TT G CR nt k0 (.loop c) Q fr := by
  suffices h : ∀ (n : Nat) (i : ι) (fr : Fr), r i ≤ n → I i fr → W TT G CR nt k0 (.loop c) Q fr from h _ i fr (Nat.le_refl _) h0
  intro n
  induction n with
  | zero =>
    intro i fr hn hi
    refine W.loop (W.mono (hs i fr hi) ?_)
    intro e fr' h
    cases e with
    | normal => obtain ⟨j, hj, _⟩ := h; omega
    | exit id => exact h
    | ret => exact h
  | succ n ih =>
    intro i fr hn hi
    refine W.loop (W.mono (hs i fr hi) ?_)
    intro e fr' h
    cases e with
    | normal => obtain ⟨j, hj, hj2⟩ := h; exact ih j fr' (by omega) hj2
    | exit id => exact h
    | ret => exact h
end
end Go.Sh
namespace Go.Sh
set_option linter.unusedVariables false
/-! formulas as the machine holds them -/
def kF : Fo → Int
  | .eq _ _ => 1 | .bi .an _ _ => 2 | .bi .im _ _ => 3 | .q .al _ _ => 4 | .q .ex _ _ => 5 | .q .au _ _ => 6 | .q .eu _ _ => 7
def tkF : Fo → Int
  | .q _ s _ => kY s | _ => 0
def trF : Fo → List (List AV)
  | .q _ s _ => rY s | _ => []
def tsF : Fo → List (List AV)
  | .eq a b => [cT a, cT b] | _ => []
def rowF (k tk : Int) (tr ts r : List (List AV)) : List AV := [.int .i64 k, .int .i64 tk, .sl .no tr, .sl .no ts, .sl .no r]
def rF : Fo → List (List AV)
  | .eq _ _ => []
  | .bi _ f g => [rowF (kF f) (tkF f) (trF f) (tsF f) (rF f), rowF (kF g) (tkF g) (trF g) (tsF g) (rF g)]
  | .q _ _ f => [rowF (kF f) (tkF f) (trF f) (tsF f) (rF f)]
abbrev cF (f : Fo) : List AV := [.int .i64 (kF f), .int .i64 (tkF f), .sl .no (trF f), .sl .no (tsF f), .sl .no (rF f)]
/-- sizes of the types that a term names -/
def _root_.T.tyLe (n : Nat) : T → Prop
  | .vr _ => True
  | .lm s b => s.size ≤ n ∧ b.tyLe n
  | .ap f a => f.tyLe n ∧ a.tyLe n
  | .ze => True
  | .su m => m.tyLe n
  | .rc s b f m => s.size ≤ n ∧ b.tyLe n ∧ f.tyLe n ∧ m.tyLe n
  | .nl => True
  | .cn h l => h.tyLe n ∧ l.tyLe n
  | .fo s b f l => s.size ≤ n ∧ b.tyLe n ∧ f.tyLe n ∧ l.tyLe n
  | .pr a b => a.tyLe n ∧ b.tyLe n
  | .fs p => p.tyLe n
  | .sn p => p.tyLe n
  | .un => True
theorem _root_.HT.tyLe {m n : Nat} {G : List Y} {x : T} {a : Y} (h : HT m G x a) (hm : m ≤ n) : x.tyLe n := by
  induction h with
  | vr h => trivial
  | lm h hs ih => exact ⟨by simp only [Y.size] at hs; omega, ih⟩
  | ap h h2 i1 i2 => exact ⟨i1, i2⟩
  | ze => trivial
  | su h ih => exact ih
  | rc hb hf hn hs i1 i2 i3 => exact ⟨by omega, i1, i2, i3⟩
  | nl => trivial
  | cn hh hl i1 i2 => exact ⟨i1, i2⟩
  | fo hb hf hn hs i1 i2 i3 => exact ⟨by omega, i1, i2, i3⟩
  | pr hx hy hs i1 i2 => exact ⟨i1, i2⟩
  | fs hx ih => exact ih
  | sn hx ih => exact ih
  | un => trivial
/-- the type that a term names -/
def _root_.T.typ : T → Option Y
  | .lm s _ => some s | .rc s _ _ _ => some s | .fo s _ _ _ => some s | _ => none
/-- all types and terms are small -/
def _root_.Fo.tyLe (n : Nat) : Fo → Prop
  | .eq a b => a.tyLe n ∧ b.tyLe n
  | .bi _ f g => f.tyLe n ∧ g.tyLe n
  | .q _ s f => s.size ≤ n ∧ f.tyLe n
theorem lens_ok {n : Nat} {rows : List (List AV)} (h : rows.all (fun r => Nat.beq r.length n) = true) : Lens n rows := fun r hr => Nat.eq_of_beq_eq_true (List.all_eq_true.1 h r hr)
/-- the types of witnesses and challenges; none where one is too large -/
def _root_.Fo.fit (p : Y × Y) : Option (Y × Y) := if p.1.size ≤ 64 ∧ p.2.size ≤ 64 then some p else none
def _root_.Bk.comb : Bk → Y × Y → Y × Y → Y × Y
  | .an, a, b => (Y.prs a.1 b.1, Y.prs a.2 b.2)
  | .im, a, b => (Y.prs (Y.fns a.1 b.1) (Y.fns a.1 (Y.fns b.2 a.2)), Y.prs a.1 b.2)
def _root_.Qk.comb : Qk → Y → Y × Y → Y × Y
  | .al, s, a => (Y.fns s a.1, Y.prs s a.2)
  | .ex, s, a => (Y.prs s a.1, a.2)
  | .au, _, _ => (.unit, .unit)
  | .eu, _, _ => (.unit, .unit)
def _root_.Fo.bothE : Fo → Option (Y × Y)
  | .eq _ _ => some (.unit, .unit)
  | .bi k f g => match f.bothE, g.bothE with
    | some a, some b => Fo.fit (k.comb a b)
    | _, _ => none
  | .q k s f => match f.bothE with
    | some a => Fo.fit (k.comb s a)
    | none => none
theorem _root_.Fo.fit_le {p q : Y × Y} (h : Fo.fit p = some q) : p = q ∧ q.1.size ≤ 64 ∧ q.2.size ≤ 64 := by
  unfold Fo.fit at h
  split at h
  · rename_i hs; injection h with h; subst h; exact ⟨rfl, hs⟩
  · cases h
theorem _root_.Fo.bothE_le : ∀ {f : Fo} {p : Y × Y}, f.bothE = some p → p.1.size ≤ 64 ∧ p.2.size ≤ 64
  | .eq _ _, p, h => by simp only [Fo.bothE, Option.some.injEq] at h; subst h; simp [Y.size]
  | .bi k f g, p, h => by
    simp only [Fo.bothE] at h
    split at h
    · exact (Fo.fit_le h).2
    · cases h
  | .q k s f, p, h => by
    simp only [Fo.bothE] at h
    split at h
    · exact (Fo.fit_le h).2
    · cases h
/-- where there are types, they are those of the plain form -/
theorem _root_.Fo.bothE_both : ∀ {f : Fo} {p : Y × Y}, f.pure → f.bothE = some p → f.both = p
  | .eq _ _, p, _, h => by simp only [Fo.bothE, Option.some.injEq] at h; subst h; rfl
  | .bi k f g, p, hp, h => by
    simp only [Fo.bothE] at h
    split at h
    · rename_i a b ha hb
      obtain ⟨rfl, _⟩ := Fo.fit_le h
      have h1 := Fo.bothE_both hp.1 ha
      have h2 := Fo.bothE_both hp.2 hb
      cases k <;> simp only [Fo.both, h1, h2, Bk.comb]
    · cases h
  | .q k s f, p, hp, h => by
    simp only [Fo.bothE] at h
    split at h
    · rename_i a ha
      obtain ⟨rfl, _⟩ := Fo.fit_le h
      have h1 := Fo.bothE_both hp.2 ha
      rcases hp.1 with rfl | rfl <;> simp only [Fo.both, h1, Qk.comb]
    · cases h
theorem _root_.Y.prs_le (a b : Y) : (Y.prs a b).size ≤ 1 + a.size + b.size := by
  unfold Y.prs
  split
  · omega
  · split
    · omega
    · exact Nat.le_refl _
theorem _root_.Y.fns_le (a b : Y) : (Y.fns a b).size ≤ 1 + a.size + b.size := by
  have := Y.size_pos b
  unfold Y.fns
  split
  · simp only [Y.size]; omega
  · split
    · omega
    · exact Nat.le_refl _
def rBoth : Option (Y × Y) → AV
  | some p => .tup [.agg (cY p.1 ++ cY p.2), .int .i64 0]
  | none => .tup [.agg [.int .i64 0, .sl .no [], .int .i64 0, .sl .no []], .int .i64 4]
def rOne (g : Y × Y → Y) : Option (Y × Y) → AV
  | some p => .tup [.agg (cY (g p)), .int .i64 0]
  | none => .tup [.agg [.int .i64 0, .sl .no []], .int .i64 4]
end Go.Sh
/-! steps and normal forms -/
namespace T
def times (c : Nat) : T → Nat
  | vr i => if i = c then 1 else 0
  | lm _ b => times (c + 1) b
  | ap f a => times c f + times c a
  | ze => 0
  | su m => times c m
  | rc _ b f m => times c b + times c f + times c m
  | nl => 0
  | cn h l => times c h + times c l
  | fo _ b f l => times c b + times c f + times c l
  | pr a b => times c a + times c b
  | fs p => times c p
  | sn p => times c p
  | un => 0
theorem size_put (u x : T) : ∀ c, (put c u x).size + times c x = x.size + times c x * u.size := by
  induction x with
  | vr i =>
    intro c; simp only [put, times]
    by_cases h : i = c
    · simp only [if_pos h, size_up, size]; omega
    · simp only [if_neg h]; by_cases h2 : c < i
      · simp only [if_pos h2, size]; omega
      · simp only [if_neg h2, size]; omega
  | lm s b ih => intro c; have := ih (c + 1); simp only [put, times, size] at *; omega
  | ap f a i1 i2 => intro c; have := i1 c; have := i2 c; simp only [put, times, size, Nat.add_mul] at *; omega
  | ze => intro c; simp only [put, times, size]; omega
  | su m ih => intro c; have := ih c; simp only [put, times, size] at *; omega
  | rc s b f m i1 i2 i3 => intro c; have := i1 c; have := i2 c; have := i3 c; simp only [put, times, size, Nat.add_mul] at *; omega
  | nl => intro c; simp only [put, times, size]; omega
  | cn f a i1 i2 => intro c; have := i1 c; have := i2 c; simp only [put, times, size, Nat.add_mul] at *; omega
  | fo s b f m i1 i2 i3 => intro c; have := i1 c; have := i2 c; have := i3 c; simp only [put, times, size, Nat.add_mul] at *; omega
  | pr f a i1 i2 => intro c; have := i1 c; have := i2 c; simp only [put, times, size, Nat.add_mul] at *; omega
  | fs m ih => intro c; have := ih c; simp only [put, times, size] at *; omega
  | sn m ih => intro c; have := ih c; simp only [put, times, size] at *; omega
  | un => intro c; simp only [put, times, size]; omega
theorem times_le (x : T) : ∀ c, times c x ≤ x.size := by
  induction x with
  | vr i => intro c; simp only [times, size]; split <;> omega
  | lm s b ih => intro c; have := ih (c + 1); simp only [times, size] at *; omega
  | ap f a i1 i2 => intro c; have := i1 c; have := i2 c; simp only [times, size] at *; omega
  | ze => intro c; simp only [times, size]; omega
  | su m ih => intro c; have := ih c; simp only [times, size] at *; omega
  | rc s b f m i1 i2 i3 => intro c; have := i1 c; have := i2 c; have := i3 c; simp only [times, size] at *; omega
  | nl => intro c; simp only [times, size]; omega
  | cn f a i1 i2 => intro c; have := i1 c; have := i2 c; simp only [times, size] at *; omega
  | fo s b f m i1 i2 i3 => intro c; have := i1 c; have := i2 c; have := i3 c; simp only [times, size] at *; omega
  | pr f a i1 i2 => intro c; have := i1 c; have := i2 c; simp only [times, size] at *; omega
  | fs m ih => intro c; have := ih c; simp only [times, size] at *; omega
  | sn m ih => intro c; have := ih c; simp only [times, size] at *; omega
  | un => intro c; simp only [times, size]; omega
def isLm : T → Bool | lm _ _ => true | _ => false
def isNum : T → Bool | ze => true | su _ => true | _ => false
def isList : T → Bool | nl => true | cn _ _ => true | _ => false
def isPr : T → Bool | pr _ _ => true | _ => false
/-- the root is a redex -/
def root : T → Bool
  | ap f _ => f.isLm
  | rc _ _ _ n => n.isNum
  | fo _ _ _ l => l.isList
  | fs p => p.isPr
  | sn p => p.isPr
  | _ => false
/-- what a redex becomes -/
def red : T → T
  | ap (lm _ b) a => put 0 a b
  | rc _ b _ ze => b
  | rc s b f (su n) => ap (ap f n) (rc s b f n)
  | fo _ b _ nl => b
  | fo s b f (cn h l) => ap (ap (ap f h) l) (fo s b f l)
  | fs (pr a _) => a
  | sn (pr _ b) => b
  | x => x
/-- the next step: none without a redex; some none where what it becomes has more than room nodes more -/
def nx (room : Int) : T → Option (Option T)
  | vr _ => none
  | lm s b => (nx room b).map fun r => r.map fun b' => lm s b'
  | ap f a => if f.isLm then some (if ((red (ap f a)).size : Int) - (ap f a).size > room then none else some (red (ap f a))) else
      match nx room f with
      | some r => some (r.map fun f' => ap f' a)
      | none => (nx room a).map fun r => r.map fun a' => ap f a'
  | ze => none
  | su m => (nx room m).map fun r => r.map fun m' => su m'
  | rc s b f n => if n.isNum then some (if ((red (rc s b f n)).size : Int) - (rc s b f n).size > room then none else some (red (rc s b f n))) else
      match nx room b with
      | some r => some (r.map fun b' => rc s b' f n)
      | none => match nx room f with
        | some r => some (r.map fun f' => rc s b f' n)
        | none => (nx room n).map fun r => r.map fun n' => rc s b f n'
  | nl => none
  | cn h l => match nx room h with
      | some r => some (r.map fun h' => cn h' l)
      | none => (nx room l).map fun r => r.map fun l' => cn h l'
  | fo s b f n => if n.isList then some (if ((red (fo s b f n)).size : Int) - (fo s b f n).size > room then none else some (red (fo s b f n))) else
      match nx room b with
      | some r => some (r.map fun b' => fo s b' f n)
      | none => match nx room f with
        | some r => some (r.map fun f' => fo s b f' n)
        | none => (nx room n).map fun r => r.map fun n' => fo s b f n'
  | pr a b => match nx room a with
      | some r => some (r.map fun a' => pr a' b)
      | none => (nx room b).map fun r => r.map fun b' => pr a b'
  | fs p => if p.isPr then some (if ((red (fs p)).size : Int) - (fs p).size > room then none else some (red (fs p))) else (nx room p).map fun r => r.map fun p' => fs p'
  | sn p => if p.isPr then some (if ((red (sn p)).size : Int) - (sn p).size > room then none else some (red (sn p))) else (nx room p).map fun r => r.map fun p' => sn p'
  | un => none
/-- what a normalization comes to -/
inductive NR where
  | ok (x : T) (left : Nat)
  | steps
  | size
def norm : Nat → T → NR
  | n, x => match nx (4096 - (x.size : Int)) x, n with
    | none, n => .ok x n
    | some _, 0 => .steps
    | some none, _ + 1 => .size
    | some (some y), n + 1 => norm n y
end T
namespace T
theorem red_ty {m : Nat} {G : List Y} {x : T} {a : Y} (h : HT m G x a) (hr : root x = true) : HT m G (red x) a := by
  cases x with
  | ap f u =>
    cases f <;> simp only [root, isLm, Bool.false_eq_true] at hr
    cases h with | ap hf hu => cases hf with | lm hb _ => exact HT.put0 hb hu
  | rc s b f n =>
    cases h with
    | rc hb hf hn hs =>
      cases n <;> simp only [root, isNum, Bool.false_eq_true] at hr
      · exact hb
      · cases hn with | su hn => exact .ap (.ap hf hn) (.rc hb hf hn hs)
  | fo s b f n =>
    cases h with
    | fo hb hf hn hs =>
      cases n <;> simp only [root, isList, Bool.false_eq_true] at hr
      · exact hb
      · cases hn with | cn hh hl => exact .ap (.ap (.ap hf hh) hl) (.fo hb hf hl hs)
  | fs p => cases p <;> simp only [root, isPr, Bool.false_eq_true] at hr; cases h with | fs h => cases h with | pr h1 h2 _ => exact h1
  | sn p => cases p <;> simp only [root, isPr, Bool.false_eq_true] at hr; cases h with | sn h => cases h with | pr h1 h2 _ => exact h2
  | _ => simp only [root, Bool.false_eq_true] at hr
theorem some_if {c : Prop} [Decidable c] {y z : T} (h : some (if c then none else some y) = some (some z)) : y = z := by
  split at h
  · exact absurd h (by simp)
  · injection h with h; injection h
theorem map_map_some {r : Option (Option T)} {g : T → T} {z : T} (h : (r.map fun q => q.map g) = some (some z)) : ∃ y, r = some (some y) ∧ g y = z := by
  cases r with
  | none => exact absurd h (by simp)
  | some r =>
    cases r with
    | none => exact absurd h (by simp)
    | some y => exact ⟨y, rfl, by injection h with h; injection h⟩
theorem map_some {r : Option T} {g : T → T} {z : T} (h : some (r.map g) = some (some z)) : ∃ y, r = some y ∧ g y = z := by
  cases r with
  | none => exact absurd h (by simp)
  | some y => exact ⟨y, rfl, by injection h with h; injection h⟩
theorem nx_ty {m : Nat} {room : Int} {x : T} : ∀ {G : List Y} {a : Y} {y : T}, HT m G x a → nx room x = some (some y) → HT m G y a := by
  induction x with
  | vr i => intro G a y _ h; exact absurd h (by simp [nx])
  | ze => intro G a y _ h; exact absurd h (by simp [nx])
  | nl => intro G a y _ h; exact absurd h (by simp [nx])
  | un => intro G a y _ h; exact absurd h (by simp [nx])
  | lm s b ih =>
    intro G a y ht h
    simp only [nx] at h
    obtain ⟨z, hz, rfl⟩ := map_map_some h
    cases ht with | lm hb hs => exact .lm (ih hb hz) hs
  | su n ih =>
    intro G a y ht h
    simp only [nx] at h
    obtain ⟨z, hz, rfl⟩ := map_map_some h
    cases ht with | su hb => exact .su (ih hb hz)
  | ap f u i1 i2 =>
    intro G a y ht h
    simp only [nx] at h
    split at h
    · rename_i hr
      rw [← some_if h]; exact red_ty ht hr
    · cases ht with
      | ap hf hu =>
        split at h
        · rename_i r hr
          obtain ⟨z, rfl, rfl⟩ := map_some h
          exact .ap (i1 hf hr) hu
        · obtain ⟨z, hz, rfl⟩ := map_map_some h
          exact .ap hf (i2 hu hz)
  | rc s b f n i1 i2 i3 =>
    intro G a y ht h
    simp only [nx] at h
    split at h
    · rename_i hr
      rw [← some_if h]; exact red_ty ht hr
    · cases ht with
      | rc hb hf hn hs =>
        split at h
        · rename_i r hr
          obtain ⟨z, rfl, rfl⟩ := map_some h
          exact .rc (i1 hb hr) hf hn hs
        · split at h
          · rename_i r hr
            obtain ⟨z, rfl, rfl⟩ := map_some h
            exact .rc hb (i2 hf hr) hn hs
          · obtain ⟨z, hz, rfl⟩ := map_map_some h
            exact .rc hb hf (i3 hn hz) hs
  | fo s b f n i1 i2 i3 =>
    intro G a y ht h
    simp only [nx] at h
    split at h
    · rename_i hr
      rw [← some_if h]; exact red_ty ht hr
    · cases ht with
      | fo hb hf hn hs =>
        split at h
        · rename_i r hr
          obtain ⟨z, rfl, rfl⟩ := map_some h
          exact .fo (i1 hb hr) hf hn hs
        · split at h
          · rename_i r hr
            obtain ⟨z, rfl, rfl⟩ := map_some h
            exact .fo hb (i2 hf hr) hn hs
          · obtain ⟨z, hz, rfl⟩ := map_map_some h
            exact .fo hb hf (i3 hn hz) hs
  | cn p q i1 i2 =>
    intro G a y ht h
    simp only [nx] at h
    cases ht with
    | cn hf hu =>
      split at h
      · rename_i r hr
        obtain ⟨z, rfl, rfl⟩ := map_some h
        exact .cn (i1 hf hr) hu
      · obtain ⟨z, hz, rfl⟩ := map_map_some h
        exact .cn hf (i2 hu hz)
  | pr p q i1 i2 =>
    intro G a y ht h
    simp only [nx] at h
    cases ht with
    | pr hf hu hs =>
      split at h
      · rename_i r hr
        obtain ⟨z, rfl, rfl⟩ := map_some h
        exact .pr (i1 hf hr) hu hs
      · obtain ⟨z, hz, rfl⟩ := map_map_some h
        exact .pr hf (i2 hu hz) hs
  | fs p ih =>
    intro G a y ht h
    simp only [nx] at h
    split at h
    · rename_i hr
      rw [← some_if h]; exact red_ty ht hr
    · obtain ⟨z, hz, rfl⟩ := map_map_some h
      cases ht with | fs hp => exact .fs (ih hp hz)
  | sn p ih =>
    intro G a y ht h
    simp only [nx] at h
    split at h
    · rename_i hr
      rw [← some_if h]; exact red_ty ht hr
    · obtain ⟨z, hz, rfl⟩ := map_map_some h
      cases ht with | sn hp => exact .sn (ih hp hz)
/-- the form of a closed normal term -/
def Canon : Y → T → Prop
  | .nat, x => x.isNum = true
  | .list, x => x.isList = true
  | .unit, x => x = .un
  | .pair _ _, x => x.isPr = true
  | .fn _ _, x => x.isLm = true
theorem canon {m : Nat} {room : Int} {x : T} : ∀ {a : Y}, HT m [] x a → nx room x = none → Canon a x := by
  induction x with
  | vr i => intro a h _; cases h with | vr h => exact absurd h (by simp)
  | ze => intro a h _; cases h; rfl
  | nl => intro a h _; cases h; rfl
  | un => intro a h _; cases h; rfl
  | lm s b ih => intro a h _; cases h; rfl
  | su n ih => intro a h _; cases h; rfl
  | cn n l i1 i2 => intro a h _; cases h; rfl
  | pr p q i1 i2 => intro a h _; cases h; rfl
  | ap f u i1 i2 =>
    intro a h hn
    simp only [nx] at hn
    split at hn
    · exact absurd hn (by simp)
    · rename_i hl
      cases h with
      | ap hf hu =>
        cases hx : nx room f with
        | some r => rw [hx] at hn; exact absurd hn (by simp)
        | none => exact absurd (i1 hf hx) hl
  | fs p ih =>
    intro a h hn
    simp only [nx] at hn
    split at hn
    · exact absurd hn (by simp)
    · rename_i hl
      cases h with
      | fs hp =>
        cases hx : nx room p with
        | some r => rw [hx] at hn; exact absurd hn (by simp)
        | none => exact absurd (ih hp hx) hl
  | sn p ih =>
    intro a h hn
    simp only [nx] at hn
    split at hn
    · exact absurd hn (by simp)
    · rename_i hl
      cases h with
      | sn hp =>
        cases hx : nx room p with
        | some r => rw [hx] at hn; exact absurd hn (by simp)
        | none => exact absurd (ih hp hx) hl
  | rc s b f n i1 i2 i3 =>
    intro a h hn
    simp only [nx] at hn
    split at hn
    · exact absurd hn (by simp)
    · rename_i hl
      cases h with
      | rc hb hf hp hs =>
        cases hx : nx room n with
        | some r =>
          rw [hx] at hn
          split at hn
          · exact absurd hn (by simp)
          · split at hn <;> exact absurd hn (by simp)
        | none => exact absurd (i3 hp hx) hl
  | fo s b f n i1 i2 i3 =>
    intro a h hn
    simp only [nx] at hn
    split at hn
    · exact absurd hn (by simp)
    · rename_i hl
      cases h with
      | fo hb hf hp hs =>
        cases hx : nx room n with
        | some r =>
          rw [hx] at hn
          split at hn
          · exact absurd hn (by simp)
          · split at hn <;> exact absurd hn (by simp)
        | none => exact absurd (i3 hp hx) hl
/-- what a normalization comes to is typed, and has no redex -/
theorem norm_ok {m : Nat} {G : List Y} {a : Y} : ∀ {n : Nat} {x y : T} {k : Nat}, HT m G x a → norm n x = .ok y k → HT m G y a ∧ ∃ room, nx room y = none := by
  intro n
  induction n with
  | zero =>
    intro x y k h hn
    unfold norm at hn
    split at hn
    · rename_i he; injection hn with h1 h2; subst h1; exact ⟨h, _, he⟩
    · exact absurd hn (by simp)
    · rename_i hz; exact absurd hz (by simp)
    · rename_i hz; exact absurd hz (by simp)
  | succ n ih =>
    intro x y k h hn
    unfold norm at hn
    split at hn
    · injection hn with h1 h2; subst h1; exact ⟨h, _, ‹_›⟩
    · rename_i he; exact absurd he (by simp)
    · exact absurd hn (by simp)
    · rename_i n' he hz
      injection hz with hz
      subst hz
      exact ih (nx_ty h he) hn
/-- more steps -/
theorem norm_more : ∀ {n : Nat} {x y : T} {k : Nat}, norm n x = .ok y k → norm (n + 1) x = .ok y (k + 1) := by
  intro n
  induction n with
  | zero =>
    intro x y k hn
    unfold norm at hn
    split at hn
    · rename_i he
      injection hn with h1 h2
      subst h1; subst h2
      unfold norm; rw [he]
    · exact absurd hn (by simp)
    · rename_i hz; exact absurd hz (by simp)
    · rename_i hz; exact absurd hz (by simp)
  | succ n ih =>
    intro x y k hn
    unfold norm at hn
    split at hn
    · rename_i he
      injection hn with h1 h2
      subst h1; subst h2
      unfold norm; rw [he]
    · rename_i hz; exact absurd hz (by simp)
    · exact absurd hn (by simp)
    · rename_i n' he hz
      injection hz with hz
      subst hz
      have := ih hn
      unfold norm; rw [he]; exact this
end T
namespace Go.Sh
set_option linter.unusedVariables false
theorem _root_.T.tyLe_mono {n m : Nat} {x : T} (h : x.tyLe n) (hm : n ≤ m) : x.tyLe m := by
  induction x with
  | vr i => trivial
  | lm s b ih => exact ⟨Nat.le_trans h.1 hm, ih h.2⟩
  | ap f a i1 i2 => exact ⟨i1 h.1, i2 h.2⟩
  | ze => trivial
  | su n ih => exact ih h
  | rc s b f n i1 i2 i3 => exact ⟨Nat.le_trans h.1 hm, i1 h.2.1, i2 h.2.2.1, i3 h.2.2.2⟩
  | nl => trivial
  | cn f a i1 i2 => exact ⟨i1 h.1, i2 h.2⟩
  | fo s b f n i1 i2 i3 => exact ⟨Nat.le_trans h.1 hm, i1 h.2.1, i2 h.2.2.1, i3 h.2.2.2⟩
  | pr f a i1 i2 => exact ⟨i1 h.1, i2 h.2⟩
  | fs n ih => exact ih h
  | sn n ih => exact ih h
  | un => trivial
theorem _root_.Fo.tyLe_mono {n m : Nat} : ∀ {f : Fo}, f.tyLe n → n ≤ m → f.tyLe m
  | .eq _ _, h, hm => ⟨T.tyLe_mono h.1 hm, T.tyLe_mono h.2 hm⟩
  | .bi _ _ _, h, hm => ⟨Fo.tyLe_mono h.1 hm, Fo.tyLe_mono h.2 hm⟩
  | .q _ _ _, h, hm => ⟨Nat.le_trans h.1 hm, Fo.tyLe_mono h.2 hm⟩
/-- all indexes are at most n -/
def _root_.Fo.le (n : Nat) : Fo → Prop
  | .eq a b => a.le n ∧ b.le n
  | .bi _ f g => f.le n ∧ g.le n
  | .q _ _ f => f.le n
theorem _root_.Fo.le_mono {n m : Nat} : ∀ {f : Fo}, f.le n → n ≤ m → f.le m
  | .eq _ _, h, hm => ⟨T.le_mono h.1 hm, T.le_mono h.2 hm⟩
  | .bi _ f g, h, hm => ⟨Fo.le_mono (f := f) h.1 hm, Fo.le_mono (f := g) h.2 hm⟩
  | .q _ _ f, h, hm => Fo.le_mono (f := f) h hm
/-- how often a variable is free -/
def _root_.Fo.times (c : Nat) : Fo → Nat
  | .eq a b => a.times c + b.times c
  | .bi _ f g => f.times c + g.times c
  | .q _ _ f => f.times (c + 1)
theorem _root_.Fo.times_le : ∀ (f : Fo) (c : Nat), f.times c ≤ f.size
  | .eq a b, c => by have := T.times_le a c; have := T.times_le b c; simp only [Fo.times, Fo.size]; omega
  | .bi _ f g, c => by have := Fo.times_le f c; have := Fo.times_le g c; simp only [Fo.times, Fo.size]; omega
  | .q _ _ f, c => by have := Fo.times_le f (c + 1); simp only [Fo.times, Fo.size]; omega
theorem _root_.Fo.size_put (u : T) : ∀ (f : Fo) (c : Nat), (Fo.put c u f).size + f.times c = f.size + f.times c * u.size
  | .eq a b, c => by have := T.size_put u a c; have := T.size_put u b c; simp only [Fo.put, Fo.times, Fo.size, Nat.add_mul] at *; omega
  | .bi _ f g, c => by have := Fo.size_put u f c; have := Fo.size_put u g c; simp only [Fo.put, Fo.times, Fo.size, Nat.add_mul] at *; omega
  | .q _ _ f, c => by have := Fo.size_put u f (c + 1); simp only [Fo.put, Fo.times, Fo.size] at *; omega
theorem _root_.T.tyLe_up {n : Nat} {x : T} (h : x.tyLe n) : ∀ c m, (x.up c m).tyLe n := by
  induction x with
  | vr i => intro c m; simp only [T.up]; split <;> trivial
  | lm s b ih => intro c m; exact ⟨h.1, ih h.2 _ _⟩
  | ap f a i1 i2 => intro c m; exact ⟨i1 h.1 _ _, i2 h.2 _ _⟩
  | ze => intros; trivial
  | su n ih => intro c m; exact ih h _ _
  | rc s b f n i1 i2 i3 => intro c m; exact ⟨h.1, i1 h.2.1 _ _, i2 h.2.2.1 _ _, i3 h.2.2.2 _ _⟩
  | nl => intros; trivial
  | cn f a i1 i2 => intro c m; exact ⟨i1 h.1 _ _, i2 h.2 _ _⟩
  | fo s b f n i1 i2 i3 => intro c m; exact ⟨h.1, i1 h.2.1 _ _, i2 h.2.2.1 _ _, i3 h.2.2.2 _ _⟩
  | pr f a i1 i2 => intro c m; exact ⟨i1 h.1 _ _, i2 h.2 _ _⟩
  | fs n ih => intro c m; exact ih h _ _
  | sn n ih => intro c m; exact ih h _ _
  | un => intros; trivial
theorem _root_.T.tyLe_put {n : Nat} {u x : T} (hu : u.tyLe n) (h : x.tyLe n) : ∀ c, (T.put c u x).tyLe n := by
  induction x with
  | vr i =>
    intro c; simp only [T.put]
    split
    · exact T.tyLe_up hu _ _
    · split <;> trivial
  | lm s b ih => intro c; exact ⟨h.1, ih h.2 _⟩
  | ap f a i1 i2 => intro c; exact ⟨i1 h.1 _, i2 h.2 _⟩
  | ze => intros; trivial
  | su n ih => intro c; exact ih h _
  | rc s b f n i1 i2 i3 => intro c; exact ⟨h.1, i1 h.2.1 _, i2 h.2.2.1 _, i3 h.2.2.2 _⟩
  | nl => intros; trivial
  | cn f a i1 i2 => intro c; exact ⟨i1 h.1 _, i2 h.2 _⟩
  | fo s b f n i1 i2 i3 => intro c; exact ⟨h.1, i1 h.2.1 _, i2 h.2.2.1 _, i3 h.2.2.2 _⟩
  | pr f a i1 i2 => intro c; exact ⟨i1 h.1 _, i2 h.2 _⟩
  | fs n ih => intro c; exact ih h _
  | sn n ih => intro c; exact ih h _
  | un => intros; trivial
theorem _root_.Fo.tyLe_put {n : Nat} {u : T} (hu : u.tyLe n) : ∀ {f : Fo}, f.tyLe n → ∀ c, (Fo.put c u f).tyLe n
  | .eq _ _, h, c => ⟨T.tyLe_put hu h.1 c, T.tyLe_put hu h.2 c⟩
  | .bi _ f g, h, c => ⟨Fo.tyLe_put hu (f := f) h.1 c, Fo.tyLe_put hu (f := g) h.2 c⟩
  | .q _ _ f, h, c => ⟨h.1, Fo.tyLe_put hu (f := f) h.2 _⟩
theorem _root_.Fo.bothE_put (u : T) : ∀ (f : Fo) (c : Nat), (Fo.put c u f).bothE = f.bothE
  | .eq _ _, c => rfl
  | .bi _ f g, c => by simp only [Fo.put, Fo.bothE, Fo.bothE_put u f, Fo.bothE_put u g]
  | .q _ _ f, c => by simp only [Fo.put, Fo.bothE, Fo.bothE_put u f]
theorem _root_.Fo.le_of_ok {m n : Nat} : ∀ {f : Fo} {G : List Y}, Fo.Ok m G f → G.length + f.size ≤ n → f.le n
  | .eq a b, G, h, hn => by
    simp only [Fo.size] at hn
    cases h with
    | eq ha hb => exact ⟨T.le_mono (T.le_of_sc ha.sc) (by omega), T.le_mono (T.le_of_sc hb.sc) (by omega)⟩
  | .bi _ f g, G, h, hn => by
    simp only [Fo.size] at hn
    cases h with
    | bi hf hg => exact ⟨Fo.le_of_ok (f := f) hf (by omega), Fo.le_of_ok (f := g) hg (by omega)⟩
  | .q _ s f, G, h, hn => by
    simp only [Fo.size] at hn
    cases h with
    | q hf => exact Fo.le_of_ok (f := f) hf (by simp only [List.length_cons]; omega)
section
variable {TT : TypeId → Option TI} {G : Gl} {CR : CRel} {ops : Array Oper} {fr : Fr}
/-- a call that returns the address of a new variable -/
theorem WO.new {l : List Nat} {R : Fr → Prop} {o : Oper} {i d k off : Nat} {cl : Call} {fv : Operand} {f : FuncId} {args cs : List AV} {st' : St} (hcall : CR f args [] (.vp k off) st') (hst : st'[k]? = some (some cs)) (hcs : cs.all AV.pf = true) (ho : ops[i]? = some o) (hg : gOk ops fr o = true) (hd : o.dst = some d) (hop : o.op = .call cl) (hc : cl.callee = .value fv) (hf : fr.ev G fv = .fn f [])
    (hargs : (cl.args.toList.all fun x => (fr.ev G x).pf) = true) (ha : (cl.args.toList.map fun x => (fr.ev G x).pl) = args)
    (h2 : WO TT G CR ops l R (({ fr with st := fr.st ++ [some (cs.map AV.pl)] } : Fr).put (some d) (.vp fr.st.length off))) : WO TT G CR ops (i :: l) R fr :=
  .op ho hg (.callNew hop hc hf (List.all_eq_true.1 hargs) ha.symm hcall hst (List.all_eq_true.1 hcs)) (by rw [hd]; exact h2)
end
end Go.Sh
namespace Go.Sh
set_option linter.unusedVariables false
/-! calls that are handed variables, also by way of a closure -/
def ix : List Nat → Nat → Nat
  | [], _ => 0
  | v :: vs, w => cond (Nat.beq v w) 0 (ix vs w + 1)
theorem ix_get : ∀ {vs : List Nat} {w : Nat}, Nat.blt (ix vs w) vs.length = true → vs[ix vs w]? = some w
  | [], w, h => by simp [ix, Nat.blt, Nat.ble] at h
  | v :: vs, w, h => by
    simp only [ix] at h ⊢
    cases hb : Nat.beq v w with
    | true => have := Nat.eq_of_beq_eq_true hb; subst this; simp
    | false =>
      rw [hb] at h
      simp only [cond_false, List.getElem?_cons_succ] at h ⊢
      exact ix_get (vs := vs) (by have := Nat.le_of_ble_eq_true h; simp at this; exact Nat.ble_eq_true_of_le (by omega))
def ren0 (vs : List Nat) : AV → AV
  | .vp v off => .vp (ix vs v) off
  | x => x.pl
def ren1 (vs : List Nat) : AV → AV
  | .fn f caps => .fn f (caps.map (ren0 vs))
  | x => ren0 vs x
def rok0 (vs : List Nat) : AV → Bool
  | .vp v _ => Nat.blt (ix vs v) vs.length
  | x => x.pf
def rok1 (vs : List Nat) : AV → Bool
  | .fn _ caps => caps.all (rok0 vs)
  | x => rok0 vs x
theorem ren0_ok {vs : List Nat} {x : AV} (h : rok0 vs x = true) : Ren vs x (ren0 vs x) := by
  cases x <;> simp only [rok0, ren0] at h ⊢
  case vp v off => exact .vp (ix_get h)
  all_goals exact .pf h
theorem ren1_ok {vs : List Nat} {x : AV} (h : rok1 vs x = true) : Ren vs x (ren1 vs x) := by
  cases x <;> simp only [rok1, ren1] at h ⊢
  case fn f caps =>
    refine .fn (by simp) (fun j x y hx hy => ?_)
    rw [List.getElem?_map, hx] at hy
    obtain rfl := Option.some.inj hy
    exact ren0_ok (List.all_eq_true.1 h _ (List.mem_of_getElem? hx))
  all_goals exact ren0_ok h
/-- a call that is handed variables: what it returns, and what it leaves of them -/
def GivesV (CR : CRel) (f : FuncId) (args : List AV) (st0 : St) (res : AV) (st1 : St) : Prop := ∃ st', CR f args st0 res st' ∧ st'.take st0.length = st1
theorem wb_take : ∀ (vs : List Nat) (st st' : St), wb st vs st' = wb st vs (st'.take vs.length)
  | [], st, st' => by cases st' <;> rfl
  | v :: vs, st, [] => rfl
  | v :: vs, st, x :: st' => by
    simp only [List.length_cons, List.take_succ_cons, wb]
    exact wb_take vs _ st'
def cok : Option (List AV) → Bool
  | some cs => cs.all AV.pf
  | none => false
def cok2 (st : St) (v : Nat) : Bool := match st[v]? with
  | some x => cok x
  | none => false
theorem cok2_spec {st : St} {v : Nat} (h : cok2 st v = true) : ∃ cs, st[v]? = some (some cs) ∧ ∀ x ∈ cs, AV.pf x = true := by
  unfold cok2 at h
  split at h
  · rename_i x hx
    cases x with
    | none => exact absurd h (by simp [cok])
    | some cs => exact ⟨cs, hx, List.all_eq_true.1 h⟩
  · cases h
section
variable {TT : TypeId → Option TI} {G : Gl} {CR : CRel} {ops : Array Oper} {fr : Fr} {o : Oper} {M : St} {FV : List Nat} {R : Fr → Prop} {l : List Nat}
theorem givesV_op {vs : List Nat} {cl : Call} {f : FuncId} {caps args : List AV} {res : AV} {st0 st1 : St} (hcall : GivesV CR f args st0 res st1)
    (hok : ((cl.args.toList.map (fr.ev G) ++ caps).all (rok1 vs)) = true) (ha : (cl.args.toList.map (fr.ev G) ++ caps).map (ren1 vs) = args)
    (hst : vs.map (fun v => (fr.st[v]?).map (Option.map (List.map AV.pl))) = st0.map some) (hpf : vs.all (cok2 fr.st) = true) (hl1 : Nat.beq st1.length vs.length = true) (hst1 : st1.all cok = true) :
    ∃ st' : St, args.length = cl.args.size + caps.length ∧ (∀ (j : Nat) (x y : AV), (cl.args.toList.map (fr.ev G) ++ caps)[j]? = some x → args[j]? = some y → Ren vs x y) ∧ st0.length = vs.length ∧ vs.length ≤ st'.length ∧
      (∀ (i v : Nat), vs[i]? = some v → ∃ cs : List AV, fr.st[v]? = some (some cs) ∧ st0[i]? = some (some (cs.map AV.pl)) ∧ ∀ x ∈ cs, AV.pf x = true) ∧ CR f args st0 res st' ∧
      (∀ i, i < vs.length → ∃ cs : List AV, st'[i]? = some (some cs) ∧ ∀ x ∈ cs, AV.pf x = true) ∧ wb fr.st vs st' = wb fr.st vs st1 := by
  obtain ⟨st', hc, ht⟩ := hcall
  have hl0 : st0.length = vs.length := by have := congrArg List.length hst; simpa using this.symm
  have hl1 := Nat.eq_of_beq_eq_true hl1
  have hlt : vs.length ≤ st'.length := by
    have := congrArg List.length ht
    rw [List.length_take, hl1, hl0] at this; omega
  refine ⟨st', ?_, ?_, hl0, hlt, ?_, hc, ?_, ?_⟩
  · rw [← ha]; simp
  · intro j x y hx hy
    rw [← ha, List.getElem?_map, hx] at hy
    obtain rfl := Option.some.inj hy
    exact ren1_ok (List.all_eq_true.1 hok _ (List.mem_of_getElem? hx))
  · intro i v hi
    obtain ⟨cs, h1, h2⟩ := cok2_spec (List.all_eq_true.1 hpf v (List.mem_of_getElem? hi))
    refine ⟨cs, h1, ?_, h2⟩
    have := congrArg (fun l => l[i]?) hst
    simp only [List.getElem?_map, hi, Option.map_some, h1] at this
    cases h3 : st0[i]? with
    | none => rw [h3] at this; cases this
    | some y => rw [h3] at this; simp only [Option.map_some, Option.some.injEq] at this; rw [this]
  · intro i hi
    have h3 : st'[i]? = st1[i]? := by rw [← ht, List.getElem?_take, if_pos (by omega)]
    have hi1 : i < st1.length := by omega
    have h4 := List.all_eq_true.1 hst1 _ (List.getElem_mem hi1)
    rw [h3, List.getElem?_eq_getElem hi1]
    cases h5 : st1[i] with
    | none => rw [h5] at h4; cases h4
    | some cs => rw [h5] at h4; exact ⟨cs, rfl, List.all_eq_true.1 h4⟩
  · rw [wb_take, ← hl0, ht]
theorem WO.givesV {i d : Nat} (vs : List Nat) {cl : Call} {fv : Operand} {f : FuncId} {caps args : List AV} {res : AV} {st0 st1 : St} (hcall : GivesV CR f args st0 res st1) (hnd : vs.Nodup) (ho : ops[i]? = some o) (hg : gOk ops fr o = true) (hd : o.dst = some d) (hop : o.op = .call cl) (hc : cl.callee = .value fv) (hf : fr.ev G fv = .fn f caps)
    (hok : ((cl.args.toList.map (fr.ev G) ++ caps).all (rok1 vs)) = true) (ha : (cl.args.toList.map (fr.ev G) ++ caps).map (ren1 vs) = args)
    (hst : vs.map (fun v => (fr.st[v]?).map (Option.map (List.map AV.pl))) = st0.map some) (hpf : vs.all (cok2 fr.st) = true) (hl1 : Nat.beq st1.length vs.length = true) (hst1 : st1.all cok = true) (hres : res.pf = true)
    (h2 : WO TT G CR ops l R (({ fr with st := wb fr.st vs st1 } : Fr).put (some d) res.st)) : WO TT G CR ops (i :: l) R fr := by
  obtain ⟨st', h3, h4, h5, h6, h7, h8, h9, h10⟩ := givesV_op (G := G) hcall hok ha hst hpf hl1 hst1
  refine .op ho hg (.callV hop hc hf h3 h4 hnd h5 h6 h7 h8 (.inl hres) h9) ?_
  rw [hd, h10]; exact h2
theorem WD.givesV {i d : Nat} (vs : List Nat) {cl : Call} {fv : Operand} {f : FuncId} {caps args : List AV} {res : AV} {st0 st1 : St} (hcall : GivesV CR f args st0 res st1) (hnd : vs.Nodup) (ho : ops[i]? = some o) (hg : gOk ops fr o = true) (hd : o.dst = some d) (hop : o.op = .call cl) (hc : cl.callee = .value fv) (hf : fr.ev G fv = .fn f caps)
    (hok : ((cl.args.toList.map (fr.ev G) ++ caps).all (rok1 vs)) = true) (ha : (cl.args.toList.map (fr.ev G) ++ caps).map (ren1 vs) = args)
    (hst : vs.map (fun v => (fr.st[v]?).map (Option.map (List.map AV.pl))) = st0.map some) (hpf : vs.all (cok2 fr.st) = true) (hl1 : Nat.beq st1.length vs.length = true) (hst1 : st1.all cok = true) (hres : res.pf = true) (hFV : vs.all (fun v => FV.contains v) = true)
    (h2 : WD TT G CR M FV ops l R (({ fr with st := wb fr.st vs st1 } : Fr).put (some d) res.st)) : WD TT G CR M FV ops (i :: l) R fr := by
  obtain ⟨st', h3, h4, h5, h6, h7, h8, h9, h10⟩ := givesV_op (G := G) hcall hok ha hst hpf hl1 hst1
  refine .op ho hg (.callV hop hc hf h3 h4 hnd h5 h6 h7 h8 (.inl hres) h9 (fun v hv => by simpa using List.all_eq_true.1 hFV v hv)) ?_
  rw [hd, h10]; exact h2
theorem givesVW {P : Program} {X : CRel} {f : FuncId} {fn : Func} {c : Code} {args : List AV} {res : AV} {st0 st1 : St} (hfn : P.funcs[f]? = some fn) (hb : fn.body = some c) (hn : (fn.name == "runtime.NumGoroutine") = false) (hl : Nat.ble args.length fn.ntmps = true)
    (h : W TT G (ACall P TT G X) fn.ntmps st0.length c (EndW TT fn (fun rs st' => resOf rs = res ∧ st'.take st0.length = st1)) (start args st0)) : GivesV (ACall P TT G X) f args st0 res st1 := by
  obtain ⟨rs, st', h1, rfl, h2⟩ := callW hfn hb hn hl h
  exact ⟨st', h1, h2⟩
end
end Go.Sh
namespace Go.Sh
set_option linter.unusedVariables false
theorem Fr.put_same {fr : Fr} {t : Nat} {v : AV} (h : fr.tm t = v) : fr.put (some t) v = fr := by
  cases fr with
  | mk tm st nid =>
    have e : (fun i => cond (Nat.beq i t) v (tm i)) = tm := by
      funext i
      cases hb : Nat.beq i t with
      | false => rfl
      | true => have := Nat.eq_of_beq_eq_true hb; subst this; exact h.symm
    show Fr.mk _ st nid = _
    rw [e]
section
variable {TT : TypeId → Option TI} {G : Gl} {CR : CRel} {ops : Array Oper} {fr : Fr} {M : St} {FV : List Nat} {R : Fr → Prop} {l : List Nat}
/-- a temporary's value is written otherwise -/
theorem WO.fix (t : Nat) {v : AV} (h : fr.tm t = v) (h2 : WO TT G CR ops l R (fr.put (some t) v)) : WO TT G CR ops l R fr := by rwa [Fr.put_same h] at h2
theorem WD.fix (t : Nat) {v : AV} (h : fr.tm t = v) (h2 : WD TT G CR M FV ops l R (fr.put (some t) v)) : WD TT G CR M FV ops l R fr := by rwa [Fr.put_same h] at h2
end
end Go.Sh
namespace Go.Sh
/-! the matrix, with its bounds on sizes -/
abbrev zF : List AV := [.int .i64 0, .int .i64 0, .sl .no [], .sl .no [], .sl .no []]
open Fo in
def twoR (k : Bk) : Option Fo → Option Fo → Option Fo
  | some x, some y => if (Fo.bi k x y).size ≤ 4096 then some (.bi k x y) else none
  | _, _ => none
def putR (f : Fo) (x : T) (r : Option Fo) : Option Fo := if x.size ≤ 4096 ∧ (Fo.put 0 x f).size ≤ 4096 then r else none
def MR : Nat → Fo → T → T → Option Fo
  | 0, _, _, _ => none
  | n + 1, f, w, c => if w.size ≤ 4096 ∧ c.size ≤ 4096 then (match f with
    | .eq a b => some (.eq a b)
    | .bi .an f g => twoR .an (MR n f (T.left f.both.1 g.both.1 w) (T.left f.both.2 g.both.2 c)) (MR n g (T.right f.both.1 g.both.1 w) (T.right f.both.2 g.both.2 c))
    | .bi .im f g =>
      twoR .im (MR n f (T.left f.both.1 g.both.2 c) (T.call g.both.2 f.both.2 (T.call f.both.1 (Y.fns g.both.2 f.both.2) (T.right (Y.fns f.both.1 g.both.1) (Y.fns f.both.1 (Y.fns g.both.2 f.both.2)) w) (T.left f.both.1 g.both.2 c)) (T.right f.both.1 g.both.2 c)))
        (MR n g (T.call f.both.1 g.both.1 (T.left (Y.fns f.both.1 g.both.1) (Y.fns f.both.1 (Y.fns g.both.2 f.both.2)) w) (T.left f.both.1 g.both.2 c)) (T.right f.both.1 g.both.2 c))
    | .q .al s f => putR f (T.left s f.both.2 c) (MR n (Fo.put 0 (T.left s f.both.2 c) f) (T.call s f.both.1 w (T.left s f.both.2 c)) (T.right s f.both.2 c))
    | .q .ex s f => putR f (T.left s f.both.1 w) (MR n (Fo.put 0 (T.left s f.both.1 w) f) (T.right s f.both.1 w) c)
    | .q .au _ _ => none
    | .q .eu _ _ => none) else none
theorem twoR_some {k : Bk} {a b : Option Fo} {m : Fo} (h : twoR k a b = some m) : ∃ x y, a = some x ∧ b = some y ∧ m = .bi k x y ∧ m.size ≤ 4096 := by
  unfold twoR at h
  split at h
  · split at h
    · rename_i x y hs
      injection h with h; subst h; exact ⟨_, _, rfl, rfl, rfl, hs⟩
    · cases h
  · cases h
theorem putR_some {f : Fo} {x : T} {r : Option Fo} {m : Fo} (h : putR f x r = some m) : r = some m ∧ x.size ≤ 4096 ∧ (Fo.put 0 x f).size ≤ 4096 := by
  unfold putR at h
  split at h
  · rename_i hs; exact ⟨h, hs⟩
  · cases h
theorem MR_M {n : Nat} : ∀ {f : Fo} {w c : T} {m : Fo}, MR n f w c = some m → m = Fo.M n f w c ∧ (f.size ≤ 4096 → m.size ≤ 4096) := by
  induction n with
  | zero => intro f w c m h; cases h
  | succ n ih =>
    intro f w c m h
    simp only [MR] at h
    split at h
    · rcases f with ⟨a, b⟩ | ⟨_ | _, f, g⟩ | ⟨_ | _ | _ | _, s, f⟩
      · injection h with h; subst h; exact ⟨rfl, id⟩
      · obtain ⟨x, y, h1, h2, h3, h4⟩ := twoR_some h
        exact ⟨by rw [h3, (ih h1).1, (ih h2).1]; rfl, fun _ => h4⟩
      · obtain ⟨x, y, h1, h2, h3, h4⟩ := twoR_some h
        exact ⟨by rw [h3, (ih h1).1, (ih h2).1]; rfl, fun _ => h4⟩
      · obtain ⟨h1, h2, h3⟩ := putR_some h
        exact ⟨by rw [(ih h1).1]; rfl, fun _ => (ih h1).2 h3⟩
      · obtain ⟨h1, h2, h3⟩ := putR_some h
        exact ⟨by rw [(ih h1).1]; rfl, fun _ => (ih h1).2 h3⟩
      · cases h
      · cases h
    · cases h
theorem left_size (a b : Y) (t : T) : (T.left a b t).size ≤ t.size + 1 := by unfold T.left; repeat (first | split | omega | (simp only [T.size]; omega))
theorem right_size (a b : Y) (t : T) : (T.right a b t).size ≤ t.size + 1 := by unfold T.right; repeat (first | split | omega | (simp only [T.size]; omega))
theorem call_size (a b : Y) (f t : T) : (T.call a b f t).size ≤ f.size + t.size + 1 := by unfold T.call; repeat (first | split | omega | (simp only [T.size]; omega))
theorem left_tyLe {n : Nat} {a b : Y} {t : T} (h : t.tyLe n) : (T.left a b t).tyLe n := by unfold T.left; split; trivial; split; exact h; exact h
theorem right_tyLe {n : Nat} {a b : Y} {t : T} (h : t.tyLe n) : (T.right a b t).tyLe n := by unfold T.right; split; trivial; split; exact h; exact h
theorem call_tyLe {n : Nat} {a b : Y} {f t : T} (hf : f.tyLe n) (h : t.tyLe n) : (T.call a b f t).tyLe n := by unfold T.call; split; trivial; split; exact hf; exact ⟨hf, h⟩
theorem bothE_bi {k : Bk} {f g : Fo} {p : Y × Y} (h : (Fo.bi k f g).bothE = some p) : (∃ a, f.bothE = some a) ∧ ∃ b, g.bothE = some b := by
  simp only [Fo.bothE] at h
  split at h
  · rename_i a b ha hb; exact ⟨⟨a, ha⟩, ⟨b, hb⟩⟩
  · cases h
theorem bothE_q {k : Qk} {s : Y} {f : Fo} {p : Y × Y} (h : (Fo.q k s f).bothE = some p) : ∃ a, f.bothE = some a := by
  simp only [Fo.bothE] at h
  split at h
  · rename_i a ha; exact ⟨a, ha⟩
  · cases h
theorem bothE_get {f : Fo} (hp : f.pure) (h : ∃ p, f.bothE = some p) : f.bothE = some f.both := by
  obtain ⟨p, h⟩ := h
  rw [h, Fo.bothE_both hp h]
end Go.Sh
namespace Go.Sh
theorem Fr.ext2 {a b : Fr} (h1 : ∀ i, a.tm i = b.tm i) (h2 : a.st = b.st) (h3 : a.nid = b.nid) : a = b := by
  cases a; cases b; simp only at h2 h3; subst h2; subst h3; congr 1; funext i; exact h1 i
theorem cond2 {a b : Nat} (h : Nat.beq a b = false) (i : Nat) (x y z : AV) : cond (Nat.beq i a) x (cond (Nat.beq i b) y z) = cond (Nat.beq i b) y (cond (Nat.beq i a) x z) := by
  cases ha : Nat.beq i a with
  | false => rfl
  | true =>
    cases hb : Nat.beq i b with
    | false => rfl
    | true =>
      have := Nat.eq_of_beq_eq_true ha; subst this
      rw [hb] at h; cases h
end Go.Sh
namespace Go.Sh
/-! three results in whatever order -/
theorem c3 {a b c i : Nat} {x y z w p : AV} (ha : Nat.beq i a = true → p = x) (hb : Nat.beq i b = true → p = y) (hc : Nat.beq i c = true → p = z) (hn : Nat.beq i a = false → Nat.beq i b = false → Nat.beq i c = false → p = w) : p = cond (Nat.beq i a) x (cond (Nat.beq i b) y (cond (Nat.beq i c) z w)) := by
  cases h1 : Nat.beq i a with
  | true => exact ha h1
  | false => cases h2 : Nat.beq i b with
    | true => exact hb h2
    | false => cases h3 : Nat.beq i c with
      | true => exact hc h3
      | false => exact hn h1 h2 h3
theorem c3n {a b c i : Nat} {x y z w : AV} (h1 : Nat.beq i a = false) (h2 : Nat.beq i b = false) (h3 : Nat.beq i c = false) : cond (Nat.beq i a) x (cond (Nat.beq i b) y (cond (Nat.beq i c) z w)) = w := by
  rw [h1, h2, h3]; rfl
end Go.Sh
namespace Go.Sh
section
variable {TT : TypeId → Option TI} {G : Gl} {CR : CRel} {ops : Array Oper} {fr : Fr} {o : Oper} {M : St} {FV : List Nat} {R : Fr → Prop} {l : List Nat}
theorem WO.givesVT {i d : Nat} (vs : List Nat) {cl : Call} {fv : Operand} {f : FuncId} {caps args : List AV} {rs : List AV} {st0 st1 : St} (hcall : GivesV CR f args st0 (.tup rs) st1) (hnd : vs.Nodup) (ho : ops[i]? = some o) (hg : gOk ops fr o = true) (hd : o.dst = some d) (hop : o.op = .call cl) (hc : cl.callee = .value fv) (hf : fr.ev G fv = .fn f caps)
    (hok : ((cl.args.toList.map (fr.ev G) ++ caps).all (rok1 vs)) = true) (ha : (cl.args.toList.map (fr.ev G) ++ caps).map (ren1 vs) = args)
    (hst : vs.map (fun v => (fr.st[v]?).map (Option.map (List.map AV.pl))) = st0.map some) (hpf : vs.all (cok2 fr.st) = true) (hl1 : Nat.beq st1.length vs.length = true) (hst1 : st1.all cok = true) (hres : rs.all AV.pf = true)
    (h2 : WO TT G CR ops l R (({ fr with st := wb fr.st vs st1 } : Fr).put (some d) (.tup rs))) : WO TT G CR ops (i :: l) R fr := by
  obtain ⟨st', h3, h4, h5, h6, h7, h8, h9, h10⟩ := givesV_op (G := G) hcall hok ha hst hpf hl1 hst1
  refine .op ho hg (.callV hop hc hf h3 h4 hnd h5 h6 h7 h8 (.inr ⟨rs, rfl, List.all_eq_true.1 hres⟩) h9) ?_
  rw [hd, h10]; exact h2
end
theorem M_tyLe {k : Nat} {n : Nat} : ∀ {f : Fo} {w c : T}, Fo.bone f ≤ n → f.pure → f.tyLe k → w.tyLe k → c.tyLe k → (Fo.M n f w c).tyLe k := by
  induction n with
  | zero => intro f w c hn _; cases f <;> simp only [Fo.bone] at hn <;> omega
  | succ n ih =>
    intro f w c hn hp hf hw hc
    cases f with
    | eq a b => exact hf
    | bi q f g =>
      simp only [Fo.bone] at hn
      cases q with
      | an => exact ⟨ih (by omega) hp.1 hf.1 (left_tyLe hw) (left_tyLe hc), ih (by omega) hp.2 hf.2 (right_tyLe hw) (right_tyLe hc)⟩
      | im => exact ⟨ih (by omega) hp.1 hf.1 (left_tyLe hc) (call_tyLe (call_tyLe (right_tyLe hw) (left_tyLe hc)) (right_tyLe hc)), ih (by omega) hp.2 hf.2 (call_tyLe (left_tyLe hw) (left_tyLe hc)) (right_tyLe hc)⟩
    | q q s f =>
      simp only [Fo.bone] at hn
      cases q with
      | al => simp only [Fo.M]; exact ih (by rw [Fo.bone_put]; omega) (Fo.pure_put _ _ _ hp.2) (Fo.tyLe_put (left_tyLe hc) hf.2 0) (call_tyLe hw (left_tyLe hc)) (right_tyLe hc)
      | ex => simp only [Fo.M]; exact ih (by rw [Fo.bone_put]; omega) (Fo.pure_put _ _ _ hp.2) (Fo.tyLe_put (left_tyLe hw) hf.2 0) (right_tyLe hw) hc
      | au => exact absurd hp.1 (by simp)
      | eu => exact absurd hp.1 (by simp)
end Go.Sh
namespace Go.Sh
theorem M_fuel {n : Nat} : ∀ {k : Nat} {f : Fo} {w c : T}, Fo.bone f ≤ n → Fo.bone f ≤ k → f.pure → Fo.M n f w c = Fo.M k f w c := by
  induction n with
  | zero => intro k f w c hn _ _; cases f <;> simp only [Fo.bone] at hn <;> omega
  | succ n ih =>
    intro k f w c hn hk hp
    cases k with
    | zero => cases f <;> simp only [Fo.bone] at hk <;> omega
    | succ k =>
      cases f with
      | eq a b => rfl
      | bi q f g =>
        simp only [Fo.bone] at hn hk
        cases q <;> simp only [Fo.M] <;> rw [ih (k := k) (f := f) (by omega) (by omega) hp.1, ih (k := k) (f := g) (by omega) (by omega) hp.2]
      | q q s f =>
        simp only [Fo.bone] at hn hk
        cases q with
        | al => simp only [Fo.M]; rw [ih (k := k) (by rw [Fo.bone_put]; omega) (by rw [Fo.bone_put]; omega) (Fo.pure_put _ _ _ hp.2)]
        | ex => simp only [Fo.M]; rw [ih (k := k) (by rw [Fo.bone_put]; omega) (by rw [Fo.bone_put]; omega) (Fo.pure_put _ _ _ hp.2)]
        | au => exact absurd hp.1 (by simp)
        | eu => exact absurd hp.1 (by simp)
theorem fns_un (v : Y) : Y.fns v .unit = .unit := rfl
theorem fns_un2 (p : Y) : Y.fns .unit p = p := by cases p <;> rfl
theorem fns_isUn {v p : Y} (hp : p.isUn = false) : (Y.fns v p).isUn = false := by
  unfold Y.fns
  rw [hp]
  cases v <;> simp [Y.isUn] <;> first | exact hp | rfl
/-- the matrix of a negation -/
theorem M_not {f : Fo} {a b : T} {v p : Y} (n : Nat) (F w : T) (hn : Fo.bone f ≤ n) (hf : f.pure) (hb : f.both = (v, p)) (hp : p.isUn = false) :
    Fo.M (n + 1) (.bi .im f (.eq a b)) F w = .bi .im (Fo.M (Fo.bone f) f (if v.isUn then .un else w) (T.call v p F (if v.isUn then .un else w))) (Fo.M n (.eq a b) (T.call v .unit (T.left .unit (Y.fns v p) F) (if v.isUn then .un else w)) (T.right v .unit w)) := by
  simp only [Fo.M, Fo.both, hb, fns_un, fns_un2]
  have e1 : T.left v .unit w = if v.isUn then .un else w := by
    unfold T.left
    split
    · rfl
    · rfl
  have e2 : T.right .unit (Y.fns v p) F = F := by
    unfold T.right
    rw [if_neg (by rw [fns_isUn hp]; decide)]
    rfl
  have e3 : ∀ x y, T.call .unit p x y = x := fun x y => by
    unfold T.call
    rw [if_neg (by rw [hp]; decide)]
    rfl
  rw [e1, e2, e3, M_fuel hn (Nat.le_refl _) hf]
theorem M_eq (n : Nat) (a b w c : T) : Fo.M n (.eq a b) w c = .eq a b := by cases n <;> rfl
end Go.Sh
namespace Go.Sh
/-! slices of which the lengths are symbolic -/
section
variable {TT : TypeId → Option TI} {G : Gl} {CR : CRel} {ops : Array Oper} {fr : Fr} {o : Oper} {M : St} {FV : List Nat} {R : Fr → Prop} {l : List Nat}
theorem slice_pure {st : St} {ev : Operand → AV} {t e : TypeId} {x h m : Operand} {ti ei : TI} {k k2 : IntKind} {n n2 : Int} {ow : Own} {rows : List (List AV)} (ht : TT t = some ti) (hel : ti.elem = some e) (he : TT e = some ei)
    (hx : ev x = .sl ow rows) (hh : ev h = .int k n) (hm : ev m = .int k2 n2) (hn : n = (rows.length : Nat)) (hn2 : n2 = (rows.length : Nat)) (hL : Lens ei.size rows) : aPure TT st ev (.slice t x none (some h) (some m)) = some (.sl .full rows) := by
  have hall : rows.all (fun r => Nat.beq r.length ei.size) = true := List.all_eq_true.2 fun r hr => by rw [hL r hr]; exact Nat.beq_refl _
  subst hn; subst hn2
  simp only [aPure, ht, Option.bind_some, hel, hx, he, aSlice, Option.map_none, Option.map_some, aBnd, hh, hm]
  simp [hall]
/-- a slice, with no room beyond it -/
theorem WO.slice3 {i d : Nat} {t e : TypeId} {x h m : Operand} {ti ei : TI} {k k2 : IntKind} {n n2 : Int} {ow : Own} {rows : List (List AV)} (hn : n = (rows.length : Nat)) (hn2 : n2 = (rows.length : Nat)) (hL : Lens ei.size rows) (ho : ops[i]? = some o) (hg : gOk ops fr o = true) (hd : o.dst = some d) (hop : o.op = .slice t x none (some h) (some m))
    (ht : TT t = some ti) (hel : ti.elem = some e) (he : TT e = some ei) (hx : fr.ev G x = .sl ow rows) (hh : fr.ev G h = .int k n) (hm : fr.ev G m = .int k2 n2) (h2 : WO TT G CR ops l R (fr.put (some d) (.sl .full rows))) : WO TT G CR ops (i :: l) R fr :=
  .pure _ ho hg hd (by rw [hop]; exact slice_pure ht hel he hx hh hm hn hn2 hL) h2
theorem WD.slice3 {i d : Nat} {t e : TypeId} {x h m : Operand} {ti ei : TI} {k k2 : IntKind} {n n2 : Int} {ow : Own} {rows : List (List AV)} (hn : n = (rows.length : Nat)) (hn2 : n2 = (rows.length : Nat)) (hL : Lens ei.size rows) (ho : ops[i]? = some o) (hg : gOk ops fr o = true) (hd : o.dst = some d) (hop : o.op = .slice t x none (some h) (some m))
    (ht : TT t = some ti) (hel : ti.elem = some e) (he : TT e = some ei) (hx : fr.ev G x = .sl ow rows) (hh : fr.ev G h = .int k n) (hm : fr.ev G m = .int k2 n2) (h2 : WD TT G CR M FV ops l R (fr.put (some d) (.sl .full rows))) : WD TT G CR M FV ops (i :: l) R fr :=
  .pure _ ho hg hd (by rw [hop]; exact slice_pure ht hel he hx hh hm hn hn2 hL) h2
end
end Go.Sh
