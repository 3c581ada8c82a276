import Derived.Test.YtonmkjcilepdcaaGreatDoorEvR
/- The evaluator: a region that draws its order, every order at once. -/
noncomputable section
namespace Go.Proofs.YtonmkjcilepdcaaGreatDoor
open Go.RowKit
set_option maxRecDepth 20000
set_option maxHeartbeats 4000000

theorem OpOk.act {C : Ctx} {E : SE} {H H2 : SH} {l : List Oper} {o : Oper} {u : SV} (h : OpOk C E H o u H2) (hsel : ∀ cs b, o.op ≠ .select cs b) {σ : Nm} (hE : ∀ d v, (denE σ E).get d = some v → d < C.n)
    {a : Act} {w : World} {M : Hp} (hsz : a.tmps.size = C.n) (hget : ∀ d ∈ slotsOf l.toArray o, ∀ v, (denE σ E).get d = some v → a.tmps[d]? = some v) (hs : St C (denH σ H ++ M) w) :
    Outcome C.P (fun x w' => ∃ σ', agree H.length H2.length σ σ' ∧ x = den σ' u ∧ St C (denH σ' H2 ++ M) w') ((execOp a.eval o).run C.P w) := by
  let a' : Act := { tmps := Array.ofFn (n := C.n) fun i => ((denE σ E).get i).getD (a.tmps.getD i undef), defers := [] }
  have hr : Rel C.n (denE σ E) a' := by
    refine ⟨by simp [a'], rfl, fun d v hd => ?_⟩
    have := hE d v hd
    simp [a', this, hd]
  have key := h σ a' w M hr hs
  have : execOp a'.eval o = execOp a.eval o := execOp_congr o hsel fun x hx => by
    cases x with
    | tmp t =>
      have ht : t ∈ slotsOf l.toArray o := by
        unfold slotsOf tmpsOf
        refine List.mem_append_left _ (List.mem_append_left _ ?_)
        exact List.mem_filterMap.2 ⟨.tmp t, by simpa using hx, rfl⟩
      simp only [Act.eval, a']
      by_cases hlt : t < C.n
      · cases hg : (denE σ E).get t with
        | none => simp [Array.getD_eq_getD_getElem?, hlt, hg]
        | some v =>
          have := hget t ht v hg
          simp [Array.getD_eq_getD_getElem?, hlt, hg, this]
      · have h1 : a.tmps[t]? = none := Array.getElem?_eq_none (by rw [hsz]; exact Nat.le_of_not_lt hlt)
        simp [Array.getD_eq_getD_getElem?, hlt, h1]
    | _ => rfl
  rw [this] at key
  exact key
/-- Which states of the effects an operation may see. -/
def Comp (l0 : List Oper) (eff : Nat → Bool) (s i : Nat) : Prop := ∀ j, j < l0.length → eff j = true → (dep l0.toArray j i = true → j < s) ∧ (dep l0.toArray i j = true → s ≤ j)
def flD (fl : Nat → Option (Nat × SO)) (j : Nat) : Nat × SO := (fl j).getD (0, .dead)
structure RegC (C : Ctx) (lo hi : Nat) (l0 : List Oper) (v : Nat → SV) (Es : Nat → SE) (Hs : Nat → SH) (wn eff : Nat → Bool) (fl : Nat → Option (Nat × SO)) (mat : Nat → Nat → Bool) : Prop where
  ok : okReg l0 = true
  frng : ∀ (i : Nat) (p : Nat × SO), fl i = some p → lo ≤ p.1 ∧ p.1 < hi
  erng : ∀ i : Nat, i < l0.length → eff i = true → lo ≤ (Hs i).length ∧ (Hs i).length ≤ (Hs (i + 1)).length ∧ (Hs (i + 1)).length ≤ hi
  hE : ∀ (i : Nat) (o : Oper), l0[i]? = some o → Es (i + 1) = putO o.dst (v i) (Es i)
  fits : ∀ (i : Nat) (o : Oper), l0[i]? = some o → fitsN C.n o.dst = true
  want : ∀ (i : Nat) (o : Oper), l0[i]? = some o → wantedS l0.toArray (Es i) o.guard = some (wn i)
  idle : ∀ i : Nat, wn i = false → v i = .k undef ∧ eff i = false ∧ fl i = none
  same : ∀ i : Nat, eff i = false → Hs (i + 1) = Hs i ∧ ∀ j, mat (i + 1) j = mat i j
  chain : ∀ i j : Nat, i < j → j < l0.length → eff i = true → eff j = true → dep l0.toArray i j = true
  val : ∀ (i : Nat) (o : Oper), l0[i]? = some o → wn i = true → eff i = false → fl i = none → ∀ s, s ≤ l0.length → Comp l0 eff s i → ∃ u, OpOk C (Es i) (Hs s) o u (Hs s) ∧ ∀ σ, den σ u = den σ (v i)
  flo : ∀ (i : Nat) (o : Oper) (p : Nat × SO), l0[i]? = some o → fl i = some p → eff i = false ∧ v i = .ptr p.1 0 ∧ (∃ ob, (∀ (a : Operand → Value) (w : World), (execOp a o).run C.P w = .ok (.value (.pointer (some ⟨w.heap.size, 0, none⟩))) { w with heap := w.heap.push ob }) ∧ ∀ σ, denO σ p.1 p.2 = blk (σ p.1).1 ob) ∧
    (∀ j, j ≠ i → j < l0.length → dep l0.toArray i j = false → clr p.1 (p.1 + 1) (v j) = true) ∧ clrE p.1 (p.1 + 1) (Es 0) = true ∧ ∀ s, s ≤ l0.length → Comp l0 eff s i → clrH p.1 (p.1 + 1) 0 (Hs s) = true ∧ mat s i = false
  flat : ∀ (i : Nat) (p : Nat × SO) (σ σ' : Nm), fl i = some p → σ' p.1 = σ p.1 → denO σ' p.1 p.2 = denO σ p.1 p.2
  flne : ∀ (i j : Nat) (p q : Nat × SO), fl i = some p → fl j = some q → i ≠ j → p.1 ≠ q.1
  eff : ∀ (i : Nat) (o : Oper), l0[i]? = some o → eff i = true → wn i = true ∧ fl i = none ∧ ∃ fs : List Nat, fs.Nodup ∧ (∀ j ∈ fs, (fl j).isSome = true ∧ dep l0.toArray j i = true ∧ mat i j = false ∧ (Hs i)[(flD fl j).1]? = some .dead) ∧
    (∀ j, mat (i + 1) j = (mat i j || fs.contains j)) ∧ OpOk C (Es i) (fillS' (Hs i) (fs.map (flD fl))) o (v i) (Hs (i + 1)) ∧
    (∀ j, j ≠ i → j < l0.length → dep l0.toArray i j = false → clr (Hs i).length (Hs (i + 1)).length (v j) = true) ∧ clrE (Hs i).length (Hs (i + 1)).length (Es 0) = true ∧ ∀ (j : Nat) (p : Nat × SO), fl j = some p → p.1 < (Hs i).length
section
variable {C : Ctx} {lo hi : Nat} {l0 : List Oper} {v : Nat → SV} {Es : Nat → SE} {Hs : Nat → SH} {wn eff : Nat → Bool} {fl : Nat → Option (Nat × SO)} {mat : Nat → Nat → Bool}
theorem RegC.same_range (R : RegC C lo hi l0 v Es Hs wn eff fl mat) : ∀ (k s : Nat), (∀ j, s ≤ j → j < s + k → eff j = false) → Hs (s + k) = Hs s ∧ ∀ j, mat (s + k) j = mat s j
  | 0, s, _ => ⟨rfl, fun _ => rfl⟩
  | k + 1, s, h => by
    have ih := RegC.same_range R k s fun j h1 h2 => h j h1 (by omega)
    have h1 := R.same (s + k) (h (s + k) (by omega) (by omega))
    exact ⟨by rw [← Nat.add_assoc, h1.1, ih.1], fun j => by rw [← Nat.add_assoc, h1.2, ih.2]⟩
theorem RegC.same_of (R : RegC C lo hi l0 v Es Hs wn eff fl mat) {s s' : Nat} (hs : s ≤ l0.length) (hs' : s' ≤ l0.length) (h : ∀ j, j < l0.length → eff j = true → (j < s ↔ j < s')) : Hs s' = Hs s ∧ ∀ j, mat s' j = mat s j := by
  rcases Nat.le_total s s' with hle | hle
  · obtain ⟨k, rfl⟩ := Nat.exists_eq_add_of_le hle
    refine R.same_range k s fun j h1 h2 => ?_
    cases hj : eff j with
    | false => rfl
    | true => have := (h j (by omega) hj).2 h2; omega
  · obtain ⟨k, rfl⟩ := Nat.exists_eq_add_of_le hle
    have := R.same_range k s' fun j h1 h2 => by
      cases hj : eff j with
      | false => rfl
      | true => have := (h j (by omega) hj).1 h2; omega
    exact ⟨this.1.symm, fun j => (this.2 j).symm⟩
theorem RegC.get (R : RegC C lo hi l0 v Es Hs wn eff fl mat) (d : Nat) : ∀ m, m ≤ l0.length → (Es m).get d = match lastW l0 d m with | some j => some (v j) | none => (Es 0).get d
  | 0, _ => rfl
  | m + 1, hm => by
    have ho : l0[m]? = some l0[m] := List.getElem?_eq_getElem (by omega)
    have ih := RegC.get R d m (by omega)
    rw [R.hE m _ ho]
    simp only [lastW, ho, Option.bind_some]
    cases hd : l0[m].dst with
    | none =>
      simp only [putO]
      rw [if_neg (by simp)]
      exact ih
    | some e =>
      simp only [putO, putS_get]
      by_cases hed : e = d
      · subst hed; simp
      · rw [if_neg hed, if_neg (by simpa using hed)]
        exact ih
/-- What holds on the way. -/
structure RInv (C : Ctx) (lo hi : Nat) (l0 : List Oper) (v : Nat → SV) (Es : Nat → SE) (Hs : Nat → SH) (eff : Nat → Bool) (fl : Nat → Option (Nat × SO)) (mat : Nat → Nat → Bool) (M : Hp) (σ0 : Nm) (listed : Array Bool) (a : Act) (w : World) (σ : Nm) (s : Nat) : Prop where
  lsz : listed.size = l0.length
  closed : ∀ j m, dep l0.toArray j m = true → listed.getD m false = true → listed.getD j false = true
  size : a.tmps.size = C.n
  defers : a.defers = []
  hs : s ≤ l0.length
  at_ : ∀ j, j < l0.length → eff j = true → (j < s ↔ listed.getD j false = true)
  act : ∀ d m, m ≤ l0.length → (∀ j, (l0[j]?).bind (·.dst) = some d → (j < m ↔ listed.getD j false = true)) →
    match lastW l0 d m with
    | some j => a.tmps[d]? = some (den σ (v j))
    | none => ∀ u, (Es 0).get d = some u → a.tmps[d]? = some (den σ u)
  old : agree lo hi σ0 σ
  mem : St C (denH σ (Hs s) ++ ((((List.range l0.length).filter fun j => listed.getD j false && (fl j).isSome && !mat s j).map fun j => denO σ (flD fl j).1 (flD fl j).2) ++ M)) w
theorem RInv.sees (R : RegC C lo hi l0 v Es Hs wn eff fl mat) {M : Hp} {σ0 : Nm} {listed : Array Bool} {a : Act} {w : World} {σ : Nm} {s : Nat} (h : RInv C lo hi l0 v Es Hs eff fl mat M σ0 listed a w σ s)
    {i : Nat} (hr : i ∈ Region.ready .any l0.toArray listed) (hun : listed.getD i false = false) {o : Oper} (ho : l0[i]? = some o) : ∀ d ∈ slotsOf l0.toArray o, ∀ u, (denE σ (Es i)).get d = some u → a.tmps[d]? = some u := by
  have hi' : i < l0.length := (List.getElem?_eq_some_iff.1 ho).1
  have hdeps := ready_deps R.ok h.closed hr
  intro d hd u hu
  have hcond : ∀ j, (l0[j]?).bind (·.dst) = some d → (j < i ↔ listed.getD j false = true) := by
    intro j hj
    cases hp : l0[j]? with
    | none => simp [hp] at hj
    | some p =>
      have hpd : p.dst = some d := by simpa [hp] using hj
      constructor
      · intro hji
        have := okReg_slot R.ok ho hp hpd hd (by omega)
        rw [Nat.min_eq_left (by omega), Nat.max_eq_right (by omega)] at this
        exact hdeps j this
      · intro hl
        rcases Nat.lt_trichotomy j i with h1 | h1 | h1
        · exact h1
        · subst h1; rw [hun] at hl; cases hl
        · have := okReg_slot R.ok ho hp hpd hd (by omega)
          rw [Nat.min_eq_right (by omega), Nat.max_eq_left (by omega)] at this
          have := h.closed _ _ this hl
          rw [hun] at this; cases this
  have h1 := h.act d i (by omega) hcond
  have h2 := R.get d i (by omega)
  rw [denE_get, h2] at hu
  cases hlw : lastW l0 d i with
  | some j =>
    rw [hlw] at h1 hu
    simp only [Option.map_some, Option.some.injEq] at hu
    subst hu
    exact h1
  | none =>
    rw [hlw] at h1 hu
    simp only at h1 hu
    obtain ⟨x, hx, rfl⟩ := Option.map_eq_some_iff.1 hu
    exact h1 x hx
theorem RInv.comp {M : Hp} {σ0 : Nm} {listed : Array Bool} {a : Act} {w : World} {σ : Nm} {s : Nat} (h : RInv C lo hi l0 v Es Hs eff fl mat M σ0 listed a w σ s) (ok : okReg l0 = true)
    {i : Nat} (hr : i ∈ Region.ready .any l0.toArray listed) (hun : listed.getD i false = false) : Comp l0 eff s i := by
  have hdeps := ready_deps ok h.closed hr
  intro j hj he
  refine ⟨fun hd => (h.at_ j hj he).2 (hdeps j hd), fun hd => ?_⟩
  rcases Nat.lt_or_ge j s with h1 | h1
  · have := h.closed i j hd ((h.at_ j hj he).1 h1)
    rw [hun] at this; cases this
  · exact h1
theorem RInv.wanted (R : RegC C lo hi l0 v Es Hs wn eff fl mat) {M : Hp} {σ0 : Nm} {listed : Array Bool} {a : Act} {w : World} {σ : Nm} {s : Nat} (h : RInv C lo hi l0 v Es Hs eff fl mat M σ0 listed a w σ s)
    {i : Nat} (hr : i ∈ Region.ready .any l0.toArray listed) (hun : listed.getD i false = false) {o : Oper} (ho : l0[i]? = some o) : Region.wanted o (yielded l0.toArray a.tmps) = wn i := by
  have hsee := h.sees R hr hun ho
  have hb := wantedS_E (σ := σ) (R.want i o ho)
  have hg : ∀ d, (match o.guard with | some (g, _) => ((l0.toArray[g]?).bind (·.dst)).toList | none => []) = [d] → ∀ v, (denE σ (Es i)).get d = some v → a.tmps[d]? = some v := fun d hd => hsee d (by
    have h9 : d ∈ (match o.guard with | some (g, _) => ((l0.toArray[g]?).bind (·.dst)).toList | none => []) := by rw [hd]; simp
    unfold slotsOf
    exact List.mem_append_left _ (List.mem_append_right _ h9))
  unfold wantedE at hb
  unfold Region.wanted
  split at hb
  · rename_i hgd; rw [hgd]; simpa using hb
  · rename_i j want hgd
    rw [hgd] at hg ⊢
    split at hb
    · rename_i d hd
      have key : ∀ v, (denE σ (Es i)).get d = some v → ((l0.toArray[j]?).bind (·.dst)).bind (a.tmps[·]?) = some v := fun v hv => by
        rw [hd]; exact hg d (by simp only [hd]; rfl) v hv
      split at hb
      · rename_i c hc
        have := key _ hc
        simp only [yielded, this]
        simpa using hb
      · rename_i c hc
        have := key _ hc
        simp only [yielded, this]
        simpa using hb
      · cases hb
    · cases hb
theorem listed_put {listed : Array Bool} {i : Nat} (hil : i < listed.size) (j : Nat) : (listed.setIfInBounds i true).getD j false = (listed.getD j false || j == i) := by
  by_cases hj : i = j
  · subst hj; simp [hil]
  · rw [getD_set_ne false hj]
    have : (j == i) = false := by simp; exact fun e => hj e.symm
    simp [this]
/-- Behind an operation. -/
theorem RInv.put (R : RegC C lo hi l0 v Es Hs wn eff fl mat) {M : Hp} {σ0 : Nm} {listed : Array Bool} {a : Act} {w : World} {σ : Nm} {s : Nat} (h : RInv C lo hi l0 v Es Hs eff fl mat M σ0 listed a w σ s)
    {i : Nat} (hr : i ∈ Region.ready .any l0.toArray listed) (hun : listed.getD i false = false) {o : Oper} (ho : l0[i]? = some o) {w' : World} {σ' : Nm} {s' : Nat}
    (hv : ∀ j, j < l0.length → listed.getD j false = true → den σ' (v j) = den σ (v j)) (hE0 : denE σ' (Es 0) = denE σ (Es 0)) (hs' : s' ≤ l0.length)
    (hat : ∀ j, j < l0.length → eff j = true → (j < s' ↔ (listed.getD j false || j == i) = true)) (hold : agree lo hi σ0 σ')
    (hmem : St C (denH σ' (Hs s') ++ ((((List.range l0.length).filter fun j => (listed.getD j false || j == i) && (fl j).isSome && !mat s' j).map fun j => denO σ' (flD fl j).1 (flD fl j).2) ++ M)) w') :
    RInv C lo hi l0 v Es Hs eff fl mat M σ0 (listed.setIfInBounds i true) (a.put o.dst (den σ' (v i))) w' σ' s' := by
  have hi' : i < l0.length := (List.getElem?_eq_some_iff.1 ho).1
  have hil : i < listed.size := by rw [h.lsz]; exact hi'
  have hdeps := ready_deps R.ok h.closed hr
  have hset := listed_put hil
  refine ⟨by simpa using h.lsz, ?_, ?_, ?_, hs', fun j hj he => by rw [hset]; exact hat j hj he, ?_, hold, by simpa only [hset] using hmem⟩
  · intro j m hd hm
    rw [hset] at hm ⊢
    rcases Bool.or_eq_true_iff.1 hm with hm | hm
    · simp [h.closed j m hd hm]
    · have : m = i := by simpa using hm
      subst this
      simp [hdeps j hd]
  · cases hd : o.dst <;> simp [Act.put, h.size]
  · cases hd : o.dst <;> simp [Act.put, h.defers]
  · intro d m hm hcond
    have hdst : o.dst = some d → i < m := fun hd => (hcond i (by simp [ho, hd])).2 (by rw [hset]; simp)
    by_cases hod : o.dst = some d
    · have him := hdst hod
      have hdn : d < a.tmps.size := by
        have := R.fits i o ho
        rw [hod] at this
        rw [h.size]
        simpa [fitsN] using this
      have hlast : lastW l0 d m = some i := by
        cases hlw : lastW l0 d m with
        | none => exact absurd (show (l0[i]?).bind (·.dst) = some d by simp [ho, hod]) (lastW_none hlw i him)
        | some j =>
          have hj := lastW_some hlw
          have hij := hj.2.2 i him (by simp [ho, hod])
          rcases Nat.eq_or_lt_of_le hij with h1 | h1
          · rw [h1]
          · exfalso
            have hlj := (hcond j hj.2.1).1 hj.1
            rw [hset] at hlj
            have hlj' : listed.getD j false = true := by
              rcases Bool.or_eq_true_iff.1 hlj with h2 | h2
              · exact h2
              · have : j = i := by simpa using h2
                omega
            cases hp : l0[j]? with
            | none => have := hj.2.1; simp [hp] at this
            | some p =>
              have hpd : p.dst = some d := by have := hj.2.1; simpa [hp] using this
              have hds : d ∈ slotsOf l0.toArray o := by unfold slotsOf; rw [hod]; simp
              have := okReg_slot R.ok ho hp hpd hds (by omega)
              rw [Nat.min_eq_right (by omega), Nat.max_eq_left (by omega)] at this
              have := h.closed _ _ this hlj'
              rw [hun] at this; cases this
      rw [hlast]
      simp [Act.put, hod, hdn]
    · have hcond' : ∀ j, (l0[j]?).bind (·.dst) = some d → (j < m ↔ listed.getD j false = true) := by
        intro j hj
        have hji : j ≠ i := by rintro rfl; simp [ho] at hj; exact hod hj
        have := hcond j hj
        rw [hset] at this
        simpa [hji] using this
      have h1 := h.act d m hm hcond'
      have hput : (a.put o.dst (den σ' (v i))).tmps[d]? = a.tmps[d]? := by
        cases hd : o.dst with
        | none => rfl
        | some e =>
          have : e ≠ d := fun e' => hod (by rw [hd, e'])
          simp [Act.put, Array.getElem?_setIfInBounds_ne this]
      cases hlw : lastW l0 d m with
      | none =>
        rw [hlw] at h1
        simp only at h1 ⊢
        intro u hu
        rw [hput, h1 u hu]
        have e1 : (denE σ' (Es 0)).get d = (denE σ (Es 0)).get d := by rw [hE0]
        rw [denE_get, denE_get, hu] at e1
        simpa using e1.symm
      | some j =>
        rw [hlw] at h1
        simp only at h1 ⊢
        have hj := lastW_some hlw
        rw [hput, h1, hv j (by omega) ((hcond' j hj.2.1).1 hj.1)]
end
end Go.Proofs.YtonmkjcilepdcaaGreatDoor
end
