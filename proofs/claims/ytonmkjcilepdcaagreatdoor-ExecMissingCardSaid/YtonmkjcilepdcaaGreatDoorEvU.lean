import Derived.Test.YtonmkjcilepdcaaGreatDoorEvT
/- The evaluator: a region that draws its order, as a whole. -/
noncomputable section
namespace Go.Proofs.YtonmkjcilepdcaaGreatDoor
open Go.RowKit
set_option maxRecDepth 20000
set_option maxHeartbeats 4000000

theorem ready_nil {l0 : List Oper} (ok : okReg l0 = true) {listed : Array Bool} (hl : listed.size = l0.length) (h : Region.ready .any l0.toArray listed = []) : ∀ j, j < l0.length → listed.getD j false = true := by
  intro j
  induction j using Nat.strongRecOn with
  | _ j ih =>
    intro hj
    cases hb : listed.getD j false with
    | true => rfl
    | false =>
      have ho : l0[j]? = some l0[j] := List.getElem?_eq_getElem hj
      have hm : j ∈ Region.ready .any l0.toArray listed := by
        refine mem_ready.2 ⟨?_, l0[j], by simp only [List.getElem?_toArray]; exact ho, fun e he hbd => ?_⟩
        · have : j < listed.size := by omega
          simp only [Array.getD_eq_getD_getElem?, Array.getElem?_eq_getElem this, Option.getD_some] at hb ⊢
          exact hb
        · have := okReg_after ok ho e he hbd
          exact ih e.on this (by omega)
      rw [h] at hm
      cases hm
section
variable {C : Ctx} {lo hi : Nat} {l0 : List Oper} {v : Nat → SV} {Es : Nat → SE} {Hs : Nat → SH} {wn eff : Nat → Bool} {fl : Nat → Option (Nat × SO)} {mat : Nat → Nat → Bool}
theorem RInv.all (R : RegC C lo hi l0 v Es Hs wn eff fl mat) (hEn : ∀ i, i ≤ l0.length → ∀ σ d u, (denE σ (Es i)).get d = some u → d < C.n) {M : Hp} {σ0 : Nm} {Q : Exit → Act → World → Prop}
    (hQ : ∀ listed a w σ s, RInv C lo hi l0 v Es Hs eff fl mat M σ0 listed a w σ s → (∀ j, j < l0.length → listed.getD j false = true) → Q .normal a w) :
    ∀ (fuel : Nat) (listed : Array Bool) (a : Act) (w : World) (σ : Nm) (s : Nat), RInv C lo hi l0 v Es Hs eff fl mat M σ0 listed a w σ s → left l0 listed ≤ fuel → wpAny C.P .any l0.toArray Q fuel listed a w
  | 0, listed, a, w, σ, s, h, hf => by
    have hr : Region.ready .any l0.toArray listed = [] := by
      apply List.eq_nil_iff_forall_not_mem.2
      intro i hi
      obtain ⟨h0, o, ho, _⟩ := mem_ready.1 hi
      have hil : i < l0.length := by
        have : l0[i]? = some o := by simpa using ho
        exact (List.getElem?_eq_some_iff.1 this).1
      have hun : listed.getD i false = false := by
        have : i < listed.size := by rw [h.lsz]; exact hil
        simp only [Array.getD_eq_getD_getElem?, Array.getElem?_eq_getElem this, Option.getD_some] at h0 ⊢
        exact h0
      have := left_put h.lsz hil hun
      omega
    exact ⟨hr, hQ _ _ _ _ _ h (ready_nil R.ok h.lsz hr)⟩
  | fuel + 1, listed, a, w, σ, s, h, hf => by
    refine ⟨fun hr => hQ _ _ _ _ _ h (ready_nil R.ok h.lsz hr), fun i hi => ?_⟩
    obtain ⟨h0, o, ho, _⟩ := mem_ready.1 hi
    have hil : i < l0.length := by
      have : l0[i]? = some o := by simpa using ho
      exact (List.getElem?_eq_some_iff.1 this).1
    have hun : listed.getD i false = false := by
      have : i < listed.size := by rw [h.lsz]; exact hil
      simp only [Array.getD_eq_getD_getElem?, Array.getElem?_eq_getElem this, Option.getD_some] at h0 ⊢
      exact h0
    have hl := left_put h.lsz hil hun
    exact h.go R hEn hi hun fun a' w' σ' s' h' => RInv.all R hEn hQ fuel _ a' w' σ' s' h' (by omega)
end
theorem St.deads {C : Ctx} {σ : Nm} {M : Hp} {w : World} : ∀ (k : Nat) {H : SH}, St C (denH σ H ++ M) w → St C (denH σ (H ++ List.replicate k .dead) ++ M) w
  | 0, H, h => by simpa using h
  | k + 1, H, h => by
    have h1 : St C (denH σ (H ++ [.dead]) ++ M) w := by
      have h2 := h.addT
      rw [denH_append]
      refine h2.perm ?_
      rw [List.append_assoc, List.append_assoc]
      exact List.Perm.append_left _ List.perm_append_comm
    have := St.deads k h1
    rwa [List.append_assoc] at this
/-- What a whole region is checked for. -/
structure RegAll (P : Program) (B : World) (n : Nat) (l0 : List Oper) (E : SE) (H : SH) (E2 : SE) (H2 : SH) : Prop where
  out : ∃ (k : Nat) (v : Nat → SV) (Es : Nat → SE) (Hs : Nat → SH) (wn eff : Nat → Bool) (fl : Nat → Option (Nat × SO)) (mat : Nat → Nat → Bool) (fs : List Nat),
    (∀ C : Ctx, Fit P B C → C.n = n → RegC C H.length H2.length l0 v Es Hs wn eff fl mat) ∧ P.follows .mixedOrders = true ∧ Es 0 = E ∧ Hs 0 = H ++ List.replicate k .dead ∧ Es l0.length = E2 ∧ H.length ≤ H2.length ∧
    (fs.Nodup ∧ ∀ j, j ∈ fs ↔ (j < l0.length ∧ (fl j).isSome = true ∧ mat l0.length j = false)) ∧ (∀ j ∈ fs, (Hs l0.length)[(flD fl j).1]? = some .dead) ∧ fillS' (Hs l0.length) (fs.map (flD fl)) = H2
theorem RegAll.ok {P : Program} {B : World} {n : Nat} {l0 : List Oper} {E E2 : SE} {H H2 : SH} (h : RegAll P B n l0 E H E2 H2) : RegOk P B n l0.toArray E H E2 H2 := by
  obtain ⟨k, v, Es, Hs, wn, eff, fl, mat, fs, hR, hm, hE0, hH0, hE2, hle, ⟨hfn, hfs⟩, hdead, hfill⟩ := h.out
  intro id
  refine ⟨hle, fun C hC σ a w M Q hr hs hq => ?_⟩
  obtain ⟨rfl, hbase⟩ := hC
  have R := hR ⟨C.P, n, C.FB, C.w0⟩ ⟨rfl, hbase⟩ rfl
  refine wp_region_any hm ?_
  have hEn : ∀ i, i ≤ l0.length → ∀ σ' d u, (denE σ' (Es i)).get d = some u → d < n := by
    intro i hi σ' d u hu
    rw [denE_get, R.get d i hi] at hu
    cases hlw : lastW l0 d i with
    | none =>
      rw [hlw] at hu
      simp only at hu
      obtain ⟨x, hx, _⟩ := Option.map_eq_some_iff.1 hu
      have h1 : (denE σ E).get d = some (den σ x) := by rw [denE_get, ← hE0, hx]; rfl
      have := (Array.getElem?_eq_some_iff.1 (hr.get d _ h1)).1
      rw [hr.size] at this
      exact this
    | some j =>
      have hj := lastW_some hlw
      have hoj : l0[j]? = some l0[j] := List.getElem?_eq_getElem (by omega)
      have h1 := hj.2.1
      rw [hoj] at h1
      have := R.fits j _ hoj
      simp only [Option.bind_some] at h1
      rw [h1] at this
      simpa [fitsN] using this
  have hrep : ∀ j, (Array.replicate l0.toArray.size false).getD j false = false := fun j => by
    by_cases hj : j < l0.length <;> simp [hj]
  have h0 : RInv ⟨C.P, n, C.FB, C.w0⟩ H.length H2.length l0 v Es Hs eff fl mat M σ (Array.replicate l0.toArray.size false) a { w with drawn := w.drawn + 1 } σ 0 := by
    refine ⟨by simp, fun j m _ hm => (by rw [hrep] at hm; cases hm), hr.size, hr.defers, Nat.zero_le _, fun j _ _ => (by rw [hrep]; simp), fun d m hm hcond => ?_, fun _ _ => rfl, ?_⟩
    · have hlw : lastW l0 d m = none := by
        cases hlw : lastW l0 d m with
        | none => rfl
        | some j =>
          have hj := lastW_some hlw
          have := (hcond j hj.2.1).1 hj.1
          rw [hrep] at this
          cases this
      rw [hlw]
      intro u hu
      refine hr.get d _ ?_
      rw [denE_get, ← hE0, hu]; rfl
    · have e : ((List.range l0.length).filter fun j => (Array.replicate l0.toArray.size false).getD j false && (fl j).isSome && !mat 0 j) = [] := List.filter_eq_nil_iff.2 fun j _ => by rw [hrep]; simp
      rw [e, List.map_nil, List.nil_append, hH0]
      have := (hs.reC n).deads k
      exact ⟨this.os, this.tape, this.output, this.size, this.fixed, this.fb, let ⟨ow, ho⟩ := this.own; ⟨ow, ho.free, ho.lt, ho.one, ho.sat⟩⟩
  refine RInv.all R hEn ?_ _ _ _ _ σ 0 h0 ?_
  · intro listed a' w' σ' s h hall
    have hsame := R.same_of h.hs (Nat.le_refl _) fun j hj he => by rw [h.at_ j hj he, hall j hj]; simp [hj]
    refine hq σ' a' w' h.old ⟨h.size, h.defers, fun d u hu => ?_⟩ ?_
    · rw [denE_get, ← hE2, R.get d _ (Nat.le_refl _)] at hu
      have h1 := h.act d l0.length (Nat.le_refl _) fun j hj => by
        cases hp : l0[j]? with
        | none => simp [hp] at hj
        | some p =>
          have := (List.getElem?_eq_some_iff.1 hp).1
          simp [hall j this, this]
      cases hlw : lastW l0 d l0.length with
      | none =>
        rw [hlw] at h1 hu
        simp only at h1 hu
        obtain ⟨x, hx, rfl⟩ := Option.map_eq_some_iff.1 hu
        exact h1 x hx
      | some j =>
        rw [hlw] at h1 hu
        simp only [Option.map_some, Option.some.injEq] at hu
        subst hu
        exact h1
    · have hmem := h.mem
      rw [← hsame.1] at hmem
      have e1 : (((List.range l0.length).filter fun j => listed.getD j false && (fl j).isSome && !mat s j)).Perm fs := by
        have e2 := filter_out (List.range l0.length) List.nodup_range fs (fun j => listed.getD j false && (fl j).isSome && !mat s j) hfn fun x hx => by
          obtain ⟨h1, h2, h3⟩ := (hfs x).1 hx
          exact ⟨List.mem_range.2 h1, by simp [hall x h1, h2, ← hsame.2 x, h3]⟩
        have e3 : ((List.range l0.length).filter fun j => (listed.getD j false && (fl j).isSome && !mat s j) && !fs.contains j) = [] := List.filter_eq_nil_iff.2 fun j hj hc => by
          simp only [Bool.and_eq_true, Bool.not_eq_true', List.contains_eq_mem, decide_eq_false_iff_not] at hc
          exact hc.2 ((hfs j).2 ⟨List.mem_range.1 hj, hc.1.1.2, by rw [hsame.2 j]; exact hc.1.2⟩)
        rwa [e3, List.nil_append] at e2
      have hmem2 : St ⟨C.P, n, C.FB, C.w0⟩ (denH σ' (Hs l0.length) ++ ((fs.map (flD fl)).map (fun p => denO σ' p.1 p.2) ++ M)) w' := by
        refine hmem.perm (List.Perm.append_left _ (List.Perm.append_right _ ?_))
        rw [List.map_map]
        exact e1.map _
      have hnodup : ((fs.map (flD fl)).map (·.1)).Nodup := by
        rw [List.map_map]
        refine List.Pairwise.map _ (fun x y hxy => hxy) ?_
        refine List.Pairwise.imp_of_mem (fun {x y} hx hy hne => ?_) hfn
        obtain ⟨p, hp⟩ := Option.isSome_iff_exists.1 ((hfs x).1 hx).2.1
        obtain ⟨q, hq⟩ := Option.isSome_iff_exists.1 ((hfs y).1 hy).2.1
        have := R.flne x y p q hp hq hne
        simpa [flD, hp, hq] using this
      have := St.fills hnodup (fun p hp => by
        obtain ⟨x, hx, rfl⟩ := List.mem_map.1 hp
        exact hdead x hx) hmem2
      rw [hfill] at this
      exact this.reC C.n
  · unfold left
    refine Nat.le_trans (List.length_filter_le _ _) ?_
    simp
end Go.Proofs.YtonmkjcilepdcaaGreatDoor
end
