import Derived.Test.YtonmkjcilepdcaaGreatDoorEvS
/- The evaluator: one operation of a region that draws its order; all of them. -/
noncomputable section
namespace Go.Proofs.YtonmkjcilepdcaaGreatDoor
open Go.RowKit
set_option maxRecDepth 20000
set_option maxHeartbeats 4000000

theorem filter_out (l : List Nat) (hn : l.Nodup) : ∀ (fs : List Nat) (p : Nat → Bool), fs.Nodup → (∀ x ∈ fs, x ∈ l ∧ p x = true) → (l.filter p).Perm ((l.filter fun j => p j && !fs.contains j) ++ fs)
  | [], p, _, _ => by
    rw [List.append_nil]
    exact List.Perm.of_eq (List.filter_congr fun j _ => by simp)
  | x :: fs, p, hf, h => by
    have hf' := List.nodup_cons.1 hf
    have hx := h x List.mem_cons_self
    have e1 : l.filter p = l.filter fun j => (p j && !(j == x)) || j == x := List.filter_congr fun j _ => by
      by_cases hj : j = x
      · subst hj; simp [hx.2]
      · have hb : (j == x) = false := by simpa using hj
        simp [hb]
    have h1 := filter_put (p := fun j => p j && !(j == x)) (i := x) (by simp) hn hx.1
    have h2 := filter_out l hn fs (fun j => p j && !(j == x)) hf'.2 fun y hy => by
      have := h y (List.mem_cons_of_mem _ hy)
      have hne : y ≠ x := fun e => hf'.1 (e ▸ hy)
      have hb : (y == x) = false := by simpa using hne
      exact ⟨this.1, by simp [this.2, hb]⟩
    rw [e1]
    refine h1.trans ((h2.append_right [x]).trans ?_)
    rw [List.append_assoc]
    have e2 : (l.filter fun j => (p j && !(j == x)) && !fs.contains j) = l.filter fun j => p j && !(x :: fs).contains j := List.filter_congr fun j _ => by
      by_cases hj : j = x
      · subst hj; simp
      · have hb : (j == x) = false := by simpa using hj
        simp [hb, hj]
    rw [e2]
    exact List.Perm.append_left _ (List.perm_append_comm (l₁ := fs) (l₂ := [x]))
section
variable {C : Ctx} {lo hi : Nat} {l0 : List Oper} {v : Nat → SV} {Es : Nat → SE} {Hs : Nat → SH} {wn eff : Nat → Bool} {fl : Nat → Option (Nat × SO)} {mat : Nat → Nat → Bool}
theorem RInv.go (R : RegC C lo hi l0 v Es Hs wn eff fl mat) (hEn : ∀ i, i ≤ l0.length → ∀ σ d u, (denE σ (Es i)).get d = some u → d < C.n) {M : Hp} {σ0 : Nm} {listed : Array Bool} {a : Act} {w : World} {σ : Nm} {s : Nat} (h : RInv C lo hi l0 v Es Hs eff fl mat M σ0 listed a w σ s)
    {i : Nat} (hr : i ∈ Region.ready .any l0.toArray listed) (hun : listed.getD i false = false) {Q : Exit → Act → World → Prop} {K : Act → World → Prop}
    (hK : ∀ a' w' σ' s', RInv C lo hi l0 v Es Hs eff fl mat M σ0 (listed.setIfInBounds i true) a' w' σ' s' → K a' w') : wpOp C.P l0.toArray Q i K a w := by
  obtain ⟨_, o, ho', _⟩ := mem_ready.1 hr
  have ho : l0[i]? = some o := by simpa using ho'
  have hi' : i < l0.length := (List.getElem?_eq_some_iff.1 ho).1
  have hdeps := ready_deps R.ok h.closed hr
  have hcomp := h.comp R.ok hr hun
  have hnd : ∀ j, listed.getD j false = true → j ≠ i ∧ dep l0.toArray i j = false := fun j hj => by
    refine ⟨fun e => (by rw [e, hun] at hj; cases hj), ?_⟩
    cases hd : dep l0.toArray i j with
    | false => rfl
    | true => have := h.closed i j hd hj; rw [hun] at this; cases this
  have hatn : eff i = false → ∀ j, j < l0.length → eff j = true → (j < s ↔ (listed.getD j false || j == i) = true) := fun he j hj hej => by
    have hne : j ≠ i := fun e => by rw [e, he] at hej; cases hej
    have hb : (j == i) = false := by simpa using hne
    rw [h.at_ j hj hej, hb, Bool.or_false]
  have hfl0 : fl i = none → ∀ s' : Nat, ((List.range l0.length).filter fun j => (listed.getD j false || j == i) && (fl j).isSome && !mat s' j) = (List.range l0.length).filter fun j => listed.getD j false && (fl j).isSome && !mat s' j := fun hf s' => List.filter_congr fun j _ => by
    by_cases hj : j = i
    · subst hj; simp [hf]
    · have hb : (j == i) = false := by simpa using hj
      rw [hb, Bool.or_false]
  unfold wpOp
  rw [show l0.toArray[i]? = some o by simpa using ho]
  simp only []
  rw [h.wanted R hr hun ho]
  cases hw : wn i with
  | false =>
    obtain ⟨hv, he, hf⟩ := R.idle i hw
    simp only [Bool.false_eq_true, if_false]
    refine hK _ _ σ s ?_
    have := h.put R hr hun ho (w' := w) (σ' := σ) (s' := s) (fun _ _ _ => rfl) rfl h.hs (hatn he) h.old (by rw [hfl0 hf]; exact h.mem)
    rwa [hv, den] at this
  | true =>
    simp only [if_true]
    refine .inl ?_
    cases he : eff i with
    | false =>
      cases hf : fl i with
      | none =>
        obtain ⟨u, hok, hden⟩ := R.val i o ho hw he hf s h.hs hcomp
        refine (hok.act (okReg_sel R.ok ho) (hEn i (by omega) σ) h.size (h.sees R hr hun ho) h.mem).wp ?_
        rintro x w' ⟨σ', hag, rfl, hs'⟩
        have hσ : σ' = σ := by funext n; exact hag n (by omega)
        subst hσ
        refine hK _ _ σ' s ?_
        rw [hden]
        exact h.put R hr hun ho (fun _ _ _ => rfl) rfl h.hs (hatn he) h.old (by rw [hfl0 hf]; exact hs')
      | some p =>
        obtain ⟨_, hvi, ⟨ob, hrun, hob⟩, hclr, hcE, hcH⟩ := R.flo i o p ho hf
        obtain ⟨hcH1, hm⟩ := hcH s h.hs hcomp
        have hag := agree_upd σ p.1 (w.heap.size, 0)
        have hO : Outcome C.P (fun x w' => x = den (upd σ p.1 (w.heap.size, 0)) (v i) ∧ w' = { w with heap := w.heap.push ob }) ((execOp a.eval o).run C.P w) := by
          rw [hrun]
          exact ⟨by rw [hvi, den, upd_self], rfl⟩
        refine hO.wp ?_
        rintro x w' ⟨rfl, rfl⟩
        refine hK _ _ (upd σ p.1 (w.heap.size, 0)) s ?_
        refine h.put R hr hun ho (fun j hj hl => den_clr hag _ (hclr j (hnd j hl).1 hj (hnd j hl).2)) (denE_clr hag hcE) h.hs (hatn he) (fun n hn => ?_) ?_
        · have := R.frng i p hf
          have h1 : upd σ p.1 (w.heap.size, 0) n = σ n := by unfold upd; rw [if_neg (by omega)]
          rw [h1, h.old n hn]
        · have h3 := h.mem.push ob
          rw [denH_clr hag hcH1]
          have e1 : ((List.range l0.length).filter fun j => (listed.getD j false || j == i) && (fl j).isSome && !mat s j) = (List.range l0.length).filter fun j => (listed.getD j false && (fl j).isSome && !mat s j) || j == i := List.filter_congr fun j _ => by
            by_cases hj : j = i
            · subst hj; simp [hf, hm]
            · have hb : (j == i) = false := by simpa using hj
              rw [hb, Bool.or_false, Bool.or_false]
          have e2 := filter_put (p := fun j => listed.getD j false && (fl j).isSome && !mat s j) (i := i) (by simp [hun]) List.nodup_range (List.mem_range.2 hi')
          rw [e1]
          have e3 : (((List.range l0.length).filter fun j => listed.getD j false && (fl j).isSome && !mat s j).map fun j => denO (upd σ p.1 (w.heap.size, 0)) (flD fl j).1 (flD fl j).2) = ((List.range l0.length).filter fun j => listed.getD j false && (fl j).isSome && !mat s j).map fun j => denO σ (flD fl j).1 (flD fl j).2 := by
            refine List.map_congr_left fun j hj => ?_
            have h4 := (List.mem_filter.1 hj).2
            simp only [Bool.and_eq_true] at h4
            obtain ⟨q, hq⟩ := Option.isSome_iff_exists.1 h4.1.2
            have hne := R.flne j i q p hq hf (hnd j h4.1.1).1
            have : flD fl j = q := by unfold flD; rw [hq]; rfl
            rw [this]
            exact R.flat j q _ _ hq (by unfold upd; rw [if_neg hne])
          have e4 : flD fl i = p := by unfold flD; rw [hf]; rfl
          refine h3.perm ?_
          refine List.Perm.trans ?_ (List.Perm.append_left _ (List.Perm.append_right _ (e2.map _).symm))
          rw [List.map_append, e3, List.map_cons, List.map_nil, e4, hob, upd_self, List.append_assoc, List.append_assoc, List.append_assoc]
          refine List.Perm.append_left _ (List.Perm.append_left _ ?_)
          exact List.perm_append_comm
    | true =>
      obtain ⟨_, hfi, fs, hfn, hfs, hmat, hok, hclr, hcE, hnm⟩ := R.eff i o ho he
      have hat2 : ∀ j, j < l0.length → eff j = true → (j < s ↔ j < i) := fun j hj hej => by
        rw [h.at_ j hj hej]
        constructor
        · intro hl
          rcases Nat.lt_trichotomy j i with h1 | h1 | h1
          · exact h1
          · exact absurd h1 (hnd j hl).1
          · have := R.chain i j h1 hj he hej
            rw [(hnd j hl).2] at this; cases this
        · intro hji
          exact hdeps j (R.chain j i hji hi' hej he)
      obtain ⟨hHs, hms⟩ := R.same_of h.hs (Nat.le_of_lt hi') hat2
      have hmem := h.mem
      have e0 : ((List.range l0.length).filter fun j => listed.getD j false && (fl j).isSome && !mat s j) = (List.range l0.length).filter fun j => listed.getD j false && (fl j).isSome && !mat i j := List.filter_congr fun j _ => by rw [hms]
      rw [← hHs, e0] at hmem
      have hout := filter_out (List.range l0.length) List.nodup_range fs (fun j => listed.getD j false && (fl j).isSome && !mat i j) hfn fun x hx => by
        obtain ⟨h1, h2, h3, _⟩ := hfs x hx
        exact ⟨List.mem_range.2 (Nat.lt_trans (dep_lt R.ok h2).1 hi'), by simp [h1, h3, hdeps x h2]⟩
      have hmem2 : St C (denH σ (Hs i) ++ ((fs.map (flD fl)).map (fun p => denO σ p.1 p.2) ++ ((((List.range l0.length).filter fun j => (listed.getD j false && (fl j).isSome && !mat i j) && !fs.contains j).map fun j => denO σ (flD fl j).1 (flD fl j).2) ++ M))) w := by
        refine hmem.perm (List.Perm.append_left _ ?_)
        refine (List.Perm.append_right _ (hout.map _)).trans ?_
        rw [List.map_append, List.map_map, ← List.append_assoc]
        exact List.Perm.append_right _ List.perm_append_comm
      have hnodup : ((fs.map (flD fl)).map (·.1)).Nodup := by
        rw [List.map_map]
        refine List.Pairwise.map _ (fun x y hxy => hxy) ?_
        refine List.Pairwise.imp_of_mem (fun {x y} hx hy hne => ?_) hfn
        obtain ⟨p, hp⟩ := Option.isSome_iff_exists.1 (hfs x hx).1
        obtain ⟨q, hq⟩ := Option.isSome_iff_exists.1 (hfs y hy).1
        have := R.flne x y p q hp hq hne
        simpa [flD, hp, hq] using this
      have hmem3 := St.fills hnodup (fun p hp => by
        obtain ⟨x, hx, rfl⟩ := List.mem_map.1 hp
        exact (hfs x hx).2.2.2) hmem2
      refine (hok.act (okReg_sel R.ok ho) (hEn i (by omega) σ) h.size (h.sees R hr hun ho) hmem3).wp ?_
      rintro x w' ⟨σ', hag, rfl, hs'⟩
      rw [fillS'_length] at hag
      have her := R.erng i hi' he
      refine hK _ _ σ' (i + 1) ?_
      refine h.put R hr hun ho (fun j hj hl => den_clr hag _ (hclr j (hnd j hl).1 hj (hnd j hl).2)) (denE_clr hag hcE) (by omega) (fun j hj hej => ?_) (fun n hn => ?_) ?_
      · rw [Bool.or_eq_true, ← h.at_ j hj hej, hat2 j hj hej]
        simp
        omega
      · rw [hag n (by omega), h.old n hn]
      · rw [hfl0 hfi]
        have e5 : ((List.range l0.length).filter fun j => listed.getD j false && (fl j).isSome && !mat (i + 1) j) = (List.range l0.length).filter fun j => (listed.getD j false && (fl j).isSome && !mat i j) && !fs.contains j := List.filter_congr fun j _ => by
          rw [hmat]
          cases listed.getD j false <;> cases (fl j).isSome <;> cases mat i j <;> cases fs.contains j <;> rfl
        rw [e5]
        have e6 : (((List.range l0.length).filter fun j => (listed.getD j false && (fl j).isSome && !mat i j) && !fs.contains j).map fun j => denO σ' (flD fl j).1 (flD fl j).2) = ((List.range l0.length).filter fun j => (listed.getD j false && (fl j).isSome && !mat i j) && !fs.contains j).map fun j => denO σ (flD fl j).1 (flD fl j).2 := by
          refine List.map_congr_left fun j hj => ?_
          have h4 := (List.mem_filter.1 hj).2
          simp only [Bool.and_eq_true] at h4
          obtain ⟨q, hq⟩ := Option.isSome_iff_exists.1 h4.1.1.2
          have : flD fl j = q := by unfold flD; rw [hq]; rfl
          rw [this]
          exact R.flat j q _ _ hq (hag _ (.inl (hnm j q hq)))
        rw [e6]
        exact hs'
end
end Go.Proofs.YtonmkjcilepdcaaGreatDoor
end
