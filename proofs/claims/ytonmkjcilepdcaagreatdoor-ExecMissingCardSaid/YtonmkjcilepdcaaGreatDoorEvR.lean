import Derived.Test.YtonmkjcilepdcaaGreatDoorEvK
/- The evaluator: a region that draws its order: what must hold of its operations, so that every order comes to the same. -/
noncomputable section
namespace Go.Proofs.YtonmkjcilepdcaaGreatDoor
open Go.RowKit
set_option maxRecDepth 20000
set_option maxHeartbeats 4000000

def clrN (lo hi m : Nat) : Bool := Bool.rec (motive := fun _ => Bool) (Nat.ble hi m) true (Nat.blt m lo)
theorem clrN_spec {lo hi m : Nat} (h : clrN lo hi m = true) : m < lo ∨ hi ≤ m := by
  unfold clrN at h
  cases hb : Nat.blt m lo with
  | true => exact .inl (by simpa using hb)
  | false => rw [hb] at h; exact .inr (by simpa using h)
/-- No name from lo on, below hi. -/
def clr (lo hi : Nat) (v : SV) : Bool := SV.rec (motive_1 := fun _ => Bool) (motive_2 := fun _ => Bool)
  (fun _ => true) (fun m _ => clrN lo hi m) (fun m _ _ _ => clrN lo hi m) (fun m _ _ _ => clrN lo hi m) (fun m => clrN lo hi m)
  (fun _ _ ih => ih) (fun _ _ ih => ih) (fun _ ih => ih) (fun _ ih => ih) true (fun _ _ a b => Bool.rec (motive := fun _ => Bool) false b a) v
def clrL (lo hi : Nat) (l : List SV) : Bool := SV.rec_1 (motive_1 := fun _ => Bool) (motive_2 := fun _ => Bool)
  (fun _ => true) (fun m _ => clrN lo hi m) (fun m _ _ _ => clrN lo hi m) (fun m _ _ _ => clrN lo hi m) (fun m => clrN lo hi m)
  (fun _ _ ih => ih) (fun _ _ ih => ih) (fun _ ih => ih) (fun _ ih => ih) true (fun _ _ a b => Bool.rec (motive := fun _ => Bool) false b a) l
theorem clrL_cons (lo hi : Nat) (v : SV) (l : List SV) : clrL lo hi (v :: l) = (clr lo hi v && clrL lo hi l) := by
  show Bool.rec (motive := fun _ => Bool) false (clrL lo hi l) (clr lo hi v) = _
  cases clr lo hi v <;> rfl
mutual
theorem den_clr {σ σ' : Nm} {lo hi : Nat} (h : agree lo hi σ σ') : ∀ (v : SV), clr lo hi v = true → den σ' v = den σ v
  | .k _, _ => by simp only [den]
  | .ptr m _, hb => by simp only [den, h m (clrN_spec (show clrN lo hi m = true from hb))]
  | .slice m _ _ _, hb => by simp only [den, h m (clrN_spec (show clrN lo hi m = true from hb))]
  | .slc m _ _ _, hb => by simp only [den, h m (clrN_spec (show clrN lo hi m = true from hb))]
  | .map m, hb => by simp only [den, h m (clrN_spec (show clrN lo hi m = true from hb))]
  | .func _ cs, hb => by change clrL lo hi cs = true at hb; simp only [den, denL_clr h cs hb]
  | .iface _ v, hb => by change clr lo hi v = true at hb; simp only [den, den_clr h v hb]
  | .agg cs, hb => by change clrL lo hi cs = true at hb; simp only [den, denL_clr h cs hb]
  | .tup vs, hb => by change clrL lo hi vs = true at hb; simp only [den, denL_clr h vs hb]
theorem denL_clr {σ σ' : Nm} {lo hi : Nat} (h : agree lo hi σ σ') : ∀ (l : List SV), clrL lo hi l = true → denL σ' l = denL σ l
  | [], _ => by simp only [denL]
  | v :: vs, hb => by
    simp only [clrL_cons, Bool.and_eq_true] at hb
    simp only [denL, den_clr h v hb.1, denL_clr h vs hb.2]
end
def clrE (lo hi : Nat) (E : SE) : Bool := allR (fun p => clr lo hi p.2) E
theorem denE_clr {σ σ' : Nm} {lo hi : Nat} (h : agree lo hi σ σ') {E : SE} (hb : clrE lo hi E = true) : denE σ' E = denE σ E := by
  unfold denE
  refine List.map_congr_left fun p hp => ?_
  unfold clrE at hb
  rw [allR_iff] at hb
  rw [den_clr h p.2 (hb p hp)]
def clrO (lo hi : Nat) : SO → Bool
  | .dead => true
  | .cells cs _ => clrL lo hi cs
  | .pre _ cs _ => clrL lo hi cs
  | .map es _ => es.all fun p => clr lo hi p.1 && clr lo hi p.2.1
  | .sym => true
  | .abs _ => true
def isDead : SO → Bool
  | .dead => true
  | _ => false
/-- .. of a heap whose object at that name is dead. -/
def clrH (lo hi : Nat) : Nat → SH → Bool
  | _, [] => true
  | n, o :: H => (isDead o || ((Nat.blt n lo || Nat.ble hi n) && clrO lo hi o)) && clrH lo hi (n + 1) H
theorem denO_clr {σ σ' : Nm} {lo hi m : Nat} (h : agree lo hi σ σ') (hm : m < lo ∨ hi ≤ m) : ∀ (o : SO), clrO lo hi o = true → denO σ' m o = denO σ m o
  | .dead, _ => rfl
  | .cells cs e, hb => by simp only [clrO] at hb; simp only [denO, denL_clr h cs hb, h m hm]
  | .pre sz cs e, hb => by simp only [clrO] at hb; simp only [denO, denL_clr h cs hb, h m hm]
  | .map es c, hb => by
    simp only [clrO, List.all_eq_true, Bool.and_eq_true] at hb
    have : denM σ' es = denM σ es := by
      unfold denM
      refine List.map_congr_left fun p hp => ?_
      rw [den_clr h _ (hb p hp).1, den_clr h _ (hb p hp).2]
    simp only [denO, this, h m hm]
  | .sym, _ => rfl
  | .abs d, _ => by simp only [denO]; rw [h m hm]
theorem clrH_get {lo hi : Nat} : ∀ {H : SH} {n m : Nat} {o : SO}, clrH lo hi n H = true → H[m]? = some o → isDead o = true ∨ ((n + m < lo ∨ hi ≤ n + m) ∧ clrO lo hi o = true)
  | [], _, m, _, _, h => by simp at h
  | p :: H, n, 0, o, hc, h => by
    simp only [clrH, Bool.and_eq_true, Bool.or_eq_true, Nat.blt_eq, Nat.ble_eq] at hc
    simp only [List.getElem?_cons_zero, Option.some.injEq] at h
    subst h
    exact hc.1
  | p :: H, n, m + 1, o, hc, h => by
    simp only [clrH, Bool.and_eq_true] at hc
    simp only [List.getElem?_cons_succ] at h
    have := clrH_get hc.2 h
    rwa [show n + 1 + m = n + (m + 1) by omega] at this
theorem denH_clr {σ σ' : Nm} {lo hi : Nat} (h : agree lo hi σ σ') {H : SH} (hb : clrH lo hi 0 H = true) : denH σ' H = denH σ H := by
  refine List.ext_getElem? fun m => ?_
  rw [denH_get, denH_get]
  cases ho : H[m]? with
  | none => rfl
  | some o =>
    rw [Option.map_some, Option.map_some]
    rcases clrH_get hb ho with h1 | ⟨h1, h2⟩
    · cases o <;> first | rfl | cases h1
    · rw [Nat.zero_add] at h1
      rw [denO_clr h h1 o h2]

theorem clrN_mono {lo hi c d m : Nat} (h1 : lo ≤ c) (h2 : d ≤ hi) (h : clrN lo hi m = true) : clrN c d m = true := by
  have := clrN_spec h
  unfold clrN
  cases hb : Nat.blt m c with
  | true => rfl
  | false =>
    have : ¬ m < c := by intro h; have : Nat.blt m c = true := by simpa using h
                         rw [hb] at this; cases this
    simp only [Nat.ble_eq]
    omega
mutual
theorem clr_mono {lo hi c d : Nat} (h1 : lo ≤ c) (h2 : d ≤ hi) : ∀ (v : SV), clr lo hi v = true → clr c d v = true
  | .k _, _ => rfl
  | .ptr m _, h => clrN_mono h1 h2 (m := m) h
  | .slice m _ _ _, h => clrN_mono h1 h2 (m := m) h
  | .slc m _ _ _, h => clrN_mono h1 h2 (m := m) h
  | .map m, h => clrN_mono h1 h2 (m := m) h
  | .func _ cs, h => clrL_mono h1 h2 cs h
  | .iface _ v, h => clr_mono h1 h2 v h
  | .agg cs, h => clrL_mono h1 h2 cs h
  | .tup cs, h => clrL_mono h1 h2 cs h
theorem clrL_mono {lo hi c d : Nat} (h1 : lo ≤ c) (h2 : d ≤ hi) : ∀ (l : List SV), clrL lo hi l = true → clrL c d l = true
  | [], _ => rfl
  | v :: l, h => by
    rw [clrL_cons, Bool.and_eq_true] at h ⊢
    exact ⟨clr_mono h1 h2 v h.1, clrL_mono h1 h2 l h.2⟩
end
theorem clrE_mono {lo hi c d : Nat} (h1 : lo ≤ c) (h2 : d ≤ hi) {E : SE} (h : clrE lo hi E = true) : clrE c d E = true := by
  unfold clrE at h ⊢
  rw [allR_iff] at h ⊢
  exact fun p hp => clr_mono h1 h2 _ (h p hp)
theorem clrO_mono {lo hi c d : Nat} (h1 : lo ≤ c) (h2 : d ≤ hi) : ∀ (o : SO), clrO lo hi o = true → clrO c d o = true
  | .dead, _ => rfl
  | .cells cs _, h => clrL_mono h1 h2 cs h
  | .pre _ cs _, h => clrL_mono h1 h2 cs h
  | .map es _, h => by
    simp only [clrO, List.all_eq_true, Bool.and_eq_true] at h ⊢
    exact fun p hp => ⟨clr_mono h1 h2 _ (h p hp).1, clr_mono h1 h2 _ (h p hp).2⟩
  | .sym, _ => rfl
  | .abs _, _ => rfl
theorem clrH_mono {lo hi c d : Nat} (h1 : lo ≤ c) (h2 : d ≤ hi) : ∀ {H : SH} {n : Nat}, clrH lo hi n H = true → clrH c d n H = true
  | [], _, _ => rfl
  | o :: H, n, h => by
    simp only [clrH, Bool.and_eq_true, Bool.or_eq_true, Nat.blt_eq, Nat.ble_eq] at h ⊢
    refine ⟨?_, clrH_mono h1 h2 h.2⟩
    rcases h.1 with h | ⟨h3, h4⟩
    · exact .inl h
    · exact .inr ⟨by omega, clrO_mono h1 h2 o h4⟩
/-! ### the objects that float -/
/-- A thing that is there, put in its place. -/
theorem St.fill {C : Ctx} {σ : Nm} {H : SH} {X : Hp} {w : World} {n : Nat} {so : SO} (hn : H[n]? = some .dead) (hs : St C (denH σ H ++ (denO σ n so :: X)) w) : St C (denH σ (H.set n so) ++ X) w := by
  have hnl := (List.getElem?_eq_some_iff.1 hn).1
  refine hs.emb ⟨fun i => if i = n then H.length else if i < H.length then i else i + 1, fun i j e => ?_, fun i B hB => ?_⟩
  · simp only at e
    split at e <;> split at e <;> (try split at e) <;> (try split at e) <;> omega
  · simp only
    rw [denH_set] at hB
    by_cases h1 : i = n
    · subst h1
      rw [if_pos rfl]
      rw [List.getElem?_append_left (by simpa using hnl), List.getElem?_set_self (by simpa using hnl)] at hB
      rw [List.getElem?_append_right (by simp), denH_length, Nat.sub_self]
      exact hB
    · rw [if_neg h1]
      by_cases h2 : i < H.length
      · rw [if_pos h2]
        rw [List.getElem?_append_left (by simpa using h2), List.getElem?_set_ne (fun e => h1 e.symm)] at hB
        rw [List.getElem?_append_left (by simpa using h2)]
        exact hB
      · rw [if_neg h2]
        rw [List.getElem?_append_right (by simpa using h2), List.length_set, denH_length] at hB
        rw [List.getElem?_append_right (by simp; omega), denH_length, show i + 1 - H.length = (i - H.length) + 1 by omega]
        exact hB
/-- .. several. -/
def fillS' : SH → List (Nat × SO) → SH
  | H, [] => H
  | H, (n, so) :: l => fillS' (H.set n so) l
theorem St.fills {C : Ctx} {σ : Nm} {X : Hp} {w : World} : ∀ {l : List (Nat × SO)} {H : SH}, (l.map (·.1)).Nodup → (∀ p ∈ l, H[p.1]? = some .dead) → St C (denH σ H ++ (l.map (fun p => denO σ p.1 p.2) ++ X)) w → St C (denH σ (fillS' H l) ++ X) w
  | [], H, _, _, hs => hs
  | (n, so) :: l, H, hn, hd, hs => by
    have hn' := List.nodup_cons.1 hn
    refine St.fills (l := l) hn'.2 (fun p hp => ?_) (St.fill (hd _ (List.mem_cons_self)) hs)
    rw [List.getElem?_set_ne (fun e => hn'.1 (by rw [e]; exact List.mem_map.2 ⟨p, hp, rfl⟩))]
    exact hd p (List.mem_cons_of_mem _ hp)
theorem fillS'_length : ∀ (l : List (Nat × SO)) (H : SH), (fillS' H l).length = H.length
  | [], _ => rfl
  | (n, so) :: l, H => by simp only [fillS']; rw [fillS'_length l, List.length_set]
end Go.Proofs.YtonmkjcilepdcaaGreatDoor
end
