import Derived.Test.YtonmkjcilepdcaaGreatDoorEvW
/- The evaluator: a region that draws its order is checked. -/
noncomputable section
namespace Go.Proofs.YtonmkjcilepdcaaGreatDoor
open Go.RowKit
set_option maxRecDepth 20000
set_option maxHeartbeats 4000000

def depL (B : List Nat) (j i : Nat) : Bool := (B.getD i 0).testBit j
theorem depL_eq (ops : Array Oper) (j i : Nat) : depL (Region.before ops).toList j i = dep ops j i := by
  unfold depL dep
  simp [Array.getD_eq_getD_getElem?, List.getD_eq_getElem?_getD]
def rFs (R : List Row) (i : Nat) : List Nat := match R[i]? with | some r => r.fs | none => []
def candsS (Ef : List Nat) : List Nat := 0 :: Ef.map Nat.succ
theorem cands_spec (R : List Row) (N : Nat) {Ef : List Nat} (hEf : ∀ j, j ∈ Ef ↔ j < N ∧ rF R j = true) : ∀ s, s ≤ N → ∃ s' ∈ candsS Ef, s' ≤ s ∧ ∀ j, s' ≤ j → j < s → rF R j = false
  | 0, _ => ⟨0, List.mem_cons_self, Nat.le_refl _, fun j _ h => by omega⟩
  | s + 1, h => by
    cases he : rF R s with
    | true => exact ⟨s + 1, List.mem_cons_of_mem _ (List.mem_map.2 ⟨s, (hEf s).2 ⟨by omega, he⟩, rfl⟩), Nat.le_refl _, fun j _ _ => by omega⟩
    | false =>
      obtain ⟨s', h1, h2, h3⟩ := cands_spec R N hEf s (by omega)
      refine ⟨s', h1, by omega, fun j hj1 hj2 => ?_⟩
      by_cases hjs : j = s
      · rw [hjs, he]
      · exact h3 j hj1 (by omega)
def compB (B : List Nat) (Ef : List Nat) (s i : Nat) : Bool := allR (fun j => (!depL B j i || Nat.blt j s) && (!depL B i j || Nat.ble s j)) Ef
/-- No effect lies between. -/
def sameB (Ef : List Nat) (s i : Nat) : Bool := allR (fun j => Nat.blt j s == Nat.blt j i) Ef
def noH (l : List Oper) (i : Nat) : Bool := match l[i]? with | some o => !readsH o.op | none => false
def forceT {β : Type} (T : List (Option (Nat × SO))) (f : List (Option (Nat × SO)) → β) : β :=
  forceLV (fun x g => match x with | none => g none | some p => forceN p.1 fun a => forceO p.2 fun b => g (some (a, b))) T f
theorem forceT_eq {β : Type} (T : List (Option (Nat × SO))) (f : List (Option (Nat × SO)) → β) : forceT T f = f T := by
  unfold forceT
  rw [forceLV_eq]
  intro a f
  cases a with
  | none => rfl
  | some p => simp only [forceN_eq, forceO_eq]
def deadAt (H : SH) (n : Nat) : Bool := match getL H n with | some o => isDead o | none => false
theorem deadAt_spec {H : SH} {n : Nat} (h : deadAt H n = true) : H[n]? = some .dead := by
  unfold deadAt at h
  simp only [getL_eq] at h
  split at h
  · rename_i o ho
    cases o <;> first | exact ho | cases h
  · cases h
def gath {α : Type} (f : α → Ans (List Prop)) : List α → Ans (List Prop)
  | [] => .ok []
  | a :: l => (f a).bind fun ps => (gath f l).bind fun qs => .ok (ps ++ qs)
theorem gath_ok {α : Type} {f : α → Ans (List Prop)} : ∀ {l : List α} {qs : List Prop}, gath f l = .ok qs → AllP qs → ∀ a ∈ l, ∃ ps, f a = .ok ps ∧ AllP ps
  | [], _, _, _, a, ha => by cases ha
  | b :: l, qs, h, hq, a, ha => by
    unfold gath at h
    obtain ⟨ps, h1, h⟩ := Ans.bind_ok.1 h
    obtain ⟨rs, h2, h⟩ := Ans.bind_ok.1 h
    cases h
    rw [AllP_append] at hq
    rcases List.mem_cons.1 ha with rfl | ha
    · exact ⟨ps, h1, hq.1⟩
    · exact gath_ok h2 hq.2 a ha
/-- The same value, at another place of the region. -/
def chkV (P : Program) (G : Gb) (B Ef : List Nat) (l : List Oper) (R : List Row) (E2 : SE) (HN : SH) (sy : Bool) (i s : Nat) : Ans (List Prop) :=
  if !compB B Ef s i || sameB Ef s i then .ok [] else
    match l[i]? with
    | some o => match opVal P G (rE R E2 i) (rH R HN s) o (rMd R i) with
      | some (u, ps) => match sy with
        | true => .ok ((u = rV R i) :: ps)
        | false => if eqS u (rV R i) then .ok ps else .no 31
      | none => .no 32
    | none => .no 33
def chkVal (P : Program) (G : Gb) (B Ef : List Nat) (l : List Oper) (R : List Row) (E2 : SE) (HN : SH) (T : List (Option (Nat × SO))) (N : Nat) (sy : Bool) : Ans (List Prop) :=
  gath (fun i => if !(rW R i && !rF R i && (flF T i).isNone) || noH l i then .ok [] else gath (fun s => chkV P G B Ef l R E2 HN sy i s) (candsS Ef)) (List.range N)
def chkFlo (B Ef : List Nat) (R : List Row) (E0 : SE) (HN : SH) (T : List (Option (Nat × SO))) (N lo hi : Nat) : Bool :=
  (List.range N).all fun i => match flF T i with
    | none => true
    | some p => Nat.ble lo p.1 && Nat.blt p.1 hi && ((List.range N).all fun j => Nat.beq j i || depL B i j || clr p.1 (p.1 + 1) (rV R j)) && clrE lo hi E0 &&
      ((candsS Ef).all fun s => !compB B Ef s i || ((clrH lo hi 0 (rH R HN s) || clrH p.1 (p.1 + 1) 0 (rH R HN s)) && !rM R s i)) &&
      ((List.range N).all fun j => Nat.beq j i || (match flF T j with | none => true | some q => !Nat.beq p.1 q.1))
def chkEff (B Ef : List Nat) (R : List Row) (E0 : SE) (HN : SH) (T : List (Option (Nat × SO))) (N lo hi : Nat) : Bool :=
  allR (fun i => nodupB (rFs R i) && ((rFs R i).all fun j => (flF T j).isSome && depL B j i && !rM R i j && deadAt (rH R HN i) (flD (flF T) j).1) &&
    Nat.ble lo (rH R HN i).length && Nat.ble (rH R HN i).length (rH R HN (i + 1)).length && Nat.ble (rH R HN (i + 1)).length hi &&
    ((List.range N).all fun j => Nat.beq j i || depL B i j || clr (rH R HN i).length (rH R HN (i + 1)).length (rV R j)) && clrE lo hi E0 &&
    ((List.range N).all fun j => match flF T j with | none => true | some p => Nat.blt p.1 (rH R HN i).length) &&
    (allR (fun j => !Nat.blt i j || depL B i j) Ef)) Ef
def fsEnd (R : List Row) (T : List (Option (Nat × SO))) (N : Nat) : List Nat := (List.range N).filter fun j => (flF T j).isSome && !rM R N j
def drB (P : Program) (rec : Rec) (n : Nat) (ops : Array Oper) (E : SE) (H : SH) (B : List Nat) (T : List (Option (Nat × SO))) (N lo : Nat) (t : Th) : Ans (SE × SH × Th) :=
  if okReg ops.toList && P.follows .mixedOrders && (ops.toList.all fun o => fitsN n o.dst) then
    spine (H ++ List.replicate (T.filter (·.isSome)).length .dead) fun HI => (rowsS P rec ops T (depL B) ops.toList 0 E HI [] t).bind fun q =>
      forceL ((List.range N).filter fun j => rF q.1 j) fun Ef => forceN (lenL q.2.2.1) fun hi =>
      if Nat.ble lo hi && chkFlo B Ef q.1 E q.2.2.1 T N lo hi && chkEff B Ef q.1 E q.2.2.1 T N lo hi && ((fsEnd q.1 T N).all fun j => deadAt q.2.2.1 (flD (flF T) j).1)
      then (chkVal P rec.glob B Ef ops.toList q.1 q.2.1 q.2.2.1 T N (isSym H)).bind fun ps => spine (fillS' q.2.2.1 ((fsEnd q.1 T N).map (flD (flF T)))) fun H' => .ok (q.2.1, H', ⟨q.2.2.2.orc, ps ++ q.2.2.2.obl⟩) else .no 35
  else .no 36
def drS (P : Program) : Dr := fun rec n ops E H t => forceL (Region.before ops).toList fun B => forceN (lenL ops.toList) fun N => forceN (lenL H) fun lo => forceT (floatsS P ops.toList lo) fun T => drB P rec n ops E H B T N lo t
theorem drS_ok (P : Program) : DrOk P (drS P) := by
  intro rec hrec n ops E H t E2 H2 t2 h ht2
  unfold drS at h
  rw [forceL_eq, forceN_eq, forceN_eq, forceT_eq] at h
  simp only [lenL_eq] at h
  have hops : ops = ops.toList.toArray := by simp
  generalize hl : ops.toList = l at *
  subst hops
  generalize hT : floatsS P l H.length = T at *
  unfold drB at h
  simp only [hl, forceL_eq, forceN_eq, spine_eq, lenL_eq] at h
  split at h
  case isFalse => cases h
  case isTrue hc0 =>
    obtain ⟨⟨R, E2', HN, t1⟩, hrows, h⟩ := Ans.bind_ok.1 h
    simp only at h
    generalize hEfd : (List.range l.length).filter (fun j => rF R j) = Ef at h
    have hEf : ∀ j, j ∈ Ef ↔ j < l.length ∧ rF R j = true := fun j => by rw [← hEfd, List.mem_filter, List.mem_range]
    split at h
    case isFalse => cases h
    case isTrue hc =>
      obtain ⟨ps, hval, h⟩ := Ans.bind_ok.1 h
      simp only [Ans.ok.injEq, Prod.mk.injEq] at h
      obtain ⟨rfl, rfl, rfl⟩ := h
      rw [AllP_append] at ht2
      obtain ⟨hps, ht1⟩ := ht2
      simp only [Bool.and_eq_true, Nat.ble_eq, List.all_eq_true] at hc hc0
      obtain ⟨⟨hok, hmix⟩, hfit⟩ := hc0
      obtain ⟨⟨⟨hle, hflo⟩, heff⟩, hdead⟩ := hc
      obtain ⟨ht0, hRl, hR0, hRH0, hfact⟩ := rowsS_spec hrec hrows ht1
      refine ⟨ht0, ?_⟩
      have hTl : T.length = l.length := by rw [← hT, floatsS_length]
      have hTn : ∀ j, ¬ j < l.length → flF T j = none := fun j hj => by
        unfold flF
        rw [List.getElem?_eq_none (by omega)]
      have hdep : ∀ j i, depL (Region.before l.toArray).toList j i = dep l.toArray j i := depL_eq _
      have hRn : ∀ j, ¬ j < l.length → R[j]? = none := fun j hj => List.getElem?_eq_none (by omega)
      have hget : ∀ i o, l[i]? = some o → ∃ r, R[i]? = some r ∧ RFact P rec l.toArray T i o r (rE R E2' (i + 1)) (rH R HN (i + 1)) ∧ rE R E2' i = r.E ∧ rH R HN i = r.H ∧ rV R i = r.v ∧ rW R i = r.wn ∧ rF R i = r.ef ∧ rFs R i = r.fs ∧ rMd R i = r.md := fun i o ho => by
        obtain ⟨r, hr, hf⟩ := hfact i o ho
        rw [Nat.zero_add] at hf
        exact ⟨r, hr, hf, by simp [rE, hr], by simp [rH, hr], by simp [rV, hr], by simp [rW, hr], by simp [rF, hr], by simp [rFs, hr], by simp [rMd, hr]⟩
      have hlo : ∀ i, i < l.length → ∃ o, l[i]? = some o := fun i hi => ⟨l[i], List.getElem?_eq_getElem hi⟩
      have hM : ∀ i j, i < l.length → rM R (i + 1) j = (rM R i j || (rFs R i).contains j) := fun i j hi => by
        obtain ⟨o, ho⟩ := hlo i hi
        obtain ⟨r, hr, _⟩ := hget i o ho
        unfold rM rFs
        rw [List.take_add_one, hr, Option.toList_some, List.any_append]
        simp
      have hcomp : ∀ s s' i, i < l.length → s' ≤ s → (∀ j, s' ≤ j → j < s → rF R j = false) → Comp l (rF R) s i → compB (Region.before l.toArray).toList Ef s' i = true := fun s s' i hi hs' hno hc => by
        unfold compB
        rw [allR_iff]
        intro j hj
        obtain ⟨hj', he⟩ := (hEf j).1 hj
        obtain ⟨h1, h2⟩ := hc j hj' he
        rw [hdep, hdep]
        simp only [Bool.and_eq_true, Bool.or_eq_true, Bool.not_eq_true', Nat.blt_eq, Nat.ble_eq]
        refine ⟨?_, ?_⟩
        · cases hd : dep l.toArray j i with
          | false => exact .inl rfl
          | true =>
            have := h1 hd
            rcases Nat.lt_or_ge j s' with h3 | h3
            · exact .inr h3
            · have := hno j h3 this; rw [he] at this; cases this
        · cases hd : dep l.toArray i j with
          | false => exact .inl rfl
          | true => exact .inr (by have := h2 hd; omega)
      have hfl : ∀ i p, flF T i = some p → i < l.length ∧ (H.length ≤ p.1 ∧ p.1 < HN.length) ∧ (∀ j, j ≠ i → j < l.length → dep l.toArray i j = false → clr p.1 (p.1 + 1) (rV R j) = true) ∧ clrE p.1 (p.1 + 1) E = true ∧
          (∀ s ∈ candsS Ef, compB (Region.before l.toArray).toList Ef s i = true → clrH p.1 (p.1 + 1) 0 (rH R HN s) = true ∧ rM R s i = false) ∧ ∀ j q, j ≠ i → flF T j = some q → p.1 ≠ q.1 := fun i p hp => by
        have hi : i < l.length := Nat.lt_of_not_le fun h => by rw [hTn i (by omega)] at hp; cases hp
        unfold chkFlo at hflo
        rw [List.all_eq_true] at hflo
        have h := hflo i (List.mem_range.2 hi)
        rw [hp] at h
        simp only [Bool.and_eq_true, Nat.ble_eq, Nat.blt_eq, List.all_eq_true, Bool.or_eq_true, Nat.beq_eq, Bool.not_eq_true'] at h
        obtain ⟨⟨⟨⟨⟨h1, h2⟩, h3⟩, h4⟩, h5⟩, h6⟩ := h
        refine ⟨hi, ⟨h1, h2⟩, fun j hji hj hd => ?_, clrE_mono h1 h2 h4, fun s hs hcm => ?_, fun j q hji hq => ?_⟩
        · rcases h3 j (List.mem_range.2 hj) with (h | h) | h
          · exact absurd h hji
          · rw [hdep, hd] at h; cases h
          · exact h
        · rcases h5 s hs with h | h
          · rw [hcm] at h; cases h
          · exact ⟨h.1.elim (fun h => clrH_mono h1 h2 h) id, h.2⟩
        · have hj : j < l.length := Nat.lt_of_not_le fun h => by rw [hTn j (by omega)] at hq; cases hq
          rcases h6 j (List.mem_range.2 hj) with h | h
          · exact absurd h hji
          · rw [hq] at h
            intro e
            rw [e] at h
            simp at h
      have hef : ∀ i, i < l.length → rF R i = true → (rFs R i).Nodup ∧ (∀ j ∈ rFs R i, (flF T j).isSome = true ∧ dep l.toArray j i = true ∧ rM R i j = false ∧ (rH R HN i)[(flD (flF T) j).1]? = some .dead) ∧
          (H.length ≤ (rH R HN i).length ∧ (rH R HN i).length ≤ (rH R HN (i + 1)).length ∧ (rH R HN (i + 1)).length ≤ HN.length) ∧
          (∀ j, j ≠ i → j < l.length → dep l.toArray i j = false → clr (rH R HN i).length (rH R HN (i + 1)).length (rV R j) = true) ∧ clrE (rH R HN i).length (rH R HN (i + 1)).length E = true ∧
          (∀ j p, flF T j = some p → p.1 < (rH R HN i).length) ∧ ∀ j, i < j → j < l.length → rF R j = true → dep l.toArray i j = true := fun i hi he => by
        unfold chkEff at heff
        rw [allR_iff] at heff
        have h := heff i ((hEf i).2 ⟨hi, he⟩)
        simp only [Bool.and_eq_true, Nat.ble_eq, List.all_eq_true, allR_iff, Bool.or_eq_true, Nat.beq_eq, Bool.not_eq_true'] at h
        obtain ⟨⟨⟨⟨⟨⟨⟨⟨h1, h2⟩, h3⟩, h4⟩, h5⟩, h6⟩, h7⟩, h8⟩, h9⟩ := h
        refine ⟨nodupB_spec h1, fun j hj => ?_, ⟨h3, h4, h5⟩, fun j hji hj hd => ?_, clrE_mono h3 h5 h7, fun j p hp => ?_, fun j hij hj hej => ?_⟩
        · obtain ⟨⟨⟨a1, a2⟩, a3⟩, a4⟩ := h2 j hj
          exact ⟨a1, by rw [← hdep]; exact a2, a3, deadAt_spec a4⟩
        · rcases h6 j (List.mem_range.2 hj) with (h | h) | h
          · exact absurd h hji
          · rw [hdep, hd] at h; cases h
          · exact h
        · have hj : j < l.length := (hfl j p hp).1
          have := h8 j (List.mem_range.2 hj)
          rw [hp] at this
          simpa using this
        · rcases h9 j ((hEf j).2 ⟨hj, hej⟩) with h | h
          · have h' : Nat.blt i j = true := by rw [Nat.blt_eq]; exact hij
            rw [h'] at h; cases h
          · rw [← hdep]; exact h
      refine RegAll.ok (P := P) (B := rec.base) (n := n) (l0 := l) ⟨⟨(T.filter (·.isSome)).length, rV R, rE R E2', rH R HN, rW R, rF R, flF T, rM R, fsEnd R T l.length, fun C hC hn => ?_, hmix, hR0, hRH0, ?_, ?_, ⟨?_, ?_⟩, ?_, ?_⟩⟩
      · obtain ⟨rfl, hbase⟩ := hC
        have hC : Fit C.P rec.base C := ⟨rfl, hbase⟩
        have hcl : (fillS' HN ((fsEnd R T l.length).map (flD (flF T)))).length = HN.length := fillS'_length _ _
        rw [hcl]
        have same : ∀ i, rF R i = false → rH R HN (i + 1) = rH R HN i ∧ ∀ j, rM R (i + 1) j = rM R i j := fun i he => by
          by_cases hi : i < l.length
          · obtain ⟨o, ho⟩ := hlo i hi
            obtain ⟨r, hr, hf, e1, e2, e3, e4, e5, e6, e7⟩ := hget i o ho
            rw [e5] at he
            rcases hf.2.2 with ⟨_, _, _, h4, h5, _⟩ | ⟨_, _, h4, h5, _⟩ | ⟨_, h2, _⟩ | ⟨_, _, h4, h5, _, _⟩
            · exact ⟨by rw [h5, e2], fun j => by rw [hM i j hi, e6, h4]; simp⟩
            · exact ⟨by rw [h5, e2], fun j => by rw [hM i j hi, e6, h4]; simp⟩
            · rw [he] at h2; cases h2
            · exact ⟨by rw [h5, e2], fun j => by rw [hM i j hi, e6, h4]; simp⟩
          · refine ⟨by simp [rH, hRn i hi, hRn (i + 1) (by omega)], fun j => ?_⟩
            unfold rM
            rw [List.take_of_length_le (by omega), List.take_of_length_le (by omega)]
        have same2 : ∀ (k s : Nat), (∀ j, s ≤ j → j < s + k → rF R j = false) → rH R HN (s + k) = rH R HN s ∧ ∀ j, rM R (s + k) j = rM R s j := by
          intro k
          induction k with
          | zero => intro s _; exact ⟨rfl, fun _ => rfl⟩
          | succ k ih =>
            intro s h
            have ih' := ih s fun j h1 h2 => h j h1 (by omega)
            have h1 := same (s + k) (h (s + k) (by omega) (by omega))
            exact ⟨by rw [← Nat.add_assoc, h1.1, ih'.1], fun j => by rw [← Nat.add_assoc, h1.2, ih'.2]⟩
        have hmc : ∀ s s', s' ≤ s → (∀ j, s' ≤ j → j < s → rF R j = false) → rH R HN s = rH R HN s' ∧ ∀ j, rM R s j = rM R s' j := fun s s' h h' => by
          obtain ⟨k, rfl⟩ := Nat.exists_eq_add_of_le h
          exact same2 k s' h'
        refine ⟨hok, fun i p hp => (hfl i p hp).2.1, fun i hi he => (hef i hi he).2.2.1, ?_, ?_, ?_, ?_, same, fun i j hij hj he hej => (hef i (by omega) he).2.2.2.2.2.2 j hij hj hej, ?_, ?_, ?_, fun i j p q hp hq hne => (hfl i p hp).2.2.2.2.2 j q (fun e => hne e.symm) hq, ?_⟩
        · intro i o ho
          obtain ⟨r, hr, hf, e1, e2, e3, e4, e5, e6, e7⟩ := hget i o ho
          rw [hf.1, e3, e1]
        · intro i o ho
          rw [hn]
          exact hfit o (List.mem_of_getElem? ho)
        · intro i o ho
          obtain ⟨r, hr, hf, e1, e2, e3, e4, e5, e6, e7⟩ := hget i o ho
          rw [e1, e4]
          exact hf.2.1
        · intro i hw
          by_cases hi : i < l.length
          · obtain ⟨o, ho⟩ := hlo i hi
            obtain ⟨r, hr, hf, e1, e2, e3, e4, e5, e6, e7⟩ := hget i o ho
            rw [e4] at hw
            rcases hf.2.2 with ⟨_, h2, h3, _, _, h6⟩ | ⟨h1, _⟩ | ⟨h1, _⟩ | ⟨h1, _⟩
            · exact ⟨by rw [e3, h2], by rw [e5, h3], h6⟩
            · rw [hw] at h1; cases h1
            · rw [hw] at h1; cases h1
            · rw [hw] at h1; cases h1
          · exact ⟨by simp [rV, hRn i hi], by simp [rF, hRn i hi], hTn i hi⟩
        · intro i o ho hw he hf s hs hcm
          have hi : i < l.length := (List.getElem?_eq_some_iff.1 ho).1
          obtain ⟨s', hs', hle', hno⟩ := cands_spec R l.length hEf s hs
          have hcb := hcomp s s' i hi hle' hno hcm
          unfold chkVal at hval
          obtain ⟨qs, h, hqs⟩ := gath_ok hval hps i (List.mem_range.2 hi)
          rw [hw, he, hf] at h
          simp only [Bool.not_false, Bool.and_true, Option.isNone_none, Bool.not_true, Bool.false_or] at h
          have hsm := hmc s s' hle' hno
          obtain ⟨r, hr, hfa, e1, e2, e3, e4, e5, e6, e7⟩ := hget i o ho
          obtain ⟨pv, hv, hpv⟩ : ∃ pv, opVal C.P rec.glob (rE R E2' i) (rH R HN i) o (rMd R i) = some (rV R i, pv) ∧ AllP pv := by
            rcases hfa.2.2 with ⟨h1, _⟩ | ⟨_, _, _, _, p, hp, _⟩ | ⟨_, h2, _⟩ | ⟨_, _, _, _, _, pv, h6, h7⟩
            · rw [e4, h1] at hw; cases hw
            · rw [hp] at hf; cases hf
            · rw [e5, h2] at he; cases he
            · exact ⟨pv, by rw [e1, e2, e3, e7]; exact h6, h7⟩
          split at h
          · rename_i hcd
            refine ⟨rV R i, ?_, fun σ => rfl⟩
            have hn : readsH o.op = false := by unfold noH at hcd; rw [ho] at hcd; simpa using hcd
            refine opVal_ok hrec.2.2.2 (md := rMd R i) (ps := pv) ?_ hpv C hC
            rw [opVal_noH hn _ (rH R HN i)]
            exact hv
          obtain ⟨rs, h, hrs⟩ := gath_ok h hqs s' hs'
          unfold chkV at h
          rw [hcb] at h
          simp only [Bool.not_true, Bool.false_or] at h
          split at h
          rename_i hcd
          · refine ⟨rV R i, ?_, fun σ => rfl⟩
            refine opVal_ok hrec.2.2.2 (md := rMd R i) (ps := pv) ?_ hpv C hC
            have hno2 : ∀ (a b : Nat), a ≤ b → (∀ j, a ≤ j → j < b → rF R j = true → False) → rH R HN b = rH R HN a := fun a b hab hh => by
              obtain ⟨k, rfl⟩ := Nat.exists_eq_add_of_le hab
              exact (same2 k a fun j h1 h2 => by cases hj : rF R j with | false => rfl | true => exact (hh j h1 h2 hj).elim).1
            have hEl : ∀ j, rF R j = true → j < l.length := fun j hj => Nat.lt_of_not_le fun hn => by
              unfold rF at hj; rw [hRn j (by omega)] at hj; cases hj
            unfold sameB at hcd
            rw [allR_iff] at hcd
            have hj2 : ∀ j, rF R j = true → (j < s' ↔ j < i) := fun j hj => by
              have := hcd j ((hEf j).2 ⟨hEl j hj, hj⟩)
              have := eq_of_beq this
              rw [Bool.eq_iff_iff, Nat.blt_eq, Nat.blt_eq] at this
              exact this
            have : rH R HN s' = rH R HN i := by
              rcases Nat.le_total s' i with h1 | h1
              · exact (hno2 s' i h1 fun j a b c => by have := (hj2 j c).2 b; omega).symm
              · exact hno2 i s' h1 fun j a b c => by have := (hj2 j c).1 b; omega
            rw [hsm.1, this]
            exact hv
          · rw [ho] at h
            simp only at h
            split at h
            · rename_i u us hu
              split at h
              · cases h
                refine ⟨u, ?_, fun σ => by rw [hrs.1]⟩
                rw [hsm.1]
                exact opVal_ok hrec.2.2.2 hu hrs.2 C hC
              · split at h
                · rename_i heq
                  cases h
                  refine ⟨u, ?_, fun σ => by rw [eqS_eq _ _ heq]⟩
                  rw [hsm.1]
                  exact opVal_ok hrec.2.2.2 hu hrs C hC
                · cases h
            · cases h
        · intro i o p ho hp
          obtain ⟨hi, h1, h2, h3, h4, h5⟩ := hfl i p hp
          obtain ⟨r, hr, hf, e1, e2, e3, e4, e5, e6, e7⟩ := hget i o ho
          obtain ⟨o', t, z, ho', hop, hz, hso⟩ := floatsS_spec C.P l H.length i p (by rw [hT]; exact hp)
          rw [ho] at ho'
          cases ho'
          have hv : rV R i = .ptr p.1 0 ∧ rF R i = false := by
            rcases hf.2.2 with ⟨_, _, _, _, _, h6⟩ | ⟨_, h2, _, _, q, hq, hv⟩ | ⟨_, _, h3, _⟩ | ⟨_, _, _, _, h5, _⟩
            · rw [hp] at h6; cases h6
            · rw [hp] at hq; cases hq; exact ⟨by rw [e3, hv], by rw [e5, h2]⟩
            · rw [hp] at h3; cases h3
            · rw [hp] at h5; cases h5
          refine ⟨hv.2, hv.1, ⟨.cells z.cells t, fun a w => ?_, fun σ => ?_⟩, h2, by rw [hR0]; exact h3, fun s hs hcm => ?_⟩
          · unfold execOp
            simp [hop, Instr.alloc, run_zeroValue hz, newVar, newRow]
          · rw [hso]
            simp only [denO, denL_k, Array.toArray_toList]
          · obtain ⟨s', hs', hle', hno⟩ := cands_spec R l.length hEf s hs
            have hcb := hcomp s s' i hi hle' hno hcm
            have hsm := hmc s s' hle' hno
            have := h4 s' hs' hcb
            exact ⟨by rw [hsm.1]; exact this.1, by rw [hsm.2]; exact this.2⟩
        · intro i p σ σ' hp hσ
          obtain ⟨o', t, z, ho', hop, hz, hso⟩ := floatsS_spec C.P l H.length i p (by rw [hT]; exact hp)
          rw [hso]
          simp only [denO, denL_k, hσ]
        · intro i o ho he
          have hi : i < l.length := (List.getElem?_eq_some_iff.1 ho).1
          obtain ⟨h1, h2, h3, h4, h5, h6, h7⟩ := hef i hi he
          obtain ⟨r, hr, hf, e1, e2, e3, e4, e5, e6, e7⟩ := hget i o ho
          rw [e5] at he
          rcases hf.2.2 with ⟨_, _, a3, _⟩ | ⟨_, a2, _⟩ | ⟨a1, a2, a3, a4⟩ | ⟨_, a2, _⟩
          · rw [he] at a3; cases a3
          · rw [he] at a2; cases a2
          · refine ⟨by rw [e4, a1], a3, rFs R i, h1, h2, fun j => hM i j hi, ?_, h4, by rw [hR0]; exact h5, h6⟩
            rw [e1, e2, e3, e6]
            exact a4 C hC
          · rw [he] at a2; cases a2
      · unfold rE
        rw [hRn _ (Nat.lt_irrefl _)]
      · rw [fillS'_length]
        exact hle
      · exact List.Pairwise.filter _ List.nodup_range
      · intro j
        unfold fsEnd
        rw [List.mem_filter, List.mem_range]
        simp
      · intro j hj
        have := deadAt_spec (hdead j hj)
        simpa [rH, hRn _ (Nat.lt_irrefl l.length)] using this
      · simp [rH, hRn _ (Nat.lt_irrefl l.length)]
end Go.Proofs.YtonmkjcilepdcaaGreatDoor
end
