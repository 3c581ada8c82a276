import Derived.Test.YtonmkjcilepdcaaGreatDoorEvU
/- The evaluator: a region that draws its order: its rows. -/
noncomputable section
namespace Go.Proofs.YtonmkjcilepdcaaGreatDoor
open Go.RowKit
set_option maxRecDepth 20000
set_option maxHeartbeats 4000000

/-! ### which operations turn the objects -/
def effK : Op → Bool
  | .store .. => true
  | .alloc _ => true
  | .box .. => true
  | .buildSlice .. => true
  | .makeMap .. => true
  | .makeSlice .. => true
  | .mapUpdate .. => true
  | .insert .. => true
  | .call ⟨.builtin .append, _, _⟩ => true
  | .call ⟨.builtin .copy, _, _⟩ => true
  | _ => false
theorem opStep_noeff {P : Program} {E : SE} {H H2 : SH} {o : Oper} {v : SV} (he : effK o.op = false) (h : opStep P E H o = some (v, H2)) : H2 = H := by
  unfold opStep at h
  split at h
  all_goals first
    | (rename_i hop; simp [hop, effK] at he; done)
    | exact (keepH_some h).2
    | (split at h
       · exact (keepH_some h).2
       · cases h)
theorem opStepG_noeff {P : Program} {G : Gb} {E : SE} {H H2 : SH} {o : Oper} {v : SV} (he : effK o.op = false) (h : opStepG P G E H o = some (v, H2)) : H2 = H := by
  unfold opStepG at h
  split at h
  · split at h
    · exact (keepH_some h).2
    · exact opStep_noeff he h
  · exact opStep_noeff he h
theorem opX_noeff {P : Program} {E : SE} {H H2 : SH} {o : Oper} {v : SV} {ps : List Prop} (he : effK o.op = false) (h : opX P E H o = some (v, H2, ps)) : H2 = H := by
  unfold opX at h
  split at h
  · obtain ⟨r, _, h2⟩ := Option.map_eq_some_iff.1 h
    cases h2
    rfl
  · cases h
def opVal (P : Program) (G : Gb) (E : SE) (H : SH) (o : Oper) (md : Bool) : Option (SV × List Prop) :=
  match findCall P E o with
  | some _ => none
  | none => if effK o.op then none else match md with
    | false => (opStepG P G E H o).map fun r => (r.1, [])
    | true => (opX P E H o).map fun r => (r.1, r.2.2)
theorem opVal_ok {P : Program} {B : World} {G : Gb} (hG : GbOk B G) {E : SE} {H : SH} {o : Oper} {md : Bool} {v : SV} {ps : List Prop} (h : opVal P G E H o md = some (v, ps)) (hp : AllP ps) (C : Ctx) (hC : Fit P B C) : OpOk C E H o v H := by
  unfold opVal at h
  split at h
  · cases h
  · split at h
    · cases h
    · rename_i he
      split at h
      · obtain ⟨p, hq, h2⟩ := Option.map_eq_some_iff.1 h
        cases h2
        obtain ⟨v, H2⟩ := p
        have := opStepG_noeff (by simpa using he) hq
        subst this
        exact opStepG_ok hG hq C hC
      · obtain ⟨p, hq, h2⟩ := Option.map_eq_some_iff.1 h
        cases h2
        obtain ⟨v, H2, qs⟩ := p
        have := opX_noeff (by simpa using he) hq
        subst this
        obtain rfl := hC.prog
        exact opX_ok hq hp
/-- Is it reckoned with unknown numbers? -/
def modeT (o : Oper) (T : Th) : Ans (Bool × Th) :=
  match xop o.op with
  | false => .ok (false, T)
  | true => match T.orc with
    | [] => .ok (false, T)
    | .lit :: q => .ok (false, ⟨q, T.obl⟩)
    | .x :: q => .ok (true, ⟨q, T.obl⟩)
    | .stop :: _ => .askO o
    | _ => .no 13
theorem modeT_ok {o : Oper} {md : Bool} {T T2 : Th} (h : modeT o T = .ok (md, T2)) : T2.obl = T.obl := by
  unfold modeT at h
  split at h
  · cases h; rfl
  · split at h <;> first | (cases h; rfl) | cases h
/-- Does what it yields hang on the objects? -/
def readsH : Op → Bool
  | .load .. => true
  | .lookup .. => true
  | .slice .. => true
  | .call ⟨.builtin .len, _, _⟩ => true
  | _ => false
theorem keepH_map (H : SH) (r : Option SV) : (keepH H r).map (·.1) = r := by cases r <;> rfl
theorem opVal_noH {P : Program} {G : Gb} {E : SE} {o : Oper} {md : Bool} (hr : readsH o.op = false) (H H' : SH) : opVal P G E H o md = opVal P G E H' o md := by
  unfold opVal
  cases hf : findCall P E o with
  | some _ => rfl
  | none =>
    simp only
    cases he : effK o.op with
    | true => rfl
    | false =>
      simp only [Bool.false_eq_true, if_false]
      cases md with
      | false =>
        have eg : ∀ H, opStepG P G E H o = opStep P E H o := fun H => by
          unfold opStepG
          split
          · rename_i hop; simp [hop, readsH] at hr
          · rfl
        have key : (opStepG P G E H o).map (·.1) = (opStepG P G E H' o).map (·.1) := by
          rw [eg, eg]
          unfold opStep
          split
          all_goals first
            | (rename_i hop; simp [hop, effK] at he; done)
            | (rename_i hop; simp [hop, readsH] at hr; done)
            | (rw [keepH_map, keepH_map])
        have e : ∀ x : Option (SV × SH), (x.map fun r => (r.1, ([] : List Prop))) = (x.map (·.1)).map fun v => (v, ([] : List Prop)) := fun x => by cases x <;> rfl
        simp only [e, key]
      | true =>
        simp only [opX]
        cases ho : o.op <;> first | rfl | (simp only [Option.map_map]; rfl)
end Go.Proofs.YtonmkjcilepdcaaGreatDoor
end
