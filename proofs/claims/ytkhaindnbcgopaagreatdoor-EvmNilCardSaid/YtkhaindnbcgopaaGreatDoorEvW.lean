import Derived.Test.YtkhaindnbcgopaaGreatDoorEvV
/- The evaluator: a region that draws its order is evaluated. -/
noncomputable section
namespace Go.Proofs.YtkhaindnbcgopaaGreatDoor
open Go.RowKit
set_option maxRecDepth 20000
set_option maxHeartbeats 4000000

def floatsS (P : Program) : List Oper → Nat → List (Option (Nat × SO))
  | [], _ => []
  | o :: l, nf => match o.op with
    | .alloc t => match zeroOf P t with
      | some z => some (nf, .cells (z.cells.toList.map .k) t) :: floatsS P l (nf + 1)
      | none => none :: floatsS P l nf
    | _ => none :: floatsS P l nf
def flF (T : List (Option (Nat × SO))) (j : Nat) : Option (Nat × SO) :=
  match T[j]? with
  | some x => x
  | none => none
theorem floatsS_length (P : Program) : ∀ (l : List Oper) (nf : Nat), (floatsS P l nf).length = l.length
  | [], _ => rfl
  | o :: l, nf => by
    unfold floatsS
    split
    · split
      · simp [floatsS_length P l]
      · simp [floatsS_length P l]
    · simp [floatsS_length P l]
theorem floatsS_spec (P : Program) : ∀ (l : List Oper) (nf i : Nat) (p : Nat × SO), flF (floatsS P l nf) i = some p → ∃ o t z, l[i]? = some o ∧ o.op = .alloc t ∧ zeroOf P t = some z ∧ p.2 = .cells (z.cells.toList.map .k) t
  | [], nf, i, p, h => by simp [floatsS, flF] at h
  | o :: l, nf, 0, p, h => by
    unfold floatsS at h
    split at h
    · rename_i t hop
      split at h
      · rename_i z hz
        simp only [flF, List.getElem?_cons_zero, Option.some.injEq] at h
        subst h
        exact ⟨o, t, z, rfl, hop, hz, rfl⟩
      · simp [flF] at h
    · simp [flF] at h
  | o :: l, nf, i + 1, p, h => by
    unfold floatsS at h
    split at h
    · split at h
      · have := floatsS_spec P l _ i p (by simpa [flF] using h)
        simpa using this
      · have := floatsS_spec P l _ i p (by simpa [flF] using h)
        simpa using this
    · have := floatsS_spec P l _ i p (by simpa [flF] using h)
      simpa using this
structure Row where
  v : SV
  E : SE
  H : SH
  wn : Bool
  ef : Bool
  fs : List Nat
def effOp (P : Program) (E : SE) (o : Oper) : Bool := (findCall P E o).isSome || effK o.op
def rowsS (P : Program) (rec : Rec) (ops : Array Oper) (T : List (Option (Nat × SO))) (depB : Nat → Nat → Bool) : List Oper → Nat → SE → SH → List Nat → Option (List Row × SE × SH)
  | [], _, E, H, _ => some ([], E, H)
  | o :: l, i, E, H, don =>
    match wantedS ops E o.guard with
    | none => none
    | some false => if (flF T i).isNone then
        spine (putO o.dst (.k undef) E) fun E' => match rowsS P rec ops T depB l (i + 1) E' H don with
        | some (R, E2, H2) => some (⟨.k undef, E, H, false, false, []⟩ :: R, E2, H2)
        | none => none
      else none
    | some true => match flF T i with
      | some p => spine (putO o.dst (.ptr p.1 0) E) fun E' => match rowsS P rec ops T depB l (i + 1) E' H don with
        | some (R, E2, H2) => some (⟨.ptr p.1 0, E, H, true, false, []⟩ :: R, E2, H2)
        | none => none
      | none => if effOp P E o then
          forceL ((List.range i).filter fun j => (flF T j).isSome && depB j i && !don.contains j) fun fs =>
          spine (fillS' H (fs.map (flD (flF T)))) fun HF => match stepS P rec E HF o with
          | some (v0, H0) => forceS v0 fun v => spine (putO o.dst v E) fun E' => match rowsS P rec ops T depB l (i + 1) E' H0 (fs ++ don) with
            | some (R, E2, H2) => some (⟨v, E, H, true, true, fs⟩ :: R, E2, H2)
            | none => none
          | none => none
        else match opVal P E H o with
          | some v0 => forceS v0 fun v => spine (putO o.dst v E) fun E' => match rowsS P rec ops T depB l (i + 1) E' H don with
            | some (R, E2, H2) => some (⟨v, E, H, true, false, []⟩ :: R, E2, H2)
            | none => none
          | none => none
def rE (R : List Row) (E2 : SE) (i : Nat) : SE := match R[i]? with | some r => r.E | none => E2
def rH (R : List Row) (H2 : SH) (i : Nat) : SH := match R[i]? with | some r => r.H | none => H2
def rV (R : List Row) (i : Nat) : SV := match R[i]? with | some r => r.v | none => .k undef
def rW (R : List Row) (i : Nat) : Bool := match R[i]? with | some r => r.wn | none => false
def rF (R : List Row) (i : Nat) : Bool := match R[i]? with | some r => r.ef | none => false
def rM (R : List Row) (s j : Nat) : Bool := (R.take s).any fun r => r.fs.contains j
def RFact (P : Program) (rec : Rec) (ops : Array Oper) (T : List (Option (Nat × SO))) (i : Nat) (o : Oper) (r : Row) (E' : SE) (H' : SH) : Prop :=
  E' = putO o.dst r.v r.E ∧ wantedS ops r.E o.guard = some r.wn ∧
  ((r.wn = false ∧ r.v = .k undef ∧ r.ef = false ∧ r.fs = [] ∧ H' = r.H ∧ flF T i = none) ∨
   (r.wn = true ∧ r.ef = false ∧ r.fs = [] ∧ H' = r.H ∧ ∃ p, flF T i = some p ∧ r.v = .ptr p.1 0) ∨
   (r.wn = true ∧ r.ef = true ∧ flF T i = none ∧ stepS P rec r.E (fillS' r.H (r.fs.map (flD (flF T)))) o = some (r.v, H')) ∨
   (r.wn = true ∧ r.ef = false ∧ r.fs = [] ∧ H' = r.H ∧ flF T i = none ∧ opVal P r.E r.H o = some r.v))
theorem rowsS_spec {P : Program} {rec : Rec} {ops : Array Oper} {T : List (Option (Nat × SO))} {depB : Nat → Nat → Bool} : ∀ {l : List Oper} {i : Nat} {E : SE} {H : SH} {don : List Nat} {R : List Row} {E2 : SE} {H2 : SH},
    rowsS P rec ops T depB l i E H don = some (R, E2, H2) → R.length = l.length ∧ rE R E2 0 = E ∧ rH R H2 0 = H ∧ ∀ k o, l[k]? = some o → ∃ r, R[k]? = some r ∧ RFact P rec ops T (i + k) o r (rE R E2 (k + 1)) (rH R H2 (k + 1))
  | [], i, E, H, don, R, E2, H2, h => by
    simp only [rowsS, Option.some.injEq, Prod.mk.injEq] at h
    obtain ⟨rfl, rfl, rfl⟩ := h
    exact ⟨rfl, rfl, rfl, fun k o h => by simp at h⟩
  | o :: l, i, E, H, don, R, E2, H2, h => by
    have key : ∀ (r : Row) (R' : List Row) (E' : SE) (H' : SH) (don' : List Nat), R = r :: R' → r.E = E → r.H = H → rowsS P rec ops T depB l (i + 1) E' H' don' = some (R', E2, H2) → RFact P rec ops T i o r E' H' →
        R.length = (o :: l).length ∧ rE R E2 0 = E ∧ rH R H2 0 = H ∧ ∀ k o', (o :: l)[k]? = some o' → ∃ r, R[k]? = some r ∧ RFact P rec ops T (i + k) o' r (rE R E2 (k + 1)) (rH R H2 (k + 1)) := by
      intro r R' E' H' don' hR hrE hrH hrec hf
      obtain ⟨h1, h2, h3, h4⟩ := rowsS_spec hrec
      subst hR
      refine ⟨by simp [h1], hrE, hrH, fun k o' hk => ?_⟩
      cases k with
      | zero =>
        simp only [List.getElem?_cons_zero, Option.some.injEq] at hk
        subst hk
        refine ⟨r, rfl, ?_⟩
        have e1 : rE (r :: R') E2 (0 + 1) = E' := by rw [← h2]; rfl
        have e2 : rH (r :: R') H2 (0 + 1) = H' := by rw [← h3]; rfl
        rw [e1, e2]
        exact hf
      | succ k =>
        simp only [List.getElem?_cons_succ] at hk
        obtain ⟨r', hr', hf'⟩ := h4 k o' hk
        refine ⟨r', by simpa using hr', ?_⟩
        rw [show i + (k + 1) = i + 1 + k by omega]
        exact hf'
    unfold rowsS at h
    simp only [forceS_eq, spine_eq, forceL_eq] at h
    split at h
    · cases h
    · rename_i hw
      split at h
      · rename_i hn
        split at h
        · rename_i R' E' H' hrec
          cases h
          exact key _ _ _ _ _ rfl rfl rfl hrec ⟨rfl, hw, .inl ⟨rfl, rfl, rfl, rfl, rfl, by simpa using hn⟩⟩
        · cases h
      · cases h
    · rename_i hw
      split at h
      · rename_i p hp
        split at h
        · rename_i R' E' H' hrec
          cases h
          exact key _ _ _ _ _ rfl rfl rfl hrec ⟨rfl, hw, .inr (.inl ⟨rfl, rfl, rfl, rfl, p, hp, rfl⟩)⟩
        · cases h
      · rename_i hp
        split at h
        · split at h
          · rename_i v H' hst
            split at h
            · rename_i R' E' H'' hrec
              cases h
              exact key _ _ _ _ _ rfl rfl rfl hrec ⟨rfl, hw, .inr (.inr (.inl ⟨rfl, rfl, hp, hst⟩))⟩
            · cases h
          · cases h
        · split at h
          · rename_i v hv
            split at h
            · rename_i R' E' H'' hrec
              cases h
              exact key _ _ _ _ _ rfl rfl rfl hrec ⟨rfl, hw, .inr (.inr (.inr ⟨rfl, rfl, rfl, rfl, hp, hv⟩))⟩
            · cases h
          · cases h
end Go.Proofs.YtkhaindnbcgopaaGreatDoor
end
