import Derived.Test.YtonmkjcilepdcaaGreatDoorEvV
/- The evaluator: a region that draws its order is evaluated. -/
noncomputable section
namespace Go.Proofs.YtonmkjcilepdcaaGreatDoor
open Go.RowKit
set_option maxRecDepth 20000
set_option maxHeartbeats 4000000

def floatsS (P : Program) : List Oper → Nat → List (Option (Nat × SO))
  | [], _ => []
  | o :: l, nf => match o.op with
    | .alloc t => match zeroOf P t with
      | some z => some (nf, .cells (z.cells.toList.map .k) t) :: floatsS P l (nf + 1)
      | none => none :: floatsS P l nf
    | _ => none :: floatsS P l nf
def flF (T : List (Option (Nat × SO))) (j : Nat) : Option (Nat × SO) :=
  match T[j]? with
  | some x => x
  | none => none
theorem floatsS_length (P : Program) : ∀ (l : List Oper) (nf : Nat), (floatsS P l nf).length = l.length
  | [], _ => rfl
  | o :: l, nf => by
    unfold floatsS
    split
    · split
      · simp [floatsS_length P l]
      · simp [floatsS_length P l]
    · simp [floatsS_length P l]
theorem floatsS_spec (P : Program) : ∀ (l : List Oper) (nf i : Nat) (p : Nat × SO), flF (floatsS P l nf) i = some p → ∃ o t z, l[i]? = some o ∧ o.op = .alloc t ∧ zeroOf P t = some z ∧ p.2 = .cells (z.cells.toList.map .k) t
  | [], nf, i, p, h => by simp [floatsS, flF] at h
  | o :: l, nf, 0, p, h => by
    unfold floatsS at h
    split at h
    · rename_i t hop
      split at h
      · rename_i z hz
        simp only [flF, List.getElem?_cons_zero, Option.some.injEq] at h
        subst h
        exact ⟨o, t, z, rfl, hop, hz, rfl⟩
      · simp [flF] at h
    · simp [flF] at h
  | o :: l, nf, i + 1, p, h => by
    unfold floatsS at h
    split at h
    · split at h
      · have := floatsS_spec P l _ i p (by simpa [flF] using h)
        simpa using this
      · have := floatsS_spec P l _ i p (by simpa [flF] using h)
        simpa using this
    · have := floatsS_spec P l _ i p (by simpa [flF] using h)
      simpa using this
structure Row where
  v : SV
  E : SE
  H : SH
  wn : Bool
  ef : Bool
  fs : List Nat
  md : Bool
def effOp (P : Program) (E : SE) (o : Oper) : Bool := (findCall P E o).isSome || effK o.op
def rowsS (P : Program) (rec : Rec) (ops : Array Oper) (F : List (Option (Nat × SO))) (depB : Nat → Nat → Bool) : List Oper → Nat → SE → SH → List Nat → Th → Ans (List Row × SE × SH × Th)
  | [], _, E, H, _, T => .ok ([], E, H, T)
  | o :: l, i, E, H, don, T =>
    (wantedT ops E o.guard T).bind fun q => match q.1 with
    | false => if (flF F i).isNone then
        headE (putO o.dst (.k undef) E) fun E' => (forceTh q.2 fun T' => rowsS P rec ops F depB l (i + 1) E' H don T').bind fun r => .ok (⟨.k undef, E, H, false, false, [], false⟩ :: r.1, r.2)
      else .no 40
    | true => match flF F i with
      | some p => headE (putO o.dst (.ptr p.1 0) E) fun E' => (forceTh q.2 fun T' => rowsS P rec ops F depB l (i + 1) E' H don T').bind fun r => .ok (⟨.ptr p.1 0, E, H, true, false, [], false⟩ :: r.1, r.2)
      | none => if effOp P E o then
          forceL ((List.range i).filter fun j => (flF F j).isSome && depB j i && !don.contains j) fun fs =>
          spine (fillS' H (fs.map (flD (flF F)))) fun HF => (stepS P rec E HF o q.2).bind fun x =>
            forceSH x.2.1 x.1 fun v => headE (putO o.dst v E) fun E' => (forceTh x.2.2 fun T' => rowsS P rec ops F depB l (i + 1) E' x.2.1 (fs ++ don) T').bind fun r => .ok (⟨v, E, H, true, true, fs, false⟩ :: r.1, r.2)
        else (modeT o q.2).bind fun m => (ofOpt 41 (opVal P rec.glob E H o m.1)).bind fun x =>
          forceSH H x.1 fun v => headE (putO o.dst v E) fun E' => (rowsS P rec ops F depB l (i + 1) E' H don ⟨m.2.orc, x.2 ++ m.2.obl⟩).bind fun r => .ok (⟨v, E, H, true, false, [], m.1⟩ :: r.1, r.2)
def rE (R : List Row) (E2 : SE) (i : Nat) : SE := match R[i]? with | some r => r.E | none => E2
def rH (R : List Row) (H2 : SH) (i : Nat) : SH := match R[i]? with | some r => r.H | none => H2
def rV (R : List Row) (i : Nat) : SV := match R[i]? with | some r => r.v | none => .k undef
def rW (R : List Row) (i : Nat) : Bool := match R[i]? with | some r => r.wn | none => false
def rF (R : List Row) (i : Nat) : Bool := match R[i]? with | some r => r.ef | none => false
def rM (R : List Row) (s j : Nat) : Bool := (R.take s).any fun r => r.fs.contains j
def rMd (R : List Row) (i : Nat) : Bool := match R[i]? with | some r => r.md | none => false
def RFact (P : Program) (rec : Rec) (ops : Array Oper) (F : List (Option (Nat × SO))) (i : Nat) (o : Oper) (r : Row) (E' : SE) (H' : SH) : Prop :=
  E' = putO o.dst r.v r.E ∧ wantedS ops r.E o.guard = some r.wn ∧
  ((r.wn = false ∧ r.v = .k undef ∧ r.ef = false ∧ r.fs = [] ∧ H' = r.H ∧ flF F i = none) ∨
   (r.wn = true ∧ r.ef = false ∧ r.fs = [] ∧ H' = r.H ∧ ∃ p, flF F i = some p ∧ r.v = .ptr p.1 0) ∨
   (r.wn = true ∧ r.ef = true ∧ flF F i = none ∧ ∀ C, Fit P rec.base C → OpOk C r.E (fillS' r.H (r.fs.map (flD (flF F)))) o r.v H') ∨
   (r.wn = true ∧ r.ef = false ∧ r.fs = [] ∧ H' = r.H ∧ flF F i = none ∧ ∃ ps, opVal P rec.glob r.E r.H o r.md = some (r.v, ps) ∧ AllP ps))
theorem rowsS_spec {P : Program} {rec : Rec} (hrec : RecOk P rec) {ops : Array Oper} {F : List (Option (Nat × SO))} {depB : Nat → Nat → Bool} : ∀ {l : List Oper} {i : Nat} {E : SE} {H : SH} {don : List Nat} {T : Th} {R : List Row} {E2 : SE} {H2 : SH} {T2 : Th},
    rowsS P rec ops F depB l i E H don T = .ok (R, E2, H2, T2) → AllP T2.obl → AllP T.obl ∧ R.length = l.length ∧ rE R E2 0 = E ∧ rH R H2 0 = H ∧ ∀ k o, l[k]? = some o → ∃ r, R[k]? = some r ∧ RFact P rec ops F (i + k) o r (rE R E2 (k + 1)) (rH R H2 (k + 1))
  | [], i, E, H, don, T, R, E2, H2, T2, h, hT => by
    simp only [rowsS, Ans.ok.injEq, Prod.mk.injEq] at h
    obtain ⟨rfl, rfl, rfl, rfl⟩ := h
    exact ⟨hT, rfl, rfl, rfl, fun k o h => by simp at h⟩
  | o :: l, i, E, H, don, T, R, E2, H2, T2, h, hT => by
    have key : ∀ (r : Row) (R' : List Row) (E' : SE) (H' : SH) (don' : List Nat) (T' : Th), R = r :: R' → r.E = E → r.H = H → rowsS P rec ops F depB l (i + 1) E' H' don' T' = .ok (R', E2, H2, T2) → (AllP T'.obl → AllP T.obl ∧ RFact P rec ops F i o r E' H') →
        AllP T.obl ∧ R.length = (o :: l).length ∧ rE R E2 0 = E ∧ rH R H2 0 = H ∧ ∀ k o', (o :: l)[k]? = some o' → ∃ r, R[k]? = some r ∧ RFact P rec ops F (i + k) o' r (rE R E2 (k + 1)) (rH R H2 (k + 1)) := by
      intro r R' E' H' don' T' hR hrE hrH hrc hf
      obtain ⟨h0, h1, h2, h3, h4⟩ := rowsS_spec hrec hrc hT
      obtain ⟨hT0, hf⟩ := hf h0
      subst hR
      refine ⟨hT0, by simp [h1], hrE, hrH, fun k o' hk => ?_⟩
      cases k with
      | zero =>
        simp only [List.getElem?_cons_zero, Option.some.injEq] at hk
        subst hk
        refine ⟨r, rfl, ?_⟩
        have e1 : rE (r :: R') E2 (0 + 1) = E' := by rw [← h2]; rfl
        have e2 : rH (r :: R') H2 (0 + 1) = H' := by rw [← h3]; rfl
        rw [e1, e2]
        exact hf
      | succ k =>
        simp only [List.getElem?_cons_succ] at hk
        obtain ⟨r', hr', hf'⟩ := h4 k o' hk
        refine ⟨r', by simpa using hr', ?_⟩
        rw [show i + (k + 1) = i + 1 + k by omega]
        exact hf'
    unfold rowsS at h
    simp only [forceSH_eq, spine_eq, forceL_eq, headE_eq, forceTh_eq] at h
    obtain ⟨⟨q, T1⟩, hw, h⟩ := Ans.bind_ok.1 h
    split at h
    · rename_i hq1
      try simp only at hq1
      subst hq1
      split at h
      · rename_i hn
        obtain ⟨⟨R', E', H', T'⟩, hrc, h⟩ := Ans.bind_ok.1 h
        cases h
        exact key _ _ _ _ _ _ rfl rfl rfl hrc fun h0 => ⟨(wantedT_ok hw h0).2, rfl, (wantedT_ok hw h0).1, .inl ⟨rfl, rfl, rfl, rfl, rfl, by simpa using hn⟩⟩
      · cases h
    · rename_i hq1
      try simp only at hq1
      subst hq1
      split at h
      · rename_i p hp
        obtain ⟨⟨R', E', H', T'⟩, hrc, h⟩ := Ans.bind_ok.1 h
        cases h
        exact key _ _ _ _ _ _ rfl rfl rfl hrc fun h0 => ⟨(wantedT_ok hw h0).2, rfl, (wantedT_ok hw h0).1, .inr (.inl ⟨rfl, rfl, rfl, rfl, p, hp, rfl⟩)⟩
      · rename_i hp
        split at h
        · obtain ⟨⟨v, H', T3⟩, hst, h⟩ := Ans.bind_ok.1 h
          obtain ⟨⟨R', E'', H'', T'⟩, hrc, h⟩ := Ans.bind_ok.1 h
          cases h
          exact key _ _ _ _ _ _ rfl rfl rfl hrc fun h0 => by
            obtain ⟨h1, hok⟩ := stepS_ok hrec hst h0
            exact ⟨(wantedT_ok hw h1).2, rfl, (wantedT_ok hw h1).1, .inr (.inr (.inl ⟨rfl, rfl, hp, hok⟩))⟩
        · obtain ⟨⟨md, T3⟩, hm, h⟩ := Ans.bind_ok.1 h
          obtain ⟨⟨v, ps⟩, hv, h⟩ := Ans.bind_ok.1 h
          obtain ⟨⟨R', E'', H'', T'⟩, hrc, h⟩ := Ans.bind_ok.1 h
          cases h
          exact key _ _ _ _ _ _ rfl rfl rfl hrc fun h0 => by
            rw [AllP_append] at h0
            have hm' := modeT_ok hm
            have h1 := h0.2
            simp only at h1
            rw [hm'] at h1
            exact ⟨(wantedT_ok hw h1).2, rfl, (wantedT_ok hw h1).1, .inr (.inr (.inr ⟨rfl, rfl, rfl, rfl, hp, ps, ofOpt_ok.1 hv, h0.1⟩))⟩
end Go.Proofs.YtonmkjcilepdcaaGreatDoor
end
