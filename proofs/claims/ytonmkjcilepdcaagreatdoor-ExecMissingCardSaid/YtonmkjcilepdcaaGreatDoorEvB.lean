import Derived.Test.YtonmkjcilepdcaaGreatDoorEvA
/- The evaluator: what a single operation does. -/
noncomputable section
namespace Go.Proofs.YtonmkjcilepdcaaGreatDoor
open Go.RowKit
set_option maxRecDepth 20000
set_option maxHeartbeats 4000000

theorem denL_get (σ : Nm) (l : List SV) (i : Nat) : (denL σ l)[i]? = (l[i]?).map (den σ) := by rw [denL_map, List.getElem?_map]
@[simp] theorem denL_length (σ : Nm) (l : List SV) : (denL σ l).length = l.length := by rw [denL_map, List.length_map]
theorem denL_append (σ : Nm) (l m : List SV) : denL σ (l ++ m) = denL σ l ++ denL σ m := by rw [denL_map, denL_map, denL_map, List.map_append]
theorem denL_take (σ : Nm) (l : List SV) (n : Nat) : denL σ (l.take n) = (denL σ l).take n := by rw [denL_map, denL_map, List.map_take]
theorem denL_drop (σ : Nm) (l : List SV) (n : Nat) : denL σ (l.drop n) = (denL σ l).drop n := by rw [denL_map, denL_map, List.map_drop]

/-- An operand's value. -/
def evS (E : SE) : Operand → Option SV
  | .tmp d => E.get d
  | .const v => some (.k v)
  | .func f => some (.k (.func (.func f) #[] #[]))
  | .global g => some (.k (.pointer (some ⟨g, 0, none⟩)))
theorem evS_ev {σ : Nm} {E : SE} {x : Operand} {s : SV} (h : evS E x = some s) : ev (denE σ E) x = some (den σ s) := by
  cases x with
  | tmp d => simp only [evS] at h; simp only [ev, denE_get, h, Option.map_some]
  | const v => simp only [evS, Option.some.injEq] at h; subst h; simp only [ev, den]
  | func f => simp only [evS, Option.some.injEq] at h; subst h; simp only [ev, den]
  | global g => simp only [evS, Option.some.injEq] at h; subst h; simp only [ev, den]
theorem evS_eval {σ : Nm} {E : SE} {x : Operand} {s : SV} {n : Nat} {a : Act} (hr : Rel n (denE σ E) a) (h : evS E x = some s) : a.eval x = den σ s := hr.eval (evS_ev h)
/-- From E and H the operation yields v, and makes H2, whatever else is owned. -/
def OpOk (C : Ctx) (E : SE) (H : SH) (o : Oper) (v : SV) (H2 : SH) : Prop :=
  ∀ (σ : Nm) (a : Act) (w : World) (M : Hp), Rel C.n (denE σ E) a → St C (denH σ H ++ M) w →
    Outcome C.P (fun u w' => ∃ σ', agree H.length H2.length σ σ' ∧ u = den σ' v ∧ St C (denH σ' H2 ++ M) w') ((execOp a.eval o).run C.P w)
/-- A value alone. -/
theorem OpOk.of_val {C : Ctx} {E : SE} {H : SH} {o : Oper} {v : SV} (h : ∀ (σ : Nm) (a : Act) (w : World) (M : Hp), Rel C.n (denE σ E) a → St C (denH σ H ++ M) w → (execOp a.eval o).run C.P w = .ok (.value (den σ v)) w) : OpOk C E H o v H := by
  intro σ a w M hr hs
  rw [h σ a w M hr hs]
  exact ⟨σ, agree.refl _ _, rfl, hs⟩

/-! ### plain values -/
def pureRun (P : Program) {α : Type} : Sem α → Option α
  | .pure a => some a
  | .program k => pureRun P (k P)
  | .mark _ k => pureRun P k
  | _ => none
theorem pureRun_run {P : Program} {α : Type} {w : World} : ∀ {s : Sem α} {a : α}, pureRun P s = some a → s.run P w = .ok a w
  | .pure a, b, h => by simp only [pureRun, Option.some.injEq] at h; subst h; rfl
  | .program k, b, h => by simp only [pureRun] at h; simp only [Sem.run]; exact pureRun_run h
  | .mark m k, b, h => by simp only [pureRun] at h; simp only [Sem.run]; exact pureRun_run h
  | .load .., _, h => by cases h
  | .store .., _, h => by cases h
  | .new .., _, h => by cases h
  | .shape .., _, h => by cases h
  | .freeze .., _, h => by cases h
  | .frozen .., _, h => by cases h
  | .getObj .., _, h => by cases h
  | .setObj .., _, h => by cases h
  | .choose .., _, h => by cases h
  | .sys .., _, h => by cases h
  | .halt .., _, h => by cases h
def plainV (E : SE) (x : Operand) : Option Value :=
  match evS E x with
  | some (.k v) => some v
  | _ => none
def plainD (E : SE) (x : Operand) : Value := (plainV E x).getD undef
theorem plainV_eval {σ : Nm} {E : SE} {x : Operand} {v : Value} {n : Nat} {a : Act} (hr : Rel n (denE σ E) a) (h : plainV E x = some v) : a.eval x = v := by
  unfold plainV at h
  split at h
  · rename_i u hu
    cases h
    rw [evS_eval hr hu, den]
  · cases h
def opPlain (P : Program) (E : SE) (o : Oper) : Option SV :=
  if o.op.operands.all (fun x => (plainV E x).isSome) && !isSel o.op then
    match pureRun P (execOp (plainD E) o) with
    | some (.value v) => some (.k v)
    | _ => none
  else none
theorem opPlain_ok {C : Ctx} {E : SE} {H : SH} {o : Oper} {v : SV} (h : opPlain C.P E o = some v) : OpOk C E H o v H := by
  unfold opPlain at h
  split at h
  case isFalse => cases h
  case isTrue hc =>
    simp only [Bool.and_eq_true, Array.all_eq_true_iff_forall_mem, Bool.not_eq_true'] at hc
    split at h
    case h_2 => cases h
    case h_1 u hu =>
      cases h
      refine OpOk.of_val fun σ a w M hr hs => ?_
      have he : execOp a.eval o = execOp (plainD E) o := execOp_congr o (fun cs b hcb => by simp [hcb, isSel] at hc) fun x hx => by
        have := hc.1 x hx
        obtain ⟨u, hu⟩ := Option.isSome_iff_exists.1 this
        rw [plainV_eval hr hu]
        simp [plainD, hu]
      rw [he, den]
      exact pureRun_run hu

/-! ### cells -/
def oneS : SV → Bool
  | .agg _ => false
  | .tup _ => false
  | .k v => v.oneCell'
  | _ => true
theorem oneS_den {σ : Nm} : ∀ {s : SV}, oneS s = true → (den σ s).oneCell' = true
  | .k v, h => by simpa [den, oneS] using h
  | .ptr .., _ => by simp [den, Value.oneCell']
  | .slice .., _ => by simp [den, Value.oneCell']
  | .slc .., _ => by simp [den, Value.oneCell']
  | .map .., _ => by simp [den, Value.oneCell']
  | .func .., _ => by simp [den, Value.oneCell']
  | .iface .., _ => by simp [den, Value.oneCell']
  | .agg _, h => by cases h
  | .tup _, h => by cases h
def cellsS : SV → List SV
  | .agg cs => cs
  | .k (.agg cs) => cs.toList.map .k
  | s => [s]
theorem cellsS_den (σ : Nm) (s : SV) : (den σ s).cells.toList = denL σ (cellsS s) := by
  cases s with
  | k v => cases v <;> simp [den, cellsS, Value.cells, denL, denL_map, Function.comp_def]
  | agg cs => simp [den, cellsS, Value.cells]
  | _ => simp [den, cellsS, Value.cells, denL]
def plainL : List SV → Option (List Value)
  | [] => some []
  | .k v :: l => (plainL l).map (v :: ·)
  | _ :: _ => none
theorem plainL_den (σ : Nm) : ∀ {l : List SV} {vs : List Value}, plainL l = some vs → denL σ l = vs
  | [], vs, h => by simp only [plainL, Option.some.injEq] at h; subst h; rw [denL]
  | .k v :: l, vs, h => by
    simp only [plainL, Option.map_eq_some_iff] at h
    obtain ⟨us, hu, rfl⟩ := h
    rw [denL, plainL_den σ hu, den]
  | .ptr .. :: _, _, h => by cases h
  | .slice .. :: _, _, h => by cases h
  | .slc .. :: _, _, h => by cases h
  | .map .. :: _, _, h => by cases h
  | .func .. :: _, _, h => by cases h
  | .iface .. :: _, _, h => by cases h
  | .agg .. :: _, _, h => by cases h
  | .tup .. :: _, _, h => by cases h
def mkAgg (l : List SV) : SV :=
  match plainL l with
  | some vs => .k (.agg vs.toArray)
  | none => .agg l
theorem mkAgg_den (σ : Nm) (l : List SV) : den σ (mkAgg l) = .agg (denL σ l).toArray := by
  unfold mkAgg
  split
  · rename_i vs h
    rw [den, plainL_den σ h]
  · rw [den]
/-- What is known of an object's cells. -/
def cellsOf : SO → Option (List SV)
  | .cells cs _ => some cs
  | .pre _ cs _ => some cs
  | _ => none
theorem St.scell {C : Ctx} {σ : Nm} {H : SH} {M : Hp} {w : World} (hs : St C (denH σ H ++ M) w) {n : Nat} {o : SO} (ho : H[n]? = some o) {cs : List SV} (hc : cellsOf o = some cs) {j : Nat} {s : SV} (hj : cs[j]? = some s) :
    w.cell? ⟨(σ n).1, j, none⟩ = some (den σ s) := by
  obtain ⟨ow, hown⟩ := hs.own
  have hq : (denH σ H ++ M)[n]? = some (denO σ n o) := by
    rw [List.getElem?_append_left (by rw [denH_length]; exact (List.getElem?_eq_some_iff.1 ho).1), denH_get, ho]; rfl
  have h := hown.sat n _ hq
  have hjs : (denL σ cs)[j]? = some (den σ s) := by rw [denL_get, hj]; rfl
  cases o with
  | cells cs' e =>
    simp only [cellsOf, Option.some.injEq] at hc
    subst hc
    have hw := (cut_in (show cut (ow n) w (σ n).1 = _ from h)).2
    simp [World.cell?, hw, hjs]
  | pre sz cs' e =>
    simp only [cellsOf, Option.some.injEq] at hc
    subst hc
    obtain ⟨post, hp, _⟩ := h
    have hw := (cut_in hp).2
    have : (denL σ cs' ++ post)[j]? = some (den σ s) := by rw [List.getElem?_append_left (List.getElem?_eq_some_iff.1 hjs).1, hjs]
    simp [World.cell?, hw, this]
  | _ => cases hc
theorem run_loadCells_sub {C : Ctx} {σ : Nm} {H : SH} {M : Hp} {w : World} (hs : St C (denH σ H ++ M) w) {n : Nat} {o : SO} (ho : H[n]? = some o) {cs : List SV} (hc : cellsOf o = some cs) (off k : Nat) (hk : off + k ≤ cs.length) :
    (loadCells ⟨(σ n).1, off, none⟩ k).run C.P w = .ok (denL σ ((cs.drop off).take k)).toArray w := by
  have hl : (denL σ ((cs.drop off).take k)).length = k := by rw [denL_length, List.length_take, List.length_drop]; omega
  have := run_loadCells_list (P := C.P) w ⟨(σ n).1, off, none⟩ (denL σ ((cs.drop off).take k)) fun j v hj => by
    rw [denL_get] at hj
    obtain ⟨s, h1, rfl⟩ := Option.map_eq_some_iff.1 hj
    rw [List.getElem?_take] at h1
    split at h1
    · rw [List.getElem?_drop] at h1
      rw [addr_add]
      exact hs.scell ho hc h1
    · cases h1
  rwa [hl] at this
def isAggT (P : Program) (t : TypeId) : Option Bool := (P.underlying t).map isAggB
def loadS (P : Program) (H : SH) (t : TypeId) (n off : Nat) : Option SV :=
  match getL H n with
  | some o => match cellsOf o with
    | some cs => match isAggT P t with
      | some true => match szOf P t with
        | some k => if off + k ≤ cs.length then some (mkAgg ((cs.drop off).take k)) else none
        | none => none
      | some false => getL cs off
      | none => none
    | none => none
  | none => none
theorem loadS_run {C : Ctx} {σ : Nm} {H : SH} {M : Hp} {w : World} (hs : St C (denH σ H ++ M) w) {t : TypeId} {n off : Nat} {s : SV} (h : loadS C.P H t n off = some s) :
    (loadVar t ⟨(σ n).1, off, none⟩).run C.P w = .ok (den σ s) w := by
  unfold loadS at h
  simp only [getL_eq] at h
  split at h
  case h_2 => cases h
  case h_1 o ho =>
    split at h
    case h_2 => cases h
    case h_1 cs hc =>
      unfold isAggT at h
      cases hu : C.P.underlying t with
      | none => simp [hu] at h
      | some d =>
        simp only [hu, Option.map_some] at h
        cases hd : isAggB d with
        | true =>
          simp only [hd] at h
          split at h
          case h_2 => cases h
          case h_1 k hk =>
            split at h
            case isFalse => cases h
            case isTrue hle =>
              cases h
              rw [mkAgg_den]
              simp [loadVar, run_isAgg hu, hd, run_sizeOf hk, run_loadCells_sub hs ho hc off k hle]
        | false =>
          simp only [hd] at h
          have := hs.scell ho hc h
          simp [loadVar, run_isAgg hu, hd, this]
def opLoad (P : Program) (E : SE) (H : SH) (t : TypeId) (x : Operand) : Option SV :=
  match evS E x with
  | some (.ptr n off) => loadS P H t n off
  | _ => none
theorem opLoad_ok {C : Ctx} {E : SE} {H : SH} {o : Oper} {v : SV} {t : TypeId} {x : Operand} (hop : o.op = .load t x) (h : opLoad C.P E H t x = some v) : OpOk C E H o v H := by
  unfold opLoad at h
  split at h
  case h_2 => cases h
  case h_1 n off hx =>
    refine OpOk.of_val fun σ a w M hr hs => ?_
    have hx' := evS_eval hr hx
    rw [den] at hx'
    have := loadS_run hs h
    unfold execOp
    simp [hop, hx', Instr.loadAt, Instr.sureAddr, this]
/-! ### stores -/
def putCells (cs : List SV) (off : Nat) (vs : List SV) : List SV := cs.take off ++ vs ++ cs.drop (off + vs.length)
def setCells (o : SO) (cs : List SV) : SO :=
  match o with
  | .cells _ e => .cells cs e
  | .pre sz _ e => .pre sz cs e
  | o => o
def storeS (P : Program) (H : SH) (t : TypeId) (n off : Nat) (s : SV) : Option SH :=
  match getL H n with
  | some o => match cellsOf o with
    | some cs => match szOf P t with
      | some k => if Nat.beq k (cellsS s).length && Nat.ble (off + k) cs.length && (cellsS s).all oneS then setK H n (setCells o (putCells cs off (cellsS s))) some else none
      | none => none
    | none => none
  | none => none
theorem St.setL {C : Ctx} {L L' : Hp} {w : World} (h : St C L w) (e : L = L') : St C L' w := e ▸ h
theorem storeS_run {C : Ctx} {σ : Nm} {H H2 : SH} {M : Hp} {w : World} (hs : St C (denH σ H ++ M) w) {t : TypeId} {n off : Nat} {s : SV} (h : storeS C.P H t n off s = some H2) :
    H2.length = H.length ∧ ∃ w', (storeVar t ⟨(σ n).1, off, none⟩ (den σ s)).run C.P w = .ok () w' ∧ St C (denH σ H2 ++ M) w' := by
  unfold storeS at h
  simp only [getL_eq] at h
  split at h
  case h_2 => cases h
  case h_1 o ho =>
    split at h
    case h_2 => cases h
    case h_1 cs hc =>
      split at h
      case h_2 => cases h
      case h_1 k hk =>
        split at h
        case isFalse => cases h
        case isTrue hcond =>
          simp only [Bool.and_eq_true, Nat.beq_eq, Nat.ble_eq, List.all_eq_true] at hcond
          obtain ⟨⟨rfl, hle⟩, hone⟩ := hcond
          rw [setK_eq] at h
          cases h
          have hnl := (List.getElem?_eq_some_iff.1 ho).1
          have hq : (denH σ H ++ M)[n]? = some (denO σ n o) := by
            rw [List.getElem?_append_left (by rw [denH_length]; exact hnl), denH_get, ho]; rfl
          have hvs := cellsS_den σ s
          have hone' : ∀ v ∈ denL σ (cellsS s), v.oneCell' = true := by
            intro v hv
            rw [denL_map] at hv
            obtain ⟨x, hx, rfl⟩ := List.mem_map.1 hv
            exact oneS_den (hone x hx)
          -- the block's cells, and what comes behind them
          obtain ⟨ow, hown⟩ := hs.own
          obtain ⟨e, post, hA, hmk⟩ : ∃ (e : TypeId) (post : List Value), cut (ow n) w (σ n).1 = some (.cells (denL σ cs ++ post).toArray e (0, 0)) ∧ ∀ (cs2 : List SV) (h' : PH), cs2.length = cs.length → h' (σ n).1 = some (.cells (denL σ cs2 ++ post).toArray e (0, 0)) → denO σ n (setCells o cs2) h' := by
            have h := hown.sat n _ hq
            cases o with
            | cells cs' e =>
              simp only [cellsOf, Option.some.injEq] at hc
              subst hc
              exact ⟨e, [], by rw [List.append_nil]; exact h, fun cs2 h' _ hh => by rw [List.append_nil] at hh; exact hh⟩
            | pre sz cs' e =>
              simp only [cellsOf, Option.some.injEq] at hc
              subst hc
              obtain ⟨post, hp, hsz⟩ := h
              exact ⟨e, post, hp, fun cs2 h' hl hh => ⟨post, hh, by rw [hsz, hl]⟩⟩
            | _ => cases hc
          have hw := (cut_in hA).2
          have hst := run_storeCells_at C.P (σ n).1 off e (denL σ (cellsS s)) 0 (denL σ cs ++ post).toArray w hw (by simp; omega) hone'
          have hput : ((denL σ cs ++ post).toArray.toList.take (off + 0) ++ denL σ (cellsS s) ++ (denL σ cs ++ post).toArray.toList.drop (off + 0 + (denL σ (cellsS s)).length)) = denL σ (putCells cs off (cellsS s)) ++ post := by
            unfold putCells
            rw [denL_append, denL_append, denL_take, denL_drop, Nat.add_zero, denL_length, List.append_assoc, List.append_assoc, List.append_assoc]
            simp only []
            rw [List.take_append_of_le_length (by rw [denL_length]; omega), List.drop_append_of_le_length (by rw [denL_length]; omega)]
          rw [hput] at hst
          refine ⟨by rw [List.length_set], w.setRow (σ n).1 (denL σ (putCells cs off (cellsS s)) ++ post).toArray, ?_, ?_⟩
          · have hsz : (den σ s).cells.size = (cellsS s).length := by rw [← Array.length_toList, hvs, denL_length]
            simp [storeVar, run_sizeOf hk, hsz, hvs, hst]
          · have key : (denH σ (H.set n (setCells o (putCells cs off (cellsS s)))) ++ M) = (denH σ H ++ M).set n (denO σ n (setCells o (putCells cs off (cellsS s)))) := by
              rw [denH_set, List.set_append_left _ _ (by rw [denH_length]; exact hnl)]
            rw [key]
            have hlen : (putCells cs off (cellsS s)).length = cs.length := by unfold putCells; simp; omega
            refine hs.upd hq rfl rfl rfl (by simp) fun D hD hl => ?_
            obtain ⟨hb1, hb2⟩ : D (σ n).1 ∧ w.heap[(σ n).1]? = some (.cells (denL σ cs ++ post).toArray e (0, 0)) := by
              have h1 : ∃ x, cut D w (σ n).1 = some x := by
                cases o with
                | cells cs' e => exact ⟨_, hD⟩
                | pre sz cs' e => obtain ⟨post, hp, _⟩ := hD; exact ⟨_, hp⟩
                | _ => cases hc
              obtain ⟨x, hx⟩ := h1
              exact ⟨(cut_in hx).1, hw⟩
            exact ⟨D, fun _ h => .inl h, fun b hb => by simpa using hl b hb, fun b' _ hn => setRow_other _ _ _ _ (fun e => hn (e ▸ hb1)), hmk _ _ hlen (cut_of hb1 (setRow_heap w _ _ _ e (0, 0) hb2))⟩
end Go.Proofs.YtonmkjcilepdcaaGreatDoor
end
