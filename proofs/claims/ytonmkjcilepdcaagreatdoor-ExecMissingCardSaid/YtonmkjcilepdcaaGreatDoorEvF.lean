import Derived.Test.YtonmkjcilepdcaaGreatDoorEvE
/- The evaluator: lengths, nil, new slices, maps. -/
noncomputable section
namespace Go.Proofs.YtonmkjcilepdcaaGreatDoor
open Go.RowKit
set_option maxRecDepth 20000
set_option maxHeartbeats 4000000

theorem run_built {P : Program} {σ : Nm} {E : SE} {n : Nat} {a : Act} {w : World} (_hr : Rel n (denE σ E) a) {o : Oper} {b : Builtin} {args : Array Operand} {ats : Array TypeId} (hop : o.op = .call ⟨.builtin b, args, ats⟩) :
    ∃ cs, (execOp a.eval o).run P w = (builtin b ats o.type cs (args.map a.eval)).run P w := by
  refine ⟨args.map fun | .const _ => true | _ => false, ?_⟩
  unfold execOp
  simp only [hop, resolve, Sem.run_bind, Sem.run_pure, Result.andThen_ok, invoke]
  rfl
def opLen (P : Program) (E : SE) (H : SH) (t : TypeId) (x : Operand) : Option SV :=
  match evS E x, P.underlying t with
  | some (.slice _ _ len _), some (.slice _) => some (.k (.int .i64 len))
  | some (.slc _ _ _ len), some (.slice _) => some (.k (.int .i64 len))
  | some (.map n), some (.map _ _) => match getL H n with
    | some (.map es _) => some (.k (.int .i64 es.length))
    | _ => none
  | _, _ => none
theorem St.smap {C : Ctx} {σ : Nm} {H : SH} {M : Hp} {w : World} (hs : St C (denH σ H ++ M) w) {n : Nat} {es : List (SV × SV × Nat)} {c : Nat} (ho : H[n]? = some (.map es c)) : w.heap[(σ n).1]? = some (.map (denM σ es).toArray c) := by
  refine hs.known (q := n) ?_
  rw [List.getElem?_append_left (by rw [denH_length]; exact (List.getElem?_eq_some_iff.1 ho).1), denH_get, ho]; rfl
theorem opLen_ok {C : Ctx} {E : SE} {H : SH} {o : Oper} {v : SV} {t : TypeId} {x : Operand} {args : Array Operand} {ats : Array TypeId} (hop : o.op = .call ⟨.builtin .len, args, ats⟩) (ha : args.toList = [x]) (ht : ats.toList = [t]) (h : opLen C.P E H t x = some v) : OpOk C E H o v H := by
  obtain rfl : args = #[x] := by apply Array.toList_inj.1; rw [ha]
  obtain rfl : ats = #[t] := by apply Array.toList_inj.1; rw [ht]
  unfold opLen at h
  simp only [getL_eq] at h
  refine OpOk.of_val fun σ a w M hr hs => ?_
  obtain ⟨cs, hc⟩ := run_built (P := C.P) (w := w) hr hop
  rw [hc]
  split at h
  · rename_i n off len cap e hx hu
    cases h
    have h1 := evS_eval hr hx
    simp [builtin, Builtin.len_, run_underlying hu, h1, den, goInt]
  · rename_i n lo off len e hx hu
    cases h
    have h1 := evS_eval hr hx
    simp [builtin, Builtin.len_, run_underlying hu, h1, den, goInt]
  · rename_i n k e hx hu
    have h1 := evS_eval hr hx
    split at h
    · rename_i es c ho
      cases h
      have := hs.smap ho
      simp [builtin, Builtin.len_, run_underlying hu, h1, den, goInt, getObj, Sem.run, this, denM]
    · cases h
  · cases h
/-! ### what is compared with nil -/
def nonNil : TypeDesc → SV → Bool
  | .pointer _, .ptr .. => true
  | .slice _, .slice .. => true
  | .slice _, .slc .. => true
  | .map _ _, .map _ => true
  | .func .., .func .. => true
  | .interface _, .iface .. => true
  | _, _ => false
def isNilV : TypeDesc → Value → Bool
  | .pointer _, .pointer none => true
  | .slice _, .slice none 0 0 => true
  | .map _ _, .map none => true
  | .func .., .nilFunc => true
  | .interface _, .nilIface => true
  | _, _ => false
def opEqNil (P : Program) (E : SE) (op : BinOp) (t : TypeId) (x y : Operand) : Option SV :=
  match evS E x, evS E y, P.underlying t with
  | some s, some (.k v), some d => if nonNil d s && isNilV d v then match op with
      | .eql => some (.k (.bool false))
      | .neq => some (.k (.bool true))
      | _ => none
    else none
  | _, _, _ => none
theorem eqNil_run {P : Program} {σ : Nm} {t : TypeId} {d : TypeDesc} {s : SV} {v : Value} (hu : P.underlying t = some d) (h1 : nonNil d s = true) (h2 : isNilV d v = true) (n : Nat) (w : World) : (Op.equalIn (n + 1) t (den σ s) v).run P w = .ok false w := by
  cases d with
  | pointer e =>
    cases s <;> simp [nonNil] at h1
    cases v with
    | pointer a => cases a <;> simp [isNilV] at h2; simp [Op.equalIn, run_underlying hu, den]
    | _ => simp [isNilV] at h2
  | slice e =>
    cases v with
    | slice a l c =>
      cases a with
      | none => cases s <;> simp [nonNil] at h1 <;> simp [Op.equalIn, run_underlying hu, den]
      | some a => simp [isNilV] at h2
    | _ => simp [isNilV] at h2
  | map k e =>
    cases s <;> simp [nonNil] at h1
    cases v with
    | map a => cases a <;> simp [isNilV] at h2; simp [Op.equalIn, run_underlying hu, den]
    | _ => simp [isNilV] at h2
  | func p r vd =>
    cases s <;> simp [nonNil] at h1
    cases v with
    | nilFunc => simp [Op.equalIn, run_underlying hu, den]
    | _ => simp [isNilV] at h2
  | interface ms =>
    cases s <;> simp [nonNil] at h1
    cases v with
    | nilIface => simp [Op.equalIn, run_underlying hu, den]
    | _ => simp [isNilV] at h2
  | _ => simp [nonNil] at h1
theorem eqNil_guard {P : Program} {σ : Nm} {d : TypeDesc} {s : SV} {v : Value} (h1 : nonNil d s = true) (h2 : isNilV d v = true) (op : BinOp) (t : TypeId) (x y : Operand) (w : World) : (eqGuard op t x y (den σ s) v).run P w = .ok () w := by
  cases d <;> simp [nonNil] at h1
  all_goals
    cases s <;> simp [nonNil] at h1
    all_goals
      cases v <;> simp [isNilV] at h2
      all_goals
        simp only [den]
        cases op <;> rfl
theorem eqNil_bin {P : Program} {σ : Nm} {t : TypeId} {d : TypeDesc} {s : SV} {v : Value} (h1 : nonNil d s = true) (h2 : isNilV d v = true) :
    binOp .eql t (den σ s) v = (do pure (.bool (← Op.equal t (den σ s) v))) ∧ binOp .neq t (den σ s) v = (do pure (.bool (!(← Op.equal t (den σ s) v)))) := by
  cases d <;> simp [nonNil] at h1
  all_goals
    cases s <;> simp [nonNil] at h1
    all_goals
      cases v <;> simp [isNilV] at h2
      all_goals
        simp only [den]
        exact ⟨rfl, rfl⟩
theorem opEqNil_ok {C : Ctx} {E : SE} {H : SH} {o : Oper} {v : SV} {op : BinOp} {t u : TypeId} {x y : Operand} (hop : o.op = .binOp op t x y u) (h : opEqNil C.P E op t x y = some v) : OpOk C E H o v H := by
  unfold opEqNil at h
  refine OpOk.of_val fun σ a w M hr hs => ?_
  split at h
  · rename_i s n d hx hy hu
    split at h
    · rename_i hc
      simp only [Bool.and_eq_true] at hc
      have h1 := evS_eval hr hx
      have h2 := evS_eval hr hy
      rw [den] at h2
      have hg := eqNil_guard (P := C.P) (σ := σ) hc.1 hc.2
      have hq := eqNil_run (σ := σ) hu hc.1 hc.2 9999 w
      have hb := eqNil_bin (P := C.P) (σ := σ) (t := t) hc.1 hc.2
      split at h
      · cases h
        unfold execOp
        simp only [hop, h1, h2, Sem.run_bind, hg, Result.andThen_ok, hb.1, Op.equal, Op.maxDepth]
        rw [hq]
        simp [den]
      · cases h
        unfold execOp
        simp only [hop, h1, h2, Sem.run_bind, hg, Result.andThen_ok, hb.2, Op.equal, Op.maxDepth]
        rw [hq]
        simp [den]
      · cases h
    · cases h
  · cases h
/-! ### maps -/
theorem pureRun_bind {P : Program} {α β : Type} : ∀ (s : Sem α) (f : α → Sem β), pureRun P (s >>= f) = (pureRun P s).bind fun a => pureRun P (f a)
  | .pure a, f => rfl
  | .program k, f => pureRun_bind (k P) f
  | .mark _ k, f => pureRun_bind k f
  | .load .., _ => rfl
  | .store .., _ => rfl
  | .new .., _ => rfl
  | .shape .., _ => rfl
  | .freeze .., _ => rfl
  | .frozen .., _ => rfl
  | .getObj .., _ => rfl
  | .setObj .., _ => rfl
  | .choose .., _ => rfl
  | .sys .., _ => rfl
  | .halt .., _ => rfl
def valAt (es : List MapEntry) (i : Nat) : Value := ((es[i]?).map (·.val)).getD default
theorem findNow_keys (d : TypeDesc) (k : Value) : ∀ (es es' : List MapEntry) (i : Nat), es.map (·.key) = es'.map (·.key) →
    match Instr.findNow d k es i with
    | none => True
    | some none => Instr.findNow d k es' i = some none
    | some (some (j, _)) => i ≤ j ∧ Instr.findNow d k es' i = some (some (j, valAt es' (j - i)))
  | [], [], i, _ => by simp [Instr.findNow]
  | [], _ :: _, _, h => by simp at h
  | _ :: _, [], _, h => by simp at h
  | e :: es, e' :: es', i, h => by
    simp only [List.map_cons, List.cons.injEq] at h
    have ih := findNow_keys d k es es' (i + 1) h.2
    simp only [Instr.findNow, ← h.1]
    cases hn : Instr.sameNow d k e.key with
    | none => trivial
    | some b =>
      cases b with
      | true => simp [valAt]
      | false =>
        simp only []
        cases hf : Instr.findNow d k es (i + 1) with
        | none => trivial
        | some r =>
          rw [hf] at ih
          cases r with
          | none => exact ih
          | some p =>
            obtain ⟨j, u⟩ := p
            simp only at ih ⊢
            refine ⟨by omega, ?_⟩
            rw [ih.2]
            have : j - i = (j - (i + 1)) + 1 := by omega
            simp [valAt, this]
theorem findAsking_keys (P : Program) (K : TypeId) (k : Value) : ∀ (es es' : List MapEntry) (i : Nat), es.map (·.key) = es'.map (·.key) →
    match pureRun P (Instr.findAsking K k es i) with
    | none => True
    | some none => pureRun P (Instr.findAsking K k es' i) = some none
    | some (some (j, _)) => i ≤ j ∧ pureRun P (Instr.findAsking K k es' i) = some (some (j, valAt es' (j - i)))
  | [], [], i, _ => by simp [Instr.findAsking, pureRun, pure]
  | [], _ :: _, _, h => by simp at h
  | _ :: _, [], _, h => by simp at h
  | e :: es, e' :: es', i, h => by
    simp only [List.map_cons, List.cons.injEq] at h
    have ih := findAsking_keys P K k es es' (i + 1) h.2
    simp only [Instr.findAsking, ← h.1, pureRun_bind]
    cases hn : pureRun P (Op.equal K k e.key) with
    | none => trivial
    | some b =>
      simp only [Option.bind_some]
      cases b with
      | true => simp [valAt, pureRun, pure]
      | false =>
        simp only [Bool.false_eq_true, if_false]
        cases hf : pureRun P (Instr.findAsking K k es (i + 1)) with
        | none => trivial
        | some r =>
          rw [hf] at ih
          cases r with
          | none => exact ih
          | some p =>
            obtain ⟨j, u⟩ := p
            simp only at ih ⊢
            refine ⟨by omega, ?_⟩
            rw [ih.2]
            have : j - i = (j - (i + 1)) + 1 := by omega
            simp [valAt, this]
theorem findKey_keys {P : Program} {K : TypeId} {k : Value} {es es' : List MapEntry} (h : es.map (·.key) = es'.map (·.key)) {r : Option (Nat × Value)} (hr : pureRun P (Instr.findKey K k es) = some r) :
    pureRun P (Instr.findKey K k es') = some (r.map fun p => (p.1, valAt es' p.1)) := by
  unfold Instr.findKey at hr ⊢
  rw [pureRun_bind] at hr ⊢
  cases hu : pureRun P (underlying K) with
  | none => rw [hu] at hr; cases hr
  | some d =>
    rw [hu] at hr
    simp only [Option.bind_some] at hr ⊢
    have h1 := findNow_keys d k es es' 0 h
    have h2 := findNow_keys d k es' es 0 h.symm
    have h3 := findAsking_keys P K k es es' 0 h
    cases hf : Instr.findNow d k es 0 with
    | none =>
      rw [hf] at hr h1
      have hf' : Instr.findNow d k es' 0 = none := by
        cases hf2 : Instr.findNow d k es' 0 with
        | none => rfl
        | some q =>
          rw [hf2] at h2
          cases q with
          | none => simp only at h2; rw [hf] at h2; cases h2
          | some p => obtain ⟨j, u⟩ := p; simp only at h2; rw [hf] at h2; cases h2.2
      rw [hf']
      simp only at hr ⊢
      rw [hr] at h3
      cases r with
      | none => exact h3
      | some p => obtain ⟨j, u⟩ := p; simpa using h3.2
    | some q =>
      rw [hf] at hr h1
      simp only [pureRun, pure, Option.some.injEq] at hr
      subst hr
      cases q with
      | none => simp only at h1; rw [h1]; rfl
      | some p =>
        obtain ⟨j, u⟩ := p
        simp only [Nat.sub_zero] at h1
        rw [h1.2]
        rfl
/-- The keys, where all are plain. -/
def keysS : List (SV × SV × Nat) → Option (List MapEntry)
  | [] => some []
  | (.k a, _, c) :: l => (keysS l).map fun r => ⟨a, undef, c⟩ :: r
  | _ :: _ => none
theorem keysS_den {σ : Nm} : ∀ {es : List (SV × SV × Nat)} {r : List MapEntry}, keysS es = some r → r.map (·.key) = (denM σ es).map (·.key)
  | [], r, h => by simp only [keysS, Option.some.injEq] at h; subst h; rfl
  | (.k a, v, c) :: l, r, h => by
    simp only [keysS, Option.map_eq_some_iff] at h
    obtain ⟨r', h', rfl⟩ := h
    have := keysS_den (σ := σ) h'
    simp only [denM, List.map_cons, den, List.cons.injEq, true_and] at this ⊢
    exact this
  | (.ptr .., _) :: _, _, h => by cases h
  | (.slice .., _) :: _, _, h => by cases h
  | (.slc .., _) :: _, _, h => by cases h
  | (.map .., _) :: _, _, h => by cases h
  | (.func .., _) :: _, _, h => by cases h
  | (.iface .., _) :: _, _, h => by cases h
  | (.agg .., _) :: _, _, h => by cases h
  | (.tup .., _) :: _, _, h => by cases h
theorem keysS_length : ∀ {es : List (SV × SV × Nat)} {r : List MapEntry}, keysS es = some r → r.length = es.length
  | [], r, h => by simp only [keysS, Option.some.injEq] at h; subst h; rfl
  | (.k a, v, c) :: l, r, h => by
    simp only [keysS, Option.map_eq_some_iff] at h
    obtain ⟨r', h', rfl⟩ := h
    simp [keysS_length h']
  | (.ptr .., _) :: _, _, h => by cases h
  | (.slice .., _) :: _, _, h => by cases h
  | (.slc .., _) :: _, _, h => by cases h
  | (.map .., _) :: _, _, h => by cases h
  | (.func .., _) :: _, _, h => by cases h
  | (.iface .., _) :: _, _, h => by cases h
  | (.agg .., _) :: _, _, h => by cases h
  | (.tup .., _) :: _, _, h => by cases h
def commaS (ok : Bool) (v : SV) (there : Bool) : SV := if ok then .tup [v, .k (.bool there)] else v
def opLookup (P : Program) (E : SE) (H : SH) (t : TypeId) (x y : Operand) (ok : Bool) : Option SV :=
  match evS E x, plainV E y, P.underlying t with
  | some (.map n), some key, some (.map K V) => match getL H n with
    | some (.map es _) => match keysS es with
      | some ks => match pureRun P (Instr.checkKey es.isEmpty 10000 K key), pureRun P (Instr.findKey K key ks) with
        | some _, some (some (i, _)) => (es[i]?).map fun p => commaS ok p.2.1 true
        | some _, some none => (zeroOf P V).map fun z => commaS ok (.k z) false
        | _, _ => none
      | none => none
    | _ => none
  | _, _, _ => none
theorem opLookup_ok {C : Ctx} {E : SE} {H : SH} {o : Oper} {v : SV} {t : TypeId} {x y : Operand} {ok : Bool} (hop : o.op = .lookup t x y ok) (h : opLookup C.P E H t x y ok = some v) : OpOk C E H o v H := by
  unfold opLookup at h
  simp only [getL_eq] at h
  refine OpOk.of_val fun σ a w M hr hs => ?_
  split at h
  case h_2 => cases h
  case h_1 n key K V hx hy hu =>
    have h1 := evS_eval hr hx
    have h2 := plainV_eval hr hy
    rw [den] at h1
    split at h
    case h_2 => cases h
    case h_1 es c ho =>
      have hw := hs.smap ho
      split at h
      case h_2 => cases h
      case h_1 ks hks =>
        have hkeys := keysS_den (σ := σ) hks
        have hempty : (denM σ es).toArray.isEmpty = es.isEmpty := by cases es <;> rfl
        split at h
        · rename_i i u hck hf
          obtain ⟨p, hp, rfl⟩ := Option.map_eq_some_iff.1 h
          have hck' := pureRun_run (w := w) hck
          have hf' := pureRun_run (w := w) (findKey_keys hkeys hf)
          have hv : valAt (denM σ es) i = den σ p.2.1 := by unfold valAt denM; simp [hp]
          unfold execOp
          simp only [hop, h1, h2, Instr.lookup, Sem.run_bind, run_underlying hu, Result.andThen_ok, getObj, Sem.run, hw, hempty, hck', hf', Option.map_some, Sem.run_pure, hv]
          unfold commaS
          cases ok <;> simp [den, denL]
        · rename_i hck hf
          obtain ⟨z, hz, rfl⟩ := Option.map_eq_some_iff.1 h
          have hck' := pureRun_run (w := w) hck
          have hf' := pureRun_run (w := w) (findKey_keys hkeys hf)
          unfold execOp
          simp only [hop, h1, h2, Instr.lookup, Sem.run_bind, run_underlying hu, Result.andThen_ok, getObj, Sem.run, hw, hempty, hck', hf', Option.map_none, Sem.run_pure, run_zeroValue hz]
          unfold commaS
          cases ok <;> simp [den, denL]
        · cases h
end Go.Proofs.YtonmkjcilepdcaaGreatDoor
end
