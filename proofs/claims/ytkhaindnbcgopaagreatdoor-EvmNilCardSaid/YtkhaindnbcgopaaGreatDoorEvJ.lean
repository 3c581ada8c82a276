import Derived.Test.YtkhaindnbcgopaaGreatDoorEvH
/- The evaluator: calls, operations in their order. -/
noncomputable section
namespace Go.Proofs.YtkhaindnbcgopaaGreatDoor
open Go.RowKit
set_option maxRecDepth 20000
set_option maxHeartbeats 4000000

def putS (d : Nat) (v : SV) (E : SE) : SE := List.rec (motive := fun _ => SE) [(d, v)] (fun p t ih => Bool.rec (motive := fun _ => SE) (p :: ih) ((d, v) :: t) (Nat.beq p.1 d)) E
theorem putS_cons (d : Nat) (v : SV) (e : Nat) (u : SV) (E : SE) : putS d v ((e, u) :: E) = bif Nat.beq e d then (d, v) :: E else (e, u) :: putS d v E := by
  show Bool.rec (motive := fun _ => SE) ((e, u) :: putS d v E) ((d, v) :: E) (Nat.beq e d) = _
  cases Nat.beq e d <;> rfl
theorem putS_get (d : Nat) (v : SV) : ∀ (E : SE) (e : Nat), (putS d v E).get e = if d = e then some v else E.get e
  | [], e => by
    show SE.get [(d, v)] e = _
    rw [SE.get_cons]
    by_cases h : d = e
    · subst h; simp
    · rw [if_neg h]
      have : Nat.beq d e = false := by cases hh : Nat.beq d e with | false => rfl | true => exact absurd (Nat.eq_of_beq_eq_true hh) h
      rw [this]; rfl
  | (e', u) :: E, e => by
    rw [putS_cons]
    cases hb : Nat.beq e' d with
    | true =>
      have h1 := Nat.eq_of_beq_eq_true hb
      subst h1
      simp only [cond_true, SE.get_cons]
      by_cases h : e' = e
      · subst h; simp
      · have : Nat.beq e' e = false := by cases hh : Nat.beq e' e with | false => rfl | true => exact absurd (Nat.eq_of_beq_eq_true hh) h
        rw [if_neg h, this]; rfl
    | false =>
      simp only [cond_false, SE.get_cons]
      have hne : e' ≠ d := by rintro rfl; simp at hb
      cases hc : Nat.beq e' e with
      | true =>
        have h1 := Nat.eq_of_beq_eq_true hc
        subst h1
        rw [if_neg (fun h => hne h.symm)]; rfl
      | false =>
        simp only [cond_false]
        exact putS_get d v E e
def putO (dst : Option Nat) (v : SV) (E : SE) : SE :=
  match dst with
  | some d => putS d v E
  | none => E
theorem Rel.putO {n : Nat} {σ : Nm} {E : SE} {a : Act} (h : Rel n (denE σ E) a) {dst : Option Nat} (hd : fitsN n dst = true) (v : SV) : Rel n (denE σ (putO dst v E)) (a.put dst (den σ v)) := by
  cases dst with
  | none => exact h
  | some d =>
    refine (h.put (by simpa [fitsN] using hd) (den σ v)).mono fun e u he => ?_
    rw [denE_get] at he
    show (bif Nat.beq d e then some (den σ v) else (denE σ E).get e) = some u
    simp only [Go.Proofs.YtkhaindnbcgopaaGreatDoor.putO, putS_get] at he
    by_cases hde : d = e
    · subst hde
      simpa using he
    · rw [if_neg hde] at he
      have : Nat.beq d e = false := by cases hh : Nat.beq d e with | false => rfl | true => exact absurd (Nat.eq_of_beq_eq_true hh) hde
      rw [this, denE_get]; exact he
def argsS : Nat → List SV → SE
  | _, [] => []
  | i, v :: vs => (i, v) :: argsS (i + 1) vs
theorem argsS_den (σ : Nm) : ∀ (i : Nat) (vs : List SV), denE σ (argsS i vs) = argsEnv i (denL σ vs)
  | _, [] => rfl
  | i, v :: vs => by
    rw [denL]
    show (i, den σ v) :: denE σ (argsS (i + 1) vs) = _
    rw [argsS_den σ (i + 1) vs]; rfl
abbrev Rec := Nat → Code → SE → SH → Option (Exit × SE × SH)
def CodeOk (P : Program) (n : Nat) (c : Code) (E : SE) (H : SH) (ex : Exit) (E2 : SE) (H2 : SH) : Prop :=
  H.length ≤ H2.length ∧ ∀ (C : Ctx), C.P = P → ∀ (σ : Nm) (a : Act) (w : World) (M : Hp) (Q : Exit → Act → World → Prop), Rel n (denE σ E) a → St C (denH σ H ++ M) w →
    (∀ σ' a' w', agree H.length H2.length σ σ' → Rel n (denE σ' E2) a' → St C (denH σ' H2 ++ M) w' → Q ex a' w') → c.wp P Q a w
def RecOk (P : Program) (rec : Rec) : Prop := ∀ n c E H ex E2 H2, rec n c E H = some (ex, E2, H2) → CodeOk P n c E H ex E2 H2
/-- A call. -/
def callS (P : Program) (rec : Rec) (g : FuncId) (args : List SV) (H : SH) : Option (SV × SH) :=
  match P.funcs[g]? with
  | some fn => match fn.body with
    | some c => if Nat.ble args.length fn.ntmps then match rec fn.ntmps c (argsS 0 args) H with
        | some (.normal, E2, H2) => (resS P E2 H2 fn.results.toList).map fun vs => (retS vs, H2)
        | some (.ret, E2, H2) => (resS P E2 H2 fn.results.toList).map fun vs => (retS vs, H2)
        | _ => none
      else none
    | none => none
  | none => none
theorem callS_ok {P : Program} {rec : Rec} (hrec : RecOk P rec) {g : FuncId} {args : List SV} {H H2 : SH} {v : SV} (h : callS P rec g args H = some (v, H2)) :
    H.length ≤ H2.length ∧ ∀ (C : Ctx), C.P = P → ∀ (σ : Nm) (w : World) (M : Hp), St C (denH σ H ++ M) w →
      Calls P g (denL σ args).toArray w fun e w' => ∃ u, e = .returned u ∧ ∃ σ', agree H.length H2.length σ σ' ∧ u = den σ' v ∧ St C (denH σ' H2 ++ M) w' := by
  unfold callS at h
  split at h
  case h_2 => cases h
  case h_1 fn hf =>
    split at h
    case h_2 => cases h
    case h_1 c hb =>
      split at h
      case isFalse => cases h
      case isTrue hle =>
        rw [Nat.ble_eq] at hle
        have key : ∀ (ex : Exit) (E2 : SE) (vs : List SV), (ex = .normal ∨ ex = .ret) → rec fn.ntmps c (argsS 0 args) H = some (ex, E2, H2) → resS P E2 H2 fn.results.toList = some vs → v = retS vs →
            H.length ≤ H2.length ∧ ∀ (C : Ctx), C.P = P → ∀ (σ : Nm) (w : World) (M : Hp), St C (denH σ H ++ M) w →
              Calls P g (denL σ args).toArray w fun e w' => ∃ u, e = .returned u ∧ ∃ σ', agree H.length H2.length σ σ' ∧ u = den σ' v ∧ St C (denH σ' H2 ++ M) w' := by
          intro ex E2 vs hex hr hres hv
          obtain ⟨hlen, hcode⟩ := hrec _ _ _ _ _ _ _ hr
          refine ⟨hlen, fun C hC σ w M hs => calls_of_wp hf hb ?_⟩
          have hargs : (denL σ args).length ≤ fn.ntmps := by rw [denL_length]; exact hle
          have hrel : Rel fn.ntmps (denE σ (argsS 0 args)) { tmps := (denL σ args).toArray ++ Array.replicate (fn.ntmps - (denL σ args).toArray.size) undef, defers := [] } := by
            rw [argsS_den]
            refine ⟨by simp; omega, rfl, fun d u hd => ?_⟩
            have := (argsEnv_get 0 _ d u hd).2
            simp only [Nat.sub_zero] at this
            have hlt := (List.getElem?_eq_some_iff.1 this).1
            rw [Array.getElem?_append_left (by simpa using hlt)]
            simpa using this
          refine hcode C hC σ _ w M _ hrel hs fun σ' a' w' hag hr' hs' => ?_
          have hres' := resS_res (M := M) (σ := σ') hres
          have hrun := results_run (C := ⟨C.P, fn.ntmps, C.FB, C.w0⟩) (a := a') (w := w') hr' (hs'.reC _) (fn := fn) (rs := fn.results.toList) (by simp) (by rw [hC]; exact hres')
          have hfin : a'.defers = [] ∧ ∃ u, (results fn a'.tmps).run P w' = .ok u w' ∧ ∃ u', Ending.returned u = .returned u' ∧ ∃ σ', agree H.length H2.length σ σ' ∧ u' = den σ' v ∧ St C (denH σ' H2 ++ M) w' := by
            refine ⟨hr'.defers, _, by rw [← hC]; exact hrun, _, rfl, σ', hag, by rw [hv, retS_den], hs'⟩
          rcases hex with rfl | rfl
          · exact hfin
          · exact hfin
        split at h
        · rename_i E2 H2' hr
          obtain ⟨vs, hres, hv⟩ := Option.map_eq_some_iff.1 h
          cases hv
          exact key .normal E2 vs (.inl rfl) hr hres rfl
        · rename_i E2 H2' hr
          obtain ⟨vs, hres, hv⟩ := Option.map_eq_some_iff.1 h
          cases hv
          exact key .ret E2 vs (.inr rfl) hr hres rfl
        · cases h
/-- Whom an operation calls, and with what. -/
def methodS (P : Program) (t : TypeId) (name : String) : Option FuncId :=
  match P.info? t with
  | some i => match i.methods.find? (·.name == name) with
    | some m => if m.path.isEmpty then match m.func, P.underlying t with
        | some (f, true), some (.pointer _) => some f
        | some (_, false), some (.pointer _) => none
        | some (f, false), some _ => some f
        | _, _ => none
      else none
    | none => none
  | none => none
theorem method_run {P : Program} {t : TypeId} {name : String} {f : FuncId} (h : methodS P t name = some f) (fuel : Nat) (v : Value) (w : World) : (method (fuel + 1) t v name).run P w = .ok (f, v) w := by
  unfold methodS at h
  split at h
  case h_2 => cases h
  case h_1 i hi =>
    split at h
    case h_2 => cases h
    case h_1 m hm =>
      split at h
      case isFalse => cases h
      case isTrue hp =>
        have hp' : m.path.toList = [] := by
          have : m.path = #[] := by simpa using hp
          rw [this]
        split at h
        · rename_i f' e hmf hu
          cases h
          simp [method, typeInfo, hi, hm, hp', follow, hmf, receiverAt, run_underlying hu, Place.get]
        · cases h
        · rename_i f' d hne hmf hu
          cases h
          cases d
          case pointer e => exact (hne _ rfl).elim
          all_goals simp [method, typeInfo, hi, hm, hp', follow, hmf, receiverAt, run_underlying hu, Place.get]
        · cases h
def findCall (P : Program) (E : SE) (o : Oper) : Option (FuncId × List SV) :=
  match o.op with
  | .call ⟨.value f, args, _⟩ => match evS E f, evsS E args.toList with
    | some (.k (.func (.func g) first cap)), some vs => if first.isEmpty && cap.isEmpty then some (g, vs) else none
    | some (.func g cs), some vs => some (g, vs ++ cs)
    | _, _ => none
  | .call ⟨.invoke r name, args, _⟩ => match evS E r, evsS E args.toList with
    | some (.iface t v), some vs => (methodS P t name).map fun g => (g, v :: vs)
    | _, _ => none
  | _ => none
theorem findCall_run {C : Ctx} {σ : Nm} {E : SE} {n : Nat} {a : Act} {o : Oper} {g : FuncId} {vs : List SV} (hr : Rel n (denE σ E) a) (h : findCall C.P E o = some (g, vs)) (hb : hasBody C.P g = true) (w : World) :
    (execOp a.eval o).run C.P w = .ok (.enter g (denL σ vs).toArray) w := by
  unfold findCall at h
  split at h
  · rename_i f args ats hop
    split at h
    · rename_i g' first cap us hf hus
      split at h
      · rename_i hc
        simp only [Bool.and_eq_true, Array.isEmpty_iff] at hc
        obtain ⟨rfl, rfl⟩ := hc
        cases h
        have h1 := evS_eval hr hf
        rw [den] at h1
        have h2 : args.map a.eval = (denL σ vs).toArray := by apply Array.toList_inj.1; rw [Array.toList_map, evsS_eval hr hus]
        unfold execOp
        simp [hop, resolve, h1, h2, Deferred.ofValue, invoke, run_callFunc hb]
      · cases h
    · rename_i g' cs us hf hus
      cases h
      have h1 := evS_eval hr hf
      rw [den] at h1
      have h2 : args.map a.eval = (denL σ us).toArray := by apply Array.toList_inj.1; rw [Array.toList_map, evsS_eval hr hus]
      unfold execOp
      simp [hop, resolve, h1, h2, Deferred.ofValue, invoke, run_callFunc hb, denL_append]
    · cases h
  · rename_i r name args ats hop
    split at h
    · rename_i t v us hf hus
      obtain ⟨g', hg, h2⟩ := Option.map_eq_some_iff.1 h
      cases h2
      have h1 := evS_eval hr hf
      rw [den] at h1
      have h2 : args.map a.eval = (denL σ us).toArray := by apply Array.toList_inj.1; rw [Array.toList_map, evsS_eval hr hus]
      have hdep : 0 < Made.depth := by decide
      obtain ⟨k, hk⟩ : ∃ k, C.P.types.size + Made.depth = k + 1 := ⟨C.P.types.size + Made.depth - 1, by omega⟩
      have hm := method_run hg k (den σ v) w
      unfold execOp
      simp [hop, resolve, h1, h2, invoke, callMethod, Sem.run, program, hk, hm, run_callFunc hb, denL]
      exact List.take_of_length_le (by simp)
    · cases h
  · cases h
def stepS (P : Program) (rec : Rec) (E : SE) (H : SH) (o : Oper) : Option (SV × SH) :=
  match findCall P E o with
  | some (g, vs) => if hasBody P g then callS P rec g vs H else opStep P E H o
  | none => opStep P E H o
theorem stepS_ok {C : Ctx} {rec : Rec} (hrec : RecOk C.P rec) {E : SE} {H H2 : SH} {o : Oper} {v : SV} (h : stepS C.P rec E H o = some (v, H2)) : OpOk C E H o v H2 := by
  unfold stepS at h
  split at h
  · rename_i g vs hc
    split at h
    · rename_i hb
      intro σ a w M hr hs
      rw [findCall_run hr hc hb w]
      exact (callS_ok hrec h).2 C rfl σ w M hs
    · exact opStep_ok h
  · exact opStep_ok h
end Go.Proofs.YtkhaindnbcgopaaGreatDoor
end
