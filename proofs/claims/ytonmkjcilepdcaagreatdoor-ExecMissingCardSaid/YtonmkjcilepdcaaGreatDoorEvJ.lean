import Derived.Test.YtonmkjcilepdcaaGreatDoorEvO
/- The evaluator: calls, operations in their order. -/
noncomputable section
namespace Go.Proofs.YtonmkjcilepdcaaGreatDoor
open Go.RowKit
set_option maxRecDepth 20000
set_option maxHeartbeats 4000000

def putS (d : Nat) (v : SV) (E : SE) : SE := (d, v) :: E
theorem putS_get (d : Nat) (v : SV) (E : SE) (e : Nat) : (putS d v E).get e = if d = e then some v else E.get e := by
  unfold putS
  rw [SE.get_cons]
  by_cases h : d = e
  · subst h; simp
  · rw [if_neg h]
    have : Nat.beq d e = false := by cases hh : Nat.beq d e with | false => rfl | true => exact absurd (Nat.eq_of_beq_eq_true hh) h
    rw [this]; rfl
/-- The list's first cell, reckoned out. -/
def headE {β : Type} (E : SE) (f : SE → β) : β :=
  match E with
  | [] => f []
  | p :: t => f (p :: t)
theorem headE_eq {β : Type} (E : SE) (f : SE → β) : headE E f = f E := by cases E <;> rfl
/-- What was put over is let go. -/
def delE (d : Nat) (E : SE) : SE := List.rec (motive := fun _ => SE) [] (fun p _ ih => Bool.rec (motive := fun _ => SE) (p :: ih) ih (Nat.beq p.1 d)) E
theorem delE_get (d e : Nat) (h : d ≠ e) : ∀ (E : SE), (delE d E).get e = E.get e
  | [] => rfl
  | (k, v) :: E => by
    have ih := delE_get d e h E
    show SE.get (Bool.rec (motive := fun _ => SE) ((k, v) :: delE d E) (delE d E) (Nat.beq k d)) e = _
    cases hb : Nat.beq k d with
    | true =>
      have h1 := Nat.eq_of_beq_eq_true hb
      subst h1
      have : Nat.beq k e = false := by cases hh : Nat.beq k e with | false => rfl | true => exact absurd (Nat.eq_of_beq_eq_true hh) h
      rw [SE.get_cons, this]
      exact ih
    | false => rw [SE.get_cons, SE.get_cons, ih]
def compA (E : SE) : SE := List.rec (motive := fun _ => SE) [] (fun p _ ih => p :: delE p.1 ih) E
theorem compA_get (e : Nat) : ∀ (E : SE), (compA E).get e = E.get e
  | [] => rfl
  | (k, v) :: E => by
    have ih := compA_get e E
    show SE.get ((k, v) :: delE k (compA E)) e = _
    rw [SE.get_cons, SE.get_cons]
    cases hb : Nat.beq k e with
    | true => rfl
    | false =>
      have hne : k ≠ e := by rintro rfl; simp at hb
      rw [cond_false, cond_false, delE_get k e hne, ih]
/-- .. where much was put. -/
def compE (E : SE) : SE := bif Nat.ble (lenL E) 120 then E else compA E
theorem compE_get (e : Nat) (E : SE) : (compE E).get e = E.get e := by
  unfold compE
  cases Nat.ble (lenL E) 120
  · exact compA_get e E
  · rfl
theorem Rel.comp {n : Nat} {σ : Nm} {E : SE} {a : Act} (h : Rel n (denE σ E) a) : Rel n (denE σ (compE E)) a := h.mono fun e u he => by
  rw [denE_get] at he ⊢
  rw [compE_get] at he
  exact he
def putO (dst : Option Nat) (v : SV) (E : SE) : SE :=
  match dst with
  | some d => putS d v E
  | none => E
theorem Rel.putO {n : Nat} {σ : Nm} {E : SE} {a : Act} (h : Rel n (denE σ E) a) {dst : Option Nat} (hd : fitsN n dst = true) (v : SV) : Rel n (denE σ (putO dst v E)) (a.put dst (den σ v)) := by
  cases dst with
  | none => exact h
  | some d =>
    refine (h.put (by simpa [fitsN] using hd) (den σ v)).mono fun e u he => ?_
    rw [denE_get] at he
    show (bif Nat.beq d e then some (den σ v) else (denE σ E).get e) = some u
    simp only [Go.Proofs.YtonmkjcilepdcaaGreatDoor.putO, putS_get] at he
    by_cases hde : d = e
    · subst hde
      simpa using he
    · rw [if_neg hde] at he
      have : Nat.beq d e = false := by cases hh : Nat.beq d e with | false => rfl | true => exact absurd (Nat.eq_of_beq_eq_true hh) hde
      rw [this, denE_get]; exact he
def argsS : Nat → List SV → SE
  | _, [] => []
  | i, v :: vs => (i, v) :: argsS (i + 1) vs
theorem argsS_den (σ : Nm) : ∀ (i : Nat) (vs : List SV), denE σ (argsS i vs) = argsEnv i (denL σ vs)
  | _, [] => rfl
  | i, v :: vs => by
    rw [denL]
    show (i, den σ v) :: denE σ (argsS (i + 1) vs) = _
    rw [argsS_den σ (i + 1) vs]; rfl

/-- The evaluator: codes; the functions that are known to hang on plain values alone; results that are known; contracts; the memory that is given. -/
structure Rec where
  run : Nat → Code → SE → SH → Th → Ans (Exit × SE × SH × Th)
  pur : List FuncId
  tab : List (FuncId × List Value × Value)
  spec : List (FuncId × SpecF)
  base : World
  glob : Gb
def CodeOk (P : Program) (B : World) (n : Nat) (c : Code) (E : SE) (H : SH) (ex : Exit) (E2 : SE) (H2 : SH) : Prop :=
  H.length ≤ H2.length ∧ ∀ (C : Ctx), Fit P B C → ∀ (σ : Nm) (a : Act) (w : World) (M : Hp) (Q : Exit → Act → World → Prop), Rel n (denE σ E) a → St C (denH σ H ++ M) w →
    (∀ σ' a' w', agree H.length H2.length σ σ' → Rel n (denE σ' E2) a' → St C (denH σ' H2 ++ M) w' → Q ex a' w') → c.wp P Q a w
/-- From H the call comes to v, and makes H2. -/
def CallOk (P : Program) (B : World) (g : FuncId) (args : List SV) (H : SH) (v : SV) (H2 : SH) : Prop :=
  H.length ≤ H2.length ∧ ∀ (C : Ctx), Fit P B C → ∀ (σ : Nm) (w : World) (M : Hp), St C (denH σ H ++ M) w →
    Calls P g (denL σ args).toArray w fun e w' => ∃ u, e = .returned u ∧ ∃ σ', agree H.length H2.length σ σ' ∧ u = den σ' v ∧ St C (denH σ' H2 ++ M) w'
def TabOk (P : Program) (B : World) (tab : List (FuncId × List Value × Value)) : Prop := ∀ e ∈ tab, ∀ w, Over B w → Fn P e.1 e.2.1.toArray w fun u N => u = e.2.2 ∧ N = []
theorem TabOk.nil (P : Program) (B : World) : TabOk P B [] := fun _ h => by cases h
theorem TabOk.cons {P : Program} {B : World} {tab : List (FuncId × List Value × Value)} {g : FuncId} {vs : List Value} {v : Value} (h : ∀ w, Over B w → Fn P g vs.toArray w fun u N => u = v ∧ N = []) (ht : TabOk P B tab) : TabOk P B ((g, vs, v) :: tab) := fun e he => by
  rcases List.mem_cons.1 he with rfl | he
  · exact h
  · exact ht e he
/-- A contract holds. -/
def SpOk (P : Program) (B : World) (g : FuncId) (f : SpecF) : Prop := ∀ args H v H2 ps, f args H = .ok (v, H2, ps) → AllP ps → CallOk P B g args H v H2
def SpecOk (P : Program) (B : World) (spec : List (FuncId × SpecF)) : Prop := ∀ e ∈ spec, SpOk P B e.1 e.2
theorem SpecOk.nil (P : Program) (B : World) : SpecOk P B [] := fun _ h => by cases h
theorem SpecOk.cons {P : Program} {B : World} {spec : List (FuncId × SpecF)} {g : FuncId} {f : SpecF} (h : SpOk P B g f) (ht : SpecOk P B spec) : SpecOk P B ((g, f) :: spec) := fun e he => by
  rcases List.mem_cons.1 he with rfl | he
  · exact h
  · exact ht e he
def RecOk (P : Program) (rec : Rec) : Prop :=
  (∀ n c E H T ex E2 H2 T2, rec.run n c E H T = .ok (ex, E2, H2, T2) → AllP T2.obl → AllP T.obl ∧ CodeOk P rec.base n c E H ex E2 H2) ∧ TabOk P rec.base rec.tab ∧ SpecOk P rec.base rec.spec ∧ GbOk rec.base rec.glob
/-- What a call made and nobody knows any more is let go. -/
def trimH (n : Nat) (v : SV) (H2 : SH) : SH := bif Nat.ble (mxV v) n && allR (fun o => Nat.ble (mxO o) n) (takeL n H2) then takeL n H2 else H2
theorem CallOk.trim {P : Program} {B : World} {g : FuncId} {args : List SV} {H H2 : SH} {v : SV} (h : CallOk P B g args H v H2) : CallOk P B g args H v (trimH H.length v H2) := by
  unfold trimH
  cases hb : Nat.ble (mxV v) H.length && allR (fun o => Nat.ble (mxO o) H.length) (takeL H.length H2) with
  | false => exact h
  | true =>
    simp only [cond_true]
    rw [takeL_eq] at hb ⊢
    simp only [Bool.and_eq_true, Nat.ble_eq, allR_iff] at hb
    have hl : (H2.take H.length).length = H.length := by rw [List.length_take]; have := h.1; omega
    refine ⟨by rw [hl]; exact Nat.le_refl _, fun C hC σ w M hs => Calls.mono (h.2 C hC σ w M hs) ?_⟩
    rintro e w' ⟨u, rfl, σ', hag, rfl, hs'⟩
    have hlt : ∀ m, m < H.length → σ' m = σ m := hag.lt
    refine ⟨_, rfl, σ, by rw [hl]; exact agree.refl _ _, den_bnd hlt v (mxV_bnd v hb.1), ?_⟩
    have e : denH σ (H2.take H.length) = denH σ' (H2.take H.length) := (denH_bnd hlt (by
      simp only [bndH, lenL_eq, Bool.and_eq_true, Nat.ble_eq, allR_iff]
      exact ⟨by rw [hl]; exact Nat.le_refl _, hb.2⟩)).symm
    rw [e]
    have e2 : denH σ' H2 = denH σ' (H2.take H.length) ++ (denH σ' H2).drop H.length := by
      have : denH σ' (H2.take H.length) = (denH σ' H2).take H.length := by
        refine List.ext_getElem? fun m => ?_
        rw [denH_get, List.getElem?_take, List.getElem?_take, denH_get]
        split <;> rfl
      rw [this, List.take_append_drop]
    rw [e2, List.append_assoc] at hs'
    refine hs'.emb (Emb.of_sublist ?_)
    exact List.Sublist.append_left (List.sublist_append_right _ _) _
/-- A call, run. -/
def callB (P : Program) (rec : Rec) (g : FuncId) (args : List SV) (H : SH) (T : Th) : Ans (SV × SH × Th) :=
  match P.funcs[g]? with
  | some fn => match fn.body with
    | some c => if Nat.ble args.length fn.ntmps then (rec.run fn.ntmps c (argsS 0 args) H T).bind fun r => match r.1 with
        | .normal => match resS P r.2.1 r.2.2.1 fn.results.toList with
          | some vs => spine (trimH (lenL H) (retS vs) r.2.2.1) fun H' => .ok (retS vs, H', r.2.2.2)
          | none => .no 2
        | .ret => match resS P r.2.1 r.2.2.1 fn.results.toList with
          | some vs => spine (trimH (lenL H) (retS vs) r.2.2.1) fun H' => .ok (retS vs, H', r.2.2.2)
          | none => .no 2
        | _ => .no 3
      else .no 4
    | none => .no 5
  | none => .no 6
theorem callB_ok {P : Program} {rec : Rec} (hrec : RecOk P rec) {g : FuncId} {args : List SV} {H H2 : SH} {T T2 : Th} {v : SV} (h : callB P rec g args H T = .ok (v, H2, T2)) (hT : AllP T2.obl) :
    AllP T.obl ∧ CallOk P rec.base g args H v H2 := by
  unfold callB at h
  split at h
  case h_2 => cases h
  case h_1 fn hf =>
    split at h
    case h_2 => cases h
    case h_1 c hb =>
      split at h
      case isFalse => cases h
      case isTrue hle =>
        rw [Nat.ble_eq] at hle
        obtain ⟨⟨ex, E2, H2', T2'⟩, hr, h⟩ := Ans.bind_ok.1 h
        have key : ∀ (ex : Exit) (E2 : SE) (vs : List SV), (ex = .normal ∨ ex = .ret) → rec.run fn.ntmps c (argsS 0 args) H T = .ok (ex, E2, H2', T2) → resS P E2 H2' fn.results.toList = some vs → v = retS vs →
            AllP T.obl ∧ CallOk P rec.base g args H v H2' := by
          intro ex E2 vs hex hr hres hv
          obtain ⟨hT0, hlen, hcode⟩ := hrec.1 _ _ _ _ _ _ _ _ _ hr hT
          refine ⟨hT0, hlen, fun C hC σ w M hs => calls_of_wp hf hb ?_⟩
          have hargs : (denL σ args).length ≤ fn.ntmps := by rw [denL_length]; exact hle
          have hrel : Rel fn.ntmps (denE σ (argsS 0 args)) { tmps := (denL σ args).toArray ++ Array.replicate (fn.ntmps - (denL σ args).toArray.size) undef, defers := [] } := by
            rw [argsS_den]
            refine ⟨by simp; omega, rfl, fun d u hd => ?_⟩
            have := (argsEnv_get 0 _ d u hd).2
            simp only [Nat.sub_zero] at this
            have hlt := (List.getElem?_eq_some_iff.1 this).1
            rw [Array.getElem?_append_left (by simpa using hlt)]
            simpa using this
          refine hcode C hC σ _ w M _ hrel hs fun σ' a' w' hag hr' hs' => ?_
          have hres' := resS_res (M := M) (σ := σ') hres
          have hrun := results_run (C := ⟨C.P, fn.ntmps, C.FB, C.w0⟩) (a := a') (w := w') hr' (hs'.reC _) (fn := fn) (rs := fn.results.toList) (by simp) (by rw [hC.prog]; exact hres')
          have hfin : a'.defers = [] ∧ ∃ u, (results fn a'.tmps).run P w' = .ok u w' ∧ ∃ u', Ending.returned u = .returned u' ∧ ∃ σ', agree H.length H2'.length σ σ' ∧ u' = den σ' v ∧ St C (denH σ' H2' ++ M) w' := by
            refine ⟨hr'.defers, _, by rw [← hC.prog]; exact hrun, _, rfl, σ', hag, by rw [hv, retS_den], hs'⟩
          rcases hex with rfl | rfl
          · exact hfin
          · exact hfin
        split at h
        · rename_i hx
          simp only at hx
          subst hx
          split at h
          · rename_i vs hres
            simp only [spine_eq, lenL_eq] at h
            cases h
            obtain ⟨h1, h2⟩ := key .normal E2 vs (.inl rfl) hr hres rfl
            exact ⟨h1, h2.trim⟩
          · cases h
        · rename_i hx
          simp only at hx
          subst hx
          split at h
          · rename_i vs hres
            simp only [spine_eq, lenL_eq] at h
            cases h
            obtain ⟨h1, h2⟩ := key .ret E2 vs (.inr rfl) hr hres rfl
            exact ⟨h1, h2.trim⟩
          · cases h
        · cases h
def inL (n : Nat) (l : List Nat) : Bool := List.rec (motive := fun _ => Bool) false (fun a _ ih => Bool.rec (motive := fun _ => Bool) ih true (Nat.beq a n)) l
def tabL (g : FuncId) (vs : List Value) (l : List (FuncId × List Value × Value)) : Option Value :=
  List.rec (motive := fun _ => Option Value) none (fun e _ ih => Bool.rec (motive := fun _ => Option Value) ih (some e.2.2) (Nat.beq e.1 g && listEq (eqV 100) e.2.1 vs)) l
theorem tabL_mem {g : FuncId} {vs : List Value} {v : Value} : ∀ {l : List (FuncId × List Value × Value)}, tabL g vs l = some v → (g, vs, v) ∈ l
  | [], h => by cases h
  | (g', vs', v') :: l, h => by
    change Bool.rec (motive := fun _ => Option Value) (tabL g vs l) (some v') (Nat.beq g' g && listEq (eqV 100) vs' vs) = some v at h
    cases hb : Nat.beq g' g && listEq (eqV 100) vs' vs with
    | true =>
      rw [hb] at h
      simp only [Bool.and_eq_true] at hb
      have h1 := Nat.eq_of_beq_eq_true hb.1
      have h2 := listEq_eq (eqV_eq 100) hb.2
      cases h
      subst h1 h2
      exact List.mem_cons_self
    | false =>
      rw [hb] at h
      exact List.mem_cons_of_mem _ (tabL_mem h)
def specL (g : FuncId) (l : List (FuncId × SpecF)) : Option SpecF :=
  List.rec (motive := fun _ => Option SpecF) none (fun e _ ih => Bool.rec (motive := fun _ => Option SpecF) ih (some e.2) (Nat.beq e.1 g)) l
theorem specL_mem {g : FuncId} {f : SpecF} : ∀ {l : List (FuncId × SpecF)}, specL g l = some f → (g, f) ∈ l
  | [], h => by cases h
  | (g', f') :: l, h => by
    change Bool.rec (motive := fun _ => Option SpecF) (specL g l) (some f') (Nat.beq g' g) = some f at h
    cases hb : Nat.beq g' g with
    | true =>
      rw [hb] at h
      have h1 := Nat.eq_of_beq_eq_true hb
      cases h
      subst h1
      exact List.mem_cons_self
    | false =>
      rw [hb] at h
      exact List.mem_cons_of_mem _ (specL_mem h)
theorem den_map_k (σ : Nm) (l : List Value) : denL σ (l.map .k) = l := by
  rw [denL_map, List.map_map]
  have : (den σ ∘ SV.k) = id := by funext v; simp [den]
  rw [this, List.map_id]
/-- A call that hangs on plain values alone. -/
def callP (P : Program) (rec : Rec) (g : FuncId) (vs : List Value) : Ans Value :=
  match tabL g vs rec.tab with
  | some v => .ok v
  | none => (callB P rec g (vs.map .k) [] ⟨[], []⟩).bind fun r => match r.1, r.2.2.obl with
    | .k v, [] => .ok v
    | _, _ => .no 7
/-- No memory is given. -/
def World.none : World := { (default : World) with heap := #[] }
theorem callP_ok {P : Program} {rec : Rec} (hrec : RecOk P rec) {g : FuncId} {vs : List Value} {v : Value} (h : callP P rec g vs = .ok v) (w : World) (hO : Over rec.base w) : Fn P g vs.toArray w fun u N => u = v ∧ N = [] := by
  unfold callP at h
  split at h
  · rename_i v' ht
    cases h
    exact hrec.2.1 _ (tabL_mem ht) w hO
  · obtain ⟨⟨v', H2, T2⟩, hc, h⟩ := Ans.bind_ok.1 h
    split at h
    · rename_i u hv hob
      simp only at hv hob
      subst hv
      cases h
      obtain ⟨_, _, hcall⟩ := callB_ok hrec hc (by rw [hob]; trivial)
      have hs : St (ctx P 0 w) (denH (fun _ => (0, 0)) [] ++ []) w := St.startW P 0 w (FB := (· < w.heap.size)) (A := []) (ow := fun _ _ => False) (fun _ h => h) ⟨fun _ _ h => h.elim, fun _ _ h => h.elim, fun _ _ _ h => h.elim, fun i A h => by simp at h⟩
      have hk := hcall (ctx P 0 w) hO.fit _ w [] hs
      rw [den_map_k] at hk
      refine Calls.mono hk ?_
      rintro e w' ⟨u, rfl, σ', _, rfl, hs'⟩
      obtain ⟨ow, ho⟩ := (hs'.emb (Emb.nil _)).own
      exact ⟨_, [], ow, rfl, hs'.keptW, ho, by simp only [den], rfl⟩
    · cases h
/-- A call. -/
def callS (P : Program) (rec : Rec) (g : FuncId) (args : List SV) (H : SH) (T : Th) : Ans (SV × SH × Th) :=
  match specL g rec.spec with
  | some f => (f args H).bind fun r => .ok (r.1, r.2.1, ⟨T.orc, r.2.2 ++ T.obl⟩)
  | none => match inL g rec.pur with
    | true => match plainL args with
      | some vs => (callP P rec g vs).bind fun v => .ok (.k v, H, T)
      | none => .no 8
    | false => callB P rec g args H T
theorem callS_ok {P : Program} {rec : Rec} (hrec : RecOk P rec) {g : FuncId} {args : List SV} {H H2 : SH} {T T2 : Th} {v : SV} (h : callS P rec g args H T = .ok (v, H2, T2)) (hT : AllP T2.obl) :
    AllP T.obl ∧ CallOk P rec.base g args H v H2 := by
  unfold callS at h
  split at h
  · rename_i f hf
    obtain ⟨⟨v', H2', ps⟩, hc, h⟩ := Ans.bind_ok.1 h
    cases h
    rw [AllP_append] at hT
    exact ⟨hT.2, hrec.2.2.1 _ (specL_mem hf) _ _ _ _ _ hc hT.1⟩
  · split at h
    · split at h
      · rename_i vs hvs
        obtain ⟨u, hp, h⟩ := Ans.bind_ok.1 h
        cases h
        refine ⟨hT, Nat.le_refl _, fun C hC σ w M hs => ?_⟩
        rw [plainL_den σ hvs]
        refine Calls.mono (callP_ok hrec hp w (hC.over hs)) ?_
        rintro e w' ⟨u', N, ow, rfl, hk, ho, rfl, rfl⟩
        refine ⟨_, rfl, σ, agree.refl _ _, by simp only [den], ?_⟩
        have := hs.call hk ho
        rwa [List.append_nil] at this
      · cases h
    · exact callB_ok hrec h hT
/-- Whom an operation calls, and with what. -/
def methodS (P : Program) (t : TypeId) (name : String) : Option FuncId :=
  match P.info? t with
  | some i => match i.methods.find? (·.name == name) with
    | some m => if m.path.isEmpty then match m.func, P.underlying t with
        | some (f, true), some (.pointer _) => some f
        | some (_, false), some (.pointer _) => none
        | some (f, false), some _ => some f
        | _, _ => none
      else none
    | none => none
  | none => none
theorem method_run {P : Program} {t : TypeId} {name : String} {f : FuncId} (h : methodS P t name = some f) (fuel : Nat) (v : Value) (w : World) : (method (fuel + 1) t v name).run P w = .ok (f, v) w := by
  unfold methodS at h
  split at h
  case h_2 => cases h
  case h_1 i hi =>
    split at h
    case h_2 => cases h
    case h_1 m hm =>
      split at h
      case isFalse => cases h
      case isTrue hp =>
        have hp' : m.path.toList = [] := by
          have : m.path = #[] := by simpa using hp
          rw [this]
        split at h
        · rename_i f' e hmf hu
          cases h
          simp [method, typeInfo, hi, hm, hp', follow, hmf, receiverAt, run_underlying hu, Place.get]
        · cases h
        · rename_i f' d hne hmf hu
          cases h
          cases d
          case pointer e => exact (hne _ rfl).elim
          all_goals simp [method, typeInfo, hi, hm, hp', follow, hmf, receiverAt, run_underlying hu, Place.get]
        · cases h
def findCall (P : Program) (E : SE) (o : Oper) : Option (FuncId × List SV) :=
  match o.op with
  | .call ⟨.value f, args, _⟩ => match evS E f, evsS E args.toList with
    | some (.k (.func (.func g) first cap)), some vs => if first.isEmpty && cap.isEmpty then some (g, vs) else none
    | some (.func g cs), some vs => some (g, vs ++ cs)
    | _, _ => none
  | .call ⟨.invoke r name, args, _⟩ => match evS E r, evsS E args.toList with
    | some (.iface t v), some vs => (methodS P t name).map fun g => (g, v :: vs)
    | _, _ => none
  | _ => none
theorem findCall_run {C : Ctx} {σ : Nm} {E : SE} {n : Nat} {a : Act} {o : Oper} {g : FuncId} {vs : List SV} (hr : Rel n (denE σ E) a) (h : findCall C.P E o = some (g, vs)) (hb : hasBody C.P g = true) (w : World) :
    (execOp a.eval o).run C.P w = .ok (.enter g (denL σ vs).toArray) w := by
  unfold findCall at h
  split at h
  · rename_i f args ats hop
    split at h
    · rename_i g' first cap us hf hus
      split at h
      · rename_i hc
        simp only [Bool.and_eq_true, Array.isEmpty_iff] at hc
        obtain ⟨rfl, rfl⟩ := hc
        cases h
        have h1 := evS_eval hr hf
        rw [den] at h1
        have h2 : args.map a.eval = (denL σ vs).toArray := by apply Array.toList_inj.1; rw [Array.toList_map, evsS_eval hr hus]
        unfold execOp
        simp [hop, resolve, h1, h2, Deferred.ofValue, invoke, run_callFunc hb]
      · cases h
    · rename_i g' cs us hf hus
      cases h
      have h1 := evS_eval hr hf
      rw [den] at h1
      have h2 : args.map a.eval = (denL σ us).toArray := by apply Array.toList_inj.1; rw [Array.toList_map, evsS_eval hr hus]
      unfold execOp
      simp [hop, resolve, h1, h2, Deferred.ofValue, invoke, run_callFunc hb, denL_append]
    · cases h
  · rename_i r name args ats hop
    split at h
    · rename_i t v us hf hus
      obtain ⟨g', hg, h2⟩ := Option.map_eq_some_iff.1 h
      cases h2
      have h1 := evS_eval hr hf
      rw [den] at h1
      have h2 : args.map a.eval = (denL σ us).toArray := by apply Array.toList_inj.1; rw [Array.toList_map, evsS_eval hr hus]
      have hdep : 0 < Made.depth := by decide
      obtain ⟨k, hk⟩ : ∃ k, C.P.types.size + Made.depth = k + 1 := ⟨C.P.types.size + Made.depth - 1, by omega⟩
      have hm := method_run hg k (den σ v) w
      unfold execOp
      simp [hop, resolve, h1, h2, invoke, callMethod, Sem.run, program, hk, hm, run_callFunc hb, denL]
      exact List.take_of_length_le (by simp)
    · cases h
  · cases h
def stepS (P : Program) (rec : Rec) (E : SE) (H : SH) (o : Oper) (T : Th) : Ans (SV × SH × Th) :=
  match findCall P E o with
  | some (g, vs) => if hasBody P g then callS P rec g vs H T else opStepT P rec.glob E H o T
  | none => opStepT P rec.glob E H o T
theorem stepS_ok {P : Program} {rec : Rec} (hrec : RecOk P rec) {E : SE} {H H2 : SH} {o : Oper} {T T2 : Th} {v : SV} (h : stepS P rec E H o T = .ok (v, H2, T2)) (hT : AllP T2.obl) : AllP T.obl ∧ ∀ C, Fit P rec.base C → OpOk C E H o v H2 := by
  unfold stepS at h
  split at h
  · rename_i g vs hc
    split at h
    · rename_i hb
      obtain ⟨hT0, hk⟩ := callS_ok hrec h hT
      refine ⟨hT0, fun C hC σ a w M hr hs => ?_⟩
      obtain rfl := hC.prog
      rw [findCall_run hr hc hb w]
      exact hk.2 C hC σ w M hs
    · exact opStepT_ok hrec.2.2.2 h hT
  · exact opStepT_ok hrec.2.2.2 h hT
end Go.Proofs.YtonmkjcilepdcaaGreatDoor
end
